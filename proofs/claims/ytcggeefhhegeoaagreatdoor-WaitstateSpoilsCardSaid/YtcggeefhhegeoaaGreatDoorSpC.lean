import Derived.Test.YtcggeefhhegeoaaGreatDoorDoI
import Derived.Test.YtcggeefhhegeoaaGreatDoorTabB
import Derived.Test.YtcggeefhhegeoaaGreatDoorWsJ
import Derived.Test.YtcggeefhhegeoaaGreatDoorTabF
namespace Go.Proofs.YtcggeefhhegeoaaGreatDoor
namespace Ab
set_option linter.unusedVariables false
set_option linter.unusedSimpArgs false
theorem zcb6 (l:bA) (n:ByteArray):∃ r,zA5 l n=some r:=by
 unfold zA5
 obtain ⟨b,h1,h2⟩:=zah7 l
 rw [h1,Option.bind_some]
 cases b with
 | false=>exact ⟨_,rfl⟩
 | true =>
 have hp:=h2 rfl
 have hle:=hp.le; have hls:=hp.ls
 simp only [cL,bV,cD]
 rw [gdp (by omega)]
 have inner:∀ (v:Int×bA) (x:bA),x.bG.length=l.bG.length→∃ y,zc0 (zaj7 l v) (0,x)=some y∧y.aQ=x.aQ∧y.bG.length=l.bG.length:=fun v x hx =>
  zw0 (body:=zaj7 l v) (fun g=>∃ k:Nat,g.1=k∧k≤l.bG.length∧g.2.aQ=x.aQ∧g.2.bG.length=l.bG.length) (fun g=>l.bG.length - g.1.toNat) (fun y=>y.aQ=x.aQ∧y.bG.length=l.bG.length)
   (fun g ⟨k,hk,hkl,he,hs⟩=>by
    obtain ⟨g1,y⟩:=g
    simp only at hk he hs
    subst hk
    unfold zaj7
    by_cases c:k < l.bG.length
    ·left
     have h3:0≤(k:Int)∧(k:Int) < (l.bG.length:Int):=by omega
     simp only [hs,h3.1,h3.2,cW,zo2,cF,cE,Int.toNat_natCast,zd0 k (show k < 4611686018427387904 by omega)]
     split
     ·exact ⟨_,rfl,⟨k+1,rfl,c,he,by simp only [dJ]; exact hs⟩,by simp only [Int.toNat_natCast]; omega⟩
     ·exact ⟨_,rfl,⟨k+1,rfl,c,he,hs⟩,by simp only [Int.toNat_natCast]; omega⟩
    ·right
     simp only [hs,show ¬ (k:Int) < (l.bG.length:Int) by omega,cK,bV,cD]
     exact ⟨_,rfl,he,hs⟩) (0,x) ⟨0,rfl,by omega,rfl,hx⟩
 obtain ⟨x,h3,_⟩:=zw0 (body:=zaa6 l n) (fun g=>∃ k:Nat,g.1=k∧k≤l.aQ.length∧g.2.aQ.length≤k∧g.2.bG.length=l.bG.length) (fun g=>l.aQ.length - g.1.toNat) (fun _=>True)
  (fun g ⟨k,hk,hkl,he,hs⟩=>by
   obtain ⟨g1,y⟩:=g
   simp only at hk he hs
   subst hk
   unfold zaa6
   by_cases c:k < l.aQ.length
   ·left
    have h3:0≤(k:Int)∧(k:Int) < (l.aQ.length:Int):=by omega
    have h5:y.aQ.length+1≤4294967296:=by omega
    simp only [h3.1,h3.2,h5,cW,zo2,cF,cE,Int.toNat_natCast,zd0 k (show k < 4611686018427387904 by omega)]
    split
    ·exact ⟨_,rfl,⟨k+1,rfl,c,by simp only [cA,List.length_singleton]; omega,hs⟩,by simp only [Int.toNat_natCast]; omega⟩
    ·obtain ⟨z,e1,e2,e3⟩:=inner ((k:Int),y) y hs
     rw [e1,Option.bind_some]
     unfold zaI9
     exact ⟨_,by rw [zd0 k (by omega)],⟨k+1,rfl,c,by simp only [e2]; omega,e3⟩,by simp only [Int.toNat_natCast]; omega⟩
   ·right
    simp only [show ¬ (k:Int) < (l.aQ.length:Int) by omega,cK,bV,cD]
    exact ⟨_,rfl,trivial⟩) (0,⟨[],l.bG⟩) ⟨0,rfl,by omega,by simp,rfl⟩
 rw [h3,Option.bind_some]
 unfold zaI8
 split <;> exact ⟨_,rfl⟩
theorem zcz1 {i:Nat} {c:bD} (h:CenP c) (hi:i < c.aD.length) (nm:ByteArray):∃ x,zG3 (i:Int) nm ⟨c,[]⟩=some x:=by
 have g:=h.good []
 have hp:=h.each _ (zn0 (z:=aG.zero) hi)
 unfold zG3
 show ∃ x,gd (0≤(i:Int)∧(i:Int) < ((c.aD.length:Nat):Int)) (if (c.aD.getD (i:Int).toNat aG.zero).bI=true then _ else _)=some x
 have h3:0≤(i:Int)∧(i:Int) < ((c.aD.length:Nat):Int):=by omega
 rw [gdp h3]
 simp only [Int.toNat_natCast]
 cases hw:(c.aD.getD i aG.zero).bI with
 | true=>rw [bY rfl]; exact ⟨_,rfl⟩
 | false =>
 rw [bW (by decide),gdp h3,zae0 _ _ (by have:=hp.led.le; omega),Option.bind_some]
 split
 ·exact ⟨_,rfl⟩
 obtain ⟨c1,c2⟩:=zcW3 h.t (c.aD.getD i aG.zero).aP (⟨nm,aM.zero.aK⟩:aM)
 rw [gdp h3,zaP1,Option.bind_some,zbb7 _ _ _ (by simp only [List.length_nil]; omega),Option.bind_some]
 obtain ⟨r,d1⟩:=zcb6 (c.aD.getD i aG.zero).bK nm
 simp only
 rw [gdp h3,d1,Option.bind_some,gdp h3]
 have hn:=fun (t:List aB) (ev:List bL) (y:aG)=>zar2 (i:=i) (w:=⟨⟨c.now,t,c.aD.set i y⟩,ev⟩) (by show i < (c.aD.set i y).length; rw [dJ]; exact hi)
 rw [hn,Option.bind_some]
 simp only [zw3 _ _ _ _ hi,fZ]
 obtain ⟨w',s1⟩:=zbu3 (w:=⟨⟨c.now,(zad9 c.aF (c.aD.getD i aG.zero).aP (⟨nm,aM.zero.aK⟩:aM)).1,c.aD.set i { { c.aD.getD i aG.zero with bK:=r.1 } with gen:=zo7 (c.aD.getD i aG.zero).gen }⟩,[]++(zad9 c.aF (c.aD.getD i aG.zero).aP (⟨nm,aM.zero.aK⟩:aM)).2.1⟩) (by
  have hl':(c.aD.set i { { c.aD.getD i aG.zero with bK:=r.1 } with gen:=zo7 (c.aD.getD i aG.zero).gen }).length≤8:=by rw [dJ]; exact h.len
  rcases c2 with c2|c2
  ·refine .inr ⟨c2,hl',fun y hy hwy=>?_⟩
   rcases gS hy with hy|rfl
   ·exact (g.ok y hy hwy).e
   ·have:(c.aD.getD i aG.zero).bI=true:=hwy
    rw [hw] at this; cases this
  ·refine .inl ⟨g.upd (w:=⟨c,[]⟩) hi c2 (y:={ { c.aD.getD i aG.zero with bK:=r.1 } with gen:=zo7 (c.aD.getD i aG.zero).gen }) rfl (fun hwy=>?_) _ _,eJ (zbF0 hl') (by simp only [cA,List.length_nil]; omega)⟩
   have:(c.aD.getD i aG.zero).bI=true:=hwy
   rw [hw] at this; cases this)
 rw [s1]; exact ⟨_,rfl⟩
theorem zcb7 {l:bA} (hl:LedgerP l) (label:Int):∃ r,zz2 l label=some r∧(r.2.2=0→∃ k:Nat,k≤l.aQ.length∧∀ a ∈ r.2.1,(∃ e ∈ l.aQ,e.name=a.name)∧a.aK=zy2 (l.aQ.take k) a.name)∧r.2.1.length≤72:=by
 have hle:=hl.le; have hls:=hl.ls
 have k1:∀ (at_:Nat) (sv:Nat),at_≤l.aQ.length→sv≤l.bG.length→∃ r,zaa7 l ((at_:Int),(sv:Int))=some r∧(r.2.2=0→∃ k:Nat,k≤l.aQ.length∧∀ a ∈ r.2.1,(∃ e ∈ l.aQ,e.name=a.name)∧a.aK=zy2 (l.aQ.take k) a.name)∧r.2.1.length≤72:=by
  intro at_ sv ha hs
  unfold zaa7
  simp only [Int.toNat_natCast]
  rw [gdp (by omega),gdp (by simp only [dG]; omega),gdp (by omega),gdp (by simp only [dG]; omega),gdp (by omega)]
  obtain ⟨ns,n1,n2,n3⟩:=zaP3 (l.aQ.drop at_) (by simp only [dS]; omega)
  rw [n1,Option.bind_some]
  have hnl:ns.length≤72:=by rw [dS] at n2; omega
  have key:=zbn5 ns (⟨#[]⟩:ByteArray) (fun n=>some (⟨n,zy2 (l.aQ.take at_) n⟩:aM)) (body:=zaj8 l ((at_:Int),(sv:Int)) ns) (by omega) (fun i s hi hs'=>by
   unfold zaj8
   have h3:0≤(i:Int)∧(i:Int) < (ns.length:Int):=by omega
   have h5:s.length+1≤4294967296:=by omega
   simp only [h3.1,h3.2,h5,cW,zo2,cF,cE,Int.toNat_natCast,zd0 i (show i < 4611686018427387904 by omega)]
   rw [zae0 _ _ (by simp only [dG]; omega)]
   rfl) (fun s=>by unfold zaj8; simp)
  rw [key,Option.bind_some]
  refine ⟨_,rfl,fun _=>⟨at_,ha,fun a hm=>?_⟩,?_⟩
  ·obtain ⟨n,hn,e⟩:=fL.1 (show a ∈ ns.filterMap _ from hm)
   cases e
   obtain ⟨en,he,hen⟩:=(n3 n).1 hn
   exact ⟨⟨en,gD he,hen⟩,rfl⟩
  ·have:=fY (fun n=>some (⟨n,zy2 (l.aQ.take at_) n⟩:aM)) ns
   show (ns.filterMap _).length≤72
   omega
 unfold zz2
 obtain ⟨b,h1,_⟩:=zah7 l
 rw [h1,Option.bind_some]
 cases b with
 | false=>exact ⟨_,rfl,(fun h=>nomatch h),by simp⟩
 | true =>
 simp only [cL,bV,cD]
 by_cases c:label=0
 ·rw [bW (by simp [c])]
  exact k1 0 0 (by omega) (by omega)
 ·rw [bY (by simp [c])]
  obtain ⟨v,f1,f2⟩:=zbE7 l.bG label (by omega)
  rw [f1,Option.bind_some]
  rcases f2 with rfl|⟨f2,f3⟩
  ·exact ⟨_,rfl,(fun h=>nomatch h),by simp⟩
  ·rw [bW (by simp; omega),gdp ⟨f2,f3⟩]
   have hs:=hl.at_ _ (zn0 (z:=bU.zero) (show v.toNat < l.bG.length by omega))
   have e1:(l.bG.getD v.toNat bU.zero).at_=(((l.bG.getD v.toNat bU.zero).at_.toNat:Nat):Int):=by omega
   have e2:IntKind.i64.wrap (v+1)=((v.toNat+1:Nat):Int):=by rw [zd2 (by omega) (by omega)]; omega
   rw [e2,e1]
   exact k1 _ _ (by omega) (by omega)
def Back (x:aG) (t t':List aB) (k:Nat):Prop:=∀ j,j < t.length→(zE3 (t'.getD j aB.zero) x.aP).2=false ∧
 (getH (t'.getD j aB.zero).aS x.aP=zy2 x.bK.aQ (t.getD j aB.zero).aA.name∨getH (t'.getD j aB.zero).aS x.aP=zy2 (x.bK.aQ.take k) (t.getD j aB.zero).aA.name)
theorem zcb8 {c:bD} (h:CenP c) {i:Nat} (hi:i < c.aD.length) {v:bA×List aM×Int} (hv:v.2.1.length≤72) {k:Nat} (hk:k≤(c.aD.getD i aG.zero).bK.aQ.length)
  (ha:∀ a ∈ v.2.1,(∃ e ∈ (c.aD.getD i aG.zero).bK.aQ,e.name=a.name)∧a.aK=zy2 ((c.aD.getD i aG.zero).bK.aQ.take k) a.name)
  {j1:aZ} (hj:(j1.c.aD.getD i aG.zero).aP=(c.aD.getD i aG.zero).aP) (hl1:j1.c.aD.length=c.aD.length) {w:aZ} (hK:Kept (c.aD.getD i aG.zero).aP c.aF w.c.aF) (hB:Back (c.aD.getD i aG.zero) c.aF w.c.aF k) (hev:w.ev.length≤1000) :
  ∃ w',zc0 (zF0 (i:Int) v j1) (0,w)=some w'∧Kept (c.aD.getD i aG.zero).aP c.aF w'.c.aF∧w'.c.aD=w.c.aD∧w'.ev.length≤w.ev.length+1440:=by
 have hp:=h.each _ (zn0 (z:=aG.zero) hi)
 obtain ⟨x,h1,h2⟩:=zw0 (body:=zF0 (i:Int) v j1) (fun z=>(∃ m:Nat,z.1=m∧m≤v.2.1.length∧z.2.ev.length≤w.ev.length+20 * m)∧z.2.c.aD=w.c.aD∧Kept (c.aD.getD i aG.zero).aP c.aF z.2.c.aF∧Back (c.aD.getD i aG.zero) c.aF z.2.c.aF k) (fun z=>v.2.1.length - z.1.toNat)
  (fun x=>Kept (c.aD.getD i aG.zero).aP c.aF x.c.aF∧x.c.aD=w.c.aD∧x.ev.length≤w.ev.length+1440)
  (fun z ⟨⟨m,hm,hml,he⟩,hpz,hKz,hBz⟩=>by
   obtain ⟨z1,w1⟩:=z
   simp only at hm he hpz hKz hBz
   subst hm
   unfold zF0
   by_cases cm:m < v.2.1.length
   ·left
    have h3:0≤(m:Int)∧(m:Int) < (v.2.1.length:Int):=by omega
    have hlq:=hKz.v.lens'.1
    simp only [h3.1,h3.2,cW,zo2,cF,cE,Int.toNat_natCast,zd0 m (show m < 4611686018427387904 by omega)]
    obtain ⟨⟨en,he1,he2⟩,hamt⟩:=ha _ (zn0 (z:=aM.zero) cm)
    have hnz:=zcH9 hp.led he1
    rw [he2] at hnz
    obtain ⟨q,hq,hqn,hqf⟩:=hp.held _ hnz
    obtain ⟨j,hj1,hj2⟩:=zbY7 ⟨q,hq,hqn⟩
    have hjq:c.aF.getD j aB.zero=q:=h.t.inj (zn0 hj1) hq (hj2.trans hqn.symm)
    have hj':j < w1.c.aF.length:=by rw [hKz.len]; exact hj1
    have hfd:=hKz.find h.t hj1
    rw [hj2] at hfd
    have h6:=zaS2 hKz.v.lens hj'
    rw [zW5 _ _ (by omega),Option.bind_some,hfd,gdp (by omega)]
    simp only [Int.toNat_natCast,hj]
    rw [zI5 _ _ (by omega),Option.bind_some]
    split
    ·rename_i hne
     have hne':¬ getH (w1.c.aF.getD j aB.zero).aS (c.aD.getD i aG.zero).aP=(v.2.1.getD m aM.zero).aK:=by simpa [-List.getD_eq_getElem?_getD] using hne
     have hBj:=hBz j hj1
     have hres:=hKz.res j hj1
     have hfull:getH (w1.c.aF.getD j aB.zero).aS (c.aD.getD i aG.zero).aP=zy2 (c.aD.getD i aG.zero).bK.aQ (v.2.1.getD m aM.zero).name:=by
      rcases hBj.2 with e|e
      ·rw [e,hj2]
      ·rw [hj2,← hamt] at e; exact absurd e hne'
     have hcv:covA (w1.c.aF.getD j aB.zero).aA (getH (w1.c.aF.getD j aB.zero).aS (c.aD.getD i aG.zero).aP) (v.2.1.getD m aM.zero).aK=true:=by
      rw [hfull,hamt,hres,hjq]
      exact zch5 hp.led hqf ((c.aD.getD i aG.zero).bK.aQ.length - k) k (by omega)
     obtain ⟨q2,ev,r1,r2,r3,r4,r5,r6⟩:=zch4 hKz.v hj' (p:=(c.aD.getD i aG.zero).aP) (a:=(v.2.1.getD m aM.zero).aK) (by rw [hfull]; exact hnz) hBj.1 hcv
     have hatom:(⟨(w1.c.aF.getD j aB.zero).aA.name,(v.2.1.getD m aM.zero).aK⟩:aM)=v.2.1.getD m aM.zero:=by rw [hres,hj2]
     rw [hatom] at r1
     rw [zaP1,Option.bind_some,r1,zbb7 _ _ _ (by simp only; omega),Option.bind_some]
     refine ⟨_,rfl,⟨⟨m+1,rfl,cm,by simp only [cA]; omega⟩,hpz,hKz.trans r3,fun j2 hj3=>?_⟩,by simp only [Int.toNat_natCast]; omega⟩
     by_cases e:j=j2
     ·subst e
      show (zE3 ((w1.c.aF.set j q2).getD j aB.zero) _).2=false∧_
      rw [zw3 _ _ _ _ hj']
      exact ⟨r5,.inr (by rw [r4,hamt,hj2])⟩
     ·show (zE3 ((w1.c.aF.set j q2).getD j2 aB.zero) _).2=false∧(getH ((w1.c.aF.set j q2).getD j2 aB.zero).aS _=_∨getH ((w1.c.aF.set j q2).getD j2 aB.zero).aS _=_)
      rw [zbb6 _ _ _ _ _ e]
      exact hBz j2 hj3
    ·exact ⟨_,rfl,⟨⟨m+1,rfl,cm,by simp only; omega⟩,hpz,hKz,hBz⟩,by simp only [Int.toNat_natCast]; omega⟩
   ·right
    simp only [show ¬ (m:Int) < (v.2.1.length:Int) by omega,cK,bV,cD]
    exact ⟨_,rfl,hKz,hpz,by omega⟩) (0,w) ⟨⟨0,rfl,by omega,by simp⟩,rfl,hK,hB⟩
 exact ⟨x,h1,h2⟩
theorem zco0 {i:Nat} {c:bD} (h:CenP c) (hi:i < c.aD.length) (label:Int):∃ x,zB5 (i:Int) label ⟨c,[]⟩=some x:=by
 have g:=h.good []
 have hp:=h.each _ (zn0 (z:=aG.zero) hi)
 have h3:0≤(i:Int)∧(i:Int) < ((c.aD.length:Nat):Int):=by omega
 unfold zB5
 show ∃ x,gd (0≤(i:Int)∧(i:Int) < ((c.aD.length:Nat):Int)) ((zz2 (c.aD.getD (i:Int).toNat aG.zero).bK label).bind _)=some x
 rw [gdp h3]
 simp only [Int.toNat_natCast]
 obtain ⟨v,u1,u2,u3⟩:=zcb7 hp.led label
 rw [u1,Option.bind_some]
 by_cases c0:v.2.2=0
 ·rw [bW (by simp [c0]),gdp h3]
  obtain ⟨k,hk,hka⟩:=u2 c0
  have fin:∀ (j1:aZ),j1.c.aD.length=c.aD.length→(j1.c.aD.getD i aG.zero).aP=(c.aD.getD i aG.zero).aP→(j1.c.aD.getD i aG.zero).bI=false→j1.ev.length≤320→Kept (c.aD.getD i aG.zero).aP c.aF j1.c.aF→Back (c.aD.getD i aG.zero) c.aF j1.c.aF k →
    (∀ t' (y:aG) (ev:List bL),Kept (c.aD.getD i aG.zero).aP c.aF t'→y.aP=(c.aD.getD i aG.zero).aP→y.bI=false→Good ⟨⟨j1.c.now,t',j1.c.aD.set i y⟩,ev⟩)→∃ x,zB4 (i:Int) v j1=some x:=by
   intro j1 hl1 hpr hw1 hev hK hB hG
   unfold zB4
   have hi1:i < j1.c.aD.length:=by omega
   rw [gdp (by omega),gdp (by omega)]
   simp only [Int.toNat_natCast]
   obtain ⟨w',l1,l2,l3,l4⟩:=zcb8 h hi u3 hk hka hpr hl1 (w:=⟨⟨j1.c.now,j1.c.aF,j1.c.aD.set i { j1.c.aD.getD i aG.zero with bK:=v.1 }⟩,j1.ev⟩) hK hB (by simp only; omega)
   rw [l1,Option.bind_some]
   unfold zM1
   have hi2:i < w'.c.aD.length:=by rw [l3,dJ]; exact hi1
   rw [zar2 hi2,Option.bind_some]
   obtain ⟨w2,s1⟩:=zbu3 (w:=⟨⟨w'.c.now,w'.c.aF,w'.c.aD.set i { w'.c.aD.getD i aG.zero with gen:=zo7 (w'.c.aD.getD i aG.zero).gen }⟩,w'.ev⟩) (.inl (by
    have e:w'.c.aD.set i { w'.c.aD.getD i aG.zero with gen:=zo7 (w'.c.aD.getD i aG.zero).gen }=j1.c.aD.set i { { j1.c.aD.getD i aG.zero with bK:=v.1 } with gen:=zo7 (j1.c.aD.getD i aG.zero).gen }:=by
     rw [l3]; simp only [zw3 _ _ _ _ hi1,fZ]
    rw [e]
    have gg:=hG w'.c.aF { { j1.c.aD.getD i aG.zero with bK:=v.1 } with gen:=zo7 (j1.c.aD.getD i aG.zero).gen } w'.ev l2 hpr hw1
    refine ⟨⟨gg.v,gg.len,gg.nd,gg.ok⟩,eJ (zbF0 gg.len) ?_⟩
    simp only at l4 ⊢
    omega))
   rw [s1]; exact ⟨_,rfl⟩
  show ∃ x,(if (c.aD.getD i aG.zero).bI=true then _ else _)=some x
  rcases hb (c.aD.getD i aG.zero).bI with hw|hw
  case inr =>
   rw [bW (by rw [hw]; decide)]
   refine fin ⟨c,[]⟩ rfl rfl hw (by simp) (zaL7 h.t) (fun j hj=>?_) (fun t' y ev k1 k2 k3=>g.upd (w:=⟨c,[]⟩) hi k1 k2 (fun hh=>by rw [k3] at hh; cases hh) _ _)
   have:=hp.run hw _ (zn0 (z:=aB.zero) (show j < c.aF.length from hj))
   exact ⟨this.2,.inl this.1⟩
  case inl =>
   rw [bY hw]
   obtain ⟨t',ev,L,w1,w2,w3,w4,w5⟩:=zbz4 (w:=⟨c,[]⟩) g hi hw (eJ (zbF0 g.len) (by simp))
   rw [w1,Option.bind_some]
   have hgi:(c.aD.set i (zZ6 (c.aD.getD i aG.zero))).getD i aG.zero=zZ6 (c.aD.getD i aG.zero):=zw3 _ _ _ _ hi
   refine fin _ (by simp) (by show ((c.aD.set i _).getD i aG.zero).aP=_; rw [hgi]; rfl) (by show ((c.aD.set i _).getD i aG.zero).bI=false; rw [hgi]; rfl) (by simp only [List.nil_append]; exact w2) w3 (fun j hj=>?_) (fun t2 y ev2 k1 k2 k3=>?_)
   ·rcases w5 j hj with h5|⟨h5,h6⟩
    ·exact ⟨h5.2,.inl h5.1⟩
    ·obtain ⟨_,hpp⟩:=hp.wait hw
     have hpq:=(hpp L true w4).2 _ (zn0 (z:=aB.zero) (show j < c.aF.length from hj))
     rcases hpq with ⟨a,ha,hn,_⟩|⟨h7,h8⟩
     ·exact absurd hn (h6 a ha)
     ·show (zE3 (t'.getD j aB.zero) _).2=false∧(getH (t'.getD j aB.zero).aS _=_∨_)
      rw [show t'.getD j aB.zero=c.aF.getD j aB.zero from h5]
      exact ⟨h8,.inl h7⟩
   ·have:=g.upd (w:=⟨c,[]⟩) hi k1 k2 (fun hh=>by rw [k3] at hh; cases hh) c.now ev2
    show Good ⟨⟨c.now,t2,(c.aD.set i _).set i y⟩,ev2⟩
    rw [fZ]; exact this
 ·rw [bY (by simp [c0])]
  exact ⟨_,rfl⟩
theorem zcb9 (l:bA) (n:Int) (hl:l.bG.length≤1000) (he:l.aQ.length≤1000):∃ r,zz1 l n=some r:=by
 unfold zz1
 obtain ⟨b,h1,_⟩:=zah7 l
 rw [h1,Option.bind_some]
 split
 ·exact ⟨_,rfl⟩
 split
 ·exact ⟨_,rfl⟩
 obtain ⟨v,f1,_⟩:=zbE7 l.bG n (by omega)
 rw [f1,Option.bind_some]
 split
 ·exact ⟨_,rfl⟩
 split
 ·exact ⟨_,rfl⟩
 rw [gdp (by omega),gdp (by omega),gdp (by omega)]
 exact ⟨_,rfl⟩
theorem zdC4 {c:bD} (h:CenP c) (k:bQ):∃ x,zM2 k ⟨c,[]⟩=some x:=by
 have g:=h.good []
 have hbud:bud ⟨c,[]⟩≤400000:=eJ (zbF0 g.len) (by simp)
 have b1:∀ {α β:Type} {o:Option α} {f:α→β},(∃ x,o=some x)→∃ x,(o.bind fun v=>some (f v))=some x:=fun {α β o f} ⟨x,hx⟩=>⟨f x,by rw [hx]; rfl⟩
 unfold zM2
 by_cases k0:((decide (k.kind < 1))||(decide (9 < k.kind)))=true
 ·rw [bY k0]; exact ⟨_,rfl⟩
 rw [bW k0]
 by_cases k1:k.kind=1
 ·rw [bY (cS k1)]; exact b1 (zdl2 _ _ g.len)
 rw [bW (by simpa using k1)]
 by_cases k9:k.kind=9
 ·rw [bY (cS k9)]; exact b1 (zdl1 _ g hbud)
 rw [bW (by simpa using k9)]
 obtain ⟨v,i1,i2⟩:=zaP5 c.aD k.aP (by have:=h.len; omega)
 show ∃ x,(zj0 c.aD k.aP).bind _=some x
 rw [i1,Option.bind_some]
 rcases i2 with ⟨rfl,_⟩|⟨i,rfl,hi,_⟩
 ·exact ⟨_,rfl⟩
 have hp:=h.each _ (zn0 (z:=aG.zero) hi)
 have h3:0≤(i:Int)∧(i:Int) < ((c.aD.length:Nat):Int):=by omega
 rw [bW (by simp)]
 show ∃ x,gd (0≤(i:Int)∧(i:Int) < ((c.aD.length:Nat):Int)) _=some x
 rw [gdp h3]
 simp only [Int.toNat_natCast]
 by_cases k2:k.kind=2
 ·rw [bY (cS k2)]
  exact b1 (zcz0 h hi _)
 rw [bW (by simpa using k2)]
 by_cases k3:k.kind=3
 ·rw [bY (cS k3)]
  rcases hb (c.aD.getD i aG.zero).bI with hw|hw
  case inr=>rw [bY (by show (!(c.aD.getD i aG.zero).bI)=true; rw [hw]; rfl)]; exact ⟨_,rfl⟩
  case inl =>
   rw [bW (by show ¬ (!(c.aD.getD i aG.zero).bI)=true; rw [hw]; decide)]
   obtain ⟨w1,w2,r1,r2,r3,_,_,r6⟩:=zbq5 (w:=⟨c,[]⟩) g hi hw (by omega)
   rw [r1,Option.bind_some,r2,Option.bind_some]
   obtain ⟨w3,s1,_⟩:=zbb9 r3 (by omega)
   show ∃ x,(zm3 w2).bind _=some x
   rw [s1]; exact ⟨_,rfl⟩
 rw [bW (by simpa using k3)]
 by_cases k4:k.kind=4
 ·rw [bY (cS k4)]
  exact b1 (zcz1 h hi _)
 rw [bW (by simpa using k4)]
 by_cases k5:k.kind=5
 ·rw [bY (cS k5)]
  rcases hb (c.aD.getD i aG.zero).bI with hw|hw
  case inl=>rw [bY (by exact hw)]; exact ⟨_,rfl⟩
  case inr =>
   rw [bW (by show ¬ (c.aD.getD i aG.zero).bI=true; rw [hw]; decide),gdp h3]
   obtain ⟨r,s1⟩:=zcb9 (c.aD.getD i aG.zero).bK k.n (by have:=hp.led.ls; omega) (by have:=hp.led.le; omega)
   rw [s1,Option.bind_some]
   split
   ·exact ⟨_,rfl⟩
   ·rw [gdp h3]
    have hn:=fun (y:aG)=>zar2 (i:=i) (w:=⟨⟨c.now,c.aF,c.aD.set i y⟩,[]⟩) (by show i < (c.aD.set i y).length; rw [dJ]; exact hi)
    rw [hn]; exact ⟨_,rfl⟩
 rw [bW (by simpa using k5)]
 by_cases k6:k.kind=6
 ·rw [bY (cS k6)]
  exact b1 (zco0 h hi _)
 rw [bW (by simpa using k6)]
 by_cases k8:k.kind=8
 ·rw [bY (cS k8)]
  rcases hb (c.aD.getD i aG.zero).bI with hw|hw
  case inl=>rw [bY (by exact hw)]; exact ⟨_,rfl⟩
  case inr =>
   rw [bW (by show ¬ (c.aD.getD i aG.zero).bI=true; rw [hw]; decide)]
   exact b1 (zcy8 g hi hbud)
 rw [bW (by simpa using k8)]
 by_cases k7:k.kind=7
 ·rw [bY (cS k7)]
  exact b1 (zcy8 g hi hbud)
 ·rw [bW (by simpa using k7)]; exact ⟨_,rfl⟩
theorem zcz2 (c:bD) (k:bQ):∃ x,zav1 c k=some x:=by
 unfold zav1
 obtain ⟨b,h1,h2⟩:=zbk7 c
 rw [h1,Option.bind_some]
 cases b with
 | false=>exact ⟨_,rfl⟩
 | true =>
  have h:=h2 rfl
  rw [bW (by decide)]
  unfold zk2
  rw [gdp (by have:=h.t.len; omega),gdp (by have:=h.len; omega),Option.bind_some]
  obtain ⟨x,e⟩:=zdC4 h k
  show ∃ x,(zM2 k ⟨c,[]⟩).bind _=some x
  rw [e,Option.bind_some]
  split <;> exact ⟨_,rfl⟩
theorem zcz3 (c:bD) (l:List bQ) (hl:l.length≤100000):∃ x,zav2 c l=some x:=by
 unfold zav2
 obtain ⟨x,h1,_⟩:=zw0 (body:=zaE7 l) (fun g=>∃ k:Nat,g.1=k∧k≤l.length) (fun g=>l.length - g.1.toNat) (fun _=>True)
  (fun g ⟨k,hk,hkl⟩=>by
   obtain ⟨g1,y⟩:=g
   simp only at hk
   subst hk
   unfold zaE7
   by_cases c:k < l.length
   ·left
    have h3:0≤(k:Int)∧(k:Int) < (l.length:Int):=by omega
    obtain ⟨x,e⟩:=zcz2 y (l.getD k bQ.zero)
    simp only [h3.1,h3.2,cW,zo2,cF,cE,Int.toNat_natCast,zd0 k (show k < 4611686018427387904 by omega),e,Option.bind_some]
    split
    ·exact ⟨_,rfl,⟨k+1,rfl,c⟩,by simp only [Int.toNat_natCast]; omega⟩
    ·exact ⟨_,rfl,⟨k+1,rfl,c⟩,by simp only [Int.toNat_natCast]; omega⟩
   ·right
    simp only [show ¬ (k:Int) < (l.length:Int) by omega,cK,bV,cD]
    exact ⟨_,rfl,trivial⟩) (0,c) ⟨0,rfl,by omega⟩
 rw [h1]; exact ⟨_,rfl⟩
structure Adv (u u':bP):Prop where
 ok:TapeOk u'
 l:u'.l=u.l
 at_:u.at_≤u'.at_
theorem Adv.trans {a b c:bP} (h:Adv a b) (k:Adv b c):Adv a c:=⟨k.ok,k.l.trans h.l,Int.le_trans h.at_ k.at_⟩
theorem Adv.refl {a:bP} (h:TapeOk a):Adv a a:=⟨h,rfl,eH _⟩
theorem zbz5 {u:bP} (h:TapeOk u):Adv u (zS5 u):=⟨zaA7 h,zcM3 u,by
 unfold zS5
 split
 ·exact eH _
 ·show u.at_≤u.at_+1
  omega⟩
theorem zat2 {m:Int} (h1:1≤m) (h2:m≤1000000) {u:bP} (h:TapeOk u):∃ v u',zb8 m u=some (v,u')∧Adv u u'∧0≤v∧v < m:=by
 have:=zaH9 m u h1
 exact ⟨_,_,zba6 m u h h1 h2,zbz5 h,this.1,this.2⟩
theorem zcW5 {m:Int} (h1:1≤m) (h2:m≤1048576) {u:bP} (h:TapeOk u):∃ v u',zb8 m u=some (v,u')∧Adv u u':=by
 unfold zb8
 have hl:=h.len; have ha:=h.at_
 by_cases c:(u.l.length:Int)≤u.at_
 ·rw [bY (by simpa using c)]; exact ⟨_,_,rfl,Adv.refl h⟩
 ·rw [bW (by simpa using c)]
  have w1:IntKind.i64.wrap (u.at_+1)=u.at_+1:=zd2 (by omega) (by omega)
  have w2:IntKind.i64.wrap (u.at_+1 - 1)=u.at_:=by rw [zd2 (by omega) (by omega)]; omega
  simp only [w1,w2]
  rw [gdp (by omega)]
  have hm:∃ v,zn7 (u.l.getD u.at_.toNat 0) m=some v:=by
   unfold zn7
   rw [bW (by simp; omega),gdp (by omega)]
   split <;> exact ⟨_,rfl⟩
  obtain ⟨v,hv⟩:=hm
  rw [hv]
  exact ⟨_,_,rfl,⟨hl,by simp only; omega⟩,rfl,by simp only; omega⟩
theorem zch6 (atoms:List aM) (ha:1≤atoms.length) (hb:atoms.length≤1000):∀ (n:Nat) (d:Int),0≤d→d.toNat < n→d≤10→∀ u,TapeOk u→∃ e u',zU2 n atoms d u=some (e,u')∧Adv u u'
 | 0,_,_,h,_,_,_=>by omega
 | n+1,d,h0,hd,h10,u,hu=>by
  show ∃ e u',zaf6 (zU2 n) atoms d u=some (e,u')∧_
  unfold zaf6
  have first:∃ v u1,(if (!decide (d=0))=true then zb8 4 u else some (0,u))=some (v,u1)∧Adv u u1:=by
   split
   ·obtain ⟨v,u1,h1,h2,_⟩:=zat2 (m:=4) (by decide) (by decide) hu
    exact ⟨v,u1,h1,h2⟩
   ·exact ⟨0,u,rfl,Adv.refl hu⟩
  obtain ⟨v,u1,e1,a1⟩:=first
  rw [e1,Option.bind_some]
  by_cases c:((decide (d=0))||(decide (v=0)))=true
  ·rw [bY c]
   obtain ⟨v2,u2,e2,a2,r1,r2⟩:=zat2 (m:=(atoms.length:Int)) (by omega) (by omega) a1.ok
   rw [e2,Option.bind_some,gdp ⟨r1,r2⟩]
   exact ⟨_,_,rfl,a1.trans a2⟩
  ·rw [bW c]
   have hd1:1≤d:=by
    simp only [dY,cB,jQ] at c; omega
   obtain ⟨v3,u3,e3,a3,r1,r2⟩:=zat2 (m:=3) (by decide) (by decide) a1.ok
   rw [e3,Option.bind_some]
   have w3:IntKind.i64.wrap (1+v3)=1+v3:=zd2 (by omega) (by omega)
   simp only [w3]
   obtain ⟨v4,u4,e4,a4,r3,r4⟩:=zat2 (m:=1+v3) (by omega) (by omega) a3.ok
   rw [e4,Option.bind_some]
   have hA:=(a1.trans a3).trans a4
   obtain ⟨x,l1,l2⟩:=zw0 (body:=zal0 (zU2 n) atoms d (v3,u3)) (fun g=>∃ k:Nat,g.1=k∧k≤4∧Adv u g.2.1∧g.2.2.bE.length≤k) (fun g=>4 - g.1.toNat) (fun x=>Adv u x.1)
    (fun g ⟨k,hk,hk4,hA,hkl⟩=>by
     obtain ⟨g1,t,e⟩:=g
     simp only at hk hA hkl
     subst hk
     unfold zal0
     simp only [w3]
     by_cases ck:(k:Int) < 1+v3
     ·left
      rw [bY (by simpa using ck)]
      have wd:IntKind.i64.wrap (d - 1)=d - 1:=zd2 (by omega) (by omega)
      obtain ⟨e5,u5,e6,a6⟩:=zch6 atoms ha hb n (d - 1) (by omega) (by omega) (by omega) t hA.ok
      rw [wd,e6,Option.bind_some,gdp (by omega),zd0 k (by omega)]
      exact ⟨_,rfl,⟨k+1,rfl,by omega,hA.trans a6,by simp only [cA,List.length_singleton]; omega⟩,by simp only [Int.toNat_natCast]; omega⟩
     ·right
      rw [bW (by simpa using ck)]
      exact ⟨_,rfl,hA⟩) (0,u4,(⟨(IntKind.i64.wrap (1+v4)),(⟨aM.zero.name,(⟨aM.zero.aK.mode,aM.zero.aK.aT⟩:aC)⟩:aM),[]⟩:aN)) ⟨0,rfl,by omega,hA,by simp⟩
   rw [l1,Option.bind_some]
   exact ⟨_,_,rfl,l2⟩
theorem zdl7 (l:List aH) (hl:1≤l.length) (hl2:l.length≤10) (hs:∀ r ∈ l,zh0 r=true) {u:bP} (hu:TapeOk u):∃ e u',zu2 l u=some (e,u')∧Adv u u':=by
 unfold zu2
 obtain ⟨v1,u1,e1,a1⟩:=zcW5 (m:=1048576) (by decide) (by decide) hu
 rw [e1,Option.bind_some]
 obtain ⟨x,l1,l2⟩:=zw0 (body:=zap7 l (v1,u1)) (fun g=>∃ k:Nat,g.1=k∧k≤l.length∧g.2.length=k) (fun g=>l.length - g.1.toNat) (fun x=>x.length=l.length)
  (fun g ⟨k,hk,hkl,hg⟩=>by
   obtain ⟨g1,s⟩:=g
   simp only at hk hg
   subst hk
   unfold zap7
   by_cases c:k < l.length
   ·left
    have h3:0≤(k:Int)∧(k:Int) < (l.length:Int):=by omega
    have w1:IntKind.i64.wrap (3 * (k:Int))=3 * (k:Int):=zd2 (by omega) (by omega)
    have w2:0≤IntKind.u64.wrap (3 * (k:Int)):=by
     unfold IntKind.wrap
     simp only [IntKind.signed,eG,bV,cD]
     exact gZ _ (by decide)
    simp only [h3.1,h3.2,cW,zo2,cF,cE,Int.toNat_natCast,zd0 k (show k < 4611686018427387904 by omega),w1]
    rw [gdp w2,zbV3 _ _ (hs _ (zn0 c)),Option.bind_some,gdp (by omega)]
    exact ⟨_,rfl,⟨k+1,rfl,c,by simp only [cA,List.length_singleton]; omega⟩,by simp only [Int.toNat_natCast]; omega⟩
   ·right
    simp only [show ¬ (k:Int) < (l.length:Int) by omega,cK,bV,cD]
    exact ⟨_,rfl,by omega⟩) (0,[]) ⟨0,rfl,by omega,rfl⟩
 rw [l1,Option.bind_some]
 unfold zaC3 zr6
 obtain ⟨e,u2,e2,a2⟩:=zch6 x (by omega) (by omega) ((2:Int).toNat+1) 2 (by decide) (by decide) (by decide) u1 a1.ok
 rw [e2]
 exact ⟨_,_,rfl,a1.trans a2⟩
theorem zdl8 (l:List aH) (hl:1≤l.length) (hl2:l.length≤10) (hs:∀ r ∈ l,zh0 r=true) {u:bP} (hu:TapeOk u):∃ e u',zu9 l u=some (e,u')∧Adv u u':=by
 unfold zu9
 obtain ⟨v1,u1,e1,a1,_⟩:=zat2 (m:=8) (by decide) (by decide) hu
 obtain ⟨v2,u2,e2,a2,_⟩:=zat2 (m:=5) (by decide) (by decide) a1.ok
 rw [e1,Option.bind_some,e2,Option.bind_some]
 have k1:∀ (t:bP) (r:bO),Adv u t→∃ e u',zN0 l (t,r)=some (e,u')∧Adv u u':=fun t r ht=>by
  unfold zN0
  obtain ⟨e,u3,e3,a3⟩:=zdl7 l hl hl2 hs ht.ok
  rw [e3]; exact ⟨_,_,rfl,ht.trans a3⟩
 split
 ·obtain ⟨v3,u3,e3,a3,_⟩:=zat2 (m:=20) (by decide) (by decide) a2.ok
  rw [e3,Option.bind_some]
  exact k1 _ _ ((a1.trans a2).trans a3)
 ·exact k1 _ _ (a1.trans a2)
theorem zcz4 (l:List aH) (hl:1≤l.length) (hl2:l.length≤10) (hs:∀ r ∈ l,zh0 r=true) {u:bP} (hu:TapeOk u):∃ e u',zB3 l u=some (e,u')∧Adv (zS5 u) u':=by
 unfold zB3
 rw [zba6 16 u hu (by decide) (by decide),Option.bind_some]
 have a1:=zbz5 hu
 obtain ⟨v2,u2,e2,a2,_⟩:=zat2 (m:=6) (by decide) (by decide) a1.ok
 rw [e2,Option.bind_some,zba5,Option.bind_some]
 have nx:∀ (m:Int),1≤m→m≤1000000→∃ v u3,zb8 m u2=some (v,u3)∧Adv (zS5 u) u3∧0≤v∧v < m:=fun m h1 h2=>by
  obtain ⟨v,u3,e3,a3,r⟩:=zat2 h1 h2 a2.ok
  exact ⟨v,u3,e3,a2.trans a3,r⟩
 split
 ·obtain ⟨v,u3,e3,a3,_⟩:=nx 9 (by decide) (by decide)
  rw [e3]; exact ⟨_,_,rfl,a3⟩
 split
 ·obtain ⟨e,u3,e3,a3⟩:=zdl8 l hl hl2 hs a2.ok
  rw [e3]; exact ⟨_,_,rfl,a2.trans a3⟩
 split
 ·exact ⟨_,_,rfl,a2⟩
 split
 ·obtain ⟨v,u3,e3,a3,r1,r2⟩:=nx (l.length:Int) (by omega) (by omega)
  rw [e3,Option.bind_some,gdp ⟨r1,r2⟩]; exact ⟨_,_,rfl,a3⟩
 split
 ·obtain ⟨v,u3,e3,a3,_⟩:=nx 4 (by decide) (by decide)
  rw [e3]; exact ⟨_,_,rfl,a3⟩
 split
 ·obtain ⟨v,u3,e3,a3,_⟩:=nx 5 (by decide) (by decide)
  rw [e3]; exact ⟨_,_,rfl,a3⟩
 split
 ·exact ⟨_,_,rfl,a2⟩
 split
 ·exact ⟨_,_,rfl,a2⟩
 ·obtain ⟨v,u3,e3,a3,_⟩:=nx 12 (by decide) (by decide)
  rw [e3]; exact ⟨_,_,rfl,a3⟩
theorem zch7:∀ (n:Nat) {u:bP},TapeOk u→Adv u (zaX2 n u)
 | 0,u,h=>Adv.refl h
 | n+1,u,h=>by
  have:=zch7 n (zaA7 h)
  exact (zbz5 h).trans this
theorem zcI1 {l:List Int} (hl:l.length≤300):∃ r k,zR0 l=some (r,k)∧k.length≤1000:=by
 unfold zR0
 have h0:TapeOk { bP.zero with l:=l }:=⟨by simp only; omega,by show 0≤(0:Int)∧(0:Int)≤l.length; omega⟩
 rw [zcE7 _ h0,Option.bind_some]
 have hA:=zch7 8 h0
 have hsh:=zcv9 { bP.zero with l:=l }
 obtain ⟨x,l1,l2⟩:=zw0 (body:=zaq2) (fun g=>∃ k:Nat,g.1=k∧k≤4∧Adv { bP.zero with l:=l } g.2.1∧g.2.2.length≤k) (fun g=>4 - g.1.toNat) (fun x=>Adv { bP.zero with l:=l } x.1∧x.2.length≤4)
  (fun g ⟨k,hk,hk4,hA,hkl⟩=>by
   obtain ⟨g1,t,s⟩:=g
   simp only at hk hA hkl
   subst hk
   unfold zaq2
   by_cases ck:k < 4
   ·left
    rw [bY (by simp; omega),zba5,Option.bind_some]
    obtain ⟨v,u,e,a,_⟩:=zat2 (m:=9) (by decide) (by decide) hA.ok
    simp only [e,Option.bind_some]
    rw [gdp (by omega),zd0 k (by omega)]
    exact ⟨_,rfl,⟨k+1,rfl,by omega,hA.trans a,by simp only [cA,List.length_singleton]; omega⟩,by simp only [Int.toNat_natCast]; omega⟩
   ·right
    rw [bW (by simp; omega)]
    exact ⟨_,rfl,hA,by simp only; omega⟩) (0,zaX2 8 { bP.zero with l:=l },[]) ⟨0,rfl,by omega,hA,by simp⟩
 rw [l1,Option.bind_some]
 unfold zaq1
 obtain ⟨t0,s0⟩:=x
 simp only at l2
 obtain ⟨y,m1,m2⟩:=zw0 (body:=zaq0 (catL { bP.zero with l:=l },zaX2 8 { bP.zero with l:=l })) (fun g=>Adv { bP.zero with l:=l } g.1∧(g.2.length:Int)≤4+g.1.at_) (fun g=>l.length - g.1.at_.toNat) (fun y=>y.length≤1000)
  (fun g ⟨hA,hg⟩=>by
   obtain ⟨t,s⟩:=g
   simp only at hA hg
   have htl:t.l.length=l.length:=by rw [hA.l]
   have hta:=hA.ok.at_
   unfold zaq0 ze9
   rw [Option.bind_some]
   by_cases c:t.at_ < (t.l.length:Int)
   ·left
    rw [bY (by simpa using c)]
    obtain ⟨e,u,e1,a1⟩:=zcz4 (catL { bP.zero with l:=l }) (by unfold catL; simp) (by unfold catL; simp) hsh hA.ok
    simp only [e1,Option.bind_some]
    rw [gdp (by omega)]
    have hn:(zS5 t).at_=t.at_+1:=by unfold zS5; rw [bW (by omega)]
    have:=a1.at_
    rw [hn] at this
    have hul:=a1.ok.at_
    have:u.l.length=l.length:=by rw [a1.l,zcM3,htl]
    exact ⟨_,rfl,⟨(hA.trans (zbz5 hA.ok)).trans a1,by simp only [cA,List.length_singleton]; omega⟩,by simp only; omega⟩
   ·right
    rw [bW (by simpa using c)]
    exact ⟨_,rfl,by simp only; omega⟩) (t0,s0) ⟨l2.1,by have:=l2.2; have:=l2.1.ok.at_; simp only; omega⟩
 rw [m1,Option.bind_some]
 exact ⟨_,_,rfl,m2⟩
theorem zcz5 {l:List Int} (hl:l.length≤300):∃ c,zah2 l=some c:=by
 unfold zah2
 obtain ⟨r,k,h1,h2⟩:=zcI1 hl
 rw [h1,Option.bind_some]
 have hn:∃ v,zan2 r=some v:=by
  unfold zan2
  rw [zcn7,Option.bind_some]
  split <;> exact ⟨_,rfl⟩
 obtain ⟨v,h3⟩:=hn
 simp only [h3,Option.bind_some]
 obtain ⟨c,h4⟩:=zcz3 v.1 k (by omega)
 rw [h4]; exact ⟨_,rfl⟩
def zat3 (x:aG):Option bN:=if x.bI=true then some ⟨x.aP,x.bJ.bS,x.gen⟩ else none
theorem zbu4 {x:aG} {n:bN} (h:zat3 x=some n):x.bI=true∧n=⟨x.aP,x.bJ.bS,x.gen⟩:=by
 unfold zat3 at h
 split at h
 ·rename_i c; cases h; exact ⟨c,rfl⟩
 ·cases h
theorem zdv5 {p q:aJ} (h:ltP p q):cmpP p q < 0:=by rw [zbM1,bY h]; decide
theorem zcI2:zZ3 aL.zero=true:=by decide
theorem zdl9 {c:bD} (h:CenP c):zZ3 ⟨c.aF,c.aD.filterMap zat3⟩=true:=by
 have hfl:=fY zat3 c.aD
 have hl:=h.len
 have hmem:∀ n ∈ c.aD.filterMap zat3,∃ x ∈ c.aD,x.bI=true∧n=⟨x.aP,x.bJ.bS,x.gen⟩:=fun n hn=>by
  obtain ⟨x,hx,e⟩:=fL.1 hn
  exact ⟨x,hx,zbu4 e⟩
 have hpw:(c.aD.filterMap zat3).Pairwise fun a b=>ltP a.aP b.aP:=by
  rw [List.pairwise_filterMap]
  refine h.asc.imp fun {a b} hab n hn m hm=>?_
  rw [(zbu4 hn).2,(zbu4 hm).2]
  exact hab
 unfold zZ3
 simp only [bX,cB]
 refine ⟨⟨⟨(zaD9 _).2 ⟨h.t.len,h.t.each,h.t.asc⟩,by omega⟩,?_⟩,?_⟩
 ·unfold zaT4
  rw [eO]
  intro i hi
  rw [eR] at hi
  have gg:∀ k,(hk:k < (c.aD.filterMap zat3).length)→(c.aD.filterMap zat3).getD k bN.zero=(c.aD.filterMap zat3)[k]:=fun k hk=>by rw [bZ,cC hk]; rfl
  obtain ⟨x,hx,hw,e⟩:=hmem _ (zn0 (z:=bN.zero) hi)
  have hp:=h.each x hx
  unfold zby1
  have hord:(decide (i=0)||decide (cmpP ((c.aD.filterMap zat3).getD (i - 1) bN.zero).aP ((c.aD.filterMap zat3).getD i bN.zero).aP < 0))=true:=by
   by_cases c0:i=0
   ·simp [c0]
   ·have:=fH.1 hpw (i - 1) i (by omega) hi (by omega)
    rw [gg _ (by omega),gg _ hi,cS (zdv5 this),iL]
  rw [hord,e]
  simp only [hp.pv,(hp.wait hw).1,cN,eV,cB,bX]
  exact hp.gen
 ·unfold zbE2
  refine eJ (eP (zbm3 (zbm2 _)) (l₂:=c.aD.map (·.aP)) fun p hp=>?_) (by simpa using hl)
  rw [zaX0,cU] at hp
  rcases hp with hp|hp
  ·obtain ⟨x,hx,e⟩:=h.aD p hp
   exact cR.2 ⟨x,hx,e⟩
  ·obtain ⟨n,hn,e⟩:=cR.1 hp
   obtain ⟨x,hx,_,e2⟩:=hmem n hn
   exact cR.2 ⟨x,hx,by rw [← e,e2]⟩
theorem zcz6 (c:bD):∃ s,zan5 c=some s∧zZ3 s=true:=by
 unfold zan5
 obtain ⟨b,h1,h2⟩:=zbk7 c
 rw [h1,Option.bind_some]
 cases b with
 | false=>exact ⟨_,rfl,zcI2⟩
 | true =>
 have h:=h2 rfl
 have hl:=h.len; have hlq:=h.t.len
 rw [bW (by decide),gdp (by omega)]
 obtain ⟨x,l1,l2⟩:=zw0 (body:=zaE8 c) (fun g=>∃ k:Nat,g.1=k∧k≤c.aD.length∧g.2=⟨c.aF,(c.aD.take k).filterMap zat3⟩) (fun g=>c.aD.length - g.1.toNat) (fun x=>x=⟨c.aF,c.aD.filterMap zat3⟩)
  (fun g ⟨k,hk,hkl,hg⟩=>by
   obtain ⟨g1,s⟩:=g
   simp only at hk hg
   subst hk
   subst hg
   unfold zaE8
   by_cases cc:k < c.aD.length
   ·left
    have h3:0≤(k:Int)∧(k:Int) < (c.aD.length:Int):=by omega
    have hle:=fY zat3 (c.aD.take k)
    rw [dG] at hle
    simp only [h3.1,h3.2,cW,zo2,cF,cE,Int.toNat_natCast,zd0 k (show k < 4611686018427387904 by omega)]
    have e0:∀ x:aG,(c.aD.take k++[x]).filterMap zat3=(c.aD.take k).filterMap zat3++(match zat3 x with|some n=>[n]|none=>[]):=fun x=>by
     rw [List.filterMap_append]; simp only [List.filterMap_cons,List.filterMap_nil]; cases zat3 x <;> rfl
    rcases hb (c.aD.getD k aG.zero).bI with hw|hw
    ·rw [bY hw,gdp (by omega)]
     refine ⟨_,rfl,⟨k+1,rfl,cc,?_⟩,by simp only [Int.toNat_natCast]; omega⟩
     rw [zaj3 aG.zero cc,e0]
     unfold zat3
     rw [bY hw]
    ·rw [bW (by rw [hw]; decide)]
     refine ⟨_,rfl,⟨k+1,rfl,cc,?_⟩,by simp only [Int.toNat_natCast]; omega⟩
     rw [zaj3 aG.zero cc,e0]
     have:zat3 (c.aD.getD k aG.zero)=none:=by unfold zat3; rw [bW (by rw [hw]; decide)]
     rw [this,dX]
   ·right
    have e:k=c.aD.length:=by omega
    simp only [show ¬ (k:Int) < (c.aD.length:Int) by omega,cK,bV,cD]
    exact ⟨_,rfl,by rw [e,eK]⟩) (0,⟨c.aF,[]⟩) ⟨0,rfl,by omega,rfl⟩
 rw [l1,Option.bind_some]
 exact ⟨x,rfl,by rw [l2]; exact zdl9 h⟩
theorem zcW6 {l:List Int} (hl:l.length≤300):∃ s,zaq8 l=some s∧zZ3 s=true:=by
 unfold zaq8
 obtain ⟨c,h1⟩:=zcz5 hl
 rw [h1,Option.bind_some]
 obtain ⟨s,h2,h3⟩:=zcz6 c
 rw [h2]; exact ⟨s,rfl,h3⟩
theorem Bk.queue:Bk ze2 encQ:=fun d q d' h he=>by
 unfold ze2 at h
 obtain ⟨v1,h1,h⟩:=zc2 h
 obtain ⟨v2,h2,h⟩:=zc2 h
 obtain ⟨v3,h3,h⟩:=zc2 h
 obtain ⟨v4,h4,h⟩:=zc2 h
 obtain ⟨v5,h5,h⟩:=zc2 h
 obtain ⟨v6,h6,h⟩:=zc2 h
 obtain ⟨z3,k3,h⟩:=zc2 h
 unfold zw9 at h
 obtain ⟨v7,h7,h⟩:=zc2 h
 obtain ⟨z2,k2,h⟩:=zc2 h
 unfold zw8 at h
 obtain ⟨v8,h8,h⟩:=zc2 h
 obtain ⟨z1,k1,h⟩:=zc2 h
 unfold zG1 at h
 cases h
 have n1:∀ (n:Int) d q,¬ (0 < n∧d.bC.err=0)→zk4 (n,d,q)=some (.inr (d,q)):=fun n d q hh=>by
  unfold zk4; rw [bW (by simpa using hh)]
 have n2:∀ (n:Int) d q,¬ (0 < n∧d.bC.err=0)→zk5 (n,d,q)=some (.inr (d,q)):=fun n d q hh=>by
  unfold zk5; rw [bW (by simpa using hh)]
 have n3:∀ (n:Int) d q,¬ (0 < n∧d.bC.err=0)→zk6 (n,d,q)=some (.inr (d,q)):=fun n d q hh=>by
  unfold zk6; rw [bW (by simpa using hh)]
 have e8:=zbk2 n1 k1 he
 have f2:=(Bk.count (by decide) (by decide) h8 e8).1
 have e7:=zbk2 n2 k2 f2
 have f3:=(Bk.count (by decide) (by decide) h7 e7).1
 have e6:=zbk2 n3 k3 f3
 have e5:=(Bk.count (by decide) (by decide) h6 e6).1
 have b5:=Bk.number _ _ _ h5 e5
 have b4:=Bk.number _ _ _ h4 b5.1
 have b3:=Bk.number _ _ _ h3 b4.1
 have b2:=Bk.number _ _ _ h2 b3.1
 have b1:=Bk.text _ _ _ h1 b2.1
 refine ⟨b1.1,fun hs=>?_⟩
 have r1:=b1.2 hs
 have s1:=zah6 r1 hs
 have r2:=b2.2 s1
 have s2:=zah6 r2 s1
 have r3:=b3.2 s2
 have s3:=zah6 r3 s2
 have r4:=b4.2 s3
 have s4:=zah6 r4 s3
 have r5:=b5.2 s4
 have s5:=zah6 r5 s4
 obtain ⟨lh,q3,r6⟩:=zbn3 (enc:=encH) (fun pre=>(⟨⟨v1.1,v2.1,v3.1,v4.1⟩,pre,[],[],v5.1⟩:aB)) (fun n d pre y hn hd hy=>by
  unfold zk6 at hy
  rw [bY (by simp [hn,hd])] at hy
  obtain ⟨x1,g1,hy⟩:=zc2 hy
  obtain ⟨x2,g2,hy⟩:=zc2 hy
  obtain ⟨_,hy⟩:=zg0 hy
  refine ⟨⟨x1.1,x2.1⟩,x2.2,(dN hy).symm,fun hz hsrc=>?_⟩
  exact (Bk.aP.then g1 (Bk.aK _ _ _ g2 hz)).2 hsrc) n3 (by decide) (by decide) h6 rfl k3 f3 s5
 have s6:=zah6 r6 s5
 have s6:=zah6 rfl s6
 obtain ⟨lc,q2,r7⟩:=zbn3 (enc:=encC) (fun pre=>(⟨⟨v1.1,v2.1,v3.1,v4.1⟩,lh,pre,[],v5.1⟩:aB)) (fun n d pre y hn hd hy=>by
  unfold zk5 at hy
  rw [bY (by simp [hn,hd])] at hy
  obtain ⟨x1,g1,hy⟩:=zc2 hy
  obtain ⟨x2,g2,hy⟩:=zc2 hy
  obtain ⟨_,hy⟩:=zg0 hy
  refine ⟨{ aX.zero with aP:=x1.1,aK:=x2.1 },x2.2,(dN hy).symm,fun hz hsrc=>?_⟩
  exact (Bk.aP.then g1 (Bk.aK _ _ _ g2 hz)).2 hsrc) n2 (by decide) (by decide) h7 q3 k2 f2 s6
 have s7:=zah6 r7 s6
 have s7:=zah6 rfl s7
 obtain ⟨lw,q1,r8⟩:=zbn3 (enc:=encW) (fun pre=>(⟨⟨v1.1,v2.1,v3.1,v4.1⟩,lh,lc,pre,v5.1⟩:aB)) (fun n d pre y hn hd hy=>by
  unfold zk4 at hy
  rw [bY (by simp [hn,hd])] at hy
  obtain ⟨x1,g1,hy⟩:=zc2 hy
  obtain ⟨x2,g2,hy⟩:=zc2 hy
  obtain ⟨x3,g3,hy⟩:=zc2 hy
  obtain ⟨x4,g4,hy⟩:=zc2 hy
  obtain ⟨_,hy⟩:=zg0 hy
  refine ⟨{ { { { aX.zero with aP:=x1.1 } with aK:=x2.1 } with bH:=x3.1 } with bR:=x4.1 },x4.2,(dN hy).symm,fun hz hsrc=>?_⟩
  have:=(Bk.aP.then g1 (Bk.aK.then g2 (Bk.number.then g3 (Bk.number _ _ _ g4 hz)))).2 hsrc
  unfold encW
  simp only [cG] at this ⊢
  exact this) n1 (by decide) (by decide) h8 q2 k1 he s7
 rw [q1]
 unfold encQ
 simp only [cG]
 rw [← r8,← r7,← r6,← r5,← r4,← r3,← r2]
 exact r1
theorem Bk.bS:∀ (n:Nat) (dp:Int),Bk (zl6 n dp) encE
 | 0,dp=>fun d v d' h=>by cases h
 | n+1,dp=>fun d v d' h he=>by
  have h:zt2 (zl6 n) dp d=some (v,d'):=h
  unfold zt2 at h
  have main:∀ d0:aU,zs2 (zl6 n) dp d0=some (v,d')→d0.bC.err=0∧(Src d0.bC.rest→d0.bC.rest=encE v++d'.bC.rest):=fun d0 h=>by
   unfold zs2 at h
   obtain ⟨v1,h1,h⟩:=zc2 h
   by_cases c1:v1.2.bC.err=0
   ·rw [bW (by simp [c1])] at h
    by_cases c2:v1.1=0
    ·rw [bY (by simpa using c2)] at h
     obtain ⟨v2,h2,h⟩:=zc2 h
     obtain ⟨v3,h3,h⟩:=zc2 h
     cases h
     have:=Bk.number.then h1 (Bk.text.then h2 (Bk.aK _ _ _ h3 he))
     refine ⟨this.1,fun hs=>?_⟩
     rw [zbm8,bY (by exact c2)]
     exact this.2 hs
    ·rw [bW (by simpa using c2)] at h
     obtain ⟨v4,h4,h⟩:=zc2 h
     obtain ⟨z,k,h⟩:=zc2 h
     unfold zx9 at h
     cases h
     have ne:∀ (m:Int) d q,¬ (0 < m∧d.bC.err=0)→zl3 (zl6 n) dp (m,d,q)=some (.inr (d,q)):=fun m d q hh=>by
      unfold zl3; rw [bW (by simpa using hh)]
     have b1:=Bk.number _ _ _ h1 c1
     refine ⟨b1.1,fun hs=>?_⟩
     have r1:=b1.2 hs
     have s1:=zah6 r1 hs
     obtain ⟨l,q1,r2⟩:=zbn3 (enc:=encE) (fun pre=>(⟨v1.1,⟨aN.zero.bF.name,⟨aN.zero.bF.aK.mode,aN.zero.bF.aK.aT⟩⟩,pre⟩:aN)) (fun m d pre y hn hd hy=>by
      unfold zl3 at hy
      rw [bY (by simp [hn,hd])] at hy
      obtain ⟨x1,g1,hy⟩:=zc2 hy
      obtain ⟨_,hy⟩:=zg0 hy
      refine ⟨x1.1,x1.2,(dN hy).symm,fun hz hsrc=>?_⟩
      exact (Bk.bS n _ _ _ _ g1 hz).2 hsrc) ne (by decide) (by decide) h4 rfl k he s1
     rw [q1,zbm8,bW (by exact c2)]
     simp only [cG]
     rw [← r2]
     exact r1
   ·rw [bY (by simpa using c1)] at h
    cases h
    exact absurd he c1
  split at h
  ·have:=(main _ h).1
   simp at this
  ·exact main d h
theorem zbI8 {b:List Int} (hb:Src b) {s:aL} (h:zq7 b=some (s,0)):zZ3 s=true∧b=encS s:=by
 unfold zq7 at h
 obtain ⟨v1,h1,h⟩:=zc2 h
 obtain ⟨z2,k2,h⟩:=zc2 h
 unfold zH8 at h
 obtain ⟨v2,h2,h⟩:=zc2 h
 obtain ⟨z1,k1,h⟩:=zc2 h
 unfold zO6 at h
 by_cases c:z1.1.bC.err=0
 ·rw [bW (by simp [c])] at h
  by_cases c2:0 < (z1.1.bC.rest.length:Int)
  ·rw [bY (by simpa using c2)] at h; cases h
  ·rw [bW (by simpa using c2),zQ3,Option.bind_some] at h
   cases hv:zZ3 z1.2 with
   | false=>rw [hv] at h; cases h
   | true =>
    rw [hv] at h
    cases h
    refine ⟨hv,?_⟩
    have n1:∀ (n:Int) d q,¬ (0 < n∧d.bC.err=0)→zs4 (n,d,q)=some (.inr (d,q)):=fun n d q hh=>by
     unfold zs4; rw [bW (by simpa using hh)]
    have n2:∀ (n:Int) d q,¬ (0 < n∧d.bC.err=0)→zs5 (n,d,q)=some (.inr (d,q)):=fun n d q hh=>by
     unfold zs5; rw [bW (by simpa using hh)]
    have e2:=zbk2 n1 k1 c
    have f2:=(Bk.count (by decide) (by decide) h2 e2).1
    obtain ⟨lq,q2,r1⟩:=zbn3 (enc:=encQ) (fun pre=>(⟨pre,[]⟩:aL)) (fun n d pre y hn hd hy=>by
     unfold zs5 at hy
     rw [bY (by simp [hn,hd])] at hy
     obtain ⟨x1,g1,hy⟩:=zc2 hy
     obtain ⟨_,hy⟩:=zg0 hy
     refine ⟨x1.1,x1.2,(dN hy).symm,fun hz hsrc=>?_⟩
     exact (Bk.queue _ _ _ g1 hz).2 hsrc) n2 (by decide) (by decide) h1 rfl k2 f2 hb
    have s1:=zah6 rfl (zah6 r1 hb)
    obtain ⟨ln,q1,r2⟩:=zbn3 (enc:=encN) (fun pre=>(⟨lq,pre⟩:aL)) (fun n d pre y hn hd hy=>by
     unfold zs4 at hy
     rw [bY (by simp [hn,hd])] at hy
     obtain ⟨x1,g1,hy⟩:=zc2 hy
     obtain ⟨x2,g2,hy⟩:=zc2 hy
     obtain ⟨x3,g3,hy⟩:=zc2 hy
     obtain ⟨_,hy⟩:=zg0 hy
     refine ⟨{ { { bN.zero with aP:=x1.1 } with gen:=x2.1 } with bS:=x3.1 },x3.2,(dN hy).symm,fun hz hsrc=>?_⟩
     exact (Bk.aP.then g1 (Bk.number.then g2 (Bk.bS _ _ _ _ _ g3 hz))).2 hsrc) n1 (by decide) (by decide) h2 q2 k1 c s1
    rw [q1]
    have hnil:z1.1.bC.rest=[]:=cQ (by omega)
    rw [hnil,dX] at r2
    unfold encS
    simp only
    rw [← r2]
    exact r1
 ·rw [bY (by simpa using c)] at h
  simp only [cV,iC] at h
  exact absurd h.2 c
theorem zch8 {b:List Int} (hb:Src b):zF1 b=some true:=by
 unfold zF1
 have heq:∀ l,zas4 l l=true:=fun l=>by unfold zas4; simp
 have key:∃ s e,zq7 b=some (s,e)∧zC8 b=some (s,e)∧OkS s∧(e=0→zZ3 s=true∧b=encS s):=by
  rcases zcx0 hb with ⟨e,h1,h2⟩|⟨s,hs,h1,h2⟩
  ·exact ⟨_,_,h1,h2,zcM9,fun e0=>by subst e0; exact zbI8 hb h1⟩
  ·have h3:=h1
   rw [zQ3,Option.bind_some] at h1
   rw [zbj9,Option.bind_some] at h2
   cases hv:zZ3 s with
   | false=>rw [hv] at h1 h2; exact ⟨_,_,h1,h2,zcM9,fun e0=>absurd e0 (by decide)⟩
   | true=>rw [hv] at h1 h2; exact ⟨_,_,h1,h2,(zbk3 hv).1,fun _=>zbI8 hb h1⟩
 obtain ⟨s,e,h1,h2,h3,h4⟩:=key
 rw [h1,h2,Option.bind_some,Option.bind_some,zcN1,Option.bind_some]
 simp only [cF,cL,eT,cY,cE,zcV0 h3,Option.bind_some,bV,cD]
 rw [zaK0,Option.bind_some]
 by_cases c:e=0
 ·obtain ⟨hv,hb2⟩:=h4 c
  rw [hv,hb2]
  simp [heq]
 ·simp [c]
theorem zbz6 {x n:Int} (hn:1≤n) (hn2:n≤1000000):∃ v,zn7 x n=some v∧0≤v∧v < n :=
 ⟨_,zbV2 x n hn hn2,gZ x (by omega),gX x (by omega)⟩
theorem zbo3 (l:List Int) (cut at_ by_:Int) (more:List Int) (ob:0≤by_∧by_ < 256) (om:zD7 more):zB6 l cut at_ by_ more=some true:=by
 unfold zB6
 by_cases c:((!(zay3 l))||decide (20 < (more.length:Int)))=true
 ·rw [bY c,zcN1]; rfl
 ·rw [bW c]
  simp only [dY,dB,cB,jQ,fC] at c
  obtain ⟨c1,c2⟩:=c
  have hl:l.length≤300:=by unfold zay3 at c1; simp at c1; omega
  obtain ⟨s,h1,h2⟩:=zcW6 hl
  have ok:=(zbk3 h2).1
  have hlen:=zbM8 ok
  have hpos:1≤(encS s).length:=by
   unfold encS encI
   have:=(zaX6 4 ((s.aF.length:Int)).toNat (by have:=ok.lq; omega)).1
   rw [cA]; omega
  rw [h1,Option.bind_some,zbK6,h2,Option.bind_some]
  simp only [cE]
  have hne:¬ ((encS s).length:Int)=0:=by omega
  rw [bW (by simp only [cF,cL,dF,hne,cK]; decide),zd2 (by omega) (by omega)]
  obtain ⟨v,k1,k2,k3⟩:=zbz6 (x:=cut) (n:=(encS s).length+1) (by omega) (by omega)
  rw [k1,Option.bind_some,gdp (by omega),gdp (by simp; omega),gdp (by simp; omega)]
  have hB:zD7 ((encS s).take v.toNat++more):=zD7.app (fun x hx=>zbX2 s x (gC hx)) om
  have hL:((encS s).take v.toNat++more).length=((encS s).take v.toNat).length+more.length:=cA
  have hL2:((encS s).take v.toNat).length≤(encS s).length:=by simp; omega
  by_cases c3:0 < ((((encS s).take v.toNat).length+more.length:Nat):Int)
  ·rw [bY (by simpa using c3)]
   obtain ⟨w,m1,m2,m3⟩:=zbz6 (x:=at_) (n:=((((encS s).take v.toNat).length+more.length:Nat):Int)) (by omega) (by omega)
   rw [m1,Option.bind_some,gdp ⟨m2,m3⟩,gdp ⟨m2,m3⟩]
   refine zch8 ⟨fun x hx=>?_,by rw [dJ]; omega⟩
   rcases gS hx with hx|rfl
   ·exact hB x hx
   ·simp only [zA9]; rw [IntKind.wrap_u8]; omega
  ·rw [bW (by simpa using c3)]
   exact zch8 ⟨hB,by omega⟩
theorem zbk8 (l:List Int) (cut at_ by_:Int) (more:List Int) {P Q R:Prop} (_:P) (_:Q) (_:R) (ob:IntKind.u8.min≤by_∧by_≤IntKind.u8.max) (om:more.length≤maxLen∧∀ a ∈ more,IntKind.u8.min≤a∧a≤IntKind.u8.max):zB6 l cut at_ by_ more=some true:=by
 have h1:IntKind.u8.min=0:=by decide
 have h2:IntKind.u8.max=255:=by decide
 rw [h1,h2] at ob
 exact zbo3 l cut at_ by_ more (by omega) (zdv2 om).bytes
end Ab
end Go.Proofs.YtcggeefhhegeoaaGreatDoor
