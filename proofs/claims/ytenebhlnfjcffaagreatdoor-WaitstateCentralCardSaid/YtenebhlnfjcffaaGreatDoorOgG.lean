import Derived.Test.YtenebhlnfjcffaaGreatDoorDvH
import Derived.Test.YtenebhlnfjcffaaGreatDoorTabB
import Derived.Test.YtenebhlnfjcffaaGreatDoorDvD
import Derived.KernelRfl
namespace Go.Proofs.YtenebhlnfjcffaaGreatDoor
namespace Ab
set_option linter.unusedVariables false
set_option linter.unusedSimpArgs false
def zcX3(x:aF)(pr:Int)(q q':aB)(ns:List aJ):Prop:=
  ((∀a∈ns,a.name≠q.aA.name)/\q'=q)\/
  ∃a∈ns,a.name=q.aA.name/\((covA q.aA (getH q.aP x.aK) a.aM=true/\q'=q)\/(covA q.aA (getH q.aP x.aK) a.aM=false/\
    ((zr8 q' x.aK).2=false/\getH q'.aP x.aK=zJ6 q.aA (getH q.aP x.aK) a.aM\/
     (zr8 q' x.aK).2=true/\getH q'.aP x.aK=getH q.aP x.aK/\(zr8 q' x.aK).1=zJ6 q.aA (getH q.aP x.aK) a.aM/\∀w∈q'.aT,w.aK=x.aK->w.aZ=pr)))
theorem zcQ3{x:aF}{y:aF}{pr:Int}{q q':aB}{L:List aJ}(hd:dnN L)(h:zcX3 x pr q q' L)(hr:q'.aA=q.aA)(hh:getH q.aP x.aK=zg0 x.aX.aD q.aA.name)(hw:(zr8 q x.aK).2=false)
    (hp:y.aK=x.aK) (hl:y.aX=x.aX) (hpr:y.aR.aZ=pr):zaw0 q' y L:=by
  unfold zaw0;rw[hr,hp,hl,hpr];rcases h with⟨h1,rfl⟩|⟨a,ha,hn,h⟩
  .exact .inr ⟨λ a ha hn=>absurd hn (h1 a ha),hh,hw⟩
  · rw[hh]at h
    rcases h with⟨hc,rfl⟩|⟨hc,h⟩
    · refine .inr ⟨λ b hb hbn=>?_,hh,hw⟩
      rw[zcc4 hd hb ha (hbn.trans hn.symm)];exact hc
    .exact .inl ⟨a,ha,hn,hc,h⟩
theorem zcG2{w:bB}{i:Nat}(hi:i<w.c.aG.length)(r:bH)(x:aF)(hx:(w.c.aG.getD i aF.zero).aK=x.aK){L:List aJ}(hL:L.length<=8)(hd:dnN L)(hv:ValidT w.c.aI)(hps:∀p∈zB8 w.c.aI,∃y∈w.c.aG,y.aK=p)(h8:w.c.aG.length<=8)(hev:w.ev=[])
    (hok:zbc6 x.aK r.aZ=true) (hres:∀a∈L,∃q∈w.c.aI,q.aA.name=a.name/\za2 q.aA a.aM=true) (hnw:∀q∈w.c.aI,(zr8 q x.aK).2=false):
    ∃t' ev,zc2 (zz4 (i:Int) r L) (0,w)=some ⟨⟨w.c.now,t',w.c.aG⟩,ev⟩/\ev.length<=160/\Kept x.aK w.c.aI t'/\∀j,j<w.c.aI.length->zcX3 x r.aZ (w.c.aI.getD j aB.zero) (t'.getD j aB.zero) L:=by
  obtain ⟨z,h1,h2⟩:=zq9 (body:=zz4 (i:Int) r L) (λ z=>∃(k:Nat) (t':List aB) (ev:List bJ),z=((k:Int),⟨⟨w.c.now,t',w.c.aG⟩,ev⟩)/\k<=L.length/\ev.length<=20*k/\Kept x.aK w.c.aI t'/\∀j,j<w.c.aI.length->zcX3 x r.aZ (w.c.aI.getD j aB.zero) (t'.getD j aB.zero) (L.take k)) (λ z=>L.length-z.1.toNat)
    (λ z=>∃(t':List aB) (ev:List bJ),z=⟨⟨w.c.now,t',w.c.aG⟩,ev⟩/\ev.length<=160/\Kept x.aK w.c.aI t'/\∀j,j<w.c.aI.length->zcX3 x r.aZ (w.c.aI.getD j aB.zero) (t'.getD j aB.zero) L)
    (fun z ⟨k,t',ev,hz,hkl,he,hK,hA⟩=>by
      subst hz;unfold zz4
      by_cases c:k<L.length
      · left
        have h3:0<=(k:Int)/\(k:Int)<(L.length:Int):=by omega
        have h4:0<=(i:Int)/\(i:Int)<((w.c.aG.length:Nat):Int):=by omega
        simp only[h3.1,h3.2,h4.1,h4.2,cS,zg9,cA,cC,Int.toNat_natCast,zc4 k (show k<4611686018427387904 by omega),hx];rw[zcb8,Option.bind_some];have hma:=zd5 (z:=aJ.zero) c;obtain⟨q0,m0,n0,f0⟩:=hres _ hma;obtain⟨j,hj,hn⟩:=zbD5 ⟨q0,m0,n0⟩;have e0:=hv.inj m0 (zd5 (z:=aB.zero) hj) (n0.trans hn.symm);rw[e0]at f0;have hj':j<t'.length:=by rw[hK.len];exact hj
        have hq0:t'.getD j aB.zero=w.c.aI.getD j aB.zero:=by
          rcases hA j hj with⟨_,h5⟩|⟨a,ha,han,_⟩
          .exact h5
          .exact absurd (han.trans hn) (zcX2 hd c a ha)
        obtain⟨q,ev2,r1,r2,r3,r4⟩:=zdg9 hK.v (ps:=w.c.aG.map (·.aK)) (λ p hp=>by
          rcases zce0 hv hK hp with rfl|hp
          .rw[<-hx];exact cI.2 ⟨_,zd5 hi,rfl⟩
          · obtain⟨y,hy,e⟩:=hps p hp
            exact cI.2 ⟨y,hy,e⟩) (by rw[dB];exact h8) (p:=x.aK) (by rw[<-hx];exact cI.2 ⟨_,zd5 hi,rfl⟩) (a:=L.getD k aJ.zero) (pr:=r.aZ) hj' (by rw[hq0];exact hn) (by rw[hq0];exact f0) hok (by rw[hq0];exact hnw _ (zd5 hj))
        rw[hq0]at r4;rw[r1,zbr9 _ _ _ (by simp only;omega),Option.bind_some];refine⟨_,rfl,⟨k+1,t'.set j q,ev++ev2,rfl,c,by rw[cD];omega,hK.trans r3,λ j2 hj2=>?_⟩,by simp only[Int.toNat_natCast];omega⟩;rw[zx3 aJ.zero c]
        by_cases e:j=j2
        · subst e
          rw[zp9 _ _ _ _ hj'];exact .inr ⟨_,cY _ (.head _),hn.symm,r4⟩
        · rw[zad9 _ _ _ _ _ e]
          rcases hA j2 hj2 with⟨h5,h6⟩|⟨a,ha,h5⟩
          · refine .inl ⟨λ a ha han=>?_,h6⟩
            rcases cR.1 ha with ha|ha
            .exact h5 a ha han
            · rw[dN.1 ha,<-hn]at han
              exact e (zaJ6 hv.asc hj hj2 han)
          .exact .inr ⟨a,dJ _ ha,h5⟩
      · right
        have e:k=L.length:=by omega
        subst e;simp only[eR,cJ,bT,cB];exact⟨_,rfl,t',ev,rfl,by omega,hK,by rw[dH]at hA;exact hA⟩) (0,w) ⟨0,w.c.aI,[],by rw[<-hev];rfl,by omega,by simp,zaI6 hv,λ j hj=>.inl ⟨(λ a ha=>nomatch ha),rfl⟩⟩
  obtain⟨t',ev,rfl,h3⟩:=h2;exact⟨t',ev,h1,h3⟩
theorem zbJ0{w:bB}(hl:w.c.aG.length<=8):bud w<=w.ev.length+16000:=by have:=zcQ0 w.c.aG;unfold bud;omega
def askP(x:aF)(r:bH)(now:Int):aF:={x with bF:=true,aR:=r,since:=now,gen:=zp8 x.gen}
theorem zcG3{i:Nat}{c:aV}(h:CenV c)(hi:i<c.aG.length)(r:bH):∃x,zD0 (i:Int) r ⟨c,[]⟩=some x/\Done c x:=by
  have g:=h.good [];have hp:=h.each _ (zd5 (z:=aF.zero) hi);unfold zD0;show∃x,gd (0<=(i:Int)/\(i:Int)<((c.aG.length:Nat):Int)) (if(c.aG.getD (i:Int).toNat aF.zero).bF=true then _ else _)=some x/\_;rw[gdp (by omega)];simp only[Int.toNat_natCast];cases hw:(c.aG.getD i aF.zero).bF with
  |true=>rw[bX rfl];exact⟨_,rfl,λ h=>nomatch h⟩
  |false=>
  rw[bV (by decide),zaE7,Option.bind_some];obtain⟨B,hB,hB2⟩:∃B:Bool,(vE r.bN&&(decide (0<=r.aZ)&&(decide (r.aZ<=7)&&(decide (0<=r.limit)&&decide (r.limit<=1000)))))=B/\(B=true->vE r.bN=true/\(0<=r.aZ/\r.aZ<=7)/\(0<=r.limit/\r.limit<=1000)):=⟨_,rfl,λ h=>by
    simp only[bU,bY]at h;exact⟨h.1,⟨h.2.1,h.2.2.1⟩,h.2.2.2.1,h.2.2.2.2⟩⟩
  rw[hB];cases B with
  |false=>exact⟨_,rfl,λ h=>nomatch h⟩
  |true=>
  obtain⟨hvE,hpr,hli⟩:=hB2 rfl;obtain⟨hl,hs⟩:=h.t.lens';obtain⟨L,a1,a2,a3⟩:=zai1 r.bN;rw[hvE]at a3;have hdn:dnN L:=zbp1 a3;obtain⟨v9,r1,r2⟩:=zbd4 (c.aI.map (·.aA)) hvE (zcP0 h.t) a3;simp only[cO,bT,cB,zbd2 _ hl,Option.bind_some,r1]
  by_cases c9:v9=0
  · simp only[c9,cA,cO,bT,cB]
    have hres:∀a∈L,∃q∈c.aI,q.aA.name=a.name/\za2 q.aA a.aM=true:=λ a ha=>by obtain⟨res,hr,e⟩:=r2.1 c9 a ha;obtain⟨q,hq,rfl⟩:=cI.1 hr;exact⟨q,hq,e⟩
    have h3:0<=(i:Int)/\(i:Int)<((c.aG.length:Nat):Int):=by omega
    rw[gdp h3,gdp h3,gdp h3];simp only[gK,zp9 _ _ _ _ hi];have hn:=λ(y:aF)=>zat6 (i:=i) (w:=⟨⟨c.now,c.aI,c.aG.set i y⟩,[]⟩) (by show i<(c.aG.set i y).length;rw[eA];exact hi);rw[hn,Option.bind_some,a1,Option.bind_some];simp only[zp9 _ _ _ _ hi,gK];have hrun:=hp.run hw;obtain⟨t',ev,l1,l2,l3,l4⟩:=zcG2 (w:=⟨⟨c.now,c.aI,c.aG.set i (askP (c.aG.getD i aF.zero) r c.now)⟩,[]⟩) (i:=i) (by show i<(c.aG.set i _).length;rw[eA];exact hi) r (c.aG.getD i aF.zero)
      (by show((c.aG.set i _).getD i aF.zero).aK=_;rw[zp9 _ _ _ _ hi];rfl) a2 hdn h.t (λ p hpp=>by
        obtain⟨x,hx,e⟩:=h.aG p hpp;obtain⟨j,hj,rfl⟩:=zt8 (z:=aF.zero) hx;refine⟨_,zd5 (z:=aF.zero) (i:=j) (by show j<(c.aG.set i _).length;rw[eA];exact hj),?_⟩;show((c.aG.set i _).getD j aF.zero).aK=p
        by_cases ij:i=j
        .subst ij;rw[zp9 _ _ _ _ hi];exact e
        .rw[zad9 _ _ _ _ _ ij];exact e) (by show(c.aG.set i _).length<=8;rw[eA];exact h.len) rfl
      (by unfold zbc6;rw[hp.pv,cG hpr.1,cG hpr.2];rfl) hres λ q hq=>(hrun.2.2 q hq).2
    have l1':zc2 (zz4 (i:Int) r L) (0,(⟨(⟨c.now,c.aI,c.aG.set i (askP (c.aG.getD i aF.zero) r c.now)⟩:aV),[]⟩:bB))=some (⟨(⟨c.now,t',c.aG.set i (askP (c.aG.getD i aF.zero) r c.now)⟩:aV),ev⟩:bB):=l1;show∃x,(zc2 (zz4 (i:Int) r L) (0,(⟨(⟨c.now,c.aI,c.aG.set i (askP (c.aG.getD i aF.zero) r c.now)⟩:aV),[]⟩:bB))).bind _=some x/\_;rw[l1',Option.bind_some];have hK:Kept (c.aG.getD i aF.zero).aK c.aI t':=l3;have hnew:ProcV c.now t' (askP (c.aG.getD i aF.zero) r c.now):=by
      refine⟨hp.pv,hp.cost,zap8 _,hp.led,λ n hn=>hK.named (P:=λ r=>za2 r _=true) (hp.held n hn),λ _=>⟨hvE,hpr,hli,⟨h.now.1,iO _⟩,λ L' b hL' a ha=>?_,λ L' b hL' q' hq=>?_⟩,(λ hh=>nomatch hh)⟩
      · have e:zi4 r.bN=some (L',b):=hL'
        rw[a3]at e;cases e;exact hK.named (P:=λ r=>za2 r _=true) (hres a ha)
      · have e:zi4 r.bN=some (L',b):=hL'
        rw[a3]at e;cases e;obtain⟨j,hj,rfl,hrr⟩:=hK.mem hq;obtain⟨k1,k2⟩:=hrun.2.2 _ (zd5 (z:=aB.zero) hj);exact zcQ3 hdn (l4 j hj) hrr k1 k2 rfl rfl rfl
    have g1:=g.upd (w:=⟨c,[]⟩) hi hK (y:=askP (c.aG.getD i aF.zero) r c.now) rfl hnew ev;obtain⟨w',s1,s2,s3⟩:=zaM3 g1 (eC (zbJ0 g1.len) (by simp only;omega)) λ x hx hwx=>by
      rcases iG (show x∈c.aG.set i _ from hx)with hx|rfl
      .exact(h.quiet x hx hwx).1
      · show r.limit=0\/c.now<c.now+r.limit
        omega
    unfold zaa0;rw[s1];exact⟨_,rfl,λ _=>⟨s2,s3.trans hK.cat⟩⟩
  · simp only[c9,cJ,dC,cC]
    exact⟨_,rfl,λ h=>absurd h c9⟩
theorem zdh0{r:aH}{F a b:aC}(hg:zv7 a b=true)(hc:covA r F b=true):covA r F a=true:=by
 have hs:zg4 r=true:=by
  rcases(perm_iff r b).1 ((zV4 _ _ _).1 hc).2.1 with h|h
  .exact h.1
  .exact zbn3 h
 unfold zv7 at hg
 by_cases h1:zn0 b=true/\a≠b
 .rw[bV (by simp[h1.1,h1.2])]at hg
  by_cases h2:a=aC.zero
  .rw[h2];exact zbr2 ((zV4 _ _ _).1 hc).1 hs
  .have h2':¬a=({aC.zero with}:aC):=h2;rw[bV (by simpa using h2')]at hg
   by_cases h3:zn0 a=true
   .rw[bV (by simp[h3])]at hg;have hb0:b≠aC.zero:=λ e=>by rw[e]at h1;exact absurd h1.1 (by decide)
    have hbf:za2 r b=true:=by
     rcases(perm_iff r b).1 ((zV4 _ _ _).1 hc).2.1 with h|h
     .exact absurd h.2 hb0
     .exact h
    have ub:=(zad8 b).1 h1.1;have ua:=(zad8 a).1 h3;have hba:covA r b a=true:=by
     rw[zV4];rw[zF1]at hbf
     by_cases hm:a.mode=0
     .rw[bV (by simp[hm])]at hg;have hg:=fY hg;have fa:za2 r a=true:=(zF1 r a).2 (by omega);exact⟨zC7 ((zF1 r b).2 hbf),zC7 fa,.inr ⟨hb0,h2,.inr ⟨by omega,by omega⟩⟩⟩
     .rw[bX (by simp[hm])]at hg;have hc2:=(zaL8 b.mode a.mode).1 hg;have fa:za2 r a=true:=(zF1 r a).2 (by omega);exact⟨zC7 ((zF1 r b).2 hbf),zC7 fa,.inr ⟨hb0,h2,.inl ⟨by omega,hg⟩⟩⟩
    exact zby1 hc hba
   .rw[bX (by simp[h3])]at hg;cases hg
 .rw[bX (by
   by_cases hu:zn0 b=true
   .have:a=b:=jD λ h=>h1 ⟨hu,h⟩;simp[this]
   .simp[hu])]at hg
  cases hg
theorem zbJ1{l:aW}(h:LedgerP l){r:aH}{n:ByteArray}(hf:za2 r (zg0 l.aD n)=true):∀d k,k+d=l.aD.length->covA r (zg0 l.aD n) (zg0 (l.aD.take k) n)=true
 |0,k,e=>by rw[show k=l.aD.length by omega,dH];exact zat2 (zC7 hf)
 |d+1,k,e=>by
  have ih:=zbJ1 h hf d (k+1) (by omega);have hk:k<l.aD.length:=by omega
  rw[zx3 bC.zero hk,zV1]at ih;have hg:=h.grow k hk
  by_cases c:(l.aD.getD k bC.zero).name=n
  .rw[bX c]at ih;rw[c]at hg;rw[<-hg.1];exact zdh0 hg.2 ih
  .rw[bV c]at ih;exact ih
theorem FitL.cut{t:List aB}{l:aW}(h:FitL t l)(hl:LedgerP l){k:Nat}(hk:k<=l.aD.length){n:ByteArray}(hn:zg0 (l.aD.take k) n≠aC.zero):∃q∈t,q.aA.name=n/\za2 q.aA (zg0 (l.aD.take k) n)=true:=by
 obtain⟨e,he,hen⟩:=zaM2 hn;have hnz:=zbz5 hl (fV he);rw[hen]at hnz;obtain⟨q,hq,hqn,hqf⟩:=h n hnz;have hc:=zbJ1 hl hqf (l.aD.length-k) k (by omega);rcases(perm_iff _ _).1 ((zV4 _ _ _).1 hc).2.1 with h5|h5
 .exact absurd h5.2 hn
 .exact⟨q,hq,hqn,h5⟩
theorem zcG4{i:Nat}{c:aV}(h:CenV c)(hi:i<c.aG.length)(nm:ByteArray):∃x,zG3 (i:Int) nm ⟨c,[]⟩=some x/\Done c x:=by
 have g:=h.good [];have hp:=h.each _ (zd5 (z:=aF.zero) hi);have hle:=hp.led.le;unfold zG3;show∃x,gd (0<=(i:Int)/\(i:Int)<((c.aG.length:Nat):Int)) (if(c.aG.getD (i:Int).toNat aF.zero).bF=true then _ else _)=some x/\_;have h3:0<=(i:Int)/\(i:Int)<((c.aG.length:Nat):Int):=by omega
 rw[gdp h3];simp only[Int.toNat_natCast];cases hw:(c.aG.getD i aF.zero).bF with
 |true=>rw[bX rfl];exact⟨_,rfl,λ h=>nomatch h⟩
 |false=>
 have hrun:=hp.run hw;rw[bV (by decide),gdp h3,zad7 _ _ (by omega),Option.bind_some]
 by_cases cz:zg0 (c.aG.getD i aF.zero).aX.aD nm=aC.zero
 .rw[bX (cG cz)];exact⟨_,rfl,λ h=>nomatch h⟩
 rw[bV (by simpa using cz)];obtain⟨q0,m0,n0,f0⟩:=hp.held nm cz;obtain⟨j,hj,hn⟩:=zbD5 ⟨q0,m0,n0⟩;have hcur:=hrun.2.2 _ (zd5 (z:=aB.zero) hj);rw[hn]at hcur;obtain⟨q,ev,r1,r2,r3,r4,r5,r6⟩:=zbI9 h.t hj (p:=(c.aG.getD i aF.zero).aK) (a:=aC.zero) (by rw[hcur.1];exact cz) hcur.2 (zbr2 (zaz8 ((zw3 _).1 (h.t.each _ (zd5 (z:=aB.zero) hj))).1.hv _) (zbo5 (h.t.each _ (zd5 (z:=aB.zero) hj))));rw[hn]at r1;rw[gdp h3,zaU0,Option.bind_some];show∃x,(zd0 (zaI5 c.aI _ ⟨nm,aC.zero⟩).1 (zaI5 c.aI _ ⟨nm,aC.zero⟩).2.1 ⟨c,[]⟩).bind _=some x/\_;rw[r1,zbr9 _ _ _ (by simp only[List.length_nil];omega),Option.bind_some];simp only;rw[gdp h3,zcg9 hp.led (zaM2 cz),Option.bind_some,gdp h3];have hnx:=λ(t:List aB) (ev:List bJ) (y:aF)=>zat6 (i:=i) (w:=⟨⟨c.now,t,c.aG.set i y⟩,ev⟩) (by show i<(c.aG.set i y).length;rw[eA];exact hi);rw[hnx,Option.bind_some];simp only[zp9 _ _ _ _ hi,gK];rw[zcu0 hw hrun.1 hrun.2.1];have hdrop:∀n,zg0 (zcm8 nm (c.aG.getD i aF.zero).aX).aD n=if nm=n then aC.zero else zg0 (c.aG.getD i aF.zero).aX.aD n:=λ n=>by
  by_cases e:nm=n
  .rw[bX e,<-e];exact zdf5 _ _
  .rw[bV e];exact zcm7 (λ h5=>e h5.symm) _
 have hnew:=hp.rest r3 (zap8 (c.aG.getD i aF.zero).gen) (hp.led.drop nm) (λ n hnz=>by
  rw[hdrop]at hnz|-
  by_cases e:nm=n
  .rw[bX e]at hnz;exact absurd rfl hnz
  .rw[bV e]at hnz⊢;exact hp.held n hnz) (λ j2 hj2=>by
  rw[hdrop]
  by_cases e:j=j2
  .subst e;rw[zp9 _ _ _ _ hj,bX hn.symm];exact⟨r4,r5⟩
  .rw[zad9 _ _ _ _ _ e,bV (λ e2=>e (zaJ6 h.t.asc hj hj2 (hn.trans e2)))];exact hrun.2.2 _ (zd5 hj2)) c.now
 have g1:=g.upd (w:=⟨c,[]⟩) hi r3 (y:=zaw1 (c.aG.getD i aF.zero) (zcm8 nm (c.aG.getD i aF.zero).aX) (zp8 (c.aG.getD i aF.zero).gen)) rfl hnew ([]++ev);obtain⟨w',s1,s2,s3⟩:=zaM3 g1 (eC (zbJ0 g1.len) (by simp only[List.nil_append];omega)) λ x hx hwx=>(h.quiet x (zbd6 rfl x hx hwx) hwx).1;show∃x,(zm4 ⟨⟨c.now,c.aI.set j q,c.aG.set i (zaw1 (c.aG.getD i aF.zero) (zcm8 nm (c.aG.getD i aF.zero).aX) (zp8 (c.aG.getD i aF.zero).gen))⟩,[]++ev⟩).bind _=some x/\_;rw[s1];exact⟨_,rfl,λ _=>⟨s2,s3.trans r3.cat⟩⟩
def Back(x:aF)(t t':List aB)(k:Nat)(ns:List aJ):Prop:=∀j,j<t.length->(zr8 (t'.getD j aB.zero) x.aK).2=false/\
 (getH (t'.getD j aB.zero).aP x.aK=zg0 x.aX.aD (t.getD j aB.zero).aA.name\/getH (t'.getD j aB.zero).aP x.aK=zg0 (x.aX.aD.take k) (t.getD j aB.zero).aA.name)/\
 ∀a∈ns,a.name=(t.getD j aB.zero).aA.name->getH (t'.getD j aB.zero).aP x.aK=zg0 (x.aX.aD.take k) (t.getD j aB.zero).aA.name
theorem zch1{now:Int}{t0:List aB}(ht:ValidT t0){x:aF}(hp:ProcV now t0 x){i:Nat}{v:aW×List aJ×Int}(hv:v.2.1.length<=72){k:Nat}(hk:k<=x.aX.aD.length)
  (ha:∀a∈v.2.1,(∃e∈x.aX.aD,e.name=a.name)/\a.aM=zg0 (x.aX.aD.take k) a.name)
  {j1:bB} (hj:(j1.c.aG.getD i aF.zero).aK=x.aK) {w:bB} (hK:Kept x.aK t0 w.c.aI) (hB:Back x t0 w.c.aI k []) (hev:w.ev.length<=1000):
  ∃t' ev,zc2 (zF0 (i:Int) v j1) (0,w)=some ⟨⟨w.c.now,t',w.c.aG⟩,ev⟩/\Kept x.aK t0 t'/\Back x t0 t' k v.2.1/\ev.length<=w.ev.length+1440:=by
 obtain⟨z,h1,h2⟩:=zq9 (body:=zF0 (i:Int) v j1) (λ z=>∃(m:Nat) (t':List aB) (ev:List bJ),z=((m:Int),⟨⟨w.c.now,t',w.c.aG⟩,ev⟩)/\m<=v.2.1.length/\ev.length<=w.ev.length+20*m/\Kept x.aK t0 t'/\Back x t0 t' k (v.2.1.take m)) (λ z=>v.2.1.length-z.1.toNat)
  (λ z=>∃(t':List aB) (ev:List bJ),z=⟨⟨w.c.now,t',w.c.aG⟩,ev⟩/\Kept x.aK t0 t'/\Back x t0 t' k v.2.1/\ev.length<=w.ev.length+1440)
  (λ z ⟨m,t',ev,hz,hml,he,hKz,hBz⟩=>by
   subst hz;unfold zF0
   by_cases cm:m<v.2.1.length
   .left;have h3:0<=(m:Int)/\(m:Int)<(v.2.1.length:Int):=by omega
    have hlq:=hKz.v.lens'.1;simp only[h3.1,h3.2,cS,zg9,cA,cC,Int.toNat_natCast,zc4 m (show m<4611686018427387904 by omega)];obtain⟨⟨en,he1,he2⟩,hamt⟩:=ha _ (zd5 (z:=aJ.zero) cm);have hnz:=zbz5 hp.led he1;rw[he2]at hnz;obtain⟨q,hq,hqn,hqf⟩:=hp.held _ hnz;obtain⟨j,hj1,hj2⟩:=zbD5 ⟨q,hq,hqn⟩;have hjq:t0.getD j aB.zero=q:=ht.inj (zd5 hj1) hq (hj2.trans hqn.symm);have hj':j<t'.length:=by rw[hKz.len];exact hj1
    have hfd:=hKz.find ht hj1;rw[hj2]at hfd;have h6:=zat5 hKz.v.lens hj';rw[zX0 _ _ (by omega),Option.bind_some,hfd,gdp (by omega)];simp only[Int.toNat_natCast,hj];rw[zI3 _ _ (by omega),Option.bind_some];have hBj:=hBz j hj1;have tk:v.2.1.take (m+1)=v.2.1.take m++[v.2.1.getD m aJ.zero]:=zx3 aJ.zero cm;have other:∀t2:List aB,∀j2,j2<t0.length->t2.getD j2 aB.zero=t'.getD j2 aB.zero->j≠j2->(zr8 (t2.getD j2 aB.zero) x.aK).2=false/\
      (getH (t2.getD j2 aB.zero).aP x.aK=zg0 x.aX.aD (t0.getD j2 aB.zero).aA.name\/getH (t2.getD j2 aB.zero).aP x.aK=zg0 (x.aX.aD.take k) (t0.getD j2 aB.zero).aA.name)/\
      ∀a∈v.2.1.take (m+1),a.name=(t0.getD j2 aB.zero).aA.name->getH (t2.getD j2 aB.zero).aP x.aK=zg0 (x.aX.aD.take k) (t0.getD j2 aB.zero).aA.name:=λ t2 j2 hj3 e2 hne=>by
     rw[e2,tk];obtain⟨b1,b2,b3⟩:=hBz j2 hj3;refine⟨b1,b2,λ a hma han=>?_⟩;rcases cR.1 hma with hma|hma
     .exact b3 a hma han
     .rw[dN.1 hma,<-hj2]at han;exact absurd (zaJ6 ht.asc hj1 hj3 han) hne
    by_cases hne:getH (t'.getD j aB.zero).aP x.aK=(v.2.1.getD m aJ.zero).aM
    .rw[bV (by rw[cG hne];decide)];refine⟨_,rfl,⟨m+1,t',ev,rfl,cm,by omega,hKz,λ j2 hj3=>?_⟩,by simp only[Int.toNat_natCast];omega⟩
     by_cases e:j=j2
     .subst e;exact⟨hBj.1,hBj.2.1,λ a _ _=>by rw[hne,hamt,hj2]⟩
     .exact other _ j2 hj3 rfl e
    .rw[bX (by rw[eE hne];rfl)];have hres:=hKz.res j hj1;have hfull:getH (t'.getD j aB.zero).aP x.aK=zg0 x.aX.aD (v.2.1.getD m aJ.zero).name:=by
      rcases hBj.2.1 with e|e
      .rw[e,hj2]
      .rw[hj2,<-hamt]at e;exact absurd e hne
     have hcv:covA (t'.getD j aB.zero).aA (getH (t'.getD j aB.zero).aP x.aK) (v.2.1.getD m aJ.zero).aM=true:=by rw[hfull,hamt,hres,hjq];exact zbJ1 hp.led hqf (x.aX.aD.length-k) k (by omega)
     obtain⟨q2,ev2,r1,r2,r3,r4,r5,r6⟩:=zbI9 hKz.v hj' (p:=x.aK) (a:=(v.2.1.getD m aJ.zero).aM) (by rw[hfull];exact hnz) hBj.1 hcv;have hatom:(⟨(t'.getD j aB.zero).aA.name,(v.2.1.getD m aJ.zero).aM⟩:aJ)=v.2.1.getD m aJ.zero:=by rw[hres,hj2]
     rw[hatom]at r1;rw[zaU0,Option.bind_some,r1,zbr9 _ _ _ (by simp only;omega),Option.bind_some];refine⟨_,rfl,⟨m+1,t'.set j q2,ev++ev2,rfl,cm,by simp only[cD];omega,hKz.trans r3,λ j2 hj3=>?_⟩,by simp only[Int.toNat_natCast];omega⟩
     by_cases e:j=j2
     .subst e;rw[zp9 _ _ _ _ hj'];have e4:getH q2.aP x.aK=zg0 (x.aX.aD.take k) (t0.getD j aB.zero).aA.name:=by rw[r4,hamt,hj2]
      exact⟨r5,.inr e4,λ _ _ _=>e4⟩
     .exact other _ j2 hj3 (zad9 _ _ _ _ _ e) e
   .right;have e:m=v.2.1.length:=by omega
    subst e;simp only[eR,cJ,bT,cB];exact⟨_,rfl,t',ev,rfl,hKz,by rw[dH]at hBz;exact hBz,by omega⟩) (0,w) ⟨0,w.c.aI,w.ev,rfl,by omega,by omega,hK,hB⟩
 obtain⟨t',ev,rfl,h3⟩:=h2;exact⟨t',ev,h1,h3⟩
theorem zcu1{i:Nat}{c:aV}(h:CenV c)(hi:i<c.aG.length)(label:Int):∃x,zB7 (i:Int) label ⟨c,[]⟩=some x/\Done c x:=by
 have g:=h.good [];have hp:=h.each _ (zd5 (z:=aF.zero) hi);have h3:0<=(i:Int)/\(i:Int)<((c.aG.length:Nat):Int):=by omega
 unfold zB7;show∃x,gd (0<=(i:Int)/\(i:Int)<((c.aG.length:Nat):Int)) ((zy8 (c.aG.getD (i:Int).toNat aF.zero).aX label).bind _)=some x/\_;rw[gdp h3];simp only[Int.toNat_natCast];obtain⟨v,u1,u2,u3⟩:=zdf8 hp.led label;rw[u1,Option.bind_some]
 by_cases c0:v.2.2=0
 .rw[bV (by simp[c0]),gdp h3];obtain⟨hlv,k,hk,hke,hka,hkd⟩:=u2 c0;obtain⟨x,hx⟩:∃x,c.aG.getD i aF.zero=x:=⟨_,rfl⟩;rw[hx]at hp hk hke hka hkd;simp only[hx];have fin:∀(y:aF) (t1:List aB) (ev1:List bJ),y.aK=x.aK->(∀l g,({y with aX:=l,gen:=g}:aF)=zaw1 x l g)->y.gen=x.gen->ev1.length<=320->Kept x.aK c.aI t1->(∀j,j<c.aI.length->getH (t1.getD j aB.zero).aP x.aK=zg0 x.aX.aD (c.aI.getD j aB.zero).aA.name/\(zr8 (t1.getD j aB.zero) x.aK).2=false)->
    ∃r,zy6 (i:Int) v ⟨⟨c.now,t1,c.aG.set i y⟩,ev1⟩=some r/\Done c r:=by
   intro y t1 ev1 hyp hyr hyg hev hK hB;unfold zy6;have hi1:i<(c.aG.set i y).length:=by rw[eA];exact hi
   have hg1:(c.aG.set i y).getD i aF.zero=y:=zp9 _ _ _ _ hi;show∃r,gd (0<=(i:Int)/\(i:Int)<(((c.aG.set i y).length:Nat):Int)) (gd (0<=(i:Int)/\(i:Int)<(((c.aG.set i y).length:Nat):Int)) _)=some r/\_;rw[gdp (by omega),gdp (by omega)];simp only[Int.toNat_natCast];obtain⟨t2,ev2,l1,l2,l3,l4⟩:=zch1 h.t hp (i:=i) u3 hk hka (j1:=⟨⟨c.now,t1,c.aG.set i y⟩,ev1⟩) (by show((c.aG.set i y).getD i aF.zero).aK=_;rw[hg1];exact hyp) (w:=⟨⟨c.now,t1,(c.aG.set i y).set i {(c.aG.set i y).getD i aF.zero with aX:=v.1}⟩,ev1⟩) hK (λ j hj=>⟨(hB j hj).2,.inl (hB j hj).1,λ a ha=>nomatch ha⟩) (by simp only;omega);rw[l1,Option.bind_some];unfold zN3;have hset:(c.aG.set i y).set i {(c.aG.set i y).getD i aF.zero with aX:=v.1}=c.aG.set i {y with aX:=v.1}:=by rw[gK,hg1]
   simp only[hset];rw[zat6 (w:=⟨⟨c.now,t2,c.aG.set i {y with aX:=v.1}⟩,ev2⟩) (by show i<(c.aG.set i _).length;rw[eA];exact hi),Option.bind_some];simp only[zp9 _ _ _ _ hi,gK];have e5:({y with aX:=v.1,gen:=zp8 y.gen}:aF)=zaw1 x v.1 (zp8 x.gen):=by rw[hyr,hyg]
   have hnew:=hp.rest l2 (zap8 x.gen) hlv (λ n hnz=>by
    rw[hke]at hnz⊢;exact FitL.cut hp.held hp.led hk hnz) (λ j hj=>by
    obtain⟨b1,b2,b3⟩:=l3 j hj;refine⟨?_,b1⟩;rw[hke]
    by_cases e:zg0 x.aX.aD (c.aI.getD j aB.zero).aA.name=zg0 (x.aX.aD.take k) (c.aI.getD j aB.zero).aA.name
    .rcases b2 with b2|b2
     .rw[b2,e]
     .exact b2
    .obtain⟨a,ham,han⟩:=hkd _ e;exact b3 a ham han) c.now
   have g1:=g.upd (w:=⟨c,[]⟩) hi (by rw[hx];exact l2) (y:=zaw1 x v.1 (zp8 x.gen)) (by rw[hx];rfl) hnew ev2;obtain⟨w',s1,s2,s3⟩:=zaM3 g1 (eC (zbJ0 g1.len) (by simp only at l4⊢;omega)) λ z hz hwz=>(h.quiet z (zbd6 rfl z hz hwz) hwz).1;show∃r,(zm4 ⟨⟨c.now,t2,c.aG.set i {y with aX:=v.1,gen:=zp8 y.gen}⟩,ev2⟩).bind _=some r/\_;rw[e5,s1];exact⟨_,rfl,λ _=>⟨s2,s3.trans l2.cat⟩⟩
  show∃x',(if x.bF=true then _ else _)=some x'/\_;rcases hb x.bF with hw|hw
  case inr=>rw[bV (by rw[hw];decide)];have hrun:=hp.run hw;have:=fin x c.aI [] rfl (zcu0 hw hrun.1 hrun.2.1) rfl (by simp) (zaI6 h.t) (λ j hj=>hrun.2.2 _ (zd5 (z:=aB.zero) hj));rw[<-hx,zaJ8 _ _ _ hi]at this;exact this
  case inl=>
   rw[bX hw];obtain⟨t',ev,L,w1,w2,w3,w4,w5⟩:=zbD6 (w:=⟨c,[]⟩) g hi (by show(c.aG.getD i aF.zero).bF=true;rw[hx];exact hw) (eC (zbJ0 g.len) (by simp));rw[w1,Option.bind_some];have w3':Kept x.aK c.aI t':=by have:=w3;rw[show(⟨c,[]⟩:bB).c.aG.getD i aF.zero=x from hx]at this;exact this
   have w5':Left x c.aI t' L:=by have:=w5;rw[show(⟨c,[]⟩:bB).c.aG.getD i aF.zero=x from hx]at this;exact this
   have w4':zi4 x.aR.bN=some (L,true):=by have:=w4;rw[show(⟨c,[]⟩:bB).c.aG.getD i aF.zero=x from hx]at this;exact this
   have:=fin (zcn3 x) t' ([]++ev) rfl (λ l g=>rfl) rfl (by rw[List.nil_append];exact w2) w3' (zcn4 h.t hp hw w4' w5');show∃r,zy6 (i:Int) v ⟨⟨c.now,t',c.aG.set i (zcn3 (c.aG.getD i aF.zero))⟩,[]++ev⟩=some r/\_;rw[hx];exact this
 .rw[bX (by simp[c0])];exact⟨_,rfl,λ h=>absurd h c0⟩
theorem zdO6{c:aV}(h:CenV c)(k:bM):∃x,zN4 k ⟨c,[]⟩=some x/\Done c x:=by
 have g:=h.good [];have b1:∀{o:Option (Int×bB)},(∃x,o=some x/\Done c x)->∃x,(o.bind λ v=>some (v.1,v.2))=some x/\Done c x:=λ{o} ⟨x,hx,hd⟩=>⟨x,by rw[hx];rfl,hd⟩;have b2:∀{o:Option bB},(∃w',o=some w'/\CenV w'.c/\w'.c.aI.map (·.aA)=c.aI.map (·.aA))->∃x,(o.bind λ v=>some ((0:Int),v))=some x/\Done c x:=λ{o} ⟨x,hx,hd⟩=>⟨(0,x),by rw[hx];rfl,λ _=>hd⟩;have same:Done c (0,⟨c,[]⟩):=λ _=>⟨h,rfl⟩;unfold zN4
 by_cases k0:((decide (k.kind<1))||(decide (9<k.kind)))=true
 .rw[bX k0];exact⟨_,rfl,λ h=>nomatch h⟩
 rw[bV k0]
 by_cases k1:k.kind=1
 .rw[bX (cG k1)];exact b1 (zdw5 _ _ h)
 rw[bV (by simpa using k1)]
 by_cases k9:k.kind=9
 .rw[bX (cG k9)];exact b1 (zdw4 _ h)
 rw[bV (by simpa using k9)];obtain⟨v,i1,i2⟩:=zaE6 c.aG k.aK (by have:=h.len;omega);show∃x,(zi9 c.aG k.aK).bind _=some x/\_;rw[i1,Option.bind_some];rcases i2 with⟨rfl,_⟩|⟨i,rfl,hi,_⟩
 .exact⟨_,rfl,λ h=>nomatch h⟩
 have hp:=h.each _ (zd5 (z:=aF.zero) hi);have h3:0<=(i:Int)/\(i:Int)<((c.aG.length:Nat):Int):=by omega
 rw[bV (by simp)];show∃x,gd (0<=(i:Int)/\(i:Int)<((c.aG.length:Nat):Int)) _=some x/\_;rw[gdp h3];simp only[Int.toNat_natCast]
 by_cases k2:k.kind=2
 .rw[bX (cG k2)];exact b1 (zcG3 h hi _)
 rw[bV (by simpa using k2)]
 by_cases k3:k.kind=3
 .rw[bX (cG k3)];rcases hb (c.aG.getD i aF.zero).bF with hw|hw
  case inr=>rw[bX (by show(!(c.aG.getD i aF.zero).bF)=true;rw[hw];rfl)];exact⟨_,rfl,λ h=>nomatch h⟩
  case inl=>
   rw[bV (by show¬(!(c.aG.getD i aF.zero).bF)=true;rw[hw];decide)];obtain⟨w1,w2,r1,r2,r3,_,r6⟩:=zbu8 (w:=⟨c,[]⟩) g hi hw (eC (zbJ0 g.len) (by simp));rw[r1,Option.bind_some,r2,Option.bind_some];obtain⟨w3,s1,s2,s3⟩:=zaM3 r3.good (eC r3.bud (eC (zbJ0 g.len) (by simp))) λ x hx hwx=>by rw[r3.now];exact(h.quiet x (r3.wait x hx hwx) hwx).1
   show∃x,(zm4 w2).bind _=some x/\_;rw[s1];exact⟨_,rfl,λ _=>⟨s2,s3.trans r3.cat⟩⟩
 rw[bV (by simpa using k3)]
 by_cases k4:k.kind=4
 .rw[bX (cG k4)];exact b1 (zcG4 h hi _)
 rw[bV (by simpa using k4)]
 by_cases k5:k.kind=5
 .rw[bX (cG k5)];rcases hb (c.aG.getD i aF.zero).bF with hw|hw
  case inl=>rw[bX (by exact hw)];exact⟨_,rfl,λ h=>nomatch h⟩
  case inr=>
   have hrun:=hp.run hw;rw[bV (by show¬(c.aG.getD i aF.zero).bF=true;rw[hw];decide),gdp h3];obtain⟨r,s1,s2⟩:=zdf6 hp.led k.n;rw[s1,Option.bind_some]
   by_cases c0:r.2=0
   .rw[bV (by simp[c0]),gdp h3];obtain⟨l1,l2⟩:=s2 c0;have hn:=λ(y:aF)=>zat6 (i:=i) (w:=⟨⟨c.now,c.aI,c.aG.set i y⟩,[]⟩) (by show i<(c.aG.set i y).length;rw[eA];exact hi);rw[hn,Option.bind_some];simp only[zp9 _ _ _ _ hi,gK];rw[zcu0 hw hrun.1 hrun.2.1];have kr:=zaI6 (p:=(c.aG.getD i aF.zero).aK) h.t;have g1:=g.upd (w:=⟨c,[]⟩) hi kr (y:=zaw1 (c.aG.getD i aF.zero) r.1 (zp8 (c.aG.getD i aF.zero).gen)) rfl (hp.rest kr (zap8 _) l1 (by rw[l2];exact hp.held) (by rw[l2];exactλ j hj=>hrun.2.2 _ (zd5 hj)) c.now) [];exact⟨_,rfl,λ _=>⟨g1.cen (λ x hx hwx=>(h.quiet x (zbd6 rfl x hx hwx) hwx).2) (λ x hx hwx=>(h.quiet x (zbd6 rfl x hx hwx) hwx).1),rfl⟩⟩
   .rw[bX (by simp[c0])];exact⟨_,rfl,λ h=>absurd h c0⟩
 rw[bV (by simpa using k5)]
 by_cases k6:k.kind=6
 .rw[bX (cG k6)];exact b1 (zcu1 h hi _)
 rw[bV (by simpa using k6)]
 by_cases k8:k.kind=8
 .rw[bX (cG k8)];rcases hb (c.aG.getD i aF.zero).bF with hw|hw
  case inl=>rw[bX (by exact hw)];exact⟨_,rfl,λ h=>nomatch h⟩
  case inr=>rw[bV (by show¬(c.aG.getD i aF.zero).bF=true;rw[hw];decide)];exact b2 (zcG1 h hi)
 rw[bV (by simpa using k8)]
 by_cases k7:k.kind=7
 .rw[bX (cG k7)];exact b2 (zcG1 h hi)
 .rw[bV (by simpa using k7)];exact⟨_,rfl,same⟩
theorem zcG5{c:aV}(h:CenV c)(k:bM):∃x,zax8 c k=some x/\(x.2.2=0->CenV x.1/\x.1.aI.map (·.aA)=c.aI.map (·.aA)):=by
 unfold zax8;rw[zbp6 h,Option.bind_some,bV (by decide)];unfold zk4;rw[gdp (by have:=h.t.len;omega),gdp (by have:=h.len;omega),Option.bind_some];obtain⟨x,e,hd⟩:=zdO6 h k;show∃x,(zN4 k ⟨c,[]⟩).bind _=some x/\_;rw[e,Option.bind_some]
 by_cases c0:x.1=0
 .rw[bV (by simp[c0])];exact⟨_,rfl,λ _=>hd c0⟩
 .rw[bX (by simp[c0])];exact⟨_,rfl,λ h=>absurd h c0⟩
theorem zcG6{c:aV}(h:CenV c)(l:List bM)(hl:l.length<=100000):∃x,zax9 c l=some x/\CenV x/\x.aI.map (·.aA)=c.aI.map (·.aA):=by
 unfold zax9;obtain⟨x,h1,h2⟩:=zq9 (body:=zaJ1 l) (λ g=>∃k:Nat,g.1=k/\k<=l.length/\CenV g.2/\g.2.aI.map (·.aA)=c.aI.map (·.aA)) (λ g=>l.length-g.1.toNat) (λ x=>CenV x/\x.aI.map (·.aA)=c.aI.map (·.aA))
  (λ g ⟨k,hk,hkl,hv,hc⟩=>by
   obtain⟨g1,y⟩:=g;simp only at hk hv hc;subst hk;unfold zaJ1
   by_cases c:k<l.length
   .left;have h3:0<=(k:Int)/\(k:Int)<(l.length:Int):=by omega
    obtain⟨x,e,hx⟩:=zcG5 hv (l.getD k bM.zero);simp only[h3.1,h3.2,cS,zg9,cA,cC,Int.toNat_natCast,zc4 k (show k<4611686018427387904 by omega),e,Option.bind_some]
    by_cases c0:x.2.2=0
    .rw[bX (cG c0)];exact⟨_,rfl,⟨k+1,rfl,c,(hx c0).1,(hx c0).2.trans hc⟩,by simp only[Int.toNat_natCast];omega⟩
    .rw[bV (by simpa using c0)];exact⟨_,rfl,⟨k+1,rfl,c,hv,hc⟩,by simp only[Int.toNat_natCast];omega⟩
   .right;simp only[show¬(k:Int)<(l.length:Int)by omega,cJ,bT,cB];exact⟨_,rfl,hv,hc⟩) (0,c) ⟨0,rfl,by omega,h,rfl⟩
 rw[h1];exact⟨_,rfl,h2⟩
theorem zdG0{l:List aH}(h:catV l=true):CenV ⟨0,l.map zau8,[]⟩:=by refine⟨⟨iO _,by show(0:Int)<=1073741824;decide⟩,zcm5 h,fD _,(λ x hx=>nomatch hx),.nil,λ p hp=>?_,λ x hx=>nomatch hx⟩;obtain⟨q,hq,hh⟩:=(zV0 (zcm5 h).each).1 hp;obtain⟨r,_,rfl⟩:=cI.1 hq;rw[zcm4]at hh;cases hh
structure Adv (u u':bL):Prop where
 ok:TapeOk u'
 l:u'.l=u.l
 at_:u.at_<=u'.at_
theorem Adv.trans{a b c:bL}(h:Adv a b)(k:Adv b c):Adv a c:=⟨k.ok,k.l.trans h.l,Int.le_trans h.at_ k.at_⟩
theorem Adv.refl{a:bL}(h:TapeOk a):Adv a a:=⟨h,rfl,iO _⟩
theorem zbD7{u:bL}(h:TapeOk u):Adv u (zT5 u):=⟨zaE1 h,zcW1 u,by
 unfold zT5;split
 .exact iO _
 .show u.at_<=u.at_+1;omega⟩
theorem zaw2{m:Int}(h1:1<=m)(h2:m<=1000000){u:bL}(h:TapeOk u):∃v u',zb9 m u=some (v,u')/\Adv u u'/\0<=v/\v<m:=by have:=zai8 m u h1;exact⟨_,_,zbg0 m u h h1 h2,zbD7 h,this.1,this.2⟩
theorem zdh1{m:Int}(h1:1<=m)(h2:m<=1048576){u:bL}(h:TapeOk u):∃v u',zb9 m u=some (v,u')/\Adv u u':=by
 unfold zb9;have hl:=h.len;have ha:=h.at_
 by_cases c:(u.l.length:Int)<=u.at_
 .rw[bX (by simpa using c)];exact⟨_,_,rfl,Adv.refl h⟩
 .rw[bV (by simpa using c)];have w1:IntKind.i64.wrap (u.at_+1)=u.at_+1:=zj1 (by omega) (by omega);have w2:IntKind.i64.wrap (u.at_+1-1)=u.at_:=by rw[zj1 (by omega) (by omega)];omega
  simp only[w1,w2];rw[gdp (by omega)];have hm:∃v,zp2 (u.l.getD u.at_.toNat 0) m=some v:=by unfold zp2;rw[bV (by simp;omega),gdp (by omega)];split<;>exact⟨_,rfl⟩
  obtain⟨v,hv⟩:=hm;rw[hv];exact⟨_,_,rfl,⟨hl,by simp only;omega⟩,rfl,by simp only;omega⟩
theorem zcn6(atoms:List aJ)(ha:1<=atoms.length)(hb:atoms.length<=1000):∀(n:Nat) (d:Int),0<=d->d.toNat<n->d<=10->∀u,TapeOk u->∃e u',zU2 n atoms d u=some (e,u')/\Adv u u'
 |0,_,_,h,_,_,_=>by omega
 |n+1,d,h0,hd,h10,u,hu=>by
  show∃e u',zaf6 (zU2 n) atoms d u=some (e,u')/\_;unfold zaf6;have first:∃v u1,(if(!decide (d=0))=true then zb9 4 u else some (0,u))=some (v,u1)/\Adv u u1:=by
   split
   .obtain⟨v,u1,h1,h2,_⟩:=zaw2 (m:=4) (by decide) (by decide) hu;exact⟨v,u1,h1,h2⟩
   .exact⟨0,u,rfl,Adv.refl hu⟩
  obtain⟨v,u1,e1,a1⟩:=first
  rw[e1,Option.bind_some]
  by_cases c:((decide (d=0))||(decide (v=0)))=true
  .rw[bX c];obtain⟨v2,u2,e2,a2,r1,r2⟩:=zaw2 (m:=(atoms.length:Int)) (by omega) (by omega) a1.ok;rw[e2,Option.bind_some,gdp ⟨r1,r2⟩];exact⟨_,_,rfl,a1.trans a2⟩
  .rw[bV c];have hd1:1<=d:=by
    simp only[dI,bY,kD]at c;omega
   obtain⟨v3,u3,e3,a3,r1,r2⟩:=zaw2 (m:=3) (by decide) (by decide) a1.ok;rw[e3,Option.bind_some];have w3:IntKind.i64.wrap (1+v3)=1+v3:=zj1 (by omega) (by omega);simp only[w3];obtain⟨v4,u4,e4,a4,r3,r4⟩:=zaw2 (m:=1+v3) (by omega) (by omega) a3.ok;rw[e4,Option.bind_some];have hA:=(a1.trans a3).trans a4;obtain⟨x,l1,l2⟩:=zq9 (body:=zam4 (zU2 n) atoms d (v3,u3)) (λ g=>∃k:Nat,g.1=k/\k<=4/\Adv u g.2.1/\g.2.2.bE.length<=k) (λ g=>4-g.1.toNat) (λ x=>Adv u x.1)
    (λ g ⟨k,hk,hk4,hA,hkl⟩=>by
     obtain⟨g1,t,e⟩:=g;simp only at hk hA hkl;subst hk;unfold zam4;simp only[w3]
     by_cases ck:(k:Int)<1+v3
     .left;rw[bX (by simpa using ck)];have wd:IntKind.i64.wrap (d-1)=d-1:=zj1 (by omega) (by omega);obtain⟨e5,u5,e6,a6⟩:=zcn6 atoms ha hb n (d-1) (by omega) (by omega) (by omega) t hA.ok;rw[wd,e6,Option.bind_some,gdp (by omega),zc4 k (by omega)];exact⟨_,rfl,⟨k+1,rfl,by omega,hA.trans a6,by simp only[cD,List.length_singleton];omega⟩,by simp only[Int.toNat_natCast];omega⟩
     .right;rw[bV (by simpa using ck)];exact⟨_,rfl,hA⟩) (0,u4,(⟨(IntKind.i64.wrap (1+v4)),(⟨aJ.zero.name,(⟨aJ.zero.aM.mode,aJ.zero.aM.aS⟩:aC)⟩:aJ),[]⟩:aO)) ⟨0,rfl,by omega,hA,by simp⟩
   rw[l1,Option.bind_some];exact⟨_,_,rfl,l2⟩
theorem zdw8(l:List aH)(hl:1<=l.length)(hl2:l.length<=10)(hs:∀r∈l,zg4 r=true){u:bL}(hu:TapeOk u):∃e u',zu1 l u=some (e,u')/\Adv u u':=by
 unfold zu1;obtain⟨v1,u1,e1,a1⟩:=zdh1 (m:=1048576) (by decide) (by decide) hu;rw[e1,Option.bind_some];obtain⟨x,l1,l2⟩:=zq9 (body:=zar9 l (v1,u1)) (λ g=>∃k:Nat,g.1=k/\k<=l.length/\g.2.length=k) (λ g=>l.length-g.1.toNat) (λ x=>x.length=l.length)
  (λ g ⟨k,hk,hkl,hg⟩=>by
   obtain⟨g1,s⟩:=g;simp only at hk hg;subst hk;unfold zar9
   by_cases c:k<l.length
   .left;have h3:0<=(k:Int)/\(k:Int)<(l.length:Int):=by omega
    have w1:IntKind.i64.wrap (3*(k:Int))=3*(k:Int):=zj1 (by omega) (by omega);have w2:0<=IntKind.u64.wrap (3*(k:Int)):=by unfold IntKind.wrap;simp only[IntKind.signed,eN,bT,cB];exact jI _ (by decide)
    simp only[h3.1,h3.2,cS,zg9,cA,cC,Int.toNat_natCast,zc4 k (show k<4611686018427387904 by omega),w1];rw[gdp w2,zbZ9 _ _ (hs _ (zd5 c)),Option.bind_some,gdp (by omega)];exact⟨_,rfl,⟨k+1,rfl,c,by simp only[cD,List.length_singleton];omega⟩,by simp only[Int.toNat_natCast];omega⟩
   .right;simp only[show¬(k:Int)<(l.length:Int)by omega,cJ,bT,cB];exact⟨_,rfl,by omega⟩) (0,[]) ⟨0,rfl,by omega,rfl⟩
 rw[l1,Option.bind_some];unfold zaG7 zr1;obtain⟨e,u2,e2,a2⟩:=zcn6 x (by omega) (by omega) ((2:Int).toNat+1) 2 (by decide) (by decide) (by decide) u1 a1.ok;rw[e2];exact⟨_,_,rfl,a1.trans a2⟩
theorem zdw9(l:List aH)(hl:1<=l.length)(hl2:l.length<=10)(hs:∀r∈l,zg4 r=true){u:bL}(hu:TapeOk u):∃e u',zs8 l u=some (e,u')/\Adv u u':=by
 unfold zs8;obtain⟨v1,u1,e1,a1,_⟩:=zaw2 (m:=8) (by decide) (by decide) hu;obtain⟨v2,u2,e2,a2,_⟩:=zaw2 (m:=5) (by decide) (by decide) a1.ok;rw[e1,Option.bind_some,e2,Option.bind_some];have k1:∀(t:bL) (r:bH),Adv u t->∃e u',zN7 l (t,r)=some (e,u')/\Adv u u':=λ t r ht=>by unfold zN7;obtain⟨e,u3,e3,a3⟩:=zdw8 l hl hl2 hs ht.ok;rw[e3];exact⟨_,_,rfl,ht.trans a3⟩
 split
 .obtain⟨v3,u3,e3,a3,_⟩:=zaw2 (m:=20) (by decide) (by decide) a2.ok;rw[e3,Option.bind_some];exact k1 _ _ ((a1.trans a2).trans a3)
 .exact k1 _ _ (a1.trans a2)
theorem zcG7(l:List aH)(hl:1<=l.length)(hl2:l.length<=10)(hs:∀r∈l,zg4 r=true){u:bL}(hu:TapeOk u):∃e u',zB6 l u=some (e,u')/\Adv (zT5 u) u':=by
 unfold zB6;rw[zbg0 16 u hu (by decide) (by decide),Option.bind_some];have a1:=zbD7 hu;obtain⟨v2,u2,e2,a2,_⟩:=zaw2 (m:=6) (by decide) (by decide) a1.ok;rw[e2,Option.bind_some,zbC9,Option.bind_some];have nx:∀(m:Int),1<=m->m<=1000000->∃v u3,zb9 m u2=some (v,u3)/\Adv (zT5 u) u3/\0<=v/\v<m:=λ m h1 h2=>by obtain⟨v,u3,e3,a3,r⟩:=zaw2 h1 h2 a2.ok;exact⟨v,u3,e3,a2.trans a3,r⟩
 split
 .obtain⟨v,u3,e3,a3,_⟩:=nx 9 (by decide) (by decide);rw[e3];exact⟨_,_,rfl,a3⟩
 split
 .obtain⟨e,u3,e3,a3⟩:=zdw9 l hl hl2 hs a2.ok;rw[e3];exact⟨_,_,rfl,a2.trans a3⟩
 split
 .exact⟨_,_,rfl,a2⟩
 split
 .obtain⟨v,u3,e3,a3,r1,r2⟩:=nx (l.length:Int) (by omega) (by omega);rw[e3,Option.bind_some,gdp ⟨r1,r2⟩];exact⟨_,_,rfl,a3⟩
 split
 .obtain⟨v,u3,e3,a3,_⟩:=nx 4 (by decide) (by decide);rw[e3];exact⟨_,_,rfl,a3⟩
 split
 .obtain⟨v,u3,e3,a3,_⟩:=nx 5 (by decide) (by decide);rw[e3];exact⟨_,_,rfl,a3⟩
 split
 .exact⟨_,_,rfl,a2⟩
 split
 .exact⟨_,_,rfl,a2⟩
 .obtain⟨v,u3,e3,a3,_⟩:=nx 12 (by decide) (by decide);rw[e3];exact⟨_,_,rfl,a3⟩
theorem zcn7:∀(n:Nat) {u:bL},TapeOk u->Adv u (zaT1 n u)
 |0,u,h=>Adv.refl h
 |n+1,u,h=>by have:=zcn7 n (zaE1 h);exact(zbD7 h).trans this
theorem zcQ4{l:List Int}(hl:l.length<=300):∃k,zM0 l=some (catL {bL.zero with l:=l},k)/\k.length<=1000:=by
 unfold zM0;have h0:TapeOk {bL.zero with l:=l}:=⟨by simp only;omega,by show 0<=(0:Int)/\(0:Int)<=l.length;omega⟩;rw[zcN3 _ h0,Option.bind_some];have hA:=zcn7 8 h0;have hsh:=zbM2 {bL.zero with l:=l};obtain⟨x,l1,l2⟩:=zq9 (body:=zas8) (λ g=>∃k:Nat,g.1=k/\k<=4/\Adv {bL.zero with l:=l} g.2.1/\g.2.2.length<=k) (λ g=>4-g.1.toNat) (λ x=>Adv {bL.zero with l:=l} x.1/\x.2.length<=4)
  (λ g ⟨k,hk,hk4,hA,hkl⟩=>by
   obtain⟨g1,t,s⟩:=g;simp only at hk hA hkl;subst hk;unfold zas8
   by_cases ck:k<4
   .left;rw[bX (by simp;omega),zbC9,Option.bind_some];obtain⟨v,u,e,a,_⟩:=zaw2 (m:=9) (by decide) (by decide) hA.ok;simp only[e,Option.bind_some];rw[gdp (by omega),zc4 k (by omega)];exact⟨_,rfl,⟨k+1,rfl,by omega,hA.trans a,by simp only[cD,List.length_singleton];omega⟩,by simp only[Int.toNat_natCast];omega⟩
   .right;rw[bV (by simp;omega)];exact⟨_,rfl,hA,by simp only;omega⟩) (0,zaT1 8 {bL.zero with l:=l},[]) ⟨0,rfl,by omega,hA,by simp⟩
 rw[l1,Option.bind_some];unfold zas7;obtain⟨t0,s0⟩:=x;simp only at l2;obtain⟨y,m1,m2⟩:=zq9 (body:=zas6 (catL {bL.zero with l:=l},zaT1 8 {bL.zero with l:=l})) (λ g=>Adv {bL.zero with l:=l} g.1/\(g.2.length:Int)<=4+g.1.at_) (λ g=>l.length-g.1.at_.toNat) (λ y=>y.length<=1000)
  (λ g ⟨hA,hg⟩=>by
   obtain⟨t,s⟩:=g;simp only at hA hg;have htl:t.l.length=l.length:=by rw[hA.l]
   have hta:=hA.ok.at_;unfold zas6 zf4;rw[Option.bind_some]
   by_cases c:t.at_<(t.l.length:Int)
   .left;rw[bX (by simpa using c)];obtain⟨e,u,e1,a1⟩:=zcG7 (catL {bL.zero with l:=l}) (by unfold catL;simp) (by unfold catL;simp) hsh hA.ok;simp only[e1,Option.bind_some];rw[gdp (by omega)];have hn:(zT5 t).at_=t.at_+1:=by unfold zT5;rw[bV (by omega)]
    have:=a1.at_;rw[hn]at this;have hul:=a1.ok.at_;have:u.l.length=l.length:=by rw[a1.l,zcW1,htl]
    exact⟨_,rfl,⟨(hA.trans (zbD7 hA.ok)).trans a1,by simp only[cD,List.length_singleton];omega⟩,by simp only;omega⟩
   .right;rw[bV (by simpa using c)];exact⟨_,rfl,by simp only;omega⟩) (t0,s0) ⟨l2.1,by have:=l2.2;have:=l2.1.ok.at_;simp only;omega⟩
 rw[m1,Option.bind_some];exact⟨_,rfl,m2⟩
theorem zcG8{l:List Int}(hl:l.length<=300):∃c,zah7 l=some c/\CenV c/\c.aI.length=6:=by
 unfold zah7;obtain⟨k,h1,h2⟩:=zcQ4 hl;have hc:=zdv4 {bL.zero with l:=l};have hnew:newT (catL {bL.zero with l:=l})=((catL {bL.zero with l:=l}).map zau8,0):=by unfold newT;rw[bX hc]
 have hn:zai6 (catL {bL.zero with l:=l})=some (⟨0,(catL {bL.zero with l:=l}).map zau8,[]⟩,0):=by unfold zai6;rw[zct2,Option.bind_some,hnew];rfl
 rw[h1,Option.bind_some];simp only[hn,Option.bind_some];obtain⟨c,h4,h5,h6⟩:=zcG6 (zdG0 hc) k (by omega);rw[h4];refine⟨c,rfl,h5,?_⟩;have:=dG List.length h6;simp only[dB]at this;rw[this];unfold catL;rfl
def zP1(x:aF):Option bP:=if x.bF=true then some ⟨x.aK,x.aR.bN,x.gen⟩else none
theorem zaU8{x:aF}{n:bP}(h:zP1 x=some n):x.bF=true/\n=⟨x.aK,x.aR.bN,x.gen⟩:=by
 unfold zP1 at h;split at h
 .rename_i c;cases h;exact⟨c,rfl⟩
 .cases h
theorem zdG1{p q:aL}(h:ltP p q):cmpP p q<0:=by rw[zbq6,bX h];decide
theorem zcG9{c:aV}(h:CenV c):zct0 ⟨c.aI,c.aG.filterMap zP1⟩=true:=by
 have hfl:=eZ zP1 c.aG;have hl:=h.len;have hmem:∀n∈c.aG.filterMap zP1,∃x∈c.aG,x.bF=true/\n=⟨x.aK,x.aR.bN,x.gen⟩:=λ n hn=>by obtain⟨x,hx,e⟩:=eJ.1 hn;exact⟨x,hx,zaU8 e⟩
 have hpw:(c.aG.filterMap zP1).Pairwise λ a b=>ltP a.aK b.aK:=by rw[jP];refine h.asc.imp λ{a b} hab n hn m hm=>?_;rw[(zaU8 hn).2,(zaU8 hm).2];exact hab
 unfold zct0;simp only[bU,bY];refine⟨⟨⟨(zbg1 _).2 ⟨h.t.len,h.t.each,h.t.asc⟩,by omega⟩,?_⟩,?_⟩
 .unfold zcb6;rw[fH];intro i hi;rw[eX]at hi;have gg:∀k,(hk:k<(c.aG.filterMap zP1).length)->(c.aG.filterMap zP1).getD k bP.zero=(c.aG.filterMap zP1)[k]:=λ k hk=>by rw[bW,bZ hk];rfl
  obtain⟨x,hx,hw,e⟩:=hmem _ (zd5 (z:=bP.zero) hi);have hp:=h.each x hx;unfold zcE2;have hord:(decide (i=0)||decide (cmpP ((c.aG.filterMap zP1).getD (i-1) bP.zero).aK ((c.aG.filterMap zP1).getD i bP.zero).aK<0))=true:=by
   by_cases c0:i=0
   .simp[c0]
   .have:=dU.1 hpw (i-1) i (by omega) hi (by omega);rw[gg _ (by omega),gg _ hi,cG (zdG1 this),jT]
  rw[hord,e];simp only[hp.pv,(hp.wait hw).ve,cK,fM,bY,bU];exact hp.gen
 .unfold zcs9;refine eC (dL (zbr5 (zbr4 _)) (l₂:=c.aG.map (·.aK)) λ p hp=>?_) (by simpa using hl);rw[zbc8,cR]at hp;rcases hp with hp|hp
  .obtain⟨x,hx,e⟩:=h.aG p hp;exact cI.2 ⟨x,hx,e⟩
  .obtain⟨n,hn,e⟩:=cI.1 hp;obtain⟨x,hx,_,e2⟩:=hmem n hn;exact cI.2 ⟨x,hx,by rw[<-e,e2]⟩
open Go.Lib
def okI(x:Int):Prop:=0<=x/\x<=1073741824
def okA(a:aC):Prop:=okI a.mode/\okI a.aS
theorem zdh2{s:ByteArray}(h:zE5 s=true):s.size<=12:=by unfold zE5 at h;simp at h;omega
structure OkQ (q:aB):Prop where
 name:q.aA.name.size<=1024
 kind:okI q.aA.kind
 aS:okI q.aA.aS
 home:okI q.aA.home
 gen:okI q.gen
 lh:q.aP.length<=8
 lc:q.aN.length<=8
 lw:q.aT.length<=8
 h:∀x∈q.aP,zd2 x.aK=true/\okA x.aM
 c:∀x∈q.aN,zd2 x.aK=true/\okA x.aM/\x.aZ=0/\x.bR=0
 w:∀x∈q.aT,zd2 x.aK=true/\okA x.aM/\okI x.aZ/\okI x.bR
theorem zcQ5{l:List aU}(h:zZ3 l=true){w:aU}(hw:w∈l):zm9 w=true:=by unfold zZ3 at h;simp only[bU,bY,fH,eX]at h;obtain⟨i,hi,e⟩:=fO hw;have:=(h.2 i hi).1;rw[bW,bZ hi]at this;simp only[Option.getD_some,e]at this;exact this
theorem zcu2{r:aH}{a:aC}(h:za2 r a=true)(hs:r.aS<=1073741824):okA a:=by rw[zF1]at h;unfold okA okI;omega
theorem zcQ6{q:aB}(h:zj6 q=true):OkQ q/\q.aA.name.size<=12:=by
 have hs:=((zw3 q).1 h).1;have hl:=zak3 h;have hr:=hs.res;unfold resV at hr;simp only[bU,bY]at hr;have hn:=zdh2 hr.1;have hsh:=(zK2 _).1 hr.2.1;have hu:q.aA.aS<=1073741824:=by omega
 refine⟨⟨by omega,by unfold okI;omega,by unfold okI;omega,by unfold okI;omega,hs.gen,hl.1,hl.2.1,hl.2.2.1,λ x hx=>?_,λ x hx=>?_,λ x hx=>?_⟩,hn⟩
 .have:=((zU8 _ _).1 hs.hv).2.2.1.each x hx;exact⟨this.1,zcu2 this.2 hu⟩
 .have:=zcc0 hs (w:=x) (by unfold ordQ;exact cR.2 (.inl hx));have h2:=hs.cg x hx;exact⟨this.1,zcu2 this.2.1 hu,h2.2.2.2.2.1,h2.2.2.2.2.2⟩
 .have:=zcc0 hs (w:=x) (by unfold ordQ;exact cR.2 (.inr hx));have h2:=zcQ5 hs.wv hx;unfold zm9 at h2;simp only[bU,bY]at h2;exact⟨this.1,zcu2 this.2.1 hu,by unfold okI;omega,by unfold okI;omega⟩
theorem zdT9{e:aO}(h:vE e=true):okE e=true/\fitE e=true:=by
 unfold vE at h;rw[bU]at h;refine⟨?_,h.1⟩;have h2:=h.2;unfold zak9 at h2;split at h2
 .assumption
 .cases h2
theorem zcn8{X:Type}{body:Int->Option (Int⊕(Unit⊕X))}(n:Nat)(h:∀i:Nat,i<n->body (i:Int)=some (.inl ((i:Int)+1)))(he:body (n:Int)=some (.inr (.inl ()))):zc2 body 0=some (.inl ()):=by
 rw[zN5 n (λ _=>none) (Sum.inl ()) (λ i hi=>h i hi) he];have:∀k i,zR0 (λ _:Nat=>(none:Option (Unit⊕X))) k i=none:=by
  intro k;induction k with
  |zero=>intro i;rfl
  |succ k ih=>intro i;simp only[zR0];exact ih (i+1)
 rw[this];rfl
theorem zce3:∀(n:Nat) (e:aO),_root_.SizeOf.sizeOf e<n->zr9 e<=24->zH3 n e e=some true
 |0,_,h,_=>by omega
 |n+1,e,h,hn=>by
  show zF8 (zH3 n) e e=_;have hl:=zK3 e.bE;have hne:=zX9 e;unfold zF8;rw[bX (by simp)];unfold za0;rw[bV (by simp),zcn8 e.bE.length (λ i hi=>by
   unfold zr6;have hk:=zd5 (z:=aO.zero) hi;rw[bX (by simpa using hi),gdp (by omega),gdp (by omega)];simp only[Int.toNat_natCast];rw[zce3 n _ (zaq2 h hk) (by have:=zbH9 hk;omega),Option.bind_some,bV (by simp),zj1 (by omega) (by omega)]) (by unfold zr6;simp)]
  show some ((decide (e.k=e.k)&&decide (e.bG=e.bG))&&true)=_;simp
theorem zbd7{p q:aL}:cmpP p q=0↔p=q:=by
 rw[zbq6];constructor
 .intro h
  by_cases e:p=q
  .exact e
  .rcases zat1 e with c|c
   .rw[bX c]at h;cases h
   .rw[bV (zbc0 c),bX c]at h;cases h
 .rintro rfl;have:=zR1 p;rw[bV this,bV this]
def zdI2(l:List bP)(p:aL)(i:Nat):Prop:=i<l.length/\(l.getD i bP.zero).aK=p/\∀j,j<i->(l.getD j bP.zero).aK≠p
theorem zdx0(l:List bP)(p:aL)(hl:l.length<=1000):∃v,zr7 l p=some v/\((v<0/\∀j,j<l.length->(l.getD j bP.zero).aK≠p)\/∃i:Nat,v=i/\zdI2 l p i):=by
 unfold zr7 zc5;obtain⟨x,h1,h2⟩:=zq9 (body:=zy4 l) (λ g=>g.2=p/\∃k:Nat,g.1=k/\k<=l.length/\∀j,j<k->(l.getD j bP.zero).aK≠p) (λ g=>l.length-g.1.toNat)
  (λ x=>match x with|.inl _=>∀j,j<l.length->(l.getD j bP.zero).aK≠p|.inr v=>∃i:Nat,v.1=i/\zdI2 l p i) (λ g ⟨hp,k,hg,hk,hn⟩=>by
   obtain⟨g1,g2⟩:=g;simp only at hp hg;subst hp;subst hg;unfold zy4
   by_cases c:k<l.length
   .rw[bX (by simpa using c),gdp (by simp only;omega)];unfold zh6;rw[zR2,Option.bind_some,Option.bind_some];simp only[Int.toNat_natCast]
    by_cases e:(l.getD k bP.zero).aK=g2
    .rw[bX (by simpa using zbd7.2 e)];exact .inr ⟨_,rfl,k,rfl,c,e,hn⟩
    .rw[bV (by simpa usingλ h=>e (zbd7.1 h)),zc4 k (by omega)];exact .inl ⟨_,rfl,⟨rfl,k+1,rfl,c,λ j hj=>by
      by_cases h:j=k
      .rw[h];exact e
      .exact hn j (by omega)⟩,by simp only[Int.toNat_natCast];omega⟩
   .rw[bV (by simpa using c)];exact .inr ⟨_,rfl,λ j hj=>hn j (by omega)⟩) (0,p) ⟨rfl,0,rfl,by omega,λ j hj=>by omega⟩
 rw[h1,Option.bind_some];cases x with
 |inl z=>exact⟨-1,rfl,.inl ⟨by decide,h2⟩⟩
 |inr z=>obtain⟨i,h3,h4⟩:=h2;exact⟨z.1,rfl,.inr ⟨i,h3,h4⟩⟩
theorem zbD8:∀(n:Nat) (e:aO),_root_.SizeOf.sizeOf e<n->zr9 e<=24->zF5 n e=some e
 |0,_,h,_=>by omega
 |n+1,e,h,hn=>by
  show zB3 (zF5 n) e=_;have hl:=zK3 e.bE;have hne:=zX9 e;unfold zB3;obtain⟨x,h1,h2⟩:=zq9 (body:=zR7 (zF5 n) e) (λ g=>∃k:Nat,g.1=k/\k<=e.bE.length/\g.2=e.bE.take k) (λ g=>e.bE.length-g.1.toNat) (λ x=>x=e.bE)
   (λ g ⟨k,hg,hk,hs⟩=>by
    obtain⟨g1,g2⟩:=g;simp only at hg hs;subst hg;subst hs;unfold zR7;simp only[Int.toNat_natCast]
    by_cases c:k<e.bE.length
    .have hm:=zd5 (z:=aO.zero) c;have hlt:=List.length_take_le k e.bE;rw[bX (by simpa using c),gdp (by omega),zbD8 n _ (zaq2 h hm) (by have:=zbH9 hm;omega),Option.bind_some,gdp (by omega),zc4 k (by omega),<-zx3 aO.zero c];exact .inl ⟨_,rfl,⟨k+1,rfl,c,rfl⟩,by simp only[Int.toNat_natCast];omega⟩
    .rw[bV (by simpa using c)];exact .inr ⟨_,rfl,dO (by omega)⟩) (0,[]) ⟨0,rfl,by omega,rfl⟩
  rw[h1,Option.bind_some];unfold zad1;rw[h2];exact dG some (by cases e;rfl)
theorem zbD9{n:bP}(h:vE n.bN=true):ze2 n=some n:=by have hf:=(zdT9 h).2;unfold fitE at hf;simp only[bU,bY]at hf;unfold ze2 ze1;rw[zbD8 _ _ (eV _) hf.2];rfl
theorem zch2{q:aB}(h:OkQ q):zd7 q=some q:=by have l1:=h.lh;have l2:=h.lc;have l3:=h.lw;unfold zd7 zb2 zb1;rw[gdp (by omega),gdp (by omega),gdp (by omega)];rfl
theorem zbJ2(l:List aF)(p:aL)(hl:l.length<=1000):∃v,zx0 l p=some v/\(v=-1/\(∀x∈l,x.aK≠p)\/∃i:Nat,v=i/\i<l.length/\(l.getD i aF.zero).aK=p):=by
 unfold zx0 zb8;obtain⟨x,h1,h2⟩:=zq9 (body:=zv2 l) (λ g=>g.2=p/\∃k:Nat,g.1=k/\k<=l.length/\∀j,j<k->(l.getD j aF.zero).aK≠p) (λ g=>l.length-g.1.toNat)
  (λ x=>match x with|.inl _=>∀x∈l,x.aK≠p|.inr v=>∃i:Nat,v.1=i/\i<l.length/\(l.getD i aF.zero).aK=p) (λ g ⟨hp,k,hg,hk,hn⟩=>by
   obtain⟨g1,g2⟩:=g;simp only at hp hg;subst hp;subst hg;unfold zv2
   by_cases c:k<l.length
   .rw[bX (by simpa using c),gdp (by simp only;omega)];unfold zk0;rw[zR2,Option.bind_some,Option.bind_some];simp only[Int.toNat_natCast]
    by_cases e:(l.getD k aF.zero).aK=g2
    .rw[bX (by simpa using zbd7.2 e)];exact .inr ⟨_,rfl,k,rfl,c,e⟩
    .rw[bV (by simpa usingλ h=>e (zbd7.1 h)),zc4 k (by omega)];exact .inl ⟨_,rfl,⟨rfl,k+1,rfl,c,λ j hj=>by
      by_cases h:j=k
      .rw[h];exact e
      .exact hn j (by omega)⟩,by simp only[Int.toNat_natCast];omega⟩
   .have e:k=l.length:=by omega
    subst e;rw[bV (by simp)];exact .inr ⟨_,rfl,zad0.1 hn⟩) (0,p) ⟨rfl,0,rfl,by omega,λ j hj=>by omega⟩
 rw[h1];cases x with
 |inl x=>exact⟨-1,rfl,.inl ⟨rfl,h2⟩⟩
 |inr v=>obtain⟨i,h3,h4⟩:=h2;exact⟨v.1,rfl,.inr ⟨i,h3,h4⟩⟩
theorem zcu3(L:List aJ)(q:aB)(hL:L.length<=1000):za6 L q=some (match L.findIdx? (λ a=>decide (a.name=q.aA.name))with|some i=>((i:Int),q)|none=>(-1,q)):=by
 unfold za6;have hbody:∀g:Int,zu7 L (g,q)=(if(decide (g<(L.length:Int)))=true then gd (0<=g/\g<(L.length:Int))<|(if(L.getD g.toNat aJ.zero).name=q.aA.name then some (.inr (.inr (g,q)))else some (.inl (IntKind.i64.wrap (g+1),q)))else some (.inr (.inl q))):=λ g=>by unfold zu7 zc8;simp only[Option.bind_some,zP0,bY]
 obtain⟨x,h1,h2⟩:=zq9 (body:=zu7 L) (λ g=>∃i:Nat,g=((i:Int),q)/\i<=L.length/\∀j,j<i->(L.getD j aJ.zero).name≠q.aA.name) (λ g=>L.length-g.1.toNat)
  (λ x=>x=(match L.findIdx? (λ a=>decide (a.name=q.aA.name))with|some i=>.inr ((i:Int),q)|none=>.inl q))
  (λ g ⟨i,hg,hle,hn⟩=>by
   subst hg;rw[hbody]
   by_cases c:i<L.length
   .have h3:0<=(i:Int)/\(i:Int)<(L.length:Int):=by omega
    simp only[h3.1,h3.2,cS,zg9,cA,cC,Int.toNat_natCast,zc4 i (show i<4611686018427387904 by omega)]
    by_cases d:(L.getD i aJ.zero).name=q.aA.name
    .rw[bX d];refine .inr ⟨_,rfl,?_⟩;have:L.findIdx? (λ a=>decide (a.name=q.aA.name))=some i:=by
      refine eT.2 ⟨c,?_,λ j hj=>?_⟩
      .rw[bW,bZ c]at d;exact cG d
      .have:=hn j hj;rw[bW,bZ (by omega)]at this
       simpa using this
     rw[this]
    .rw[bV d];refine .inl ⟨_,rfl,⟨i+1,rfl,c,λ j hj=>?_⟩,by simp only[Int.toNat_natCast];omega⟩;rcases fS j i with h|h
     .exact hn j h
     .have:j=i:=by omega
      subst this;exact d
   .have e:i=L.length:=by omega
    subst e;simp only[eR,cJ,bT,cB];refine .inr ⟨_,rfl,?_⟩;have:L.findIdx? (λ a=>decide (a.name=q.aA.name))=none:=by refine fJ.2 λ x hx=>?_;obtain⟨j,hj,rfl⟩:=zt8 (z:=aJ.zero) hx;exact eE (hn j hj)
    rw[this]) (0,q) ⟨0,rfl,by omega,λ j hj=>by omega⟩
 rw[h1,h2];cases L.findIdx? (λ a=>decide (a.name=q.aA.name))<;>rfl
theorem zcQ7(q:aB)(x:aF)(n:Int)(hl:q.aT.length<=1000):zc2 (zB5 x (n,q)) 0=some (.inr false)/\(¬∀w∈q.aT,w.aK=x.aK->w.aZ=x.aR.aZ)\/zc2 (zB5 x (n,q)) 0=some (.inl ())/\∀w∈q.aT,w.aK=x.aK->w.aZ=x.aR.aZ:=by
 have key:=zV2 (body:=zB5 x (n,q)) q.aT.length (λ i=>(q.aT.getD i aU.zero).aK=x.aK->(q.aT.getD i aU.zero).aZ=x.aR.aZ) (λ i hi=>by
  unfold zB5;have h3:0<=(i:Int)/\(i:Int)<(q.aT.length:Int):=by omega
  simp only[h3.1,h3.2,cS,zg9,cA,cC,Int.toNat_natCast,zc4 i (show i<4611686018427387904 by omega),zR2,Option.bind_some,zbd7]
  by_cases c:(q.aT.getD i aU.zero).aK=x.aK/\(q.aT.getD i aU.zero).aZ≠x.aR.aZ
  .rw[bX (by rw[cG c.1,eE c.2];rfl)];exact⟨false,rfl,(λ h=>nomatch h),λ h=>absurd (h c.1) c.2⟩
  .rw[bV (by
    simp only[bU,bY,cP,cL];exact c)]
   exact⟨true,rfl,λ _ h=>jD λ h2=>c ⟨h,h2⟩,λ _=>rfl⟩) (by unfold zB5;simp)
 have hm:=zad0 (P:=λ w:aU=>w.aK=x.aK->w.aZ=x.aR.aZ) (l:=q.aT) (z:=aU.zero);rcases key with⟨h1,h2⟩|⟨h1,h2⟩
 .exact .inl ⟨h1,λ h=>h2 (hm.2 h)⟩
 .exact .inr ⟨h1,hm.1 h2⟩
theorem zcQ8(q:aB)(x:aF)(L:List aJ)(he:x.aX.aD.length<=1000)(h0:q.aP.length<=1000)(h1:q.aN.length<=1000)(h2:q.aT.length<=1000)(hL:L.length<=1000)(hd:dnN L):
  ∃b,zo3 q x L=some b/\(b=true↔zaw0 q x L):=by
 unfold zo3;rw[zcd1 _ _ he,Option.bind_some,zal3 _ _ (by omega),Option.bind_some,zaN2 _ _ (by omega) (by omega),Option.bind_some,zcu3 L q hL,Option.bind_some];unfold zaw0;cases hf:L.findIdx? (λ a=>decide (a.name=q.aA.name))with
 |none=>
  have hn:∀a∈L,a.name≠q.aA.name:=λ a ha=>by
   have:=fJ.1 hf a ha
   simpa using this
  refine⟨decide (getH q.aP x.aK=zg0 x.aX.aD q.aA.name)&&!(zr8 q x.aK).2,rfl,?_⟩;rw[bU,bY,cP];exact⟨λ h=>.inr ⟨λ a ha hn'=>absurd hn' (hn a ha),h⟩,λ h=>h.elim (λ⟨a,ha,hn',_⟩=>absurd hn' (hn a ha)) λ h=>h.2⟩
 |some i=>
  obtain⟨hi,hn,_⟩:=eT.1 hf;have hn':(L.getD i aJ.zero).name=q.aA.name:=by rw[bW,bZ hi];exact fY hn
  have hm:L.getD i aJ.zero∈L:=zd5 hi;have only:∀a∈L,a.name=q.aA.name->a=L.getD i aJ.zero:=λ a ha hn=>zcc4 hd ha hm (hn.trans hn'.symm);have h3:0<=(i:Int)/\(i:Int)<(L.length:Int):=by omega
  have h4:¬(i:Int)<0:=by omega
  simp only[h3.1,h3.2,h4,cJ,dC,cS,eD,zg9,cC,Int.toNat_natCast,zaH8,Option.bind_some,dM];obtain⟨C,hC⟩:∃C,covA q.aA (zg0 x.aX.aD q.aA.name) (L.getD i aJ.zero).aM=C:=⟨_,rfl⟩;have all:(∀a∈L,a.name=q.aA.name->covA q.aA (zg0 x.aX.aD q.aA.name) a.aM=true)↔C=true:=by rw[<-hC];exact⟨λ h=>h _ hm hn',λ h a ha hn=>by rw[only a ha hn];exact h⟩
  have one:∀P:aJ->Prop,(∃a∈L,a.name=q.aA.name/\covA q.aA (zg0 x.aX.aD q.aA.name) a.aM=false/\P a)↔C=false/\P (L.getD i aJ.zero):=λ P=>by rw[<-hC];exact⟨λ⟨a,ha,hn,h⟩=>by rw[only a ha hn]at h;exact h,λ h=>⟨_,hm,hn',h⟩⟩
  rw[one,all,hC];cases C with
  |true=>refine⟨_,rfl,?_⟩;rw[bU,bY,cP];exact⟨λ h=>.inr ⟨rfl,h⟩,λ h=>h.elim (λ h=>nomatch h.1) λ h=>h.2⟩
  |false=>
   simp only[bT,cB,zbY2,Option.bind_some,fK,jA,kG];rcases hb (zr8 q x.aK).2 with hw|hw
   .simp only[hw,cO,bT,cB,jA,iP,fK,reduceCtorEq]
    by_cases c:getH q.aP x.aK=zg0 x.aX.aD q.aA.name/\(zr8 q x.aK).1=zJ6 q.aA (zg0 x.aX.aD q.aA.name) (L.getD i aJ.zero).aM
    .rw[bV (by simp[c.1,c.2])];rcases zcQ7 q x i h2 with⟨e1,e2⟩|⟨e1,e2⟩
     .rw[e1];exact⟨false,rfl,(λ h=>nomatch h),λ h=>absurd h.2.2 e2⟩
     .rw[e1];exact⟨true,rfl,λ _=>⟨c.1,c.2,e2⟩,λ _=>rfl⟩
    .rw[bX (by
      simp only[dI,cP,cL];exact Decidable.not_and_iff_or_not.1 c)]
     exact⟨false,rfl,(λ h=>nomatch h),λ h=>absurd ⟨h.1,h.2.1⟩ c⟩
   .simp only[hw,dC,cC,fK,reduceCtorEq,jA,kG];exact⟨_,rfl,decide_eq_true_iff⟩
theorem zcH0(c:aV)(x:aF)(L:List aJ)(hL:L.length<=8)(hd:dnN L)(he:x.aX.aD.length<=1000)(hl:c.aI.length<=1000)(hs:Lens c.aI):
  zc2 (zz3 c x L) 0=some (.inr false)/\(¬∀q∈c.aI,zaw0 q x L)\/zc2 (zz3 c x L) 0=some (.inl ())/\∀q∈c.aI,zaw0 q x L:=by
 have key:=zV2 (body:=zz3 c x L) c.aI.length (λ i=>zaw0 (c.aI.getD i aB.zero) x L) (λ i hi=>by
  unfold zz3;have h3:0<=(i:Int)/\(i:Int)<(c.aI.length:Int):=by omega
  have h4:=zat5 hs hi;obtain⟨b,h1,h2⟩:=zcQ8 (c.aI.getD i aB.zero) x L he (by omega) (by omega) (by omega) (by omega) hd;simp only[h3.1,h3.2,cS,eD,zg9,cA,cC,Int.toNat_natCast,zc4 i (show i<4611686018427387904 by omega),h1,Option.bind_some];cases b with
  |false=>exact⟨false,rfl,h2⟩
  |true=>exact⟨true,rfl,h2⟩) (by unfold zz3;simp)
 have hm:=zad0 (P:=λ q:aB=>zaw0 q x L) (l:=c.aI) (z:=aB.zero);rcases key with⟨h1,h2⟩|⟨h1,h2⟩
 .exact .inl ⟨h1,λ h=>h2 (hm.2 h)⟩
 .exact .inr ⟨h1,hm.1 h2⟩
theorem zcQ9(c:aV)(hl:c.aI.length<=1000)(v:List aJ)(hv:v.length<=1000)(hi:AscN c.aI):
  zc2 (zC6 c v) 0=some (.inr false)/\(¬∀i,i<v.length->∃q∈c.aI,q.aA.name=(v.getD i aJ.zero).name/\za2 q.aA (v.getD i aJ.zero).aM=true)\/zc2 (zC6 c v) 0=some (.inl ())/\∀i,i<v.length->∃q∈c.aI,q.aA.name=(v.getD i aJ.zero).name/\za2 q.aA (v.getD i aJ.zero).aM=true:=
 zV2 v.length _ (λ i hi2=>by
  unfold zC6;have h3:0<=(i:Int)/\(i:Int)<(v.length:Int):=by omega
  simp only[h3.1,h3.2,cS,eD,zg9,cA,cC,Int.toNat_natCast,zc4 i (show i<4611686018427387904 by omega),zaZ1 c.aI _ (show c.aI.length<=1000000 by omega),Option.bind_some];rcases zaT3 (t:=c.aI) (nm:=(v.getD i aJ.zero).name)with e|⟨k,e,hk,hn⟩
  .refine⟨false,?_,(λ h=>nomatch h),λ⟨q,hq,hqn,_⟩=>?_⟩
   .rw[e,gdp (by intro h;exact absurd h (by decide))];rfl
   .obtain⟨j,hj,rfl⟩:=zt8 (z:=aB.zero) hq;have:=zaE3 hi hj;rw[hqn,e]at this;omega
  .rw[e,gdp (by intro _;omega)];simp only[Int.toNat_natCast,show¬(k:Int)<0 by omega,cJ,dM];rcases hb (za2 (c.aI.getD k aB.zero).aA (v.getD i aJ.zero).aM)with hf|hf
   .simp only[hf];exact⟨true,rfl,(λ _=>⟨_,zd5 hk,hn,hf⟩),λ _=>rfl⟩
   .simp only[hf];refine⟨false,rfl,(λ h=>nomatch h),λ⟨q,hq,hqn,hqf⟩=>?_⟩;obtain⟨j,hj,rfl⟩:=zt8 (z:=aB.zero) hq;have:=zaJ6 hi hj hk (hqn.trans hn.symm);subst this;rw[hf]at hqf;cases hqf) (by unfold zC6;simp)
theorem zcR0(c:aV)(x:aF)(hv:ValidT c.aI)(hp:zd2 x.aK=true)(hc:1<=x.cost/\x.cost<=1000)(hg:0<=x.gen/\x.gen<=1073741824)(led:LedgerP x.aX)(hw:x.bF=false)
  (hheld:∀n,zg0 x.aX.aD n≠aC.zero->∃q∈c.aI,q.aA.name=n/\za2 q.aA (zg0 x.aX.aD n)=true):
  ∃b,zt3 c x=some b/\(b=true↔ProcV c.now c.aI x/\zbp5 c.now c.aI x):=by
 obtain⟨hl,hs⟩:=hv.lens';have hle:=led.le;obtain⟨ns,n1,n2,n3,_,n4⟩:=zaU7 (l:=x.aX) (by omega);have hsame:=zbu7 (p:=x.aK) hv n1 n2 λ n hn=>by obtain⟨q,hq,hqn,_⟩:=hheld n hn;exact⟨q,hq,hqn⟩
 have hend:ProcV c.now c.aI x/\zbp5 c.now c.aI x↔(x.aR=bH.zero/\x.since=0)/\ns.filterMap (sayF x.aX.aD)=c.aI.filterMap (zav9 x.aK)/\((c.aI.filterMap (zay5 x.aK)).length:Int)=0:=by
  rw[hsame,zbM7];constructor
  .rintro⟨h,_⟩;obtain⟨r1,r2,r3⟩:=h.run hw;exact⟨⟨r1,r2⟩,λ q hq=>(r3 q hq).1,λ q hq=>(r3 q hq).2⟩
  .rintro⟨⟨r1,r2⟩,r3,r4⟩;exact⟨⟨hp,hc,hg,led,hheld,(λ h=>by rw[hw]at h;cases h),λ _=>⟨r1,r2,λ q hq=>⟨r3 q hq,r4 q hq⟩⟩⟩,λ h=>by rw[hw]at h;cases h⟩
 rw[hend];unfold zt3;rw[zcd8 _ _ hl hs,zbI7 _ _ hl hs,n3]
 by_cases c3:(zw7 x.aR&&decide (x.since=0))=true
 .have c3':=c3;rw[bU,zbj3,bY]at c3';simp only[c3,cC,Option.bind_some,cK]
  by_cases c4:((c.aI.filterMap (zay5 x.aK)).length:Int)=0
  .have hlen2:(c.aI.filterMap (zav9 x.aK)).length<=1000:=by have:=eZ (zav9 x.aK) c.aI;omega
   simp only[c4,cA,cC,Option.bind_some,cK];rw[zdg4 _ _ (by omega),Option.bind_some];refine⟨_,rfl,?_⟩;rw[bY,eq_comm];exact⟨λ h=>⟨c3',h,trivial⟩,λ h=>h.2.1⟩
  .simp only[c4,cJ,bT,cB,Option.bind_some,eN];exact⟨false,rfl,(λ h=>nomatch h),λ h=>h.2.2.elim⟩
 .have c3':¬(x.aR=bH.zero/\x.since=0):=λ h=>c3 (by rw[bU,zbj3,bY];exact h);have c3'':=dP.2 c3;simp only[c3'',cB,Option.bind_some,bT,eN];exact⟨false,rfl,(λ h=>nomatch h),λ h=>absurd h.1 c3'⟩
theorem zcR1(c:aV)(x:aF)(hv:ValidT c.aI)(hnow:0<=c.now/\c.now<=1073741824)(hp:zd2 x.aK=true)(hc:1<=x.cost/\x.cost<=1000)(hg:0<=x.gen/\x.gen<=1073741824)(led:LedgerP x.aX)(hw:x.bF=true)
  (hheld:∀n,zg0 x.aX.aD n≠aC.zero->∃q∈c.aI,q.aA.name=n/\za2 q.aA (zg0 x.aX.aD n)=true):
  ∃b,zz9 c x=some b/\(b=true↔ProcV c.now c.aI x/\zbp5 c.now c.aI x):=by
 obtain⟨hl,hs⟩:=hv.lens';have hle:=led.le;unfold zz9;rw[zbP2,zaE7,Option.bind_some]
 by_cases hreq:vE x.aR.bN=true/\(0<=x.aR.aZ/\x.aR.aZ<=7)/\(0<=x.aR.limit/\x.aR.limit<=1000)
 .rw[show(vE x.aR.bN&&(decide (0<=x.aR.aZ)&&(decide (x.aR.aZ<=7)&&(decide (0<=x.aR.limit)&&decide (x.aR.limit<=1000)))))=true by
   simp only[hreq.1,hreq.2.1.1,hreq.2.1.2,hreq.2.2.1,hreq.2.2.2,cA,gF]]
  obtain⟨hvE,hpr,hli⟩:=hreq;obtain⟨l',a1,a2,a3⟩:=zai1 x.aR.bN;rw[hvE]at a3;have hdn:=zbp1 a3;have hat:=zbg6 hvE a3;obtain⟨v9,r1,r2⟩:=zbz3 (c.aI.map (·.aA)) hvE (zcP0 hv) a3;have r2':v9=0↔∀a∈l',∃q∈c.aI,q.aA.name=a.name/\za2 q.aA a.aM=true:=by
   rw[r2];refine kR λ a=>kR λ ha=>?_;constructor
   .rintro⟨r,hr,e⟩;obtain⟨q,hq,rfl⟩:=cI.1 hr;exact⟨q,hq,e⟩
   .rintro⟨q,hq,e⟩;exact⟨_,cI.2 ⟨q,hq,rfl⟩,e⟩
  simp only[cC,zct7 _ hl,Option.bind_some,r1,cO,dM]
  by_cases c9:v9=0
  .rw[bV (by simp[c9])];obtain⟨bs,L,q1,q2,_,_,q4⟩:=zaU5 c.aI x.aK x.aR.bN hl hs;rw[a3]at q2;obtain⟨rfl,_⟩:=Prod.mk.inj (dS q2);obtain⟨b11,q3,_⟩:=zaU3 hvE bs;have hq:(∀bs',zx1 c.aI x.aK x.aR.bN=some bs'->zw0 x.aR.bN bs'=some false)↔b11=false:=by
    rw[q1];constructor
    .intro h;have:=h bs rfl;rw[q3]at this;exact dS this
    .intro h bs' e;cases e;rw[q3,h]
   rw[zbz4 c.aI x hl hs hat a2,hat,<-q4,Option.bind_some,zbI6 hvE,q3];obtain⟨B,hB,hB2⟩:∃B:Bool,(((decide (x.since<0))||(decide (c.now<x.since)))||((!decide (x.aR.limit=0))&&(decide ((IntKind.i64.wrap (x.since+x.aR.limit))<=c.now))))=B/\(B=false↔(0<=x.since/\x.since<=c.now)/\(x.aR.limit=0\/c.now<x.since+x.aR.limit)):=by
    refine⟨_,rfl,?_⟩;simp only[fU,iD,kH,bY,cL];constructor
    .rintro⟨⟨k2,k3⟩,k4⟩;rw[zj1 (by omega) (by omega)]at k4;exact⟨by omega,by omega⟩
    .rintro⟨k2,k3⟩;rw[zj1 (by omega) (by omega)];exact⟨⟨by omega,by omega⟩,by omega⟩
   simp only[hB];cases B with
   |true=>refine⟨false,rfl,(λ h=>nomatch h),λ h=>?_⟩;have w:=h.1.wait hw;exact(hB2.2 ⟨w.since,(h.2 hw).1⟩).symm
   |false=>
    obtain⟨k2,k3⟩:=hB2.1 rfl;simp only[bT,cB,Option.bind_some];cases b11 with
    |true=>refine⟨false,rfl,(λ h=>nomatch h),λ h=>?_⟩;have:=hq.1 (h.2 hw).2;cases this
    |false=>
     simp only[bT,cB];rcases zcH0 c x l' a2 hdn (by omega) hl hs with⟨h5,h6⟩|⟨h5,h6⟩
     .exact⟨false,by rw[h5];rfl,(λ h=>nomatch h),λ h=>absurd ((h.1.wait hw).part _ _ a3) h6⟩
     .refine⟨true,by rw[h5];rfl,λ _=>⟨⟨hp,hc,hg,led,hheld,λ _=>⟨hvE,hpr,hli,k2,λ L b hL=>?_,λ L b hL=>?_⟩,(λ h=>by rw[hw]at h;cases h)⟩,λ _=>⟨k3,hq.2 rfl⟩⟩,λ _=>rfl⟩
      .rw[a3]at hL;cases hL;exact r2'.1 c9
      .rw[a3]at hL;cases hL;exact h6
  .rw[bX (by simp[c9])];exact⟨false,rfl,(λ h=>nomatch h),λ h=>absurd (r2'.2 ((h.1.wait hw).res _ _ a3)) c9⟩
 .obtain⟨B,hB⟩:∃B:Bool,(vE x.aR.bN&&(decide (0<=x.aR.aZ)&&(decide (x.aR.aZ<=7)&&(decide (0<=x.aR.limit)&&decide (x.aR.limit<=1000)))))=B:=⟨_,rfl⟩;have hBf:B=false:=by
   rw[<-hB,dP];intro h;simp only[bU,bY]at h;exact hreq ⟨h.1,⟨h.2.1,h.2.2.1⟩,h.2.2.2.1,h.2.2.2.2⟩
  rw[hB,hBf];exact⟨false,rfl,(λ h=>nomatch h),λ h=>absurd ⟨(h.1.wait hw).ve,(h.1.wait hw).pr,(h.1.wait hw).li⟩ hreq⟩
theorem zbP3(c:aV)(x:aF)(hv:ValidT c.aI)(hnow:0<=c.now/\c.now<=1073741824):∃b,zy0 c x=some b/\(b=true↔ProcV c.now c.aI x/\zbp5 c.now c.aI x):=by
 obtain⟨hl,hs⟩:=hv.lens';unfold zy0
 by_cases c0:zd2 x.aK=true/\1<=x.cost/\x.cost<=1000
 .obtain⟨hp,hc⟩:=c0;rw[bV (by rw[hp];simp;omega)]
  by_cases cg:0<=x.gen/\x.gen<=1073741824
  .have g1:¬x.gen<0:=by omega
   have g2:¬1073741824<x.gen:=by omega
   obtain⟨bl,l1,l2⟩:=zbP1 x.aX;simp only[g1,g2,cJ,eU,dC,cC,l1,Option.bind_some,dM];cases bl with
   |false=>exact⟨false,rfl,(λ h=>nomatch h),λ h=>l2.2 h.1.led⟩
   |true=>
    have led:=l2.1 rfl;have hle:=led.le;simp only[cO,bT,cB];obtain⟨ns,n1,n2,n3,_,n4⟩:=zaU7 (l:=x.aX) (by omega);have hv':(ns.filterMap (sayF x.aX.aD)).length<=1000:=by have:=eZ (sayF x.aX.aD) ns;omega
    rw[n3,Option.bind_some];have hheldiff:(∀i,i<(ns.filterMap (sayF x.aX.aD)).length->∃q∈c.aI,q.aA.name=((ns.filterMap (sayF x.aX.aD)).getD i aJ.zero).name/\za2 q.aA ((ns.filterMap (sayF x.aX.aD)).getD i aJ.zero).aM=true)↔
      ∀n,zg0 x.aX.aD n≠aC.zero->∃q∈c.aI,q.aA.name=n/\za2 q.aA (zg0 x.aX.aD n)=true:=by
     rw[zad0 (P:=λ a:aJ=>∃q∈c.aI,q.aA.name=a.name/\za2 q.aA a.aM=true)];constructor
     .intro h n hn;exact h ⟨n,zg0 x.aX.aD n⟩ (eJ.2 ⟨n,(n2 n).2 (zaM2 hn),zaz9.2 ⟨hn,rfl⟩⟩)
     .intro h a ha;obtain⟨n,hn,e⟩:=eJ.1 ha;obtain⟨c,rfl⟩:=zaz9.1 e;exact h n c
    rcases zcQ9 c hl _ hv' hv.asc with⟨h1,h2⟩|⟨h1,h2⟩
    .exact⟨false,by rw[h1];rfl,(λ h=>nomatch h),λ h=>absurd (hheldiff.2 h.1.held) h2⟩
    have hheld:=hheldiff.1 h2;rw[h1,Option.bind_some];show∃b,zO7 c x ()=some b/\_;unfold zO7;rcases hb x.bF with hw|hw
    .obtain⟨b,e1,e2⟩:=zcR1 c x hv hnow hp hc cg led hw hheld;rw[bX hw,e1];exact⟨b,rfl,e2⟩
    .obtain⟨b,e1,e2⟩:=zcR0 c x hv hp hc cg led hw hheld;rw[bV (by rw[hw];decide),e1];exact⟨b,rfl,e2⟩
  .have d:(decide (x.gen<0)||decide (1073741824<x.gen))=true:=by simp;omega
   simp only[d,cO,bT,cB,Option.bind_some,fZ,cC];exact⟨false,rfl,(λ h=>nomatch h),λ h=>absurd h.1.gen cg⟩
 .rw[bX (by
   simp only[dI,cP,bY]
   by_cases d:zd2 x.aK=true
   .have:¬(1<=x.cost/\x.cost<=1000):=λ h=>c0 ⟨d,h⟩;omega
   .exact .inl (.inl (dP.2 d)))]
  exact⟨false,rfl,(λ h=>nomatch h),λ h=>absurd ⟨h.1.pv,h.1.cost⟩ c0⟩
theorem zcH1(c:aV)(hl:c.aG.length<=8)(v:List aL)(hv:v.length<=1000):
  zc2 (zK1 c v) 0=some (.inr false)/\(¬∀p∈v,∃x∈c.aG,x.aK=p)\/zc2 (zK1 c v) 0=some (.inl ())/\∀p∈v,∃x∈c.aG,x.aK=p:=by
 have key:=zV2 (body:=zK1 c v) v.length (λ i=>∃x∈c.aG,x.aK=v.getD i aL.zero) (λ i hi=>by
  unfold zK1;have h3:0<=(i:Int)/\(i:Int)<(v.length:Int):=by omega
  obtain⟨k,h1,h2⟩:=zbJ2 c.aG (v.getD i aL.zero) (by omega);simp only[h3.1,h3.2,cS,eD,zg9,cA,cC,Int.toNat_natCast,zc4 i (show i<4611686018427387904 by omega),h1,Option.bind_some];rcases h2 with⟨rfl,hn⟩|⟨k,rfl,hk,e⟩
  .exact⟨false,rfl,(λ h=>nomatch h),λ⟨x,hx,e⟩=>absurd e (hn x hx)⟩
  .exact⟨true,by rw[bV (by simp),bX rfl],(λ _=>⟨_,zd5 hk,e⟩),λ _=>rfl⟩) (by unfold zK1;simp)
 have hm:=zad0 (P:=λ p:aL=>∃x∈c.aG,x.aK=p) (l:=v) (z:=aL.zero);rcases key with⟨h1,h2⟩|⟨h1,h2⟩
 .exact .inl ⟨h1,λ h=>h2 (hm.2 h)⟩
 .exact .inr ⟨h1,hm.1 h2⟩
theorem zcR2(c:aV)(hl:c.aG.length<=8)(ht:ValidT c.aI)(hnow:0<=c.now/\c.now<=1073741824):
  zc2 (zQ9 c) 0=some (.inr false)/\(¬∀i,i<c.aG.length->(ProcV c.now c.aI (c.aG.getD i aF.zero)/\zbp5 c.now c.aI (c.aG.getD i aF.zero))/\(0<i->ltP (c.aG.getD (i-1) aF.zero).aK (c.aG.getD i aF.zero).aK))\/
  zc2 (zQ9 c) 0=some (.inl ())/\∀i,i<c.aG.length->(ProcV c.now c.aI (c.aG.getD i aF.zero)/\zbp5 c.now c.aI (c.aG.getD i aF.zero))/\(0<i->ltP (c.aG.getD (i-1) aF.zero).aK (c.aG.getD i aF.zero).aK):=
 zV2 c.aG.length _ (λ i hi=>by
  unfold zQ9;have h3:0<=(i:Int)/\(i:Int)<(c.aG.length:Int):=by omega
  obtain⟨b,h1,h2⟩:=zbP3 c (c.aG.getD i aF.zero) ht hnow;simp only[h3.1,h3.2,cS,eD,zg9,cA,cC,Int.toNat_natCast,zc4 i (show i<4611686018427387904 by omega),h1,Option.bind_some];rw[gdp (by
   intro h;simp only[bY]at h;rw[zj1 (by omega) (by omega)];omega)]
  have tail:∃b':Bool,(if(!b)=true then some (.inr (.inr false))else some (.inl ((i+1:Nat):Int)))=some (if b'=true then(.inl ((i+1:Nat):Int):Int⊕(Unit⊕Bool))else .inr (.inr false))/\b'=b:=⟨b,by cases b<;>rfl,rfl⟩
  by_cases c0:i=0
  .subst c0;obtain⟨b',t1,rfl⟩:=tail;simp only[Int.natCast_zero,eR,cJ,bT,cB,Option.bind_some,eN];exact⟨b',t1,λ hb=>⟨h2.1 hb,λ h=>absurd h (by omega)⟩,λ h=>h2.2 h.1⟩
  .rw[zah8 i (by omega) (by omega)];simp only[show(0:Int)<(i:Int)by omega,cA,cK,Int.toNat_natCast,cC,zR2,Option.bind_some]
   by_cases c1:ltP (c.aG.getD (i-1) aF.zero).aK (c.aG.getD i aF.zero).aK
   .obtain⟨b',t1,rfl⟩:=tail;rw[bV (by simp only[bY];exactλ h=>(zaz5 _ _).1 h c1)];exact⟨b',t1,λ hb=>⟨h2.1 hb,λ _=>c1⟩,λ h=>h2.2 h.1⟩
   .refine⟨false,?_,(λ h=>nomatch h),λ h=>absurd (h.2 (by omega)) c1⟩;rw[bX (by simp only[bY];exact(zaz5 _ _).2 c1)];rfl) (by unfold zQ9;simp)
theorem zbJ3(c:aV):∃b,zO2 c=some b/\(b=true↔CenV c):=by
 unfold zO2
 by_cases c0:c.now<0\/1073741824<c.now
 .refine⟨false,?_,(λ h=>nomatch h),λ h=>by have:=h.now;omega⟩;rcases c0 with h|h<;>simp[h]
 have c1:¬c.now<0:=λ h=>c0 (.inl h);have c2:¬1073741824<c.now:=λ h=>c0 (.inr h);simp only[c1,c2,cJ,eU,dC,cC,zca3,Option.bind_some,dM];cases hv:zay2 c.aI with
 |false=>exact⟨false,rfl,(λ h=>nomatch h),λ h=>by have:=(zR3 _).2 h.t;rw[hv]at this;cases this⟩
 |true=>
 have ht:=(zR3 _).1 hv
 by_cases c3:(8:Int)<(c.aG.length:Int)
 .exact⟨false,by simp[c3],(λ h=>nomatch h),λ h=>by have:=h.len;omega⟩
 simp only[c3,cJ,cO,eU,bT,cB];have hl:c.aG.length<=8:=by omega
 rcases zcR2 c hl ht (by omega)with⟨h3,h4⟩|⟨h3,h4⟩
 .exact⟨false,by rw[h3];rfl,(λ h=>nomatch h),λ h=>absurd (λ i hi=>⟨⟨h.each _ (zd5 hi),h.quiet _ (zd5 hi)⟩,λ h0=>zbz1 h.asc hi (by omega)⟩) h4⟩
 rw[h3,Option.bind_some];show∃b,zZ0 c ()=some b/\_;unfold zZ0;rw[zaT2 ht.len ht.each,Option.bind_some];rcases zcH1 c hl (zB8 c.aI) (by have:=ht.aG;omega)with⟨h1,h2⟩|⟨h1,h2⟩
 .exact⟨false,by rw[h1];rfl,(λ h=>nomatch h),λ h=>absurd h.aG h2⟩
 rw[h1];refine⟨true,rfl,λ _=>⟨by omega,ht,hl,λ x hx=>?_,zbI4 λ i hi h0=>(h4 i hi).2 h0,h2,λ x hx=>?_⟩,λ _=>rfl⟩
 .obtain⟨i,hi,rfl⟩:=zt8 (z:=aF.zero) hx;exact(h4 i hi).1.1
 .obtain⟨i,hi,rfl⟩:=zt8 (z:=aF.zero) hx;exact(h4 i hi).1.2
theorem zbP4{c:aV}(h:CenV c):zT4 c=some ⟨c.aI,c.aG.filterMap zP1⟩:=by
 obtain⟨b,e1,e2⟩:=zbJ3 c;rw[e2.2 h]at e1;have hl:=h.len;have hlq:=h.t.len;unfold zT4;rw[e1,Option.bind_some,bV (by decide)];obtain⟨x,l1,l2⟩:=zq9 (body:=zan2 c) (λ g=>∃k:Nat,g.1=k/\k<=c.aI.length/\g.2=⟨c.aI.take k,[]⟩) (λ g=>c.aI.length-g.1.toNat) (λ x=>x=⟨c.aI,[]⟩)
  (λ g ⟨k,hk,hkl,hg⟩=>by
   obtain⟨g1,s⟩:=g;simp only at hk hg;subst hk;subst hg;unfold zan2
   by_cases cc:k<c.aI.length
   .left;have h3:0<=(k:Int)/\(k:Int)<(c.aI.length:Int):=by omega
    simp only[h3.1,h3.2,cS,zg9,cA,cC,Int.toNat_natCast,zc4 k (show k<4611686018427387904 by omega)];rw[zch2 (zcQ6 (h.t.each _ (zd5 cc))).1,Option.bind_some,gdp (by rw[cU];omega)];exact⟨_,rfl,⟨k+1,rfl,cc,by rw[zx3 aB.zero cc]⟩,by simp only[Int.toNat_natCast];omega⟩
   .right;have e:k=c.aI.length:=by omega
    simp only[show¬(k:Int)<(c.aI.length:Int)by omega,cJ,bT,cB];exact⟨_,rfl,by rw[e,dH]⟩) (0,⟨[],[]⟩) ⟨0,rfl,by omega,rfl⟩
 rw[l1,Option.bind_some,l2];show zac9 c _=_;unfold zac9;obtain⟨x,l1,l2⟩:=zq9 (body:=zan1 c) (λ g=>∃k:Nat,g.1=k/\k<=c.aG.length/\g.2=⟨c.aI,(c.aG.take k).filterMap zP1⟩) (λ g=>c.aG.length-g.1.toNat) (λ x=>x=⟨c.aI,c.aG.filterMap zP1⟩)
  (λ g ⟨k,hk,hkl,hg⟩=>by
   obtain⟨g1,s⟩:=g;simp only at hk hg;subst hk;subst hg;unfold zan1
   by_cases cc:k<c.aG.length
   .left;have h3:0<=(k:Int)/\(k:Int)<(c.aG.length:Int):=by omega
    have hle:=eZ zP1 (c.aG.take k);rw[cU]at hle;simp only[h3.1,h3.2,cS,zg9,cA,cC,Int.toNat_natCast,zc4 k (show k<4611686018427387904 by omega)];have e0:∀x:aF,(c.aG.take k++[x]).filterMap zP1=(c.aG.take k).filterMap zP1++(match zP1 x with|some n=>[n]|none=>[]):=λ x=>by rw[List.filterMap_append];simp only[List.filterMap_cons,List.filterMap_nil];cases zP1 x<;>rfl
    rcases hb (c.aG.getD k aF.zero).bF with hw|hw
    .rw[bX hw,zbD9 (((h.each _ (zd5 cc)).wait hw).ve),Option.bind_some,gdp (by omega)];refine⟨_,rfl,⟨k+1,rfl,cc,?_⟩,by simp only[Int.toNat_natCast];omega⟩;rw[zx3 aF.zero cc,e0];unfold zP1;rw[bX hw]
    .rw[bV (by rw[hw];decide)];refine⟨_,rfl,⟨k+1,rfl,cc,?_⟩,by simp only[Int.toNat_natCast];omega⟩;rw[zx3 aF.zero cc,e0];have:zP1 (c.aG.getD k aF.zero)=none:=by unfold zP1;rw[bV (by rw[hw];decide)]
     rw[this,dX]
   .right;have e:k=c.aG.length:=by omega
    simp only[show¬(k:Int)<(c.aG.length:Int)by omega,cJ,bT,cB];exact⟨_,rfl,by rw[e,dH]⟩) (0,⟨c.aI,[]⟩) ⟨0,rfl,by omega,rfl⟩
 rw[l1,Option.bind_some,l2];rfl
theorem zcX4:zad5=some true:=by kernel_rfl
theorem zce4(l:List Bool)(hl:l.length<=1000):zf1 l l=some true:=by
 unfold zf1;rw[bV (by simp),zcn8 l.length (λ i hi=>by
  unfold zab4;rw[bX (by simpa using hi),gdp (by omega),gdp (by omega),bV (by simp),zj1 (by omega) (by omega)]) (by unfold zab4;simp)]
 rfl
theorem zce5{c:aV}(h:CenV c){x:aF}(hx:x∈c.aG):∃v,zr7 (c.aG.filterMap zP1) x.aK=some v/\(x.bF=false/\v<0\/x.bF=true/\∃k:Nat,v=k/\k<(c.aG.filterMap zP1).length/\(c.aG.filterMap zP1).getD k bP.zero=⟨x.aK,x.aR.bN,x.gen⟩):=by
 have hfl:=eZ zP1 c.aG;have hl:=h.len;have one:∀y∈c.aG,y.aK=x.aK->y=x:=λ y hy e=>by
  obtain⟨i,hi,rfl⟩:=fO hx;obtain⟨j,hj,rfl⟩:=fO hy;have hp:=dU.1 h.asc;rcases gZ i j with h1|h1|h1
  .have:=hp i j hi hj h1;rw[e]at this;exact absurd this (zR1 _)
  .subst h1;rfl
  .have:=hp j i hj hi h1;rw[e]at this;exact absurd this (zR1 _)
 obtain⟨v,h1,h2⟩:=zdx0 (c.aG.filterMap zP1) x.aK (by omega);refine⟨v,h1,?_⟩;rcases hb x.bF with hw|hw
 .right;have hm:(⟨x.aK,x.aR.bN,x.gen⟩:bP)∈c.aG.filterMap zP1:=eJ.2 ⟨x,hx,by unfold zP1;rw[bX hw]⟩;rcases h2 with⟨_,h2⟩|⟨k,h3,h4,h5,_⟩
  .obtain⟨i,hi,e⟩:=zt8 (z:=bP.zero) hm;have:=h2 i hi;rw[e]at this;exact absurd rfl this
  .refine⟨hw,k,h3,h4,?_⟩;obtain⟨y,hy,e⟩:=eJ.1 (zd5 (z:=bP.zero) h4);obtain⟨e1,e2⟩:=zaU8 e;rw[e2]at h5⊢;rw[one y hy h5]
 .left;refine⟨hw,?_⟩;rcases h2 with⟨h2,_⟩|⟨k,h3,h4,h5,_⟩
  .exact h2
  .obtain⟨y,hy,e⟩:=eJ.1 (zd5 (z:=bP.zero) h4);obtain⟨e1,e2⟩:=zaU8 e;rw[e2]at h5;rw[one y hy h5,hw]at e1;cases e1
theorem zcu4{now:Int}{t:List aB}{x:aF}(hv:ValidT t)(hp:ProcV now t x)(hw:x.bF=true){L:List aJ}{b:Bool}(hL:zi4 x.aR.bN=some (L,b)){a:aJ}(ha:a∈L):
  ∃k:Nat,zA5 t a.name=k/\k<t.length/\grA t x.aK a=!(zr8 (t.getD k aB.zero) x.aK).2:=by
 have w:=hp.wait hw;obtain⟨q,hq,hqn,hqf⟩:=w.res L b hL a ha;obtain⟨k,hk,rfl⟩:=zt8 (z:=aB.zero) hq;have hf:=zaE3 hv.asc hk;rw[hqn]at hf;refine⟨k,hf,hk,?_⟩;rw[zdv8 hv.asc hk hqn];have hd:=zbp1 hL;have hheld:zg0 x.aX.aD (t.getD k aB.zero).aA.name=aC.zero\/za2 (t.getD k aB.zero).aA (zg0 x.aX.aD (t.getD k aB.zero).aA.name)=true:=by
  by_cases z:zg0 x.aX.aD (t.getD k aB.zero).aA.name=aC.zero
  .exact .inl z
  .obtain⟨q',hq',hn',hf'⟩:=hp.held _ z;rw[hv.inj hq' hq hn']at hf';exact .inr hf'
 rcases w.part L b hL _ hq with⟨a',ha',hn',hc,hh⟩|⟨hc,hh,hwt⟩
 .have:a'=a:=zcc4 hd ha' ha (hn'.trans hqn);subst this;rcases hh with⟨h1,h2⟩|⟨h1,h2,_⟩
  .rw[h1,h2];rcases hheld with z|z
   .rw[z,zbI8 hqf,zat2 (zC7 hqf)];rfl
   .rw[(zbf8 z hqf hc).2.2.1];rfl
  .rw[h1,h2,hc];rfl
 .rw[hwt,hh,hc a ha hqn.symm];rfl
theorem zbp7{c:aV}(h:CenV c){x:aF}(hx:x∈c.aG)(hw:x.bF=true):∃bs,zz0 ⟨c.aI,c.aG.filterMap zP1⟩ x.aK=some bs/\zaa9 c x.aK=some bs/\bs.length<=8/\zw0 x.aR.bN bs=some false:=by
 obtain⟨hl,hs⟩:=h.t.lens';have hp:=h.each x hx;have w:=hp.wait hw;obtain⟨bs,L,q1,q2,q3,_,q4⟩:=zaU5 c.aI x.aK x.aR.bN hl hs;have h8:=zaU1 q2;simp only at h8;refine⟨bs,?_,?_,by omega,(h.quiet x hx hw).2 bs q1⟩
 .obtain⟨v,p1,⟨p2,_⟩|⟨_,k,rfl,p3,p4⟩⟩:=zce5 h hx
  .rw[hw]at p2;cases p2
  unfold zz0;rw[p1,Option.bind_some,bX (by simp),zaT9,zcG9 h,Option.bind_some,bV (by simp),gdp (by simp only;omega)];simp only[Int.toNat_natCast];rw[p4,zbg6 w.ve q2,Option.bind_some,q4,zap9 L aJ.zero (grA c.aI x.aK) [] (by omega) (by simp) (λ i s hi hs'=>by
   unfold zV9;have h3:0<=(i:Int)/\(i:Int)<(L.length:Int):=by omega
   obtain⟨k,e,hk,e2⟩:=zcu4 h.t hp hw q2 (zd5 (z:=aJ.zero) hi);have h6:=zat5 hs hk;have d3:0<=(k:Int)/\(k:Int)<(c.aI.length:Int):=by omega
   simp only[h3.1,h3.2,cS,zg9,cA,cC,Int.toNat_natCast,zc4 i (show i<4611686018427387904 by omega),zaZ1 c.aI _ (show c.aI.length<=1000000 by omega),Option.bind_some,e,d3.1,d3.2];rw[zaN2 _ _ (by omega) (by omega),Option.bind_some,gdp (by omega),e2]) (λ s=>by unfold zV9;simp)]
  rfl
 .unfold zaa9 zq5;obtain⟨v,e1,⟨_,e2⟩|⟨i,rfl,hi,e2⟩⟩:=zaE6 c.aG x.aK (by have:=h.len;omega)
  .exact absurd rfl (e2 x hx)
  .have e3:c.aG.getD i aF.zero=x:=by
    have hy:=zd5 (z:=aF.zero) hi;obtain⟨j,hj,e⟩:=zt8 (z:=aF.zero) hx;rcases gZ i j with h1|h1|h1
    .have:=zbz1 h.asc hj h1;rw[e2,e]at this;exact absurd this (zR1 _)
    .subst h1;exact e
    .have:=zbz1 h.asc hi h1;rw[e2,e]at this;exact absurd this (zR1 _)
   rw[e1,Option.bind_some,bX (by simp),gdp (by omega),Option.bind_some,zbp6 h,Option.bind_some];simp only[Int.toNat_natCast];rw[e3,bV (by simp[hw]),q1];rfl
theorem zbk4(l:List Int):zD8 l=some true:=by
 unfold zD8
 by_cases k:(!(zar5 l))=true
 .rw[bX k,zcX4];rfl
 .rw[bV k];simp only[cP,fB]at k;obtain⟨c,h1,h,h6⟩:=zcG8 (zde4 k);have hl:=h.len;rw[h1,Option.bind_some,zbP4 h,Option.bind_some,zaT9,zcG9 h,Option.bind_some,bV (by simp)];obtain⟨r,l1,l2⟩:=zq9 (body:=zL4 c ⟨c.aI,c.aG.filterMap zP1⟩) (λ g=>∃i:Nat,g.2=i/\i<=c.aG.length/\g.1=(((c.aG.take i).filterMap zP1).length:Int)) (λ g=>c.aG.length-g.2.toNat) (λ r=>r=.inl ((c.aG.filterMap zP1).length:Int))
   (λ g ⟨i,hi,hle,hn⟩=>by
    obtain⟨g1,g2⟩:=g;simp only at hi hn;subst hi;subst hn;unfold zL4
    by_cases c0:i<c.aG.length
    .left;have hx:=zd5 (z:=aF.zero) c0;have h3:0<=(i:Int)/\(i:Int)<(c.aG.length:Int):=by omega
     have hlen:=eZ zP1 (c.aG.take i);rw[cU]at hlen;simp only[h3.1,h3.2,cS,zg9,cA,cC,Int.toNat_natCast,zc4 i (show i<4611686018427387904 by omega)];have e0:((c.aG.take (i+1)).filterMap zP1).length=((c.aG.take i).filterMap zP1).length+(if(c.aG.getD i aF.zero).bF=true then 1 else 0):=by
      rw[zx3 aF.zero c0,List.filterMap_append,cD];unfold zP1;rcases hb (c.aG.getD i aF.zero).bF with hw|hw
      .rw[List.filterMap_cons,bX hw,bX hw];rfl
      .rw[List.filterMap_cons,bV (by rw[hw];decide),bV (by rw[hw];decide)];rfl
     obtain⟨v,p1,⟨hw,p2⟩|⟨hw,k,rfl,p3,p4⟩⟩:=zce5 h hx
     .unfold zy3;rw[p1,Option.bind_some,bV (by simpa using p2),Option.bind_some,bV (by simp only[hw];decide),bX (by rfl)];refine⟨_,rfl,⟨i+1,rfl,c0,?_⟩,by simp only[Int.toNat_natCast];omega⟩;rw[e0,bV (by rw[hw];decide)];rfl
     .obtain⟨bs,b1,b2,b3,b4⟩:=zbp7 h hx hw;unfold zy3;rw[p1,Option.bind_some,bX (by simp),gdp (by simp only;omega)];simp only[Int.toNat_natCast];rw[p4,zbD9 (n:=⟨(c.aG.getD i aF.zero).aK,(c.aG.getD i aF.zero).aR.bN,(c.aG.getD i aF.zero).gen⟩) ((h.each _ hx).wait hw).ve];simp only[Option.bind_some,hw,cA,cO,bT,cB,cC,b1,b2,zce4 bs (by omega),eU,dC,b4];refine⟨_,rfl,⟨i+1,rfl,c0,?_⟩,by simp only[Int.toNat_natCast];omega⟩;rw[e0,bX hw,zj1 (by omega) (by omega)];simp
    .right;have e:i=c.aG.length:=by omega
     subst e;simp only[eR,cJ,bT,cB,dH];exact⟨_,rfl,rfl⟩) (0,0) ⟨0,rfl,by omega,rfl⟩
  rw[l1,l2,Option.bind_some];show zL3 _ _=_;unfold zL3;rw[zcX4];simp
end Ab
end Go.Proofs.YtenebhlnfjcffaaGreatDoor
