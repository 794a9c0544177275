import Derived.Test.YtcggeefhhegeoaaGreatDoorDoH
import Derived.Test.YtcggeefhhegeoaaGreatDoorTabA
import Derived.Test.YtcggeefhhegeoaaGreatDoorTabC
namespace Go.Proofs.YtcggeefhhegeoaaGreatDoor
namespace Ab
set_option linter.unusedVariables false
set_option linter.unusedSimpArgs false
theorem zbS9 (a:Amount):zr2 a=true ↔ (1≤a.mode∧a.mode≤5∧a.units=0)∨(a.mode=0∧1≤a.units∧a.units≤8):=by
 unfold zr2 zx6
 simp only [Bool.or_eq_true,Bool.and_eq_true,decide_eq_true_eq]
 omega
theorem zcP7 {r:Resource} {F a b:Amount} (hg:zO5 a b=true) (hc:covA r F b=true):covA r F a=true:=by
 have hs:zg3 r=true:=by
  rcases (perm_iff r b).1 ((zaa2 _ _ _).1 hc).2.1 with h|h
  ·exact h.1
  ·exact zbC6 h
 unfold zO5 at hg
 by_cases h1:zr2 b=true∧a≠b
 ·rw [if_neg (by simp [h1.1,h1.2])] at hg
  by_cases h2:a=Amount.zero
  ·rw [h2]; exact zby4 ((zaa2 _ _ _).1 hc).1 hs
  ·have h2':¬ a=({ Amount.zero with }:Amount):=h2
   rw [if_neg (by simpa using h2')] at hg
   by_cases h3:zr2 a=true
   ·rw [if_neg (by simp [h3])] at hg
    have hb0:b≠Amount.zero:=fun e=>by rw [e] at h1; exact absurd h1.1 (by decide)
    have hbf:zb3 r b=true:=by
     rcases (perm_iff r b).1 ((zaa2 _ _ _).1 hc).2.1 with h|h
     ·exact absurd h.2 hb0
     ·exact h
    have ub:=(zbS9 b).1 h1.1
    have ua:=(zbS9 a).1 h3
    have hba:covA r b a=true:=by
     rw [zaa2]
     rw [zK1] at hbf
     by_cases hm:a.mode=0
     ·rw [if_neg (by simp [hm])] at hg
      have hg:=of_decide_eq_true hg
      have fa:zb3 r a=true:=(zK1 r a).2 (by omega)
      exact ⟨zC4 ((zK1 r b).2 hbf),zC4 fa,.inr ⟨hb0,h2,.inr ⟨by omega,by omega⟩⟩⟩
     ·rw [if_pos (by simp [hm])] at hg
      have hc2:=(zaS9 b.mode a.mode).1 hg
      have fa:zb3 r a=true:=(zK1 r a).2 (by omega)
      exact ⟨zC4 ((zK1 r b).2 hbf),zC4 fa,.inr ⟨hb0,h2,.inl ⟨by omega,hg⟩⟩⟩
    exact zaW3 hc hba
   ·rw [if_pos (by simp [h3])] at hg; cases hg
 ·rw [if_pos (by
   by_cases hu:zr2 b=true
   ·have:a=b:=Decidable.byContradiction fun h=>h1 ⟨hu,h⟩
    simp [this]
   ·simp [hu])] at hg
  cases hg
theorem zcc1 {l:Ledger} (h:LedgerP l) {r:Resource} {n:ByteArray} (hf:zb3 r (zw4 l.entries n)=true):∀ d k,k+d=l.entries.length→covA r (zw4 l.entries n) (zw4 (l.entries.take k) n)=true
 | 0,k,e=>by
  rw [show k=l.entries.length by omega,List.take_length]
  exact zan6 (zC4 hf)
 | d+1,k,e=>by
  have ih:=zcc1 h hf d (k+1) (by omega)
  have hk:k < l.entries.length:=by omega
  rw [zK5 Entry.zero hk,zbp4] at ih
  have hg:=h.grow k hk
  by_cases c:(l.entries.getD k Entry.zero).name=n
  ·rw [if_pos c] at ih
   rw [c] at hg
   rw [← hg.1]
   exact zcP7 hg.2 ih
  ·rw [if_neg c] at ih; exact ih
theorem zcC1 {l:Ledger} (h:LedgerP l) {e:Entry} (he:e ∈ l.entries):zw4 l.entries e.name≠Amount.zero:=by
 have key:∀ d k,k+d=l.entries.length→(∃ x ∈ l.entries.take k,x.name=e.name)→zw4 (l.entries.take k) e.name≠Amount.zero:=by
  have up:∀ k,k≤l.entries.length→(∃ x ∈ l.entries.take k,x.name=e.name)→zw4 (l.entries.take k) e.name≠Amount.zero:=by
   intro k
   induction k with
   | zero=>intro _ ⟨x,hx,_⟩; cases hx
   | succ k ih =>
    intro hk ⟨x,hx,hn⟩
    rw [zK5 Entry.zero (by omega),zbp4]
    by_cases c:(l.entries.getD k Entry.zero).name=e.name
    ·rw [if_pos c]
     have hg:=(h.grow k (by omega)).2
     intro hz
     rw [hz] at hg
     unfold zO5 at hg
     rw [if_pos (by simp [show zr2 Amount.zero=false by decide])] at hg
     cases hg
    ·rw [if_neg c]
     refine ih (by omega) ?_
     rw [zK5 Entry.zero (by omega)] at hx
     rcases List.mem_append.1 hx with hx|hx
     ·exact ⟨x,hx,hn⟩
     ·rw [List.mem_singleton] at hx; subst hx; exact absurd hn c
  exact fun d k e=>up k (by omega)
 have:=key 0 l.entries.length (by omega) ⟨e,by rw [List.take_length]; exact he,rfl⟩
 rwa [List.take_length] at this
theorem zde3 {t:List Queue} (ht:ValidT t) {x:Proce} (hx:ProcC t x) {L:List Atom} (hL:∀ a ∈ L,∃ q ∈ t,q.resource.name=a.name∧zb3 q.resource a.amount=true) {q:Queue} (hq:q ∈ t) (hp:zcr9 q x L) :
  covA q.resource (getH q.holds x.proc) (zw4 x.ledger.entries q.resource.name)=true:=by
 have hv:=((zx5 _).1 (ht.each _ hq)).1.hv
 have hpm:=zat7 hv x.proc
 have same:getH q.holds x.proc=zw4 x.ledger.entries q.resource.name→covA q.resource (getH q.holds x.proc) (zw4 x.ledger.entries q.resource.name)=true:=fun e=>by rw [← e]; exact zan6 hpm
 rcases hp with ⟨a,ha,hn,hc,h⟩|⟨h,_⟩
 ·rcases h with ⟨_,h⟩|h
  ·by_cases z:zw4 x.ledger.entries q.resource.name=Amount.zero
   ·rw [z]; exact zby4 hpm (zbQ0 (ht.each _ hq))
   ·obtain ⟨q1,m1,n1,f1⟩:=hx.held _ z
    have e1:=ht.inj m1 hq n1
    subst e1
    obtain ⟨q2,m2,n2,f2⟩:=hL a ha
    have e2:=ht.inj m2 hq (n2.trans hn)
    subst e2
    rw [h]
    exact (zbP0 f1 f2 hc).2.1
  ·exact same h
 ·exact same h
theorem zbT0 {t:List Queue} {n:ByteArray} (h:∃ q ∈ t,q.resource.name=n):∃ i,i < t.length∧(t.getD i Queue.zero).resource.name=n:=by
 obtain ⟨q,hq,e⟩:=h
 obtain ⟨i,hi,rfl⟩:=zQ4 (z:=Queue.zero) hq
 exact ⟨i,hi,e⟩
theorem CenP.good {c:Central} (h:CenP c) (ev:List Event):Good ⟨c,ev⟩:=by
 refine ⟨h.t,h.len,?_,fun y hy hw=>?_⟩
 ·have:=h.asc
  rw [List.Nodup,List.pairwise_map]
  exact this.imp fun hlt e=>by rw [e] at hlt; exact zar7 _ hlt
 ·have hp:=h.each y hy
  obtain ⟨h1,h2⟩:=hp.wait hw
  refine ⟨h1,by have:=hp.led.le; omega,fun L b hL a ha=>?_,fun i hi=>?_⟩
  ·obtain ⟨q,hq,e,_⟩:=(h2 L b hL).1 a ha
   exact zbT0 ⟨q,hq,e⟩
  ·obtain ⟨v,h3,h4⟩:=zax7 y.request.expr
   obtain ⟨h5,h6⟩:=h2 v.1 v.2 h3
   exact zde3 h.t hp h5 (zj8 hi) (h6 _ (zj8 hi))
def zcC2 (p:Proc):Proc:={ p with site:=p.site+1 }
theorem zde4 (p:Proc):p≠zcC2 p:=fun e=>by have:=congrArg Proc.site e; unfold zcC2 at this; simp only at this; omega
theorem zcs6 {w:work} {i:Nat} (hi:i < w.c.procs.length) (r:Request) {L:List Atom} (hL:L.length≤8) (g:Good w) (hb:bud w≤400000) :
  ∃ w',zc0 (zE3 (i:Int) r L) (0,w)=some w'∧w'.c.procs=w.c.procs∧w'.ev.length≤w.ev.length+160∧(Good w'∨w'.c.queues=[]):=by
 have hev:w.ev.length≤400000:=by unfold bud at hb; omega
 obtain ⟨x,h1,h2⟩:=zr8 (body:=zE3 (i:Int) r L) (fun z=>(∃ k:Nat,z.1=k∧k≤L.length∧z.2.ev.length≤w.ev.length+20 * k)∧z.2.c.procs=w.c.procs∧(Good z.2∨z.2.c.queues=[])) (fun z=>L.length - z.1.toNat)
  (fun x=>x.c.procs=w.c.procs∧x.ev.length≤w.ev.length+160∧(Good x∨x.c.queues=[]))
  (fun z ⟨⟨k,hk,hkl,he⟩,hp,hg⟩=>by
   obtain ⟨z1,w1⟩:=z
   simp only at hk he hp hg
   subst hk
   unfold zE3
   by_cases c:k < L.length
   ·left
    have h3:0≤(k:Int)∧(k:Int) < (L.length:Int):=by omega
    simp only [h3.1,h3.2,and_self,zm3,decide_true,if_true,Int.toNat_natCast,zc4 k (show k < 4611686018427387904 by omega)]
    rw [gdp (by rw [hp]; omega),zbS2,Option.bind_some]
    rcases hg with hg|hg
    ·obtain ⟨c1,c2⟩:=zcP5 hg.v (w1.c.procs.getD i Proce.zero).proc (L.getD k Atom.zero) r.priority
     rw [zaX6 _ _ _ (by omega),Option.bind_some]
     refine ⟨_,rfl,⟨⟨k+1,rfl,c,by simp only [List.length_append]; omega⟩,hp,?_⟩,by simp only [Int.toNat_natCast]; omega⟩
     rcases c2 with c2|c2
     ·exact .inr c2
     ·exact .inl ⟨(c2 Proc.zero).v,hg.len,hg.nd,fun y hy hw=>(hg.ok y hy hw).kept (c2 (zcC2 y.proc)) (zde4 _)⟩
    ·have hcl:zaA6 w1.c.queues (w1.c.procs.getD i Proce.zero).proc (L.getD k Atom.zero) r.priority=errT 10:=by
      rw [hg]; rfl
     rw [hcl,zaX6 _ _ _ (by simp [errT]; omega),Option.bind_some]
     exact ⟨_,rfl,⟨⟨k+1,rfl,c,by simp only [errT,List.append_nil]; omega⟩,hp,.inr rfl⟩,by simp only [Int.toNat_natCast]; omega⟩
   ·right
    simp only [show ¬ (k:Int) < (L.length:Int) by omega,decide_false,Bool.false_eq_true,if_false]
    exact ⟨_,rfl,hp,by omega,hg⟩) (0,w) ⟨⟨0,rfl,by omega,by simp⟩,rfl,.inl g⟩
 exact ⟨x,h1,h2⟩
theorem zbp7 {w:work} (h:Good w∧bud w≤500000∨w.c.queues=[]∧w.c.procs.length≤8∧∀ y ∈ w.c.procs,y.waiting=true→vE y.request.expr=true):∃ w',zl3 w=some w':=by
 rcases h with ⟨h,hb⟩|⟨h1,h2,h3⟩
 ·obtain ⟨w',h1,_⟩:=zaX8 h hb; exact ⟨w',h1⟩
 ·exact ⟨w,zcs4 h1 h2 h3⟩
theorem zbz7 {w:work} (hl:w.c.procs.length≤8):bud w≤w.ev.length+16000:=by
 have:=zdu0 w.c.procs; unfold bud; omega
theorem zcs7 {i:Nat} {c:Central} (h:CenP c) (hi:i < c.procs.length) (r:Request):∃ x,zA3 (i:Int) r ⟨c,[]⟩=some x:=by
 have g:=h.good []
 have hp:=h.each _ (zj8 (z:=Proce.zero) hi)
 unfold zA3
 show ∃ x,gd (0≤(i:Int)∧(i:Int) < ((c.procs.length:Nat):Int)) (if (c.procs.getD (i:Int).toNat Proce.zero).waiting=true then _ else _)=some x
 rw [gdp (by omega)]
 simp only [Int.toNat_natCast]
 cases hw:(c.procs.getD i Proce.zero).waiting with
 | true=>rw [if_pos rfl]; exact ⟨_,rfl⟩
 | false =>
 rw [if_neg (by decide)]
 have v7:∃ b,zI4 r=some b∧(b=true→vE r.expr=true):=by
  unfold zI4
  rw [zW3,Option.bind_some]
  refine ⟨_,rfl,fun h=>?_⟩
  simp only [Bool.and_eq_true] at h; exact h.1.1.1.1
 obtain ⟨b7,v1,v2⟩:=v7
 rw [v1,Option.bind_some]
 cases b7 with
 | false=>exact ⟨_,rfl⟩
 | true =>
 have hvE:=v2 rfl
 obtain ⟨hl,hs⟩:=h.t.lens'
 obtain ⟨v9,r1,r2⟩:=zaU0 (c.queues.map (·.resource)) r.expr (by simpa using hl)
 simp only [Bool.not_true,Bool.false_eq_true,if_false,zaT9 _ hl,Option.bind_some,r1]
 by_cases c9:v9=0
 ·simp only [c9,decide_true,Bool.not_true,Bool.false_eq_true,if_false]
  have h3:0≤(i:Int)∧(i:Int) < ((c.procs.length:Nat):Int):=by omega
  rw [gdp h3,gdp h3,gdp h3]
  simp only [List.set_set,zu5 _ _ _ _ hi]
  have hn:=fun (y:Proce)=>zan7 (i:=i) (w:=⟨⟨c.now,c.queues,c.procs.set i y⟩,[]⟩) (by show i < (c.procs.set i y).length; rw [List.length_set]; exact hi)
  obtain ⟨L,a1,a2,a3⟩:=zal2 r.expr
  rw [hn,Option.bind_some,a1,Option.bind_some]
  simp only [zu5 _ _ _ _ hi,List.set_set]
  have g1:Good ⟨⟨c.now,c.queues,c.procs.set i { { { { c.procs.getD i Proce.zero with waiting:=true } with request:=r } with since:=c.now } with gen:=zn8 (c.procs.getD i Proce.zero).gen }⟩,[]⟩ :=
   g.upd (w:=⟨c,[]⟩) hi (zaI0 h.t) (y:={ { { { c.procs.getD i Proce.zero with waiting:=true } with request:=r } with since:=c.now } with gen:=zn8 (c.procs.getD i Proce.zero).gen }) rfl (fun _=>⟨hvE,by have:=hp.led.le; show (c.procs.getD i Proce.zero).ledger.entries.length≤_; omega,fun L' b hL a ha=>by
    obtain ⟨res,hr,e1,_⟩:=r2 c9 L' b hL a ha
    obtain ⟨q,hq,rfl⟩:=List.mem_map.1 hr
    exact zbT0 ⟨q,hq,e1⟩,fun j hj=>by
    have:=(hp.run hw _ (zj8 (z:=Queue.zero) (show j < c.queues.length from hj))).1
    show covA (c.queues.getD j Queue.zero).resource (getH (c.queues.getD j Queue.zero).holds (c.procs.getD i Proce.zero).proc) (zw4 (c.procs.getD i Proce.zero).ledger.entries (c.queues.getD j Queue.zero).resource.name)=true
    rw [← this]
    exact zan6 (zat7 ((zx5 _).1 (h.t.each _ (zj8 (z:=Queue.zero) hj))).1.hv _)⟩) _ _
  obtain ⟨w',l1,l2,l3,l4⟩:=zcs6 (i:=i) (by show i < (c.procs.set i _).length; rw [List.length_set]; exact hi) r a2 g1 (Nat.le_trans (zbz7 g1.len) (by simp))
  rw [l1,Option.bind_some]
  unfold zX2
  have hl':w'.c.procs.length≤8:=by rw [l2]; exact g1.len
  obtain ⟨w2,s1⟩:=zbp7 (w:=w') (by
   rcases l4 with l4|l4
   ·exact .inl ⟨l4,Nat.le_trans (zbz7 hl') (by simp only [List.length_nil] at l3; omega)⟩
   ·exact .inr ⟨l4,hl',fun y hy hwy=>by rw [l2] at hy; exact (g1.ok y hy hwy).e⟩)
  rw [s1]; exact ⟨_,rfl⟩
 ·simp only [c9,decide_false,Bool.not_false,if_true]
  exact ⟨_,rfl⟩
theorem zbW5 (l:Ledger) (n:ByteArray):∃ r,zy3 l n=some r:=by
 unfold zy3
 obtain ⟨b,h1,h2⟩:=zae8 l
 rw [h1,Option.bind_some]
 cases b with
 | false=>exact ⟨_,rfl⟩
 | true =>
 have hp:=h2 rfl
 have hle:=hp.le; have hls:=hp.ls
 simp only [Bool.not_true,Bool.false_eq_true,if_false]
 rw [gdp (by omega)]
 have inner:∀ (v:Int×Ledger) (x:Ledger),x.saves.length=l.saves.length→∃ y,zc0 (zah2 l v) (0,x)=some y∧y.entries=x.entries∧y.saves.length=l.saves.length:=fun v x hx =>
  zr8 (body:=zah2 l v) (fun g=>∃ k:Nat,g.1=k∧k≤l.saves.length∧g.2.entries=x.entries∧g.2.saves.length=l.saves.length) (fun g=>l.saves.length - g.1.toNat) (fun y=>y.entries=x.entries∧y.saves.length=l.saves.length)
   (fun g ⟨k,hk,hkl,he,hs⟩=>by
    obtain ⟨g1,y⟩:=g
    simp only at hk he hs
    subst hk
    unfold zah2
    by_cases c:k < l.saves.length
    ·left
     have h3:0≤(k:Int)∧(k:Int) < (l.saves.length:Int):=by omega
     simp only [hs,h3.1,h3.2,and_self,zm3,decide_true,if_true,Int.toNat_natCast,zc4 k (show k < 4611686018427387904 by omega)]
     split
     ·exact ⟨_,rfl,⟨k+1,rfl,c,he,by simp only [List.length_set]; exact hs⟩,by simp only [Int.toNat_natCast]; omega⟩
     ·exact ⟨_,rfl,⟨k+1,rfl,c,he,hs⟩,by simp only [Int.toNat_natCast]; omega⟩
    ·right
     simp only [hs,show ¬ (k:Int) < (l.saves.length:Int) by omega,decide_false,Bool.false_eq_true,if_false]
     exact ⟨_,rfl,he,hs⟩) (0,x) ⟨0,rfl,by omega,rfl,hx⟩
 obtain ⟨x,h3,_⟩:=zr8 (body:=zY1 l n) (fun g=>∃ k:Nat,g.1=k∧k≤l.entries.length∧g.2.entries.length≤k∧g.2.saves.length=l.saves.length) (fun g=>l.entries.length - g.1.toNat) (fun _=>True)
  (fun g ⟨k,hk,hkl,he,hs⟩=>by
   obtain ⟨g1,y⟩:=g
   simp only at hk he hs
   subst hk
   unfold zY1
   by_cases c:k < l.entries.length
   ·left
    have h3:0≤(k:Int)∧(k:Int) < (l.entries.length:Int):=by omega
    have h5:y.entries.length+1≤4294967296:=by omega
    simp only [h3.1,h3.2,h5,and_self,zm3,decide_true,if_true,Int.toNat_natCast,zc4 k (show k < 4611686018427387904 by omega)]
    split
    ·exact ⟨_,rfl,⟨k+1,rfl,c,by simp only [List.length_append,List.length_singleton]; omega,hs⟩,by simp only [Int.toNat_natCast]; omega⟩
    ·obtain ⟨z,e1,e2,e3⟩:=inner ((k:Int),y) y hs
     rw [e1,Option.bind_some]
     unfold zaF4
     exact ⟨_,by rw [zc4 k (by omega)],⟨k+1,rfl,c,by simp only [e2]; omega,e3⟩,by simp only [Int.toNat_natCast]; omega⟩
   ·right
    simp only [show ¬ (k:Int) < (l.entries.length:Int) by omega,decide_false,Bool.false_eq_true,if_false]
    exact ⟨_,rfl,trivial⟩) (0,⟨[],l.saves⟩) ⟨0,rfl,by omega,by simp,rfl⟩
 rw [h3,Option.bind_some]
 unfold zaF3
 split <;> exact ⟨_,rfl⟩
theorem zcs8 {i:Nat} {c:Central} (h:CenP c) (hi:i < c.procs.length) (nm:ByteArray):∃ x,zE2 (i:Int) nm ⟨c,[]⟩=some x:=by
 have g:=h.good []
 have hp:=h.each _ (zj8 (z:=Proce.zero) hi)
 unfold zE2
 show ∃ x,gd (0≤(i:Int)∧(i:Int) < ((c.procs.length:Nat):Int)) (if (c.procs.getD (i:Int).toNat Proce.zero).waiting=true then _ else _)=some x
 have h3:0≤(i:Int)∧(i:Int) < ((c.procs.length:Nat):Int):=by omega
 rw [gdp h3]
 simp only [Int.toNat_natCast]
 cases hw:(c.procs.getD i Proce.zero).waiting with
 | true=>rw [if_pos rfl]; exact ⟨_,rfl⟩
 | false =>
 rw [if_neg (by decide),gdp h3,zab0 _ _ (by have:=hp.led.le; omega),Option.bind_some]
 split
 ·exact ⟨_,rfl⟩
 obtain ⟨c1,c2⟩:=zcP6 h.t (c.procs.getD i Proce.zero).proc (⟨nm,Atom.zero.amount⟩:Atom)
 rw [gdp h3,zaL6,Option.bind_some,zaX6 _ _ _ (by simp only [List.length_nil]; omega),Option.bind_some]
 obtain ⟨r,d1⟩:=zbW5 (c.procs.getD i Proce.zero).ledger nm
 simp only
 rw [gdp h3,d1,Option.bind_some,gdp h3]
 have hn:=fun (t:List Queue) (ev:List Event) (y:Proce)=>zan7 (i:=i) (w:=⟨⟨c.now,t,c.procs.set i y⟩,ev⟩) (by show i < (c.procs.set i y).length; rw [List.length_set]; exact hi)
 rw [hn,Option.bind_some]
 simp only [zu5 _ _ _ _ hi,List.set_set]
 obtain ⟨w',s1⟩:=zbp7 (w:=⟨⟨c.now,(zaa9 c.queues (c.procs.getD i Proce.zero).proc (⟨nm,Atom.zero.amount⟩:Atom)).1,c.procs.set i { { c.procs.getD i Proce.zero with ledger:=r.1 } with gen:=zn8 (c.procs.getD i Proce.zero).gen }⟩,[]++(zaa9 c.queues (c.procs.getD i Proce.zero).proc (⟨nm,Atom.zero.amount⟩:Atom)).2.1⟩) (by
  have hl':(c.procs.set i { { c.procs.getD i Proce.zero with ledger:=r.1 } with gen:=zn8 (c.procs.getD i Proce.zero).gen }).length≤8:=by rw [List.length_set]; exact h.len
  rcases c2 with c2|c2
  ·refine .inr ⟨c2,hl',fun y hy hwy=>?_⟩
   rcases List.mem_or_eq_of_mem_set hy with hy|rfl
   ·exact (g.ok y hy hwy).e
   ·have:(c.procs.getD i Proce.zero).waiting=true:=hwy
    rw [hw] at this; cases this
  ·refine .inl ⟨g.upd (w:=⟨c,[]⟩) hi c2 (y:={ { c.procs.getD i Proce.zero with ledger:=r.1 } with gen:=zn8 (c.procs.getD i Proce.zero).gen }) rfl (fun hwy=>?_) _ _,Nat.le_trans (zbz7 hl') (by simp only [List.length_append,List.length_nil]; omega)⟩
   have:(c.procs.getD i Proce.zero).waiting=true:=hwy
   rw [hw] at this; cases this)
 rw [s1]; exact ⟨_,rfl⟩
theorem zbW6 {l:Ledger} (hl:LedgerP l) (label:Int):∃ r,zx2 l label=some r∧(r.2.2=0→∃ k:Nat,k≤l.entries.length∧∀ a ∈ r.2.1,(∃ e ∈ l.entries,e.name=a.name)∧a.amount=zw4 (l.entries.take k) a.name)∧r.2.1.length≤72:=by
 have hle:=hl.le; have hls:=hl.ls
 have k1:∀ (at_:Nat) (sv:Nat),at_≤l.entries.length→sv≤l.saves.length→∃ r,zY2 l ((at_:Int),(sv:Int))=some r∧(r.2.2=0→∃ k:Nat,k≤l.entries.length∧∀ a ∈ r.2.1,(∃ e ∈ l.entries,e.name=a.name)∧a.amount=zw4 (l.entries.take k) a.name)∧r.2.1.length≤72:=by
  intro at_ sv ha hs
  unfold zY2
  simp only [Int.toNat_natCast]
  rw [gdp (by omega),gdp (by simp only [List.length_take]; omega),gdp (by omega),gdp (by simp only [List.length_take]; omega),gdp (by omega)]
  obtain ⟨ns,n1,n2,n3⟩:=zaL7 (l.entries.drop at_) (by simp only [List.length_drop]; omega)
  rw [n1,Option.bind_some]
  have hnl:ns.length≤72:=by rw [List.length_drop] at n2; omega
  have key:=zbj2 ns (⟨#[]⟩:ByteArray) (fun n=>some (⟨n,zw4 (l.entries.take at_) n⟩:Atom)) (body:=zah3 l ((at_:Int),(sv:Int)) ns) (by omega) (fun i s hi hs'=>by
   unfold zah3
   have h3:0≤(i:Int)∧(i:Int) < (ns.length:Int):=by omega
   have h5:s.length+1≤4294967296:=by omega
   simp only [h3.1,h3.2,h5,and_self,zm3,decide_true,if_true,Int.toNat_natCast,zc4 i (show i < 4611686018427387904 by omega)]
   rw [zab0 _ _ (by simp only [List.length_take]; omega)]
   rfl) (fun s=>by unfold zah3; simp)
  rw [key,Option.bind_some]
  refine ⟨_,rfl,fun _=>⟨at_,ha,fun a hm=>?_⟩,?_⟩
  ·obtain ⟨n,hn,e⟩:=List.mem_filterMap.1 (show a ∈ ns.filterMap _ from hm)
   cases e
   obtain ⟨en,he,hen⟩:=(n3 n).1 hn
   exact ⟨⟨en,List.mem_of_mem_drop he,hen⟩,rfl⟩
  ·have:=List.length_filterMap_le (fun n=>some (⟨n,zw4 (l.entries.take at_) n⟩:Atom)) ns
   show (ns.filterMap _).length≤72
   omega
 unfold zx2
 obtain ⟨b,h1,_⟩:=zae8 l
 rw [h1,Option.bind_some]
 cases b with
 | false=>exact ⟨_,rfl,(fun h=>nomatch h),by simp⟩
 | true =>
 simp only [Bool.not_true,Bool.false_eq_true,if_false]
 by_cases c:label=0
 ·rw [if_neg (by simp [c])]
  exact k1 0 0 (by omega) (by omega)
 ·rw [if_pos (by simp [c])]
  obtain ⟨v,f1,f2⟩:=zbz4 l.saves label (by omega)
  rw [f1,Option.bind_some]
  rcases f2 with rfl|⟨f2,f3⟩
  ·exact ⟨_,rfl,(fun h=>nomatch h),by simp⟩
  ·rw [if_neg (by simp; omega),gdp ⟨f2,f3⟩]
   have hs:=hl.at_ _ (zj8 (z:=Save.zero) (show v.toNat < l.saves.length by omega))
   have e1:(l.saves.getD v.toNat Save.zero).at_=(((l.saves.getD v.toNat Save.zero).at_.toNat:Nat):Int):=by omega
   have e2:IntKind.i64.wrap (v+1)=((v.toNat+1:Nat):Int):=by rw [zf6 (by omega) (by omega)]; omega
   rw [e2,e1]
   exact k1 _ _ (by omega) (by omega)
def Back (x:Proce) (t t':List Queue) (k:Nat):Prop:=∀ j,j < t.length→(zA5 (t'.getD j Queue.zero) x.proc).2=false ∧
 (getH (t'.getD j Queue.zero).holds x.proc=zw4 x.ledger.entries (t.getD j Queue.zero).resource.name∨getH (t'.getD j Queue.zero).holds x.proc=zw4 (x.ledger.entries.take k) (t.getD j Queue.zero).resource.name)
theorem zbW7 {c:Central} (h:CenP c) {i:Nat} (hi:i < c.procs.length) {v:Ledger×List Atom×Int} (hv:v.2.1.length≤72) {k:Nat} (hk:k≤(c.procs.getD i Proce.zero).ledger.entries.length)
  (ha:∀ a ∈ v.2.1,(∃ e ∈ (c.procs.getD i Proce.zero).ledger.entries,e.name=a.name)∧a.amount=zw4 ((c.procs.getD i Proce.zero).ledger.entries.take k) a.name)
  {j1:work} (hj:(j1.c.procs.getD i Proce.zero).proc=(c.procs.getD i Proce.zero).proc) (hl1:j1.c.procs.length=c.procs.length) {w:work} (hK:Kept (c.procs.getD i Proce.zero).proc c.queues w.c.queues) (hB:Back (c.procs.getD i Proce.zero) c.queues w.c.queues k) (hev:w.ev.length≤1000) :
  ∃ w',zc0 (zC7 (i:Int) v j1) (0,w)=some w'∧Kept (c.procs.getD i Proce.zero).proc c.queues w'.c.queues∧w'.c.procs=w.c.procs∧w'.ev.length≤w.ev.length+1440:=by
 have hp:=h.each _ (zj8 (z:=Proce.zero) hi)
 obtain ⟨x,h1,h2⟩:=zr8 (body:=zC7 (i:Int) v j1) (fun z=>(∃ m:Nat,z.1=m∧m≤v.2.1.length∧z.2.ev.length≤w.ev.length+20 * m)∧z.2.c.procs=w.c.procs∧Kept (c.procs.getD i Proce.zero).proc c.queues z.2.c.queues∧Back (c.procs.getD i Proce.zero) c.queues z.2.c.queues k) (fun z=>v.2.1.length - z.1.toNat)
  (fun x=>Kept (c.procs.getD i Proce.zero).proc c.queues x.c.queues∧x.c.procs=w.c.procs∧x.ev.length≤w.ev.length+1440)
  (fun z ⟨⟨m,hm,hml,he⟩,hpz,hKz,hBz⟩=>by
   obtain ⟨z1,w1⟩:=z
   simp only at hm he hpz hKz hBz
   subst hm
   unfold zC7
   by_cases cm:m < v.2.1.length
   ·left
    have h3:0≤(m:Int)∧(m:Int) < (v.2.1.length:Int):=by omega
    have hlq:=hKz.v.lens'.1
    simp only [h3.1,h3.2,and_self,zm3,decide_true,if_true,Int.toNat_natCast,zc4 m (show m < 4611686018427387904 by omega)]
    obtain ⟨⟨en,he1,he2⟩,hamt⟩:=ha _ (zj8 (z:=Atom.zero) cm)
    have hnz:=zcC1 hp.led he1
    rw [he2] at hnz
    obtain ⟨q,hq,hqn,hqf⟩:=hp.held _ hnz
    obtain ⟨j,hj1,hj2⟩:=zbT0 ⟨q,hq,hqn⟩
    have hjq:c.queues.getD j Queue.zero=q:=h.t.inj (zj8 hj1) hq (hj2.trans hqn.symm)
    have hj':j < w1.c.queues.length:=by rw [hKz.len]; exact hj1
    have hfd:=hKz.find h.t hj1
    rw [hj2] at hfd
    have h6:=zaO6 hKz.v.lens hj'
    rw [zP1 _ _ (by omega),Option.bind_some,hfd,gdp (by omega)]
    simp only [Int.toNat_natCast,hj]
    rw [zG0 _ _ (by omega),Option.bind_some]
    split
    ·rename_i hne
     have hne':¬ getH (w1.c.queues.getD j Queue.zero).holds (c.procs.getD i Proce.zero).proc=(v.2.1.getD m Atom.zero).amount:=by simpa [-List.getD_eq_getElem?_getD] using hne
     have hBj:=hBz j hj1
     have hres:=hKz.res j hj1
     have hfull:getH (w1.c.queues.getD j Queue.zero).holds (c.procs.getD i Proce.zero).proc=zw4 (c.procs.getD i Proce.zero).ledger.entries (v.2.1.getD m Atom.zero).name:=by
      rcases hBj.2 with e|e
      ·rw [e,hj2]
      ·rw [hj2,← hamt] at e; exact absurd e hne'
     have hcv:covA (w1.c.queues.getD j Queue.zero).resource (getH (w1.c.queues.getD j Queue.zero).holds (c.procs.getD i Proce.zero).proc) (v.2.1.getD m Atom.zero).amount=true:=by
      rw [hfull,hamt,hres,hjq]
      exact zcc1 hp.led hqf ((c.procs.getD i Proce.zero).ledger.entries.length - k) k (by omega)
     obtain ⟨q2,ev,r1,r2,r3,r4,r5,r6⟩:=zcc0 hKz.v hj' (p:=(c.procs.getD i Proce.zero).proc) (a:=(v.2.1.getD m Atom.zero).amount) (by rw [hfull]; exact hnz) hBj.1 hcv
     have hatom:(⟨(w1.c.queues.getD j Queue.zero).resource.name,(v.2.1.getD m Atom.zero).amount⟩:Atom)=v.2.1.getD m Atom.zero:=by rw [hres,hj2]
     rw [hatom] at r1
     rw [zaL6,Option.bind_some,r1,zaX6 _ _ _ (by simp only; omega),Option.bind_some]
     refine ⟨_,rfl,⟨⟨m+1,rfl,cm,by simp only [List.length_append]; omega⟩,hpz,hKz.trans r3,fun j2 hj3=>?_⟩,by simp only [Int.toNat_natCast]; omega⟩
     by_cases e:j=j2
     ·subst e
      show (zA5 ((w1.c.queues.set j q2).getD j Queue.zero) _).2=false∧_
      rw [zu5 _ _ _ _ hj']
      exact ⟨r5,.inr (by rw [r4,hamt,hj2])⟩
     ·show (zA5 ((w1.c.queues.set j q2).getD j2 Queue.zero) _).2=false∧(getH ((w1.c.queues.set j q2).getD j2 Queue.zero).holds _=_∨getH ((w1.c.queues.set j q2).getD j2 Queue.zero).holds _=_)
      rw [zaX5 _ _ _ _ _ e]
      exact hBz j2 hj3
    ·exact ⟨_,rfl,⟨⟨m+1,rfl,cm,by simp only; omega⟩,hpz,hKz,hBz⟩,by simp only [Int.toNat_natCast]; omega⟩
   ·right
    simp only [show ¬ (m:Int) < (v.2.1.length:Int) by omega,decide_false,Bool.false_eq_true,if_false]
    exact ⟨_,rfl,hKz,hpz,by omega⟩) (0,w) ⟨⟨0,rfl,by omega,by simp⟩,rfl,hK,hB⟩
 exact ⟨x,h1,h2⟩
theorem zci3 {i:Nat} {c:Central} (h:CenP c) (hi:i < c.procs.length) (label:Int):∃ x,zz4 (i:Int) label ⟨c,[]⟩=some x:=by
 have g:=h.good []
 have hp:=h.each _ (zj8 (z:=Proce.zero) hi)
 have h3:0≤(i:Int)∧(i:Int) < ((c.procs.length:Nat):Int):=by omega
 unfold zz4
 show ∃ x,gd (0≤(i:Int)∧(i:Int) < ((c.procs.length:Nat):Int)) ((zx2 (c.procs.getD (i:Int).toNat Proce.zero).ledger label).bind _)=some x
 rw [gdp h3]
 simp only [Int.toNat_natCast]
 obtain ⟨v,u1,u2,u3⟩:=zbW6 hp.led label
 rw [u1,Option.bind_some]
 by_cases c0:v.2.2=0
 ·rw [if_neg (by simp [c0]),gdp h3]
  obtain ⟨k,hk,hka⟩:=u2 c0
  have fin:∀ (j1:work),j1.c.procs.length=c.procs.length→(j1.c.procs.getD i Proce.zero).proc=(c.procs.getD i Proce.zero).proc→(j1.c.procs.getD i Proce.zero).waiting=false→j1.ev.length≤320→Kept (c.procs.getD i Proce.zero).proc c.queues j1.c.queues→Back (c.procs.getD i Proce.zero) c.queues j1.c.queues k →
    (∀ t' (y:Proce) (ev:List Event),Kept (c.procs.getD i Proce.zero).proc c.queues t'→y.proc=(c.procs.getD i Proce.zero).proc→y.waiting=false→Good ⟨⟨j1.c.now,t',j1.c.procs.set i y⟩,ev⟩)→∃ x,zz3 (i:Int) v j1=some x:=by
   intro j1 hl1 hpr hw1 hev hK hB hG
   unfold zz3
   have hi1:i < j1.c.procs.length:=by omega
   rw [gdp (by omega),gdp (by omega)]
   simp only [Int.toNat_natCast]
   obtain ⟨w',l1,l2,l3,l4⟩:=zbW7 h hi u3 hk hka hpr hl1 (w:=⟨⟨j1.c.now,j1.c.queues,j1.c.procs.set i { j1.c.procs.getD i Proce.zero with ledger:=v.1 }⟩,j1.ev⟩) hK hB (by simp only; omega)
   rw [l1,Option.bind_some]
   unfold zJ8
   have hi2:i < w'.c.procs.length:=by rw [l3,List.length_set]; exact hi1
   rw [zan7 hi2,Option.bind_some]
   obtain ⟨w2,s1⟩:=zbp7 (w:=⟨⟨w'.c.now,w'.c.queues,w'.c.procs.set i { w'.c.procs.getD i Proce.zero with gen:=zn8 (w'.c.procs.getD i Proce.zero).gen }⟩,w'.ev⟩) (.inl (by
    have e:w'.c.procs.set i { w'.c.procs.getD i Proce.zero with gen:=zn8 (w'.c.procs.getD i Proce.zero).gen }=j1.c.procs.set i { { j1.c.procs.getD i Proce.zero with ledger:=v.1 } with gen:=zn8 (j1.c.procs.getD i Proce.zero).gen }:=by
     rw [l3]; simp only [zu5 _ _ _ _ hi1,List.set_set]
    rw [e]
    have gg:=hG w'.c.queues { { j1.c.procs.getD i Proce.zero with ledger:=v.1 } with gen:=zn8 (j1.c.procs.getD i Proce.zero).gen } w'.ev l2 hpr hw1
    refine ⟨⟨gg.v,gg.len,gg.nd,gg.ok⟩,Nat.le_trans (zbz7 gg.len) ?_⟩
    simp only at l4 ⊢
    omega))
   rw [s1]; exact ⟨_,rfl⟩
  show ∃ x,(if (c.procs.getD i Proce.zero).waiting=true then _ else _)=some x
  rcases hb (c.procs.getD i Proce.zero).waiting with hw|hw
  case inr =>
   rw [if_neg (by rw [hw]; decide)]
   refine fin ⟨c,[]⟩ rfl rfl hw (by simp) (zaI0 h.t) (fun j hj=>?_) (fun t' y ev k1 k2 k3=>g.upd (w:=⟨c,[]⟩) hi k1 k2 (fun hh=>by rw [k3] at hh; cases hh) _ _)
   have:=hp.run hw _ (zj8 (z:=Queue.zero) (show j < c.queues.length from hj))
   exact ⟨this.2,.inl this.1⟩
  case inl =>
   rw [if_pos hw]
   obtain ⟨t',ev,L,w1,w2,w3,w4,w5⟩:=zbu8 (w:=⟨c,[]⟩) g hi hw (Nat.le_trans (zbz7 g.len) (by simp))
   rw [w1,Option.bind_some]
   have hgi:(c.procs.set i (zX0 (c.procs.getD i Proce.zero))).getD i Proce.zero=zX0 (c.procs.getD i Proce.zero):=zu5 _ _ _ _ hi
   refine fin _ (by simp) (by show ((c.procs.set i _).getD i Proce.zero).proc=_; rw [hgi]; rfl) (by show ((c.procs.set i _).getD i Proce.zero).waiting=false; rw [hgi]; rfl) (by simp only [List.nil_append]; exact w2) w3 (fun j hj=>?_) (fun t2 y ev2 k1 k2 k3=>?_)
   ·rcases w5 j hj with h5|⟨h5,h6⟩
    ·exact ⟨h5.2,.inl h5.1⟩
    ·obtain ⟨_,hpp⟩:=hp.wait hw
     have hpq:=(hpp L true w4).2 _ (zj8 (z:=Queue.zero) (show j < c.queues.length from hj))
     rcases hpq with ⟨a,ha,hn,_⟩|⟨h7,h8⟩
     ·exact absurd hn (h6 a ha)
     ·show (zA5 (t'.getD j Queue.zero) _).2=false∧(getH (t'.getD j Queue.zero).holds _=_∨_)
      rw [show t'.getD j Queue.zero=c.queues.getD j Queue.zero from h5]
      exact ⟨h8,.inl h7⟩
   ·have:=g.upd (w:=⟨c,[]⟩) hi k1 k2 (fun hh=>by rw [k3] at hh; cases hh) c.now ev2
    show Good ⟨⟨c.now,t2,(c.procs.set i _).set i y⟩,ev2⟩
    rw [List.set_set]; exact this
 ·rw [if_pos (by simp [c0])]
  exact ⟨_,rfl⟩
theorem zbW8 (l:Ledger) (n:Int) (hl:l.saves.length≤1000) (he:l.entries.length≤1000):∃ r,zx1 l n=some r:=by
 unfold zx1
 obtain ⟨b,h1,_⟩:=zae8 l
 rw [h1,Option.bind_some]
 split
 ·exact ⟨_,rfl⟩
 split
 ·exact ⟨_,rfl⟩
 obtain ⟨v,f1,_⟩:=zbz4 l.saves n (by omega)
 rw [f1,Option.bind_some]
 split
 ·exact ⟨_,rfl⟩
 split
 ·exact ⟨_,rfl⟩
 rw [gdp (by omega),gdp (by omega),gdp (by omega)]
 exact ⟨_,rfl⟩
theorem zdu1 {c:Central} (h:CenP c) (k:Command):∃ x,zJ9 k ⟨c,[]⟩=some x:=by
 have g:=h.good []
 have hbud:bud ⟨c,[]⟩≤400000:=Nat.le_trans (zbz7 g.len) (by simp)
 have b1:∀ {α β:Type} {o:Option α} {f:α→β},(∃ x,o=some x)→∃ x,(o.bind fun v=>some (f v))=some x:=fun {α β o f} ⟨x,hx⟩=>⟨f x,by rw [hx]; rfl⟩
 unfold zJ9
 by_cases k0:((decide (k.kind < 1))||(decide (9 < k.kind)))=true
 ·rw [if_pos k0]; exact ⟨_,rfl⟩
 rw [if_neg k0]
 by_cases k1:k.kind=1
 ·rw [if_pos (decide_eq_true k1)]; exact b1 (zde0 _ _ g.len)
 rw [if_neg (by simpa using k1)]
 by_cases k9:k.kind=9
 ·rw [if_pos (decide_eq_true k9)]; exact b1 (zdd9 _ g hbud)
 rw [if_neg (by simpa using k9)]
 obtain ⟨v,i1,i2⟩:=zaL9 c.procs k.proc (by have:=h.len; omega)
 show ∃ x,(zi4 c.procs k.proc).bind _=some x
 rw [i1,Option.bind_some]
 rcases i2 with ⟨rfl,_⟩|⟨i,rfl,hi,_⟩
 ·exact ⟨_,rfl⟩
 have hp:=h.each _ (zj8 (z:=Proce.zero) hi)
 have h3:0≤(i:Int)∧(i:Int) < ((c.procs.length:Nat):Int):=by omega
 rw [if_neg (by simp)]
 show ∃ x,gd (0≤(i:Int)∧(i:Int) < ((c.procs.length:Nat):Int)) _=some x
 rw [gdp h3]
 simp only [Int.toNat_natCast]
 by_cases k2:k.kind=2
 ·rw [if_pos (decide_eq_true k2)]
  exact b1 (zcs7 h hi _)
 rw [if_neg (by simpa using k2)]
 by_cases k3:k.kind=3
 ·rw [if_pos (decide_eq_true k3)]
  rcases hb (c.procs.getD i Proce.zero).waiting with hw|hw
  case inr=>rw [if_pos (by show (!(c.procs.getD i Proce.zero).waiting)=true; rw [hw]; rfl)]; exact ⟨_,rfl⟩
  case inl =>
   rw [if_neg (by show ¬ (!(c.procs.getD i Proce.zero).waiting)=true; rw [hw]; decide)]
   obtain ⟨w1,w2,r1,r2,r3,_,_,r6⟩:=zbl9 (w:=⟨c,[]⟩) g hi hw (by omega)
   rw [r1,Option.bind_some,r2,Option.bind_some]
   obtain ⟨w3,s1,_⟩:=zaX8 r3 (by omega)
   show ∃ x,(zl3 w2).bind _=some x
   rw [s1]; exact ⟨_,rfl⟩
 rw [if_neg (by simpa using k3)]
 by_cases k4:k.kind=4
 ·rw [if_pos (decide_eq_true k4)]
  exact b1 (zcs8 h hi _)
 rw [if_neg (by simpa using k4)]
 by_cases k5:k.kind=5
 ·rw [if_pos (decide_eq_true k5)]
  rcases hb (c.procs.getD i Proce.zero).waiting with hw|hw
  case inl=>rw [if_pos (by exact hw)]; exact ⟨_,rfl⟩
  case inr =>
   rw [if_neg (by show ¬ (c.procs.getD i Proce.zero).waiting=true; rw [hw]; decide),gdp h3]
   obtain ⟨r,s1⟩:=zbW8 (c.procs.getD i Proce.zero).ledger k.n (by have:=hp.led.ls; omega) (by have:=hp.led.le; omega)
   rw [s1,Option.bind_some]
   split
   ·exact ⟨_,rfl⟩
   ·rw [gdp h3]
    have hn:=fun (y:Proce)=>zan7 (i:=i) (w:=⟨⟨c.now,c.queues,c.procs.set i y⟩,[]⟩) (by show i < (c.procs.set i y).length; rw [List.length_set]; exact hi)
    rw [hn]; exact ⟨_,rfl⟩
 rw [if_neg (by simpa using k5)]
 by_cases k6:k.kind=6
 ·rw [if_pos (decide_eq_true k6)]
  exact b1 (zci3 h hi _)
 rw [if_neg (by simpa using k6)]
 by_cases k8:k.kind=8
 ·rw [if_pos (decide_eq_true k8)]
  rcases hb (c.procs.getD i Proce.zero).waiting with hw|hw
  case inl=>rw [if_pos (by exact hw)]; exact ⟨_,rfl⟩
  case inr =>
   rw [if_neg (by show ¬ (c.procs.getD i Proce.zero).waiting=true; rw [hw]; decide)]
   exact b1 (zcs5 g hi hbud)
 rw [if_neg (by simpa using k8)]
 by_cases k7:k.kind=7
 ·rw [if_pos (decide_eq_true k7)]
  exact b1 (zcs5 g hi hbud)
 ·rw [if_neg (by simpa using k7)]; exact ⟨_,rfl⟩
theorem zcs9 (c:Central) (k:Command):∃ x,zar5 c k=some x:=by
 unfold zar5
 obtain ⟨b,h1,h2⟩:=zbg7 c
 rw [h1,Option.bind_some]
 cases b with
 | false=>exact ⟨_,rfl⟩
 | true =>
  have h:=h2 rfl
  rw [if_neg (by decide)]
  unfold zj3
  rw [gdp (by have:=h.t.len; omega),gdp (by have:=h.len; omega),Option.bind_some]
  obtain ⟨x,e⟩:=zdu1 h k
  show ∃ x,(zJ9 k ⟨c,[]⟩).bind _=some x
  rw [e,Option.bind_some]
  split <;> exact ⟨_,rfl⟩
theorem zct0 (c:Central) (l:List Command) (hl:l.length≤100000):∃ x,zar6 c l=some x:=by
 unfold zar6
 obtain ⟨x,h1,_⟩:=zr8 (body:=zaB1 l) (fun g=>∃ k:Nat,g.1=k∧k≤l.length) (fun g=>l.length - g.1.toNat) (fun _=>True)
  (fun g ⟨k,hk,hkl⟩=>by
   obtain ⟨g1,y⟩:=g
   simp only at hk
   subst hk
   unfold zaB1
   by_cases c:k < l.length
   ·left
    have h3:0≤(k:Int)∧(k:Int) < (l.length:Int):=by omega
    obtain ⟨x,e⟩:=zcs9 y (l.getD k Command.zero)
    simp only [h3.1,h3.2,and_self,zm3,decide_true,if_true,Int.toNat_natCast,zc4 k (show k < 4611686018427387904 by omega),e,Option.bind_some]
    split
    ·exact ⟨_,rfl,⟨k+1,rfl,c⟩,by simp only [Int.toNat_natCast]; omega⟩
    ·exact ⟨_,rfl,⟨k+1,rfl,c⟩,by simp only [Int.toNat_natCast]; omega⟩
   ·right
    simp only [show ¬ (k:Int) < (l.length:Int) by omega,decide_false,Bool.false_eq_true,if_false]
    exact ⟨_,rfl,trivial⟩) (0,c) ⟨0,rfl,by omega⟩
 rw [h1]; exact ⟨_,rfl⟩
structure Adv (u u':Tape):Prop where
 ok:TapeOk u'
 l:u'.l=u.l
 at_:u.at_≤u'.at_
theorem Adv.trans {a b c:Tape} (h:Adv a b) (k:Adv b c):Adv a c:=⟨k.ok,k.l.trans h.l,Int.le_trans h.at_ k.at_⟩
theorem Adv.refl {a:Tape} (h:TapeOk a):Adv a a:=⟨h,rfl,Int.le_refl _⟩
theorem zbu9 {u:Tape} (h:TapeOk u):Adv u (zQ1 u):=⟨zax3 h,zcG7 u,by
 unfold zQ1
 split
 ·exact Int.le_refl _
 ·show u.at_≤u.at_+1
  omega⟩
theorem zap7 {m:Int} (h1:1≤m) (h2:m≤1000000) {u:Tape} (h:TapeOk u):∃ v u',zb4 m u=some (v,u')∧Adv u u'∧0≤v∧v < m:=by
 have:=zaE5 m u h1
 exact ⟨_,_,zaW7 m u h h1 h2,zbu9 h,this.1,this.2⟩
theorem zbz8 {m:Int} (h1:1≤m) (h2:m≤1048576) {u:Tape} (h:TapeOk u):∃ v u',zb4 m u=some (v,u')∧Adv u u':=by
 unfold zb4
 have hl:=h.len; have ha:=h.at_
 by_cases c:(u.l.length:Int)≤u.at_
 ·rw [if_pos (by simpa using c)]; exact ⟨_,_,rfl,Adv.refl h⟩
 ·rw [if_neg (by simpa using c)]
  have w1:IntKind.i64.wrap (u.at_+1)=u.at_+1:=zf6 (by omega) (by omega)
  have w2:IntKind.i64.wrap (u.at_+1 - 1)=u.at_:=by rw [zf6 (by omega) (by omega)]; omega
  simp only [w1,w2]
  rw [gdp (by omega)]
  have hm:∃ v,zn6 (u.l.getD u.at_.toNat 0) m=some v:=by
   unfold zn6
   rw [if_neg (by simp; omega),gdp (by omega)]
   split <;> exact ⟨_,rfl⟩
  obtain ⟨v,hv⟩:=hm
  rw [hv]
  exact ⟨_,_,rfl,⟨hl,by simp only; omega⟩,rfl,by simp only; omega⟩
theorem zcc2 (atoms:List Atom) (ha:1≤atoms.length) (hb:atoms.length≤1000):∀ (n:Nat) (d:Int),0≤d→d.toNat < n→d≤10→∀ u,TapeOk u→∃ e u',zR8 n atoms d u=some (e,u')∧Adv u u'
 | 0,_,_,h,_,_,_=>by omega
 | n+1,d,h0,hd,h10,u,hu=>by
  show ∃ e u',zac6 (zR8 n) atoms d u=some (e,u')∧_
  unfold zac6
  have first:∃ v u1,(if (!decide (d=0))=true then zb4 4 u else some (0,u))=some (v,u1)∧Adv u u1:=by
   split
   ·obtain ⟨v,u1,h1,h2,_⟩:=zap7 (m:=4) (by decide) (by decide) hu
    exact ⟨v,u1,h1,h2⟩
   ·exact ⟨0,u,rfl,Adv.refl hu⟩
  obtain ⟨v,u1,e1,a1⟩:=first
  rw [e1,Option.bind_some]
  by_cases c:((decide (d=0))||(decide (v=0)))=true
  ·rw [if_pos c]
   obtain ⟨v2,u2,e2,a2,r1,r2⟩:=zap7 (m:=(atoms.length:Int)) (by omega) (by omega) a1.ok
   rw [e2,Option.bind_some,gdp ⟨r1,r2⟩]
   exact ⟨_,_,rfl,a1.trans a2⟩
  ·rw [if_neg c]
   have hd1:1≤d:=by
    simp only [Bool.or_eq_true,decide_eq_true_eq,not_or] at c; omega
   obtain ⟨v3,u3,e3,a3,r1,r2⟩:=zap7 (m:=3) (by decide) (by decide) a1.ok
   rw [e3,Option.bind_some]
   have w3:IntKind.i64.wrap (1+v3)=1+v3:=zf6 (by omega) (by omega)
   simp only [w3]
   obtain ⟨v4,u4,e4,a4,r3,r4⟩:=zap7 (m:=1+v3) (by omega) (by omega) a3.ok
   rw [e4,Option.bind_some]
   have hA:=(a1.trans a3).trans a4
   obtain ⟨x,l1,l2⟩:=zr8 (body:=zai3 (zR8 n) atoms d (v3,u3)) (fun g=>∃ k:Nat,g.1=k∧k≤4∧Adv u g.2.1∧g.2.2.kids.length≤k) (fun g=>4 - g.1.toNat) (fun x=>Adv u x.1)
    (fun g ⟨k,hk,hk4,hA,hkl⟩=>by
     obtain ⟨g1,t,e⟩:=g
     simp only at hk hA hkl
     subst hk
     unfold zai3
     simp only [w3]
     by_cases ck:(k:Int) < 1+v3
     ·left
      rw [if_pos (by simpa using ck)]
      have wd:IntKind.i64.wrap (d - 1)=d - 1:=zf6 (by omega) (by omega)
      obtain ⟨e5,u5,e6,a6⟩:=zcc2 atoms ha hb n (d - 1) (by omega) (by omega) (by omega) t hA.ok
      rw [wd,e6,Option.bind_some,gdp (by omega),zc4 k (by omega)]
      exact ⟨_,rfl,⟨k+1,rfl,by omega,hA.trans a6,by simp only [List.length_append,List.length_singleton]; omega⟩,by simp only [Int.toNat_natCast]; omega⟩
     ·right
      rw [if_neg (by simpa using ck)]
      exact ⟨_,rfl,hA⟩) (0,u4,(⟨(IntKind.i64.wrap (1+v4)),(⟨Atom.zero.name,(⟨Atom.zero.amount.mode,Atom.zero.amount.units⟩:Amount)⟩:Atom),[]⟩:Expr)) ⟨0,rfl,by omega,hA,by simp⟩
   rw [l1,Option.bind_some]
   exact ⟨_,_,rfl,l2⟩
theorem zde5 (l:List Resource) (hl:1≤l.length) (hl2:l.length≤10) (hs:∀ r ∈ l,zg3 r=true) {u:Tape} (hu:TapeOk u):∃ e u',zs4 l u=some (e,u')∧Adv u u':=by
 unfold zs4
 obtain ⟨v1,u1,e1,a1⟩:=zbz8 (m:=1048576) (by decide) (by decide) hu
 rw [e1,Option.bind_some]
 obtain ⟨x,l1,l2⟩:=zr8 (body:=zam4 l (v1,u1)) (fun g=>∃ k:Nat,g.1=k∧k≤l.length∧g.2.length=k) (fun g=>l.length - g.1.toNat) (fun x=>x.length=l.length)
  (fun g ⟨k,hk,hkl,hg⟩=>by
   obtain ⟨g1,s⟩:=g
   simp only at hk hg
   subst hk
   unfold zam4
   by_cases c:k < l.length
   ·left
    have h3:0≤(k:Int)∧(k:Int) < (l.length:Int):=by omega
    have w1:IntKind.i64.wrap (3 * (k:Int))=3 * (k:Int):=zf6 (by omega) (by omega)
    have w2:0≤IntKind.u64.wrap (3 * (k:Int)):=by
     unfold IntKind.wrap
     simp only [IntKind.signed,Bool.false_and,Bool.false_eq_true,if_false]
     exact Int.emod_nonneg _ (by decide)
    simp only [h3.1,h3.2,and_self,zm3,decide_true,if_true,Int.toNat_natCast,zc4 k (show k < 4611686018427387904 by omega),w1]
    rw [gdp w2,zbP9 _ _ (hs _ (zj8 c)),Option.bind_some,gdp (by omega)]
    exact ⟨_,rfl,⟨k+1,rfl,c,by simp only [List.length_append,List.length_singleton]; omega⟩,by simp only [Int.toNat_natCast]; omega⟩
   ·right
    simp only [show ¬ (k:Int) < (l.length:Int) by omega,decide_false,Bool.false_eq_true,if_false]
    exact ⟨_,rfl,by omega⟩) (0,[]) ⟨0,rfl,by omega,rfl⟩
 rw [l1,Option.bind_some]
 unfold zay8 zq2
 obtain ⟨e,u2,e2,a2⟩:=zcc2 x (by omega) (by omega) ((2:Int).toNat+1) 2 (by decide) (by decide) (by decide) u1 a1.ok
 rw [e2]
 exact ⟨_,_,rfl,a1.trans a2⟩
theorem zde6 (l:List Resource) (hl:1≤l.length) (hl2:l.length≤10) (hs:∀ r ∈ l,zg3 r=true) {u:Tape} (hu:TapeOk u):∃ e u',zt2 l u=some (e,u')∧Adv u u':=by
 unfold zt2
 obtain ⟨v1,u1,e1,a1,_⟩:=zap7 (m:=8) (by decide) (by decide) hu
 obtain ⟨v2,u2,e2,a2,_⟩:=zap7 (m:=5) (by decide) (by decide) a1.ok
 rw [e1,Option.bind_some,e2,Option.bind_some]
 have k1:∀ (t:Tape) (r:Request),Adv u t→∃ e u',zK7 l (t,r)=some (e,u')∧Adv u u':=fun t r ht=>by
  unfold zK7
  obtain ⟨e,u3,e3,a3⟩:=zde5 l hl hl2 hs ht.ok
  rw [e3]; exact ⟨_,_,rfl,ht.trans a3⟩
 split
 ·obtain ⟨v3,u3,e3,a3,_⟩:=zap7 (m:=20) (by decide) (by decide) a2.ok
  rw [e3,Option.bind_some]
  exact k1 _ _ ((a1.trans a2).trans a3)
 ·exact k1 _ _ (a1.trans a2)
theorem zct1 (l:List Resource) (hl:1≤l.length) (hl2:l.length≤10) (hs:∀ r ∈ l,zg3 r=true) {u:Tape} (hu:TapeOk u):∃ e u',zz2 l u=some (e,u')∧Adv (zQ1 u) u':=by
 unfold zz2
 rw [zaW7 16 u hu (by decide) (by decide),Option.bind_some]
 have a1:=zbu9 hu
 obtain ⟨v2,u2,e2,a2,_⟩:=zap7 (m:=6) (by decide) (by decide) a1.ok
 rw [e2,Option.bind_some,zaW6,Option.bind_some]
 have nx:∀ (m:Int),1≤m→m≤1000000→∃ v u3,zb4 m u2=some (v,u3)∧Adv (zQ1 u) u3∧0≤v∧v < m:=fun m h1 h2=>by
  obtain ⟨v,u3,e3,a3,r⟩:=zap7 h1 h2 a2.ok
  exact ⟨v,u3,e3,a2.trans a3,r⟩
 split
 ·obtain ⟨v,u3,e3,a3,_⟩:=nx 9 (by decide) (by decide)
  rw [e3]; exact ⟨_,_,rfl,a3⟩
 split
 ·obtain ⟨e,u3,e3,a3⟩:=zde6 l hl hl2 hs a2.ok
  rw [e3]; exact ⟨_,_,rfl,a2.trans a3⟩
 split
 ·exact ⟨_,_,rfl,a2⟩
 split
 ·obtain ⟨v,u3,e3,a3,r1,r2⟩:=nx (l.length:Int) (by omega) (by omega)
  rw [e3,Option.bind_some,gdp ⟨r1,r2⟩]; exact ⟨_,_,rfl,a3⟩
 split
 ·obtain ⟨v,u3,e3,a3,_⟩:=nx 4 (by decide) (by decide)
  rw [e3]; exact ⟨_,_,rfl,a3⟩
 split
 ·obtain ⟨v,u3,e3,a3,_⟩:=nx 5 (by decide) (by decide)
  rw [e3]; exact ⟨_,_,rfl,a3⟩
 split
 ·exact ⟨_,_,rfl,a2⟩
 split
 ·exact ⟨_,_,rfl,a2⟩
 ·obtain ⟨v,u3,e3,a3,_⟩:=nx 12 (by decide) (by decide)
  rw [e3]; exact ⟨_,_,rfl,a3⟩
theorem zcc3:∀ (n:Nat) {u:Tape},TapeOk u→Adv u (zaT5 n u)
 | 0,u,h=>Adv.refl h
 | n+1,u,h=>by
  have:=zcc3 n (zax3 h)
  exact (zbu9 h).trans this
theorem zcC3 {l:List Int} (hl:l.length≤300):∃ r k,zO6 l=some (r,k)∧k.length≤1000:=by
 unfold zO6
 have h0:TapeOk { Tape.zero with l:=l }:=⟨by simp only; omega,by show 0≤(0:Int)∧(0:Int)≤l.length; omega⟩
 rw [zcz2 _ h0,Option.bind_some]
 have hA:=zcc3 8 h0
 have hsh:=zcq1 { Tape.zero with l:=l }
 obtain ⟨x,l1,l2⟩:=zr8 (body:=zam9) (fun g=>∃ k:Nat,g.1=k∧k≤4∧Adv { Tape.zero with l:=l } g.2.1∧g.2.2.length≤k) (fun g=>4 - g.1.toNat) (fun x=>Adv { Tape.zero with l:=l } x.1∧x.2.length≤4)
  (fun g ⟨k,hk,hk4,hA,hkl⟩=>by
   obtain ⟨g1,t,s⟩:=g
   simp only at hk hA hkl
   subst hk
   unfold zam9
   by_cases ck:k < 4
   ·left
    rw [if_pos (by simp; omega),zaW6,Option.bind_some]
    obtain ⟨v,u,e,a,_⟩:=zap7 (m:=9) (by decide) (by decide) hA.ok
    simp only [e,Option.bind_some]
    rw [gdp (by omega),zc4 k (by omega)]
    exact ⟨_,rfl,⟨k+1,rfl,by omega,hA.trans a,by simp only [List.length_append,List.length_singleton]; omega⟩,by simp only [Int.toNat_natCast]; omega⟩
   ·right
    rw [if_neg (by simp; omega)]
    exact ⟨_,rfl,hA,by simp only; omega⟩) (0,zaT5 8 { Tape.zero with l:=l },[]) ⟨0,rfl,by omega,hA,by simp⟩
 rw [l1,Option.bind_some]
 unfold zam8
 obtain ⟨t0,s0⟩:=x
 simp only at l2
 obtain ⟨y,m1,m2⟩:=zr8 (body:=zam7 (catL { Tape.zero with l:=l },zaT5 8 { Tape.zero with l:=l })) (fun g=>Adv { Tape.zero with l:=l } g.1∧(g.2.length:Int)≤4+g.1.at_) (fun g=>l.length - g.1.at_.toNat) (fun y=>y.length≤1000)
  (fun g ⟨hA,hg⟩=>by
   obtain ⟨t,s⟩:=g
   simp only at hA hg
   have htl:t.l.length=l.length:=by rw [hA.l]
   have hta:=hA.ok.at_
   unfold zam7 ze0
   rw [Option.bind_some]
   by_cases c:t.at_ < (t.l.length:Int)
   ·left
    rw [if_pos (by simpa using c)]
    obtain ⟨e,u,e1,a1⟩:=zct1 (catL { Tape.zero with l:=l }) (by unfold catL; simp) (by unfold catL; simp) hsh hA.ok
    simp only [e1,Option.bind_some]
    rw [gdp (by omega)]
    have hn:(zQ1 t).at_=t.at_+1:=by unfold zQ1; rw [if_neg (by omega)]
    have:=a1.at_
    rw [hn] at this
    have hul:=a1.ok.at_
    have:u.l.length=l.length:=by rw [a1.l,zcG7,htl]
    exact ⟨_,rfl,⟨(hA.trans (zbu9 hA.ok)).trans a1,by simp only [List.length_append,List.length_singleton]; omega⟩,by simp only; omega⟩
   ·right
    rw [if_neg (by simpa using c)]
    exact ⟨_,rfl,by simp only; omega⟩) (t0,s0) ⟨l2.1,by have:=l2.2; have:=l2.1.ok.at_; simp only; omega⟩
 rw [m1,Option.bind_some]
 exact ⟨_,_,rfl,m2⟩
theorem zct2 {l:List Int} (hl:l.length≤300):∃ c,zae2 l=some c:=by
 unfold zae2
 obtain ⟨r,k,h1,h2⟩:=zcC3 hl
 rw [h1,Option.bind_some]
 have hn:∃ v,zaj9 r=some v:=by
  unfold zaj9
  rw [zci0,Option.bind_some]
  split <;> exact ⟨_,rfl⟩
 obtain ⟨v,h3⟩:=hn
 simp only [h3,Option.bind_some]
 obtain ⟨c,h4⟩:=zct0 v.1 k (by omega)
 rw [h4]; exact ⟨_,rfl⟩
def zap8 (x:Proce):Option Need:=if x.waiting=true then some ⟨x.proc,x.request.expr,x.gen⟩ else none
theorem zbp8 {x:Proce} {n:Need} (h:zap8 x=some n):x.waiting=true∧n=⟨x.proc,x.request.expr,x.gen⟩:=by
 unfold zap8 at h
 split at h
 ·rename_i c; cases h; exact ⟨c,rfl⟩
 ·cases h
theorem zdn4 {p q:Proc} (h:ltP p q):cmpP p q < 0:=by rw [zbr9,if_pos h]; decide
theorem zcC4:zQ2 WaitState.zero=true:=by decide
theorem zde7 {c:Central} (h:CenP c):zQ2 ⟨c.queues,c.procs.filterMap zap8⟩=true:=by
 have hfl:=List.length_filterMap_le zap8 c.procs
 have hl:=h.len
 have hmem:∀ n ∈ c.procs.filterMap zap8,∃ x ∈ c.procs,x.waiting=true∧n=⟨x.proc,x.request.expr,x.gen⟩:=fun n hn=>by
  obtain ⟨x,hx,e⟩:=List.mem_filterMap.1 hn
  exact ⟨x,hx,zbp8 e⟩
 have hpw:(c.procs.filterMap zap8).Pairwise fun a b=>ltP a.proc b.proc:=by
  rw [List.pairwise_filterMap]
  refine h.asc.imp fun {a b} hab n hn m hm=>?_
  rw [(zbp8 hn).2,(zbp8 hm).2]
  exact hab
 unfold zQ2
 simp only [Bool.and_eq_true,decide_eq_true_eq]
 refine ⟨⟨⟨(zal0 _).2 ⟨h.t.len,h.t.each,h.t.asc⟩,by omega⟩,?_⟩,?_⟩
 ·unfold zaA2
  rw [List.all_eq_true]
  intro i hi
  rw [List.mem_range] at hi
  have gg:∀ k,(hk:k < (c.procs.filterMap zap8).length)→(c.procs.filterMap zap8).getD k Need.zero=(c.procs.filterMap zap8)[k]:=fun k hk=>by rw [List.getD_eq_getElem?_getD,List.getElem?_eq_getElem hk]; rfl
  obtain ⟨x,hx,hw,e⟩:=hmem _ (zj8 (z:=Need.zero) hi)
  have hp:=h.each x hx
  unfold zaT7
  have hord:(decide (i=0)||decide (cmpP ((c.procs.filterMap zap8).getD (i - 1) Need.zero).proc ((c.procs.filterMap zap8).getD i Need.zero).proc < 0))=true:=by
   by_cases c0:i=0
   ·simp [c0]
   ·have:=List.pairwise_iff_getElem.1 hpw (i - 1) i (by omega) hi (by omega)
    rw [gg _ (by omega),gg _ hi,decide_eq_true (zdn4 this),Bool.or_true]
  rw [hord,e]
  simp only [hp.pv,(hp.wait hw).1,Bool.true_and,Bool.and_true,decide_eq_true_eq,Bool.and_eq_true]
  exact hp.gen
 ·unfold zaL3
  refine Nat.le_trans (List.Nodup.length_le_of_subset (zaT3 (zaT2 _)) (l₂:=c.procs.map (·.proc)) fun p hp=>?_) (by simpa using hl)
  rw [zaA1,List.mem_append] at hp
  rcases hp with hp|hp
  ·obtain ⟨x,hx,e⟩:=h.procs p hp
   exact List.mem_map.2 ⟨x,hx,e⟩
  ·obtain ⟨n,hn,e⟩:=List.mem_map.1 hp
   obtain ⟨x,hx,_,e2⟩:=hmem n hn
   exact List.mem_map.2 ⟨x,hx,by rw [← e,e2]⟩
theorem zct3 (c:Central):∃ s,zak2 c=some s∧zQ2 s=true:=by
 unfold zak2
 obtain ⟨b,h1,h2⟩:=zbg7 c
 rw [h1,Option.bind_some]
 cases b with
 | false=>exact ⟨_,rfl,zcC4⟩
 | true =>
 have h:=h2 rfl
 have hl:=h.len; have hlq:=h.t.len
 rw [if_neg (by decide),gdp (by omega)]
 obtain ⟨x,l1,l2⟩:=zr8 (body:=zaB2 c) (fun g=>∃ k:Nat,g.1=k∧k≤c.procs.length∧g.2=⟨c.queues,(c.procs.take k).filterMap zap8⟩) (fun g=>c.procs.length - g.1.toNat) (fun x=>x=⟨c.queues,c.procs.filterMap zap8⟩)
  (fun g ⟨k,hk,hkl,hg⟩=>by
   obtain ⟨g1,s⟩:=g
   simp only at hk hg
   subst hk
   subst hg
   unfold zaB2
   by_cases cc:k < c.procs.length
   ·left
    have h3:0≤(k:Int)∧(k:Int) < (c.procs.length:Int):=by omega
    have hle:=List.length_filterMap_le zap8 (c.procs.take k)
    rw [List.length_take] at hle
    simp only [h3.1,h3.2,and_self,zm3,decide_true,if_true,Int.toNat_natCast,zc4 k (show k < 4611686018427387904 by omega)]
    have e0:∀ x:Proce,(c.procs.take k++[x]).filterMap zap8=(c.procs.take k).filterMap zap8++(match zap8 x with|some n=>[n]|none=>[]):=fun x=>by
     rw [List.filterMap_append]; simp only [List.filterMap_cons,List.filterMap_nil]; cases zap8 x <;> rfl
    rcases hb (c.procs.getD k Proce.zero).waiting with hw|hw
    ·rw [if_pos hw,gdp (by omega)]
     refine ⟨_,rfl,⟨k+1,rfl,cc,?_⟩,by simp only [Int.toNat_natCast]; omega⟩
     rw [zK5 Proce.zero cc,e0]
     unfold zap8
     rw [if_pos hw]
    ·rw [if_neg (by rw [hw]; decide)]
     refine ⟨_,rfl,⟨k+1,rfl,cc,?_⟩,by simp only [Int.toNat_natCast]; omega⟩
     rw [zK5 Proce.zero cc,e0]
     have:zap8 (c.procs.getD k Proce.zero)=none:=by unfold zap8; rw [if_neg (by rw [hw]; decide)]
     rw [this,List.append_nil]
   ·right
    have e:k=c.procs.length:=by omega
    simp only [show ¬ (k:Int) < (c.procs.length:Int) by omega,decide_false,Bool.false_eq_true,if_false]
    exact ⟨_,rfl,by rw [e,List.take_length]⟩) (0,⟨c.queues,[]⟩) ⟨0,rfl,by omega,rfl⟩
 rw [l1,Option.bind_some]
 exact ⟨x,rfl,by rw [l2]; exact zde7 h⟩
theorem zcP8 {l:List Int} (hl:l.length≤300):∃ s,zan5 l=some s∧zQ2 s=true:=by
 unfold zan5
 obtain ⟨c,h1⟩:=zct2 hl
 rw [h1,Option.bind_some]
 obtain ⟨s,h2,h3⟩:=zct3 c
 rw [h2]; exact ⟨s,rfl,h3⟩
theorem zaH3 (k:Expr) (l:List Expr):zG5 (k :: l)=zW8 k++zG5 l:=by rw [zG5]
theorem zaO7:zG5 []=[]:=by rw [zG5]
theorem zct4 (a b:List Expr):zG5 (a++b)=zG5 a++zG5 b:=by
 induction a with
 | nil=>rw [zaO7]; rfl
 | cons x a ih=>rw [List.cons_append,zaH3,zaH3,ih,List.append_assoc]
theorem zbD7:∀ (ks:List Expr) (k:Nat),k < ks.length→((zG5 (ks.take k)).length:Int)+zn0 (ks.getD k Expr.zero)≤zw6 ks
 | x :: ks,0,_=>by
  have:=zC0 ks
  simp [zaO7,zaa3]
  omega
 | x :: ks,k+1,h=>by
  have:=zbD7 ks k (by simpa using h)
  have h2:=zbo8 x
  rw [List.take_succ_cons,zaH3,zaa3,List.length_append,List.getD_cons_succ]
  omega
theorem zbD8 (l:List Atom) (a:Atom) (hl:l.length≤100000):za5 l a=some (decide (a ∈ l)):=by
 unfold za5 za7
 obtain ⟨x,h1,h2⟩:=zr8 (body:=zv2 l a) (fun g=>∃ k:Nat,g=k∧k≤l.length∧∀ j,j < k→a≠l.getD j Atom.zero) (fun g=>l.length - g.toNat)
  (fun x=>match x with|.inl _=>a ∉ l|.inr i=>0≤i∧a ∈ l) (fun g ⟨k,hg,hk,hn⟩=>by
   subst hg
   unfold zv2
   by_cases c:k < l.length
   ·rw [if_pos (by simpa using c),gdp (by omega)]
    simp only [Int.toNat_natCast]
    by_cases e:a=l.getD k Atom.zero
    ·rw [if_pos (by simpa using e)]
     exact .inr ⟨_,rfl,by omega,by rw [e]; exact zj8 c⟩
    ·rw [if_neg (by simpa using e),zc4 k (by omega)]
     exact .inl ⟨_,rfl,⟨k+1,rfl,c,fun j hj=>by
      by_cases h:j=k
      ·rw [h]; exact e
      ·exact hn j (by omega)⟩,by simp only [Int.toNat_natCast]; omega⟩
   ·rw [if_neg (by simpa using c)]
    refine .inr ⟨_,rfl,fun hm=>?_⟩
    obtain ⟨j,hj,e⟩:=List.getElem_of_mem hm
    refine hn j (by omega) ?_
    rw [List.getD_eq_getElem?_getD,List.getElem?_eq_getElem hj]
    exact e.symm) 0 ⟨0,rfl,by omega,fun j hj=>by omega⟩
 rw [h1]
 cases x with
 | inl z =>
  have h3:a ∉ l:=h2
  simp only [Option.bind_some,zF6]
  simp [h3]
 | inr z =>
  have h3:0≤z∧a ∈ l:=h2
  simp only [Option.bind_some]
  simp [h3.1,h3.2]
theorem zbT1 {F:Expr→List Atom→Option (List Atom)} {body:Int×List Atom→Option ((Int×List Atom)⊕List Atom)} (ks:List Expr) (hks:zw6 ks≤1000)
  (hb:∀ g,body g=if decide (g.1 < (ks.length:Int))=true then gd (0≤g.1∧g.1 < (ks.length:Int)) <| (F (ks.getD g.1.toNat Expr.zero) g.2).bind fun v2=>some (.inl ((IntKind.i64.wrap (g.1+1)),v2)) else some (.inr g.2))
  (l:List Atom) (hF:∀ k ∈ ks,∀ l':List Atom,(l'.length:Int)+zn0 k≤l.length+zw6 ks→F k l'=some (addS (zW8 k) l')):zc0 body (0,l)=some (addS (zG5 ks) l):=by
 have hlen:=zC0 ks
 obtain ⟨x,h1,h2⟩:=zr8 (body:=body) (fun g=>∃ k:Nat,g.1=k∧k≤ks.length∧g.2=addS (zG5 (ks.take k)) l) (fun g=>ks.length - g.1.toNat) (fun x=>x=addS (zG5 ks) l) (fun g ⟨k,hg,hk,he⟩=>by
  obtain ⟨g1,g2⟩:=g
  simp only at hg he
  subst hg
  rw [hb]
  simp only [Int.toNat_natCast]
  by_cases c:k < ks.length
  ·rw [if_pos (by simpa using c),gdp (by omega)]
   have h1:=zbH4 (zG5 (ks.take k)) l
   have h2:=zbD7 ks k c
   rw [hF _ (zj8 c) g2 (by rw [he]; omega),Option.bind_some,zc4 k (by omega)]
   refine .inl ⟨_,rfl,⟨k+1,rfl,c,?_⟩,by simp only [Int.toNat_natCast]; omega⟩
   simp only
   rw [he,← zbQ9,zK5 Expr.zero c,zct4,zaH3,zaO7,List.append_nil]
  ·rw [if_neg (by simpa using c)]
   refine .inr ⟨_,rfl,?_⟩
   rw [he,List.take_of_length_le (by omega)]) (0,l) ⟨0,rfl,by omega,by rw [List.take_zero,zaO7]; rfl⟩
 rw [h1,h2]
theorem zbD9:∀ (n:Nat) (e:Expr),_root_.SizeOf.sizeOf e < n→∀ l:List Atom,(l.length:Int)+zn0 e≤1000→zF3 n e l=some (addS (zW8 e) l)
 | 0,_,h,_,_=>by omega
 | n+1,e,h,l,hl=>by
  show zD7 (zF3 n) e l=_
  have hne:=zH7 e
  have hp:=zS2 e
  unfold zD7
  rw [zas0]
  by_cases c:e.kids.length=0
  ·rw [if_pos (by simpa using c),if_pos c,zbD8 l _ (by omega),Option.bind_some]
   unfold addS addS addA
   by_cases m:e.atom ∈ l
   ·rw [if_pos (by simpa using m),if_pos m]
   ·rw [if_neg (by simpa using m),if_neg m,gdp (by omega)]
  ·rw [if_neg (by simpa using c),if_neg c,zbT1 (F:=zF3 n) e.kids (by omega) (fun g=>by unfold zac5; rfl) l (fun k hk l' hl'=>zbD9 n k (zah6 h hk) l' (by omega))]
   rfl
theorem zbz9 {e:Expr} (h:vE e=true):zv4 e=some (addS (zW8 e) []):=by
 have hn:zn0 e≤24:=by unfold vE fitE at h; simp at h; omega
 have hne:=zH7 e
 unfold zv4
 rw [zbp1,h,Option.bind_some,if_neg (by decide)]
 have:zl6 e=some (addS (zW8 e) []):=by
  show zv9 (zZ2 (_root_.SizeOf.sizeOf e)) e=_
  unfold zv9
  rw [zas0]
  by_cases c:e.kids.length=0
  ·rw [if_pos (by simpa using c),if_pos c,zbD8 [] _ (by decide),Option.bind_some]
   rfl
  ·rw [if_neg (by simpa using c),if_neg c,zbT1 (F:=zh8) e.kids (by omega) (fun g=>by unfold zag1; rfl) [] (fun k hk l' hl'=>zbD9 _ k (Nat.lt_succ_self _) l' (by simp only [List.length_nil] at hl'; omega))]
   rfl
 rw [this]; rfl
theorem zbG0 {e:Expr} (h:vE e=true):zw2 e=some (addS (zW8 e) [])∧(addS (zW8 e) []).length≤8:=by
 have hn:zn0 e≤24:=by unfold vE fitE at h; simp at h; omega
 have p:=zS2 e
 unfold zw2 zn3
 unfold vE at h
 simp only [Bool.and_eq_true] at h
 obtain ⟨hf,hp⟩:=h
 obtain ⟨l,hadd,hl,hd⟩:=(zbz1 e).1 hp
 have ha:=zcH0 e (by omega)
 rw [hadd] at ha
 simp only at ha
 have hl2:l=addS (zW8 e) []:=by
  unfold addO at hadd
  split at hadd
  ·exact (Option.some.inj hadd).symm
  ·cases hadd
 rw [zcq5,hf,Option.bind_some]
 simp only [if_true,show ¬ zn0 e=0 by omega,decide_false,Bool.false_eq_true,if_false]
 rw [ha,Option.bind_some]
 simp only [Bool.not_true,Bool.false_or,show ¬ (8:Int) < (l.length:Int) by omega,decide_false,Bool.false_eq_true,if_false]
 rw [(zbf9 (l,true) (by simp only; omega)).1 hd,← hl2]
 exact ⟨rfl,hl⟩
def zbT2 (l:List Need) (p:Proc) (i:Nat):Prop:=i < l.length∧(l.getD i Need.zero).proc=p∧∀ j,j < i→(l.getD j Need.zero).proc≠p
theorem zbT2.one {l:List Need} {p:Proc} {i j:Nat} (h:zbT2 l p i) (k:zbT2 l p j):i=j:=by
 by_cases c:i < j
 ·exact absurd h.2.1 (k.2.2 i c)
 ·by_cases c2:j < i
  ·exact absurd k.2.1 (h.2.2 j c2)
  ·omega
theorem zcc4 {p q:Proc}:cmpP p q=0 ↔ p=q:=by
 rw [zbr9]
 constructor
 ·intro h
  by_cases e:p=q
  ·exact e
  ·rcases zat4 e with c|c
   ·rw [if_pos c] at h; cases h
   ·rw [if_neg (zbh5 c),if_pos c] at h; cases h
 ·rintro rfl
  have:=zar7 p
  rw [if_neg this,if_neg this]
theorem zde8 (l:List Need) (p:Proc) (hl:l.length≤1000):∃ v,zn5 l p=some v∧((v < 0∧∀ j,j < l.length→(l.getD j Need.zero).proc≠p)∨∃ i:Nat,v=i∧zbT2 l p i):=by
 unfold zn5 zb8
 obtain ⟨x,h1,h2⟩:=zr8 (body:=zq6 l) (fun g=>g.2=p∧∃ k:Nat,g.1=k∧k≤l.length∧∀ j,j < k→(l.getD j Need.zero).proc≠p) (fun g=>l.length - g.1.toNat)
  (fun x=>match x with|.inl _=>∀ j,j < l.length→(l.getD j Need.zero).proc≠p|.inr v=>∃ i:Nat,v.1=i∧zbT2 l p i) (fun g ⟨hp,k,hg,hk,hn⟩=>by
   obtain ⟨g1,g2⟩:=g
   simp only at hp hg
   subst hp; subst hg
   unfold zq6
   by_cases c:k < l.length
   ·rw [if_pos (by simpa using c),gdp (by simp only; omega)]
    unfold zf4
    rw [zae3,Option.bind_some,Option.bind_some]
    simp only [Int.toNat_natCast]
    by_cases e:(l.getD k Need.zero).proc=g2
    ·rw [if_pos (by simpa using zcc4.2 e)]
     exact .inr ⟨_,rfl,k,rfl,c,e,hn⟩
    ·rw [if_neg (by simpa using fun h=>e (zcc4.1 h)),zc4 k (by omega)]
     exact .inl ⟨_,rfl,⟨rfl,k+1,rfl,c,fun j hj=>by
      by_cases h:j=k
      ·rw [h]; exact e
      ·exact hn j (by omega)⟩,by simp only [Int.toNat_natCast]; omega⟩
   ·rw [if_neg (by simpa using c)]
    exact .inr ⟨_,rfl,fun j hj=>hn j (by omega)⟩) (0,p) ⟨rfl,0,rfl,by omega,fun j hj=>by omega⟩
 rw [h1,Option.bind_some]
 cases x with
 | inl z=>exact ⟨-1,rfl,.inl ⟨by decide,h2⟩⟩
 | inr z =>
  obtain ⟨i,h3,h4⟩:=h2
  exact ⟨z.1,rfl,.inr ⟨i,h3,h4⟩⟩
theorem zbW9 (s:WaitState) (p:Proc) (hl:s.needs.length≤1000):∃ v,zl4 s p=some v∧((v.2=false∧∀ j,j < s.needs.length→(s.needs.getD j Need.zero).proc≠p)∨∃ i:Nat,v=(s.needs.getD i Need.zero,true)∧zbT2 s.needs p i):=by
 unfold zl4
 obtain ⟨x,h1,h2⟩:=zr8 (body:=zaq5 s p) (fun g=>∃ k:Nat,g=k∧k≤s.needs.length∧∀ j,j < k→(s.needs.getD j Need.zero).proc≠p) (fun g=>s.needs.length - g.toNat)
  (fun x=>match x with|.inl _=>∀ j,j < s.needs.length→(s.needs.getD j Need.zero).proc≠p|.inr v=>∃ i:Nat,v=(s.needs.getD i Need.zero,true)∧zbT2 s.needs p i) (fun g ⟨k,hg,hk,hn⟩=>by
   subst hg
   unfold zaq5
   by_cases c:k < s.needs.length
   ·rw [if_pos (by simpa using c),gdp (by omega)]
    simp only [Int.toNat_natCast]
    by_cases e:(s.needs.getD k Need.zero).proc=p
    ·rw [if_pos (by simpa using e),gdp (by omega)]
     exact .inr ⟨_,rfl,k,rfl,c,e,hn⟩
    ·rw [if_neg (by simpa using e),zc4 k (by omega)]
     exact .inl ⟨_,rfl,⟨k+1,rfl,c,fun j hj=>by
      by_cases h:j=k
      ·rw [h]; exact e
      ·exact hn j (by omega)⟩,by simp only [Int.toNat_natCast]; omega⟩
   ·rw [if_neg (by simpa using c)]
    exact .inr ⟨_,rfl,fun j hj=>hn j (by omega)⟩) 0 ⟨0,rfl,by omega,fun j hj=>by omega⟩
 rw [h1,Option.bind_some]
 cases x with
 | inl z=>exact ⟨_,rfl,.inl ⟨rfl,h2⟩⟩
 | inr z=>exact ⟨z,rfl,.inr h2⟩
def gB (s:WaitState) (p:Proc) (a:Atom):Bool:=if 0≤zz5 s.queues a.name then !(zA5 (s.queues.getD (zz5 s.queues a.name).toNat Queue.zero) p).2 else true
theorem zct5 {s:WaitState} (ok:OkS s) (p:Proc) (L:List Atom) (hL:L.length≤100):zc0 (zv1 s p L) (0,[])=some (L.map (gB s p)):=by
 have lq:=ok.lq
 obtain ⟨x,h1,h2⟩:=zr8 (body:=zv1 s p L) (fun g=>∃ k:Nat,g.1=k∧k≤L.length∧g.2=(L.take k).map (gB s p)) (fun g=>L.length - g.1.toNat) (fun x=>x=L.map (gB s p)) (fun g ⟨k,hg,hk,he⟩=>by
  obtain ⟨g1,g2⟩:=g
  simp only at hg he
  subst hg
  unfold zv1
  simp only [Int.toNat_natCast]
  have hl2:g2.length=k:=by rw [he]; simp; omega
  by_cases c:k < L.length
  ·rw [if_pos (by simpa using c),gdp (by omega),zbW0 _ _ (by omega),Option.bind_some,zc4 k (by omega)]
   have hs:(L.take k).map (gB s p)++[gB s p (L.getD k Atom.zero)]=(L.take (k+1)).map (gB s p):=by rw [zK5 Atom.zero c,List.map_append]; rfl
   by_cases d:0≤zz5 s.queues (L.getD k Atom.zero).name
   ·have hlt:zz5 s.queues (L.getD k Atom.zero).name < (s.queues.length:Int):=by
     rcases zaL0 (t:=s.queues) (nm:=(L.getD k Atom.zero).name) with e|⟨i,e,hi,_⟩ <;> omega
    have hq:=ok.q _ (zj8 (z:=Queue.zero) (show (zz5 s.queues (L.getD k Atom.zero).name).toNat < s.queues.length by omega))
    have l1:=hq.lc; have l2:=hq.lw
    rw [if_pos (by simpa using d),gdp ⟨d,hlt⟩,zbF2 _ _ (by omega) (by omega),Option.bind_some,gdp (by omega)]
    refine .inl ⟨_,rfl,⟨k+1,rfl,c,?_⟩,by simp only [Int.toNat_natCast]; omega⟩
    simp only
    rw [he,← hs]
    unfold gB
    rw [if_pos d]
   ·rw [if_neg (by simpa using d),gdp (by omega)]
    refine .inl ⟨_,rfl,⟨k+1,rfl,c,?_⟩,by simp only [Int.toNat_natCast]; omega⟩
    simp only
    rw [he,← hs]
    unfold gB
    rw [if_neg d]
  ·rw [if_neg (by simpa using c)]
   exact .inr ⟨_,rfl,by rw [he,List.take_of_length_le (by omega)]⟩) (0,[]) ⟨0,rfl,by omega,rfl⟩
 rw [h1,h2]
theorem zde9 {s:WaitState} (ok:OkS s) (p:Proc) (a:Atom):zp4 s p a.name=some (!gB s p a):=by
 have lq:=ok.lq
 unfold zp4 gB
 rw [zP1 _ _ (by omega),Option.bind_some]
 by_cases d:0≤zz5 s.queues a.name
 ·have hlt:zz5 s.queues a.name < (s.queues.length:Int):=by
   rcases zaL0 (t:=s.queues) (nm:=a.name) with e|⟨i,e,hi,_⟩ <;> omega
  have hq:=ok.q _ (zj8 (z:=Queue.zero) (show (zz5 s.queues a.name).toNat < s.queues.length by omega))
  have l1:=hq.lc; have l2:=hq.lw
  rw [if_neg (by simpa using d),gdp ⟨d,hlt⟩,zL4 _ _ (by omega) (by omega),Option.bind_some,if_pos d,Bool.not_not]
 ·rw [if_pos (by simpa using d),if_neg d]; rfl
theorem zct6 {s:WaitState} (ok:OkS s) (p:Proc) (L:List Atom) (hL:L.length≤100):zc0 (zV8 s p L) (0,List.replicate L.length false)=some (L.map (gB s p)):=by
 obtain ⟨x,h1,h2⟩:=zr8 (body:=zV8 s p L) (fun g=>∃ k:Nat,g.1=k∧k≤L.length∧g.2=(L.take k).map (gB s p)++List.replicate (L.length - k) false) (fun g=>L.length - g.1.toNat) (fun x=>x=L.map (gB s p)) (fun g ⟨k,hg,hk,he⟩=>by
  obtain ⟨g1,g2⟩:=g
  simp only at hg he
  subst hg
  unfold zV8
  simp only [Int.toNat_natCast]
  have hl2:g2.length=L.length:=by rw [he]; simp; omega
  by_cases c:k < L.length
  ·rw [if_pos (by simpa using c),gdp (by omega),zde9 ok,Option.bind_some,gdp (by omega),zc4 k (by omega),Bool.not_not]
   refine .inl ⟨_,rfl,⟨k+1,rfl,c,?_⟩,by simp only [Int.toNat_natCast]; omega⟩
   simp only
   have hk2:((L.take k).map (gB s p)).length=k:=by simp; omega
   rw [he,List.set_append,if_neg (by omega),hk2,Nat.sub_self,show L.length - k=(L.length - (k+1))+1 by omega,List.replicate_succ,List.set_cons_zero,zK5 Atom.zero c,List.map_append,List.append_assoc]
   rfl
  ·rw [if_neg (by simpa using c)]
   exact .inr ⟨_,rfl,by rw [he,List.take_of_length_le (by omega),show L.length - k=0 by omega]; simp⟩) (0,List.replicate L.length false) ⟨0,rfl,by omega,by simp⟩
 rw [h1,h2]
theorem zbT3 (l:List Bool) (hl:l.length≤1000):ze2 l l=some true:=by
 unfold ze2
 rw [if_neg (by simp),zae7 l.length (fun i hi=>by
  unfold zY8
  rw [if_pos (by simpa using hi),gdp (by omega),gdp (by omega),if_neg (by simp),zf6 (by omega) (by omega)]) (by unfold zY8; simp)]
 rfl
theorem zci4 {s:WaitState} (h:zQ2 s=true) (p:Proc):∃ l,zu9 s p=some l∧zL3 s p=some l∧l.length≤8:=by
 have ok:=(zbg4 h).1
 have ln:=ok.ln
 obtain ⟨v,h1,h2⟩:=zde8 s.needs p (by omega)
 obtain ⟨w,h3,h4⟩:=zbW9 s p (by omega)
 unfold zu9 zL3
 rw [h1,h3,Option.bind_some,Option.bind_some]
 rcases h2 with ⟨n1,n2⟩|⟨i,rfl,f1⟩
 ·rcases h4 with ⟨m1,_⟩|⟨j,_,f2⟩
  ·rw [if_neg (by simpa using n1),m1,if_neg (by decide),Option.bind_some,Option.bind_some,if_pos (by simp [n1]),if_pos (by simp)]
   exact ⟨[],rfl,rfl,by decide⟩
  ·exact absurd f2.2.1 (n2 j f2.1)
 ·rcases h4 with ⟨_,m2⟩|⟨j,rfl,f2⟩
  ·exact absurd f1.2.1 (m2 i f1.1)
  ·have e:=f1.one f2
   subst e
   have hv:vE (s.needs.getD i Need.zero).expr=true:=by
    have hb:zaA2 s.needs=true:=by unfold zQ2 at h; simp only [Bool.and_eq_true] at h; exact h.1.2
    exact (zbR7 hb (zj8 f1.1)).2.1
   obtain ⟨a1,a2⟩:=zbG0 hv
   rw [if_pos (by simp),zW4,zbR3,h,if_pos rfl,Option.bind_some,Option.bind_some,if_neg (by simp),if_neg (by simp),gdp ⟨by omega,by have:=f1.1; omega⟩]
   simp only [Int.toNat_natCast]
   rw [zbz9 hv,a1,Option.bind_some,Option.bind_some,gdp (by omega),zct5 ok p _ (by omega),zct6 ok p _ (by omega)]
   exact ⟨_,rfl,rfl,by simpa using a2⟩
end Ab
end Go.Proofs.YtcggeefhhegeoaaGreatDoor
