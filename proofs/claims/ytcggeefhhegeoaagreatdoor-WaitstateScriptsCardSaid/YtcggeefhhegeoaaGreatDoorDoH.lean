import Derived.Test.YtcggeefhhegeoaaGreatDoorDoC
import Derived.Test.YtcggeefhhegeoaaGreatDoorTabA
namespace Go.Proofs.YtcggeefhhegeoaaGreatDoor
namespace Ab
set_option linter.unusedVariables false
set_option linter.unusedSimpArgs false
structure ProcC (t:List Queue) (x:Proce):Prop where
 pv:zb6 x.proc=true
 gen:0≤x.gen∧x.gen≤1073741824
 led:LedgerP x.ledger
 held:∀ n,zw4 x.ledger.entries n≠Amount.zero→∃ q ∈ t,q.resource.name=n∧zb3 q.resource (zw4 x.ledger.entries n)=true
 wait:x.waiting=true→vE x.request.expr=true∧∀ L b,zn3 x.request.expr=some (L,b)→(∀ a ∈ L,∃ q ∈ t,q.resource.name=a.name∧zb3 q.resource a.amount=true)∧∀ q ∈ t,zcr9 q x L
 run:x.waiting=false→∀ q ∈ t,getH q.holds x.proc=zw4 x.ledger.entries q.resource.name∧(zA5 q x.proc).2=false
structure CenP (c:Central):Prop where
 t:ValidT c.queues
 len:c.procs.length≤8
 each:∀ x ∈ c.procs,ProcC c.queues x
 asc:c.procs.Pairwise fun a b=>ltP a.proc b.proc
 procs:∀ p ∈ zC2 c.queues,∃ x ∈ c.procs,x.proc=p
theorem ValidT.inj {t:List Queue} (h:ValidT t) {q q':Queue} (h1:q ∈ t) (h2:q' ∈ t) (e:q.resource.name=q'.resource.name):q=q':=by
 obtain ⟨i,hi,rfl⟩:=zQ4 (z:=Queue.zero) h1
 obtain ⟨j,hj,rfl⟩:=zQ4 (z:=Queue.zero) h2
 rw [zch4 h.asc hi hj e]
theorem ValidT.lens' {t:List Queue} (h:ValidT t):t.length≤1000∧Lens t:=⟨by have:=h.len; omega,h.lens⟩
theorem zbD6 {l:List Entry} {n:ByteArray} (h:zw4 l n≠Amount.zero):∃ e ∈ l,e.name=n:=by
 have:∀ (l:List Entry) (a:Amount),(∀ e ∈ l,e.name≠n)→l.foldl (sayE n) a=a:=by
  intro l
  induction l with
  | nil=>intro a _; rfl
  | cons e l ih =>
   intro a hn
   rw [List.foldl_cons]
   have:sayE n a e=a:=by unfold sayE; rw [if_neg (hn e (.head _))]
   rw [this]; exact ih a fun x hx=>hn x (.tail _ hx)
 by_cases c:∃ e ∈ l,e.name=n
 ·exact c
 ·exact absurd (this l Amount.zero fun e he hh=>c ⟨e,he,hh⟩) h
theorem zcB6 (c:Central) (hl:c.queues.length≤1000) (v:List Atom) (hv:v.length≤1000) :
  zc0 (zN8 c v) 0=some (.inr false)∨zc0 (zN8 c v) 0=some (.inl ())∧∀ i,i < v.length→∃ q ∈ c.queues,q.resource.name=(v.getD i Atom.zero).name∧zb3 q.resource (v.getD i Atom.zero).amount=true :=
 zas4 v.length _ (fun i hi=>by
  unfold zN8
  have h3:0≤(i:Int)∧(i:Int) < (v.length:Int):=by omega
  simp only [h3.1,h3.2,and_self,implies_true,zm3,decide_true,if_true,Int.toNat_natCast,zc4 i (show i < 4611686018427387904 by omega),zP1 c.queues _ (show c.queues.length≤1000000 by omega),Option.bind_some]
  rcases zaL0 (t:=c.queues) (nm:=(v.getD i Atom.zero).name) with e|⟨k,e,hk,hn⟩
  ·refine ⟨false,?_,fun h=>nomatch h⟩
   rw [e,gdp (by intro h; exact absurd h (by decide))]; rfl
  ·rw [e,gdp (by intro _; omega)]
   simp only [Int.toNat_natCast,show ¬ (k:Int) < 0 by omega,decide_false,Bool.false_or]
   cases hf:zt6 (c.queues.getD k Queue.zero).resource (v.getD i Atom.zero).amount with
   | false=>exact ⟨false,rfl,fun h=>nomatch h⟩
   | true=>exact ⟨true,rfl,fun _=>⟨_,zj8 hk,hn,by rw [← zaO0]; exact hf⟩⟩) (by unfold zN8; simp)
theorem zcs1 (c:Central) (x:Proce) (L:List Atom) (hL:L.length≤8) (he:x.ledger.entries.length≤1000) (hl:c.queues.length≤1000) (hs:Lens c.queues) :
  zc0 (zN7 c x L) 0=some (.inr false)∨zc0 (zN7 c x L) 0=some (.inl ())∧∀ i,i < c.queues.length→zcr9 (c.queues.getD i Queue.zero) x L :=
 zas4 c.queues.length _ (fun i hi=>by
  unfold zN7
  have h3:0≤(i:Int)∧(i:Int) < (c.queues.length:Int):=by omega
  have h4:=zaO6 hs hi
  obtain ⟨b,h1,h2⟩:=zdn3 (c.queues.getD i Queue.zero) x L he (by omega) (by omega) (by omega) (by omega)
  simp only [h3.1,h3.2,and_self,implies_true,zm3,decide_true,if_true,Int.toNat_natCast,zc4 i (show i < 4611686018427387904 by omega),h1,Option.bind_some]
  cases b with
  | false=>exact ⟨false,rfl,fun h=>nomatch h⟩
  | true=>exact ⟨true,rfl,fun _=>h2 rfl⟩) (by unfold zN7; simp)
theorem zcB7 (c:Central) (x:Proce) (hv:ValidT c.queues):∃ b,zG3 c x=some b∧(b=true→ProcC c.queues x):=by
 obtain ⟨hl,hs⟩:=hv.lens'
 unfold zG3
 obtain ⟨bl,l1,l2⟩:=zae8 x.ledger
 rw [l1,zax2]
 cases hp:zb6 x.proc with
 | false=>exact ⟨false,rfl,fun h=>nomatch h⟩
 | true =>
 by_cases cc:x.cost < 1∨1000 < x.cost
 ·refine ⟨false,?_,fun h=>nomatch h⟩
  rcases cc with h|h <;> simp [h]
 have c1:¬ x.cost < 1:=fun h=>cc (.inl h)
 have c2:¬ 1000 < x.cost:=fun h=>cc (.inr h)
 simp only [c1,c2,decide_false,Bool.not_true,Bool.or_self,Bool.not_false,if_true,Option.bind_some,Bool.false_or]
 cases bl with
 | false=>exact ⟨false,rfl,fun h=>nomatch h⟩
 | true =>
 have led:=l2 rfl
 by_cases cg:x.gen < 0∨1073741824 < x.gen
 ·refine ⟨false,?_,fun h=>nomatch h⟩
  rcases cg with h|h <;> simp [h]
 have g1:¬ x.gen < 0:=fun h=>cg (.inl h)
 have g2:¬ 1073741824 < x.gen:=fun h=>cg (.inr h)
 simp only [g1,g2,decide_false,Bool.not_true,Bool.or_self,Bool.false_eq_true,if_false]
 obtain ⟨ns,n1,n2,n3,n4⟩:=zbu5 x.ledger (by have:=led.le; omega)
 have hle:=led.le
 have hv':(ns.filterMap (sayF x.ledger.entries)).length≤1000:=by have:=List.length_filterMap_le (sayF x.ledger.entries) ns; omega
 rw [n3,Option.bind_some]
 rcases zcB6 c hl _ hv' with h1|⟨h1,h2⟩
 ·exact ⟨false,by rw [h1]; rfl,fun h=>nomatch h⟩
 have hheld:∀ n,zw4 x.ledger.entries n≠Amount.zero→∃ q ∈ c.queues,q.resource.name=n∧zb3 q.resource (zw4 x.ledger.entries n)=true:=fun n hn=>by
  have hm:(⟨n,zw4 x.ledger.entries n⟩:Atom) ∈ ns.filterMap (sayF x.ledger.entries):=List.mem_filterMap.2 ⟨n,(n2 n).2 (zbD6 hn),by unfold sayF; rw [if_neg hn]⟩
  obtain ⟨i,hi,e⟩:=zQ4 (z:=Atom.zero) hm
  have:=h2 i hi
  rw [e] at this; exact this
 rw [h1,Option.bind_some]
 show ∃ b,zV3 c x _ ()=some b∧_
 unfold zV3
 have hlen2:(c.queues.filterMap (zbu3 x.proc)).length≤1000:=by have:=List.length_filterMap_le (zbu3 x.proc) c.queues; omega
 cases hw:x.waiting with
 | false =>
  simp only [Bool.not_false,if_true]
  obtain ⟨b1,s1⟩:=zcP2 x.request.expr
  have sr:∃ b,ze9 x.request { Request.zero with }=some b:=by
   unfold ze9
   rw [show ({ Request.zero with }:Request).expr=Expr.zero from rfl,s1]; exact ⟨_,rfl⟩
  obtain ⟨b2,s2⟩:=sr
  rw [s2,Option.bind_some,zbu4 _ _ hl hs,zbF8 _ _ hl hs]
  by_cases c3:(b2&&decide (x.since=0))=true
  ·simp only [c3,if_true,Option.bind_some,zbp5 _ _ (show (ns.filterMap (sayF x.ledger.entries)).length≤1000000 by omega),Bool.true_and]
   by_cases c4:ns.filterMap (sayF x.ledger.entries)=c.queues.filterMap (zbu3 x.proc)
   ·simp only [c4,decide_true,if_true,Option.bind_some,Bool.true_and]
    refine ⟨_,rfl,fun hb=>⟨hp,by omega,led,hheld,fun h=>(by rw [hw] at h; cases h),fun _ q hq=>?_⟩⟩
    have hb:(c.queues.filterMap (zbz5 x.proc)).length=0:=by have:=of_decide_eq_true hb; omega
    constructor
    ·by_cases z1:getH q.holds x.proc=Amount.zero
     ·by_cases z2:zw4 x.ledger.entries q.resource.name=Amount.zero
      ·rw [z1,z2]
      ·have hm:(⟨q.resource.name,zw4 x.ledger.entries q.resource.name⟩:Atom) ∈ ns.filterMap (sayF x.ledger.entries):=List.mem_filterMap.2 ⟨_,(n2 _).2 (zbD6 z2),by unfold sayF; rw [if_neg z2]⟩
       rw [c4] at hm
       obtain ⟨q',hq',e⟩:=List.mem_filterMap.1 hm
       unfold zbu3 at e
       by_cases z3:getH q'.holds x.proc=Amount.zero
       ·rw [if_pos z3] at e; cases e
       ·rw [if_neg z3] at e
        simp only [Option.some.injEq,Atom.mk.injEq] at e
        have:=hv.inj hq' hq e.1
        subst this
        exact absurd z1 z3
     ·have hm:(⟨q.resource.name,getH q.holds x.proc⟩:Atom) ∈ c.queues.filterMap (zbu3 x.proc):=List.mem_filterMap.2 ⟨q,hq,by unfold zbu3; rw [if_neg z1]⟩
      rw [← c4] at hm
      obtain ⟨n,hn,e⟩:=List.mem_filterMap.1 hm
      unfold sayF at e
      by_cases z3:zw4 x.ledger.entries n=Amount.zero
      ·rw [if_pos z3] at e; cases e
      ·rw [if_neg z3] at e
       simp only [Option.some.injEq,Atom.mk.injEq] at e
       rw [← e.1]; exact e.2.symm
    ·cases hq2:(zA5 q x.proc).2 with
     | false=>rfl
     | true =>
      have:(⟨q.resource.name,(zA5 q x.proc).1⟩:Atom) ∈ c.queues.filterMap (zbz5 x.proc):=List.mem_filterMap.2 ⟨q,hq,by unfold zbz5; rw [if_pos hq2]⟩
      rw [List.eq_nil_of_length_eq_zero hb] at this; cases this
   ·simp only [c4,decide_false,Bool.false_eq_true,if_false,Option.bind_some,Bool.false_and]
    exact ⟨false,rfl,fun h=>nomatch h⟩
  ·simp only [c3,if_false,Option.bind_some,Bool.false_eq_true,Bool.false_and]
   exact ⟨false,rfl,fun h=>nomatch h⟩
 | true =>
  simp only [Bool.not_true,Bool.false_eq_true,if_false]
  have v7:∃ b,zI4 x.request=some b∧(b=true→vE x.request.expr=true):=by
   unfold zI4
   rw [zW3,Option.bind_some]
   refine ⟨_,rfl,fun h=>?_⟩
   simp only [Bool.and_eq_true] at h; exact h.1.1.1.1
  obtain ⟨b7,v1,v2⟩:=v7
  rw [v1,Option.bind_some]
  cases b7 with
  | false=>exact ⟨false,rfl,fun h=>nomatch h⟩
  | true =>
  have hvE:=v2 rfl
  obtain ⟨v9,r1,r2⟩:=zaU0 (c.queues.map (·.resource)) x.request.expr (by simpa using hl)
  simp only [if_true,zaT9 _ hl,Option.bind_some,r1,Bool.not_true,Bool.false_or]
  by_cases c9:v9=0
  ·obtain ⟨bs,L,q1,q2,_⟩:=zbp6 c.queues x.proc x.request.expr hl hs
   obtain ⟨b11,q3,_⟩:=zbg6 hvE bs
   rw [q1]
   generalize hB:((((!decide (v9=0))||(decide (x.since < 0)))||(decide (c.now < x.since)))||((!decide (x.request.limit=0))&&(decide ((IntKind.i64.wrap (x.since+x.request.limit))≤c.now))))=B
   cases B with
   | true=>exact ⟨false,rfl,fun h=>nomatch h⟩
   | false =>
    simp only [Bool.not_false,if_true,Option.bind_some,q3,Bool.false_or]
    cases b11 with
    | true=>exact ⟨false,rfl,fun h=>nomatch h⟩
    | false =>
     simp only [Bool.false_eq_true,if_false]
     obtain ⟨l',a1,a2,a3⟩:=zal2 x.request.expr
     rw [a1,Option.bind_some]
     rcases zcs1 c x l' a2 (by omega) hl hs with h5|⟨h5,h6⟩
     ·exact ⟨false,by rw [h5]; rfl,fun h=>nomatch h⟩
     ·refine ⟨true,by rw [h5]; rfl,fun _=>⟨hp,by omega,led,hheld,fun _=>⟨hvE,fun L b hL=>?_⟩,fun h=>(by rw [hw] at h; cases h)⟩⟩
      rw [a3] at hL; cases hL
      refine ⟨fun a ha=>?_,fun q hq=>?_⟩
      ·obtain ⟨r,hr,e1,e2⟩:=r2 c9 _ _ a3 a ha
       obtain ⟨q,hq,rfl⟩:=List.mem_map.1 hr
       exact ⟨q,hq,e1,e2⟩
      ·obtain ⟨i,hi,rfl⟩:=zQ4 (z:=Queue.zero) hq
       exact h6 i hi
  ·simp only [c9,decide_false,Bool.not_false,Bool.true_or,Bool.not_true,Bool.false_eq_true,if_false,if_true,Option.bind_some]
   exact ⟨false,rfl,fun h=>nomatch h⟩
theorem zcs2 (c:Central) (hl:c.procs.length≤8) (v:List Proc) (hv:v.length≤1000) :
  zc0 (zU4 c v) 0=some (.inr false)∨zc0 (zU4 c v) 0=some (.inl ())∧∀ i,i < v.length→∃ x ∈ c.procs,x.proc=v.getD i Proc.zero :=
 zas4 v.length _ (fun i hi=>by
  unfold zU4
  have h3:0≤(i:Int)∧(i:Int) < (v.length:Int):=by omega
  obtain ⟨k,h1,h2⟩:=zaL9 c.procs (v.getD i Proc.zero) (by omega)
  simp only [h3.1,h3.2,and_self,implies_true,zm3,decide_true,if_true,Int.toNat_natCast,zc4 i (show i < 4611686018427387904 by omega),h1,Option.bind_some]
  rcases h2 with ⟨rfl,_⟩|⟨k,rfl,hk,e⟩
  ·exact ⟨false,rfl,fun h=>nomatch h⟩
  ·exact ⟨true,by rw [if_neg (by simp),if_pos rfl],fun _=>⟨_,zj8 hk,e⟩⟩) (by unfold zU4; simp)
theorem zcB8 (c:Central) (hl:c.procs.length≤8) (ht:ValidT c.queues) :
  zc0 (zU3 c) 0=some (.inr false)∨zc0 (zU3 c) 0=some (.inl ())∧∀ i,i < c.procs.length→ProcC c.queues (c.procs.getD i Proce.zero)∧(0 < i→ltP (c.procs.getD (i - 1) Proce.zero).proc (c.procs.getD i Proce.zero).proc) :=
 zas4 c.procs.length _ (fun i hi=>by
  unfold zU3
  have h3:0≤(i:Int)∧(i:Int) < (c.procs.length:Int):=by omega
  obtain ⟨b,h1,h2⟩:=zcB7 c (c.procs.getD i Proce.zero) ht
  simp only [h3.1,h3.2,and_self,implies_true,zm3,decide_true,if_true,Int.toNat_natCast,zc4 i (show i < 4611686018427387904 by omega),h1,Option.bind_some]
  rw [gdp (by
   intro h
   simp only [Bool.and_eq_true,decide_eq_true_eq] at h
   rw [zf6 (by omega) (by omega)]; try omega)]
  cases b with
  | false=>exact ⟨false,rfl,fun h=>nomatch h⟩
  | true =>
   simp only [Bool.not_true,Bool.false_or]
   by_cases c0:i=0
   ·subst c0
    exact ⟨true,rfl,fun _=>⟨h2 rfl,fun h=>absurd h (by omega)⟩⟩
   ·rw [zaz5 i (by omega) (by omega)]
    simp only [show (0:Int) < (i:Int) by omega,decide_true,Bool.true_and,Int.toNat_natCast]
    by_cases c1:ltP (c.procs.getD (i - 1) Proce.zero).proc (c.procs.getD i Proce.zero).proc
    ·refine ⟨true,?_,fun _=>⟨h2 rfl,fun _=>c1⟩⟩
     rw [if_neg (by simp only [decide_eq_true_eq]; exact fun h=>(zaE2 _ _).1 h c1),if_pos rfl]
    ·refine ⟨false,?_,fun h=>nomatch h⟩
     rw [if_pos (by simp only [decide_eq_true_eq]; exact (zaE2 _ _).2 c1)]; rfl) (by unfold zU3; simp)
theorem zcP3 {l:List Proce} (h:∀ i,i < l.length→0 < i→ltP (l.getD (i - 1) Proce.zero).proc (l.getD i Proce.zero).proc):l.Pairwise fun a b=>ltP a.proc b.proc:=by
 rw [List.pairwise_iff_getElem]
 have g:∀ k,(hk:k < l.length)→l.getD k Proce.zero=l[k]:=fun k hk=>by rw [List.getD_eq_getElem?_getD,List.getElem?_eq_getElem hk]; rfl
 have key:∀ d i,(hj:i+d+1 < l.length)→ltP (l.getD i Proce.zero).proc (l.getD (i+d+1) Proce.zero).proc:=by
  intro d
  induction d with
  | zero=>intro i hj; exact h (i+1) hj (by omega)
  | succ d ih =>
   intro i hj
   exact zat3 (ih i (by omega)) (h (i+(d+1)+1) hj (by omega))
 intro i j hi hj hij
 have:=key (j - i - 1) i (by omega)
 rw [show i+(j - i - 1)+1=j by omega,g i hi,g j hj] at this
 exact this
theorem zbg7 (c:Central):∃ b,zO9 c=some b∧(b=true→CenP c):=by
 unfold zO9
 by_cases c0:c.now < 0∨1073741824 < c.now
 ·refine ⟨false,?_,fun h=>nomatch h⟩
  rcases c0 with h|h <;> simp [h]
 have c1:¬ c.now < 0:=fun h=>c0 (.inl h)
 have c2:¬ 1073741824 < c.now:=fun h=>c0 (.inr h)
 simp only [c1,c2,decide_false,Bool.or_self,Bool.not_false,if_true,zal1,Option.bind_some,Bool.false_or]
 cases hv:zaF8 c.queues with
 | false=>exact ⟨false,rfl,fun h=>nomatch h⟩
 | true =>
 have ht:=(zag5 _).1 hv
 by_cases c3:(8:Int) < (c.procs.length:Int)
 ·exact ⟨false,by simp [c3],fun h=>nomatch h⟩
 simp only [c3,decide_false,Bool.not_true,Bool.or_self,Bool.false_eq_true,if_false]
 have hl:c.procs.length≤8:=by omega
 rw [zax4 ht.len ht.each,Option.bind_some]
 rcases zcs2 c hl (zC2 c.queues) (by have:=ht.procs; omega) with h1|⟨h1,h2⟩
 ·exact ⟨false,by rw [h1]; rfl,fun h=>nomatch h⟩
 rw [h1,Option.bind_some]
 show ∃ b,zae1 c ()=some b∧_
 unfold zae1
 rcases zcB8 c hl ht with h3|⟨h3,h4⟩
 ·exact ⟨false,by rw [h3]; rfl,fun h=>nomatch h⟩
 refine ⟨true,by rw [h3]; rfl,fun _=>⟨ht,hl,fun x hx=>?_,zcP3 fun i hi h0=>(h4 i hi).2 h0,fun p hp=>?_⟩⟩
 ·obtain ⟨i,hi,rfl⟩:=zQ4 (z:=Proce.zero) hx
  exact (h4 i hi).1
 ·obtain ⟨i,hi,e⟩:=zQ4 (z:=Proc.zero) hp
  obtain ⟨x,hx,e2⟩:=h2 i hi
  exact ⟨x,hx,e2.trans e⟩
theorem zcB9 {q:Queue} {p:Proc} (h:zk0 q=true) (hw:(zA5 q p).2=true):(zF1 q p).2.2=0∧(∀ x,covA q.resource (getH (zF1 q p).1.holds x) (getH q.holds x)=true)∧getH (zF1 q p).1.holds p=getH q.holds p∧(zA5 (zF1 q p).1 p).2=false:=by
 have e0:(zF1 q p).2.2=0:=by unfold zF1; rw [if_neg (by rw [h]; decide),if_neg (by rw [hw]; decide)]; rfl
 obtain ⟨_,_,_,e1,e2⟩:=zaK7 e0
 have hn:∀ w ∈ ordQ (zaB6 q p),w.proc≠p:=fun w hw=>by
  unfold ordQ zaB6 at hw
  simp only [List.mem_append,zaW4] at hw
  rcases hw with hw|hw
  ·exact hw.2
  ·exact hw.2
 have hs:=zca4 hn
 refine ⟨e0,fun x=>?_,?_,?_⟩
 ·rw [e1,zK4]; exact zaK8 e2 x
 ·rw [e1,zK4]; exact hs.1
 ·rw [e1,zK4]; exact zaK6.2 hs.2
theorem zcb9 {q:Queue} {p:Proc} {a:Amount} (h:zk0 q=true) (hz:getH q.holds p≠Amount.zero) (hw:(zA5 q p).2=false) (hc:covA q.resource (getH q.holds p) a=true) :
  (zC8 q p a).2.2=0∧(∀ x,x≠p→covA q.resource (getH (zC8 q p a).1.holds x) (getH q.holds x)=true)∧getH (zC8 q p a).1.holds p=a∧(zA5 (zC8 q p a).1 p).2=false:=by
 have e0:(zC8 q p a).2.2=0:=by
  unfold zC8
  rw [if_neg (by rw [h]; decide),if_neg hz,if_neg (by rw [hw]; decide),if_neg (by rw [hc]; decide)]
  split <;> rfl
 obtain ⟨hs,_,_,_,_,hh⟩:=zaH8 e0
 rcases hh with ⟨e1,e2⟩|⟨e1,e2,e3⟩
 ·rw [e2]
  exact ⟨rfl,fun x _=>zan6 (zat7 hs.hv x),e1,hw⟩
 ·have hn:∀ w ∈ ordQ (zaF7 q p a),w.proc≠p:=zaK6.1 hw
  have hst:=zca4 hn
  refine ⟨e0,fun x hx=>?_,?_,?_⟩
  ·rw [e2,zK4]
   have:=zaK8 e3 x
   unfold zaF7 at this
   rw [zP0 hx] at this
   exact this
  ·rw [e2,zK4]
   show getH (advS (zaF7 q p a)).holds p=a
   rw [hst.1]; exact zaK4 _ _ _
  ·rw [e2,zK4]; exact zaK6.2 hst.2
structure Kept (p:Proc) (t t':List Queue):Prop where
 v:ValidT t'
 len:t'.length=t.length
 res:∀ i,i < t.length→(t'.getD i Queue.zero).resource=(t.getD i Queue.zero).resource
 cov:∀ i,i < t.length→∀ x,x≠p→covA (t.getD i Queue.zero).resource (getH (t'.getD i Queue.zero).holds x) (getH (t.getD i Queue.zero).holds x)=true
theorem zaX5 {α:Type} (l:List α) (i j:Nat) (x z:α) (h:i≠j):(l.set i x).getD j z=l.getD j z:=by
 rw [List.getD_eq_getElem?_getD,List.getD_eq_getElem?_getD,List.getElem?_set_ne h]
theorem zaI0 {p:Proc} {t:List Queue} (h:ValidT t):Kept p t t :=
 ⟨h,rfl,fun _ _=>rfl,fun i hi x _=>zan6 (zat7 ((zx5 _).1 (h.each _ (zj8 (z:=Queue.zero) hi))).1.hv x)⟩
theorem zbu6 {p:Proc} {t:List Queue} (h:ValidT t) {i:Nat} (hi:i < t.length) {q:Queue} (hv:ValidT (t.set i q)) (hr:q.resource=(t.getD i Queue.zero).resource)
  (hc:∀ x,x≠p→covA (t.getD i Queue.zero).resource (getH q.holds x) (getH (t.getD i Queue.zero).holds x)=true):Kept p t (t.set i q):=by
 have k:=zaI0 (p:=p) h
 refine ⟨hv,List.length_set,fun j hj=>?_,fun j hj x hx=>?_⟩
 ·by_cases e:i=j
  ·subst e; rw [zu5 t i q _ hi]; exact hr
  ·rw [zaX5 t i j q _ e]
 ·by_cases e:i=j
  ·subst e; rw [zu5 t i q _ hi]; exact hc x hx
  ·rw [zaX5 t i j q _ e]; exact k.cov j hj x hx
theorem Kept.trans {p:Proc} {a b c:List Queue} (h:Kept p a b) (k:Kept p b c):Kept p a c :=
 ⟨k.v,k.len.trans h.len,fun i hi=>(k.res i (by rw [h.len]; exact hi)).trans (h.res i hi),fun i hi x hx=>by
  have h1:=k.cov i (by rw [h.len]; exact hi) x hx
  rw [h.res i hi] at h1
  exact zaW3 h1 (h.cov i hi x hx)⟩
theorem Kept.find {p:Proc} {t t':List Queue} (h:ValidT t) (k:Kept p t t') {i:Nat} (hi:i < t.length):zz5 t' (t.getD i Queue.zero).resource.name=i:=by
 have:=zbt3 k.v.asc (i:=i) (by rw [k.len]; exact hi)
 rwa [k.res i hi] at this
theorem zcC0 {t:List Queue} (h:ValidT t) {i:Nat} (hi:i < t.length) {p:Proc} (hw:(zA5 (t.getD i Queue.zero) p).2=true):∃ q ev,zaH2 t p (t.getD i Queue.zero).resource.name=(t.set i q,ev,0)∧ev.length≤20∧Kept p t (t.set i q) ∧
  getH q.holds p=getH (t.getD i Queue.zero).holds p∧(zA5 q p).2=false∧q.resource=(t.getD i Queue.zero).resource:=by
 have hq:=h.each _ (zj8 (z:=Queue.zero) hi)
 obtain ⟨e0,e1,e2,e3⟩:=zcB9 hq hw
 have hf:=zbt3 h.asc hi
 have hs:=zag7 hq (.cancel p e0)
 have e:zaH2 t p (t.getD i Queue.zero).resource.name=(t.set i (zF1 (t.getD i Queue.zero) p).1,[]++zaj0 (t.getD i Queue.zero).resource.name (zF1 (t.getD i Queue.zero) p).2.1,0):=by
  unfold zaH2 atT putT
  rw [if_neg (by rw [(zag5 t).2 h]; decide),hf,if_neg (by omega)]
  simp only [Int.toNat_natCast,e0,if_true]
  rw [zaT8]
 have hv:ValidT (t.set i (zF1 (t.getD i Queue.zero) p).1):=by
  have:=(zcB3 (t:=t) (p:=p) (nm:=(t.getD i Queue.zero).resource.name) (by rw [e]))
  obtain ⟨_,_,_,_,hv⟩:=this
  rwa [e] at hv
 refine ⟨_,_,e,?_,zbu6 h hi hv hs.2 fun x _=>e1 x,e2,e3,hs.2⟩
 have:=(zbl6 (t.getD i Queue.zero) p).2.2.2
 rw [List.nil_append,zat9]; omega
theorem zcc0 {t:List Queue} (h:ValidT t) {i:Nat} (hi:i < t.length) {p:Proc} {a:Amount} (hz:getH (t.getD i Queue.zero).holds p≠Amount.zero) (hw:(zA5 (t.getD i Queue.zero) p).2=false) (hc:covA (t.getD i Queue.zero).resource (getH (t.getD i Queue.zero).holds p) a=true) :
  ∃ q ev,zaa9 t p ⟨(t.getD i Queue.zero).resource.name,a⟩=(t.set i q,ev,0)∧ev.length≤20∧Kept p t (t.set i q)∧getH q.holds p=a∧(zA5 q p).2=false∧q.resource=(t.getD i Queue.zero).resource:=by
 have hq:=h.each _ (zj8 (z:=Queue.zero) hi)
 obtain ⟨e0,e1,e2,e3⟩:=zcb9 hq hz hw hc
 have hf:=zbt3 h.asc hi
 have hs:=zag7 hq (.lower p a e0)
 have e:zaa9 t p ⟨(t.getD i Queue.zero).resource.name,a⟩=(t.set i (zC8 (t.getD i Queue.zero) p a).1,(if getH (t.getD i Queue.zero).holds p=a then [] else [zbS0 p (t.getD i Queue.zero).resource.name a])++zaj0 (t.getD i Queue.zero).resource.name (zC8 (t.getD i Queue.zero) p a).2.1,0):=by
  unfold zaa9 atT putT
  rw [if_neg (by rw [(zag5 t).2 h]; decide)]
  simp only [hf,Int.toNat_natCast,e0,if_true,show ¬ (i:Int) < 0 by omega,if_false]
  rw [zaT8]
 have hv:ValidT (t.set i (zC8 (t.getD i Queue.zero) p a).1):=by
  have:=(zcb7 (t:=t) (p:=p) (a:=⟨(t.getD i Queue.zero).resource.name,a⟩) (by rw [e]))
  obtain ⟨_,_,_,_,hv⟩:=this
  rwa [e] at hv
 refine ⟨_,_,e,?_,zbu6 h hi hv hs.2 e1,e2,e3,hs.2⟩
 have:=(zaW5 (t.getD i Queue.zero) p a).2.2.2
 rw [List.length_append,zat9]
 have:(if getH (t.getD i Queue.zero).holds p=a then ([]:List Event) else [zbS0 p (t.getD i Queue.zero).resource.name a]).length≤1:=by split <;> simp
 omega
def zba4 (w:work) (t:List Queue) (ev:List Event):work:=⟨⟨w.c.now,t,w.c.procs⟩,ev⟩
theorem zaX6 (t:List Queue) (ev:List Event) (w:work) (h:w.ev.length+ev.length≤4294967296):zc5 t ev w=some (w.c.now,t,w.c.procs,w.ev++ev):=by
 unfold zc5
 rw [gdp h]
theorem zdd7 (x:Proce) {w:work} (h:ValidT w.c.queues) {i:Nat} (hi:i < w.c.queues.length) (he:x.ledger.entries.length≤1000) (hev:w.ev.length≤1000000)
  (hc:covA (w.c.queues.getD i Queue.zero).resource (getH (w.c.queues.getD i Queue.zero).holds x.proc) (zw4 x.ledger.entries (w.c.queues.getD i Queue.zero).resource.name)=true) :
  ∃ q ev,zy4 x (w.c.queues.getD i Queue.zero).resource.name w=some (zba4 w (w.c.queues.set i q) (w.ev++ev))∧ev.length≤40∧Kept x.proc w.c.queues (w.c.queues.set i q) ∧
   getH q.holds x.proc=zw4 x.ledger.entries (w.c.queues.getD i Queue.zero).resource.name∧(zA5 q x.proc).2=false∧q.resource=(w.c.queues.getD i Queue.zero).resource:=by
 obtain ⟨hl,hs⟩:=h.lens'
 have h4:=zaO6 hs hi
 have hf:=zbt3 h.asc hi
 have k1:∀ (t1:List Queue) (ev1:List Event),Kept x.proc w.c.queues t1→ev1.length≤20→getH (t1.getD i Queue.zero).holds x.proc=getH (w.c.queues.getD i Queue.zero).holds x.proc→(zA5 (t1.getD i Queue.zero) x.proc).2=false →
   (∃ q1,t1=w.c.queues.set i q1)→∃ q ev,zJ6 x (w.c.queues.getD i Queue.zero).resource.name (i:Int) (zba4 w t1 (w.ev++ev1))=some (zba4 w (w.c.queues.set i q) (w.ev++ev))∧ev.length≤40∧Kept x.proc w.c.queues (w.c.queues.set i q) ∧
   getH q.holds x.proc=zw4 x.ledger.entries (w.c.queues.getD i Queue.zero).resource.name∧(zA5 q x.proc).2=false∧q.resource=(w.c.queues.getD i Queue.zero).resource:=by
  intro t1 ev1 hk hev1 hh hw ⟨q1,hq1⟩
  have hi1:i < t1.length:=by rw [hk.len]; exact hi
  have h5:=zaO6 hk.v.lens hi1
  have hr:=hk.res i hi
  have hg:t1.getD i Queue.zero=q1:=by rw [hq1]; exact zu5 _ _ _ _ hi
  unfold zJ6
  rw [zab0 _ _ (by omega),Option.bind_some]
  show ∃ q ev,gd (0≤(i:Int)∧(i:Int) < (t1.length:Int)) ((zi2 (t1.getD (i:Int).toNat Queue.zero) x.proc).bind _)=_∧_
  rw [gdp (by omega)]
  simp only [Int.toNat_natCast]
  rw [zG0 _ _ (by omega),Option.bind_some]
  by_cases e:getH (t1.getD i Queue.zero).holds x.proc=zw4 x.ledger.entries (w.c.queues.getD i Queue.zero).resource.name
  ·rw [if_neg (by simp [e,-List.getD_eq_getElem?_getD])]
   refine ⟨q1,ev1,by rw [← hq1],by omega,hq1 ▸ hk,by rw [← hg]; exact e,by rw [← hg]; exact hw,by rw [← hg]; exact hr⟩
  ·rw [if_pos (by simp [e,-List.getD_eq_getElem?_getD])]
   have hz:getH (t1.getD i Queue.zero).holds x.proc≠Amount.zero:=fun z=>by
    rw [hh] at z e
    rw [z] at hc
    rcases ((zaa2 _ _ _).1 hc).2.2 with h6|h6
    ·exact e (z.trans h6.symm)
    ·exact h6.1 rfl
   obtain ⟨q,ev,r1,r2,r3,r4,r5,r6⟩:=zcc0 hk.v hi1 (p:=x.proc) (a:=zw4 x.ledger.entries (w.c.queues.getD i Queue.zero).resource.name) hz hw (by rw [hr,hh]; exact hc)
   rw [hr] at r1 r6
   rw [zaL6,Option.bind_some]
   show ∃ q ev,(zc5 (zaa9 t1 x.proc ⟨_,_⟩).1 (zaa9 t1 x.proc ⟨_,_⟩).2.1 (zba4 w t1 (w.ev++ev1))).bind _=_∧_
   rw [r1,zaX6 _ _ _ (by show (w.ev++ev1).length+ev.length≤_; rw [List.length_append]; omega),Option.bind_some]
   have es:t1.set i q=w.c.queues.set i q:=by rw [hq1,List.set_set]
   refine ⟨q,ev1++ev,?_,by rw [List.length_append]; omega,es ▸ hk.trans r3,r4,r5,r6⟩
   show some (zba4 w (t1.set i q) ((w.ev++ev1)++ev))=_
   rw [es,List.append_assoc]
 unfold zy4
 rw [zP1 _ _ (by omega),Option.bind_some,hf,gdp (by omega)]
 simp only [Int.toNat_natCast]
 rw [zL4 _ _ (by omega) (by omega),Option.bind_some]
 cases hw:(zA5 (w.c.queues.getD i Queue.zero) x.proc).2 with
 | true =>
  rw [if_pos rfl]
  obtain ⟨q,ev,r1,r2,r3,r4,r5,r6⟩:=zcC0 h hi hw
  rw [zbF6,Option.bind_some,r1,zaX6 _ _ _ (by simp only; omega),Option.bind_some]
  have hg:(w.c.queues.set i q).getD i Queue.zero=q:=zu5 _ _ _ _ hi
  exact k1 (w.c.queues.set i q) ev r3 r2 (by rw [hg]; exact r4) (by rw [hg]; exact r5) ⟨q,rfl⟩
 | false =>
  rw [if_neg (by decide)]
  have:=k1 w.c.queues [] (zaI0 h) (by simp) rfl hw ⟨_,(zaB8 _ _ Queue.zero hi).symm⟩
  rw [List.append_nil] at this
  exact this
structure OkW (t:List Queue) (y:Proce):Prop where
 e:vE y.request.expr=true
 le:y.ledger.entries.length≤1000
 at_:∀ L b,zn3 y.request.expr=some (L,b)→∀ a ∈ L,∃ i,i < t.length∧(t.getD i Queue.zero).resource.name=a.name
 cov:∀ i,i < t.length→covA (t.getD i Queue.zero).resource (getH (t.getD i Queue.zero).holds y.proc) (zw4 y.ledger.entries (t.getD i Queue.zero).resource.name)=true
theorem OkW.kept {p:Proc} {t t':List Queue} {y:Proce} (h:OkW t y) (k:Kept p t t') (hy:y.proc≠p):OkW t' y:=by
 refine ⟨h.e,h.le,fun L b hL a ha=>?_,fun i hi=>?_⟩
 ·obtain ⟨i,hi,e⟩:=h.at_ L b hL a ha
  exact ⟨i,by rw [k.len]; exact hi,by rw [k.res i hi]; exact e⟩
 ·rw [k.len] at hi
  rw [k.res i hi]
  exact zaW3 (k.cov i hi _ hy) (h.cov i hi)
structure Good (w:work):Prop where
 v:ValidT w.c.queues
 len:w.c.procs.length≤8
 nd:(w.c.procs.map (·.proc)).Nodup
 ok:∀ y ∈ w.c.procs,y.waiting=true→OkW w.c.queues y
def cntW (l:List Proce):Nat:=l.countP (·.waiting)
def bud (w:work):Nat:=w.ev.length+2000 * cntW w.c.procs
theorem zdu0 (l:List Proce):cntW l≤l.length:=List.countP_le_length
theorem zcH8 {l:List Proce} {i:Nat} (h:i < l.length) (y:Proce):cntW (l.set i y)+(if (l.getD i Proce.zero).waiting then 1 else 0)=cntW l+(if y.waiting then 1 else 0):=by
 unfold cntW
 induction l generalizing i with
 | nil=>cases h
 | cons x l ih =>
  cases i with
  | zero=>simp only [List.set_cons_zero,List.countP_cons,List.getD_cons_zero]; omega
  | succ i =>
   simp only [List.set_cons_succ,List.countP_cons,List.getD_cons_succ]
   have:=ih (i:=i) (by simpa using h)
   omega
def zX0 (x:Proce):Proce:={ x with waiting:=false,request:=Request.zero,since:=0 }
theorem zcH9 {i:Nat} {w:work} (hi:i < w.c.procs.length):zd2 (i:Int) w=some (w.c.now,w.c.queues,w.c.procs.set i (zX0 (w.c.procs.getD i Proce.zero)),w.ev):=by
 unfold zd2
 rw [gdp (by omega),gdp (by omega),gdp (by omega)]
 simp only [Int.toNat_natCast,List.set_set]
 rw [zu5 _ _ _ _ hi]
 rw [zu5 _ _ _ _ (by simpa using hi)]
 rfl
theorem zan7 {i:Nat} {w:work} (hi:i < w.c.procs.length):zc8 (i:Int) w=some (w.c.now,w.c.queues,w.c.procs.set i { (w.c.procs.getD i Proce.zero) with gen:=zn8 (w.c.procs.getD i Proce.zero).gen },w.ev):=by
 unfold zc8
 rw [gdp (by omega),gdp (by omega)]
 simp only [Int.toNat_natCast]
theorem zaX7 (k:Int) (p:Proc) {w:work} (h:w.ev.length≤1000000):zd0 k p w=some (w.c.now,w.c.queues,w.c.procs,w.ev++[{ Event.zero with kind:=k,proc:=p }]):=by
 unfold zd0
 rw [gdp (by omega)]
theorem zbu7 {w:work} (hl:w.c.procs.length≤8) (hq:w.c.queues.length≤1000) (hs:Lens w.c.queues) (hE:∀ y ∈ w.c.procs,y.waiting=true→vE y.request.expr=true) :
  ∃ v,zr4 w=some (v,w.c.now,w.c.queues,w.c.procs,w.ev)∧(v=-1∨∃ i:Nat,v=i∧i < w.c.procs.length∧(w.c.procs.getD i Proce.zero).waiting=true∧w.c.queues≠[]):=by
 unfold zr4
 obtain ⟨x,h1,h2⟩:=zr8 (body:=zH8 w) (fun g=>∃ i:Nat,g=i∧i≤w.c.procs.length) (fun g=>w.c.procs.length - g.toNat)
  (fun x=>x=.inl ()∨∃ i:Nat,x=.inr ((i:Int),w.c.now,w.c.queues,w.c.procs,w.ev)∧i < w.c.procs.length∧(w.c.procs.getD i Proce.zero).waiting=true∧w.c.queues≠[])
  (fun g ⟨i,hi,hle⟩=>by
   subst hi
   unfold zH8
   by_cases c:i < w.c.procs.length
   ·have h3:0≤(i:Int)∧(i:Int) < (w.c.procs.length:Int):=by omega
    simp only [h3.1,h3.2,and_self,zm3,decide_true,if_true,Int.toNat_natCast,zc4 i (show i < 4611686018427387904 by omega)]
    cases hw:(w.c.procs.getD i Proce.zero).waiting with
    | false =>
     simp only [Bool.false_eq_true,if_false,Option.bind_some,Bool.false_and]
     exact .inl ⟨_,rfl,⟨i+1,rfl,c⟩,by simp only [Int.toNat_natCast]; omega⟩
    | true =>
     simp only [if_true,Bool.true_and]
     obtain ⟨bs,L,q1,q2,q3,q4⟩:=zbp6 w.c.queues (w.c.procs.getD i Proce.zero).proc (w.c.procs.getD i Proce.zero).request.expr hq hs
     obtain ⟨b,r1,r2⟩:=zbg6 (hE _ (zj8 c) hw) bs
     rw [q1,Option.bind_some,r1,Option.bind_some]
     cases b with
     | false =>
      rw [if_neg (by decide)]
      exact .inl ⟨_,rfl,⟨i+1,rfl,c⟩,by simp only [Int.toNat_natCast]; omega⟩
     | true =>
      rw [if_pos rfl]
      refine .inr ⟨_,rfl,.inr ⟨i,rfl,c,hw,fun hn=>?_⟩⟩
      have:=r2 (q4 hn); cases this
   ·right
    simp only [show ¬ (i:Int) < (w.c.procs.length:Int) by omega,decide_false,Bool.false_eq_true,if_false]
    exact ⟨_,rfl,.inl rfl⟩) 0 ⟨0,rfl,by omega⟩
 rw [h1]
 rcases h2 with rfl|⟨i,rfl,h3,h4,h5⟩
 ·exact ⟨-1,rfl,.inl rfl⟩
 ·exact ⟨i,rfl,.inr ⟨i,rfl,h3,h4,h5⟩⟩
theorem zbF9 (l:Ledger) (e:Entry):∃ r,zu8 l e=some r∧r.1.entries.length≤100:=by
 unfold zu8
 obtain ⟨b,h1,h2⟩:=zae8 l
 rw [h1,Option.bind_some]
 cases b with
 | false=>exact ⟨_,rfl,by simp [Ledger.zero]⟩
 | true =>
  have hp:=h2 rfl
  have:=hp.le; have:=hp.ls
  simp only [Bool.not_true,Bool.false_eq_true,if_false]
  rw [gdp (by omega),gdp (by omega),gdp (by omega)]
  obtain ⟨b2,h3,_⟩:=zae8 ⟨l.entries++[e],l.saves⟩
  rw [h3,Option.bind_some]
  cases b2 with
  | false=>exact ⟨_,rfl,by simp [Ledger.zero]⟩
  | true=>exact ⟨_,rfl,by simp; omega⟩
def Left (x:Proce) (t t':List Queue) (ns:List Atom):Prop:=∀ j,j < t.length →
 (getH (t'.getD j Queue.zero).holds x.proc=zw4 x.ledger.entries (t.getD j Queue.zero).resource.name∧(zA5 (t'.getD j Queue.zero) x.proc).2=false) ∨
 (t'.getD j Queue.zero=t.getD j Queue.zero∧∀ a ∈ ns,a.name≠(t.getD j Queue.zero).resource.name)
theorem Left.cov {x:Proce} {t t':List Queue} {ns:List Atom} (h:Left x t t' ns) (k:Kept x.proc t t') (hc:∀ i,i < t.length→covA (t.getD i Queue.zero).resource (getH (t.getD i Queue.zero).holds x.proc) (zw4 x.ledger.entries (t.getD i Queue.zero).resource.name)=true) :
  ∀ i,i < t.length→covA (t.getD i Queue.zero).resource (getH (t'.getD i Queue.zero).holds x.proc) (zw4 x.ledger.entries (t.getD i Queue.zero).resource.name)=true:=by
 intro i hi
 rcases h i hi with ⟨e,_⟩|⟨e,_⟩
 ·rw [← e,← k.res i hi]
  exact zan6 (zat7 ((zx5 _).1 (k.v.each _ (zj8 (z:=Queue.zero) (by rw [k.len]; exact hi)))).1.hv x.proc)
 ·rw [e]; exact hc i hi
theorem drop_left {x:Proce} {w:work} {t:List Queue} (h:ValidT t) (k:Kept x.proc t w.c.queues) {ns:List Atom} (hL:Left x t w.c.queues ns) (hle:x.ledger.entries.length≤1000) (hev:w.ev.length≤1000000)
  (hc:∀ i,i < t.length→covA (t.getD i Queue.zero).resource (getH (t.getD i Queue.zero).holds x.proc) (zw4 x.ledger.entries (t.getD i Queue.zero).resource.name)=true) {a:Atom} (ha:∃ i,i < t.length∧(t.getD i Queue.zero).resource.name=a.name) :
  ∃ t' ev,zy4 x a.name w=some (zba4 w t' (w.ev++ev))∧ev.length≤40∧Kept x.proc t t'∧Left x t t' (ns++[a]):=by
 obtain ⟨i,hi,hn⟩:=ha
 have hi':i < w.c.queues.length:=by rw [k.len]; exact hi
 have hr:=k.res i hi
 obtain ⟨q,ev,h1,h2,h3,h4,h5,h6⟩:=zdd7 x k.v hi' hle hev (by rw [hr]; exact hL.cov k hc i hi)
 rw [hr] at h1 h4
 rw [hn] at h1
 refine ⟨_,ev,h1,h2,k.trans h3,fun j hj=>?_⟩
 by_cases e:i=j
 ·subst e
  left
  rw [zu5 _ _ _ _ hi']
  exact ⟨h4,h5⟩
 ·rw [zaX5 _ _ _ _ _ e]
  rcases hL j hj with h7|⟨h7,h8⟩
  ·exact .inl h7
  ·refine .inr ⟨h7,fun b hb=>?_⟩
   rcases List.mem_append.1 hb with hb|hb
   ·exact h8 b hb
   ·rw [List.mem_singleton] at hb
    subst hb
    rw [← hn]
    exact fun he=>e (zch4 h.asc hi hj he)
theorem zbu8 {i:Nat} {w:work} (g:Good w) (hi:i < w.c.procs.length) (hw:(w.c.procs.getD i Proce.zero).waiting=true) (hb:bud w≤500000) :
  ∃ t' ev L,zs8 (i:Int) w=some ⟨⟨w.c.now,t',w.c.procs.set i (zX0 (w.c.procs.getD i Proce.zero))⟩,w.ev++ev⟩∧ev.length≤320∧Kept (w.c.procs.getD i Proce.zero).proc w.c.queues t' ∧
   zn3 (w.c.procs.getD i Proce.zero).request.expr=some (L,true)∧Left (w.c.procs.getD i Proce.zero) w.c.queues t' L:=by
 have ok:=g.ok _ (zj8 hi) hw
 obtain ⟨L,a1,a2,a3⟩:=zal2 (w.c.procs.getD i Proce.zero).request.expr
 have hevb:w.ev.length≤500000:=by unfold bud at hb; omega
 unfold zs8
 rw [gdp (by omega)]
 simp only [Int.toNat_natCast]
 rw [a1,Option.bind_some]
 obtain ⟨x,h1,h2⟩:=zr8 (body:=zJ7 (i:Int) w L) (fun g=>∃ (k:Nat) (t':List Queue) (ev:List Event),g=((k:Int),zba4 w t' (w.ev++ev))∧k≤L.length∧ev.length≤40 * k∧Kept (w.c.procs.getD i Proce.zero).proc w.c.queues t'∧Left (w.c.procs.getD i Proce.zero) w.c.queues t' (L.take k))
  (fun g=>L.length - g.1.toNat) (fun x=>∃ (t':List Queue) (ev:List Event),x=zba4 w t' (w.ev++ev)∧ev.length≤320∧Kept (w.c.procs.getD i Proce.zero).proc w.c.queues t'∧Left (w.c.procs.getD i Proce.zero) w.c.queues t' L)
  (fun g ⟨k,t',ev,hg,hk,he,hK,hLf⟩=>by
   subst hg
   unfold zJ7
   by_cases c:k < L.length
   ·left
    have h3:0≤(k:Int)∧(k:Int) < (L.length:Int):=by omega
    simp only [h3.1,h3.2,and_self,zm3,decide_true,if_true,Int.toNat_natCast,zc4 k (show k < 4611686018427387904 by omega)]
    obtain ⟨t2,ev2,r1,r2,r3,r4⟩:=drop_left (w:=zba4 w t' (w.ev++ev)) g.v hK hLf ok.le (by show (w.ev++ev).length≤_; rw [List.length_append]; omega) ok.cov (ok.at_ L _ a3 _ (zj8 (z:=Atom.zero) c))
    rw [r1,Option.bind_some]
    refine ⟨_,rfl,⟨k+1,t2,ev++ev2,?_,c,by rw [List.length_append]; omega,r3,?_⟩,by simp only [Int.toNat_natCast]; omega⟩
    ·show (((k+1:Nat):Int),zba4 (zba4 w t' (w.ev++ev)) t2 ((w.ev++ev)++ev2))=_
     rw [List.append_assoc]; rfl
    ·rw [zK5 Atom.zero c]; exact r4
   ·right
    have e:k=L.length:=by omega
    simp only [show ¬ (k:Int) < (L.length:Int) by omega,decide_false,Bool.false_eq_true,if_false]
    exact ⟨_,rfl,t',ev,rfl,by omega,hK,by rw [e,List.take_length] at hLf; exact hLf⟩) (0,w) ⟨0,w.c.queues,[],by rw [List.append_nil]; rfl,by omega,by simp,zaI0 g.v,fun j hj=>.inr ⟨rfl,fun a ha=>by cases ha⟩⟩
 obtain ⟨t',ev,rfl,he,hK,hLf⟩:=h2
 rw [h1,Option.bind_some]
 unfold zV9
 rw [zcH9 (w:=zba4 w t' (w.ev++ev)) hi,Option.bind_some]
 exact ⟨t',ev,L,rfl,he,hK,by rw [a3,ok.e],hLf⟩
theorem Good.upd {w:work} (g:Good w) {i:Nat} (hi:i < w.c.procs.length) {t':List Queue} (k:Kept (w.c.procs.getD i Proce.zero).proc w.c.queues t') {y:Proce} (hp:y.proc=(w.c.procs.getD i Proce.zero).proc) (hy:y.waiting=true→OkW t' y) (n:Int) (ev:List Event) :
  Good ⟨⟨n,t',w.c.procs.set i y⟩,ev⟩:=by
 have hmap:(w.c.procs.set i y).map (·.proc)=w.c.procs.map (·.proc):=by
  rw [List.map_set,hp]
  have:(w.c.procs.map (·.proc)).getD i Proc.zero=(w.c.procs.getD i Proce.zero).proc:=by
   rw [List.getD_eq_getElem?_getD,List.getElem?_map,List.getD_eq_getElem?_getD,List.getElem?_eq_getElem hi]; rfl
  rw [← this]
  exact zaB8 _ _ _ (by simpa using hi)
 refine ⟨k.v,by simpa using g.len,by show ((w.c.procs.set i y).map (·.proc)).Nodup; rw [hmap]; exact g.nd,fun z hz hwz=>?_⟩
 obtain ⟨j,hj,e⟩:=List.mem_iff_getElem.1 (show z ∈ w.c.procs.set i y from hz)
 rw [List.length_set] at hj
 by_cases c:i=j
 ·subst c
  rw [List.getElem_set_self] at e
  subst e
  exact hy hwz
 ·rw [List.getElem_set_ne c] at e
  have hm:z ∈ w.c.procs:=e ▸ List.getElem_mem hj
  refine (g.ok z hm hwz).kept k fun he=>?_
  have hn:=List.pairwise_iff_getElem.1 g.nd
  have e1:(w.c.procs.map (·.proc))[i]'(by simpa using hi)=(w.c.procs.getD i Proce.zero).proc:=by
   rw [List.getElem_map,List.getD_eq_getElem?_getD,List.getElem?_eq_getElem hi]; rfl
  have e2:(w.c.procs.map (·.proc))[j]'(by simpa using hj)=z.proc:=by rw [List.getElem_map,e]
  rcases Nat.lt_or_ge i j with h|h
  ·exact hn i j (by simpa using hi) (by simpa using hj) h (by rw [e1,e2,he])
  ·exact hn j i (by simpa using hj) (by simpa using hi) (by omega) (by rw [e1,e2,he])
theorem Good.lens {w:work} (g:Good w):w.c.queues.length≤1000∧Lens w.c.queues:=g.v.lens'
theorem Good.sat {w:work} (g:Good w):∃ v,zr4 w=some (v,w.c.now,w.c.queues,w.c.procs,w.ev)∧(v=-1∨∃ i:Nat,v=i∧i < w.c.procs.length∧(w.c.procs.getD i Proce.zero).waiting=true∧w.c.queues≠[]) :=
 zbu7 g.len g.lens.1 g.lens.2 fun y hy hw=>(g.ok y hy hw).e
def midW (w:work) (i:Nat) (t:List Queue) (y:Proce) (ev:List Event):work:=⟨⟨w.c.now,t,w.c.procs.set i y⟩,ev⟩
theorem zci2 {i:Nat} {w:work} (g:Good w) (hi:i < w.c.procs.length) (hw:(w.c.procs.getD i Proce.zero).waiting=true) (hb:bud w≤500000) {L:List Atom} (hL:L.length≤8) (hLa:zn3 (w.c.procs.getD i Proce.zero).request.expr=some (L,true)) {keep:List Bool} (hk:keep.length=L.length) {ev0:List Event} (h0:ev0.length≤w.ev.length+1) :
  ∃ t' y ev,zc0 (zF9 ((i:Int),w) keep L) (0,midW w i w.c.queues (w.c.procs.getD i Proce.zero) ev0)=some (midW w i t' y ev)∧Kept (w.c.procs.getD i Proce.zero).proc w.c.queues t'∧y.proc=(w.c.procs.getD i Proce.zero).proc∧ev.length≤w.ev.length+321:=by
 have ok:=g.ok _ (zj8 hi) hw
 have hevb:w.ev.length≤500000:=by unfold bud at hb; omega
 obtain ⟨x,h1,h2⟩:=zr8 (body:=zF9 ((i:Int),w) keep L) (fun g=>∃ (k:Nat) (t':List Queue) (y:Proce) (ev:List Event) (ns:List Atom),g=((k:Int),midW w i t' y ev)∧k≤L.length∧ev.length≤w.ev.length+1+40 * k∧Kept (w.c.procs.getD i Proce.zero).proc w.c.queues t' ∧
   Left (w.c.procs.getD i Proce.zero) w.c.queues t' ns∧y.proc=(w.c.procs.getD i Proce.zero).proc∧y.ledger.entries.length≤1000)
  (fun g=>L.length - g.1.toNat) (fun x=>∃ (t':List Queue) (y:Proce) (ev:List Event),x=midW w i t' y ev∧Kept (w.c.procs.getD i Proce.zero).proc w.c.queues t'∧y.proc=(w.c.procs.getD i Proce.zero).proc∧ev.length≤w.ev.length+321)
  (fun g' ⟨k,t',y,ev,ns,hg,hkl,he,hK,hLf,hy,hyl⟩=>by
   subst hg
   unfold zF9
   by_cases c:k < L.length
   ·left
    have h3:0≤(k:Int)∧(k:Int) < (L.length:Int):=by omega
    have h4:(k:Int) < (keep.length:Int):=by omega
    simp only [h3.1,h3.2,h4,and_self,zm3,decide_true,if_true,Int.toNat_natCast,zc4 k (show k < 4611686018427387904 by omega)]
    cases hkp:keep.getD k false with
    | false =>
     simp only [Bool.not_false,if_true]
     obtain ⟨t2,ev2,r1,r2,r3,r4⟩:=drop_left (w:=midW w i t' y ev) g.v hK hLf ok.le (by show ev.length≤_; omega) ok.cov (ok.at_ L _ hLa _ (zj8 (z:=Atom.zero) c))
     rw [r1,Option.bind_some]
     exact ⟨_,rfl,⟨k+1,t2,y,ev++ev2,ns++[L.getD k Atom.zero],rfl,c,by rw [List.length_append]; omega,r3,r4,hy,hyl⟩,by simp only [Int.toNat_natCast]; omega⟩
    | true =>
     simp only [Bool.not_true,Bool.false_eq_true,if_false]
     obtain ⟨j,hj,hn⟩:=ok.at_ L _ hLa _ (zj8 (z:=Atom.zero) c)
     have hj':j < t'.length:=by rw [hK.len]; exact hj
     have hfd:=hK.find g.v hj
     rw [hn] at hfd
     have h6:=zaO6 hK.v.lens hj'
     have hl':=hK.v.lens'.1
     have hyi:((w.c.procs.set i y).getD i Proce.zero)=y:=zu5 _ _ _ _ hi
     show ∃ g'',(zh5 t' (L.getD k Atom.zero).name).bind _=_∧_
     rw [zP1 _ _ (by omega),Option.bind_some,hfd]
     show ∃ g'',gd (0≤(j:Int)∧(j:Int) < (t'.length:Int)) ((zi2 (t'.getD (j:Int).toNat Queue.zero) _).bind _)=_∧_
     rw [gdp (by omega)]
     simp only [Int.toNat_natCast]
     rw [zG0 _ _ (by omega),Option.bind_some]
     have hgi:0≤(i:Int)∧(i:Int) < (((midW w i t' y ev).c.procs.length:Nat):Int):=by show _∧(i:Int) < (((w.c.procs.set i y).length:Nat):Int); rw [List.length_set]; omega
     have hym:(midW w i t' y ev).c.procs.getD i Proce.zero=y:=hyi
     rw [gdp hgi,hym,zab0 _ _ (by omega),Option.bind_some]
     split
     ·rw [gdp hgi]
      obtain ⟨rr,e1,e2⟩:=zbF9 y.ledger ⟨(L.getD k Atom.zero).name,zw4 y.ledger.entries (L.getD k Atom.zero).name,getH (t'.getD j Queue.zero).holds (w.c.procs.getD i Proce.zero).proc⟩
      rw [e1,Option.bind_some,gdp hgi]
      refine ⟨_,rfl,⟨k+1,t',{ y with ledger:=rr.1 },ev,ns,?_,c,by omega,hK,hLf,hy,by show rr.1.entries.length≤_; omega⟩,by simp only [Int.toNat_natCast]; omega⟩
      show (((k+1:Nat):Int),(⟨(⟨w.c.now,t',((w.c.procs.set i y).set i _)⟩:Central),ev⟩:work))=_
      rw [List.set_set]; rfl
     ·exact ⟨_,rfl,⟨k+1,t',y,ev,ns,rfl,c,by omega,hK,hLf,hy,hyl⟩,by simp only [Int.toNat_natCast]; omega⟩
   ·right
    simp only [show ¬ (k:Int) < (L.length:Int) by omega,decide_false,Bool.false_eq_true,if_false]
    exact ⟨_,rfl,t',y,ev,rfl,hK,hy,by omega⟩) (0,midW w i w.c.queues (w.c.procs.getD i Proce.zero) ev0) ⟨0,w.c.queues,w.c.procs.getD i Proce.zero,ev0,[],rfl,by omega,by omega,zaI0 g.v,fun j hj=>.inr ⟨rfl,fun a ha=>by cases ha⟩,rfl,ok.le⟩
 obtain ⟨t',y,ev,rfl,h3,h4,h5⟩:=h2
 exact ⟨t',y,ev,h1,h3,h4,h5⟩
structure Less (w w':work):Prop where
 good:Good w'
 len:w'.c.procs.length=w.c.procs.length
 cnt:cntW w'.c.procs≤cntW w.c.procs
 bud:bud w'≤bud w
theorem zdd8 (w:work) (i:Nat) (hi:i < w.c.procs.length) (ev:List Event):midW w i w.c.queues (w.c.procs.getD i Proce.zero) ev=⟨⟨w.c.now,w.c.queues,w.c.procs⟩,ev⟩:=by
 unfold midW; rw [zaB8 _ _ _ hi]
theorem zcs3 {i:Nat} {w:work} (g:Good w) (hi:i < w.c.procs.length) (hw:(w.c.procs.getD i Proce.zero).waiting=true) (hb:bud w≤500000) :
  ∃ v w',zB3 ((i:Int),w)=some (.inl (v,w'))∧Less w w'∧cntW w'.c.procs < cntW w.c.procs∧(v=-1∨∃ k:Nat,v=k∧k < w'.c.procs.length∧(w'.c.procs.getD k Proce.zero).waiting=true):=by
 have ok:=g.ok _ (zj8 hi) hw
 have hevb:w.ev.length≤500000:=by unfold bud at hb; omega
 unfold zB3
 have h3:0≤(i:Int)∧(i:Int) < (w.c.procs.length:Int):=by omega
 simp only [h3.1,h3.2,and_self,zm3,decide_true,if_true,Int.toNat_natCast]
 rw [zaX7 _ _ (by omega),Option.bind_some]
 obtain ⟨bs,L',q1,q2,q3,_⟩:=zbp6 w.c.queues (w.c.procs.getD i Proce.zero).proc (w.c.procs.getD i Proce.zero).request.expr g.lens.1 g.lens.2
 obtain ⟨L,a1,a2,a3⟩:=zal2 (w.c.procs.getD i Proce.zero).request.expr
 rw [q1,Option.bind_some]
 obtain ⟨keep,p1,p2⟩:=zbS7 ok.e bs a3
 rw [p1,Option.bind_some,a1,Option.bind_some]
 obtain ⟨t',y,ev,r1,r2,r3,r4⟩:=zci2 g hi hw hb a2 (by rw [a3,ok.e]) p2 (ev0:=w.ev++[{ Event.zero with kind:=2,proc:=(w.c.procs.getD i Proce.zero).proc }]) (by simp)
 rw [zdd8 w i hi] at r1
 rw [r1,Option.bind_some]
 unfold zaa8
 have hyi:((midW w i t' y ev).c.procs.getD i Proce.zero)=y:=zu5 _ _ _ _ hi
 have hl1:i < (midW w i t' y ev).c.procs.length:=by show i < (w.c.procs.set i y).length; rw [List.length_set]; exact hi
 rw [zcH9 (w:=midW w i t' y ev) hl1,Option.bind_some,hyi]
 have e1:(midW w i t' y ev).c.procs.set i (zX0 y)=w.c.procs.set i (zX0 y):=by show (w.c.procs.set i y).set i _=_; rw [List.set_set]
 rw [e1]
 have hl2:i < (w.c.procs.set i (zX0 y)).length:=by rw [List.length_set]; exact hi
 rw [zan7 (w:=⟨⟨_,_,w.c.procs.set i (zX0 y)⟩,_⟩) hl2,Option.bind_some]
 simp only [zu5 _ _ _ _ hi,List.set_set]
 have hg':Good ⟨⟨w.c.now,t',w.c.procs.set i { zX0 y with gen:=zn8 (zX0 y).gen }⟩,ev⟩:=g.upd hi r2 (y:={ zX0 y with gen:=zn8 (zX0 y).gen }) r3 (fun h=>by cases h) _ _
 have hcnt:cntW (w.c.procs.set i { zX0 y with gen:=zn8 (zX0 y).gen })+1=cntW w.c.procs:=by
  have:=zcH8 hi { zX0 y with gen:=zn8 (zX0 y).gen }
  rw [hw] at this
  simpa [zX0] using this
 obtain ⟨v,s1,s2⟩:=hg'.sat
 show ∃ v w',(zr4 ⟨⟨w.c.now,t',w.c.procs.set i { zX0 y with gen:=zn8 (zX0 y).gen }⟩,ev⟩).bind _=_∧_
 rw [s1,Option.bind_some]
 refine ⟨v,_,rfl,⟨hg',by show (w.c.procs.set i _).length=_; rw [List.length_set],by show cntW (w.c.procs.set i _)≤_; omega,by show ev.length+2000 * cntW (w.c.procs.set i _)≤w.ev.length+2000 * cntW w.c.procs; omega⟩,by show cntW (w.c.procs.set i _) < _; omega,?_⟩
 rcases s2 with h|⟨k,h5,h6,h7,_⟩
 ·exact .inl h
 ·exact .inr ⟨k,h5,h6,h7⟩
theorem Less.refl {w:work} (g:Good w):Less w w:=⟨g,rfl,Nat.le_refl _,Nat.le_refl _⟩
theorem Less.trans {a b c:work} (h:Less a b) (k:Less b c):Less a c:=⟨k.good,k.len.trans h.len,Nat.le_trans k.cnt h.cnt,Nat.le_trans k.bud h.bud⟩
theorem zaX8 {w:work} (g:Good w) (hb:bud w≤500000):∃ w',zl3 w=some w'∧Less w w':=by
 unfold zl3
 obtain ⟨v,s1,s2⟩:=g.sat
 rw [s1,Option.bind_some]
 obtain ⟨x,h1,h2⟩:=zr8 (body:=zB3) (fun z=>Less w z.2∧(z.1=-1∨∃ k:Nat,z.1=k∧k < z.2.c.procs.length∧(z.2.c.procs.getD k Proce.zero).waiting=true)) (fun z=>cntW z.2.c.procs) (fun x=>Less w x)
  (fun z ⟨hl,hv⟩=>by
   obtain ⟨v,w1⟩:=z
   simp only at hl hv
   rcases hv with rfl|⟨k,rfl,hk,hkw⟩
   ·right
    exact ⟨w1,rfl,hl⟩
   ·left
    obtain ⟨v',w',e1,e2,e3,e4⟩:=zcs3 hl.good hk hkw (Nat.le_trans hl.bud hb)
    exact ⟨(v',w'),e1,⟨hl.trans e2,e4⟩,e3⟩) (v,w) ⟨Less.refl g,by
   rcases s2 with h|⟨k,h5,h6,h7,_⟩
   ·exact .inl h
   ·exact .inr ⟨k,h5,h6,h7⟩⟩
 refine ⟨x,?_,h2⟩
 show (zc0 _ (v,w)).bind _=_
 rw [h1]; rfl
theorem zcs4 {w:work} (hq:w.c.queues=[]) (hl:w.c.procs.length≤8) (hE:∀ y ∈ w.c.procs,y.waiting=true→vE y.request.expr=true):zl3 w=some w:=by
 unfold zl3
 obtain ⟨v,s1,s2⟩:=zbu7 hl (by rw [hq]; simp) (by rw [hq]; intro q h; cases h) hE
 rw [s1,Option.bind_some]
 rcases s2 with rfl|⟨k,_,_,_,h⟩
 ·rw [zg1]; rfl
 ·exact absurd hq h
theorem zbS8 {w:work} (hl:w.c.procs.length≤8):∃ v,zc2 w=some (v,w.c.now,w.c.queues,w.c.procs,w.ev)∧(v=-1∨∃ i:Nat,v=i∧i < w.c.procs.length∧(w.c.procs.getD i Proce.zero).waiting=true):=by
 unfold zc2
 obtain ⟨x,h1,h2⟩:=zr8 (body:=zL8 w) (fun g=>(∃ i:Nat,g.2.2=i∧i≤w.c.procs.length)∧(g.1=-1∨∃ i:Nat,g.1=i∧i < w.c.procs.length∧(w.c.procs.getD i Proce.zero).waiting=true)) (fun g=>w.c.procs.length - g.2.2.toNat)
  (fun x=>x=-1∨∃ i:Nat,x=i∧i < w.c.procs.length∧(w.c.procs.getD i Proce.zero).waiting=true)
  (fun g ⟨⟨i,hi,hle⟩,hg⟩=>by
   obtain ⟨b,wh,g2⟩:=g
   simp only at hi hg
   subst hi
   unfold zL8
   by_cases c:i < w.c.procs.length
   ·left
    have h3:0≤(i:Int)∧(i:Int) < (w.c.procs.length:Int):=by omega
    simp only [h3.1,h3.2,and_self,zm3,decide_true,if_true,Int.toNat_natCast,zc4 i (show i < 4611686018427387904 by omega)]
    split
    ·rename_i h
     simp only [Bool.and_eq_true] at h
     exact ⟨_,rfl,⟨⟨i+1,rfl,c⟩,.inr ⟨i,rfl,c,h.1.1.1⟩⟩,by simp only [Int.toNat_natCast]; omega⟩
    ·exact ⟨_,rfl,⟨⟨i+1,rfl,c⟩,hg⟩,by simp only [Int.toNat_natCast]; omega⟩
   ·right
    simp only [show ¬ (i:Int) < (w.c.procs.length:Int) by omega,decide_false,Bool.false_eq_true,if_false]
    exact ⟨_,rfl,hg⟩) (-1,0,0) ⟨⟨0,rfl,by omega⟩,.inl rfl⟩
 rw [h1,Option.bind_some]
 exact ⟨x,rfl,h2⟩
theorem zbl9 {i:Nat} {w:work} (g:Good w) (hi:i < w.c.procs.length) (hw:(w.c.procs.getD i Proce.zero).waiting=true) (hb:bud w≤500000) :
  ∃ w1 w2,zs8 (i:Int) w=some w1∧zc8 (i:Int) w1=some (w2.c.now,w2.c.queues,w2.c.procs,w2.ev)∧Good w2∧w2.c.procs.length=w.c.procs.length∧cntW w2.c.procs < cntW w.c.procs∧bud w2+1000≤bud w:=by
 obtain ⟨t',ev,L,h1,h2,h3,_,_⟩:=zbu8 g hi hw hb
 have hl2:i < (w.c.procs.set i (zX0 (w.c.procs.getD i Proce.zero))).length:=by rw [List.length_set]; exact hi
 have hn:=zan7 (w:=⟨⟨w.c.now,t',w.c.procs.set i (zX0 (w.c.procs.getD i Proce.zero))⟩,w.ev++ev⟩) hl2
 simp only [zu5 _ _ _ _ hi,List.set_set] at hn
 have hcnt:cntW (w.c.procs.set i { zX0 (w.c.procs.getD i Proce.zero) with gen:=zn8 (zX0 (w.c.procs.getD i Proce.zero)).gen })+1=cntW w.c.procs:=by
  have:=zcH8 hi { zX0 (w.c.procs.getD i Proce.zero) with gen:=zn8 (zX0 (w.c.procs.getD i Proce.zero)).gen }
  rw [hw] at this
  simpa [zX0] using this
 refine ⟨_,⟨⟨w.c.now,t',w.c.procs.set i { zX0 (w.c.procs.getD i Proce.zero) with gen:=zn8 (zX0 (w.c.procs.getD i Proce.zero)).gen }⟩,w.ev++ev⟩,h1,hn,g.upd hi h3 (y:={ zX0 (w.c.procs.getD i Proce.zero) with gen:=zn8 (zX0 (w.c.procs.getD i Proce.zero)).gen }) rfl (fun h=>by cases h) _ _,by simp,by show cntW (w.c.procs.set i _) < _; omega,?_⟩
 show (w.ev++ev).length+2000 * cntW (w.c.procs.set i _)+1000≤w.ev.length+2000 * cntW w.c.procs
 rw [List.length_append]
 omega
theorem Good.ev {w:work} (g:Good w) (ev:List Event) (n:Int):Good ⟨⟨n,w.c.queues,w.c.procs⟩,ev⟩:=⟨g.v,g.len,g.nd,g.ok⟩
theorem zdd9 (n:Int) {w:work} (g:Good w) (hb:bud w≤400000):∃ r,zE7 n w=some r:=by
 unfold zE7
 split
 ·exact ⟨_,rfl⟩
 split
 ·exact ⟨_,rfl⟩
 have g1:=g.ev w.ev (IntKind.i64.wrap (w.c.now+n))
 obtain ⟨v,e1,e2⟩:=zbS8 (w:=⟨⟨IntKind.i64.wrap (w.c.now+n),w.c.queues,w.c.procs⟩,w.ev⟩) g.len
 rw [e1,Option.bind_some]
 obtain ⟨x,h1,h2⟩:=zr8 (body:=zT1) (fun z=>Good z.2∧bud z.2≤400000∧(z.1=-1∨∃ k:Nat,z.1=k∧k < z.2.c.procs.length∧(z.2.c.procs.getD k Proce.zero).waiting=true)) (fun z=>cntW z.2.c.procs) (fun _=>True)
  (fun z ⟨hg,hbz,hv⟩=>by
   obtain ⟨v,w1⟩:=z
   simp only at hg hbz hv
   rcases hv with rfl|⟨k,rfl,hk,hkw⟩
   ·right
    exact ⟨w1,rfl,trivial⟩
   ·left
    have hev:w1.ev.length≤400000:=by unfold bud at hbz; omega
    unfold zT1
    have h3:0≤(k:Int)∧(k:Int) < (w1.c.procs.length:Int):=by omega
    simp only [h3.1,h3.2,and_self,zm3,decide_true,if_true,Int.toNat_natCast]
    rw [zaX7 _ _ (by omega),Option.bind_some]
    have gn:=hg.ev (w1.ev++[{ Event.zero with kind:=4,proc:=(w1.c.procs.getD k Proce.zero).proc }]) w1.c.now
    obtain ⟨wa,wb,r1,r2,r3,r4,r5,r6⟩:=zbl9 (w:=⟨⟨w1.c.now,w1.c.queues,w1.c.procs⟩,w1.ev++[{ Event.zero with kind:=4,proc:=(w1.c.procs.getD k Proce.zero).proc }]⟩) gn hk hkw (by unfold bud at hbz ⊢; simp only [List.length_append,List.length_singleton]; omega)
    have hbb:bud wb+999≤bud w1:=by
     have:bud (⟨⟨w1.c.now,w1.c.queues,w1.c.procs⟩,w1.ev++[{ Event.zero with kind:=4,proc:=(w1.c.procs.getD k Proce.zero).proc }]⟩:work)=bud w1+1:=by unfold bud; simp only [List.length_append,List.length_singleton]; omega
     omega
    rw [r1,Option.bind_some,r2,Option.bind_some]
    obtain ⟨wc,s1,s2⟩:=zaX8 r3 (by omega)
    show ∃ g',(zl3 wb).bind _=_∧_
    rw [s1,Option.bind_some]
    obtain ⟨v2,e3,e4⟩:=zbS8 s2.good.len
    rw [e3,Option.bind_some]
    refine ⟨_,rfl,⟨s2.good.ev _ _,?_,e4⟩,?_⟩
    ·have:=s2.bud
     show bud wc≤_
     omega
    ·have:=s2.cnt
     show cntW wc.c.procs < cntW w1.c.procs
     exact Nat.lt_of_le_of_lt this r5) (v,⟨⟨IntKind.i64.wrap (w.c.now+n),w.c.queues,w.c.procs⟩,w.ev⟩) ⟨g1,hb,e2⟩
 show ∃ r,(zc0 _ (v,_)).bind _=some r
 rw [h1]
 exact ⟨_,rfl⟩
theorem zde0 (p:Proc) (cost:Int) {w:work} (hl:w.c.procs.length≤8):∃ r,zg6 p cost w=some r:=by
 unfold zg6
 split
 ·exact ⟨_,rfl⟩
 obtain ⟨v,h1,_⟩:=zaL9 w.c.procs p (by omega)
 rw [h1,Option.bind_some]
 split
 ·exact ⟨_,rfl⟩
 split
 ·exact ⟨_,rfl⟩
 rw [gdp (by omega)]
 obtain ⟨x,h2,_⟩:=zr8 (body:=zT0) (fun g=>0≤g.1∧g.1 < (g.2.length:Int)∧g.2.length≤100) (fun g=>g.1.toNat) (fun _=>True) (fun g ⟨h0,h1,h2⟩=>by
  obtain ⟨i,l⟩:=g
  simp only at h0 h1 h2
  unfold zT0
  by_cases c:0 < i
  ·have e:IntKind.i64.wrap (i - 1)=i - 1:=zf6 (by omega) (by omega)
   simp only [c,decide_true,e,Bool.true_and]
   rw [gdp (by intro; omega),gdp (by intro; omega)]
   split
   ·left
    rw [gdp ⟨h0,h1⟩,gdp (by omega),gdp ⟨h0,h1⟩,gdp (by omega)]
    exact ⟨_,rfl,⟨by simp only; omega,by simp only [List.length_set]; omega,by simp only [List.length_set]; exact h2⟩,by simp only; omega⟩
   ·exact .inr ⟨_,rfl,trivial⟩
  ·simp only [c,decide_false,Bool.false_and,Bool.false_eq_true,if_false]
   rw [gdp (by intro h; cases h),gdp (by intro h; cases h)]
   exact .inr ⟨_,rfl,trivial⟩) (IntKind.i64.wrap (((w.c.procs.length+1:Nat):Int) - 1),w.c.procs++[{ Proce.zero with proc:=p,cost:=cost }])
  ⟨by simp only; rw [zf6 (by omega) (by omega)]; omega,by simp only [List.length_append,List.length_singleton]; rw [zf6 (by omega) (by omega)]; omega,by simp only [List.length_append,List.length_singleton]; omega⟩
 rw [h2,Option.bind_some]
 exact ⟨_,rfl⟩
theorem Good.other {w:work} (g:Good w) {i j:Nat} (hi:i < w.c.procs.length) (hj:j < w.c.procs.length) (h:i≠j):(w.c.procs.getD j Proce.zero).proc≠(w.c.procs.getD i Proce.zero).proc:=by
 intro e
 have hn:=List.pairwise_iff_getElem.1 g.nd
 have gg:∀ k,(hk:k < w.c.procs.length)→(w.c.procs.map (·.proc))[k]'(by simpa using hk)=(w.c.procs.getD k Proce.zero).proc:=fun k hk=>by
  rw [List.getElem_map,List.getD_eq_getElem?_getD,List.getElem?_eq_getElem hk]; rfl
 rcases Nat.lt_or_ge i j with c|c
 ·exact hn i j (by simpa using hi) (by simpa using hj) c (by rw [gg i hi,gg j hj,e])
 ·exact hn j i (by simpa using hj) (by simpa using hi) (by omega) (by rw [gg i hi,gg j hj,e])
theorem zde1 {t:List Queue} (h:ValidT t) (p:Proc):Kept p t (remT t p).1:=by
 have hv:=zcB1 h p
 rw [zci1 h] at hv ⊢
 have gm:∀ i,i < t.length→(t.map (remN · p)).getD i Queue.zero=remN (t.getD i Queue.zero) p:=fun i hi=>by
  rw [List.getD_eq_getElem?_getD,List.getElem?_map,List.getD_eq_getElem?_getD,List.getElem?_eq_getElem hi]; rfl
 refine ⟨hv,by simp,fun i hi=>?_,fun i hi x hx=>?_⟩
 ·show ((t.map (remN · p)).getD i Queue.zero).resource=_
  rw [gm i hi]; exact zbS3 (h.each _ (zj8 hi)) p
 ·show covA _ (getH ((t.map (remN · p)).getD i Queue.zero).holds x) _=true
  rw [gm i hi]; exact (zbD0 (h.each _ (zj8 hi)) hx).1
theorem zcs5 {i:Nat} {w:work} (g:Good w) (hi:i < w.c.procs.length) (hb:bud w≤400000):∃ r,zE8 (i:Int) w=some r:=by
 unfold zE8
 have hev:w.ev.length≤400000:=by unfold bud at hb; omega
 have hl:=g.len
 have hre:=zdn2 g.v (w.c.procs.getD i Proce.zero).proc
 rw [gdp (by omega),zbF7,Option.bind_some]
 simp only [Int.toNat_natCast]
 rw [zaX6 _ _ _ (by omega),Option.bind_some]
 have e1:IntKind.i64.wrap ((i:Int)+1)=((i+1:Nat):Int):=zc4 i (by omega)
 simp only [e1,Int.toNat_natCast]
 rw [gdp ⟨by omega,by omega,by omega,trivial⟩,gdp (by omega),gdp (by simp only [List.length_take,List.length_drop]; omega)]
 rw [zaX7 _ _ (by show (w.ev++_).length≤_; rw [List.length_append]; omega),Option.bind_some]
 have hsub:(w.c.procs.take i++(w.c.procs.drop (i+1)).take (w.c.procs.length - (i+1))).Sublist w.c.procs:=by
  have e:w.c.procs=w.c.procs.take i++w.c.procs.drop i:=(List.take_append_drop _ _).symm
  conv=>rhs; rw [e]
  refine (List.Sublist.refl _).append ((List.take_sublist _ _).trans ?_)
  rw [show w.c.procs.drop (i+1)=(w.c.procs.drop i).drop 1 by rw [List.drop_drop]]
  exact List.drop_sublist _ _
 have k:=zde1 g.v (w.c.procs.getD i Proce.zero).proc
 have hmem:∀ y ∈ w.c.procs.take i++(w.c.procs.drop (i+1)).take (w.c.procs.length - (i+1)),∃ j,j < w.c.procs.length∧i≠j∧w.c.procs.getD j Proce.zero=y:=fun y hy=>by
  rcases List.mem_append.1 hy with hy|hy
  ·obtain ⟨j,hj,e⟩:=zQ4 (z:=Proce.zero) hy
   rw [List.length_take] at hj
   refine ⟨j,by omega,by omega,?_⟩
   rw [← e,zca0 _ _ _ _ (by omega)]
  ·obtain ⟨j,hj,e⟩:=zQ4 (z:=Proce.zero) (List.mem_of_mem_take hy)
   rw [List.length_drop] at hj
   refine ⟨i+1+j,by omega,by omega,?_⟩
   rw [← e,List.getD_eq_getElem?_getD,List.getD_eq_getElem?_getD,List.getElem?_drop]
 have g':Good ⟨⟨w.c.now,(remT w.c.queues (w.c.procs.getD i Proce.zero).proc).1,w.c.procs.take i++(w.c.procs.drop (i+1)).take (w.c.procs.length - (i+1))⟩,(w.ev++(remT w.c.queues (w.c.procs.getD i Proce.zero).proc).2)++[{ Event.zero with kind:=5,proc:=(w.c.procs.getD i Proce.zero).proc }]⟩:=by
  refine ⟨k.v,Nat.le_trans hsub.length_le hl,g.nd.sublist (hsub.map _),fun y hy hw=>?_⟩
  obtain ⟨j,hj,hij,rfl⟩:=hmem y hy
  exact (g.ok _ (zj8 hj) hw).kept k (g.other hi hj hij)
 have hc:cntW (w.c.procs.take i++(w.c.procs.drop (i+1)).take (w.c.procs.length - (i+1)))≤cntW w.c.procs:=hsub.countP_le
 obtain ⟨w',h1,_⟩:=zaX8 g' (by unfold bud at hb ⊢; simp only [List.length_append,List.length_singleton]; omega)
 exact ⟨w',by show (zl3 _).bind _=_; rw [h1]; rfl⟩
theorem zcP4 {q:Queue} {p:Proc} {a:Amount} {pr:Int} (e0:(zW2 q p a pr).2.2=0) (x:Proc):covA q.resource (getH (zW2 q p a pr).1.holds x) (getH q.holds x)=true:=by
 obtain ⟨hs,_,_,_,_,h⟩:=zbi2 e0
 rcases h with ⟨_,e⟩|⟨_,_,e,h2⟩|⟨_,_,_,e,h2⟩
 ·rw [e]; exact zan6 (zat7 hs.hv x)
 ·rw [e,zK4]; exact zaK8 h2 x
 ·rw [e,zK4]; exact zaK8 h2 x
theorem zde2 {t:List Queue} {nm:ByteArray} {f:Queue→ResT} (hf:∀ q,(f q).2.2≠0→(f q).1=[]∧(f q).2.1=[]) (h:(atT t nm f).2.2≠0):(atT t nm f).1=[]∧(atT t nm f).2.1=[]:=by
 unfold atT at h ⊢
 split
 ·exact ⟨rfl,rfl⟩
 ·rename_i c1
  rw [if_neg c1] at h
  split
  ·exact ⟨rfl,rfl⟩
  ·rename_i c2
   rw [if_neg c2] at h
   exact hf _ h
theorem zcI0 {t:List Queue} {nm:ByteArray} {x:Queue×List Hold×Int} {ev:List Event} (h:(putT t nm x ev).2.2≠0):(putT t nm x ev).1=[]∧(putT t nm x ev).2.1=[]:=by
 unfold putT at h ⊢
 split
 ·rename_i c; rw [if_pos c] at h; exact absurd rfl h
 ·exact ⟨rfl,rfl⟩
theorem zcP5 {t:List Queue} (h:ValidT t) (p:Proc) (a:Atom) (pr:Int):(zaA6 t p a pr).2.1.length≤20∧((zaA6 t p a pr).1=[]∨∀ p',Kept p' t (zaA6 t p a pr).1):=by
 by_cases e:(zaA6 t p a pr).2.2=0
 ·obtain ⟨i,hi,h1,h2,h3,h4,h5,h6⟩:=zcO7 e
  have hq:=h.each _ (zj8 (z:=Queue.zero) hi)
  have hs:=zag7 hq (.claim p a.amount pr h3)
  refine ⟨?_,.inr fun p'=>by rw [h4] at h6 ⊢; exact zbu6 h hi h6 hs.2 fun x _=>zcP4 h3 x⟩
  unfold zaA6 at e ⊢
  obtain ⟨_,i',_,_,_,e2⟩:=zcr7 e
  rw [e2] at e ⊢
  cases hfu:zba3 t p with
  | true=>rw [hfu,if_pos rfl] at e; exact absurd e (by decide)
  | false =>
   rw [hfu,if_neg (by decide)] at e
   rw [if_neg (by decide),(zbS4 e).2]
   have:=(zbt1 (t.getD i' Queue.zero) p a.amount pr).2.2.2
   show ([]++zaj0 _ _).length≤20
   rw [List.nil_append,zat9]; omega
 ·have:=zde2 (t:=t) (nm:=a.name) (f:=fun q=>if zba3 t p=true then errT 4 else putT t a.name (zW2 q p a.amount pr) []) (fun q hq=>by
   cases hfu:zba3 t p with
   | true=>exact ⟨rfl,rfl⟩
   | false=>rw [hfu,if_neg (by decide)] at hq; rw [if_neg (by decide)]; exact zcI0 hq) e
  exact ⟨by rw [show (zaA6 t p a pr).2.1=[] from this.2]; simp,.inl this.1⟩
theorem zcP6 {t:List Queue} (h:ValidT t) (p:Proc) (a:Atom):(zaa9 t p a).2.1.length≤20∧((zaa9 t p a).1=[]∨Kept p t (zaa9 t p a).1):=by
 by_cases e:(zaa9 t p a).2.2=0
 ·obtain ⟨e0,hev⟩:(∃ i:Nat,i < t.length∧(zC8 (t.getD i Queue.zero) p a.amount).2.2=0∧(zaa9 t p a).1=t.set i (zC8 (t.getD i Queue.zero) p a.amount).1)∧(zaa9 t p a).2.1.length≤20:=by
   unfold zaa9 at e ⊢
   obtain ⟨_,i,h1,h2,h3,e2⟩:=zcr7 e
   rw [e2] at e ⊢
   obtain ⟨e3,e4⟩:=zbS4 e
   rw [e4,h1,zaT8]
   refine ⟨⟨i,h2,e3,rfl⟩,?_⟩
   have:=(zaW5 (t.getD i Queue.zero) p a.amount).2.2.2
   show ((if getH (t.getD i Queue.zero).holds p=a.amount then ([]:List Event) else [zbS0 p a.name a.amount])++zaj0 _ _).length≤20
   rw [List.length_append,zat9]
   have:(if getH (t.getD i Queue.zero).holds p=a.amount then ([]:List Event) else [zbS0 p a.name a.amount]).length≤1:=by split <;> simp
   omega
  obtain ⟨i,hi,h3,h4⟩:=e0
  obtain ⟨_,_,_,_,hv⟩:=zcb7 e
  have hq:=h.each _ (zj8 (z:=Queue.zero) hi)
  have hs:=zag7 hq (.lower p a.amount h3)
  obtain ⟨_,_,hz,hw,hc,_⟩:=zaH8 h3
  have he:=zcb9 hq hz hw hc
  exact ⟨hev,.inr (by rw [h4] at hv ⊢; exact zbu6 h hi hv hs.2 he.2.1)⟩
 ·have:=zde2 (t:=t) (nm:=a.name) (f:=fun q=>putT t a.name (zC8 q p a.amount) (if getH q.holds p=a.amount then [] else [zbS0 p a.name a.amount])) (fun q hq=>zcI0 hq) e
  exact ⟨by rw [show (zaa9 t p a).2.1=[] from this.2]; simp,.inl this.1⟩
end Ab
end Go.Proofs.YtcggeefhhegeoaaGreatDoor
