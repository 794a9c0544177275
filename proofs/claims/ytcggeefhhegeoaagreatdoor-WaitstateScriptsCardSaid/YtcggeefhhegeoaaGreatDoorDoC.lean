import Derived.Test.YtcggeefhhegeoaaGreatDoorTabC
namespace Go.Proofs.YtcggeefhhegeoaaGreatDoor
namespace Ab
set_option linter.unusedVariables false
set_option linter.unusedSimpArgs false
def ascR:List Resource→Option ByteArray→Bool
 | [],_=>true
 | r :: l,pv=>resV r&&((match pv with|none=>true|some n=>decide (ltN n r.name))&&ascR l (some r.name))
theorem zcr5:∀ (l:List Resource) (pv:Option ByteArray),ascR l pv=true ↔ (∀ r ∈ l,resV r=true)∧l.Pairwise (fun a b=>ltN a.name b.name)∧∀ n,pv=some n→∀ r ∈ l,ltN n r.name
 | [],pv=>by
  simp only [ascR,List.not_mem_nil,false_implies,implies_true,and_true,true_and,true_iff]
  exact .nil
 | q :: t,pv=>by
  simp only [ascR,Bool.and_eq_true]
  rw [zcr5 t (some q.name)]
  constructor
  ·rintro ⟨h1,h2,h3,h4,h5⟩
   refine ⟨fun x hx=>?_,List.pairwise_cons.2 ⟨fun x hx=>h5 _ rfl x hx,h4⟩,fun n hn x hx=>?_⟩
   ·rcases List.mem_cons.1 hx with rfl|hx
    ·exact h1
    ·exact h3 x hx
   ·subst hn
    simp only [decide_eq_true_eq] at h2
    rcases List.mem_cons.1 hx with rfl|hx
    ·exact h2
    ·exact zca7 h2 (h5 _ rfl x hx)
  ·rintro ⟨h1,h2,h3⟩
   have h2':=List.pairwise_cons.1 h2
   refine ⟨h1 q (.head _),?_,fun x hx=>h1 x (.tail _ hx),h2'.2,fun n hn x hx=>by cases hn; exact h2'.1 x hx⟩
   cases pv with
   | none=>rfl
   | some n=>exact decide_eq_true (h3 n rfl q (.head _))
def catV (l:List Resource):Bool:=decide (l.length≤8)&&ascR l none
theorem zdd3 (l:List Resource):catV l=true ↔ l.length≤8∧(∀ r ∈ l,resV r=true)∧l.Pairwise (fun a b=>ltN a.name b.name):=by
 unfold catV
 rw [Bool.and_eq_true,decide_eq_true_eq,zcr5]
 simp
theorem zcO4 (t0:List Resource):∀ (t prev:List Resource),t0=prev++t →
  walk (fun i q (_:Unit)=>some (if resV q=true∧(i=0∨ltN (t0.getD (i - 1) Resource.zero).name q.name) then Sum.inl () else Sum.inr (Sum.inr (α:=Unit) false))) (fun _=>Sum.inl (β:=Bool) ()) t prev.length () =
   some (if ascR t (prev.getLast?.map (·.name))=true then .inl () else .inr false):=by
 intro t
 induction t with
 | nil=>intro prev _; simp [walk,ascR]
 | cons q t ih =>
  intro prev ht
  simp only [walk]
  have hq:(prev.length=0∨ltN (t0.getD (prev.length - 1) Resource.zero).name q.name) ↔ (match prev.getLast?.map (·.name) with|none=>true|some n=>decide (ltN n q.name))=true:=by
   by_cases hp:prev=[]
   ·subst hp; simp
   ·have h1:=zca8 prev (q :: t) Resource.zero hp
    rw [ht,h1,List.getLast?_eq_some_getLast hp]
    have:prev.length≠0:=fun e=>hp (List.eq_nil_of_length_eq_zero e)
    simp [this]
  by_cases e:resV q=true∧(prev.length=0∨ltN (t0.getD (prev.length - 1) Resource.zero).name q.name)
  ·rw [if_pos e]
   have:=ih (prev++[q]) (by rw [ht]; simp)
   rw [show (prev++[q]).length=prev.length+1 by simp] at this
   simp only
   have h2:ascR (q :: t) (prev.getLast?.map (·.name))=ascR t (some q.name):=by simp only [ascR,e.1,hq.1 e.2,Bool.true_and]
   rw [this,h2]
   simp
  ·rw [if_neg e]
   rw [hq] at e
   have hf:ascR (q :: t) (prev.getLast?.map (·.name))=false:=by
    rw [Bool.eq_false_iff]
    intro hh
    simp only [ascR,Bool.and_eq_true] at hh
    exact e ⟨hh.1,hh.2.1⟩
   rw [hf]; rfl
theorem zdd4 {body:Int→Option (Int⊕(Unit⊕Bool))} (t:List Resource) (hl:t.length≤8)
  (hb:∀ i:Nat,i < t.length→body (i:Int)=some (if resV (t.getD i Resource.zero)=true∧(i=0∨ltN (t.getD (i - 1) Resource.zero).name (t.getD i Resource.zero).name) then .inl ((i+1:Nat):Int) else .inr (.inr false)))
  (he:body (t.length:Int)=some (.inr (.inl ()))):zc0 body 0=some (if ascR t none=true then .inl () else .inr false):=by
 have key:=zak3 (body:=body) t Resource.zero (fun i (_:Unit)=>(i:Int)) (fun i q _=>some (if resV q=true∧(i=0∨ltN (t.getD (i - 1) Resource.zero).name q.name) then Sum.inl () else Sum.inr (Sum.inr (α:=Unit) false))) (fun _=>Sum.inl (β:=Bool) ())
  (fun i s hi=>by
   rw [hb i hi,Option.map_some]
   split <;> rfl) (fun s=>he) ()
 have:=zcO4 t t [] rfl
 rw [show (0:Int)=(fun (i:Nat) (_:Unit)=>(i:Int)) 0 () from rfl,key]
 exact this
theorem zbg5 (t:List Resource):zt7 t=some (catV t):=by
 unfold zt7 catV
 by_cases h8:8 < t.length
 ·have:¬ t.length≤8:=by omega
  rw [if_pos (by simp; omega)]
  simp [this]
 ·have hl:t.length≤8:=by omega
  rw [if_neg (by simp; omega),zdd4 t hl (fun i hi=>by
   unfold zam5
   have h3:0≤(i:Int)∧(i:Int) < (t.length:Int):=by omega
   simp only [h3.1,h3.2,and_self,implies_true,zm3,decide_true,if_true,Int.toNat_natCast,zbs3,Option.bind_some,zc4 i (by omega)]
   by_cases e0:i=0
   ·subst e0
    rw [zg7 (by simp)]
    cases resV (t.getD 0 Resource.zero) <;> simp
   ·rw [zaz5 i (by omega) (by omega),zg7 (by intro _; omega)]
    simp only [Int.toNat_natCast,show (0:Int) < (i:Int) by omega,decide_true,Bool.true_and,e0,false_or]
    unfold ltN
    rcases hb (resV (t.getD i Resource.zero)) with b1|b1 <;> rcases hb (Op.bytesLess (t.getD (i - 1) Resource.zero).name.toList (t.getD i Resource.zero).name.toList) with b2|b2 <;> simp [b1,b2,-List.getD_eq_getElem?_getD]) (by unfold zam5; simp)]
  simp only [hl,decide_true,Bool.true_and]
  cases hw:ascR t none <;> rfl
def newT (l:List Resource):List Queue×Int:=if catV l=true then (l.map zdc3,0) else ([],1)
theorem zci0 (l:List Resource):zL1 l=some (newT l):=by
 unfold zL1 newT
 rw [zbg5,Option.bind_some]
 cases h:catV l with
 | false=>rfl
 | true =>
  have hl:=((zdd3 l).1 h).1
  rw [ifNT,zaE6 l Resource.zero zdc3 [] (by omega) (by simp) (fun i s hi hs=>by
   unfold zaw8
   have h3:0≤(i:Int)∧(i:Int) < (l.length:Int):=by omega
   have h1:s.length+1≤4294967296:=by omega
   simp only [h1,h3.1,h3.2,and_self,zm3,decide_true,if_true,Int.toNat_natCast,zc4 i (show i < 4611686018427387904 by omega)]
   rfl) (fun s=>by unfold zaw8; simp)]
  rfl
theorem zaB8 {α:Type} (l:List α) (i:Nat) (z:α) (h:i < l.length):l.set i (l.getD i z)=l:=by
 rw [List.getD_eq_getElem?_getD,List.getElem?_eq_getElem h,Option.getD_some,List.set_getElem_self]
theorem zdd5 {body:Int×List Queue×List Event→Option ((Int×List Queue×List Event)⊕(List Queue×List Event))} (t:List Queue) (f:Queue→Queue) (e:Queue→List Event) (hl:t.length≤1000) (he:∀ q ∈ t,(e q).length≤100)
  (hb:∀ (i:Nat) (s:List Queue) (ev:List Event),i < t.length→s.length=t.length→s.getD i Queue.zero=t.getD i Queue.zero→ev.length≤100000→body ((i:Int),s,ev)=some (.inl (((i+1:Nat):Int),s.set i (f (t.getD i Queue.zero)),ev++e (t.getD i Queue.zero))))
  (hend:∀ (s:List Queue) (ev:List Event),s.length=t.length→body ((t.length:Int),s,ev)=some (.inr (s,ev))):zc0 body (0,t,[])=some (t.map f,t.flatMap e):=by
 have hev:∀ i,i≤t.length→((t.take i).flatMap e).length≤100 * i:=by
  intro i
  induction i with
  | zero=>intro _; simp
  | succ i ih =>
   intro hi
   rw [zca5 (z:=Queue.zero) (by omega),List.flatMap_append,List.length_append]
   have:=ih (by omega)
   have h2:=he _ (zj8 (z:=Queue.zero) (show i < t.length by omega))
   simp only [List.flatMap_cons,List.flatMap_nil,List.append_nil]
   omega
 obtain ⟨x,hx,hp⟩:=zr8 (body:=body) (fun g=>∃ i:Nat,i≤t.length∧g=((i:Int),(t.take i).map f++t.drop i,(t.take i).flatMap e)) (fun g=>t.length - g.1.toNat) (fun x=>x=(t.map f,t.flatMap e)) (by
  rintro g ⟨i,hi,rfl⟩
  have hsl:((t.take i).map f++t.drop i).length=t.length:=by rw [List.length_append,List.length_map,List.length_take,List.length_drop]; omega
  by_cases hlt:i < t.length
  ·left
   have hml:((t.take i).map f).length=i:=by rw [List.length_map,List.length_take]; omega
   have hd:t.drop i=t.getD i Queue.zero :: t.drop (i+1):=by rw [List.drop_eq_getElem_cons hlt,List.getD_eq_getElem?_getD,List.getElem?_eq_getElem hlt]; rfl
   have hg:((t.take i).map f++t.drop i).getD i Queue.zero=t.getD i Queue.zero:=by
    rw [List.getD_eq_getElem?_getD,List.getElem?_append_right (by omega),hml,Nat.sub_self,hd]; rfl
   refine ⟨_,hb i _ _ hlt hsl hg (by have:=hev i hi; omega),⟨i+1,by omega,?_⟩,by simp only [Int.toNat_natCast]; omega⟩
   rw [zca5 (z:=Queue.zero) hlt,List.map_append,List.flatMap_append]
   congr 2
   ·rw [List.set_append_right _ _ (by omega),hml,Nat.sub_self,hd]
    simp
   ·simp
  ·right
   have:i=t.length:=by omega
   subst this
   refine ⟨_,hend _ _ hsl,?_⟩
   simp) (0,t,[]) ⟨0,by omega,by simp⟩
 rw [hx,hp]
def remE (p:Proc) (q:Queue):List Event:=if (zG4 q p).2.2=0 then (if getH q.holds p=Amount.zero then [] else [zbS0 p q.resource.name Amount.zero])++zaj0 q.resource.name (zG4 q p).2.1 else []
def remT (t:List Queue) (p:Proc):List Queue×List Event:=if zaF8 t=true then (t.map (remN · p),t.flatMap (remE p)) else ([],[])
theorem zat9 (nm:ByteArray) (l:List Hold):(zaj0 nm l).length=l.length:=by unfold zaj0; rw [List.length_map]
theorem zcr6 (p:Proc) (q:Queue):(remE p q).length≤17:=by
 unfold remE
 have:=(zbl7 q p).2.2.2
 split
 ·rw [List.length_append,zat9]
  split <;> simp <;> omega
 ·simp
theorem zbS3 {q:Queue} (h:zk0 q=true) (p:Proc):(remN q p).resource=q.resource :=
 (zbD0 h (p:=p) (x:={ p with num:=p.num+1 }) fun e=>by
  have h1:p.num+1=p.num:=congrArg Proc.num e
  omega).2
theorem zbF7 (t:List Queue) (p:Proc):zQ0 t p=some (remT t p):=by
 unfold zQ0 remT
 rw [zal1,Option.bind_some]
 cases hv:zaF8 t with
 | false=>rfl
 | true =>
  have h:=(zag5 t).1 hv
  have hl:=h.len
  rw [ifNT,if_pos rfl,zg7 (by omega),zdd5 t (remN · p) (remE p) (by omega) (fun q _=>by have:=zcr6 p q; omega) (fun i s ev hi hs hg hev=>by
   have hq:=h.each _ (zj8 (z:=Queue.zero) hi)
   have hql:=zag4 hq
   have hsh:=(zbl7 (t.getD i Queue.zero) p).2.2.2
   have h4:0≤(i:Int)∧(i:Int) < ((s.length:Nat):Int):=by omega
   have hn:=zbS3 hq p
   unfold zZ8
   simp only [Int.toNat_natCast,hg]
   rw [if_pos (decide_eq_true h4.2),zg7 h4,zbt0 _ _ (by omega) (by omega) (by omega),Option.bind_some]
   cases hp:hasQ (t.getD i Queue.zero) p with
   | false =>
    have e:=zaP8 hq hp
    have e1:(zG4 (t.getD i Queue.zero) p).2.2≠0:=by rw [e]; decide
    unfold remE remN
    rw [if_neg e1,if_neg e1,if_pos (show (!false)=true from rfl),zc4 i (by omega),List.append_nil,← hg,zaB8 _ _ _ (by omega)]
   | true =>
    have e:=zcq2 hq hp
    rw [ifNT,zg7 h4,zG0 _ _ (by omega),Option.bind_some]
    have hz:zm0 (getH (t.getD i Queue.zero).holds p)=decide (getH (t.getD i Queue.zero).holds p=Amount.zero):=rfl
    rw [hz]
    unfold remE
    rw [if_pos e.1]
    have k2:∀ ev':List Event,ev'.length≤1000000→zZ7 p ((i:Int),s,ev) ev'=some (.inl (((i+1:Nat):Int),s.set i (remN (t.getD i Queue.zero) p),ev'++zaj0 (t.getD i Queue.zero).resource.name (zG4 (t.getD i Queue.zero) p).2.1)):=fun ev' hev'=>by
     unfold zZ7
     simp only [Int.toNat_natCast,hg]
     rw [zg7 h4,zbF5,Option.bind_some,zg7 h4,e.2,hn,zaB7 _ _ (by omega),Option.bind_some,zg7 (by rw [zat9]; omega),zc4 i (by omega)]
    by_cases e2:getH (t.getD i Queue.zero).holds p=Amount.zero
    ·rw [if_neg (nd0 e2),if_pos e2,k2 _ (by omega),List.nil_append]
    ·rw [if_pos (nd1 e2),if_neg e2,zg7 h4,zg7 (by omega),k2 _ (by simp; omega),List.append_assoc]
     rfl) (fun s ev hs=>by
   unfold zZ8
   simp only
   rw [if_neg (by rw [decide_eq_true_eq,hs]; omega)])]
  rfl
theorem zas3 {t:List Queue} (h:∀ q ∈ t,zk0 q=true) {p:Proc}:p ∈ zC2 t ↔ ∃ q ∈ t,hasQ q p=true:=by
 unfold zC2
 rw [zaA1,List.mem_flatMap]
 constructor
 ·rintro ⟨q,hq,hp⟩; exact ⟨q,hq,(zbP5 ((zx5 q).1 (h q hq)).1).1 hp⟩
 ·rintro ⟨q,hq,hp⟩; exact ⟨q,hq,(zbP5 ((zx5 q).1 (h q hq)).1).2 hp⟩
theorem zaX4 (t:List Queue):(zC2 t).Nodup:=zaT3 (zaT2 _)
theorem ValidT.map {t:List Queue} (h:ValidT t) (f:Queue→Queue) (h1:∀ q ∈ t,zk0 (f q)=true) (h2:∀ q ∈ t,(f q).resource=q.resource) (h3:∀ q ∈ t,∀ p,hasQ (f q) p=true→hasQ q p=true):ValidT (t.map f):=by
 have he:∀ q ∈ t.map f,zk0 q=true:=fun q hq=>by
  obtain ⟨x,hx,rfl⟩:=List.mem_map.1 hq
  exact h1 x hx
 refine ⟨by rw [List.length_map]; exact h.len,he,?_,?_⟩
 ·have:=h.asc
  unfold AscN at *
  rw [List.pairwise_map]
  exact this.imp_of_mem fun {a b} ha hb hab=>by rw [h2 a ha,h2 b hb]; exact hab
 ·refine Nat.le_trans (List.Nodup.length_le_of_subset (zaX4 _) fun x hx=>?_) h.procs
  obtain ⟨q,hq,hp⟩:=(zas3 he).1 hx
  obtain ⟨y,hy,rfl⟩:=List.mem_map.1 hq
  exact (zas3 h.each).2 ⟨y,hy,h3 y hy x hp⟩
theorem zci1 {t:List Queue} (h:ValidT t) (p:Proc):remT t p=(t.map (remN · p),t.flatMap (remE p)):=by
 unfold remT; rw [if_pos ((zag5 t).2 h)]
theorem zcB1 {t:List Queue} (h:ValidT t) (p:Proc):ValidT (remT t p).1:=by
 rw [zci1 h]
 exact h.map _ (fun q hq=>zcg8 (h.each q hq) p) (fun q hq=>zbS3 (h.each q hq) p) fun q hq x hx=>((zdc0 (h.each q hq) p x).1 hx).1
theorem zdn2 {t:List Queue} (h:ValidT t) (p:Proc):(remT t p).2.length≤136:=by
 rw [zci1 h]
 have:∀ l:List Queue,(l.flatMap (remE p)).length≤17 * l.length:=by
  intro l
  induction l with
  | nil=>simp
  | cons q l ih=>rw [List.flatMap_cons,List.length_append,List.length_cons]; have:=zcr6 p q; omega
 have h1:=this t
 have h2:=h.len
 show (t.flatMap (remE p)).length≤136
 omega
inductive StepQ (q:Queue):Queue→Prop where
 | same:StepQ q q
 | claim (p:Proc) (a:Amount) (pr:Int) (h:(zW2 q p a pr).2.2=0):StepQ q (zW2 q p a pr).1
 | cancel (p:Proc) (h:(zF1 q p).2.2=0):StepQ q (zF1 q p).1
 | lower (p:Proc) (a:Amount) (h:(zC8 q p a).2.2=0):StepQ q (zC8 q p a).1
 | remove (p:Proc) (h:(zG4 q p).2.2=0):StepQ q (zG4 q p).1
theorem zag7 {q x:Queue} (h:zk0 q=true) (hx:StepQ q x):zk0 x=true∧x.resource=q.resource:=by
 have hr:∀ y:Queue,(zK3 y).1.resource=y.resource:=fun y=>(zcG4 y).2
 cases hx with
 | same=>exact ⟨h,rfl⟩
 | claim p a pr h0 =>
  obtain ⟨_,_,_,_,_,hh⟩:=zbi2 h0
  rcases hh with ⟨_,e⟩|⟨_,_,e,hs⟩|⟨_,_,_,e,hs⟩
  ·rw [e]; exact ⟨h,rfl⟩
  ·rw [e,hr]; exact ⟨zY6 hs,rfl⟩
  ·rw [e,hr]; exact ⟨zY6 hs,rfl⟩
 | cancel p h0=>obtain ⟨_,_,_,e,hs⟩:=zaK7 h0; rw [e,hr]; exact ⟨zY6 hs,rfl⟩
 | lower p a h0 =>
  obtain ⟨_,_,_,_,_,hh⟩:=zaH8 h0
  rcases hh with ⟨_,e⟩|⟨_,e,hs⟩
  ·rw [e]; exact ⟨h,rfl⟩
  ·rw [e,hr]; exact ⟨zY6 hs,rfl⟩
 | remove p h0=>obtain ⟨_,_,_,e,hs⟩:=zbo4 h0; rw [e,hr]; exact ⟨zY6 hs,rfl⟩
theorem zaO5 (q:Queue) (x:Proc):hasQ (zK3 q).1 x=hasQ q x:=by rw [zK4,zcG6,zcG5]
theorem zcO5 {q:Queue} {p:Proc} {a:Amount} {pr:Int} (h:(zW2 q p a pr).2.2=0) {x:Proc} (hx:hasQ (zW2 q p a pr).1 x=true):hasQ q x=true∨x=p:=by
 obtain ⟨_,_,_,_,_,hh⟩:=zbi2 h
 rcases hh with ⟨_,e⟩|⟨_,_,e,_⟩|⟨_,_,_,e,_⟩
 ·rw [e] at hx; exact .inl hx
 ·rw [e,zaO5,zE4] at hx
  rcases hx with ⟨w,hw,ew⟩|hx
  ·unfold ordQ claimC at hw
   simp only [List.mem_append,List.mem_singleton] at hw
   rcases hw with (hw|hw)|hw
   ·exact .inl ((zE4 q x).2 (.inl ⟨w,List.mem_append_left _ hw,ew⟩))
   ·rw [hw] at ew; exact .inr ew.symm
   ·exact .inl ((zE4 q x).2 (.inl ⟨w,List.mem_append_right _ hw,ew⟩))
  ·exact .inl ((zE4 q x).2 (.inr hx))
 ·rw [e,zaO5,zE4] at hx
  rcases hx with ⟨w,hw,ew⟩|hx
  ·unfold ordQ claimW zbe6 at hw
   simp only [List.mem_append,List.mem_cons,List.mem_map] at hw
   rcases hw with hw|hw|hw|⟨y,hy,rfl⟩
   ·exact .inl ((zE4 q x).2 (.inl ⟨w,List.mem_append_left _ hw,ew⟩))
   ·exact .inl ((zE4 q x).2 (.inl ⟨w,List.mem_append_right _ (List.mem_of_mem_take hw),ew⟩))
   ·rw [hw] at ew; exact .inr ew.symm
   ·exact .inl ((zE4 q x).2 (.inl ⟨y,List.mem_append_right _ (List.mem_of_mem_drop hy),ew⟩))
  ·exact .inl ((zE4 q x).2 (.inr hx))
theorem zcB2 {q:Queue} {p:Proc} (h:(zF1 q p).2.2=0) {x:Proc} (hx:hasQ (zF1 q p).1 x=true):hasQ q x=true:=by
 obtain ⟨_,_,_,e,_⟩:=zaK7 h
 rw [e,zaO5,zE4] at hx
 rcases hx with ⟨w,hw,ew⟩|hx
 ·unfold ordQ zaB6 at hw
  simp only [List.mem_append,zaW4] at hw
  rcases hw with hw|hw
  ·exact (zE4 q x).2 (.inl ⟨w,List.mem_append_left _ hw.1,ew⟩)
  ·exact (zE4 q x).2 (.inl ⟨w,List.mem_append_right _ hw.1,ew⟩)
 ·exact (zE4 q x).2 (.inr hx)
theorem zcO6 {q:Queue} {p:Proc} {a:Amount} (h:(zC8 q p a).2.2=0) {x:Proc} (hx:hasQ (zC8 q p a).1 x=true):hasQ q x=true:=by
 obtain ⟨_,_,hp,_,_,hh⟩:=zaH8 h
 rcases hh with ⟨_,e⟩|⟨_,e,_⟩
 ·rw [e] at hx; exact hx
 ·rw [e,zaO5,zE4] at hx
  rcases hx with hx|hx
  ·exact (zE4 q x).2 (.inl hx)
  ·refine (zE4 q x).2 (.inr ?_)
   by_cases e:x=p
   ·rw [e]; exact hp
   ·unfold zaF7 at hx
    rwa [zP0 e] at hx
theorem ValidT.set {t:List Queue} (h:ValidT t) {i:Nat} (hi:i < t.length) {q:Queue} (p:Proc) (h1:zk0 q=true) (h2:q.resource=(t.getD i Queue.zero).resource) (h3:∀ x,hasQ q x=true→x ∈ zC2 t∨x=p)
  (h4:zba3 t p=false):ValidT (t.set i q):=by
 have he:∀ y ∈ t.set i q,zk0 y=true:=fun y hy=>by
  rcases List.mem_or_eq_of_mem_set hy with hy|rfl
  ·exact h.each y hy
  ·exact h1
 refine ⟨by rw [List.length_set]; exact h.len,he,?_,?_⟩
 ·have ha:=h.asc
  unfold AscN at *
  rw [List.pairwise_iff_getElem] at ha ⊢
  have hr:∀ k (hk:k < (t.set i q).length),((t.set i q)[k]).resource=(t[k]'(by rw [List.length_set] at hk; exact hk)).resource:=fun k hk=>by
   rw [List.getElem_set]
   split
   ·next e=>subst e; rw [h2,List.getD_eq_getElem?_getD,List.getElem?_eq_getElem hi]; rfl
   ·rfl
  intro a b hla hlb hab
  rw [hr a hla,hr b hlb]
  exact ha a b _ _ hab
 ·have hsub:∀ x ∈ zC2 (t.set i q),x ∈ zC2 t∨x=p:=fun x hx=>by
   obtain ⟨y,hy,hp⟩:=(zas3 he).1 hx
   rcases List.mem_or_eq_of_mem_set hy with hy|rfl
   ·exact .inl ((zas3 h.each).2 ⟨y,hy,hp⟩)
   ·exact h3 x hp
  have hpl:=h.procs
  by_cases hp:p ∈ zC2 t
  ·refine Nat.le_trans (List.Nodup.length_le_of_subset (zaX4 _) (l₂:=zC2 t) fun x hx=>?_) hpl
   rcases hsub x hx with hx|rfl
   ·exact hx
   ·exact hp
  ·have h5:(zC2 t).length < 8:=by
    unfold zba3 at h4
    simp only [hp,decide_false,Bool.not_false,Bool.and_true,decide_eq_false_iff_not] at h4
    omega
   have:=List.Nodup.length_le_of_subset (zaX4 (t.set i q)) (l₂:=p :: zC2 t) fun x hx=>by
    rcases hsub x hx with hx|rfl
    ·exact .tail _ hx
    ·exact .head _
   rw [List.length_cons] at this
   omega
theorem zax6 {t:List Queue} (h:ValidT t) {i:Nat} (hi:i < t.length) {x:Proc} (hx:hasQ (t.getD i Queue.zero) x=true):x ∈ zC2 t:=(zas3 h.each).2 ⟨_,zj8 hi,hx⟩
theorem zcH7 {t:List Queue} {p:Proc} (h:p ∈ zC2 t):zba3 t p=false:=by unfold zba3; simp [h]
theorem zcr7 {t:List Queue} {nm:ByteArray} {f:Queue→ResT} (h:(atT t nm f).2.2=0):ValidT t∧∃ i:Nat,zz5 t nm=i∧i < t.length∧(t.getD i Queue.zero).resource.name=nm∧atT t nm f=f (t.getD i Queue.zero):=by
 unfold atT at h ⊢
 cases hv:zaF8 t with
 | false=>rw [hv,if_pos rfl] at h; exact absurd h (by decide)
 | true =>
  rw [hv,if_neg (by decide)] at h
  rw [if_neg (by decide)]
  by_cases hf:zz5 t nm < 0
  ·rw [if_pos hf] at h; exact absurd h (by decide)
  ·rw [if_neg hf]
   rcases zaL0 (t:=t) (nm:=nm) with h1|⟨i,h1,h2,h3⟩
   ·omega
   ·exact ⟨(zag5 t).1 hv,i,h1,h2,h3,by rw [h1]; rfl⟩
theorem zbS4 {t:List Queue} {nm:ByteArray} {x:Queue×List Hold×Int} {ev:List Event} (h:(putT t nm x ev).2.2=0):x.2.2=0∧putT t nm x ev=(zbS1 t (zz5 t nm) x.1,ev++zaj0 nm x.2.1,0):=by
 unfold putT at h ⊢
 by_cases e:x.2.2=0
 ·rw [if_pos e]; exact ⟨e,rfl⟩
 ·rw [if_neg e] at h; exact absurd h e
theorem zaT8 (t:List Queue) (i:Nat) (q:Queue):zbS1 t (i:Int) q=t.set i q:=by unfold zbS1; rw [if_pos (by omega)]; rfl
theorem zcO7 {t:List Queue} {p:Proc} {a:Atom} {pr:Int} (h:(zaA6 t p a pr).2.2=0):∃ i:Nat,i < t.length∧(t.getD i Queue.zero).resource.name=a.name∧zz5 t a.name=i∧(zW2 (t.getD i Queue.zero) p a.amount pr).2.2=0∧(zaA6 t p a pr).1=t.set i (zW2 (t.getD i Queue.zero) p a.amount pr).1∧ValidT t∧ValidT (zaA6 t p a pr).1:=by
 unfold zaA6 at h ⊢
 obtain ⟨hv,i,h1,h2,h3,e⟩:=zcr7 h
 rw [e] at h ⊢
 cases hfu:zba3 t p with
 | true=>rw [hfu,if_pos rfl] at h; exact absurd h (by decide)
 | false =>
  rw [hfu,if_neg (by decide)] at h
  rw [if_neg (by decide)]
  obtain ⟨e0,e1⟩:=zbS4 h
  rw [e1,h1,zaT8]
  have hq:=hv.each _ (zj8 (z:=Queue.zero) h2)
  have hs:=zag7 hq (.claim p a.amount pr e0)
  refine ⟨i,h2,h3,rfl,e0,rfl,hv,hv.set h2 p hs.1 hs.2 (fun x hx=>?_) hfu⟩
  rcases zcO5 e0 hx with hx|hx
  ·exact .inl (zax6 hv h2 hx)
  ·exact .inr hx
theorem zcB3 {t:List Queue} {p:Proc} {nm:ByteArray} (h:(zaH2 t p nm).2.2=0):∃ i:Nat,i < t.length∧(zaH2 t p nm).1=t.set i (zF1 (t.getD i Queue.zero) p).1∧ValidT t∧ValidT (zaH2 t p nm).1:=by
 unfold zaH2 at h ⊢
 obtain ⟨hv,i,h1,h2,h3,e⟩:=zcr7 h
 rw [e] at h ⊢
 obtain ⟨e0,e1⟩:=zbS4 h
 rw [e1,h1,zaT8]
 have hq:=hv.each _ (zj8 (z:=Queue.zero) h2)
 have hs:=zag7 hq (.cancel p e0)
 obtain ⟨_,_,hw,_,_⟩:=zaK7 e0
 have hp:hasQ (t.getD i Queue.zero) p=true:=by unfold hasQ; rw [hw]; rfl
 exact ⟨i,h2,rfl,hv,hv.set h2 p hs.1 hs.2 (fun x hx=>.inl (zax6 hv h2 (zcB2 e0 hx))) (zcH7 (zax6 hv h2 hp))⟩
theorem zcb7 {t:List Queue} {p:Proc} {a:Atom} (h:(zaa9 t p a).2.2=0):∃ i:Nat,i < t.length∧(zaa9 t p a).1=t.set i (zC8 (t.getD i Queue.zero) p a.amount).1∧ValidT t∧ValidT (zaa9 t p a).1:=by
 unfold zaa9 at h ⊢
 obtain ⟨hv,i,h1,h2,h3,e⟩:=zcr7 h
 rw [e] at h ⊢
 obtain ⟨e0,e1⟩:=zbS4 h
 rw [e1,h1,zaT8]
 have hq:=hv.each _ (zj8 (z:=Queue.zero) h2)
 have hs:=zag7 hq (.lower p a.amount e0)
 obtain ⟨_,_,hp0,_,_,_⟩:=zaH8 e0
 have hp:hasQ (t.getD i Queue.zero) p=true:=(zE4 _ _).2 (.inr hp0)
 exact ⟨i,h2,rfl,hv,hv.set h2 p hs.1 hs.2 (fun x hx=>.inl (zax6 hv h2 (zcO6 e0 hx))) (zcH7 (zax6 hv h2 hp))⟩
def sayE (nm:ByteArray) (a:Amount) (e:Entry):Amount:=if e.name=nm then e.after else a
def zw4 (l:List Entry) (nm:ByteArray):Amount:=l.foldl (sayE nm) Amount.zero
theorem zK5 {α:Type} {l:List α} {i:Nat} (z:α) (h:i < l.length):l.take (i+1)=l.take i++[l.getD i z]:=by
 rw [List.take_add_one,List.getElem?_eq_getElem h,List.getD_eq_getElem?_getD,List.getElem?_eq_getElem h]; rfl
theorem zbp4 (l:List Entry) (e:Entry) (nm:ByteArray):zw4 (l++[e]) nm=if e.name=nm then e.after else zw4 l nm:=by
 unfold zw4; rw [List.foldl_append]; rfl
theorem zbu1 (a b:ByteArray):(a.toList == b.toList)=decide (a=b):=by
 by_cases h:a=b
 ·simp [h]
 ·rw [decide_eq_false h]
  cases hb:a.toList == b.toList with
  | false=>rfl
  | true=>exact absurd (zas9.1 (beq_iff_eq.1 hb)) h
theorem zab0 (l:List Entry) (nm:ByteArray) (hl:l.length≤1000000):zi6 l nm=some (zw4 l nm):=by
 unfold zi6
 obtain ⟨x,h1,h2⟩:=zr8 (body:=zaq0 l nm) (fun g=>∃ i:Nat,g.1=i∧i≤l.length∧g.2=zw4 (l.take i) nm) (fun g=>l.length - g.1.toNat) (fun x=>x=zw4 l nm)
  (fun g ⟨i,hi,hle,hg⟩=>by
   obtain ⟨g1,g2⟩:=g
   simp only at hi hg
   subst hi
   unfold zaq0
   by_cases c:i < l.length
   ·left
    have h3:0≤(i:Int)∧(i:Int) < (l.length:Int):=by omega
    simp only [h3.1,h3.2,and_self,zm3,decide_true,if_true,Int.toNat_natCast,zbu1,decide_eq_true_eq,zc4 i (show i < 4611686018427387904 by omega)]
    refine ⟨((i+1:Nat),zw4 (l.take (i+1)) nm),?_,⟨i+1,rfl,c,rfl⟩,by simp only [Int.toNat_natCast]; omega⟩
    rw [zK5 Entry.zero c,zbp4]
    by_cases e:(l.getD i Entry.zero).name=nm
    ·rw [if_pos e,if_pos e]
    ·rw [if_neg e,if_neg e,hg]
   ·right
    have e:i=l.length:=by omega
    refine ⟨g2,?_,by rw [hg,e,List.take_length]⟩
    simp only [show ¬ (i:Int) < (l.length:Int) by omega,decide_false,Bool.false_eq_true,if_false]) (0,Amount.zero) ⟨0,rfl,by omega,rfl⟩
 rw [h1,Option.bind_some,h2]; rfl
theorem zcO8 {α:Type} (l:List α) (z:α) {i j:Nat} (hi:i < l.length) (hj:j < l.length):((l.set i (l.getD j z)).set j (l.getD i z)).Perm l:=by
 rw [List.getD_eq_getElem?_getD,List.getD_eq_getElem?_getD,List.getElem?_eq_getElem hi,List.getElem?_eq_getElem hj]
 exact List.set_set_perm hi hj
theorem zcO9 (l0:List ByteArray) (hl:l0.length≤1000000) (g:Int×List ByteArray) (h0:0≤g.1) (h1:g.1 < (g.2.length:Int)) (hp:g.2.Perm l0):∃ x,zc0 zab9 g=some x∧x.Perm l0:=by
 refine zr8 (body:=zab9) (fun g=>0≤g.1∧g.1 < (g.2.length:Int)∧g.2.Perm l0) (fun g=>g.1.toNat) (fun x=>x.Perm l0) ?_ g ⟨h0,h1,hp⟩
 rintro ⟨i,l⟩ ⟨h0,h1,hp⟩
 simp only at h0 h1 hp
 have hn:=hp.length_eq
 unfold zab9
 by_cases c:0 < i
 ·have e:IntKind.i64.wrap (i - 1)=i - 1:=zf6 (by omega) (by omega)
  simp only [c,decide_true,e,Bool.true_and]
  rw [gdp (by intro; omega),gdp (by intro; omega)]
  cases hb:Op.bytesLess (l.getD i.toNat ⟨#[]⟩).toList (l.getD (i - 1).toNat ⟨#[]⟩).toList with
  | false=>exact .inr ⟨l,by simp,hp⟩
  | true =>
   left
   simp only [if_true]
   rw [gdp ⟨h0,h1⟩,gdp (by omega),gdp ⟨h0,h1⟩,gdp (by omega)]
   exact ⟨_,rfl,⟨by simp only; omega,by simp only [List.length_set]; omega,(zcO8 l _ (by omega) (by omega)).trans hp⟩,by simp only; omega⟩
 ·simp only [c,decide_false,Bool.false_and,Bool.false_eq_true,if_false]
  rw [gdp (by intro h; cases h),gdp (by intro h; cases h)]
  exact .inr ⟨l,rfl,hp⟩
def zbS5 (nm:ByteArray) (s:List ByteArray):Bool:=s.any fun n=>decide (n=nm)
theorem zcb8 {nm:ByteArray} {s:List ByteArray}:zbS5 nm s=true ↔ nm ∈ s:=by
 unfold zbS5; rw [List.any_eq_true]
 exact ⟨fun ⟨n,h1,h2⟩=>of_decide_eq_true h2 ▸ h1,fun h=>⟨nm,h,by simp⟩⟩
theorem zcP0 (l:List Entry) (i:Nat) (hi:i < l.length) (s:List ByteArray) (hl:s.length≤1000000) (v:Int×List ByteArray) (hv:v=((i:Int),s)) :
  zc0 (zac1 l v) (false,0)=some (zbS5 (l.getD i Entry.zero).name s):=by
 subst hv
 obtain ⟨x,h1,h2⟩:=zr8 (body:=zac1 l ((i:Int),s)) (fun g=>∃ k:Nat,g.2=k∧k≤s.length∧g.1=zbS5 (l.getD i Entry.zero).name (s.take k)) (fun g=>s.length - g.2.toNat) (fun x=>x=zbS5 (l.getD i Entry.zero).name s)
  (fun g ⟨k,hk,hle,hg⟩=>by
   obtain ⟨g1,g2⟩:=g
   simp only at hk hg
   subst hk
   unfold zac1
   by_cases c:k < s.length
   ·left
    have h3:0≤(k:Int)∧(k:Int) < (s.length:Int):=by omega
    have h4:0≤(i:Int)∧(i:Int) < (l.length:Int):=by omega
    simp only [h3.1,h3.2,h4.1,h4.2,and_self,implies_true,zm3,decide_true,if_true,Int.toNat_natCast,zbu1,zc4 k (show k < 4611686018427387904 by omega)]
    refine ⟨_,rfl,⟨k+1,rfl,c,?_⟩,by simp only [Int.toNat_natCast]; omega⟩
    rw [zK5 (⟨#[]⟩:ByteArray) c,hg]
    simp only [zbS5,List.any_append,List.any_cons,List.any_nil,Bool.or_false]
   ·right
    have e:k=s.length:=by omega
    refine ⟨g1,?_,by rw [hg,e,List.take_length]⟩
    simp only [show ¬ (k:Int) < (s.length:Int) by omega,decide_false,Bool.false_eq_true,if_false]) (false,0) ⟨0,rfl,by omega,by simp [zbS5]⟩
 rw [h1,h2]
theorem zaL7 (l:List Entry) (hl:l.length≤1000000):∃ ns,zi3 l=some ns∧ns.length≤l.length∧∀ n,n ∈ ns ↔ ∃ e ∈ l,e.name=n:=by
 unfold zi3
 obtain ⟨x,h1,h2⟩:=zr8 (body:=zac2 l) (fun g=>∃ i:Nat,g.1=i∧i≤l.length∧g.2.length≤i∧∀ n,n ∈ g.2 ↔ ∃ e ∈ l.take i,e.name=n) (fun g=>l.length - g.1.toNat)
  (fun x=>x.length≤l.length∧∀ n,n ∈ x ↔ ∃ e ∈ l,e.name=n)
  (fun g ⟨i,hi,hle,hlen,hg⟩=>by
   obtain ⟨g1,g2⟩:=g
   simp only at hi hlen hg
   subst hi
   unfold zac2
   by_cases c:i < l.length
   ·left
    have h3:0≤(i:Int)∧(i:Int) < (l.length:Int):=by omega
    simp only [h3.2,decide_true,if_true]
    rw [zcP0 l i c g2 (by omega) _ rfl,Option.bind_some]
    unfold zac0
    have hmem:∀ n,(∃ e ∈ l.take (i+1),e.name=n) ↔ n ∈ g2∨n=(l.getD i Entry.zero).name:=fun n=>by
     rw [zK5 Entry.zero c,hg]
     simp only [List.mem_append,List.mem_singleton,or_and_right,exists_or,exists_eq_left]
     exact or_congr Iff.rfl ⟨Eq.symm,Eq.symm⟩
    by_cases hs:(l.getD i Entry.zero).name ∈ g2
    ·rw [if_pos (zcb8.2 hs)]
     refine ⟨_,by rw [zc4 i (by omega)],⟨i+1,rfl,c,by simp only; omega,fun n=>?_⟩,by simp only [Int.toNat_natCast]; omega⟩
     rw [hmem]
     exact ⟨Or.inl,fun h=>h.elim id fun h=>h ▸ hs⟩
    ·rw [if_neg (fun h=>hs (zcb8.1 h)),gdp h3,gdp (by simp only; omega)]
     obtain ⟨y,e1,e2⟩:=zcO9 (g2++[(l.getD i Entry.zero).name]) (by rw [List.length_append,List.length_singleton]; omega) (IntKind.i64.wrap (((g2.length+1:Nat):Int) - 1),g2++[(l.getD (i:Int).toNat Entry.zero).name])
      (by simp only; rw [zf6 (by omega) (by omega)]; omega) (by simp only [List.length_append,List.length_singleton]; rw [zf6 (by omega) (by omega)]; omega) (by simp only [Int.toNat_natCast]; exact List.Perm.refl _)
     rw [e1,Option.bind_some]
     unfold zay3
     refine ⟨_,by rw [zc4 i (by omega)],⟨i+1,rfl,c,by have:=e2.length_eq; simp only [List.length_append,List.length_singleton] at this; simp only; omega,fun n=>?_⟩,by simp only [Int.toNat_natCast]; omega⟩
     rw [hmem,e2.mem_iff,List.mem_append,List.mem_singleton]
   ·right
    have e:i=l.length:=by omega
    refine ⟨g2,?_,by omega,fun n=>by rw [hg,e,List.take_length]⟩
    simp only [show ¬ (i:Int) < (l.length:Int) by omega,decide_false,Bool.false_eq_true,if_false]) (0,[]) ⟨0,rfl,by omega,by simp,fun n=>by simp⟩
 exact ⟨x,by rw [h1,Option.bind_some]; rfl,h2⟩
theorem zbz4 (l:List Save) (x:Int) (hl:l.length≤1000000):∃ v,zk5 l x=some v∧(v=-1∨0≤v∧v < (l.length:Int)):=by
 unfold zk5
 rw [zbi5 l Save.zero (fun a=>decide (a.label=x)) (fun i hi=>by
  unfold zaq1
  have h3:0≤(i:Int)∧(i:Int) < (l.length:Int):=by omega
  simp only [h3.1,h3.2,and_self,zm3,decide_true,if_true,Int.toNat_natCast,zc4 i (show i < 4611686018427387904 by omega)]
  split <;> rfl) (by unfold zaq1; simp)]
 cases h:l.findIdx? fun a=>decide (a.label=x) with
 | none=>exact ⟨-1,rfl,.inl rfl⟩
 | some i =>
  obtain ⟨h1,_⟩:=List.findIdx?_eq_some_iff_getElem.1 h
  exact ⟨i,rfl,.inr (by omega)⟩
structure LedgerP (l:Ledger):Prop where
 le:l.entries.length≤72
 ls:l.saves.length≤4
 grow:∀ i,i < l.entries.length→(l.entries.getD i Entry.zero).before=zw4 (l.entries.take i) (l.entries.getD i Entry.zero).name∧zO5 (l.entries.getD i Entry.zero).before (l.entries.getD i Entry.zero).after=true
 at_:∀ s ∈ l.saves,0≤s.at_∧s.at_≤(l.entries.length:Int)
theorem zaG6 (l:Ledger) (hl:l.saves.length≤4) (i:Nat):(i < l.saves.length→∃ b:Bool,zT9 l (i:Int)=some (if b=true then .inl ((i+1:Nat):Int) else .inr (.inr false)) ∧
  (b=true→0≤(l.saves.getD i Save.zero).at_∧(l.saves.getD i Save.zero).at_≤(l.entries.length:Int)))∧(i=l.saves.length→zT9 l (i:Int)=some (.inr (.inl ()))):=by
 refine ⟨fun c=>?_,fun c=>?_⟩
 ·unfold zT9
  have h3:0≤(i:Int)∧(i:Int) < (l.saves.length:Int):=by omega
  simp only [h3.1,h3.2,and_self,zm3,decide_true,if_true,Int.toNat_natCast]
  rw [gdp (by
   intro h
   simp only [Bool.and_eq_true,decide_eq_true_eq] at h
   have:=h.2
   rw [zf6 (by omega) (by omega)]; omega)]
  obtain ⟨v,hv,_⟩:=zbz4 l.saves ((l.saves.getD i Save.zero).label) (by omega)
  generalize hA:(!(((((decide ((l.saves.getD i Save.zero).label < 1))||(decide (99 < (l.saves.getD i Save.zero).label)))||(decide ((l.saves.getD i Save.zero).at_ < 0)))||(decide ((l.entries.length:Int) < (l.saves.getD i Save.zero).at_)))||((decide (0 < (i:Int)))&&(decide ((l.saves.getD i Save.zero).at_ < (l.saves.getD ((IntKind.i64.wrap ((i:Int) - 1)).toNat) Save.zero).at_)))))=A
  have hA':(((((decide ((l.saves.getD i Save.zero).label < 1))||(decide (99 < (l.saves.getD i Save.zero).label)))||(decide ((l.saves.getD i Save.zero).at_ < 0)))||(decide ((l.entries.length:Int) < (l.saves.getD i Save.zero).at_)))||((decide (0 < (i:Int)))&&(decide ((l.saves.getD i Save.zero).at_ < (l.saves.getD ((IntKind.i64.wrap ((i:Int) - 1)).toNat) Save.zero).at_))))=!A:=by rw [← hA,Bool.not_not]
  simp only [hA']
  cases A with
  | false=>exact ⟨false,by simp,by simp⟩
  | true =>
   simp only [if_true,hv,Option.bind_some,Bool.not_true,Bool.false_or]
   have hat:0≤(l.saves.getD i Save.zero).at_∧(l.saves.getD i Save.zero).at_≤(l.entries.length:Int):=by
    simp only [Bool.not_true,Bool.or_eq_false_iff,decide_eq_false_iff_not] at hA'
    omega
   by_cases e:v=(i:Int)
   ·exact ⟨true,by simp [e,zc4 i (show i < 4611686018427387904 by omega)],fun _=>hat⟩
   ·exact ⟨false,by simp [e],by simp⟩
 ·subst c; unfold zT9; simp
theorem zbj9 (l:Ledger) (hl:l.entries.length≤72) (i:Nat) (c:i < l.entries.length):∃ b:Bool,zad0 l (i:Int)=some (if b=true then .inl ((i+1:Nat):Int) else .inr (.inr false)) ∧
  (b=true→(l.entries.getD i Entry.zero).before=zw4 (l.entries.take i) (l.entries.getD i Entry.zero).name∧zO5 (l.entries.getD i Entry.zero).before (l.entries.getD i Entry.zero).after=true):=by
 unfold zad0
 have h3:0≤(i:Int)∧(i:Int) < (l.entries.length:Int):=by omega
 simp only [h3.1,h3.2,and_self,zm3,decide_true,if_true,Int.toNat_natCast]
 rw [zaB3,Option.bind_some,gdp (fun _=>by simp <;> omega),zab0 _ _ (by simp; omega)]
 cases hn:zW0 (l.entries.getD i Entry.zero).name with
 | false=>exact ⟨false,by simp,by simp⟩
 | true =>
  simp only [if_true,Option.bind_some,Bool.not_true,Bool.false_or]
  by_cases e1:(l.entries.getD i Entry.zero).before=zw4 (l.entries.take i) (l.entries.getD i Entry.zero).name
  ·have hd:decide ((l.entries.getD i Entry.zero).before=zw4 (l.entries.take i) (l.entries.getD i Entry.zero).name)=true:=decide_eq_true e1
   cases e2:zO5 (l.entries.getD i Entry.zero).before (l.entries.getD i Entry.zero).after with
   | false=>exact ⟨false,by simp only [Bool.not_false,Bool.or_true,if_true,Bool.false_eq_true,if_false],fun h=>nomatch h⟩
   | true=>exact ⟨true,by simp only [hd,Bool.not_true,Bool.or_self,Bool.false_eq_true,if_false,if_true,zc4 i (show i < 4611686018427387904 by omega)],fun _=>⟨e1,rfl⟩⟩
  ·have hd:decide ((l.entries.getD i Entry.zero).before=zw4 (l.entries.take i) (l.entries.getD i Entry.zero).name)=false:=decide_eq_false e1
   exact ⟨false,by simp only [hd,Bool.not_false,Bool.true_or,if_true,Bool.false_eq_true,if_false],fun h=>nomatch h⟩
theorem zas4 {body:Int→Option (Int⊕(Unit⊕Bool))} (n:Nat) (P:Nat→Prop) (h:∀ i:Nat,i < n→∃ b:Bool,body (i:Int)=some (if b=true then .inl ((i+1:Nat):Int) else .inr (.inr false))∧(b=true→P i)) (he:body (n:Int)=some (.inr (.inl ()))) :
  zc0 body 0=some (.inr false)∨zc0 body 0=some (.inl ())∧∀ i,i < n→P i:=by
 obtain ⟨x,h1,h2⟩:=zr8 (body:=body) (fun g=>∃ i:Nat,g=i∧i≤n∧∀ k,k < i→P k) (fun g=>n - g.toNat) (fun x=>x=.inr false∨x=.inl ()∧∀ i,i < n→P i)
  (fun g ⟨i,hi,hle,hg⟩=>by
   subst hi
   by_cases c:i < n
   ·obtain ⟨b,hb,hp⟩:=h i c
    cases b with
    | false=>exact .inr ⟨_,hb,.inl rfl⟩
    | true=>exact .inl ⟨_,hb,⟨i+1,rfl,c,fun k hk=>by
      rcases Nat.lt_or_ge k i with h5|h5
      ·exact hg k h5
      ·have:k=i:=by omega
       subst this; exact hp rfl⟩,by simp only [Int.toNat_natCast]; omega⟩
   ·have:i=n:=by omega
    subst this
    exact .inr ⟨_,he,.inr ⟨rfl,hg⟩⟩) 0 ⟨0,rfl,by omega,fun k hk=>by omega⟩
 rcases h2 with rfl|⟨rfl,h2⟩
 ·exact .inl h1
 ·exact .inr ⟨h1,h2⟩
theorem zQ4 {α:Type} {l:List α} {z x:α} (h:x ∈ l):∃ i,i < l.length∧l.getD i z=x:=by
 obtain ⟨i,hi,e⟩:=List.mem_iff_getElem.1 h
 exact ⟨i,hi,by rw [List.getD_eq_getElem?_getD,List.getElem?_eq_getElem hi]; exact e⟩
theorem zae8 (l:Ledger):∃ b,zo6 l=some b∧(b=true→LedgerP l):=by
 unfold zo6
 by_cases c:l.entries.length≤72∧l.saves.length≤4
 ·rw [if_neg (by simp; omega)]
  rcases zas4 l.entries.length _ (fun i hi=>zbj9 l c.1 i hi) (by unfold zad0; simp) with h1|⟨h1,h2⟩
  ·exact ⟨false,by rw [h1]; rfl,by simp⟩
  ·rw [h1,Option.bind_some]
   show ∃ b,zac9 l ()=some b∧_
   unfold zac9
   obtain ⟨ns,e1,_⟩:=zaL7 l.entries (by omega)
   rw [e1,Option.bind_some]
   by_cases c8:(8:Int) < ns.length
   ·exact ⟨false,by rw [if_pos (by simpa using c8)],by simp⟩
   ·rw [if_neg (by simpa using c8)]
    rcases zas4 l.saves.length _ (fun i hi=>(zaG6 l c.2 i).1 hi) ((zaG6 l c.2 _).2 rfl) with h3|⟨h3,h4⟩
    ·exact ⟨false,by rw [h3]; rfl,by simp⟩
    ·refine ⟨true,by rw [h3]; rfl,fun _=>⟨c.1,c.2,h2,fun s hs=>?_⟩⟩
     obtain ⟨i,hi,rfl⟩:=zQ4 (z:=Save.zero) hs
     exact h4 i hi
 ·exact ⟨false,by rw [if_pos (by simp; omega)],by simp⟩
theorem zbS6 {α β:Type} {o:Option α} {f:α→β} {b:β} (h:(o.bind fun v=>some (f v))=some b):∃ v,o=some v∧f v=b:=by
 cases o with
 | none=>cases h
 | some v=>exact ⟨v,rfl,Option.some.inj h⟩
theorem zax7 (e:Expr):∃ v,zn3 e=some v∧v.2=vE e:=by
 have h:=zW3 e
 unfold zx3 at h
 exact zbS6 h
theorem zbu2 {e:Expr} {v:List Atom×Bool} (h:zn3 e=some v):v.1.length≤8:=by
 unfold zn3 at h
 obtain ⟨v1,h1,h⟩:=zf1 h
 by_cases c:v1=0
 ·rw [if_pos (by simpa using c)] at h; cases h; simp
 rw [if_neg (by simpa using c)] at h
 obtain ⟨v2,h2,h⟩:=zf1 h
 cases v2 with
 | inl v2=>cases h; simp
 | inr v2 =>
  simp only at h
  by_cases c2:((!v2.2)||(decide (8 < (v2.1.length:Int))))=true
  ·rw [if_pos c2] at h; cases h; simp
  ·rw [if_neg c2] at h
   have hl:v2.1.length≤8:=by
    simp only [Bool.or_eq_true,decide_eq_true_eq,not_or] at c2; omega
   have ho:=zbf9 v2 (by omega)
   by_cases d:dnN v2.1
   ·rw [ho.1 d] at h
    have:zad8 v2 ()=some v:=h
    unfold zad8 at this; cases this; exact hl
   ·rw [ho.2 d] at h; cases h; simp
theorem zcP1 (e:Expr) (L:List Atom) (S:List Bool) (hL:L.length≤1000):∃ b,((zc0 (zac4 e L S) 0).bind (fun|.inl z=>zay4 z|.inr z=>some z))=some b∧((∀ i,S.getD i false=false)→b=false):=by
 obtain ⟨x,h1,h2⟩:=zr8 (body:=zac4 e L S) (fun g=>∃ i:Nat,g=i∧i≤L.length) (fun g=>L.length - g.toNat) (fun x=>∀ b,x=.inr b→(∀ i,S.getD i false=false)→b=false)
  (fun g ⟨i,hi,hle⟩=>by
   subst hi
   unfold zac4
   by_cases c:i < L.length
   ·have h3:0≤(i:Int)∧(i:Int) < (L.length:Int):=by omega
    simp only [h3.1,h3.2,and_self,zm3,decide_true,if_true,Int.toNat_natCast]
    by_cases d:L.getD i Atom.zero=e.atom
    ·right
     rw [if_pos (by simpa using d),gdp (by intro h; simp only [decide_eq_true_eq] at h; simp; omega)]
     exact ⟨_,rfl,fun b hb hS=>by cases hb; rw [hS,Bool.and_false]⟩
    ·left
     rw [if_neg (by simpa using d),zc4 i (by omega)]
     exact ⟨_,rfl,⟨i+1,rfl,c⟩,by simp only [Int.toNat_natCast]; omega⟩
   ·right
    simp only [show ¬ (i:Int) < (L.length:Int) by omega,decide_false,Bool.false_eq_true,if_false]
    exact ⟨_,rfl,fun b hb=>by cases hb⟩) 0 ⟨0,rfl,by omega⟩
 rw [h1]
 cases x with
 | inl x=>exact ⟨false,rfl,fun _=>rfl⟩
 | inr b=>exact ⟨b,rfl,h2 b rfl⟩
theorem zcr8:∀ (n:Nat) (e:Expr),_root_.SizeOf.sizeOf e < n→zn0 e≤24→∀ (L:List Atom) (S:List Bool),L.length≤1000→∃ b,fr_ref08_holds n e L S=some b∧(okE e=true→(∀ i,S.getD i false=false)→b=false)
 | 0,_,h,_,_,_,_=>by omega
 | n+1,e,h,hn,L,S,hL=>by
  show ∃ b,zR7 (fr_ref08_holds n) e L S=some b∧_
  unfold zR7
  have hl:=zC0 e.kids
  have hne:=zH7 e
  by_cases c:e.k=0
  ·rw [if_pos (by simpa using c)]
   obtain ⟨b,h1,h2⟩:=zcP1 e L S hL
   exact ⟨b,h1,fun _=>h2⟩
  ·rw [if_neg (by simpa using c)]
   obtain ⟨x,h1,h2⟩:=zr8 (body:=zal8 (fr_ref08_holds n) e L S) (fun g=>∃ i:Nat,g.2=i∧i≤e.kids.length∧0≤g.1∧g.1≤i∧(okL e.kids=true→(∀ i,S.getD i false=false)→g.1=0)) (fun g=>e.kids.length - g.2.toNat)
    (fun x=>okL e.kids=true→(∀ i,S.getD i false=false)→x=0)
    (fun g ⟨i,hi,hle,h0,h4,hg⟩=>by
     obtain ⟨m,g2⟩:=g
     simp only at hi h0 h4 hg
     subst hi
     unfold zal8
     by_cases c:i < e.kids.length
     ·left
      have h3:0≤(i:Int)∧(i:Int) < (e.kids.length:Int):=by omega
      simp only [h3.1,h3.2,and_self,zm3,decide_true,if_true,Int.toNat_natCast]
      have hk:=zj8 (z:=Expr.zero) c
      obtain ⟨b,e1,e2⟩:=zcr8 n _ (zah6 h hk) (by have:=zaH9 hk; omega) L S hL
      rw [e1,Option.bind_some,zc4 i (by omega)]
      cases b with
      | true =>
       rw [if_pos rfl,zf6 (by omega) (by omega)]
       exact ⟨_,rfl,⟨i+1,rfl,c,by simp only; omega,by simp only; omega,fun ho hS=>by have:=e2 (zbt6 ho hk) hS; cases this⟩,by simp only [Int.toNat_natCast]; omega⟩
      | false =>
       rw [if_neg (by decide)]
       exact ⟨_,rfl,⟨i+1,rfl,c,h0,by simp only; omega,hg⟩,by simp only [Int.toNat_natCast]; omega⟩
     ·right
      simp only [show ¬ (i:Int) < (e.kids.length:Int) by omega,decide_false,Bool.false_eq_true,if_false]
      exact ⟨_,rfl,hg⟩) (0,0) ⟨0,rfl,by omega,by simp,by simp,fun _ _=>rfl⟩
   rw [h1,Option.bind_some]
   refine ⟨_,rfl,fun ho hS=>?_⟩
   by_cases ck:e.kids.length=0
   ·exact absurd ((zbf7 ck).1 ho).1 c
   ·have h5:=(zbf8 ck).1 ho
    rw [h2 h5.2 hS]
    exact decide_eq_false (by omega)
theorem zdd6 {e:Expr} (h:vE e=true):zn0 e≤24:=by
 have:=(zcH2 h).2
 unfold fitE at this
 simp only [Bool.and_eq_true,decide_eq_true_eq] at this
 omega
theorem zaL8 {e:Expr} (h:vE e=true) {L:List Atom} (hL:L.length≤1000) (S:List Bool):∃ b,f_ref08_holds e L S=some b∧((∀ i,S.getD i false=false)→b=false):=by
 unfold f_ref08_holds
 obtain ⟨b,h1,h2⟩:=zcr8 _ e (Nat.lt_succ_self _) (zdd6 h) L S hL
 exact ⟨b,h1,h2 (zcH2 h).1⟩
theorem zbg6 {e:Expr} (h:vE e=true) (S:List Bool):∃ b,zO7 e S=some b∧((∀ i,S.getD i false=false)→b=false):=by
 unfold zO7
 obtain ⟨v,h1,h2⟩:=zax7 e
 rw [h1,Option.bind_some,h2,h]
 obtain ⟨b,h3,h4⟩:=zaL8 h (L:=v.1) (by have:=zbu2 h1; omega) S
 rw [if_pos rfl,h3]
 exact ⟨b,by simp,h4⟩
theorem zal2 (e:Expr):∃ l,zw2 e=some l∧l.length≤8∧zn3 e=some (l,vE e):=by
 unfold zw2
 obtain ⟨v,h1,h2⟩:=zax7 e
 exact ⟨v.1,by rw [h1]; rfl,zbu2 h1,by rw [h1,← h2]⟩
theorem zcB4 (S:List Bool) (v:List Atom×Bool) (hv:v.1.length≤8) (s0:List Bool) (h0:s0.length=v.1.length):∃ x,zc0 (zae0 S v) (0,s0)=some x∧x.length=v.1.length :=
 zr8 (body:=zae0 S v) (fun g=>∃ i:Nat,g.1=i∧i≤v.1.length∧g.2.length=v.1.length) (fun g=>v.1.length - g.1.toNat) (fun x=>x.length=v.1.length)
  (fun g ⟨i,hi,hle,hg⟩=>by
   obtain ⟨g1,g2⟩:=g
   simp only at hi hg
   subst hi
   unfold zae0
   by_cases c:i < v.1.length
   ·left
    have h3:0≤(i:Int)∧(i:Int) < (v.1.length:Int):=by omega
    simp only [h3.2,decide_true,if_true,Int.toNat_natCast]
    rw [gdp (by intro h; simp only [decide_eq_true_eq] at h; omega),gdp (by omega),zc4 i (by omega)]
    exact ⟨_,rfl,⟨i+1,rfl,c,by simp only [List.length_set]; exact hg⟩,by simp only [Int.toNat_natCast]; omega⟩
   ·right
    simp only [show ¬ (i:Int) < (v.1.length:Int) by omega,decide_false,Bool.false_eq_true,if_false]
    exact ⟨_,rfl,hg⟩) (0,s0) ⟨0,rfl,by omega,h0⟩
theorem zcB5 {e:Expr} (h:vE e=true) (v:List Atom×Bool) (hv:v.1.length≤8) (s0:List Bool) (h0:s0.length=v.1.length):∃ x,zc0 (zad9 e v) (IntKind.i64.wrap ((v.1.length:Int) - 1),s0)=some x∧x.length=v.1.length :=
 zr8 (body:=zad9 e v) (fun g=>-1≤g.1∧g.1 < (v.1.length:Int)∧g.2.length=v.1.length) (fun g=>(g.1+1).toNat) (fun x=>x.length=v.1.length)
  (fun g ⟨h1,h2,hg⟩=>by
   obtain ⟨i,s⟩:=g
   simp only at h1 h2 hg
   unfold zad9
   by_cases c:0≤i
   ·left
    have e1:IntKind.i64.wrap (i - 1)=i - 1:=zf6 (by omega) (by omega)
    rw [if_pos (by simpa using c)]
    simp only [e1]
    rw [gdp (by omega)]
    by_cases d:s.getD i.toNat false=true
    ·rw [if_pos d,gdp (by omega)]
     obtain ⟨b,h3,_⟩:=zaL8 h (L:=v.1) (by omega) (s.set i.toNat false)
     rw [h3,Option.bind_some,gdp (by omega)]
     refine ⟨(i - 1,_),rfl,⟨by simp only; omega,by simp only; omega,?_⟩,by simp only; omega⟩
     simp only [List.length_set]; exact hg
    ·rw [if_neg d]
     exact ⟨(i - 1,s),rfl,⟨by simp only; omega,by simp only; omega,hg⟩,by simp only; omega⟩
   ·right
    simp only [c,decide_false,Bool.false_eq_true,if_false]
    exact ⟨_,rfl,hg⟩) _ ⟨by simp only; rw [zf6 (by omega) (by omega)]; omega,by simp only; rw [zf6 (by omega) (by omega)]; omega,h0⟩
theorem zbS7 {e:Expr} (h:vE e=true) (S:List Bool) {l:List Atom} (ha:zn3 e=some (l,vE e)):∃ x,zI2 e S=some x∧x.length=l.length:=by
 unfold zI2
 have hl:=zbu2 ha
 simp only at hl
 rw [ha,Option.bind_some,gdp (by simp only; omega),h,if_pos rfl]
 obtain ⟨b,h3,_⟩:=zaL8 h (L:=l) (by omega) S
 simp only [h3,Option.bind_some]
 cases b with
 | false=>exact ⟨_,rfl,by simp⟩
 | true =>
  simp only [Bool.not_true,Bool.or_self,Bool.false_eq_true,if_false]
  obtain ⟨x,h4,h5⟩:=zcB4 S (l,true) (by simp only; omega) (List.replicate ((l.length:Int).toNat) false) (by simp)
  rw [h4,Option.bind_some]
  unfold zan0
  obtain ⟨y,h6,h7⟩:=zcB5 h (l,true) (by simp only; omega) x h5
  rw [h6]
  exact ⟨y,rfl,h7⟩
theorem zaL9 (l:List Proce) (p:Proc) (hl:l.length≤1000):∃ v,zi4 l p=some v∧(v=-1∧(∀ x ∈ l,x.proc≠p)∨∃ i:Nat,v=i∧i < l.length∧(l.getD i Proce.zero).proc=p):=by
 unfold zi4
 rw [zbi5 l Proce.zero (fun a=>decide (a.proc=p)) (fun i hi=>by
  unfold zal7
  have h3:0≤(i:Int)∧(i:Int) < (l.length:Int):=by omega
  simp only [h3.1,h3.2,and_self,zm3,decide_true,if_true,Int.toNat_natCast,zc4 i (show i < 4611686018427387904 by omega)]
  split <;> rfl) (by unfold zal7; simp)]
 cases h:l.findIdx? fun a=>decide (a.proc=p) with
 | none =>
  refine ⟨-1,rfl,.inl ⟨rfl,fun x hx e=>?_⟩⟩
  have:=List.findIdx?_eq_none_iff.1 h x hx
  simp [e] at this
 | some i =>
  obtain ⟨h1,h2,_⟩:=List.findIdx?_eq_some_iff_getElem.1 h
  refine ⟨i,rfl,.inr ⟨i,rfl,h1,?_⟩⟩
  rw [List.getD_eq_getElem?_getD,List.getElem?_eq_getElem h1]
  exact of_decide_eq_true h2
theorem zaT9 (t:List Queue) (hl:t.length≤1000):zg2 t=some (t.map (·.resource)):=by
 unfold zg2
 rw [zaE6 t Queue.zero (·.resource) [] (by omega) (by simp) (fun i s hi hs=>by
  unfold zaf3
  have h3:0≤(i:Int)∧(i:Int) < (t.length:Int):=by omega
  simp only [h3.1,h3.2,and_self,zm3,decide_true,if_true,Int.toNat_natCast,zc4 i (show i < 4611686018427387904 by omega)]
  rw [gdp (by omega)]) (fun s=>by unfold zaf3; simp)]
 rfl
theorem zbj2 {α β:Type} (l:List α) (z:α) (f:α→Option β) {body:Int×List β→Option ((Int×List β)⊕List β)} (hl:l.length≤1000000)
  (hb:∀ (i:Nat) (s:List β),i < l.length→s.length≤1000000→body ((i:Int),s)=some (.inl (((i+1:Nat):Int),zaE1 s (f (l.getD i z))))) (he:∀ s,body ((l.length:Int),s)=some (.inr s)):zc0 body (0,[])=some (l.filterMap f):=by
 have key:=zC3 (body:=body) l z (fun i (s:List β)=>((i:Int),s)) (fun i a s=>some (.inl (zaE1 s (f a)))) (fun s=>s) (fun i s=>s.length≤i)
  (fun i s hi hs=>⟨by rw [hb i s hi (by omega)]; rfl,fun s' h=>by simp only [Option.some.injEq,Sum.inl.injEq] at h; subst h; have:=zcM7 s (f (l.getD i z)); omega⟩) (fun s hs=>he s) [] (by simp)
 rw [show ((0,[]):Int×List β)=(fun (i:Nat) (s:List β)=>((i:Int),s)) 0 [] from rfl,key,zaH6 f]
 simp
def zbu3 (p:Proc) (q:Queue):Option Atom:=if getH q.holds p=Amount.zero then none else some ⟨q.resource.name,getH q.holds p⟩
def zbz5 (p:Proc) (q:Queue):Option Atom:=if (zA5 q p).2=true then some ⟨q.resource.name,(zA5 q p).1⟩ else none
def sayF (l:List Entry) (n:ByteArray):Option Atom:=if zw4 l n=Amount.zero then none else some ⟨n,zw4 l n⟩
theorem zaO6 {t:List Queue} (h:Lens t) {i:Nat} (hi:i < t.length):(t.getD i Queue.zero).holds.length≤1000∧(t.getD i Queue.zero).converts.length≤1000∧(t.getD i Queue.zero).waits.length≤1000:=h _ (zj8 hi)
theorem zbu4 (t:List Queue) (p:Proc) (hl:t.length≤1000) (hs:Lens t):zl0 t p=some (t.filterMap (zbu3 p)):=by
 unfold zl0
 rw [zbj2 t Queue.zero (zbu3 p) (by omega) (fun i s hi hs'=>by
  unfold zab5
  have h3:0≤(i:Int)∧(i:Int) < (t.length:Int):=by omega
  have h4:=zaO6 hs hi
  have h5:s.length+1≤4294967296:=by omega
  simp only [h3.1,h3.2,h5,and_self,zm3,decide_true,if_true,Int.toNat_natCast,zc4 i (show i < 4611686018427387904 by omega),zG0 (t.getD i Queue.zero) p (by omega),Option.bind_some,zaB4]
  unfold zbu3
  by_cases c:getH (t.getD i Queue.zero).holds p=Amount.zero
  ·rw [if_pos c,if_neg (by rw [(zah5 _).2 c]; decide)]; rfl
  ·rw [if_neg c,if_pos (by rw [(zap5 _).2 c]; rfl)]; rfl) (fun s=>by unfold zab5; simp)]
 rfl
theorem zbF8 (t:List Queue) (p:Proc) (hl:t.length≤1000) (hs:Lens t):zm9 t p=some (t.filterMap (zbz5 p)):=by
 unfold zm9
 rw [zbj2 t Queue.zero (zbz5 p) (by omega) (fun i s hi hs'=>by
  unfold zai2
  have h3:0≤(i:Int)∧(i:Int) < (t.length:Int):=by omega
  have h4:=zaO6 hs hi
  have h5:s.length+1≤4294967296:=by omega
  simp only [h3.1,h3.2,h5,and_self,zm3,decide_true,if_true,Int.toNat_natCast,zc4 i (show i < 4611686018427387904 by omega),zL4 (t.getD i Queue.zero) p (by omega) (by omega),Option.bind_some]
  unfold zbz5
  split <;> rfl) (fun s=>by unfold zai2; simp)]
 rfl
theorem zbu5 (l:Ledger) (hl:l.entries.length≤1000):∃ ns:List ByteArray,zi3 l.entries=some ns∧(∀ n,n ∈ ns ↔ ∃ e ∈ l.entries,e.name=n)∧zh7 l=some (ns.filterMap (sayF l.entries))∧ns.length≤l.entries.length:=by
 obtain ⟨ns,h1,h2,h3⟩:=zaL7 l.entries (by omega)
 refine ⟨ns,h1,h3,?_,h2⟩
 unfold zh7
 rw [h1,Option.bind_some,zbj2 ns ⟨#[]⟩ (sayF l.entries) (by omega) (fun i s hi hs'=>by
  unfold zab3
  have h3:0≤(i:Int)∧(i:Int) < (ns.length:Int):=by omega
  have h5:s.length+1≤4294967296:=by omega
  simp only [h3.1,h3.2,h5,and_self,zm3,decide_true,if_true,Int.toNat_natCast,zc4 i (show i < 4611686018427387904 by omega),zab0 l.entries _ (by omega),Option.bind_some]
  unfold sayF
  by_cases c:zw4 l.entries (ns.getD i ⟨#[]⟩)=Amount.zero
  ·rw [if_pos c,if_neg (by rw [c]; decide)]; rfl
  ·rw [if_neg c,if_pos (by rw [decide_eq_false c]; rfl)]; rfl) (fun s=>by unfold zab3; simp)]
 rfl
theorem zbp5 (a b:List Atom) (ha:a.length≤1000000):ze4 a b=some (decide (a=b)):=by
 unfold ze4
 by_cases h:a.length=b.length
 ·rw [if_neg (by simp [h])]
  exact zbx2 a b Atom.zero (by omega) h (fun i=>rfl)
 ·have:¬ a=b:=fun e=>h (by rw [e])
  rw [if_pos (by simp; omega),decide_eq_false this]
theorem zbp6 (t:List Queue) (p:Proc) (e:Expr) (hl:t.length≤1000) (hs:Lens t):∃ bs L,zD2 t p e=some bs∧zn3 e=some (L,vE e)∧bs.length=L.length∧(t=[]→∀ i,bs.getD i false=false):=by
 obtain ⟨L,h1,h2,h3⟩:=zal2 e
 unfold zD2
 rw [h1,Option.bind_some,gdp (by omega)]
 obtain ⟨x,h4,h5,h6⟩:=zr8 (body:=zag3 t p L) (fun g=>∃ i:Nat,g.1=i∧i≤L.length∧g.2.length=L.length∧(t=[]→∀ i,g.2.getD i false=false)) (fun g=>L.length - g.1.toNat) (fun x=>x.length=L.length∧(t=[]→∀ i,x.getD i false=false))
  (fun g ⟨i,hi,hle,hg,hz⟩=>by
   obtain ⟨g1,g2⟩:=g
   simp only at hi hg hz
   subst hi
   unfold zag3
   by_cases c:i < L.length
   ·left
    have h3:0≤(i:Int)∧(i:Int) < (L.length:Int):=by omega
    have h4:(i:Int) < (g2.length:Int):=by omega
    simp only [h3.1,h3.2,h4,and_self,zm3,decide_true,if_true,Int.toNat_natCast,zc4 i (show i < 4611686018427387904 by omega),zP1 t _ (show t.length≤1000000 by omega),Option.bind_some]
    rcases zaL0 (t:=t) (nm:=(L.getD i Atom.zero).name) with e|⟨k,e,hk,_⟩
    ·rw [e,if_neg (by decide)]
     exact ⟨_,rfl,⟨i+1,rfl,c,hg,hz⟩,by simp only [Int.toNat_natCast]; omega⟩
    ·have h6:=zaO6 hs hk
     rw [e,if_pos (by simp),gdp (by omega),gdp (by omega)]
     simp only [Int.toNat_natCast]
     rw [zG0 _ _ (by omega),Option.bind_some]
     exact ⟨_,rfl,⟨i+1,rfl,c,by simp only [List.length_set]; exact hg,fun h=>by rw [h] at hk; cases hk⟩,by simp only [Int.toNat_natCast]; omega⟩
   ·right
    simp only [show ¬ (i:Int) < (L.length:Int) by omega,decide_false,Bool.false_eq_true,if_false]
    exact ⟨_,rfl,hg,hz⟩) (0,List.replicate ((L.length:Int).toNat) false) ⟨0,rfl,by omega,by simp,fun _ i=>by
     simp only [List.getD_eq_getElem?_getD,List.getElem?_replicate]; split <;> rfl⟩
 exact ⟨x,L,by rw [h4]; rfl,h3,h5,h6⟩
def zcr9 (q:Queue) (x:Proce) (L:List Atom):Prop :=
 (∃ a ∈ L,a.name=q.resource.name∧covA q.resource (zw4 x.ledger.entries q.resource.name) a.amount=false ∧
  ((zA5 q x.proc).2=false∧getH q.holds x.proc=zat6 q.resource (zw4 x.ledger.entries q.resource.name) a.amount∨getH q.holds x.proc=zw4 x.ledger.entries q.resource.name)) ∨
 (getH q.holds x.proc=zw4 x.ledger.entries q.resource.name∧(zA5 q x.proc).2=false)
theorem zcs0 (q:Queue) (x:Proce) (hl:q.waits.length≤1000):∃ r,zc0 (zY3 q x) 0=some r∧(r=.inl ()∨r=.inr false):=by
 rcases zas4 (body:=zY3 q x) q.waits.length (fun _=>True) (fun i hi=>by
  unfold zY3
  have h3:0≤(i:Int)∧(i:Int) < (q.waits.length:Int):=by omega
  simp only [h3.1,h3.2,and_self,implies_true,zm3,decide_true,if_true,Int.toNat_natCast,zc4 i (show i < 4611686018427387904 by omega)]
  split
  ·exact ⟨false,rfl,trivial⟩
  ·exact ⟨true,rfl,trivial⟩) (by unfold zY3; simp) with h|⟨h,_⟩
 ·exact ⟨_,h,.inr rfl⟩
 ·exact ⟨_,h,.inl rfl⟩
theorem zdn3 (q:Queue) (x:Proce) (L:List Atom) (he:x.ledger.entries.length≤1000) (h0:q.holds.length≤1000) (h1:q.converts.length≤1000) (h2:q.waits.length≤1000) (hL:L.length≤1000) :
  ∃ b,zG2 q x L=some b∧(b=true→zcr9 q x L):=by
 unfold zG2
 rw [zab0 _ _ (by omega),Option.bind_some,zG0 _ _ (by omega),Option.bind_some,zL4 _ _ (by omega) (by omega),Option.bind_some]
 obtain ⟨r,h3,h4⟩:=zr8 (body:=zY4 q x L (zw4 x.ledger.entries q.resource.name) (getH q.holds x.proc) (zA5 q x.proc)) (fun g=>∃ i:Nat,g=i∧i≤L.length) (fun g=>L.length - g.toNat)
  (fun r=>r=.inl ()∨∃ b,r=.inr b∧(b=true→zcr9 q x L))
  (fun g ⟨i,hi,hle⟩=>by
   subst hi
   unfold zY4
   by_cases c:i < L.length
   ·have h3:0≤(i:Int)∧(i:Int) < (L.length:Int):=by omega
    simp only [h3.1,h3.2,and_self,zm3,decide_true,if_true,Int.toNat_natCast,zc4 i (show i < 4611686018427387904 by omega),zbu1]
    by_cases d:((!decide ((L.getD i Atom.zero).name=q.resource.name))||(zs9 q.resource (zw4 x.ledger.entries q.resource.name) ((L.getD i Atom.zero).amount)))=true
    ·rw [if_pos d]
     exact .inl ⟨_,rfl,⟨i+1,rfl,c⟩,by simp only [Int.toNat_natCast]; omega⟩
    ·rw [if_neg d]
     right
     simp only [Bool.or_eq_true,Bool.not_eq_true',decide_eq_false_iff_not,not_or,Decidable.not_not,Bool.not_eq_true] at d
     obtain ⟨d1,d2⟩:=d
     have hm:=zj8 (z:=Atom.zero) c
     rw [zbl4,Option.bind_some]
     cases hw:(zA5 q x.proc).2 with
     | false =>
      simp only [Bool.not_false,if_true]
      refine ⟨_,rfl,.inr ⟨_,rfl,fun hb=>.inl ⟨_,hm,d1,d2,.inl ⟨hw,of_decide_eq_true hb⟩⟩⟩⟩
     | true =>
      simp only [Bool.not_true,Bool.false_eq_true,if_false]
      obtain ⟨r,e1,e2⟩:=zcs0 q x h2
      rw [e1]
      rcases e2 with rfl|rfl
      ·refine ⟨_,rfl,.inr ⟨_,rfl,fun hb=>.inl ⟨_,hm,d1,d2,.inr ?_⟩⟩⟩
       simp only [Bool.and_eq_true,decide_eq_true_eq] at hb; exact hb.1
      ·exact ⟨_,rfl,.inr ⟨false,rfl,fun h=>nomatch h⟩⟩
   ·right
    simp only [show ¬ (i:Int) < (L.length:Int) by omega,decide_false,Bool.false_eq_true,if_false]
    exact ⟨_,rfl,.inl rfl⟩) 0 ⟨0,rfl,by omega⟩
 rw [h3]
 rcases h4 with rfl|⟨b,rfl,hb⟩
 ·refine ⟨_,rfl,fun h=>.inr ?_⟩
  simp only [Bool.and_eq_true,decide_eq_true_eq,Bool.not_eq_true'] at h
  exact h
 ·exact ⟨b,rfl,hb⟩
theorem zcP2 (e:Expr):∃ b,zg4 e Expr.zero=some b:=by
 unfold zg4
 show ∃ b,zC5 (zQ9 _) e Expr.zero=some b
 unfold zC5
 split
 ·exact ⟨_,rfl⟩
 ·rename_i h
  have:e.kids.length=0:=by
   simp only [Bool.or_eq_true,not_or,Bool.not_eq_true',decide_eq_false_iff_not,Decidable.not_not] at h
   have h2:=h.2
   simp only [Expr.zero,List.length_nil] at h2; omega
  rw [zg1]
  unfold zS5
  simp only [this,Int.natCast_zero,show ¬ (0:Int) < 0 by omega,decide_false,Bool.false_eq_true,if_false]
  exact ⟨_,rfl⟩
theorem zbW4 (l:List Resource) (nm:ByteArray) (hl:l.length≤1000):∃ v,zl7 l nm=some v∧(v.2=true→v.1 ∈ l∧v.1.name=nm):=by
 unfold zl7
 obtain ⟨r,h3,h4⟩:=zr8 (body:=zaq4 l nm) (fun g=>∃ i:Nat,g=i∧i≤l.length) (fun g=>l.length - g.toNat) (fun r=>r=.inl ()∨∃ x,r=.inr (x,true)∧x ∈ l∧x.name=nm)
  (fun g ⟨i,hi,hle⟩=>by
   subst hi
   unfold zaq4
   by_cases c:i < l.length
   ·have h3:0≤(i:Int)∧(i:Int) < (l.length:Int):=by omega
    simp only [h3.1,h3.2,and_self,zm3,decide_true,if_true,Int.toNat_natCast,zc4 i (show i < 4611686018427387904 by omega),zbu1]
    by_cases d:(l.getD i Resource.zero).name=nm
    ·rw [if_pos (decide_eq_true d)]
     exact .inr ⟨_,rfl,.inr ⟨_,rfl,zj8 c,d⟩⟩
    ·rw [if_neg (by simpa using d)]
     exact .inl ⟨_,rfl,⟨i+1,rfl,c⟩,by simp only [Int.toNat_natCast]; omega⟩
   ·right
    simp only [show ¬ (i:Int) < (l.length:Int) by omega,decide_false,Bool.false_eq_true,if_false]
    exact ⟨_,rfl,.inl rfl⟩) 0 ⟨0,rfl,by omega⟩
 rw [h3]
 rcases h4 with rfl|⟨x,rfl,hx⟩
 ·exact ⟨_,rfl,fun h=>nomatch h⟩
 ·exact ⟨_,rfl,fun _=>hx⟩
theorem zbz6 (l:List Resource) (a:Atom) (hl:l.length≤1000):∃ v,zy5 l a=some v∧(v=0→∃ r ∈ l,r.name=a.name∧zb3 r a.amount=true):=by
 unfold zy5
 rw [zbg5,Option.bind_some]
 cases catV l with
 | false=>exact ⟨2,rfl,fun h=>nomatch h⟩
 | true =>
  obtain ⟨v,h1,h2⟩:=zbW4 l a.name hl
  simp only [Bool.not_true,Bool.false_eq_true,if_false,h1,Option.bind_some]
  cases hv:v.2 with
  | false=>exact ⟨10,rfl,fun h=>nomatch h⟩
  | true =>
   simp only [Bool.not_true,Bool.false_eq_true,if_false]
   cases hf:zt6 v.1 a.amount with
   | false=>exact ⟨12,rfl,fun h=>nomatch h⟩
   | true=>exact ⟨0,rfl,fun _=>⟨v.1,(h2 hv).1,(h2 hv).2,by rw [← zaO0]; exact hf⟩⟩
theorem zaU0 (l:List Resource) (e:Expr) (hl:l.length≤1000):∃ v,zA8 l e=some v∧(v=0→∀ L b,zn3 e=some (L,b)→∀ a ∈ L,∃ r ∈ l,r.name=a.name∧zb3 r a.amount=true):=by
 unfold zA8
 obtain ⟨w,h1,h2⟩:=zax7 e
 have hw:=zbu2 h1
 rw [h1,Option.bind_some]
 cases h3:w.2 with
 | false=>exact ⟨1,rfl,fun h=>nomatch h⟩
 | true =>
  simp only [Bool.not_true,Bool.false_eq_true,if_false]
  obtain ⟨r,h4,h5⟩:=zr8 (body:=zag2 l w) (fun g=>∃ i:Nat,g=i∧i≤w.1.length∧∀ k,k < i→∃ r ∈ l,r.name=(w.1.getD k Atom.zero).name∧zb3 r (w.1.getD k Atom.zero).amount=true) (fun g=>w.1.length - g.toNat)
   (fun r=>(∃ v,r=.inr v∧v≠0)∨r=.inl ()∧∀ k,k < w.1.length→∃ r ∈ l,r.name=(w.1.getD k Atom.zero).name∧zb3 r (w.1.getD k Atom.zero).amount=true)
   (fun g ⟨i,hi,hle,hg⟩=>by
    subst hi
    unfold zag2
    by_cases c:i < w.1.length
    ·have h3:0≤(i:Int)∧(i:Int) < (w.1.length:Int):=by omega
     obtain ⟨v,e1,e2⟩:=zbz6 l (w.1.getD i Atom.zero) hl
     simp only [h3.1,h3.2,and_self,zm3,decide_true,if_true,Int.toNat_natCast,zc4 i (show i < 4611686018427387904 by omega),e1,Option.bind_some]
     by_cases d:v=0
     ·rw [if_neg (by simp [d])]
      refine .inl ⟨_,rfl,⟨i+1,rfl,c,fun k hk=>?_⟩,by simp only [Int.toNat_natCast]; omega⟩
      rcases Nat.lt_or_ge k i with h5|h5
      ·exact hg k h5
      ·have:k=i:=by omega
       subst this; exact e2 d
     ·rw [if_pos (by simp [d])]
      exact .inr ⟨_,rfl,.inl ⟨v,rfl,d⟩⟩
    ·have:i=w.1.length:=by omega
     subst this
     right
     simp only [show ¬ (w.1.length:Int) < (w.1.length:Int) by omega,decide_false,Bool.false_eq_true,if_false]
     exact ⟨_,rfl,.inr ⟨rfl,hg⟩⟩) 0 ⟨0,rfl,by omega,fun k hk=>by omega⟩
  rw [h4]
  rcases h5 with ⟨v,rfl,hv⟩|⟨rfl,hg⟩
  ·exact ⟨v,rfl,fun h=>absurd h hv⟩
  ·refine ⟨0,rfl,fun _ L b hL a ha=>?_⟩
   cases hL
   obtain ⟨k,hk,rfl⟩:=zQ4 (z:=Atom.zero) ha
   exact hg k hk
end Ab
end Go.Proofs.YtcggeefhhegeoaaGreatDoor
