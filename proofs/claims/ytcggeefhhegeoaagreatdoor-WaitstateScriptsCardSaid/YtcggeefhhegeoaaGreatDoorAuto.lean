import Derived.Test.YtcggeefhhegeoaaGreatDoorSim
import Derived.Test.YtcggeefhhegeoaaGreatDoorProg
import Derived.KernelRfl
namespace Go.Proofs.YtcggeefhhegeoaaGreatDoor
namespace Ab
set_option linter.unusedSimpArgs false
set_option linter.unusedVariables false
def gd {α:Type} (p:Prop) [Decidable p] (k:Option α):Option α:=if p then k else none
theorem zg5 {α:Type} {p:Prop} [Decidable p] {k:Option α} {r:α} (h:gd p k=some r):p∧k=some r:=by
 unfold gd at h; split at h
 ·exact ⟨by assumption,h⟩
 ·cases h
theorem zg7 {α:Type} {p:Prop} [Decidable p] {k:Option α} (h:p):gd p k=k:=if_pos h
theorem zf1 {α β:Type} {m:Option α} {f:α→Option β} {r:β} (h:m.bind f=some r):∃ v,m=some v∧f v=some r:=by
 cases m with
 | none=>cases h
 | some v=>exact ⟨v,rfl,h⟩
theorem zaQ7 {α:Type} {c:Bool} {x y r:α} (hb:c=true) (h:(if c=true then x else y)=r):x=r:=by rw [if_pos hb] at h; exact h
theorem zdn9 {α:Type} {c:Bool} {x y r:α} (hb:c=false) (h:(if c=true then x else y)=r):y=r:=by subst hb; exact h
def iter {G X:Type} (body:G→Option (G⊕X)):Nat→G→Option X
 | 0,_=>none
 | n+1,g=>match body g with
  | none=>none
  | some (.inl g')=>iter body n g'
  | some (.inr x)=>some x
theorem zbw0 {G X:Type} {body:G→Option (G⊕X)} {x:X}:∀ {n m:Nat} {g:G},iter body n g=some x→n≤m→iter body m g=some x
 | 0,_,_,h,_=>by cases h
 | n+1,0,_,_,hm=>by omega
 | n+1,m+1,g,h,hm=>by
  simp only [iter] at h ⊢
  cases hb:body g with
  | none=>rw [hb] at h; cases h
  | some y =>
   rw [hb] at h
   cases y with
   | inl g'=>exact zbw0 (n:=n) (m:=m) h (by omega)
   | inr x'=>exact h
open Classical in
noncomputable def zc0 {G X:Type} (body:G→Option (G⊕X)) (g:G):Option X :=
 if h:∃ n x,iter body n g=some x then some (Classical.choose (Classical.choose_spec h)) else none
theorem zat0 {G X:Type} {body:G→Option (G⊕X)} {g:G} {x:X}:zc0 body g=some x ↔ ∃ n,iter body n g=some x:=by
 unfold zc0
 constructor
 ·intro h
  split at h
  ·rename_i hh
   cases h
   exact ⟨_,Classical.choose_spec (Classical.choose_spec hh)⟩
  ·cases h
 ·rintro ⟨n,hn⟩
  have hh:∃ n x,iter body n g=some x:=⟨n,x,hn⟩
  rw [dif_pos hh]
  have:=Classical.choose_spec (Classical.choose_spec hh)
  have h1:=zbw0 this (Nat.le_add_right _ n)
  have h2:=zbw0 hn (Nat.le_add_left n (Classical.choose hh))
  rw [h1] at h2
  exact h2
theorem zg1 {G X:Type} (body:G→Option (G⊕X)) (g:G):zc0 body g=match body g with
  | none=>none
  | some (.inl g')=>zc0 body g'
  | some (.inr x)=>some x:=by
 cases hb:body g with
 | none =>
  simp only
  cases h:zc0 body g with
  | none=>rfl
  | some x =>
   obtain ⟨n,hn⟩:=zat0.1 h
   cases n with
   | zero=>cases hn
   | succ n=>simp only [iter,hb] at hn; cases hn
 | some y =>
  cases y with
  | inr x=>exact zat0.2 ⟨1,by simp [iter,hb]⟩
  | inl g' =>
   simp only
   cases h:zc0 body g' with
   | some x =>
    obtain ⟨n,hn⟩:=zat0.1 h
    exact zat0.2 ⟨n+1,by simp only [iter,hb]; exact hn⟩
   | none =>
    cases h2:zc0 body g with
    | none=>rfl
    | some x =>
     obtain ⟨n,hn⟩:=zat0.1 h2
     cases n with
     | zero=>cases hn
     | succ n =>
      simp only [iter,hb] at hn
      rw [zat0.2 ⟨n,hn⟩] at h
      cases h
def zaQ8 (E:Env) {V:Type} (J:V→St) (P:V→Prop) (s:St):Prop:=∃ v,P v∧St.le E s (J v)
theorem zcm5 {E:Env} {V:Type} {J:V→St} {P:V→Prop} {s:St} {k:Nat} (hK:E.k0=k) (v:V) (h:P v) (l:List (Nat×Nat)) (hl:Le l s (J v)∧zaC1 k l (J v).nx=true):zaQ8 E J P s:=⟨v,h,St.le_of l hl.1 (by rw [hK]; exact hl.2)⟩
def zbk5 (E:Env) {V:Type} (J:V→St) (P:V→Prop) (Q:Exit→St→Prop):Exit→St→Prop:=fun e s=>match e with|.normal=>zaQ8 E J P s|e=>Q e s
def BlkJ (E:Env) {V:Type} (id:Nat) (J:V→St) (P:V→Prop) (Q:Exit→St→Prop):Exit→St→Prop:=fun e s=>match e with
 | .normal=>zaQ8 E J P s
 | .exit i=>if i=id then zaQ8 E J P s else Q (.exit i) s
 | e=>Q e s
def zcm6 (E:Env) {G X:Type} (I:G→St) (y:G⊕X) (s:St):Prop:=∃ g',y=.inl g'∧St.le E s (I g')
theorem zcm7 {E:Env} {G X:Type} {I:G→St} {g':G} {s:St} {k:Nat} (hK:E.k0=k) (l:List (Nat×Nat)) (hl:Le l s (I g')∧zaC1 k l (I g').nx=true):zcm6 (X:=X) E I (.inl g') s:=⟨g',rfl,St.le_of l hl.1 (by rw [hK]; exact hl.2)⟩
def zbC0 (E:Env) {G X:Type} (I:G→St) (y:G⊕X) (Q:Exit→St→Prop):Exit→St→Prop:=fun e s=>match e with|.normal=>zcm6 E I y s|e=>Q e s
section
variable {C:Cx} {E:Env} {Q:Exit→St→Prop} {st:St}
theorem AW.join {V:Type} {J:V→St} {c:PC} {Q':Exit→St→Prop} (h:AW C E c Q' st)
  (hq:∀ e s,Q' e s→Q e s∨∃ v,St.le E s (J v)∧Q e (J v)):AW C E c Q st :=
 fun code hc a w hs=>wp_mono (h code hc a w hs) fun e a' w' ⟨st',h1,h2⟩=>by
  rcases hq e st' h1 with h3|⟨v,h3,h4⟩
  ·exact ⟨st',h3,h2⟩
  ·exact ⟨J v,h4,h3 a' w' h2⟩
theorem zdk2 {x:PX} {p q:PC} {V:Type} (J:V→St) (P:V→Prop) {b:Bool} (hx:xv C.G st.slot x=.bool b) (hG:E.G=C.G) (hk:∀ v,P v→Q .normal (J v))
  (ht:b=true→AW C E p (zbk5 E J P Q) st) (hf:b=false→AW C E q (zbk5 E J P Q) st):AW C E (.cond x p q) Q st:=by
 have key:∀ c,AW C E c (zbk5 E J P Q) st→AW C E c Q st:=fun c h=>h.join (J:=J) fun e s h=>by
  cases e with
  | normal=>obtain ⟨v,h1,h2⟩:=h; exact .inr ⟨v,h2,hk v h1⟩
  | _=>exact .inl h
 exact zce0 hx hG (fun h=>key _ (ht h)) (fun h=>key _ (hf h))
theorem zP5 {id:Nat} {c:PC} {V:Type} (J:V→St) (P:V→Prop) (hk:∀ v,P v→Q .normal (J v)) (h:AW C E c (BlkJ E id J P Q) st):AW C E (.block id c) Q st:=by
 refine zbJ6 (h.join (J:=J) fun e s h=>?_)
 cases e with
 | normal=>obtain ⟨v,h1,h2⟩:=h; exact .inr ⟨v,h2,hk v h1⟩
 | exit i =>
  simp only [BlkJ] at h ⊢
  split at h
  ·obtain ⟨v,h1,h2⟩:=h
   rename_i hi
   exact .inr ⟨v,h2,by rw [if_pos hi]; exact hk v h1⟩
  ·rename_i hi; exact .inl (by rw [if_neg hi]; exact h)
 | _=>exact .inl h
def zcm8 (E:Env) {V:Type} (id:Nat) (J:V→St) (P:V→Prop) (Q:Exit→St→Prop):Exit→St→Prop:=fun e s=>match e with
 | .normal=>zaQ8 E J P s∨Q .normal s
 | .exit i=>if i=id then (zaQ8 E J P s∨Q .normal s) else Q (.exit i) s
 | e=>Q e s
theorem zbZ5 {id:Nat} {c:PC} {V:Type} (J:V→St) (P:V→Prop) (hk:∀ v,P v→Q .normal (J v)) (h:AW C E c (zcm8 E id J P Q) st):AW C E (.block id c) Q st:=by
 refine zbJ6 (h.join (J:=J) fun e s h=>?_)
 cases e with
 | normal =>
  rcases h with ⟨v,h1,h2⟩|h
  ·exact .inr ⟨v,h2,hk v h1⟩
  ·exact .inl h
 | exit i =>
  simp only [zcm8] at h ⊢
  split at h
  ·rename_i hi
   rcases h with ⟨v,h1,h2⟩|h
   ·exact .inr ⟨v,h2,by rw [if_pos hi]; exact hk v h1⟩
   ·exact .inl (by rw [if_pos hi]; exact h)
  ·rename_i hi; exact .inl (by rw [if_neg hi]; exact h)
 | _=>exact .inl h
theorem zce7 {c:PC} {G X:Type} {body:G→Option (G⊕X)} {g0:G} {x:X} (I:G→St) {k:Nat} (hK:E.k0=k) (l:List (Nat×Nat)) (hx:zc0 body g0=some x) (hle:Le l st (I g0)∧zaC1 k l (I g0).nx=true)
  (h:∀ g y,body g=some y→(∀ x',y=.inr x'→x'=x)→AW C E c (zbC0 E I y Q) (I g)):AW C E (.loop c) Q st:=by
 obtain ⟨n,hn⟩:=zat0.1 hx
 refine zdj3 (G:={ p:Nat×G // iter body p.1 p.2=some x }) (fun p=>I p.1.2) (fun _=>True) (fun p=>p.1.1) ⟨(n,g0),hn⟩ trivial (St.le_of l hle.1 (by rw [hK]; exact hle.2)) fun ⟨⟨m,g⟩,hm⟩ _=>?_
 cases m with
 | zero=>cases hm
 | succ m =>
  simp only [iter] at hm
  cases hb:body g with
  | none=>rw [hb] at hm; cases hm
  | some y =>
   rw [hb] at hm
   refine (h g y hb fun x' e=>by subst e; exact Option.some.inj hm).mono fun e s hs=>?_
   cases e with
   | normal =>
    obtain ⟨g',rfl,h2⟩:=hs
    exact ⟨⟨(m,g'),hm⟩,trivial,h2,Nat.lt_succ_self m⟩
   | _=>exact hs
def zcV1 (E:Env) {G X β:Type} (I:G→St) (body:G→Option (G⊕X)) (kk:X→Option β) (R:Option β) (s:St):Prop:=∃ g',(zc0 body g').bind kk=R∧St.le E s (I g')
def zcE5 (E:Env) {G X β:Type} (I:G→St) (body:G→Option (G⊕X)) (kk:X→Option β) (R:Option β) (Q:Exit→St→Prop):Exit→St→Prop:=fun e s=>match e with|.normal=>zcV1 E I body kk R s|e=>Q e s
theorem zce8 {G X β:Type} (I:G→St) (body:G→Option (G⊕X)) (kk:X→Option β) (R:Option β) (s:St):zcE5 E I body kk R Q .normal s=zcV1 E I body kk R s:=rfl
theorem zcK0 {G X β:Type} (I:G→St) (body:G→Option (G⊕X)) (kk:X→Option β) (R:Option β) (s:St):zcE5 E I body kk R Q .ret s=Q .ret s:=rfl
theorem zcw3 {G X β:Type} (I:G→St) (body:G→Option (G⊕X)) (kk:X→Option β) (R:Option β) (i:Nat) (s:St):zcE5 E I body kk R Q (.exit i) s=Q (.exit i) s:=rfl
theorem zcV2 {c:PC} {G X β:Type} {body:G→Option (G⊕X)} {kk:X→Option β} {r:β} (I:G→St) {k:Nat} (hK:E.k0=k) (h1:AW C E c (zcE5 E I body kk (some r) Q) st)
  (h:∀ x,kk x=some r→∀ g y,body g=some y→(∀ x',y=.inr x'→x'=x)→AW C E c (zbC0 E I y Q) (I g)):AW C E (.loop c) Q st:=by
 refine zdj4 (G:={ p:Nat×G // ∃ x,iter body p.1 p.2=some x∧kk x=some r }) (fun p=>I p.1.2) (fun _=>True) (fun p=>p.1.1) (fun ⟨⟨m,g⟩,x,hm,hx⟩ _=>?_) (h1.mono fun e s hs=>?_)
 ·cases m with
  | zero=>cases hm
  | succ m =>
   simp only [iter] at hm
   cases hb:body g with
   | none=>rw [hb] at hm; cases hm
   | some y =>
    rw [hb] at hm
    refine (h x hx g y hb fun x' e=>by subst e; exact Option.some.inj hm).mono fun e s hs=>?_
    cases e with
    | normal =>
     obtain ⟨g',rfl,h2⟩:=hs
     exact ⟨⟨(m,g'),x,hm,hx⟩,trivial,h2,Nat.lt_succ_self m⟩
    | _=>exact hs
 ·cases e with
  | normal =>
   obtain ⟨g',h2,h3⟩:=hs
   obtain ⟨x,h4,h5⟩:=zf1 h2
   obtain ⟨n,hn⟩:=zat0.1 h4
   exact ⟨⟨(n,g'),x,hn,h5⟩,trivial,h3⟩
  | _=>exact hs
theorem zce9 {V:Type} (J:V→St) (P:V→Prop) (s:St):zbk5 E J P Q .normal s=zaQ8 E J P s:=rfl
theorem zcK1 {V:Type} (J:V→St) (P:V→Prop) (s:St):zbk5 E J P Q .ret s=Q .ret s:=rfl
theorem zcw4 {V:Type} (J:V→St) (P:V→Prop) (i:Nat) (s:St):zbk5 E J P Q (.exit i) s=Q (.exit i) s:=rfl
theorem zcm9 {V:Type} (id:Nat) (J:V→St) (P:V→Prop) (s:St):BlkJ E id J P Q .normal s=zaQ8 E J P s:=rfl
theorem zcV3 {V:Type} (id:Nat) (J:V→St) (P:V→Prop) (s:St):BlkJ E id J P Q .ret s=Q .ret s:=rfl
theorem zcK2 {V:Type} (id:Nat) (J:V→St) (P:V→Prop) (i:Nat) (s:St):BlkJ E id J P Q (.exit i) s=if i=id then zaQ8 E J P s else Q (.exit i) s:=rfl
theorem zcf0 {G X:Type} (I:G→St) (y:G⊕X) (s:St):zbC0 E I y Q .normal s=zcm6 E I y s:=rfl
theorem zcK3 {G X:Type} (I:G→St) (y:G⊕X) (s:St):zbC0 E I y Q .ret s=Q .ret s:=rfl
theorem zcw5 {G X:Type} (I:G→St) (y:G⊕X) (i:Nat) (s:St):zbC0 E I y Q (.exit i) s=Q (.exit i) s:=rfl
theorem zcf1 {V:Type} (id:Nat) (J:V→St) (P:V→Prop) (s:St):zcm8 E id J P Q .normal s=(zaQ8 E J P s∨Q .normal s):=rfl
theorem zcK4 {V:Type} (id:Nat) (J:V→St) (P:V→Prop) (s:St):zcm8 E id J P Q .ret s=Q .ret s:=rfl
theorem zcw6 {V:Type} (id:Nat) (J:V→St) (P:V→Prop) (i:Nat) (s:St):zcm8 E id J P Q (.exit i) s=if i=id then (zaQ8 E J P s∨Q .normal s) else Q (.exit i) s:=rfl
attribute [go_sem] zcf1 zcK4 zcw6 zce8 zcK0 zcw3 zce9 zcK1 zcw4 zcm9 zcV3 zcK2 zcf0 zcK3 zcw5
end
def unfull:A→A
 | .full es=>.sl es
 | a=>a
theorem PFn.unfull {C:Cx} {f:FuncId} {az:List A} {r:A} (h:PFn C f (az.map unfull) r):PFn C f az r:=by
 intro w W vs hg hW hl ha
 refine h w W vs hg hW (by simpa using hl) fun i v a hv hx=>?_
 rw [List.getElem?_map] at hx
 cases hy:az[i]? with
 | none=>rw [hy] at hx; cases hx
 | some b =>
  rw [hy] at hx; cases hx
  have:=ha i v b hv hy
  cases b with
  | full es =>
   have h2:RepC w W v (.full es):=this
   cases h2 with
   | full a n es h=>exact h
  | _=>exact this
def unfullA:A→A
 | .full es=>.sl es
 | .agg cs=>.agg (zaN2 cs)
 | a=>a
theorem PFn.unfullA {C:Cx} {f:FuncId} {az az':List A} {r:A} (h:PFn C f az' r) (e:az.map Ab.unfullA=az':=by first|rfl|(simp [Ab.unfullA,zaN2,unfA]; done)):PFn C f az r:=by
 subst e
 intro w W vs hg hW hl ha
 refine h w W vs hg hW (by simpa using hl) fun i v a hv hx=>?_
 rw [List.getElem?_map] at hx
 cases hy:az[i]? with
 | none=>rw [hy] at hx; cases hx
 | some b =>
  rw [hy] at hx; cases hx
  have:=ha i v b hv hy
  cases b with
  | full es =>
   have h2:RepC w W v (.full es):=this
   exact h2.of_full.1
  | agg cs =>
   obtain ⟨us,hu,hl2,hr⟩:=this
   refine ⟨us,hu,by rw [zbv9]; exact hl2,fun i u c hu' hc=>?_⟩
   rw [zbL5] at hc
   obtain ⟨c0,hc0,rfl⟩:=Option.map_eq_some_iff.1 hc
   exact zcE4 (hr i u c0 hu' hc0)
  | _=>exact this
@[go_sem] theorem zdA1 (a b:Nat):Nat.min a b=min a b:=rfl
attribute [go_sem] Ab.unfull zaC1 fixL
attribute [go_sem] Int.cast_ofNat_Int List.take_length List.drop_zero Nat.mul_one Nat.min_self
def Imp (q p:Prop):Prop:=q→p
theorem Imp.and {q a b:Prop} (ha:a) (h:Imp q b):Imp q (a∧b):=fun hq=>⟨ha,h hq⟩
theorem Imp.refl {q:Prop}:Imp q q:=fun h=>h
theorem im {q p:Prop} (w:Imp q p:=by (simp only [go_sem,↓reduceIte,reduceCtorEq,Nat.reduceEqDiff,Nat.reduceAdd,Nat.reduceSub,Nat.reduceMul,Nat.reduceLeDiff,Nat.reduceLT,Int.reduceLE,Int.reduceLT,Int.reduceToNat,Int.reduceNeg]; (repeat ((with_reducible apply Imp.and); focus (first|assumption|omega|rfl|(simp; done)|(simp; omega)|(intros; simp_all; done)|grind))); exact Imp.refl)):Imp q p:=w
theorem i0 {q p:Prop} (w:Imp q p:=by (simp only [go_sem,↓reduceIte,reduceCtorEq,Nat.reduceEqDiff,Nat.reduceAdd,Nat.reduceSub,Nat.reduceMul,Nat.reduceLeDiff,Nat.reduceLT,Int.reduceLE,Int.reduceLT,Int.reduceToNat,Int.reduceNeg]; exact Imp.refl)):Imp q p:=w
theorem lw {p:Prop} (w:p:=by (simp only [go_sem,↓reduceIte,reduceCtorEq,Nat.reduceEqDiff,Nat.reduceAdd,Nat.reduceSub,Nat.reduceMul,Nat.reduceLeDiff,Nat.reduceLT,Int.reduceLE,Int.reduceLT,Int.reduceToNat,Int.reduceNeg]; first|(done)|trivial|(simp; done)|(repeat' (first|rfl|trivial|omega|(simp; done)|(simp; omega)|(congr 1; omega)|(congr 1; simp only [List.length_append,List.length_take,List.length_drop,List.length_replicate]; omega)|apply And.intro)))):p:=w
section
variable {C:Cx} {E:Env} {Q:Exit→St→Prop} {st:St} {q:Prop}
theorem g_st {p:Prop} (h:q) (e:Imp q p:=by exact i0):p:=e h
theorem zn4 (h:q) (e:Imp q (Q .normal st):=by exact i0):AW C E .skip Q st:=zdj1 (e h)
theorem zdk3 (h:q) (e:Imp q (Q .normal st):=by exact i0):AW C E .label Q st:=zcT6 (e h)
theorem zR6 {id:Nat} (h:q) (e:Imp q (Q (.exit id) st):=by exact i0):AW C E (.exit id) Q st:=zdj2 (e h)
theorem zw3 (h:q) (e:Imp q (Q .ret st):=by exact i0):AW C E .ret Q st:=zdq1 (e h)
theorem za9 {dr:List Nat} {ops:List POp} (hG:E.G=C.G) (h:q)
  (e:Imp q (arun C ops st fun s=>Q .normal (s.drop dr)):=by exact im):AW C E (.reg dr ops) Q st:=zdq2 hG (e h)
theorem zbc9 {dr:List Nat} {ops:List POp} (hm:C.P.follows .mixedOrders=true) (hG:E.G=C.G) (h:q)
  (e:Imp q (zaY2 C ops st fun s=>Q .normal (s.drop dr)):=by exact im):AW C E (.regd dr ops) Q st:=zdj6 hm hG (e h)
theorem zaF0 {dr:List Nat} {an:List (List Nat)} {ops:List POp} (hm:C.P.follows .mixedOrders=true) (hG:E.G=C.G) (h:q)
  (e:Imp q (zax9 C an ops st [] fun s=>Q .normal (s.drop dr)):=by exact im):AW C E (.regm dr an ops) Q st:=zdk0 hm hG (e h)
theorem zu6 {f:FuncId} {d:Option Nat} {g:Option (Nat×Bool)} {gv:Bool} {ob:Prop} {args:List A} {rw:List (Nat×MS)} {ps:List POp} {st:St} {K:St→Prop} {r:A}
  (hf:gv=true→PFn C f args r) (h:q)
  (e:Imp q (arun C ps (st.app d (zS4 g gv r) (if r.scal then [] else rw)) K):=by exact im)
  (ho:gv=true→ob:=by intro; trivial) (hg:g=none∨(if r.scal then [] else rw)=[]∧r.isVV=true:=by first|exact .inl rfl|exact .inr ⟨rfl,rfl⟩|exact .inr ⟨ite_self _,rfl⟩):zbB9 C f d g gv ob args rw ps st K:=zcU6 hf (e h) ho hg
theorem zau9 {f:FuncId} {d:Option Nat} {g:Option (Nat×Bool)} {gv:Bool} {ob:Prop} {args:List A} {rw:List (Nat×MS)} {ps:List POp} {st:St} {K:St→Prop} {r:A}
  (hf:gv=true→PFn C f args r) (h:q)
  (e:Imp q (zaY2 C ps (st.app d (zS4 g gv r) []) K):=by exact im)
  (ho:gv=true→ob:=by intro; trivial) (hg:g=none∨(if r.scal then [] else rw)=[]∧r.isVV=true:=by first|exact .inl rfl|exact .inr ⟨rfl,rfl⟩|exact .inr ⟨ite_self _,rfl⟩) (hn:(if r.scal then [] else rw)=[]:=by first|rfl|exact ite_self _):zbc7 C f d g gv ob args rw ps st K:=zcJ3 hf (e h) ho hg hn
theorem zal5 {an:List (List Nat)} {f:FuncId} {d:Option Nat} {g:Option (Nat×Bool)} {gv:Bool} {ob:Prop} {args:List A} {rw:List (Nat×MS)} {ids:List Nat} {cok:Bool} {ps:List POp} {st:St} {log:List (List Nat×List Nat)} {K:St→Prop} {r:A}
  (hf:gv=true→PFn C f args r) (h:q)
  (e:Imp q (zaY3 (an.getD log.length []) 0 log ids ((if r.scal then [] else rw).map (·.1))=true∧cok=true∧zax9 C an ps (st.app d (zS4 g gv r) (if r.scal then [] else rw)) (log++[(ids,(if r.scal then [] else rw).map (·.1))]) K):=by exact im)
  (ho:gv=true→ob:=by intro; trivial) (hg:g=none∨(if r.scal then [] else rw)=[]∧r.isVV=true:=by first|exact .inl rfl|exact .inr ⟨rfl,rfl⟩|exact .inr ⟨ite_self _,rfl⟩):zbc8 C an f d g gv ob args rw ids cok ps st log K:=zcJ5 hf (e h) ho hg
theorem zo2 {α:Type} {x:PX} {p q:PC} {b c:Bool} {X Y r:α} (hx:xv C.G st.slot x=.bool b) (hG:E.G=C.G) (h:(if c=true then X else Y)=r)
  (ht:b=true→X=r→AW C E p Q st) (hf:b=false→Y=r→AW C E q Q st) (e:b=c:=by first|rfl|(simp; done)|grind):AW C E (.cond x p q) Q st:=by
 subst e
 exact zce0 hx hG (fun hb=>ht hb (by rw [if_pos hb] at h; exact h)) (fun hb=>hf hb (by rw [hb] at h; simpa using h))
theorem zbh2 {α:Type} {x:PX} {p q:PC} {V:Type} (J:V→St) (P:V→Prop) {b c:Bool} {X Y r:α} (hx:xv C.G st.slot x=.bool b) (hG:E.G=C.G) (h:(if c=true then X else Y)=r) (hk:∀ v,P v→Q .normal (J v))
  (ht:b=true→X=r→AW C E p (zbk5 E J P Q) st) (hf:b=false→Y=r→AW C E q (zbk5 E J P Q) st) (e:b=c:=by first|rfl|(simp; done)|grind):AW C E (.cond x p q) Q st:=by
 subst e
 exact zdk2 J P hx hG hk (fun hb=>ht hb (by rw [if_pos hb] at h; exact h)) (fun hb=>hf hb (by rw [hb] at h; simpa using h))
theorem zW9 {α:Type} {x r:α} {p:Prop} (h:some x=some r) (e:x=r→p:=by (intro e; subst e; first|done|rfl|trivial|(simp; done)|(repeat' (first|rfl|trivial|omega|(simp; done)|(simp; omega)|(refine congrArg A.sl (congrArg (List.map _) ?_); exact List.take_of_length_le (by simp; omega))|apply And.intro)))):p:=e (Option.some.inj h)
theorem zdq8 {α:Type} {x r:α} {p:Prop} (h:x=r) (e:x=r→p:=by (intro e; subst e; first|done|rfl|trivial|(simp; done)|(repeat' (first|rfl|trivial|omega|(simp; done)|(simp; omega)|(refine congrArg A.sl (congrArg (List.map _) ?_); exact List.take_of_length_le (by simp; omega))|apply And.intro)))):p:=e h
theorem zI1 {V:Type} {J:V→St} {P:V→Prop} {s:St} {k:Nat} (hK:E.k0=k) (l:List (Nat×Nat)) (v:V) (h:P v)
  (hl:Le l s (J v)∧zaC1 k l (J v).nx=true:=by exact lw):zaQ8 E J P s:=zcm5 hK v h l hl
theorem zX1 {G X:Type} {I:G→St} {g':G} {y:G⊕X} {s:St} {k:Nat} (hK:E.k0=k) (l:List (Nat×Nat)) (h:some (.inl g')=some y)
  (hl:Le l s (I g')∧zaC1 k l (I g').nx=true:=by exact lw):zcm6 E I y s:=by
 cases h; exact zcm7 hK l hl
theorem zcE6 {G X β:Type} {I:G→St} {body:G→Option (G⊕X)} {kk:X→Option β} {R:Option β} {g':G} {s:St} {k:Nat} (hK:E.k0=k) (l:List (Nat×Nat)) (h:(zc0 body g').bind kk=R)
  (hl:Le l s (I g')∧zaC1 k l (I g').nx=true:=by exact lw):zcV1 E I body kk R s :=
 ⟨g',h,St.le_of l hl.1 (by rw [hK]; exact hl.2)⟩
theorem zao1 {c:PC} {G X β:Type} {body:G→Option (G⊕X)} {g0:G} {kk:X→Option β} {r:β} (I:G→St) {k:Nat} (hK:E.k0=k) (l:List (Nat×Nat)) (h:(zc0 body g0).bind kk=some r)
  (hb:∀ x,kk x=some r→∀ g y,body g=some y→(∀ x',y=.inr x'→x'=x)→AW C E c (zbC0 E I y Q) (I g))
  (hle:Le l st (I g0)∧zaC1 k l (I g0).nx=true:=by exact lw):AW C E (.loop c) Q st:=by
 obtain ⟨x,hx,hk⟩:=zf1 h
 exact zce7 I hK l hx hle (hb x hk)
theorem zdq9 {α:Type} {r:α} (h:none=some r):AW C E .dead Q st:=by cases h
theorem zbG9 {x:PX} {p r:PC} (hx:xv C.G st.slot x=.bool true) (hG:E.G=C.G) (h:AW C E p Q st):AW C E (.cond x p r) Q st:=zce0 hx hG (fun _=>h) (fun h=>by cases h)
theorem g_gh {c:PC} (g:Gh) (h:q) (e:Imp q (AW C E c Q (st.gh g)):=by exact i0) (hok:st.ghOk g:=by exact lw):AW C E c Q st:=zdx0 g hok (e h)
theorem zS7 {α:Type} {x r:α} {k:Nat} {st:St} {rs:List RX} {rl:List A} {ms':List (Nat×Row)} {k':Nat} (l:List (Nat×Nat)) (h:some x=some r)
  (e:x=r→zbA8 st rs∧zbJ9 rl=true∧Le l ⟨zI7 0 (resL st rs),st.mem,st.nx⟩ ⟨zI7 0 rl,ms',k'⟩∧zaC1 k l k'=true:=by (intro e; subst e; exact lw)):zaU7 k st rs rl ms' k':=by
 obtain ⟨h1,h2,h3,h4⟩:=e (Option.some.inj h)
 exact ⟨h1,h2,l,h3,h4⟩
@[go_sem] theorem zdf4 {α:Type} (a:Nat×α) (l m:List (Nat×α)) (n:Nat):look ((a :: l)++m) n=if a.1=n then some a.2 else look (l++m) n:=rfl
@[go_sem] theorem zdr0 (m:Nat→MS) (v:A) (vs ws:List A):zR5 m ((v :: vs)++ws)=frz m v :: zR5 m (vs++ws):=rfl
@[go_sem] theorem zdk4 (m:Nat→MS) (v:A) (vs ws:List A):zG8 m ((v :: vs)++ws)=(zaC0 m v∧zG8 m (vs++ws)):=rfl
@[go_sem] theorem zdf5 (v:A) (vs ws:List A):zG9 ((v :: vs)++ws)=zau7 v++zG9 (vs++ws):=rfl
@[go_sem] theorem zdu5 (m:Nat→MS) (l:List (Nat×Nat)) (k:Nat) (v a:A) (vs ws az:List A):zbq5 m l k ((v :: vs)++ws) (a :: az)=(argM m l k v a∧zbq5 m l k (vs++ws) az):=rfl
@[go_sem] theorem zdz2 (v a:A) (vs ws az:List A):fzM ((v :: vs)++ws) (a :: az)=(if a.hands then [] else zau7 v)++fzM (vs++ws) az:=rfl
@[go_sem] theorem zdk5 (q:Nat×MS) (r m:List (Nat×MS)) (n:Nat):nxt n ((q :: r)++m)=nxt (if q.1=n then n+1 else n) (r++m):=rfl
@[go_sem] theorem zdk6 {α:Type} (m:List (Nat×α)) (n:Nat):look ([]++m) n=look m n:=rfl
theorem zu2 {f:FuncId} {d:Option Nat} {ob:Prop} {vals:List A} {ps:List POp} {st:St} {K:St→Prop} (l nl:List (Nat×Nat)) (ids:List Nat) {az:List A} {ms ms':List (Nat×Row)} {k k':Nat} {r:A}
  (hf:MFn C f az ms k r ms' k') (hnl:newL k st.nx (k' - k)=nl) (hids:ms.map (·.1)++(List.range (k' - k)).map (k+·)=ids) (h:q)
  (e:Imp q (arun C ps (st.app d (renR (l++nl) r) (zS3 st.m (fzM vals az)++zae9 (l++nl) ms' ids)) K):=by exact im)
  (hok:okM st.m st.nx l vals az ms k k':=by exact lw)
  (ho:ob:=by trivial) (hr:zbc5 r=true:=by rfl):zao0 C f d none true ob vals ps st K:=by
 subst hnl; subst hids
 exact zcJ1 l hf hok (e h) ho hr
theorem zcV4 (ms:List (Nat×Row)) (k:Nat):ms.map (·.1)++(List.range (k - k)).map (k+·)=ms.map (·.1):=by rw [Nat.sub_self]; exact List.append_nil _
theorem zbr4 {α:Type} {X:Option α} {dv v:α} {c:Bool} {f:FuncId} {d:Option Nat} {g:Option (Nat×Bool)} {gv:Bool} {ob:Prop} {vals:List A} {ps:List POp} {st:St} {K:St→Prop} (l:List (Nat×Nat)) (ids:List Nat) {az:List A} {ms ms':List (Nat×Row)} {k:Nat} {r:A}
  (hv:(if c=true then X else some dv)=some v) (hf:X=some v→MFn C f az ms k r ms' k) (hids:ms.map (·.1)=ids) (h:q)
  (ec:gv=c:=by first|rfl|(simp; done)|grind) (hs:dv=v→zbq6 st.m (zS3 st.m (fzM vals az)++zae9 l ms' ids):=by (intro e; subst e; simp only [go_sem,↓reduceIte,reduceCtorEq,Nat.reduceEqDiff,Nat.reduceAdd,Nat.reduceSub,Nat.reduceMul,Nat.reduceLeDiff,Nat.reduceLT,Int.reduceLE,Int.reduceLT,Int.reduceToNat,Int.reduceNeg]; first|(done)|trivial|(simp; done)|(repeat' (first|rfl|trivial|(simp; done)|apply And.intro))))
  (e:Imp q (arun C ps (st.app d (zS4 g gv (renR l r)) (zS3 st.m (fzM vals az)++zae9 l ms' ids)) K):=by exact im)
  (hok:okM st.m st.nx l vals az ms k k:=by exact lw)
  (ho:gv=true→ob:=by first|(intro; trivial)|(intro; simp_all; done)) (hr:zbc5 r=true:=by rfl) (hvv:(renR l r).isVV=true:=by rfl):zao0 C f d g gv ob vals ps st K:=by
 subst hids; subst ec
 refine zcv9 l (fun hg=>hf (zaQ7 hg hv)) (fun _=>hok) ?_ ?_ ho hr hvv
 ·intro hg; unfold mwM; rw [zcV4]; exact hs (Option.some.inj (zdn9 hg hv))
 ·unfold mwM; rw [zcV4]; exact e h
theorem zbL7 {an:List (List Nat)} {f:FuncId} {d:Option Nat} {ob:Prop} {vals:List A} {vi:List Nat} {cok:Bool} {ps:List POp} {st:St} {log:List (List Nat×List Nat)} {K:St→Prop} (l nl:List (Nat×Nat)) (ids:List Nat) {az:List A} {ms ms':List (Nat×Row)} {k k':Nat} {r:A}
  (hf:MFn C f az ms k r ms' k') (hnl:newL k st.nx (k' - k)=nl) (hids:ms.map (·.1)++(List.range (k' - k)).map (k+·)=ids) (h:q)
  (e:Imp q (zaY3 (an.getD log.length []) 0 log vi ((zS3 st.m (fzM vals az)++zae9 (l++nl) ms' ids).map (·.1))=true∧cok=true∧zax9 C an ps (st.app d (renR (l++nl) r) (zS3 st.m (fzM vals az)++zae9 (l++nl) ms' ids)) (log++[(vi,(zS3 st.m (fzM vals az)++zae9 (l++nl) ms' ids).map (·.1))]) K):=by exact im)
  (hok:okM st.m st.nx l vals az ms k k':=by exact lw)
  (ho:ob:=by trivial) (hr:zbc5 r=true:=by rfl):zaG8 C an f d none true ob vals vi cok ps st log K:=by
 subst hnl; subst hids
 exact zcw1 l hf hok (e h) ho hr
theorem zcf2 {α β:Type} {x r:α} (h:some (Sum.inl x:α⊕β)=some (.inl r)):some x=some r:=by cases h; rfl
theorem zbh3 {α β:Type} {x r:β} (h:some (Sum.inr x:α⊕β)=some (.inr r)):some x=some r:=by cases h; rfl
theorem zcE7 {α:Type} {c gv:Bool} {X Y r:α} {f:FuncId} {d:Option Nat} {g:Option (Nat×Bool)} {ob:Prop} {vals:List A} {ps:List POp} {st:St} {K:St→Prop} (h:(if c=true then X else Y)=r)
  (ht:gv=true→X=r→zao0 C f d g gv ob vals ps st K) (hf:gv=false→Y=r→zao0 C f d g gv ob vals ps st K) (ec:gv=c:=by first|rfl|(simp; done)|grind):zao0 C f d g gv ob vals ps st K:=by
 subst ec
 cases hg:gv with
 | true=>rw [hg] at ht; exact ht rfl (zaQ7 hg h)
 | false=>rw [hg] at hf; exact hf rfl (zdn9 hg h)
theorem zcn0 {gv:Bool} {f:FuncId} {d:Option Nat} {g:Option (Nat×Bool)} {ob:Prop} {vals:List A} {ps:List POp} {st:St} {K:St→Prop} (hc:gv=true) (l nl:List (Nat×Nat)) (ids:List Nat) {az:List A} {ms ms':List (Nat×Row)} {k k':Nat} {r:A}
  (hf:MFn C f az ms k r ms' k') (hnl:newL k st.nx (k' - k)=nl) (hids:ms.map (·.1)++(List.range (k' - k)).map (k+·)=ids) (h:q)
  (e:Imp q (arun C ps (st.app d (zS4 g true (renR (l++nl) r)) (zS3 st.m (fzM vals az)++zae9 (l++nl) ms' ids)) K):=by exact im)
  (hok:okM st.m st.nx l vals az ms k k':=by exact lw)
  (ho:ob:=by first|trivial|(simp_all; done)) (hr:zbc5 r=true:=by rfl) (hvv:(renR (l++nl) r).isVV=true:=by rfl):zao0 C f d g gv ob vals ps st K:=by
 subst hnl; subst hids; subst hc
 exact ⟨l,az,ms,k,r,ms',k',fun _=>⟨ho,hf,hok,trivial⟩,(fun h=>nomatch h),.inr hvv,zbc6 hr,e h⟩
theorem zcE8 (m:Nat→MS) (nx:Nat) (vals:List A):mwM m ([]++newL 0 nx (0 - 0)) vals [] [] [] 0 0=[]:=by cases vals <;> rfl
theorem zcn1 {gv:Bool} {f:FuncId} {d:Option Nat} {g:Option (Nat×Bool)} {ob:Prop} {vals:List A} {ps:List POp} {st:St} {K:St→Prop} (hc:gv=false) (dv:A) (h:q)
  (e:Imp q (arun C ps (st.app d (zS4 g false dv) []) K):=by exact im)
  (hd:renR [] dv=dv:=by rfl) (hn:zbc5 dv=true:=by rfl) (hvv:dv.isVV=true:=by rfl):zao0 C f d g gv ob vals ps st K:=by
 subst hc
 have hd':renR ([]++newL 0 st.nx (0 - 0)) dv=dv:=hd
 refine ⟨[],[],[],0,dv,[],0,(fun h=>nomatch h),fun _=>⟨rfl,?_⟩,.inr ?_,zbc6 hn,?_⟩
 ·rw [zcE8]; trivial
 ·rw [hd']; exact hvv
 ·rw [zcE8,hd']; exact e h
end
inductive TK where
 | b
 | i (k:IntKind)
 | s
 | st (fs:List (Nat×Nat))
 | ar (n e:Nat)
 | sl (e:Nat)
 | o
structure TI where
 k:TK
 n:Nat
 y:Nat
def lk {α:Type}:List (Nat×α)→Nat→α→α
 | [],_,d=>d
 | q :: r,n,d=>bif Nat.beq q.1 n then q.2 else lk r n d
structure TC where
 t:List (Nat×TI)
 m:List (Nat×Option Unit)
 z:Nat→Nat→List A
 k:{o:Operand}→Nat→PX
def TC.ty (c:TC) (t:Nat):TI:=lk c.t t ⟨.o,1,0⟩
def TC.el (c:TC) (t:Nat):Nat:=match (c.ty t).k with|.sl e=>e|.ar _ e=>e|_=>0
def TC.ag (c:TC) (t:Nat):Bool:=match (c.ty t).k with|.st _=>true|.ar _ _=>true|_=>false
def TC.lf (c:TC):Nat→Nat→List LK
 | 0,_=>[]
 | d+1,t=>match (c.ty t).k with
  | .b=>[.b]
  | .i k=>[.i k]
  | .s=>[.s]
  | .st fs=>fs.flatMap fun q=>c.lf d q.2
  | _=>[]
def TC.x (c:TC) (t:Nat) (o:Operand):PX:=match o with
 | .tmp n=>.t n
 | .const _=>c.k (o:=o) t
 | .global g=>.g g
 | .func f=>.f f
def zdo0:Operand→Bool
 | .const (.slice _ _ _)=>true
 | _=>false
def TC.bo (c:TC) (op:BinOp) (t:Nat) (x y:Operand):PO×List PX:=match (c.ty t).k with
 | .sl _=>(.eqNil,[c.x t x])
 | .b=>(.eqb (match op with|.neq=>true|_=>false),[c.x t x,c.x t y])
 | .st _=>(.eqa (match op with|.neq=>true|_=>false) (c.lf 9 t),[c.x t x,c.x t y])
 | .ar _ _=>(.eqa (match op with|.neq=>true|_=>false) (c.lf 9 t),[c.x t x,c.x t y])
 | _=>(.bin op,[c.x t x,c.x t y])
def TC.args (c:TC):List Operand→List Nat→List PX
 | x :: xs,t :: ts=>c.x t x :: c.args xs ts
 | x :: xs,[]=>c.x 0 x :: c.args xs []
 | [],_=>[]
def TC.op (c:TC) (h ty:Nat):Op→PO×List PX
 | .move x=>bif zdo0 x then (bif Nat.beq h 0 then (.mv,[.c (A.sl [])]) else (.nilown (c.ty (c.el ty)).n (c.z 0 (c.el ty)),[.c (A.full [])])) else (.mv,[c.x ty x])
 | .assign x=>bif zdo0 x then (bif Nat.beq h 0 then (.mv,[.c (A.sl [])]) else (.nilown (c.ty (c.el ty)).n (c.z 0 (c.el ty)),[.c (A.full [])])) else (.mv,[c.x ty x])
 | .pick a x y=>(.pick,[c.x 0 a,c.x 0 x,c.x 0 y])
 | .box t x=>(.box (c.ty t).n,[c.x t x])
 | .alloc t=>(.alloc (c.ty t).n (c.z h t),[])
 | .build t ps=>(.build (c.z h t) (ps.toList.map fun p=>match (c.ty t).k with
   | .st fs=>((fs.getD p.1 (0,0)).1,(c.ty (fs.getD p.1 (0,0)).2).n)
   | _=>(p.1 * (c.ty (c.el t)).n,(c.ty (c.el t)).n)),ps.toList.map fun p=>match (c.ty t).k with
   | .st fs=>c.x (fs.getD p.1 (0,0)).2 p.2
   | _=>c.x (c.el t) p.2)
 | .buildSlice t _ ps=>(bif Nat.beq h 0 then .bslice (c.ty (c.el t)).n (c.z 0 (c.el t)) else .bown (c.ty (c.el t)).n (c.z 0 (c.el t)),ps.toList.map fun p=>c.x (c.el t) p.2)
 | .load t x=>(.load (c.ty t).n (c.ag t),[c.x 0 x])
 | .store t x y=>(.store (c.ty t).n,[c.x 0 x,c.x t y])
 | .binOp op t x y _=>c.bo op t x y
 | .unOp .neg _ x=>(.neg,[c.x 0 x])
 | .unOp _ _ x=>(.not,[c.x 0 x])
 | .convert t u x=>(match (c.ty t).k,(c.ty u).k with
  | .sl _,.s=>.cvS
  | .s,.sl _=>.cvB
  | _,.i k=>.conv k
  | _,_=>.mv,[c.x 0 x])
 | .field t x i=>(match (c.ty t).k with
  | .st fs=>.field (fs.getD i (0,0)).1 (c.ty (fs.getD i (0,0)).2).n (c.ag (fs.getD i (0,0)).2)
  | _=>.mv,[c.x 0 x])
 | .fieldAddr t x i=>(match (c.ty t).k with
  | .st fs=>.faddr (fs.getD i (0,0)).1
  | _=>.mv,[c.x 0 x])
 | .indexAddr t x i=>(match (c.ty t).k with
  | .ar n e=>.iaA n (c.ty e).n
  | _=>.iaS (c.ty (c.el t)).n (c.z 0 (c.el t)),[c.x 0 x,c.x 0 i])
 | .index t x i=>(match (c.ty t).k with
  | .ar n e=>.idxA n (c.ty e).n (c.ag e)
  | _=>.idxS,[c.x t x,c.x 0 i])
 | .slice t x l u m=>(match (c.ty t).k with
  | .s=>.slcS l.isSome u.isSome
  | _=>.slc (c.ty (c.el t)).n l.isSome u.isSome m.isSome,c.x 0 x :: (l.toList++u.toList++m.toList).map (c.x 0))
 | .extract x i=>(.ext i,[c.x 0 x])
 | .nilCheck x=>(.nilck,[c.x 0 x])
 | .makeSlice t x y=>(.mk (c.ty (c.el t)).n (c.ty (c.el t)).y (c.z 0 (c.el t)),[c.x 0 x,c.x 0 y])
 | .makeFunc (.func f) _ xs=>(.mkf f,xs.toList.map (c.x 0))
 | .call ⟨.builtin b,xs,ts⟩=>(match b,ts.toList with
  | .len,[t]=>(match (c.ty t).k with|.s=>.lenS|_=>.len)
  | .append,t :: _=>(match h with
   | 0=>.append (c.ty (c.el t)).n (c.ty (c.el t)).y (c.z 0 (c.el t))
   | 1=>.appc (c.ty (c.el t)).n (c.ty (c.el t)).y
   | _=>.apl (c.ty (c.el t)).n (c.ty (c.el t)).y)
  | .copy,t :: _=>.copy (c.ty (c.el t)).n
  | .clear,t :: _=>.clear (c.ty (c.el t)).n (c.z 0 (c.el t))
  | .min,_=>.min
  | .max,_=>.max
  | _,_=>.mv,xs.toList.map (c.x 0))
 | .call ⟨.value (.func f),xs,ts⟩=>(match lk c.m f none,h with
  | none,0=>.call f
  | none,_=>.callm f
  | some _,0=>.callm f
  | some _,_=>.call f,c.args xs.toList ts.toList)
 | .call ⟨.value x,xs,_⟩=>(match h with|0=>.callv|_=>.callvm,c.x 0 x :: xs.toList.map (c.x 0))
 | _=>(.mv,[])
def opTs:List Operand→List Nat
 | []=>[]
 | .tmp n :: r=>n :: opTs r
 | _ :: r=>opTs r
def gTs (ops:List Oper):Option (Nat×Bool)→List Nat
 | none=>[]
 | some q=>match (ops[q.1]?).bind (·.dst) with
  | some d=>[d]
  | none=>[]
def zcw7 (ops:List Oper):List Oper→List Nat
 | []=>[]
 | o :: r=>opTs o.op.operands.toList++gTs ops o.guard++zcw7 ops r
def bits:List Nat→Nat
 | []=>0
 | t :: r=>Nat.lor (Nat.shiftLeft 1 t) (bits r)
def zdo1 (m:Nat) (a:Nat×Nat):Nat×Nat:=match a with
 | (s,u)=>(Nat.lor s m,Nat.lor u (Nat.land s m))
def zbC1:Code→Nat×Nat→Nat×Nat
 | .region _ ops _,a=>zdo1 (bits (zcw7 ops.toList ops.toList)) a
 | .seq x y,a=>zbC1 y (zbC1 x a)
 | .cond x y z,a=>zbC1 z (zbC1 y (zdo1 (bits (opTs [x])) a))
 | .block _ x,a=>zbC1 x a
 | .loop x,a=>zbC1 x a
 | .scope x,a=>zbC1 x a
 | _,a=>a
def resU:List ResultVar→List Nat
 | []=>[]
 | .tmp t :: r=>t :: resU r
 | .cell t _ :: r=>t :: resU r
def zcn2 (f:Func):Nat×Nat:=match f.body with
 | some b=>zbC1 b (0,bits (resU f.results.toList))
 | none=>(0,0)
def has (m t:Nat):Bool:=Nat.beq (Nat.land (Nat.shiftRight m t) 1) 1
def zbh4 (s u m:Nat):List Oper→List Nat
 | []=>[]
 | o :: r=>match o.dst with
  | none=>zbh4 s u m r
  | some t=>bif has u t then zbh4 s u m r else bif has m t then t :: zbh4 s u m r else bif has s t then zbh4 s u m r else t :: zbh4 s u m r
def zcw8 (s u:Nat) (ops:List Oper):List Nat:=zbh4 s u (bits (zcw7 ops ops)) ops
def PO.wr:PO→Bool
 | .nilown _ _|.box _|.alloc _ _|.bown _ _|.store _|.append _ _ _|.appc _ _|.copy _|.clear _ _|.mk _ _ _|.callm _|.callvm=>true
 | _=>false
def zdo2:List Oper→Bool
 | []=>false
 | o :: r=>match o.op with
  | .panic _=>true
  | _=>zdo2 r
def gOf (ops:List Oper):Option (Nat×Bool)→Option (Nat×Bool)
 | none=>none
 | some q=>some (((ops[q.1]?).bind (·.dst)).getD 0,q.2)
def TC.ops (c:TC) (hs:List (Nat×Nat)) (all:List Oper):List Oper→List POp
 | []=>[]
 | o :: r=>(match c.op (match o.dst with|some d=>lk hs d 0|none=>0) o.type o.op with
  | (p,xs)=>⟨o.dst,gOf all o.guard,p,xs⟩) :: c.ops hs all r
def wrs:List POp→Bool
 | []=>false
 | p :: r=>bif p.po.wr then true else wrs r
def TC.code (c:TC) (hs:List (Nat×Nat)) (s u:Nat):Code→PC
 | .skip=>.skip
 | .region id ops d=>bif zdo2 ops.toList then .dead else
   match d with
   | false=>.reg (zcw8 s u ops.toList) (c.ops hs ops.toList ops.toList)
   | true=>bif wrs (c.ops hs ops.toList ops.toList)||(Nat.beq (lk hs (1000+id) 0) 1) then .regm (zcw8 s u ops.toList) (ancs [] (ops.toList.map zE9)) (c.ops hs ops.toList ops.toList) else .regd (zcw8 s u ops.toList) (c.ops hs ops.toList ops.toList)
 | .seq a b=>.seq (c.code hs s u a) (c.code hs s u b)
 | .cond x a b=>.cond (c.x 0 x) (c.code hs s u a) (c.code hs s u b)
 | .block i a=>.block i (c.code hs s u a)
 | .loop a=>.loop (c.code hs s u a)
 | .exit i=>.exit i
 | .scope a=>.scope (c.code hs s u a)
 | .label _=>.label
 | .ret=>.ret
 | _=>.skip
def TC.rx (c:TC):List ResultVar→List RX
 | []=>[]
 | .tmp t :: r=>.t t :: c.rx r
 | .cell t y :: r=>.c t (c.ty y).n (c.ag y) :: c.rx r
def TC.tr (c:TC) (hs:List (Nat×Nat)) (s u:Nat) (f:Func):PC×Nat×List RX×Nat :=
 (match f.body with
  | some b=>c.code hs s u b
  | none=>.skip,f.ntmps,c.rx f.results.toList,Nat.add f.params.size f.nfree)
def cst (z:Nat→Nat→List A) (t:Nat):Value→A
 | .bool b=>.bool b
 | .int k n=>.int k n
 | .string s=>.str s
 | .slice _ _ _=>.full []
 | .agg _=>.agg (z 0 t)
 | _=>.any
def kon (z:Nat→Nat→List A) {o:Operand} (t:Nat):PX:=match o with
 | .const v=>.c (cst z t v)
 | _=>.c .any
attribute [go_sem] kon cst
def zcf3:Arr (Arr Bool 5) 5:=⟨[⟨[true,true,true,true,false],rfl⟩,⟨[true,true,false,false,false],rfl⟩,⟨[true,false,true,false,false],rfl⟩,⟨[true,false,false,false,false],rfl⟩,⟨[false,false,false,false,false],rfl⟩],rfl⟩
noncomputable def C:Cx:=⟨Tryz.prog,[(0,Arr.enc (Arr.enc eB) zcf3)]⟩
@[go_sem] theorem C_G:C.G=[(0,Arr.enc (Arr.enc eB) zcf3)]:=rfl
theorem zL7:C.P.follows .mixedOrders=true:=by kernel_rfl
def cT:List (Nat×TI):=[(0,⟨.o,1,0⟩),(3,⟨.i .i64,1,8⟩),(4,⟨.b,1,1⟩),(5,⟨.i .u8,1,1⟩),(9,⟨.s,1,16⟩),(20,⟨.o,1,16⟩),(22,⟨.sl 3,1,24⟩),(25,⟨.sl 72,1,24⟩),(26,⟨.sl 59,1,24⟩),(28,⟨.st [(0,25),(1,26)],2,48⟩),(31,⟨.sl 5,1,24⟩),(32,⟨.i .i64,1,8⟩),(33,⟨.o,1,0⟩),(35,⟨.o,1,0⟩),(38,⟨.sl 44,1,24⟩),(41,⟨.sl 4,1,24⟩),(44,⟨.st [(0,3),(1,3),(2,3)],3,24⟩),(52,⟨.st [(0,3),(1,3)],2,16⟩),(54,⟨.st [(0,9),(1,52)],3,32⟩),(55,⟨.sl 57,1,24⟩),(57,⟨.st [(0,3),(1,54),(4,55)],5,64⟩),(59,⟨.st [(0,44),(3,57),(8,3)],9,96⟩),(60,⟨.o,1,0⟩),(63,⟨.o,1,8⟩),(65,⟨.st [(0,22),(1,3)],2,32⟩),(68,⟨.st [(0,9),(1,3),(2,3),(3,3)],4,40⟩),(69,⟨.sl 108,1,24⟩),(70,⟨.sl 110,1,24⟩),(72,⟨.st [(0,68),(4,69),(5,70),(6,70),(7,3)],8,120⟩),(74,⟨.sl 127,1,24⟩),(76,⟨.st [(0,3),(1,25),(2,74)],3,56⟩),(82,⟨.o,1,8⟩),(84,⟨.st [(0,31),(1,32)],2,32⟩),(86,⟨.st [(0,84)],2,32⟩),(92,⟨.o,1,8⟩),(94,⟨.o,1,8⟩),(98,⟨.sl 54,1,24⟩),(101,⟨.o,1,0⟩),(108,⟨.st [(0,44),(3,52)],5,40⟩),(110,⟨.st [(0,44),(3,52),(5,3),(6,3)],7,56⟩),(111,⟨.o,1,8⟩),(113,⟨.st [(0,31),(1,3),(2,32)],3,40⟩),(118,⟨.o,1,8⟩),(120,⟨.sl 239,1,24⟩),(121,⟨.sl 244,1,24⟩),(123,⟨.st [(0,120),(1,121)],2,48⟩),(125,⟨.st [(0,57),(5,3),(6,3)],7,80⟩),(127,⟨.st [(0,44),(3,3),(4,123),(6,4),(7,125),(14,3),(15,3)],16,184⟩),(128,⟨.sl 68,1,24⟩),(129,⟨.sl 167,1,24⟩),(130,⟨.o,1,0⟩),(132,⟨.o,1,0⟩),(136,⟨.i .u64,1,8⟩),(137,⟨.ar 3 3,3,24⟩),(138,⟨.o,1,8⟩),(142,⟨.o,1,0⟩),(145,⟨.o,1,8⟩),(149,⟨.o,1,8⟩),(153,⟨.o,1,0⟩),(160,⟨.o,1,8⟩),(167,⟨.st [(0,3),(1,44),(4,125),(11,9),(12,3)],13,136⟩),(169,⟨.o,1,0⟩),(171,⟨.sl 296,1,24⟩),(172,⟨.o,1,0⟩),(174,⟨.i .u64,1,8⟩),(175,⟨.o,1,0⟩),(177,⟨.o,1,0⟩),(180,⟨.o,1,8⟩),(187,⟨.ar 3 136,3,24⟩),(188,⟨.o,1,0⟩),(192,⟨.o,1,8⟩),(209,⟨.sl 9,1,24⟩),(212,⟨.o,1,8⟩),(215,⟨.st [(0,76),(3,171)],4,80⟩),(218,⟨.sl 70,1,24⟩),(220,⟨.o,1,0⟩),(239,⟨.st [(0,9),(1,52),(3,52)],5,48⟩),(244,⟨.st [(0,3),(1,3)],2,16⟩),(258,⟨.o,1,0⟩),(264,⟨.sl 52,1,24⟩),(272,⟨.o,1,0⟩),(277,⟨.o,1,0⟩),(284,⟨.o,1,0⟩),(286,⟨.o,1,0⟩),(288,⟨.o,1,0⟩),(292,⟨.ar 6 4,6,6⟩),(296,⟨.st [(0,3),(1,44),(4,9),(5,52)],7,64⟩),(297,⟨.o,1,0⟩),(305,⟨.ar 5 4,5,5⟩),(306,⟨.ar 5 305,25,25⟩),(310,⟨.o,1,0⟩),(312,⟨.o,1,0⟩),(314,⟨.o,1,0⟩)]
@[irreducible] def cZ:Nat→Nat→List A
 | 0,3=>[A.int .i64 0]
 | 0,4=>[A.bool false]
 | 0,5=>[A.int .u8 0]
 | 0,9=>[A.str ⟨#[]⟩]
 | 0,22=>[A.sl []]
 | 0,25=>[A.sl []]
 | 0,26=>[A.sl []]
 | 0,28=>WaitState.enc WaitState.zero
 | 0,31=>[A.sl []]
 | 0,32=>[A.int .i64 0]
 | 0,38=>[A.sl []]
 | 0,41=>[A.sl []]
 | 0,44=>Proc.enc Proc.zero
 | 0,52=>Amount.enc Amount.zero
 | 0,54=>Atom.enc Atom.zero
 | 0,55=>[A.sl []]
 | 0,57=>Expr.enc Expr.zero
 | 0,59=>Need.enc Need.zero
 | 0,65=>Tape.enc Tape.zero
 | 0,68=>Resource.enc Resource.zero
 | 0,69=>[A.sl []]
 | 0,70=>[A.sl []]
 | 0,72=>Queue.enc Queue.zero
 | 0,74=>[A.sl []]
 | 0,76=>Central.enc Central.zero
 | 0,84=>waitstateReader.enc waitstateReader.zero
 | 0,86=>decoder.enc decoder.zero
 | 0,98=>[A.sl []]
 | 0,108=>Hold.enc Hold.zero
 | 0,110=>Wait.enc Wait.zero
 | 0,113=>ref16Reader.enc ref16Reader.zero
 | 0,120=>[A.sl []]
 | 0,121=>[A.sl []]
 | 0,123=>Ledger.enc Ledger.zero
 | 0,125=>Request.enc Request.zero
 | 0,127=>Proce.enc Proce.zero
 | 0,128=>[A.sl []]
 | 0,129=>[A.sl []]
 | 0,136=>[A.int .u64 0]
 | 0,137=>Arr.enc (eI .i64) (Arr.rep 3 0)
 | 0,167=>Command.enc Command.zero
 | 0,171=>[A.sl []]
 | 0,174=>[A.int .u64 0]
 | 0,187=>Arr.enc (eI .u64) (Arr.rep 3 0)
 | 0,209=>[A.sl []]
 | 0,215=>work.enc work.zero
 | 0,218=>[A.sl []]
 | 0,239=>Entry.enc Entry.zero
 | 0,244=>Save.enc Save.zero
 | 0,264=>[A.sl []]
 | 0,292=>Arr.enc eB (Arr.rep 6 false)
 | 0,296=>Event.enc Event.zero
 | 0,305=>Arr.enc eB (Arr.rep 5 false)
 | 2,28=>[.sl [],.sl []]
 | 2,123=>[.sl [],.sl []]
 | 3,98=>[.full []]
 | 4,28=>[.sl [],.full []]
 | 5,28=>[.full [],.full []]
 | 5,123=>[.full [],.full []]
 | 14,215=>[.int .i64 0,.sl [],.full [],.full []]
 | 18,57=>[.int .i64 0,.str ⟨#[]⟩,.int .i64 0,.int .i64 0,.full []]
 | 114,72=>[.str ⟨#[]⟩,.int .i64 0,.int .i64 0,.int .i64 0,.full [],.full [],.full [],.int .i64 0]
 | _,_=>[A.any]
attribute [go_sem] cZ
def cM:List (Nat×Option Unit):=[(26,some ()),(33,some ()),(34,some ()),(35,some ()),(36,some ()),(37,some ()),(38,some ()),(40,some ()),(58,some ()),(59,some ()),(60,some ()),(61,some ()),(62,some ()),(77,some ()),(78,some ()),(79,some ()),(87,some ()),(89,some ()),(100,some ()),(101,some ()),(102,some ()),(109,some ()),(112,some ()),(113,some ()),(117,some ()),(118,some ()),(119,some ()),(125,some ()),(127,some ()),(128,some ()),(135,some ()),(142,some ()),(144,some ()),(145,some ()),(162,some ()),(164,some ()),(165,some ()),(167,some ()),(203,some ()),(205,some ()),(206,some ()),(207,some ()),(208,some ()),(209,some ()),(210,some ()),(211,some ()),(213,some ()),(214,some ()),(242,some ()),(243,some ()),(244,some ()),(246,some ()),(247,some ()),(248,some ()),(250,some ())]
class OkP {α:Type} (m:Option α) (f:outParam FuncId) (av:outParam (List A)) (R:outParam (α→A)):Prop where
  ok:∀ r,m=some r→PFn C f av (R r)
class OkM {α:Type} (m:Option α) (f:outParam FuncId) (av:outParam (List A)) (ms:outParam (List (Nat×Row))) (k:outParam Nat) (R:outParam (α→A)) (ms':outParam (α→List (Nat×Row))) (k':outParam Nat):Prop where
  ok:∀ r,m=some r→MFn C f av ms k (R r) (ms' r) k'
class OkT (f:FuncId) (av:List A) (r:outParam A):Prop where
  ok:PFn C f av r
class OkL {α β:Type} (m:Option (α⊕β)) (f:outParam FuncId) (av:outParam (List A)) (ms:outParam (List (Nat×Row))) (k:outParam Nat) (R:outParam (α→A)) (ms':outParam (α→List (Nat×Row))) (k':outParam Nat):Prop where
  ok:∀ r,m=some (.inl r)→MFn C f av ms k (R r) (ms' r) k'
class OkR {α β:Type} (m:Option (α⊕β)) (f:outParam FuncId) (av:outParam (List A)) (ms:outParam (List (Nat×Row))) (k:outParam Nat) (R:outParam (β→A)) (ms':outParam (β→List (Nat×Row))) (k':outParam Nat):Prop where
  ok:∀ r,m=some (.inr r)→MFn C f av ms k (R r) (ms' r) k'
theorem zaP4 {T:Type} {P:T→Prop} {fr:Nat→T} (h0:P (fr 0)) (hs:∀ n,P (fr n)→P (fr (n+1))):∀ n,P (fr n)
  | 0=>h0
  | n+1=>hs n (zaP4 h0 hs n)
def Mk {α:Type} (x:α):Prop:=True
theorem mkP {α β:Type} {x:α} (hm:Mk x) (v:β):Mk (x,v):=trivial
class JS {α:Type} (x:α) (id:Nat) {γ:outParam Type} {V:outParam Type} (k k':outParam (V→γ)) (J:outParam (V→St)):Prop where
  e:∀ v,k v=k' v
class LS {α G X:Type} (x:α) (b:G→Option (G⊕X)) (b':outParam (G→Option (G⊕X))) (I:outParam (G→St)):Prop where
  e:∀ v,b v=b' v
theorem mkJ {α:Type} (x:α) (id:Nat) {γ V:Type} {k k':V→γ} (e:∀ v,k v=k' v) (J:V→St):JS x id k k' J:=⟨e⟩
theorem mkL {α G X:Type} (x:α) {b b':G→Option (G⊕X)} (e:∀ v,b v=b' v) (I:G→St):LS x b b' I:=⟨e⟩
def prA:A→A→List (Nat×Nat)
  | .ptr x _ _,.ptr y _ _=>[(y,x)]
  | .own x _ _,.own y _ _=>[(y,x)]
  | _,_=>[]
def prC:List A→List A→List (Nat×Nat)
  | a :: r,b :: s=>prA a b++prC r s
  | _,_=>[]
def prE:List (List A)→List (List A)→List (Nat×Nat)
  | a :: r,b :: s=>prC a b++prE r s
  | _,_=>[]
def prS (s:List (Nat×A)):List (Nat×A)→List (Nat×Nat)
  | []=>[]
  | q :: r=>(match look s q.1 with|some b=>prA b q.2|none=>[])++prS s r
def prM (m:List (Nat×Row)) (l:List (Nat×Nat)):List (Nat×Row)→List (Nat×Nat)
  | []=>[]
  | q :: r=>(match look l q.1 with|some x=>(match look m x with|some w=>prE w.es q.2.es|none=>[])|none=>[])++prM m l r
def ptS (s:List (Nat×A)):List (Nat×A)→List (Nat×Nat)
  | []=>[]
  | q :: r=>(match q.2,look s q.1 with|.ptr y _ _,some (.ptr x _ _)=>[(y,x)]|_,_=>[])++ptS s r
def idL:Nat→List (Nat×Nat)
  | 0=>[]
  | n+1=>idL n++[(n,n)]
def rl (k:Nat) (b:Bool) (s J:St):List (Nat×Nat):=idL k++prS s.fr J.fr++if b then prM s.mem (idL k++ptS s.fr J.fr) J.mem else []
def ptC:List A→List A→List (Nat×Nat)
  | .ptr x _ _ :: r,.ptr y _ _ :: s=>(y,x) :: ptC r s
  | _ :: r,_ :: s=>ptC r s
  | _,_=>[]
def cl (b:Bool) (vals av:List A) (m ms:List (Nat×Row)):List (Nat×Nat):=prC vals av++if b then prM m (ptC vals av) ms else []
theorem lv {p:Prop} (w:p:=by
  (simp only [go_sem,↓reduceIte,reduceCtorEq,Nat.reduceEqDiff,Nat.reduceAdd,Nat.reduceSub,Nat.reduceMul,Nat.reduceLeDiff,Nat.reduceLT,Int.reduceLE,Int.reduceLT,Int.reduceToNat,Int.reduceNeg]
   first
   | (done)
   | trivial
   | (simp; done)
   | ((repeat' (first|rfl|trivial|omega|(simp; done)|(simp; omega)|(congr 1; omega)|(congr 1; simp only [List.length_append,List.length_take,List.length_drop,List.length_replicate]; omega)|apply And.intro)) <;> fail))):p:=w
section
variable {E:Env} {Q:Exit→St→Prop} {st:St} {q:Prop}
theorem isAW {c:PC} (h:AW C E c Q st):AW C E c Q st:=h
theorem zcV5 {f:FuncId} {d:Option Nat} {g:Option (Nat×Bool)} {gv:Bool} {ob:Prop} {args:List A} {rw:List (Nat×MS)} {ps:List POp} {st:St} {K:St→Prop} (h:zbB9 C f d g gv ob args rw ps st K):zbB9 C f d g gv ob args rw ps st K:=h
theorem zcE9 {f:FuncId} {d:Option Nat} {g:Option (Nat×Bool)} {gv:Bool} {ob:Prop} {args:List A} {rw:List (Nat×MS)} {ps:List POp} {st:St} {K:St→Prop} (h:zbc7 C f d g gv ob args rw ps st K):zbc7 C f d g gv ob args rw ps st K:=h
theorem zao7 {α γ V:Type} {x:α} {id:Nat} {k k':V→γ} {J:V→St} {R:γ} {c:PC} {m:γ} (hm:Mk x) (h:m=R) [i:JS x id k k' J]
    (hk:∀ v,Mk (k v)→k' v=R→Q .normal (J v)) (hb:AW C E c (BlkJ E id J (fun v=>k v=R) Q) st):AW C E (.block id c) Q st :=
  zP5 J _ (fun v e=>hk v trivial (by rw [← i.e]; exact e)) hb
theorem zdk7 {α γ V:Type} {z:α} {k k':V→γ} {J:V→St} {x:PX} {p q:PC} {b c:Bool} {X Y r:γ} (hm:Mk z) (hx:xv C.G st.slot x=.bool b) (hG:E.G=C.G) (h:(if c=true then X else Y)=r) [i:JS z 999 k k' J]
    (hk:∀ v,Mk (k v)→k' v=r→Q .normal (J v)) (ht:b=true→X=r→AW C E p (zbk5 E J (fun v=>k v=r) Q) st) (hf:b=false→Y=r→AW C E q (zbk5 E J (fun v=>k v=r) Q) st) (e:b=c:=by first|rfl|(simp; done)|grind):AW C E (.cond x p q) Q st :=
  zbh2 J _ hx hG h (fun v e=>hk v trivial (by rw [← i.e]; exact e)) ht hf e
theorem zcV6 {α:Type} {x:α} {c:PC} {G X β:Type} {body body':G→Option (G⊕X)} {I:G→St} {g0:G} {kk:X→Option β} {r:β} {k:Nat} {l:List (Nat×Nat)} (hm:Mk x) (hK:E.k0=k) (h:(zc0 body g0).bind kk=some r) [i:LS x body body' I]
    (hb:∀ g y,Mk (body g)→(∀ x',y=.inr x'→Mk x∧kk x'=some r)→body' g=some y→AW C E c (zbC0 E I y Q) (I g))
    (b:Bool) (hl:rl k b st (I g0)=l:=by ((conv=>lhs; reduce) <;> exact rfl))
    (hle:Le l st (I g0)∧zaC1 k l (I g0).nx=true:=by exact lv):AW C E (.loop c) Q st:=by
  obtain ⟨x,hx,hk⟩:=zf1 h
  refine zce7 I hK _ hx hle fun g y hy hz=>hb g y trivial (fun x' e=>⟨hm,?_⟩) (by rw [← i.e]; exact hy)
  rw [hz x' e]; exact hk
theorem zcF0 {α:Type} {x:α} {c:PC} {G X β:Type} {body body':G→Option (G⊕X)} {I:G→St} {g0:G} {kk:X→Option β} {r:β} {k:Nat} (hm:Mk x) (hK:E.k0=k) (l:List (Nat×Nat)) (h:(zc0 body g0).bind kk=some r) [i:LS x body body' I]
    (hb:∀ g y,Mk (body g)→(∀ x',y=.inr x'→Mk x∧kk x'=some r)→body' g=some y→AW C E c (zbC0 E I y Q) (I g))
    (hle:Le l st (I g0)∧zaC1 k l (I g0).nx=true:=by exact lv):AW C E (.loop c) Q st:=by
  obtain ⟨x,hx,hk⟩:=zf1 h
  refine zce7 I hK l hx hle fun g y hy hz=>hb g y trivial (fun x' e=>⟨hm,?_⟩) (by rw [← i.e]; exact hy)
  rw [hz x' e]; exact hk
theorem zcV7 {V γ:Type} {J:V→St} {k:V→γ} {R:γ} {s:St} {n:Nat} {v:V} {l:List (Nat×Nat)} (hK:E.k0=n) (h:k v=R)
    (b:Bool) (hl:rl n b s (J v)=l:=by ((conv=>lhs; reduce) <;> exact rfl))
    (hle:Le l s (J v)∧zaC1 n l (J v).nx=true:=by exact lv):zaQ8 E J (fun v=>k v=R) s:=zcm5 hK v h _ hle
theorem zcV8 {G X:Type} {I:G→St} {g':G} {y:G⊕X} {s:St} {k:Nat} {l:List (Nat×Nat)} (hK:E.k0=k) (h:some (.inl g')=some y)
    (b:Bool) (hl:rl k b s (I g')=l:=by ((conv=>lhs; reduce) <;> exact rfl))
    (hle:Le l s (I g')∧zaC1 k l (I g').nx=true:=by exact lv):zcm6 E I y s:=by
  cases h; exact zcm7 hK _ hle
theorem zdo3 {G X β:Type} {M:Prop} {y:G⊕X} {x:X} {kk:X→Option β} {R:Option β} (kx:∀ x',y=.inr x'→M∧kk x'=R) (h:some (.inr x)=some y):M∧kk x=R:=kx x (Option.some.inj h).symm
theorem zcf4 {α:Type} {x r:α} {k:Nat} {st:St} {rs:List RX} {rv:List A} {ms':List (Nat×Row)} {k':Nat} {l:List (Nat×Nat)} (b:Bool) (h:some x=some r)
    (hl:rl k b ⟨zI7 0 (resL st rs),st.mem,st.nx⟩ ⟨zI7 0 rv,ms',k'⟩=l:=by ((conv=>lhs; reduce) <;> exact rfl))
    (e:x=r→zbA8 st rs∧zbJ9 rv=true∧Le l ⟨zI7 0 (resL st rs),st.mem,st.nx⟩ ⟨zI7 0 rv,ms',k'⟩∧zaC1 k l k'=true:=by (intro e; subst e; exact lv)):zaU7 k st rs rv ms' k':=by
  obtain ⟨h1,h2,h3,h4⟩:=e (Option.some.inj h)
  exact ⟨h1,h2,l,h3,h4⟩
theorem zcV9 {k:Nat} {st:St} {rs:List RX} {rv:List A} {ms':List (Nat×Row)} {k':Nat} (h:zaU7 k st rs rv ms' k'):zaU7 k st rs rv ms' k':=h
theorem zcF1 {an:List (List Nat)} {f:FuncId} {d:Option Nat} {g:Option (Nat×Bool)} {gv:Bool} {ob:Prop} {args:List A} {rw:List (Nat×MS)} {ids:List Nat} {cok:Bool} {ps:List POp} {st:St} {log:List (List Nat×List Nat)} {K:St→Prop} (h:zbc8 C an f d g gv ob args rw ids cok ps st log K):zbc8 C an f d g gv ob args rw ids cok ps st log K:=h
theorem zcF2 {f:FuncId} {d:Option Nat} {g:Option (Nat×Bool)} {gv:Bool} {ob:Prop} {vals:List A} {ps:List POp} {st:St} {K:St→Prop} (h:zao0 C f d g gv ob vals ps st K):zao0 C f d g gv ob vals ps st K:=h
theorem zcn3 {an:List (List Nat)} {f:FuncId} {d:Option Nat} {g:Option (Nat×Bool)} {gv:Bool} {ob:Prop} {vals:List A} {vi:List Nat} {cok:Bool} {ps:List POp} {st:St} {log:List (List Nat×List Nat)} {K:St→Prop} (h:zaG8 C an f d g gv ob vals vi cok ps st log K):zaG8 C an f d g gv ob vals vi cok ps st log K:=h
theorem zap9 {f:FuncId} {d:Option Nat} {ob:Prop} {vals:List A} {ps:List POp} {st:St} {K:St→Prop} {l nl:List (Nat×Nat)} {ids:List Nat} {av:List A} {ms ms':List (Nat×Row)} {k k':Nat} {r:A} (b:Bool)
    (hf:MFn C f av ms k r ms' k') (h:q) (hl:cl b vals av st.mem ms=l:=by ((conv=>lhs; reduce) <;> exact rfl)) (hnl:newL k st.nx (k' - k)=nl:=by ((conv=>lhs; reduce) <;> exact rfl)) (hids:ms.map (·.1)++(List.range (k' - k)).map (k+·)=ids:=by ((conv=>lhs; reduce) <;> exact rfl))
    (e:Imp q (arun C ps (st.app d (renR (l++nl) r) (zS3 st.m (fzM vals av)++zae9 (l++nl) ms' ids)) K):=by exact im)
    (hok:okM st.m st.nx l vals av ms k k':=by exact lv) (ho:ob:=by trivial) (hr:zbc5 r=true:=by rfl):zao0 C f d none true ob vals ps st K :=
  zu2 l nl ids hf hnl hids h e hok ho hr
theorem zao8 {an:List (List Nat)} {f:FuncId} {d:Option Nat} {ob:Prop} {vals:List A} {vi:List Nat} {cok:Bool} {ps:List POp} {st:St} {log:List (List Nat×List Nat)} {K:St→Prop} {l nl:List (Nat×Nat)} {ids:List Nat} {av:List A} {ms ms':List (Nat×Row)} {k k':Nat} {r:A} (b:Bool)
    (hf:MFn C f av ms k r ms' k') (h:q) (hl:cl b vals av st.mem ms=l:=by ((conv=>lhs; reduce) <;> exact rfl)) (hnl:newL k st.nx (k' - k)=nl:=by ((conv=>lhs; reduce) <;> exact rfl)) (hids:ms.map (·.1)++(List.range (k' - k)).map (k+·)=ids:=by ((conv=>lhs; reduce) <;> exact rfl))
    (e:Imp q (zaY3 (an.getD log.length []) 0 log vi ((zS3 st.m (fzM vals av)++zae9 (l++nl) ms' ids).map (·.1))=true∧cok=true∧zax9 C an ps (st.app d (renR (l++nl) r) (zS3 st.m (fzM vals av)++zae9 (l++nl) ms' ids)) (log++[(vi,(zS3 st.m (fzM vals av)++zae9 (l++nl) ms' ids).map (·.1))]) K):=by exact im)
    (hok:okM st.m st.nx l vals av ms k k':=by exact lv) (ho:ob:=by trivial) (hr:zbc5 r=true:=by rfl):zaG8 C an f d none true ob vals vi cok ps st log K :=
  zbL7 l nl ids hf hnl hids h e hok ho hr
theorem gogo {p:Prop} (w:p:=by
      (skip
       repeat' first
        | (with_reducible refine isAW ?_
           first
           | (with_reducible obtain ⟨_,h⟩:=zg5 h)
           | (with_reducible obtain ⟨hm,h⟩:=zdo3 kx h
              clear kx
              try dsimp only at h)
           | refine za2 ?_
           | refine zn4 ?_
           | refine zR6 ?_
           | refine zw3 ?_
           | refine za9 hG ?_
           | refine zbc9 zL7 hG ?_
           | refine zaF0 zL7 hG ?_
           | (refine zdk7 hm rfl hG h (fun v hm h=>?_) (fun _ h=>?_) (fun _ h=>?_)
              focus (try refine g_st ?_))
           | (refine zo2 rfl hG h (fun _ h=>?_) (fun _ h=>?_))
           | refine zbG9 rfl hG ?_
           | refine g_cond0 rfl hG ?_
           | (refine zao7 hm h (fun v hm h=>?_) ?_
              focus (try refine g_st ?_))
           | refine zI8 ?_
           | (refine zcV6 hm hK h (fun g y hm kx h=>?_) false; try refine g_st ?_)
           | (refine zcV6 hm hK h (fun g y hm kx h=>?_) true; try refine g_st ?_))
        | (with_reducible refine zcV5 ?_
           first
           | (refine zu6 (fun _=>OkT.ok) ?_)
           | (obtain ⟨v,hv,h⟩:=zf1 h
              have hm:=mkP hm v
              repeat (with_reducible obtain ⟨_,h⟩:=zg5 h)
              first
              | refine zu6 (fun _=>OkP.ok _ hv) ?_
              | refine zu6 (fun hg=>OkP.ok _ (zaQ7 hg hv)) ?_
              | refine zu6 (fun _=>PFn.unfull (OkP.ok _ hv)) ?_
              | refine zu6 (fun _=>hrc _ _ hv) ?_
              | refine zu6 (fun _=>hrc _ _ _ hv) ?_
              | refine zu6 (fun _=>hrc _ _ _ _ hv) ?_
              | refine zu6 (fun _=>hrc _ _ _ _ _ hv) ?_))
        | (with_reducible refine zcE9 ?_
           first
           | (refine zau9 (fun _=>OkT.ok) ?_)
           | (obtain ⟨v,hv,h⟩:=zf1 h
              have hm:=mkP hm v
              repeat (with_reducible obtain ⟨_,h⟩:=zg5 h)
              first
              | refine zau9 (fun _=>OkP.ok _ hv) ?_
              | refine zau9 (fun hg=>OkP.ok _ (zaQ7 hg hv)) ?_
              | refine zau9 (fun _=>PFn.unfull (OkP.ok _ hv)) ?_
              | refine zau9 (fun _=>hrc _ _ hv) ?_
              | refine zau9 (fun _=>hrc _ _ _ hv) ?_
              | refine zau9 (fun _=>hrc _ _ _ _ hv) ?_
              | refine zau9 (fun _=>hrc _ _ _ _ _ hv) ?_))
        | (with_reducible refine zcF1 ?_
           first
           | (refine zal5 (fun _=>OkT.ok) ?_)
           | (obtain ⟨v,hv,h⟩:=zf1 h
              have hm:=mkP hm v
              repeat (with_reducible obtain ⟨_,h⟩:=zg5 h)
              first
              | refine zal5 (fun _=>OkP.ok _ hv) ?_
              | refine zal5 (fun hg=>OkP.ok _ (zaQ7 hg hv)) ?_
              | refine zal5 (fun _=>hrc _ _ hv) ?_
              | refine zal5 (fun _=>hrc _ _ _ hv) ?_
              | refine zal5 (fun _=>hrc _ _ _ _ hv) ?_
              | refine zal5 (fun _=>hrc _ _ _ _ _ hv) ?_))
        | (with_reducible refine zcF2 ?_
           obtain ⟨v,hv,h⟩:=zf1 h
           have hm:=mkP hm v
           repeat (with_reducible obtain ⟨_,h⟩:=zg5 h)
           first
           | refine zap9 false (OkM.ok _ hv) ?_
           | refine zap9 true (OkM.ok _ hv) ?_
           | refine zap9 false (hrc _ _ hv) ?_
           | refine zap9 true (hrc _ _ hv) ?_
           | refine zap9 false (hrc _ _ _ hv) ?_
           | refine zap9 true (hrc _ _ _ hv) ?_
           | refine zap9 false (hrc _ _ _ _ hv) ?_
           | refine zap9 true (hrc _ _ _ _ hv) ?_
           | refine zap9 false (hrc _ _ _ _ _ hv) ?_
           | refine zap9 true (hrc _ _ _ _ _ hv) ?_
           | (rcases v with v|v
              all_goals dsimp only at h
              all_goals first
              | refine zap9 false (OkL.ok _ hv) ?_
              | refine zap9 false (OkR.ok _ hv) ?_))
        | (with_reducible refine zcn3 ?_
           obtain ⟨v,hv,h⟩:=zf1 h
           have hm:=mkP hm v
           repeat (with_reducible obtain ⟨_,h⟩:=zg5 h)
           first
           | refine zao8 false (OkM.ok _ hv) ?_
           | refine zao8 true (OkM.ok _ hv) ?_
           | refine zao8 false (hrc _ _ hv) ?_
           | refine zao8 true (hrc _ _ hv) ?_
           | refine zao8 false (hrc _ _ _ hv) ?_
           | refine zao8 true (hrc _ _ _ hv) ?_
           | refine zao8 false (hrc _ _ _ _ hv) ?_
           | refine zao8 true (hrc _ _ _ _ hv) ?_
           | refine zao8 false (hrc _ _ _ _ _ hv) ?_
           | refine zao8 true (hrc _ _ _ _ _ hv) ?_)
        | (with_reducible refine zcV9 ?_
           first
           | exact zcf4 false h
           | exact zcf4 true h
           | exact zcf4 false (zcf2 h)
           | exact zcf4 false (zbh3 h)
           | exact nomatch h)
        | exact zcV8 hK h false
        | exact zcV7 hK h false
        | exact zcV8 hK h true
        | exact zcV7 hK h true
        | (fail_if_success (with_reducible refine isAW ?_)
           fail_if_success (with_reducible refine zcV5 ?_)
           fail_if_success (with_reducible refine zcE9 ?_)
           fail_if_success (with_reducible refine zcF1 ?_)
           fail_if_success (with_reducible refine zcF2 ?_)
           fail_if_success (with_reducible refine zcn3 ?_)
           fail_if_success (with_reducible refine zcV9 ?_)
           fail_if_success (with_reducible refine isJoin ?_)
           fail_if_success (with_reducible refine isNext ?_)
           first
           | exact zW9 h
           | exact zdq8 h))):p:=w
theorem zag9 (F:Func) (hs:List (Nat×Nat)) {f:FuncId} {av:List A} {r:A} {pc:(Nat→Nat→List A)→({o:Operand}→Nat→PX)→PC} {N np:Nat} {rs:List RX}
    (h:∀ E:Env,E.G=C.G→E.N=N→E.k0=0→AW C E (pc cZ (@kon cZ)) (Post rs r) ⟨zI7 0 av,[],0⟩)
    {us ut:Nat} (hu:zcn2 F=(us,ut):=by ((conv=>lhs; reduce) <;> exact rfl)) (hp:∀ (Z:Nat→Nat→List A) (K:{o:Operand}→Nat→PX),TC.tr ⟨cT,cM,Z,@K⟩ hs us ut F=(pc Z @K,N,rs,np):=by (intro Z K; ((conv=>lhs; reduce) <;> exact rfl))) (hchk:chkF C.P f (pc cZ (@kon cZ)) N rs np=true:=by kernel_rfl) (hnp:av.length=np:=by rfl):PFn C f av r:=zbv5 hchk hnp h
theorem zaC5 (F:Func) (hs:List (Nat×Nat)) {f:FuncId} {av:List A} {ms ms':List (Nat×Row)} {k k':Nat} (rl:List A) {pc:(Nat→Nat→List A)→({o:Operand}→Nat→PX)→PC} {N np:Nat} {rs:List RX}
    (h:∀ E:Env,E.G=C.G→E.N=N→E.k0=k→AW C E (pc cZ (@kon cZ)) (zcl1 k rs rl ms' k') ⟨zI7 0 av,ms,k⟩)
    {us ut:Nat} (hu:zcn2 F=(us,ut):=by ((conv=>lhs; reduce) <;> exact rfl)) (hp:∀ (Z:Nat→Nat→List A) (K:{o:Operand}→Nat→PX),TC.tr ⟨cT,cM,Z,@K⟩ hs us ut F=(pc Z @K,N,rs,np):=by (intro Z K; ((conv=>lhs; reduce) <;> exact rfl))) (hchk:chkF C.P f (pc cZ (@kon cZ)) N rs np=true:=by kernel_rfl)
    (hnp:av.length=np:=by rfl) (hms:zbY9 ms=true:=by rfl) (hall:zbA5 ms k=true:=by rfl) (hrl:rl.length=rs.length:=by rfl):MFn C f av ms k (zbY7 rl) ms' k':=zbZ0 hchk hnp hms hall hrl h
theorem ok1 {α:Type} {m m':Option α} (u:m=m') (F:Func) (hs:List (Nat×Nat)) {f:FuncId} {av:List A} {R:α→A} {pc:(Nat→Nat→List A)→({o:Operand}→Nat→PX)→PC} {N np:Nat} {rs:List RX} {us ut:Nat} (hu:zcn2 F=(us,ut):=by ((conv=>lhs; reduce) <;> exact rfl)) (hp:∀ (Z:Nat→Nat→List A) (K:{o:Operand}→Nat→PX),TC.tr ⟨cT,cM,Z,@K⟩ hs us ut F=(pc Z @K,N,rs,np):=by (intro Z K; ((conv=>lhs; reduce) <;> exact rfl))) (hchk:chkF C.P f (pc cZ (@kon cZ)) N rs np=true:=by kernel_rfl)
    (w:∀ E:Env,∀ r,E.G=C.G→E.k0=0→Mk m→m'=some r→AW C E (pc cZ (@kon cZ)) (Post rs (R r)) ⟨zI7 0 av,[],0⟩:=by
      (intro E r hG hK hm h; exact gogo)) (hnp:av.length=np:=by rfl):OkP m f av R :=
  ⟨fun r h=>zbv5 hchk hnp fun E hG _ hK=>w E r hG hK trivial (u ▸ h)⟩
theorem ok2 {α:Type} (R:α→A) {m m':α} (u:m=m') (F:Func) (hs:List (Nat×Nat)) {f:FuncId} {av:List A} {pc:(Nat→Nat→List A)→({o:Operand}→Nat→PX)→PC} {N np:Nat} {rs:List RX} {us ut:Nat} (hu:zcn2 F=(us,ut):=by ((conv=>lhs; reduce) <;> exact rfl)) (hp:∀ (Z:Nat→Nat→List A) (K:{o:Operand}→Nat→PX),TC.tr ⟨cT,cM,Z,@K⟩ hs us ut F=(pc Z @K,N,rs,np):=by (intro Z K; ((conv=>lhs; reduce) <;> exact rfl))) (hchk:chkF C.P f (pc cZ (@kon cZ)) N rs np=true:=by kernel_rfl)
    (w:∀ E:Env,∀ r,E.G=C.G→E.k0=0→Mk m→m'=r→AW C E (pc cZ (@kon cZ)) (Post rs (R r)) ⟨zI7 0 av,[],0⟩:=by
      (intro E r hG hK hm h; exact gogo)) (hnp:av.length=np:=by rfl):OkT f av (R m) :=
  ⟨zbv5 hchk hnp fun E hG _ hK=>w E m hG hK trivial u.symm⟩
theorem okm {α:Type} {m m':Option α} (u:m=m') {f:FuncId} {av:List A} {ms:List (Nat×Row)} {k k':Nat} (rv:α→List A) {ms':α→List (Nat×Row)} (F:Func) (hs:List (Nat×Nat)) {pc:(Nat→Nat→List A)→({o:Operand}→Nat→PX)→PC} {N np:Nat} {rs:List RX} {us ut:Nat} (hu:zcn2 F=(us,ut):=by ((conv=>lhs; reduce) <;> exact rfl)) (hp:∀ (Z:Nat→Nat→List A) (K:{o:Operand}→Nat→PX),TC.tr ⟨cT,cM,Z,@K⟩ hs us ut F=(pc Z @K,N,rs,np):=by (intro Z K; ((conv=>lhs; reduce) <;> exact rfl))) (hchk:chkF C.P f (pc cZ (@kon cZ)) N rs np=true:=by kernel_rfl)
    (w:∀ E:Env,∀ r,E.G=C.G→E.k0=k→Mk m→m'=some r→AW C E (pc cZ (@kon cZ)) (zcl1 k rs (rv r) (ms' r) k') ⟨zI7 0 av,ms,k⟩:=by
      (intro E r hG hK hm h; exact gogo))
    (hnp:av.length=np:=by rfl) (hms:zbY9 ms=true:=by rfl) (hall:zbA5 ms k=true:=by rfl) (hrl:∀ r,(rv r).length=rs.length:=by (intro r; rfl)):OkM m f av ms k (fun r=>zbY7 (rv r)) ms' k' :=
  ⟨fun r h=>zbZ0 (rl:=rv r) hchk hnp hms hall (hrl r) fun E hG _ hK=>w E r hG hK trivial (u ▸ h)⟩
end
end Ab
end Go.Proofs.YtcggeefhhegeoaaGreatDoor
