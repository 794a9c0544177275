import Derived.Test.YtebopmkhhppfaaaGreatDoorSim
namespace Go.Proofs.YtebopmkhhppfaaaGreatDoor
namespace Ab
set_option linter.unusedSimpArgs false
set_option linter.unusedVariables false
def gd {α:Type} (p:Prop) [Decidable p] (k:Option α):Option α:=if p then k else none
theorem za5 {α:Type} {p:Prop} [Decidable p] {k:Option α} {r:α} (h:gd p k=some r):p∧k=some r:=by
 unfold gd at h; split at h
 ·exact ⟨by assumption,h⟩
 ·cases h
theorem zg6 {α:Type} {p:Prop} [Decidable p] {k:Option α} (h:p):gd p k=k:=if_pos h
theorem za2 {α β:Type} {m:Option α} {f:α→Option β} {r:β} (h:m.bind f=some r):∃ v,m=some v∧f v=some r:=by
 cases m with
 | none=>cases h
 | some v=>exact ⟨v,rfl,h⟩
theorem zv4 {α:Type} {c:Bool} {x y r:α} (hb:c=true) (h:(if c=true then x else y)=r):x=r:=by rw [if_pos hb] at h; exact h
theorem zcC1 {α:Type} {c:Bool} {x y r:α} (hb:c=false) (h:(if c=true then x else y)=r):y=r:=by subst hb; exact h
def iter {G X:Type} (body:G→Option (G⊕X)):Nat→G→Option X
 | 0,_=>none
 | n+1,g=>match body g with
  | none=>none
  | some (.inl g')=>iter body n g'
  | some (.inr x)=>some x
theorem zaV4 {G X:Type} {body:G→Option (G⊕X)} {x:X}:∀ {n m:Nat} {g:G},iter body n g=some x→n≤m→iter body m g=some x
 | 0,_,_,h,_=>by cases h
 | n+1,0,_,_,hm=>by omega
 | n+1,m+1,g,h,hm=>by
  simp only [iter] at h ⊢
  cases hb:body g with
  | none=>rw [hb] at h; cases h
  | some y =>
   rw [hb] at h
   cases y with
   | inl g'=>exact zaV4 (n:=n) (m:=m) h (by omega)
   | inr x'=>exact h
open Classical in
noncomputable def zb4 {G X:Type} (body:G→Option (G⊕X)) (g:G):Option X :=
 if h:∃ n x,iter body n g=some x then some (Classical.choose (Classical.choose_spec h)) else none
theorem zN7 {G X:Type} {body:G→Option (G⊕X)} {g:G} {x:X}:zb4 body g=some x ↔ ∃ n,iter body n g=some x:=by
 unfold zb4
 constructor
 ·intro h
  split at h
  ·rename_i hh
   cases h
   exact ⟨_,Classical.choose_spec (Classical.choose_spec hh)⟩
  ·cases h
 ·rintro ⟨n,hn⟩
  have hh:∃ n x,iter body n g=some x:=⟨n,x,hn⟩
  rw [dif_pos hh]
  have:=Classical.choose_spec (Classical.choose_spec hh)
  have h1:=zaV4 this (Nat.le_add_right _ n)
  have h2:=zaV4 hn (Nat.le_add_left n (Classical.choose hh))
  rw [h1] at h2
  exact h2
theorem zd2 {G X:Type} (body:G→Option (G⊕X)) (g:G):zb4 body g=match body g with
  | none=>none
  | some (.inl g')=>zb4 body g'
  | some (.inr x)=>some x:=by
 cases hb:body g with
 | none =>
  simp only
  cases h:zb4 body g with
  | none=>rfl
  | some x =>
   obtain ⟨n,hn⟩:=zN7.1 h
   cases n with
   | zero=>cases hn
   | succ n=>simp only [iter,hb] at hn; cases hn
 | some y =>
  cases y with
  | inr x=>exact zN7.2 ⟨1,by simp [iter,hb]⟩
  | inl g' =>
   simp only
   cases h:zb4 body g' with
   | some x =>
    obtain ⟨n,hn⟩:=zN7.1 h
    exact zN7.2 ⟨n+1,by simp only [iter,hb]; exact hn⟩
   | none =>
    cases h2:zb4 body g with
    | none=>rfl
    | some x =>
     obtain ⟨n,hn⟩:=zN7.1 h2
     cases n with
     | zero=>cases hn
     | succ n =>
      simp only [iter,hb] at hn
      rw [zN7.2 ⟨n,hn⟩] at h
      cases h
def zaC5 (E:Env) {V:Type} (J:V→St) (P:V→Prop) (s:St):Prop:=∃ v,P v∧St.le E s (J v)
theorem zbW7 {E:Env} {V:Type} {J:V→St} {P:V→Prop} {s:St} {k:Nat} (hK:E.k0=k) (v:V) (h:P v) (l:List (Nat×Nat)) (hl:Le l s (J v)∧zaC2 k l (J v).nx=true):zaC5 E J P s:=⟨v,h,St.le_of l hl.1 (by rw [hK]; exact hl.2)⟩
def zaZ7 (E:Env) {V:Type} (J:V→St) (P:V→Prop) (Q:Exit→St→Prop):Exit→St→Prop:=fun e s=>match e with|.normal=>zaC5 E J P s|e=>Q e s
def BlkJ (E:Env) {V:Type} (id:Nat) (J:V→St) (P:V→Prop) (Q:Exit→St→Prop):Exit→St→Prop:=fun e s=>match e with
 | .normal=>zaC5 E J P s
 | .exit i=>if i=id then zaC5 E J P s else Q (.exit i) s
 | e=>Q e s
def zbN1 (E:Env) {G X:Type} (I:G→St) (y:G⊕X) (s:St):Prop:=∃ g',y=.inl g'∧St.le E s (I g')
theorem zbW8 {E:Env} {G X:Type} {I:G→St} {g':G} {s:St} {k:Nat} (hK:E.k0=k) (l:List (Nat×Nat)) (hl:Le l s (I g')∧zaC2 k l (I g').nx=true):zbN1 (X:=X) E I (.inl g') s:=⟨g',rfl,St.le_of l hl.1 (by rw [hK]; exact hl.2)⟩
def zbu0 (E:Env) {G X:Type} (I:G→St) (y:G⊕X) (Q:Exit→St→Prop):Exit→St→Prop:=fun e s=>match e with|.normal=>zbN1 E I y s|e=>Q e s
section
variable {C:Cx} {E:Env} {Q:Exit→St→Prop} {st:St}
theorem AW.join {V:Type} {J:V→St} {c:PC} {Q':Exit→St→Prop} (h:AW C E c Q' st)
  (hq:∀ e s,Q' e s→Q e s∨∃ v,St.le E s (J v)∧Q e (J v)):AW C E c Q st :=
 fun code hc a w hs=>wp_mono (h code hc a w hs) fun e a' w' ⟨st',h1,h2⟩=>by
  rcases hq e st' h1 with h3|⟨v,h3,h4⟩
  ·exact ⟨st',h3,h2⟩
  ·exact ⟨J v,h4,h3 a' w' h2⟩
theorem zcz7 {x:PX} {p q:PC} {V:Type} (J:V→St) (P:V→Prop) {b:Bool} (hx:xv C.G st.slot x=.bool b) (hG:E.G=C.G) (hk:∀ v,P v→Q .normal (J v))
  (ht:b=true→AW C E p (zaZ7 E J P Q) st) (hf:b=false→AW C E q (zaZ7 E J P Q) st):AW C E (.cond x p q) Q st:=by
 have key:∀ c,AW C E c (zaZ7 E J P Q) st→AW C E c Q st:=fun c h=>h.join (J:=J) fun e s h=>by
  cases e with
  | normal=>obtain ⟨v,h1,h2⟩:=h; exact .inr ⟨v,h2,hk v h1⟩
  | _=>exact .inl h
 exact zbx7 hx hG (fun h=>key _ (ht h)) (fun h=>key _ (hf h))
theorem zb2 {id:Nat} {c:PC} {V:Type} (J:V→St) (P:V→Prop) (hk:∀ v,P v→Q .normal (J v)) (h:AW C E c (BlkJ E id J P Q) st):AW C E (.block id c) Q st:=by
 refine zbf7 (h.join (J:=J) fun e s h=>?_)
 cases e with
 | normal=>obtain ⟨v,h1,h2⟩:=h; exact .inr ⟨v,h2,hk v h1⟩
 | exit i =>
  simp only [BlkJ] at h ⊢
  split at h
  ·obtain ⟨v,h1,h2⟩:=h
   rename_i hi
   exact .inr ⟨v,h2,by rw [if_pos hi]; exact hk v h1⟩
  ·rename_i hi; exact .inl (by rw [if_neg hi]; exact h)
 | _=>exact .inl h
def zbD4 (E:Env) {V:Type} (id:Nat) (J:V→St) (P:V→Prop) (Q:Exit→St→Prop):Exit→St→Prop:=fun e s=>match e with
 | .normal=>zaC5 E J P s∨Q .normal s
 | .exit i=>if i=id then (zaC5 E J P s∨Q .normal s) else Q (.exit i) s
 | e=>Q e s
theorem zbu1 {id:Nat} {c:PC} {V:Type} (J:V→St) (P:V→Prop) (hk:∀ v,P v→Q .normal (J v)) (h:AW C E c (zbD4 E id J P Q) st):AW C E (.block id c) Q st:=by
 refine zbf7 (h.join (J:=J) fun e s h=>?_)
 cases e with
 | normal =>
  rcases h with ⟨v,h1,h2⟩|h
  ·exact .inr ⟨v,h2,hk v h1⟩
  ·exact .inl h
 | exit i =>
  simp only [zbD4] at h ⊢
  split at h
  ·rename_i hi
   rcases h with ⟨v,h1,h2⟩|h
   ·exact .inr ⟨v,h2,by rw [if_pos hi]; exact hk v h1⟩
   ·exact .inl (by rw [if_pos hi]; exact h)
  ·rename_i hi; exact .inl (by rw [if_neg hi]; exact h)
 | _=>exact .inl h
theorem zcz8 {c:PC} {G X:Type} {body:G→Option (G⊕X)} {g0:G} {x:X} (I:G→St) {k:Nat} (hK:E.k0=k) (l:List (Nat×Nat)) (hx:zb4 body g0=some x) (hle:Le l st (I g0)∧zaC2 k l (I g0).nx=true)
  (h:∀ g y,body g=some y→(∀ x',y=.inr x'→x'=x)→AW C E c (zbu0 E I y Q) (I g)):AW C E (.loop c) Q st:=by
 obtain ⟨n,hn⟩:=zN7.1 hx
 refine zcy9 (G:={ p:Nat×G // iter body p.1 p.2=some x }) (fun p=>I p.1.2) (fun _=>True) (fun p=>p.1.1) ⟨(n,g0),hn⟩ trivial (St.le_of l hle.1 (by rw [hK]; exact hle.2)) fun ⟨⟨m,g⟩,hm⟩ _=>?_
 cases m with
 | zero=>cases hm
 | succ m =>
  simp only [iter] at hm
  cases hb:body g with
  | none=>rw [hb] at hm; cases hm
  | some y =>
   rw [hb] at hm
   refine (h g y hb fun x' e=>by subst e; exact Option.some.inj hm).mono fun e s hs=>?_
   cases e with
   | normal =>
    obtain ⟨g',rfl,h2⟩:=hs
    exact ⟨⟨(m,g'),hm⟩,trivial,h2,Nat.lt_succ_self m⟩
   | _=>exact hs
def zbW9 (E:Env) {G X β:Type} (I:G→St) (body:G→Option (G⊕X)) (kk:X→Option β) (R:Option β) (s:St):Prop:=∃ g',(zb4 body g').bind kk=R∧St.le E s (I g')
def zbN2 (E:Env) {G X β:Type} (I:G→St) (body:G→Option (G⊕X)) (kk:X→Option β) (R:Option β) (Q:Exit→St→Prop):Exit→St→Prop:=fun e s=>match e with|.normal=>zbW9 E I body kk R s|e=>Q e s
theorem zby4 {G X β:Type} (I:G→St) (body:G→Option (G⊕X)) (kk:X→Option β) (R:Option β) (s:St):zbN2 E I body kk R Q .normal s=zbW9 E I body kk R s:=rfl
theorem zbQ4 {G X β:Type} (I:G→St) (body:G→Option (G⊕X)) (kk:X→Option β) (R:Option β) (s:St):zbN2 E I body kk R Q .ret s=Q .ret s:=rfl
theorem zbI0 {G X β:Type} (I:G→St) (body:G→Option (G⊕X)) (kk:X→Option β) (R:Option β) (i:Nat) (s:St):zbN2 E I body kk R Q (.exit i) s=Q (.exit i) s:=rfl
theorem zbX0 {c:PC} {G X β:Type} {body:G→Option (G⊕X)} {kk:X→Option β} {r:β} (I:G→St) {k:Nat} (hK:E.k0=k) (h1:AW C E c (zbN2 E I body kk (some r) Q) st)
  (h:∀ x,kk x=some r→∀ g y,body g=some y→(∀ x',y=.inr x'→x'=x)→AW C E c (zbu0 E I y Q) (I g)):AW C E (.loop c) Q st:=by
 refine zcz0 (G:={ p:Nat×G // ∃ x,iter body p.1 p.2=some x∧kk x=some r }) (fun p=>I p.1.2) (fun _=>True) (fun p=>p.1.1) (fun ⟨⟨m,g⟩,x,hm,hx⟩ _=>?_) (h1.mono fun e s hs=>?_)
 ·cases m with
  | zero=>cases hm
  | succ m =>
   simp only [iter] at hm
   cases hb:body g with
   | none=>rw [hb] at hm; cases hm
   | some y =>
    rw [hb] at hm
    refine (h x hx g y hb fun x' e=>by subst e; exact Option.some.inj hm).mono fun e s hs=>?_
    cases e with
    | normal =>
     obtain ⟨g',rfl,h2⟩:=hs
     exact ⟨⟨(m,g'),x,hm,hx⟩,trivial,h2,Nat.lt_succ_self m⟩
    | _=>exact hs
 ·cases e with
  | normal =>
   obtain ⟨g',h2,h3⟩:=hs
   obtain ⟨x,h4,h5⟩:=za2 h2
   obtain ⟨n,hn⟩:=zN7.1 h4
   exact ⟨⟨(n,g'),x,hn,h5⟩,trivial,h3⟩
  | _=>exact hs
theorem zby5 {V:Type} (J:V→St) (P:V→Prop) (s:St):zaZ7 E J P Q .normal s=zaC5 E J P s:=rfl
theorem zbQ5 {V:Type} (J:V→St) (P:V→Prop) (s:St):zaZ7 E J P Q .ret s=Q .ret s:=rfl
theorem zbI1 {V:Type} (J:V→St) (P:V→Prop) (i:Nat) (s:St):zaZ7 E J P Q (.exit i) s=Q (.exit i) s:=rfl
theorem zbD5 {V:Type} (id:Nat) (J:V→St) (P:V→Prop) (s:St):BlkJ E id J P Q .normal s=zaC5 E J P s:=rfl
theorem zbX1 {V:Type} (id:Nat) (J:V→St) (P:V→Prop) (s:St):BlkJ E id J P Q .ret s=Q .ret s:=rfl
theorem zbQ6 {V:Type} (id:Nat) (J:V→St) (P:V→Prop) (i:Nat) (s:St):BlkJ E id J P Q (.exit i) s=if i=id then zaC5 E J P s else Q (.exit i) s:=rfl
theorem zby6 {G X:Type} (I:G→St) (y:G⊕X) (s:St):zbu0 E I y Q .normal s=zbN1 E I y s:=rfl
theorem zbQ7 {G X:Type} (I:G→St) (y:G⊕X) (s:St):zbu0 E I y Q .ret s=Q .ret s:=rfl
theorem zbI2 {G X:Type} (I:G→St) (y:G⊕X) (i:Nat) (s:St):zbu0 E I y Q (.exit i) s=Q (.exit i) s:=rfl
theorem zby7 {V:Type} (id:Nat) (J:V→St) (P:V→Prop) (s:St):zbD4 E id J P Q .normal s=(zaC5 E J P s∨Q .normal s):=rfl
theorem zbQ8 {V:Type} (id:Nat) (J:V→St) (P:V→Prop) (s:St):zbD4 E id J P Q .ret s=Q .ret s:=rfl
theorem zbI3 {V:Type} (id:Nat) (J:V→St) (P:V→Prop) (i:Nat) (s:St):zbD4 E id J P Q (.exit i) s=if i=id then (zaC5 E J P s∨Q .normal s) else Q (.exit i) s:=rfl
attribute [go_sem] zby7 zbQ8 zbI3 zby4 zbQ4 zbI0 zby5 zbQ5 zbI1 zbD5 zbX1 zbQ6 zby6 zbQ7 zbI2
end
def unfull:A→A
 | .full es=>.sl es
 | a=>a
theorem PFn.unfull {C:Cx} {f:FuncId} {as:List A} {r:A} (h:PFn C f (as.map unfull) r):PFn C f as r:=by
 intro w W vs hg hW hl ha
 refine h w W vs hg hW (by simpa using hl) fun i v a hv hx=>?_
 rw [List.getElem?_map] at hx
 cases hy:as[i]? with
 | none=>rw [hy] at hx; cases hx
 | some b =>
  rw [hy] at hx; cases hx
  have:=ha i v b hv hy
  cases b with
  | full es =>
   have h2:RepC w W v (.full es):=this
   cases h2 with
   | full a n es h=>exact h
  | _=>exact this
def unfullA:A→A
 | .full es=>.sl es
 | .agg cs=>.agg (zat4 cs)
 | a=>a
theorem PFn.unfullA {C:Cx} {f:FuncId} {as as':List A} {r:A} (h:PFn C f as' r) (e:as.map Ab.unfullA=as':=by first|rfl|(simp [Ab.unfullA,zat4,unfA]; done)):PFn C f as r:=by
 subst e
 intro w W vs hg hW hl ha
 refine h w W vs hg hW (by simpa using hl) fun i v a hv hx=>?_
 rw [List.getElem?_map] at hx
 cases hy:as[i]? with
 | none=>rw [hy] at hx; cases hx
 | some b =>
  rw [hy] at hx; cases hx
  have:=ha i v b hv hy
  cases b with
  | full es =>
   have h2:RepC w W v (.full es):=this
   exact h2.of_full.1
  | agg cs =>
   obtain ⟨us,hu,hl2,hr⟩:=this
   refine ⟨us,hu,by rw [zaV1]; exact hl2,fun i u c hu' hc=>?_⟩
   rw [zbh6] at hc
   obtain ⟨c0,hc0,rfl⟩:=Option.map_eq_some_iff.1 hc
   exact zbN0 (hr i u c0 hu' hc0)
  | _=>exact this
@[go_sem] theorem zfw2 (a b:Nat):Nat.min a b=min a b:=rfl
attribute [go_sem] Ab.unfull zaC2 fixL
attribute [go_sem] Int.cast_ofNat_Int List.take_length List.drop_zero Nat.mul_one Nat.min_self
@[go_sem] def mo (d:Nat) (p:PO) (xs:List PX):POp:=⟨some d,none,p,xs⟩
@[go_sem] def mz (p:PO) (xs:List PX):POp:=⟨none,none,p,xs⟩
@[go_sem] def oK (n:Int):PX:=.c (A.int .i64 n)
@[go_sem] def oFa:PX:=.c (A.bool false)
@[go_sem] def oTr:PX:=.c (A.bool true)
@[go_sem] def oNi:PX:=.c (A.sl [])
@[go_sem] def oV (d s:Nat):POp:=⟨some d,none,.mv,[.t s]⟩
@[go_sem] def oI (d:Nat) (n:Int):POp:=⟨some d,none,.mv,[.c (A.int .i64 n)]⟩
@[go_sem] def oL (d k s:Nat):POp:=⟨some d,none,.load k true,[.t s]⟩
@[go_sem] def oM (d k s:Nat):POp:=⟨some d,none,.load k false,[.t s]⟩
@[go_sem] def oA (d o s:Nat):POp:=⟨some d,none,.faddr o,[.t s]⟩
@[go_sem] def oE (d i s:Nat):POp:=⟨some d,none,.ext i,[.t s]⟩
@[go_sem] def oB (d k s:Nat):POp:=⟨some d,none,.box k,[.t s]⟩
@[go_sem] def oS (k a b:Nat):POp:=⟨none,none,.store k,[.t a,.t b]⟩
@[go_sem] def oP (d:Nat) (op:BinOp) (xs:List PX):POp:=⟨some d,none,.bin op,xs⟩
@[go_sem] def oC (d:Nat) (f:FuncId) (xs:List PX):POp:=⟨some d,none,.call f,xs⟩
@[go_sem] def oG (d g:Nat) (b:Bool) (p:PO) (xs:List PX):POp:=⟨some d,some (g,b),p,xs⟩
def Imp (q p:Prop):Prop:=q→p
theorem Imp.and {q a b:Prop} (ha:a) (h:Imp q b):Imp q (a∧b):=fun hq=>⟨ha,h hq⟩
theorem Imp.refl {q:Prop}:Imp q q:=fun h=>h
section
variable {C:Cx} {E:Env} {Q:Exit→St→Prop} {st:St} {q:Prop}
theorem g_st {p:Prop} (h:q) (e:Imp q p:=by (simp only [go_sem,↓reduceIte,reduceCtorEq,Nat.reduceEqDiff,Nat.reduceAdd,Nat.reduceSub,Nat.reduceMul,Nat.reduceLeDiff,Nat.reduceLT,Int.reduceLE,Int.reduceLT,Int.reduceToNat,Int.reduceNeg]; exact Imp.refl)):p:=e h
theorem za4 (h:q) (e:Imp q (Q .normal st):=by (simp only [go_sem,↓reduceIte,reduceCtorEq,Nat.reduceEqDiff,Nat.reduceAdd,Nat.reduceSub,Nat.reduceMul,Nat.reduceLeDiff,Nat.reduceLT,Int.reduceLE,Int.reduceLT,Int.reduceToNat,Int.reduceNeg]; exact Imp.refl)):AW C E .skip Q st:=zcy7 (e h)
theorem zcz9 (h:q) (e:Imp q (Q .normal st):=by (simp only [go_sem,↓reduceIte,reduceCtorEq,Nat.reduceEqDiff,Nat.reduceAdd,Nat.reduceSub,Nat.reduceMul,Nat.reduceLeDiff,Nat.reduceLT,Int.reduceLE,Int.reduceLT,Int.reduceToNat,Int.reduceNeg]; exact Imp.refl)):AW C E .label Q st:=zbV1 (e h)
theorem zb5 {id:Nat} (h:q) (e:Imp q (Q (.exit id) st):=by (simp only [go_sem,↓reduceIte,reduceCtorEq,Nat.reduceEqDiff,Nat.reduceAdd,Nat.reduceSub,Nat.reduceMul,Nat.reduceLeDiff,Nat.reduceLT,Int.reduceLE,Int.reduceLT,Int.reduceToNat,Int.reduceNeg]; exact Imp.refl)):AW C E (.exit id) Q st:=zcy8 (e h)
theorem za6 (h:q) (e:Imp q (Q .ret st):=by (simp only [go_sem,↓reduceIte,reduceCtorEq,Nat.reduceEqDiff,Nat.reduceAdd,Nat.reduceSub,Nat.reduceMul,Nat.reduceLeDiff,Nat.reduceLT,Int.reduceLE,Int.reduceLT,Int.reduceToNat,Int.reduceNeg]; exact Imp.refl)):AW C E .ret Q st:=zeH7 (e h)
theorem za1 {dr:List Nat} {ops:List POp} (hG:E.G=C.G) (h:q)
  (e:Imp q (arun C ops st fun s=>Q .normal (s.drop dr)):=by (simp only [go_sem,↓reduceIte,reduceCtorEq,Nat.reduceEqDiff,Nat.reduceAdd,Nat.reduceSub,Nat.reduceMul,Nat.reduceLeDiff,Nat.reduceLT,Int.reduceLE,Int.reduceLT,Int.reduceToNat,Int.reduceNeg]; (repeat ((with_reducible apply Imp.and); focus (first|assumption|omega|rfl|(simp; done)|(simp; omega)|(intros; simp_all; done)|grind))); exact Imp.refl)):AW C E (.reg dr ops) Q st:=zeH8 hG (e h)
theorem zl3 {dr:List Nat} {ops:List POp} (hm:C.P.follows .mixedOrders=true) (hG:E.G=C.G) (h:q)
  (e:Imp q (zaC4 C ops st fun s=>Q .normal (s.drop dr)):=by (simp only [go_sem,↓reduceIte,reduceCtorEq,Nat.reduceEqDiff,Nat.reduceAdd,Nat.reduceSub,Nat.reduceMul,Nat.reduceLeDiff,Nat.reduceLT,Int.reduceLE,Int.reduceLT,Int.reduceToNat,Int.reduceNeg]; (repeat ((with_reducible apply Imp.and); focus (first|assumption|omega|rfl|(simp; done)|(simp; omega)|(intros; simp_all; done)|grind))); exact Imp.refl)):AW C E (.regd dr ops) Q st:=zcz2 hm hG (e h)
theorem zab5 {dr:List Nat} {an:List (List Nat)} {ops:List POp} (hm:C.P.follows .mixedOrders=true) (hG:E.G=C.G) (h:q)
  (e:Imp q (zal0 C an ops st [] fun s=>Q .normal (s.drop dr)):=by (simp only [go_sem,↓reduceIte,reduceCtorEq,Nat.reduceEqDiff,Nat.reduceAdd,Nat.reduceSub,Nat.reduceMul,Nat.reduceLeDiff,Nat.reduceLT,Int.reduceLE,Int.reduceLT,Int.reduceToNat,Int.reduceNeg]; (repeat ((with_reducible apply Imp.and); focus (first|assumption|omega|rfl|(simp; done)|(simp; omega)|(intros; simp_all; done)|grind))); exact Imp.refl)):AW C E (.regm dr an ops) Q st:=zcz5 hm hG (e h)
theorem za8 {f:FuncId} {d:Option Nat} {g:Option (Nat×Bool)} {gv:Bool} {ob:Prop} {args:List A} {rw:List (Nat×MS)} {ps:List POp} {st:St} {K:St→Prop} {r:A}
  (hf:gv=true→PFn C f args r) (h:q)
  (e:Imp q (arun C ps (st.app d (zK1 g gv r) (if r.scal then [] else rw)) K):=by (simp only [go_sem,↓reduceIte,reduceCtorEq,Nat.reduceEqDiff,Nat.reduceAdd,Nat.reduceSub,Nat.reduceMul,Nat.reduceLeDiff,Nat.reduceLT,Int.reduceLE,Int.reduceLT,Int.reduceToNat,Int.reduceNeg]; (repeat ((with_reducible apply Imp.and); focus (first|assumption|omega|rfl|(simp; done)|(simp; omega)|(intros; simp_all; done)|grind))); exact Imp.refl))
  (ho:gv=true→ob:=by intro; trivial) (hg:g=none∨(if r.scal then [] else rw)=[]∧r.isVV=true:=by first|exact .inl rfl|exact .inr ⟨rfl,rfl⟩|exact .inr ⟨ite_self _,rfl⟩):zbt9 C f d g gv ob args rw ps st K:=zbW2 hf (e h) ho hg
theorem zd9 {f:FuncId} {d:Option Nat} {g:Option (Nat×Bool)} {gv:Bool} {ob:Prop} {args:List A} {rw:List (Nat×MS)} {ps:List POp} {st:St} {K:St→Prop} {r:A}
  (hf:gv=true→PFn C f args r) (h:q)
  (e:Imp q (zaC4 C ps (st.app d (zK1 g gv r) []) K):=by (simp only [go_sem,↓reduceIte,reduceCtorEq,Nat.reduceEqDiff,Nat.reduceAdd,Nat.reduceSub,Nat.reduceMul,Nat.reduceLeDiff,Nat.reduceLT,Int.reduceLE,Int.reduceLT,Int.reduceToNat,Int.reduceNeg]; (repeat ((with_reducible apply Imp.and); focus (first|assumption|omega|rfl|(simp; done)|(simp; omega)|(intros; simp_all; done)|grind))); exact Imp.refl))
  (ho:gv=true→ob:=by intro; trivial) (hg:g=none∨(if r.scal then [] else rw)=[]∧r.isVV=true:=by first|exact .inl rfl|exact .inr ⟨rfl,rfl⟩|exact .inr ⟨ite_self _,rfl⟩) (hn:(if r.scal then [] else rw)=[]:=by first|rfl|exact ite_self _):zaV2 C f d g gv ob args rw ps st K:=zbP7 hf (e h) ho hg hn
theorem zaQ6 {an:List (List Nat)} {f:FuncId} {d:Option Nat} {g:Option (Nat×Bool)} {gv:Bool} {ob:Prop} {args:List A} {rw:List (Nat×MS)} {ids:List Nat} {cok:Bool} {ps:List POp} {st:St} {log:List (List Nat×List Nat)} {K:St→Prop} {r:A}
  (hf:gv=true→PFn C f args r) (h:q)
  (e:Imp q (zaF2 (an.getD log.length []) 0 log ids ((if r.scal then [] else rw).map (·.1))=true∧cok=true∧zal0 C an ps (st.app d (zK1 g gv r) (if r.scal then [] else rw)) (log++[(ids,(if r.scal then [] else rw).map (·.1))]) K):=by (simp only [go_sem,↓reduceIte,reduceCtorEq,Nat.reduceEqDiff,Nat.reduceAdd,Nat.reduceSub,Nat.reduceMul,Nat.reduceLeDiff,Nat.reduceLT,Int.reduceLE,Int.reduceLT,Int.reduceToNat,Int.reduceNeg]; (repeat ((with_reducible apply Imp.and); focus (first|assumption|omega|rfl|(simp; done)|(simp; omega)|(intros; simp_all; done)|grind))); exact Imp.refl))
  (ho:gv=true→ob:=by intro; trivial) (hg:g=none∨(if r.scal then [] else rw)=[]∧r.isVV=true:=by first|exact .inl rfl|exact .inr ⟨rfl,rfl⟩|exact .inr ⟨ite_self _,rfl⟩):zaV3 C an f d g gv ob args rw ids cok ps st log K:=zbP9 hf (e h) ho hg
theorem za3 {α:Type} {x:PX} {p q:PC} {b c:Bool} {X Y r:α} (hx:xv C.G st.slot x=.bool b) (hG:E.G=C.G) (h:(if c=true then X else Y)=r)
  (ht:b=true→X=r→AW C E p Q st) (hf:b=false→Y=r→AW C E q Q st) (e:b=c:=by first|rfl|(simp; done)|grind):AW C E (.cond x p q) Q st:=by
 subst e
 exact zbx7 hx hG (fun hb=>ht hb (by rw [if_pos hb] at h; exact h)) (fun hb=>hf hb (by rw [hb] at h; simpa using h))
theorem zaQ7 {α:Type} {x:PX} {p q:PC} {V:Type} (J:V→St) (P:V→Prop) {b c:Bool} {X Y r:α} (hx:xv C.G st.slot x=.bool b) (hG:E.G=C.G) (h:(if c=true then X else Y)=r) (hk:∀ v,P v→Q .normal (J v))
  (ht:b=true→X=r→AW C E p (zaZ7 E J P Q) st) (hf:b=false→Y=r→AW C E q (zaZ7 E J P Q) st) (e:b=c:=by first|rfl|(simp; done)|grind):AW C E (.cond x p q) Q st:=by
 subst e
 exact zcz7 J P hx hG hk (fun hb=>ht hb (by rw [if_pos hb] at h; exact h)) (fun hb=>hf hb (by rw [hb] at h; simpa using h))
theorem zb0 {α:Type} {x r:α} {p:Prop} (h:some x=some r) (e:x=r→p:=by (intro e; subst e; first|done|rfl|trivial|(simp; done)|(repeat' (first|rfl|trivial|omega|(simp; done)|(simp; omega)|(refine congrArg A.sl (congrArg (List.map _) ?_); exact List.take_of_length_le (by simp; omega))|apply And.intro)))):p:=e (Option.some.inj h)
theorem zm0 {α:Type} {x r:α} {p:Prop} (h:x=r) (e:x=r→p:=by (intro e; subst e; first|done|rfl|trivial|(simp; done)|(repeat' (first|rfl|trivial|omega|(simp; done)|(simp; omega)|(refine congrArg A.sl (congrArg (List.map _) ?_); exact List.take_of_length_le (by simp; omega))|apply And.intro)))):p:=e h
theorem zb8 {V:Type} {J:V→St} {P:V→Prop} {s:St} {k:Nat} (hK:E.k0=k) (l:List (Nat×Nat)) (v:V) (h:P v)
  (hl:Le l s (J v)∧zaC2 k l (J v).nx=true:=by (simp only [go_sem,↓reduceIte,reduceCtorEq,Nat.reduceEqDiff,Nat.reduceAdd,Nat.reduceSub,Nat.reduceMul,Nat.reduceLeDiff,Nat.reduceLT,Int.reduceLE,Int.reduceLT,Int.reduceToNat,Int.reduceNeg]; first|(done)|trivial|(simp; done)|(repeat' (first|rfl|trivial|omega|(simp; done)|(simp; omega)|(congr 1; omega)|(congr 1; simp only [List.length_append,List.length_take,List.length_drop,List.length_replicate]; omega)|apply And.intro)))):zaC5 E J P s:=zbW7 hK v h l hl
theorem zc2 {G X:Type} {I:G→St} {g':G} {y:G⊕X} {s:St} {k:Nat} (hK:E.k0=k) (l:List (Nat×Nat)) (h:some (.inl g')=some y)
  (hl:Le l s (I g')∧zaC2 k l (I g').nx=true:=by (simp only [go_sem,↓reduceIte,reduceCtorEq,Nat.reduceEqDiff,Nat.reduceAdd,Nat.reduceSub,Nat.reduceMul,Nat.reduceLeDiff,Nat.reduceLT,Int.reduceLE,Int.reduceLT,Int.reduceToNat,Int.reduceNeg]; first|(done)|trivial|(simp; done)|(repeat' (first|rfl|trivial|omega|(simp; done)|(simp; omega)|(congr 1; omega)|(congr 1; simp only [List.length_append,List.length_take,List.length_drop,List.length_replicate]; omega)|apply And.intro)))):zbN1 E I y s:=by
 cases h; exact zbW8 hK l hl
theorem zbN3 {G X β:Type} {I:G→St} {body:G→Option (G⊕X)} {kk:X→Option β} {R:Option β} {g':G} {s:St} {k:Nat} (hK:E.k0=k) (l:List (Nat×Nat)) (h:(zb4 body g').bind kk=R)
  (hl:Le l s (I g')∧zaC2 k l (I g').nx=true:=by (simp only [go_sem,↓reduceIte,reduceCtorEq,Nat.reduceEqDiff,Nat.reduceAdd,Nat.reduceSub,Nat.reduceMul,Nat.reduceLeDiff,Nat.reduceLT,Int.reduceLE,Int.reduceLT,Int.reduceToNat,Int.reduceNeg]; first|(done)|trivial|(simp; done)|(repeat' (first|rfl|trivial|omega|(simp; done)|(simp; omega)|(congr 1; omega)|(congr 1; simp only [List.length_append,List.length_take,List.length_drop,List.length_replicate]; omega)|apply And.intro)))):zbW9 E I body kk R s :=
 ⟨g',h,St.le_of l hl.1 (by rw [hK]; exact hl.2)⟩
theorem zc8 {c:PC} {G X β:Type} {body:G→Option (G⊕X)} {g0:G} {kk:X→Option β} {r:β} (I:G→St) {k:Nat} (hK:E.k0=k) (l:List (Nat×Nat)) (h:(zb4 body g0).bind kk=some r)
  (hb:∀ x,kk x=some r→∀ g y,body g=some y→(∀ x',y=.inr x'→x'=x)→AW C E c (zbu0 E I y Q) (I g))
  (hle:Le l st (I g0)∧zaC2 k l (I g0).nx=true:=by (simp only [go_sem,↓reduceIte,reduceCtorEq,Nat.reduceEqDiff,Nat.reduceAdd,Nat.reduceSub,Nat.reduceMul,Nat.reduceLeDiff,Nat.reduceLT,Int.reduceLE,Int.reduceLT,Int.reduceToNat,Int.reduceNeg]; first|(done)|trivial|(simp; done)|(repeat' (first|rfl|trivial|omega|(simp; done)|(simp; omega)|(congr 1; omega)|(congr 1; simp only [List.length_append,List.length_take,List.length_drop,List.length_replicate]; omega)|apply And.intro)))):AW C E (.loop c) Q st:=by
 obtain ⟨x,hx,hk⟩:=za2 h
 exact zcz8 I hK l hx hle (hb x hk)
theorem zeI2 {α:Type} {r:α} (h:none=some r):AW C E .dead Q st:=by cases h
theorem zaQ8 {x:PX} {p r:PC} (hx:xv C.G st.slot x=.bool true) (hG:E.G=C.G) (h:AW C E p Q st):AW C E (.cond x p r) Q st:=zbx7 hx hG (fun _=>h) (fun h=>by cases h)
theorem g_gh {c:PC} (g:Gh) (h:q) (e:Imp q (AW C E c Q (st.gh g)):=by (simp only [go_sem,↓reduceIte,reduceCtorEq,Nat.reduceEqDiff,Nat.reduceAdd,Nat.reduceSub,Nat.reduceMul,Nat.reduceLeDiff,Nat.reduceLT,Int.reduceLE,Int.reduceLT,Int.reduceToNat,Int.reduceNeg]; exact Imp.refl)) (hok:st.ghOk g:=by (simp only [go_sem,↓reduceIte,reduceCtorEq,Nat.reduceEqDiff,Nat.reduceAdd,Nat.reduceSub,Nat.reduceMul,Nat.reduceLeDiff,Nat.reduceLT,Int.reduceLE,Int.reduceLT,Int.reduceToNat,Int.reduceNeg]; first|(done)|trivial|(simp; done)|(repeat' (first|rfl|trivial|omega|(simp; done)|(simp; omega)|(congr 1; omega)|(congr 1; simp only [List.length_append,List.length_take,List.length_drop,List.length_replicate]; omega)|apply And.intro)))):AW C E c Q st:=zfd1 g hok (e h)
theorem ze0 {α:Type} {x r:α} {k:Nat} {st:St} {rs:List RX} {rl:List A} {ms':List (Nat×Row)} {k':Nat} (l:List (Nat×Nat)) (h:some x=some r)
  (e:x=r→zbg0 st rs∧zbt4 rl=true∧Le l ⟨zR2 0 (resL st rs),st.mem,st.nx⟩ ⟨zR2 0 rl,ms',k'⟩∧zaC2 k l k'=true:=by (intro e; subst e; simp only [go_sem,↓reduceIte,reduceCtorEq,Nat.reduceEqDiff,Nat.reduceAdd,Nat.reduceSub,Nat.reduceMul,Nat.reduceLeDiff,Nat.reduceLT,Int.reduceLE,Int.reduceLT,Int.reduceToNat,Int.reduceNeg]; first|(done)|trivial|(simp; done)|(repeat' (first|rfl|trivial|omega|(simp; done)|(simp; omega)|(congr 1; omega)|(congr 1; simp only [List.length_append,List.length_take,List.length_drop,List.length_replicate]; omega)|apply And.intro)))):zaU6 k st rs rl ms' k':=by
 obtain ⟨h1,h2,h3,h4⟩:=e (Option.some.inj h)
 exact ⟨h1,h2,l,h3,h4⟩
@[go_sem] theorem zcx4 {α:Type} (a:Nat×α) (l m:List (Nat×α)) (n:Nat):look ((a :: l)++m) n=if a.1=n then some a.2 else look (l++m) n:=rfl
@[go_sem] theorem zeI3 (m:Nat→MS) (v:A) (vs ws:List A):zJ6 m ((v :: vs)++ws)=frz m v :: zJ6 m (vs++ws):=rfl
@[go_sem] theorem zcA0 (m:Nat→MS) (v:A) (vs ws:List A):zA0 m ((v :: vs)++ws)=(zak6 m v∧zA0 m (vs++ws)):=rfl
@[go_sem] theorem zcx5 (v:A) (vs ws:List A):zA1 ((v :: vs)++ws)=zag4 v++zA1 (vs++ws):=rfl
@[go_sem] theorem zfa9 (m:Nat→MS) (l:List (Nat×Nat)) (k:Nat) (v a:A) (vs ws as:List A):zaP6 m l k ((v :: vs)++ws) (a :: as)=(argM m l k v a∧zaP6 m l k (vs++ws) as):=rfl
@[go_sem] theorem zfv5 (v a:A) (vs ws as:List A):fzM ((v :: vs)++ws) (a :: as)=(if a.hands then [] else zag4 v)++fzM (vs++ws) as:=rfl
@[go_sem] theorem zcA1 (q:Nat×MS) (r m:List (Nat×MS)) (n:Nat):nxt n ((q :: r)++m)=nxt (if q.1=n then n+1 else n) (r++m):=rfl
@[go_sem] theorem zcA2 {α:Type} (m:List (Nat×α)) (n:Nat):look ([]++m) n=look m n:=rfl
theorem zd3 {f:FuncId} {d:Option Nat} {ob:Prop} {vals:List A} {ps:List POp} {st:St} {K:St→Prop} (l nl:List (Nat×Nat)) (ids:List Nat) {as:List A} {ms ms':List (Nat×Row)} {k k':Nat} {r:A}
  (hf:MFn C f as ms k r ms' k') (hnl:newL k st.nx (k' - k)=nl) (hids:ms.map (·.1)++(List.range (k' - k)).map (k+·)=ids) (h:q)
  (e:Imp q (arun C ps (st.app d (renR (l++nl) r) (zO1 st.m (fzM vals as)++zab4 (l++nl) ms' ids)) K):=by (simp only [go_sem,↓reduceIte,reduceCtorEq,Nat.reduceEqDiff,Nat.reduceAdd,Nat.reduceSub,Nat.reduceMul,Nat.reduceLeDiff,Nat.reduceLT,Int.reduceLE,Int.reduceLT,Int.reduceToNat,Int.reduceNeg]; (repeat ((with_reducible apply Imp.and); focus (first|assumption|omega|rfl|(simp; done)|(simp; omega)|(intros; simp_all; done)|grind))); exact Imp.refl))
  (hok:okM st.m st.nx l vals as ms k k':=by (simp only [go_sem,↓reduceIte,reduceCtorEq,Nat.reduceEqDiff,Nat.reduceAdd,Nat.reduceSub,Nat.reduceMul,Nat.reduceLeDiff,Nat.reduceLT,Int.reduceLE,Int.reduceLT,Int.reduceToNat,Int.reduceNeg]; first|(done)|trivial|(simp; done)|(repeat' (first|rfl|trivial|omega|(simp; done)|(simp; omega)|(congr 1; omega)|(congr 1; simp only [List.length_append,List.length_take,List.length_drop,List.length_replicate]; omega)|apply And.intro))))
  (ho:ob:=by trivial) (hr:zaQ4 r=true:=by rfl):zai4 C f d none true ob vals ps st K:=by
 subst hnl; subst hids
 exact zbP5 l hf hok (e h) ho hr
theorem zbX2 (ms:List (Nat×Row)) (k:Nat):ms.map (·.1)++(List.range (k - k)).map (k+·)=ms.map (·.1):=by rw [Nat.sub_self]; exact List.append_nil _
theorem zbh8 {α:Type} {X:Option α} {dv v:α} {c:Bool} {f:FuncId} {d:Option Nat} {g:Option (Nat×Bool)} {gv:Bool} {ob:Prop} {vals:List A} {ps:List POp} {st:St} {K:St→Prop} (l:List (Nat×Nat)) (ids:List Nat) {as:List A} {ms ms':List (Nat×Row)} {k:Nat} {r:A}
  (hv:(if c=true then X else some dv)=some v) (hf:X=some v→MFn C f as ms k r ms' k) (hids:ms.map (·.1)=ids) (h:q)
  (ec:gv=c:=by first|rfl|(simp; done)|grind) (hs:dv=v→zaP7 st.m (zO1 st.m (fzM vals as)++zab4 l ms' ids):=by (intro e; subst e; simp only [go_sem,↓reduceIte,reduceCtorEq,Nat.reduceEqDiff,Nat.reduceAdd,Nat.reduceSub,Nat.reduceMul,Nat.reduceLeDiff,Nat.reduceLT,Int.reduceLE,Int.reduceLT,Int.reduceToNat,Int.reduceNeg]; first|(done)|trivial|(simp; done)|(repeat' (first|rfl|trivial|(simp; done)|apply And.intro))))
  (e:Imp q (arun C ps (st.app d (zK1 g gv (renR l r)) (zO1 st.m (fzM vals as)++zab4 l ms' ids)) K):=by (simp only [go_sem,↓reduceIte,reduceCtorEq,Nat.reduceEqDiff,Nat.reduceAdd,Nat.reduceSub,Nat.reduceMul,Nat.reduceLeDiff,Nat.reduceLT,Int.reduceLE,Int.reduceLT,Int.reduceToNat,Int.reduceNeg]; (repeat ((with_reducible apply Imp.and); focus (first|assumption|omega|rfl|(simp; done)|(simp; omega)|(intros; simp_all; done)|grind))); exact Imp.refl))
  (hok:okM st.m st.nx l vals as ms k k:=by (simp only [go_sem,↓reduceIte,reduceCtorEq,Nat.reduceEqDiff,Nat.reduceAdd,Nat.reduceSub,Nat.reduceMul,Nat.reduceLeDiff,Nat.reduceLT,Int.reduceLE,Int.reduceLT,Int.reduceToNat,Int.reduceNeg]; first|(done)|trivial|(simp; done)|(repeat' (first|rfl|trivial|omega|(simp; done)|(simp; omega)|(congr 1; omega)|(congr 1; simp only [List.length_append,List.length_take,List.length_drop,List.length_replicate]; omega)|apply And.intro))))
  (ho:gv=true→ob:=by first|(intro; trivial)|(intro; simp_all; done)) (hr:zaQ4 r=true:=by rfl) (hvv:(renR l r).isVV=true:=by rfl):zai4 C f d g gv ob vals ps st K:=by
 subst hids; subst ec
 refine zbH6 l (fun hg=>hf (zv4 hg hv)) (fun _=>hok) ?_ ?_ ho hr hvv
 ·intro hg; unfold mwM; rw [zbX2]; exact hs (Option.some.inj (zcC1 hg hv))
 ·unfold mwM; rw [zbX2]; exact e h
theorem zac1 {an:List (List Nat)} {f:FuncId} {d:Option Nat} {ob:Prop} {vals:List A} {vi:List Nat} {cok:Bool} {ps:List POp} {st:St} {log:List (List Nat×List Nat)} {K:St→Prop} (l nl:List (Nat×Nat)) (ids:List Nat) {as:List A} {ms ms':List (Nat×Row)} {k k':Nat} {r:A}
  (hf:MFn C f as ms k r ms' k') (hnl:newL k st.nx (k' - k)=nl) (hids:ms.map (·.1)++(List.range (k' - k)).map (k+·)=ids) (h:q)
  (e:Imp q (zaF2 (an.getD log.length []) 0 log vi ((zO1 st.m (fzM vals as)++zab4 (l++nl) ms' ids).map (·.1))=true∧cok=true∧zal0 C an ps (st.app d (renR (l++nl) r) (zO1 st.m (fzM vals as)++zab4 (l++nl) ms' ids)) (log++[(vi,(zO1 st.m (fzM vals as)++zab4 (l++nl) ms' ids).map (·.1))]) K):=by (simp only [go_sem,↓reduceIte,reduceCtorEq,Nat.reduceEqDiff,Nat.reduceAdd,Nat.reduceSub,Nat.reduceMul,Nat.reduceLeDiff,Nat.reduceLT,Int.reduceLE,Int.reduceLT,Int.reduceToNat,Int.reduceNeg]; (repeat ((with_reducible apply Imp.and); focus (first|assumption|omega|rfl|(simp; done)|(simp; omega)|(intros; simp_all; done)|grind))); exact Imp.refl))
  (hok:okM st.m st.nx l vals as ms k k':=by (simp only [go_sem,↓reduceIte,reduceCtorEq,Nat.reduceEqDiff,Nat.reduceAdd,Nat.reduceSub,Nat.reduceMul,Nat.reduceLeDiff,Nat.reduceLT,Int.reduceLE,Int.reduceLT,Int.reduceToNat,Int.reduceNeg]; first|(done)|trivial|(simp; done)|(repeat' (first|rfl|trivial|omega|(simp; done)|(simp; omega)|(congr 1; omega)|(congr 1; simp only [List.length_append,List.length_take,List.length_drop,List.length_replicate]; omega)|apply And.intro))))
  (ho:ob:=by trivial) (hr:zaQ4 r=true:=by rfl):zaJ2 C an f d none true ob vals vi cok ps st log K:=by
 subst hnl; subst hids
 exact zbH8 l hf hok (e h) ho hr
theorem zbd0 {α β:Type} {x r:α} (h:some (Sum.inl x:α⊕β)=some (.inl r)):some x=some r:=by cases h; rfl
theorem zak2 {α β:Type} {x r:β} (h:some (Sum.inr x:α⊕β)=some (.inr r)):some x=some r:=by cases h; rfl
theorem zbN4 {α:Type} {c gv:Bool} {X Y r:α} {f:FuncId} {d:Option Nat} {g:Option (Nat×Bool)} {ob:Prop} {vals:List A} {ps:List POp} {st:St} {K:St→Prop} (h:(if c=true then X else Y)=r)
  (ht:gv=true→X=r→zai4 C f d g gv ob vals ps st K) (hf:gv=false→Y=r→zai4 C f d g gv ob vals ps st K) (ec:gv=c:=by first|rfl|(simp; done)|grind):zai4 C f d g gv ob vals ps st K:=by
 subst ec
 cases hg:gv with
 | true=>rw [hg] at ht; exact ht rfl (zv4 hg h)
 | false=>rw [hg] at hf; exact hf rfl (zcC1 hg h)
theorem zbD6 {gv:Bool} {f:FuncId} {d:Option Nat} {g:Option (Nat×Bool)} {ob:Prop} {vals:List A} {ps:List POp} {st:St} {K:St→Prop} (hc:gv=true) (l nl:List (Nat×Nat)) (ids:List Nat) {as:List A} {ms ms':List (Nat×Row)} {k k':Nat} {r:A}
  (hf:MFn C f as ms k r ms' k') (hnl:newL k st.nx (k' - k)=nl) (hids:ms.map (·.1)++(List.range (k' - k)).map (k+·)=ids) (h:q)
  (e:Imp q (arun C ps (st.app d (zK1 g true (renR (l++nl) r)) (zO1 st.m (fzM vals as)++zab4 (l++nl) ms' ids)) K):=by (simp only [go_sem,↓reduceIte,reduceCtorEq,Nat.reduceEqDiff,Nat.reduceAdd,Nat.reduceSub,Nat.reduceMul,Nat.reduceLeDiff,Nat.reduceLT,Int.reduceLE,Int.reduceLT,Int.reduceToNat,Int.reduceNeg]; (repeat ((with_reducible apply Imp.and); focus (first|assumption|omega|rfl|(simp; done)|(simp; omega)|(intros; simp_all; done)|grind))); exact Imp.refl))
  (hok:okM st.m st.nx l vals as ms k k':=by (simp only [go_sem,↓reduceIte,reduceCtorEq,Nat.reduceEqDiff,Nat.reduceAdd,Nat.reduceSub,Nat.reduceMul,Nat.reduceLeDiff,Nat.reduceLT,Int.reduceLE,Int.reduceLT,Int.reduceToNat,Int.reduceNeg]; first|(done)|trivial|(simp; done)|(repeat' (first|rfl|trivial|omega|(simp; done)|(simp; omega)|(congr 1; omega)|(congr 1; simp only [List.length_append,List.length_take,List.length_drop,List.length_replicate]; omega)|apply And.intro))))
  (ho:ob:=by first|trivial|(simp_all; done)) (hr:zaQ4 r=true:=by rfl) (hvv:(renR (l++nl) r).isVV=true:=by rfl):zai4 C f d g gv ob vals ps st K:=by
 subst hnl; subst hids; subst hc
 exact ⟨l,as,ms,k,r,ms',k',fun _=>⟨ho,hf,hok,trivial⟩,(fun h=>nomatch h),.inr hvv,zaF4 hr,e h⟩
theorem zbN5 (m:Nat→MS) (nx:Nat) (vals:List A):mwM m ([]++newL 0 nx (0 - 0)) vals [] [] [] 0 0=[]:=by cases vals <;> rfl
theorem zbD7 {gv:Bool} {f:FuncId} {d:Option Nat} {g:Option (Nat×Bool)} {ob:Prop} {vals:List A} {ps:List POp} {st:St} {K:St→Prop} (hc:gv=false) (dv:A) (h:q)
  (e:Imp q (arun C ps (st.app d (zK1 g false dv) []) K):=by (simp only [go_sem,↓reduceIte,reduceCtorEq,Nat.reduceEqDiff,Nat.reduceAdd,Nat.reduceSub,Nat.reduceMul,Nat.reduceLeDiff,Nat.reduceLT,Int.reduceLE,Int.reduceLT,Int.reduceToNat,Int.reduceNeg]; (repeat ((with_reducible apply Imp.and); focus (first|assumption|omega|rfl|(simp; done)|(simp; omega)|(intros; simp_all; done)|grind))); exact Imp.refl))
  (hd:renR [] dv=dv:=by rfl) (hn:zaQ4 dv=true:=by rfl) (hvv:dv.isVV=true:=by rfl):zai4 C f d g gv ob vals ps st K:=by
 subst hc
 have hd':renR ([]++newL 0 st.nx (0 - 0)) dv=dv:=hd
 refine ⟨[],[],[],0,dv,[],0,(fun h=>nomatch h),fun _=>⟨rfl,?_⟩,.inr ?_,zaF4 hn,?_⟩
 ·rw [zbN5]; trivial
 ·rw [hd']; exact hvv
 ·rw [zbN5,hd']; exact e h
end
end Ab
end Go.Proofs.YtebopmkhhppfaaaGreatDoor
