import Derived.Test.YtebopmkhhppfaaaGreatDoorTy
import Derived.Test.YtebopmkhhppfaaaGreatDoorAb22
namespace Go.Proofs.YtebopmkhhppfaaaGreatDoor
namespace Ab
set_option linter.unusedSimpArgs false
set_option linter.unusedVariables false
def zbt9 (C:Cx) (f:FuncId) (d:Option Nat) (g:Option (Nat×Bool)) (gv:Bool) (ob:Prop) (args:List A) (rw:List (Nat×MS)) (ps:List POp) (st:St) (K:St→Prop):Prop :=
 ∃ r,(gv=true→ob∧PFn C f args r)∧(g=none∨(if r.scal then [] else rw)=[]∧r.isVV=true)∧arun C ps (st.app d (zK1 g gv r) (if r.scal then [] else rw)) K
theorem zbW2 {C:Cx} {f:FuncId} {d:Option Nat} {g:Option (Nat×Bool)} {gv:Bool} {ob:Prop} {args:List A} {rw:List (Nat×MS)} {ps:List POp} {st:St} {K:St→Prop} {r:A}
  (hf:gv=true→PFn C f args r) (h:arun C ps (st.app d (zK1 g gv r) (if r.scal then [] else rw)) K)
  (ho:gv=true→ob:=by intro; trivial) (hg:g=none∨(if r.scal then [] else rw)=[]∧r.isVV=true:=by first|exact .inl rfl|exact .inr ⟨rfl,rfl⟩):zbt9 C f d g gv ob args rw ps st K:=⟨r,fun e=>⟨ho e,hf e⟩,hg,h⟩
def zai4 (C:Cx) (f:FuncId) (d:Option Nat) (g:Option (Nat×Bool)) (gv:Bool) (ob:Prop) (vals:List A) (ps:List POp) (st:St) (K:St→Prop):Prop :=
 zas9 C st.m st.nx f vals g gv ob (fun _=>True) fun v mw=>arun C ps (st.app d v mw) K
def zaQ4:A→Bool
 | .cnd _ _=>false
 | _=>true
theorem zaF4 {r:A} (h:zaQ4 r=true):∀ g c,r≠.cnd g c:=fun g c e=>by subst e; cases h
theorem zbP5 {C:Cx} {f:FuncId} {d:Option Nat} {ob:Prop} {vals:List A} {ps:List POp} {st:St} {K:St→Prop} (l:List (Nat×Nat)) {as:List A} {ms ms':List (Nat×Row)} {k k':Nat} {r:A}
  (hf:MFn C f as ms k r ms' k') (hok:okM st.m st.nx l vals as ms k k') (h:arun C ps (st.app d (renR (l++newL k st.nx (k' - k)) r) (mwM st.m (l++newL k st.nx (k' - k)) vals as ms ms' k k')) K)
  (ho:ob:=by trivial) (hr:zaQ4 r=true:=by rfl):zai4 C f d none true ob vals ps st K :=
 ⟨l,as,ms,k,r,ms',k',fun _=>⟨ho,hf,hok,trivial⟩,(fun h=>nomatch h),.inl rfl,zaF4 hr,h⟩
theorem zbH6 {C:Cx} {f:FuncId} {d:Option Nat} {g:Option (Nat×Bool)} {gv:Bool} {ob:Prop} {vals:List A} {ps:List POp} {st:St} {K:St→Prop} (l:List (Nat×Nat)) {as:List A} {ms ms':List (Nat×Row)} {k:Nat} {r:A}
  (hf:gv=true→MFn C f as ms k r ms' k) (hok:gv=true→okM st.m st.nx l vals as ms k k) (hs:gv=false→zaP7 st.m (mwM st.m l vals as ms ms' k k)) (h:arun C ps (st.app d (zK1 g gv (renR l r)) (mwM st.m l vals as ms ms' k k)) K)
  (ho:gv=true→ob) (hr:zaQ4 r=true:=by rfl) (hv:(renR l r).isVV=true:=by rfl):zai4 C f d g gv ob vals ps st K:=by
 have e:l++newL k st.nx (k - k)=l:=by rw [Nat.sub_self]; exact List.append_nil l
 refine ⟨l,as,ms,k,r,ms',k,fun h=>⟨ho h,hf h,hok h,trivial⟩,?_⟩
 rw [e]
 exact ⟨fun h=>⟨rfl,hs h⟩,.inr hv,zaF4 hr,h⟩
theorem zbW3 (C:Cx) (st:St) (K:St→Prop):arun C [] st K=K st:=rfl
theorem zbP6 (C:Cx) (d:Option Nat) (g:Option (Nat×Bool)) (po:PO) (xs:List PX) (ps:List POp) (st:St) (K:St→Prop) :
  arun C (⟨d,g,po,xs⟩ :: ps) st K=(match po with
   | .call f=>(match zI4 st g with
    | none=>False
    | some gv=>zbt9 C f d g gv (zae9 C st xs∧zA0 st.m (zk1 C st xs)) (zJ6 st.m (zk1 C st xs)) (zO1 st.m (zA1 (zk1 C st xs))) ps st K)
   | .callv=>(match zI4 st g with
    | none=>False
    | some gv=>(match zk1 C st xs with
     | .clo f caps :: vals=>zbt9 C f d g gv (zae9 C st xs∧zQ8 C.P f=true∧zA0 st.m (vals++caps)) (zJ6 st.m (vals++caps)) (zO1 st.m (zA1 (vals++caps))) ps st K
     | _=>False))
   | .callm f=>(match zI4 st g with
    | none=>False
    | some gv=>zai4 C f d g gv (zae9 C st xs) (zk1 C st xs) ps st K)
   | .callvm=>(match zI4 st g with
    | none=>False
    | some gv=>(match zk1 C st xs with
     | .clo f caps :: vals=>zai4 C f d g gv (zae9 C st xs∧zQ8 C.P f=true) (vals++caps) ps st K
     | _=>False))
   | .eqNil=>g=none∧zae9 C st xs∧nilQ (fun b=>arun C ps (st.app d (.bool b) []) K) (zk1 C st xs)
   | po=>aop C ⟨d,g,po,xs⟩ st fun st'=>arun C ps st' K):=by
 cases po with
 | eqNil=>rfl
 | call f =>
  simp only [arun,aop,zbt9,PO.isNilQ,Bool.false_eq_true,if_false]
  cases zI4 st g with
  | none=>rfl
  | some gv=>simp only [zF3,and_assoc]
 | callv =>
  simp only [arun,aop,PO.isNilQ,Bool.false_eq_true,if_false]
  cases zI4 st g with
  | none=>rfl
  | some gv =>
   simp only
   generalize zk1 C st xs=vv
   rcases vv with _|⟨x,vs⟩
   ·rfl
   ·cases x <;> first|rfl|(simp only [zbt9,zF3,and_assoc])
 | callm f =>
  simp only [arun,aop,zai4,PO.isNilQ,Bool.false_eq_true,if_false]
  cases zI4 st g with
  | none=>rfl
  | some gv=>rfl
 | callvm =>
  simp only [arun,aop,PO.isNilQ,Bool.false_eq_true,if_false]
  cases zI4 st g with
  | none=>rfl
  | some gv =>
   simp only
   generalize zk1 C st xs=vv
   rcases vv with _|⟨x,vs⟩
   ·rfl
   ·cases x <;> first|rfl|(simp only [zai4])
 | _=>rfl
def zaV2 (C:Cx) (f:FuncId) (d:Option Nat) (g:Option (Nat×Bool)) (gv:Bool) (ob:Prop) (args:List A) (rw:List (Nat×MS)) (ps:List POp) (st:St) (K:St→Prop):Prop :=
 ∃ r,(gv=true→ob∧PFn C f args r)∧(g=none∨(if r.scal then [] else rw)=[]∧r.isVV=true)∧((st.app d (zK1 g gv r) (if r.scal then [] else rw)).mem=st.mem∧(st.app d (zK1 g gv r) (if r.scal then [] else rw)).nx=st.nx)∧zaC4 C ps (st.app d (zK1 g gv r) (if r.scal then [] else rw)) K
theorem zbP7 {C:Cx} {f:FuncId} {d:Option Nat} {g:Option (Nat×Bool)} {gv:Bool} {ob:Prop} {args:List A} {rw:List (Nat×MS)} {ps:List POp} {st:St} {K:St→Prop} {r:A}
  (hf:gv=true→PFn C f args r) (h:zaC4 C ps (st.app d (zK1 g gv r) []) K)
  (ho:gv=true→ob:=by intro; trivial) (hg:g=none∨(if r.scal then [] else rw)=[]∧r.isVV=true:=by first|exact .inl rfl|exact .inr ⟨rfl,rfl⟩) (hn:(if r.scal then [] else rw)=[]:=by rfl):zaV2 C f d g gv ob args rw ps st K:=⟨r,fun e=>⟨ho e,hf e⟩,hg,by rw [hn]; exact ⟨rfl,rfl⟩,by rw [hn]; exact h⟩
theorem zbP8 (C:Cx) (st:St) (K:St→Prop):zaC4 C [] st K=K st:=rfl
theorem zbH7 (C:Cx) (d:Option Nat) (g:Option (Nat×Bool)) (po:PO) (xs:List PX) (ps:List POp) (st:St) (K:St→Prop) :
  zaC4 C (⟨d,g,po,xs⟩ :: ps) st K=(match po with
   | .call f=>(match zI4 st g with
    | none=>False
    | some gv=>zaV2 C f d g gv (zae9 C st xs∧zA0 st.m (zk1 C st xs)) (zJ6 st.m (zk1 C st xs)) (zO1 st.m (zA1 (zk1 C st xs))) ps st K)
   | .callv=>(match zI4 st g with
    | none=>False
    | some gv=>(match zk1 C st xs with
     | .clo f caps :: vals=>zaV2 C f d g gv (zae9 C st xs∧zQ8 C.P f=true∧zA0 st.m (vals++caps)) (zJ6 st.m (vals++caps)) (zO1 st.m (zA1 (vals++caps))) ps st K
     | _=>False))
   | po=>aop C ⟨d,g,po,xs⟩ st fun st'=>(st'.mem=st.mem∧st'.nx=st.nx)∧zaC4 C ps st' K):=by
 cases po with
 | call f =>
  simp only [zaC4,aop,zaV2]
  cases zI4 st g with
  | none=>rfl
  | some gv=>simp only [zF3,and_assoc]
 | callv =>
  simp only [zaC4,aop]
  cases zI4 st g with
  | none=>rfl
  | some gv =>
   simp only
   generalize zk1 C st xs=vv
   rcases vv with _|⟨x,vs⟩
   ·rfl
   ·cases x <;> first|rfl|(simp only [zaV2,zF3,and_assoc])
 | _=>rfl
def zaV3 (C:Cx) (an:List (List Nat)) (f:FuncId) (d:Option Nat) (g:Option (Nat×Bool)) (gv:Bool) (ob:Prop) (args:List A) (rw:List (Nat×MS)) (ids:List Nat) (cok:Bool) (ps:List POp) (st:St) (log:List (List Nat×List Nat)) (K:St→Prop):Prop :=
 ∃ r,(gv=true→ob∧PFn C f args r)∧(g=none∨(if r.scal then [] else rw)=[]∧r.isVV=true)∧zaF2 (an.getD log.length []) 0 log ids ((if r.scal then [] else rw).map (·.1))=true∧cok=true ∧
  zal0 C an ps (st.app d (zK1 g gv r) (if r.scal then [] else rw)) (log++[(ids,(if r.scal then [] else rw).map (·.1))]) K
theorem zbP9 {C:Cx} {an:List (List Nat)} {f:FuncId} {d:Option Nat} {g:Option (Nat×Bool)} {gv:Bool} {ob:Prop} {args:List A} {rw:List (Nat×MS)} {ids:List Nat} {cok:Bool} {ps:List POp} {st:St} {log:List (List Nat×List Nat)} {K:St→Prop} {r:A}
  (hf:gv=true→PFn C f args r) (h:zaF2 (an.getD log.length []) 0 log ids ((if r.scal then [] else rw).map (·.1))=true∧cok=true∧zal0 C an ps (st.app d (zK1 g gv r) (if r.scal then [] else rw)) (log++[(ids,(if r.scal then [] else rw).map (·.1))]) K)
  (ho:gv=true→ob:=by intro; trivial) (hg:g=none∨(if r.scal then [] else rw)=[]∧r.isVV=true:=by first|exact .inl rfl|exact .inr ⟨rfl,rfl⟩):zaV3 C an f d g gv ob args rw ids cok ps st log K:=⟨r,fun e=>⟨ho e,hf e⟩,hg,h.1,h.2.1,h.2.2⟩
def zaJ2 (C:Cx) (an:List (List Nat)) (f:FuncId) (d:Option Nat) (g:Option (Nat×Bool)) (gv:Bool) (ob:Prop) (vals:List A) (ids:List Nat) (cok:Bool) (ps:List POp) (st:St) (log:List (List Nat×List Nat)) (K:St→Prop):Prop :=
 zas9 C st.m st.nx f vals g gv ob (fun n=>∀ x,st.nx≤x→x < st.nx+n→st.m x=.fresh) fun v mw=>zaF2 (an.getD log.length []) 0 log ids (mw.map (·.1))=true∧cok=true∧zal0 C an ps (st.app d v mw) (log++[(ids,mw.map (·.1))]) K
theorem zbH8 {C:Cx} {an:List (List Nat)} {f:FuncId} {d:Option Nat} {ob:Prop} {vals:List A} {ids:List Nat} {cok:Bool} {ps:List POp} {st:St} {log:List (List Nat×List Nat)} {K:St→Prop} (l:List (Nat×Nat)) {as:List A} {ms ms':List (Nat×Row)} {k k':Nat} {r:A}
  (hf:MFn C f as ms k r ms' k') (hok:okM st.m st.nx l vals as ms k k')
  (h:zaF2 (an.getD log.length []) 0 log ids ((mwM st.m (l++newL k st.nx (k' - k)) vals as ms ms' k k').map (·.1))=true∧cok=true∧zal0 C an ps (st.app d (renR (l++newL k st.nx (k' - k)) r) (mwM st.m (l++newL k st.nx (k' - k)) vals as ms ms' k k')) (log++[(ids,(mwM st.m (l++newL k st.nx (k' - k)) vals as ms ms' k k').map (·.1))]) K)
  (ho:ob:=by trivial) (hr:zaQ4 r=true:=by rfl):zaJ2 C an f d none true ob vals ids cok ps st log K :=
 ⟨l,as,ms,k,r,ms',k',fun _=>⟨ho,hf,hok,fun x hx _=>zbx5 st x hx⟩,(fun h=>nomatch h),.inl rfl,zaF4 hr,h⟩
theorem zbQ0 (C:Cx) (an:List (List Nat)) (st:St) (log:List (List Nat×List Nat)) (K:St→Prop):zal0 C an [] st log K=K st:=rfl
theorem zbH9 (C:Cx) (an:List (List Nat)) (d:Option Nat) (g:Option (Nat×Bool)) (po:PO) (xs:List PX) (ps:List POp) (st:St) (log:List (List Nat×List Nat)) (K:St→Prop) :
  zal0 C an (⟨d,g,po,xs⟩ :: ps) st log K=(match po with
   | .call f=>(match zH3 st.slot g with
    | none=>False
    | some gv=>zaV3 C an f d g gv (gdsF C st.slot xs∧zA0 st.m (zE2 C st.slot xs)) (zJ6 st.m (zE2 C st.slot xs)) (zO1 st.m (zA1 (zE2 C st.slot xs))) (zw8 (zk1 C st xs)) (zaz5 (zk1 C st xs)) ps st log K)
   | .callv=>(match zH3 st.slot g with
    | none=>False
    | some gv=>(match zE2 C st.slot xs with
     | .clo f caps :: vals=>zaV3 C an f d g gv (gdsF C st.slot xs∧zQ8 C.P f=true∧zA0 st.m (vals++caps)) (zJ6 st.m (vals++caps)) (zO1 st.m (zA1 (vals++caps))) (zw8 (zk1 C st xs)) (zaz5 (zk1 C st xs)) ps st log K
     | _=>False))
   | .callm f=>(match zH3 st.slot g with
    | none=>False
    | some gv=>zaJ2 C an f d g gv (gdsF C st.slot xs) (zE2 C st.slot xs) (zw8 (zk1 C st xs)) (zaz5 (zk1 C st xs)) ps st log K)
   | .callvm=>(match zH3 st.slot g with
    | none=>False
    | some gv=>(match zE2 C st.slot xs with
     | .clo f caps :: vals=>zaJ2 C an f d g gv (gdsF C st.slot xs∧zQ8 C.P f=true) (vals++caps) (zw8 (zk1 C st xs)) (zaz5 (zk1 C st xs)) ps st log K
     | _=>False))
   | po=>aopS C ⟨d,g,po,xs⟩ st.toS st.nx fun v mw=>zaF2 (an.getD log.length []) 0 log (zw8 (zk1 C st xs)) (mw.map (·.1))=true∧zaz5 (zk1 C st xs)=true ∧
     zal0 C an ps (st.app d v mw) (log++[(zw8 (zk1 C st xs),mw.map (·.1))]) K):=by
 cases po with
 | call f =>
  simp only [zal0,aopS,zaV3,St.toS]
  cases zH3 st.slot g with
  | none=>rfl
  | some gv=>simp only [zF3,and_assoc]
 | callv =>
  simp only [zal0,aopS,St.toS]
  cases zH3 st.slot g with
  | none=>rfl
  | some gv =>
   simp only
   generalize zE2 C st.slot xs=vv
   rcases vv with _|⟨x,vs⟩
   ·rfl
   ·cases x <;> first|rfl|(simp only [zaV3,zF3,and_assoc])
 | callm f =>
  simp only [zal0,aopS,zaJ2,St.toS]
  cases zH3 st.slot g with
  | none=>rfl
  | some gv=>rfl
 | callvm =>
  simp only [zal0,aopS,St.toS]
  cases zH3 st.slot g with
  | none=>rfl
  | some gv =>
   simp only
   generalize zE2 C st.slot xs=vv
   rcases vv with _|⟨x,vs⟩
   ·rfl
   ·cases x <;> first|rfl|(simp only [zaJ2])
 | _=>rfl
attribute [go_sem ↓] aop aopS
attribute [go_sem] zbW3 zbP6 zbP8 zbH7 zbQ0 zbH9 zH3 zE2 gdsF St.toS zw8 idsA zaL4 zaw2 zaz5 zaF3 A.flatCap okM zaP6 argM A.hands fzM zbs4 zbs5 newL zab4 mwM entM zaP7 MS.like renR ren0 zbB6 resL zbg0 zbt4 zI4 St.slot St.m look zk1 zae9 xv A.nc A.gd ev zbr4 zah9 zas5 zac7 A.cells A.isV A.isK A.isStr A.isVV allV allK zp2 laid zbe1 zay9
 PO.lax nilQ zK1 St.app putF putM nxt rm zbs3 St.drop zF3 zJ6 zA0 frz frz1 zak6 zag3 zag4 zI3 zA1 zO1 A.scal A.scal1 A.scal2 zam7 zbf1 zl2 A.pure1 pureEs
 zp1 LK.fits eqA eq1 glob zR2 zbt3 allG zaC3 resA resG zbM0 Le leF leM rho ren ren1 zas8 idOk zaY4 idEs zap4
def SeqQ (C:Cx) (E:Env) (y:PC) (Q:Exit→St→Prop):Exit→St→Prop:=fun e s=>match e with|.normal=>AW C E y Q s|e=>Q e s
def BlkQ (id:Nat) (Q:Exit→St→Prop):Exit→St→Prop:=fun e s=>match e with|.exit i=>(if i=id then Q .normal s else Q (.exit i) s)|e=>Q e s
section
variable {C:Cx} {E:Env} {Q:Exit→St→Prop} {st:St}
theorem za0 {x y:PC} (h:AW C E x (SeqQ C E y Q) st):AW C E (.seq x y) Q st:=zeH6 h
theorem zb3 {id:Nat} {c:PC} (h:AW C E c (BlkQ id Q) st):AW C E (.block id c) Q st:=zbf7 h
theorem zbD0 {y:PC} (s:St):SeqQ C E y Q .normal s=AW C E y Q s:=rfl
theorem zbW4 {y:PC} (s:St):SeqQ C E y Q .ret s=Q .ret s:=rfl
theorem zbQ1 {y:PC} (i:Nat) (s:St):SeqQ C E y Q (.exit i) s=Q (.exit i) s:=rfl
theorem zbD1 (i:Nat) (s:St):BlkQ i Q .normal s=Q .normal s:=rfl
theorem zbW5 (i:Nat) (s:St):BlkQ i Q .ret s=Q .ret s:=rfl
theorem zbQ2 (i j:Nat) (s:St):BlkQ i Q (.exit j) s=if j=i then Q .normal s else Q (.exit j) s:=rfl
theorem zbW6 (rs:List RX) (r:A) (fr:List (Nat×A)) (m:List (Nat×Row)) (n:Nat):Post rs r .ret ⟨fr,m,n⟩=zbt3 ⟨fr,m,n⟩ rs r:=rfl
theorem zbD2 (rs:List RX) (r:A) (fr:List (Nat×A)) (m:List (Nat×Row)) (n:Nat):Post rs r .normal ⟨fr,m,n⟩=zbt3 ⟨fr,m,n⟩ rs r:=rfl
theorem zbQ3 (k:Nat) (rs:List RX) (rl:List A) (ms':List (Nat×Row)) (k':Nat) (fr:List (Nat×A)) (m:List (Nat×Row)) (n:Nat):zbV5 k rs rl ms' k' .ret ⟨fr,m,n⟩=zaU6 k ⟨fr,m,n⟩ rs rl ms' k':=rfl
theorem zby3 (k:Nat) (rs:List RX) (rl:List A) (ms':List (Nat×Row)) (k':Nat) (fr:List (Nat×A)) (m:List (Nat×Row)) (n:Nat):zbV5 k rs rl ms' k' .normal ⟨fr,m,n⟩=zaU6 k ⟨fr,m,n⟩ rs rl ms' k':=rfl
attribute [go_sem] zbQ3 zby3 St.gh St.ghOk St.fz St.fzOk St.own0 St.ownb St.ownbOk zaQ2 zaz9 zbW1 St.unfs St.cast St.unf zbh5 zat4 unfA memN fzA fzCs fzV fzEs fzFr zbC7 zbt6 zaU9 zbC8 zbc8 zbx9 zby0 zbc9
attribute [go_sem] zbD0 zbW4 zbQ1 zbD1 zbW5 zbQ2 zbW6 zbD2
end
theorem zbh7 (n:Nat):zF2 n []:=by intro c hc; cases hc
theorem zbD3 (n:Nat) (a:List A) (b:List (List A)):zF2 n (a :: b) ↔ a.length=n∧zF2 n b:=by
 simp only [zF2,List.mem_cons]
 exact ⟨fun h=>⟨h a (.inl rfl),fun c hc=>h c (.inr hc)⟩,fun ⟨h1,h2⟩ c hc=>hc.elim (fun e=>e ▸ h1) (h2 c)⟩
theorem zaQ5:zK0 []:=by intro c hc; cases hc
attribute [go_sem] Nat.zero_add Nat.add_zero Nat.lt_irrefl Nat.le_refl Nat.lt_add_one Nat.zero_le Int.toNat_zero Int.toNat_natCast Int.natCast_zero imp_self and_self true_and and_true false_and and_false or_true true_or or_false false_or forall_const true_implies false_implies implies_true if_true if_false eq_self ne_eq not_true_eq_false not_false_eq_true Bool.true_and Bool.and_true Bool.false_and Bool.and_false Bool.not_true Bool.not_false Bool.not_not Bool.false_eq_true Bool.true_eq_false cond_true cond_false Bool.cond_true_left Bool.cond_true_right Bool.cond_false_left Bool.cond_false_right decide_true decide_false Option.getD_some Option.getD_none Option.map_some Option.map_none Option.bind_some Option.isSome_some Option.isNone_none List.length_cons List.length_nil List.length_map List.length_append List.all_nil List.all_cons List.nil_append List.append_nil List.map_nil List.map_cons List.set_cons_zero List.set_nil List.getD_cons_zero List.getD_cons_succ List.length_set List.headD_cons List.contains_nil List.take_nil List.drop_nil beq_self_eq_true
attribute [simp] zbh7 zaQ5
attribute [go_sem] zbh7 zbD3 zaQ5
@[go_sem] theorem zcz6 (l:List Int):u8s (l.map fun n=>[A.int .u8 n])=some l:=by
 induction l with
 | nil=>rfl
 | cons n l ih=>simp only [List.map_cons,u8s,ih,Option.map_some]
@[go_sem] theorem zfa8 (l:List UInt8):(l.map fun b=>[A.int .u8 (b.toNat:Int)])=(l.map fun b=>(b.toNat:Int)).map (eI .u8):=by
 rw [List.map_map]; rfl
@[go_sem] theorem zfd2 (l:List Int):u8s (l.map (eI .u8))=some l:=zcz6 l
@[go_sem] theorem zfv6:([]:List A).flatMap zI3=[]:=rfl
@[go_sem] theorem zfv7 (x lo n:Nat) (cs:List A):(A.own x lo n :: cs).flatMap zI3=x :: cs.flatMap zI3:=rfl
@[go_sem] theorem zfv8 (s:ByteArray) (cs:List A):(A.str s :: cs).flatMap zI3=cs.flatMap zI3:=rfl
@[go_sem] theorem zfv9 (k:IntKind) (n:Int) (cs:List A):(A.int k n :: cs).flatMap zI3=cs.flatMap zI3:=rfl
@[go_sem] theorem zfv0 (b:Bool) (cs:List A):(A.bool b :: cs).flatMap zI3=cs.flatMap zI3:=rfl
@[go_sem] theorem zfw7 (l:List (List A)) (cs:List A):(A.sl l :: cs).flatMap zI3=cs.flatMap zI3:=rfl
attribute [go_sem] List.isEmpty_nil List.isEmpty_cons ite_self List.forall_mem_cons List.not_mem_nil
@[go_sem ↓] theorem zfd3 (r:A):(if r.scal=true then ([]:List (Nat×MS)) else [])=[]:=ite_self _
@[go_sem] theorem zfv1 (c x:A) (cs xs:List A):upd (c :: cs) 0 (x :: xs)=x :: upd cs 0 xs:=by simp [upd,Nat.add_comm]
@[go_sem] theorem zfv2 (cs:List A) (n:Nat):upd cs n []=cs:=by simp [upd]
@[go_sem] theorem zfw0 (c:A) (cs new:List A) (n:Nat):upd (c :: cs) (n+1) new=c :: upd cs n new:=by simp [upd,Nat.add_right_comm]
@[go_sem] theorem zfv3 (c:A) (cs:List A) (k:Nat):sub (c :: cs) 0 (k+1)=c :: sub cs 0 k:=by simp [sub]
@[go_sem] theorem zfv4 (cs:List A) (n:Nat):sub cs n 0=[]:=by simp [sub]
@[go_sem] theorem zfw1 (c:A) (cs:List A) (n k:Nat):sub (c :: cs) (n+1) k=sub cs n k:=by simp [sub]
end Ab
end Go.Proofs.YtebopmkhhppfaaaGreatDoor
