import Derived.Test.YtenebhlnfjcffaaGreatDoorAb16
import Derived.Orders
namespace Go.Proofs.YtenebhlnfjcffaaGreatDoor
namespace Ab
set_option linter.unusedSimpArgs false
set_option linter.unusedVariables false
def zE4:Nat→List A→List (Nat×A)
 | _,[]=>[]
 | n,a :: as=>(n,a) :: zE4 (n+1) as
inductive RX where
 | t (n:Nat)
 | c (n sz:Nat) (ag:Bool)
def zav5 (P:Program):List ResultVar→List RX→Bool
 | [],[]=>true
 | .tmp t :: rs,.t n :: ns=>t == n&&zav5 P rs ns
 | .cell t T :: rs,.c n sz ag :: ns=>t == n&&tyOk P T ag sz&&zav5 P rs ns
 | _,_=>false
def chkF (P:Program) (f:FuncId) (pc:PC) (N:Nat) (rs:List RX) (np:Nat):Bool :=
 match P.funcs[f]? with
 | some fn=>(match fn.body with
  | some c=>chkC P N c pc
  | none=>false)&&fn.ntmps == N&&zav5 P fn.results.toList rs&&Nat.ble np N
 | none=>false
def resA (st:St):RX→A
 | .t n=>st.slot n
 | .c n sz ag=>match ev st.nx st.m (.load sz ag) [st.slot n] with
  | some ef=>ef.v
  | none=>.any
def resG (st:St):RX→Prop
 | .t _=>True
 | .c n sz ag=>match ev st.nx st.m (.load sz ag) [st.slot n] with
  | some ef=>ef.obl
  | none=>False
def allG (st:St):List RX→Prop
 | []=>True
 | x :: xs=>(resG st x∧zaj0 st.m (resA st x))∧allG st xs
def zaH7 (st:St):List RX→List A
 | []=>[]
 | x :: xs=>frz st.m (resA st x) :: zaH7 st xs
def zbD2:List A→A
 | [x]=>x
 | xs=>.tup xs
def zbD3 (st:St) (rs:List RX) (r:A):Prop:=allG st rs∧zbD2 (zaH7 st rs)=r
def resL (st:St):List RX→List A
 | []=>[]
 | x :: xs=>resA st x :: resL st xs
def zbh3 (st:St):List RX→Prop
 | []=>True
 | x :: xs=>resG st x∧zbh3 st xs
def zbp9:List A→Bool
 | []=>true
 | x :: xs=>x.isVV&&zbp9 xs
def zaF6 (k:Nat) (st:St) (rs:List RX) (rl:List A) (ms':List (Nat×Row)) (k':Nat):Prop :=
 zbh3 st rs∧zbp9 rl=true∧∃ l,Le l ⟨zE4 0 (resL st rs),st.mem,st.nx⟩ ⟨zE4 0 rl,ms',k'⟩∧zaj2 k l k'=true
def zbO5 (k:Nat) (rs:List RX) (rl:List A) (ms':List (Nat×Row)) (k':Nat):Exit→St→Prop
 | .ret,st=>zaF6 k st rs rl ms' k'
 | .normal,st=>zaF6 k st rs rl ms' k'
 | _,_=>False
def zbD4:List (Nat×Row)→Bool
 | []=>true
 | q :: r=>!q.2.ro&&zbD4 r
def Post (rs:List RX) (r:A):Exit→St→Prop
 | .ret,st=>zbD3 st rs r
 | .normal,st=>zbD3 st rs r
 | _,_=>False
section
variable {C:Cx}
theorem zap8:∀ (as:List A) (n t:Nat),look (zE4 n as) t=if n≤t then as[t - n]? else none
 | [],n,t=>by simp [zE4,look]
 | a :: as,n,t=>by
  simp only [zE4,look]
  by_cases h:n=t
  ·subst h; simp
  ·rw [bW h,zap8 as (n+1) t]
   by_cases h2:n+1≤t
   ·rw [bY h2,bY (by omega)]
    rw [show t - n=(t - (n+1))+1 by omega]
    simp
   ·rw [bW h2]
    by_cases h3:n≤t
    ·omega
    ·rw [bW h3]
def zbc4:List Value→Value
 | [v]=>v
 | us=>.tuple us.toArray
theorem zaL7 {E:Env} {st:St} {a:Act} {w:World} {W:Nat→Prop} {μ:Nat→Loc} (hs:SatW E st.toS a w W μ) {F:ResultVar→Sem Value} (hF:∀ t,F (.tmp t)=pure (a.tmps.getD t undef))
  (hC:∀ t T,F (.cell t T)=do loadVar T (← asAddr (a.tmps.getD t undef))):∀ (l:List ResultVar) (ns:List RX),zav5 C.P l ns=true→zbh3 st ns →
  ∃ us,(l.mapM F).run C.P w=.ok us w∧us.length=ns.length∧∀ (i:Nat) (u:Value) (x:RX),us[i]? = some u→ns[i]? = some x→Rep w W μ u (resA st x)
 | [],[],_,_=>⟨[],rfl,rfl,fun i u x h=>by simp at h⟩
 | [],_ :: _,h,_=>by simp [zav5] at h
 | x :: l,[],h,_=>by cases x <;> simp [zav5] at h
 | .cell _ _ :: _,.t _ :: _,h,_=>by simp [zav5] at h
 | .tmp _ :: _,.c _ _ _ :: _,h,_=>by simp [zav5] at h
 | .tmp t :: l,.t n :: ns,h,hg=>by
  simp only [zav5,bS,cY] at h
  obtain ⟨rfl,h2⟩:=h
  obtain ⟨us,e1,e2,e3⟩:=zaL7 hs hF hC l ns h2 hg.2
  refine ⟨a.tmps.getD t undef :: us,?_,by simp [e2],fun i u x hu hx=>?_⟩
  ·simp only [jY,Sem.run_bind,hF,Sem.run_pure,Result.andThen_ok,e1]
  ·cases i with
   | zero=>rw [List.getElem?_cons_zero] at hu hx; cases hu; cases hx; exact hs.fr t
   | succ i=>exact e3 i u x (by simpa using hu) (by simpa using hx)
 | .cell t T :: l,.c n sz ag :: ns,h,hg=>by
  simp only [zav5,bS,cY] at h
  obtain ⟨⟨rfl,hT⟩,h2⟩:=h
  obtain ⟨us,e1,e2,e3⟩:=zaL7 hs hF hC l ns h2 hg.2
  have hg1:=hg.1
  have hl:∃ u,(F (.cell t T)).run C.P w=.ok u w∧Rep w W μ u (resA st (.c t sz ag)):=by
   simp only [resG] at hg1
   split at hg1
   ·rename_i ef he
    obtain ⟨b,q,u,h1,h3,h4⟩:=zbN3 (P:=C.P) hs hT (hs.fr t) he hg1
    refine ⟨u,?_,?_⟩
    ·rw [hC]
     simp only [h1,Sem.run_bind]
     show (((loadVar T ⟨b,q,none⟩).run C.P w))=_
     exact h3
    ·simp only [resA,he]; exact h4
   ·exact hg1.elim
  obtain ⟨u0,h5,h6⟩:=hl
  refine ⟨u0 :: us,?_,by simp [e2],fun i u x hu hx=>?_⟩
  ·simp only [jY,Sem.run_bind,h5,Sem.run_pure,Result.andThen_ok,e1]
  ·cases i with
   | zero=>simp at hu hx; subst hu; subst hx; exact h6
   | succ i=>exact e3 i u x (by simpa using hu) (by simpa using hx)
theorem zbh4 (fn:Func) {E:Env} {st:St} {a:Act} {w:World} {W:Nat→Prop} {μ:Nat→Loc} (hs:SatW E st.toS a w W μ) {rs:List RX} (h:zav5 C.P fn.results.toList rs=true) (hg:zbh3 st rs) :
  ∃ us,(results fn a.tmps).run C.P w=.ok (zbc4 us) w∧us.length=rs.length∧∀ (i:Nat) (u:Value) (x:RX),us[i]? = some u→rs[i]? = some x→Rep w W μ u (resA st x):=by
 have e:∀ F:ResultVar→Sem Value,fn.results.mapM F=Functor.map List.toArray (fn.results.toList.mapM F):=fun F=>by
  rw [← List.mapM_toArray,Array.toArray_toList]
 let F:ResultVar→Sem Value:=fun
  | .tmp t=>pure (a.tmps.getD t undef)
  | .cell x t=>do loadVar t (← asAddr (a.tmps.getD x undef))
 have eF:results fn a.tmps=(do
   let vs ← fn.results.mapM F
   pure (if h:vs.size=1 then vs[0] else .tuple vs)):=by
  unfold results
  congr 1
 obtain ⟨us,h1,h2,h3⟩:=zaL7 (C:=C) hs (F:=F) (fun t=>rfl) (fun t T=>rfl) _ _ h hg
 refine ⟨us,?_,h2,h3⟩
 rw [eF]
 simp only [Sem.run_bind]
 rw [e F,Sem.run_map,h1]
 simp only [Result.andThen_ok,Sem.run_pure,gZ]
 match us with
 | [t]=>simp [zbc4]
 | []=>simp [zbc4]
 | _ :: _ :: _=>simp [zbc4]
theorem zbO6 {st:St}:∀ {rs:List RX},allG st rs→zbh3 st rs
 | [],_=>trivial
 | _ :: _,h=>⟨h.1.1,zbO6 h.2⟩
theorem zcf3 {st:St}:∀ {rs:List RX},allG st rs→∀ (i:Nat) (x:RX),rs[i]? = some x→zaj0 st.m (resA st x)
 | y :: ys,h,i,x,hx=>by
  cases i with
  | zero=>simp at hx; subst hx; exact h.1.2
  | succ i=>exact zcf3 h.2 i x (by simpa using hx)
 | [],_,i,x,hx=>by simp at hx
theorem zbO7 {st:St}:∀ (rs:List RX) (i:Nat),(zaH7 st rs)[i]? = (rs[i]?).map fun x=>frz st.m (resA st x)
 | [],i=>by simp [zaH7]
 | y :: ys,i=>by
  cases i with
  | zero=>simp [zaH7]
  | succ i=>simpa [zaH7] using zbO7 ys i
theorem zbc5 {f:FuncId} {pc:PC} {N np:Nat} {rs:List RX} (hchk:chkF C.P f pc N rs np=true) {as:List A} (hnp:as.length=np) {r:A}
  (h:∀ E:Env,E.G=C.G→E.N=N→E.k0=0→AW C E pc (Post rs r) ⟨zE4 0 as,[],0⟩):PFn C f as r:=by
 intro w W vs hgl hlt hlen hargs
 unfold chkF at hchk
 split at hchk
 ·rename_i fn hfn
  simp only [bS,cY] at hchk
  obtain ⟨⟨⟨hc,hN⟩,hres⟩,hle⟩:=hchk
  have hle:np≤N:=fB hle
  split at hc
  ·rename_i c hb
   let E:Env:=⟨w,W,fun _=>False,N,C.G,0,zai9⟩
   have hS:SatW E (⟨zE4 0 as,[],0⟩:St).toS { tmps:=vs.toArray++Array.replicate (fn.ntmps - vs.toArray.size) undef,defers:=[] } w W zai9:={
    defers:=rfl
    size:=by simp; show vs.length+(fn.ntmps - vs.length)=N; omega
    fr:=fun t=>by
     show Rep w W zai9 _ ((⟨zE4 0 as,[],0⟩:St).slot t)
     simp only [St.slot,zap8,fF,bZ,Nat.sub_zero]
     cases ha:as[t]? with
     | none=>trivial
     | some b =>
      have ht:t < vs.length:=by rw [hlen]; exact (cC.1 ha).1
      have hv:vs[t]? = some vs[t]:=by simp [ht]
      have:(vs.toArray++Array.replicate (fn.ntmps - vs.toArray.size) undef).getD t undef=vs[t]:=by
       rw [fM,gJ (by simpa using ht)]
       simp [ht]
      rw [this]
      exact zm5 (hargs t _ b hv ha)
    mem:=fun x=>by show zae1 w W zai9 x ((⟨zE4 0 as,[],0⟩:St).m x); simp [St.m,zae1,zai9]
    inj:=fun x y k k' hx=>by cases hx
    keeps:=Keeps.refl _ w
    winlt:=hlt
    wsub:=fun b h=>.inl h
    wsup:=fun b h=>.inl h
    wlt:=hlt
    live:=fun x k hx=>by cases hx
    glob:=hgl
    fix:=fun x hx=>absurd hx (Nat.not_lt_zero x) }
   have hwp:=h E rfl rfl rfl c hc _ w ⟨W,zai9,hS⟩
   refine calls_of_wp hfn hb (wp_mono hwp fun e a' w' ⟨st',hq,W',μ',hs'⟩=>?_)
   have fin:zbD3 st' rs r→a'.defers=[]∧∃ v,(results fn a'.tmps).run C.P w'=.ok v w'∧∃ u,Ending.returned v=.returned u∧Keeps (fun _=>False) w w'∧Rep w' W zai9 u r:=fun hro=>by
    obtain ⟨hg,hr⟩:=hro
    obtain ⟨us,hrun,hul,hus⟩:=zbh4 fn hs' hres (zbO6 hg)
    refine ⟨hs'.defers,_,hrun,_,rfl,hs'.keeps,?_⟩
    have toW:∀ {v:Value} {b:A},RepV w' (zap7 W' μ' (zaj1 b)) zai9 v (frz st'.m b)→RepV w' W zai9 v (frz st'.m b):=fun {v b} hv =>
     hv.goes (Keeps.refl (fun _=>False) w') (fun _ _ _ h=>h) (fun q _ h1 h2=>h1 ⟨(hs'.wsup q h2).elim id (fun h=>h.elim),fun ⟨x,k,_,hk,hkb⟩=>by
      rcases hs'.live x k hk with h3|h3
      ·exact h3
      ·have:=hlt q h2
       have h4:w.heap.size≤k.b:=h3
       omega⟩) (Old.refl _)
    have one:∀ (i:Nat) (u:Value) (x:RX),us[i]? = some u→rs[i]? = some x→RepV w' W zai9 u (frz st'.m (resA st' x)):=fun i u x hu hx=>toW (zbH0 (s:=st'.toS) hs' (hus i u x hu hx) (zcf3 hg i x hx) (fun y hy=>hy))
    subst hr
    match rs,us,hul,one with
    | [x],[u],_,one=>exact zm5 (one 0 u x rfl rfl)
    | [],[],_,one=>exact ⟨[],by simp [zbc4],by simp [zaH7],by simp⟩
    | x1 :: x2 :: xs,u1 :: u2 :: us,hul,one =>
     refine ⟨u1 :: u2 :: us,rfl,?_,fun i u b hu hb=>?_⟩
     ·simp only [zaH7,List.length_cons] at hul ⊢
      have:∀ l,(zaH7 st' l).length=l.length:=fun l=>by induction l with
       | nil=>rfl
       | cons a l ih=>simp [zaH7,ih]
      rw [this]; omega
     ·have hb':(zaH7 st' (x1 :: x2 :: xs))[i]? = some b:=hb
      rw [zbO7,cD] at hb'
      obtain ⟨x,hx,rfl⟩:=hb'
      exact one i u x hu hx
   cases e with
   | normal=>exact fin hq
   | ret=>exact fin hq
   | _=>exact hq.elim
  ·cases hc
 ·cases hchk
theorem zbO8:∀ {ms:List (Nat×Row)},zbD4 ms=true→∀ x r,look ms x=some r→r.ro=false
 | q :: ms,h,x,r,hr=>by
  simp only [zbD4,bS,cN] at h
  simp only [look] at hr
  split at hr
  ·cases hr; exact h.1
  ·exact zbO8 h.2 x r hr
theorem zbO9:∀ {l:List A},zbp9 l=true→∀ x ∈ l,x.isVV=true
 | y :: ys,h,x,hx=>by
  simp only [zbp9,bS] at h
  rcases cE.1 hx with rfl|hx
  ·exact h.1
  ·exact zbO9 h.2 x hx
theorem zcf4 {st:St}:∀ (rs:List RX) (i:Nat),(resL st rs)[i]? = (rs[i]?).map fun x=>resA st x
 | [],i=>by simp [resL]
 | y :: ys,i=>by
  cases i with
  | zero=>simp [resL]
  | succ i=>simpa [resL] using zcf4 ys i
theorem zbD5 {f:FuncId} {pc:PC} {N np:Nat} {rs:List RX} (hchk:chkF C.P f pc N rs np=true) {as:List A} (hnp:as.length=np) {ms ms':List (Nat×Row)} {k k':Nat} {rl:List A} (hms:zbD4 ms=true) (hall:zbh0 ms k=true)
  (hrl:rl.length=rs.length) (h:∀ E:Env,E.G=C.G→E.N=N→E.k0=k→AW C E pc (zbO5 k rs rl ms' k') ⟨zE4 0 as,ms,k⟩):MFn C f as ms k (zbD2 rl) ms' k':=by
 intro w W μ vs hgl hlt hlen hargs hmem hinj
 unfold chkF at hchk
 split at hchk
 ·rename_i fn hfn
  simp only [bS,cY] at hchk
  obtain ⟨⟨⟨hc,hN⟩,hres⟩,hle⟩:=hchk
  have hle:np≤N:=fB hle
  have hrow:∀ x r,(⟨[],ms,k⟩:St).m x=.row r→r.ro=false:=fun x r hx=>by
   simp only [St.m] at hx
   split at hx
   ·cases hx
   ·cases hl:look ms x with
    | none=>rw [hl] at hx; cases hx
    | some r'=>rw [hl] at hx; cases hx; exact zbO8 hms x r hl
  have hfr:∀ x,k≤x→μ x=.fresh:=fun x hx=>by
   have:=hmem x
   rw [show (⟨[],ms,k⟩:St).m x=.fresh by simp only [St.m]; rw [bY hx]] at this
   exact this
  have hnf:∀ x,x < k→μ x≠.fresh:=fun x hx hf=>by
   obtain ⟨r,hr⟩:=zaU7 hall x hx
   have:=hmem x
   rw [show (⟨[],ms,k⟩:St).m x=.row r by simp only [St.m,hr]; rw [bW (by omega)]] at this
   rcases this with ⟨h1,_⟩|⟨kb,h1,_⟩
   ·rw [hf] at h1; cases h1
   ·rw [hf] at h1; cases h1
  have hown:∀ x kb,μ x=.at_ kb→W kb.b:=fun x kb hx=>by
   obtain ⟨r,h1,h2⟩:=hmem.at_ hx
   exact h2.wr.1 (hrow x r h1)
  split at hc
  ·rename_i c hb
   let E:Env:=⟨w,W,fun b=>W b∧∃ y kb,μ y=.at_ kb∧kb.b=b,N,C.G,k,μ⟩
   have hS:SatW E (⟨zE4 0 as,ms,k⟩:St).toS { tmps:=vs.toArray++Array.replicate (fn.ntmps - vs.toArray.size) undef,defers:=[] } w W μ:={
    defers:=rfl
    size:=by simp; show vs.length+(fn.ntmps - vs.length)=N; omega
    fr:=fun t=>by
     show Rep w W μ _ ((⟨zE4 0 as,ms,k⟩:St).slot t)
     simp only [St.slot,zap8,fF,bZ,Nat.sub_zero]
     cases ha:as[t]? with
     | none=>trivial
     | some b =>
      have ht:t < vs.length:=by rw [hlen]; exact (cC.1 ha).1
      have hv:vs[t]? = some vs[t]:=by simp [ht]
      have:(vs.toArray++Array.replicate (fn.ntmps - vs.toArray.size) undef).getD t undef=vs[t]:=by
       rw [fM,gJ (by simpa using ht)]
       simp [ht]
      rw [this]
      exact zm5 (hargs t _ b hv ha)
    mem:=hmem
    inj:=hinj
    keeps:=Keeps.refl _ w
    winlt:=hlt
    wsub:=fun b h=>.inl h
    wsup:=fun b h=>.inl h
    wlt:=hlt
    live:=fun x kb hx=>.inl ⟨hown x kb hx,x,kb,hx,rfl⟩
    glob:=hgl
    fix:=fun x hx=>.inl ⟨rfl,hnf x hx⟩ }
   have hwp:=h E rfl rfl rfl c hc _ w ⟨W,μ,hS⟩
   refine calls_of_wp hfn hb (wp_mono hwp fun e a' w' ⟨st',hq,W1,μ1,hs'⟩=>?_)
   have fin:zaF6 k st' rs rl ms' k'→a'.defers=[]∧∃ v,(results fn a'.tmps).run C.P w'=.ok v w'∧∃ u W' μ',Ending.returned v=.returned u∧Step (⟨[],ms,k⟩:St).m (⟨[],ms',k'⟩:St).m w w' W W' μ μ'∧Rep w' W' μ' u (zbD2 rl):=fun ⟨hg,hvv,l,hle',hfx⟩=>by
    obtain ⟨us,hrun,hul,hus⟩:=zbh4 fn hs' hres hg
    let E':Env:={ E with N:=us.length }
    have hs1:SatW E' (⟨zE4 0 (resL st' rs),st'.mem,st'.nx⟩:St).toS { tmps:=us.toArray,defers:=[] } w' W1 μ1:={
     defers:=rfl
     size:=by simp; rfl
     fr:=fun t=>by
      show Rep w' W1 μ1 _ ((⟨zE4 0 (resL st' rs),st'.mem,st'.nx⟩:St).slot t)
      simp only [St.slot,zap8,fF,bZ,Nat.sub_zero,zcf4]
      cases hx:rs[t]? with
      | none=>trivial
      | some x =>
       have ht:t < us.length:=by rw [hul]; exact (cC.1 hx).1
       have:us.toArray.getD t undef=us[t]:=by simp [Array.getD,ht]
       show Rep w' W1 μ1 (us.toArray.getD t undef) (resA st' x)
       rw [this]
       exact hus t _ x (by simp [ht]) hx
     mem:=hs'.mem
     inj:=hs'.inj
     keeps:=hs'.keeps
     winlt:=hs'.winlt
     wsub:=hs'.wsub
     wsup:=hs'.wsup
     wlt:=hs'.wlt
     live:=hs'.live
     glob:=hs'.glob
     fix:=hs'.fix }
    obtain ⟨W2,μ2,hs2⟩:=St.le_of (E:=E') l hle' hfx _ w' ⟨W1,μ1,hs1⟩
    have hst:Step (⟨[],ms,k⟩:St).m (⟨[],ms',k'⟩:St).m w w' W W2 μ μ2:={
     keeps:=hs2.keeps
     hW:=fun b hb h=>by
      rcases hs2.wsub b h with h1|h1
      ·exact h1
      ·have h2:w.heap.size≤b:=h1; omega
     wsup:=fun b hb=>by
      rcases hs2.wsup b hb with h1|h1
      ·exact .inl h1
      ·exact .inr h1.2
     wlt0:=hlt
     wlt:=hs2.wlt
     old:=fun x hx=>by
      by_cases hxk:x < k
      ·rcases hs2.fix x hxk with h1|h1
       ·exact .inl h1.1
       ·exact .inr h1
      ·exact absurd (hfr x (by omega)) hx
     mem:=hs2.mem
     inj:=hs2.inj
     live:=fun x kb hx=>by
      rcases hs2.live x kb hx with h1|h1
      ·exact .inl h1.2
      ·exact .inr h1 }
    have one:∀ (i:Nat) (u:Value) (b:A),us[i]? = some u→rl[i]? = some b→RepV w' W2 μ2 u b:=fun i u b hu hb=>by
     have h1:=hs2.fr i
     have hi:i < us.length:=(cC.1 hu).1
     have h2:(⟨zE4 0 rl,ms',k'⟩:St).slot i=b:=by simp only [St.slot,zap8,fF,bZ,Nat.sub_zero,hb,Option.getD_some]
     have h3:us.toArray.getD i undef=u:=by
      rw [bX hi] at hu; cases hu; simp [Array.getD,hi]
     have h4:Rep w' W2 μ2 (us.toArray.getD i undef) ((⟨zE4 0 rl,ms',k'⟩:St).slot i):=h1
     rw [h2,h3] at h4
     have hv:=zbO9 hvv b (cJ hb)
     exact h4.toVV hv
    refine ⟨hs'.defers,_,hrun,_,W2,μ2,rfl,hst,?_⟩
    match rl,us,(hul.trans hrl.symm),one with
    | [b],[u],_,one=>exact zm5 (one 0 u b rfl rfl)
    | [],[],_,_=>exact ⟨[],by simp [zbc4],by simp,by simp⟩
    | b1 :: b2 :: bs,u1 :: u2 :: us,hul,one=>exact ⟨u1 :: u2 :: us,rfl,hul,one⟩
   cases e with
   | normal=>exact fin hq
   | ret=>exact fin hq
   | _=>exact hq.elim
  ·cases hc
 ·cases hchk
end
def zaC9 (C:Cx):List POp→St→(St→Prop)→Prop
 | [],st,K=>K st
 | p :: ps,st,K=>aop C p st fun st'=>(st'.mem=st.mem∧st'.nx=st.nx)∧zaC9 C ps st' K
section
variable {C:Cx} {E:Env}
theorem zcK8 {p:POp} {st:St} {K:St→Prop} (h:aop C p st K):∃ v mw,K (st.app p.dst v mw)∧aop C p st (fun s=>s=st.app p.dst v mw):=by
 unfold aop at h ⊢
 cases hg:zE0 st p.g with
 | none=>simp [hg] at h
 | some g =>
  simp only [hg] at h ⊢
  cases hp:p.po <;> simp only [hp] at h ⊢
  case pick =>
   split at h
   ·split at h
    ·exact ⟨_,_,h.2,h.1,rfl⟩
    ·exact h.elim
   ·exact h.elim
  case call f =>
   obtain ⟨r,h1,h2,h3⟩:=h
   exact ⟨_,_,h3,r,h1,h2,rfl⟩
  case callv =>
   split at h
   ·obtain ⟨r,h1,h2,h3⟩:=h
    exact ⟨_,_,h3,r,h1,h2,rfl⟩
   ·exact h.elim
  case callb =>
   split at h
   ·obtain ⟨r,h1,h2,h3⟩:=h
    exact ⟨_,_,h3,r,h1,h2,rfl⟩
   ·exact h.elim
  case callm f =>
   obtain ⟨l,as,ms,k,r,ms',k',h1,h2,h3,h4,h5⟩:=h
   exact ⟨_,_,h5,l,as,ms,k,r,ms',k',h1,h2,h3,h4,rfl⟩
  case callvm =>
   split at h
   ·obtain ⟨l,as,ms,k,r,ms',k',h1,h2,h3,h4,h5⟩:=h
    exact ⟨_,_,h5,l,as,ms,k,r,ms',k',h1,h2,h3,h4,rfl⟩
   ·exact h.elim
  all_goals
   split at h
   ·exact ⟨_,_,h.2.2,h.1,h.2.1,rfl⟩
   ·exact ⟨_,_,h.2.2,h.1,h.2.1,rfl⟩
theorem zap9 {x:PX} {f g:Nat→A} (G:zbg7) (h:∀ t ∈ rdsX [x],f t=g t):xv G f x=xv G g x:=by
 cases x <;> first|rfl|exact h _ (by simp [rdsX])
theorem zK2 (x:PX) (xs:List PX) (t:Nat):t ∈ rdsX (x :: xs) ↔ t ∈ rdsX [x]∨t ∈ rdsX xs:=by
 cases x <;> simp [rdsX]
theorem zaZ2 {st st2:St}:∀ (xs:List PX),(∀ t ∈ rdsX xs,st.slot t=st2.slot t)→zp2 C st xs=zp2 C st2 xs∧(zV1 C st xs ↔ zV1 C st2 xs)
 | [],_=>⟨rfl,jW⟩
 | x :: xs,h=>by
  have h1:=zap9 (x:=x) C.G (f:=st.slot) (g:=st2.slot) fun t ht=>h t ((zK2 x xs t).2 (.inl ht))
  obtain ⟨h2,h3⟩:=zaZ2 xs fun t ht=>h t ((zK2 x xs t).2 (.inr ht))
  simp only [zp2,zV1,h1,h2,h3,cQ]
theorem zcf5 {st st2:St} (hm:st2.mem=st.mem) (hn:st2.nx=st.nx):st2.m=st.m:=by
 funext x; simp only [St.m,hm,hn]
theorem zaz4 {st:St} {d:Option Nat} {v u:A} {mw:List (Nat×MS)} {st2:St} (h:st.app d u mw=st.app d v []) (hm:st2.mem=st.mem) (hn:st2.nx=st.nx):st2.app d u mw=st2.app d v []:=by
 simp only [St.app,St.mk.injEq,putM,nxt] at h ⊢
 obtain ⟨h1,h2,h3⟩:=h
 refine ⟨?_,by rw [hm]; exact h2,by rw [hn]; exact h3⟩
 cases d with
 | none=>rfl
 | some d =>
  simp only [putF,fS,Prod.mk.injEq,fC,iF] at h1 ⊢
  exact h1
theorem zcj8 {p:POp} {st st2:St} {v:A} (hm:st2.mem=st.mem) (hn:st2.nx=st.nx) (hr:∀ t ∈ p.rds,st.slot t=st2.slot t)
  (h:aop C p st (fun s=>s=st.app p.dst v [])):aop C p st2 (fun s=>s=st2.app p.dst v []):=by
 have hx:∀ t ∈ rdsX p.xs,st.slot t=st2.slot t:=fun t ht=>hr t (dS _ ht)
 obtain ⟨hv,hgd⟩:=zaZ2 (C:=C) p.xs hx
 have hgo:zE0 st2 p.g=zE0 st p.g:=by
  cases hg:p.g with
  | none=>rfl
  | some q=>simp only [zE0]; rw [hr q.1 (dX _ (by simp [hg]))]
 unfold aop at h ⊢
 rw [hgo,← hv,hn,zcf5 hm hn,← hgd]
 cases hg:zE0 st p.g with
 | none=>simp [hg] at h
 | some g =>
  simp only [hg] at h ⊢
  cases hp:p.po <;> simp only [hp] at h ⊢
  case pick =>
   split at h
   ·rename_i c x y hxs
    simp only [hxs] at hx ⊢
    have e1:=zap9 (x:=c) C.G (f:=st.slot) (g:=st2.slot) fun t ht=>hx t ((zK2 _ _ _).2 (.inl ht))
    have e2:=zap9 (x:=x) C.G (f:=st.slot) (g:=st2.slot) fun t ht=>hx t ((zK2 _ _ _).2 (.inr ((zK2 _ _ _).2 (.inl ht))))
    have e3:=zap9 (x:=y) C.G (f:=st.slot) (g:=st2.slot) fun t ht=>hx t ((zK2 _ _ _).2 (.inr ((zK2 _ _ _).2 (.inr ht))))
    rw [← e1,← e2,← e3]
    split at h
    ·exact ⟨h.1,zaz4 h.2 hm hn⟩
    ·exact h.elim
   ·exact h.elim
  case call f =>
   obtain ⟨r,h1,h2,h3⟩:=h
   exact ⟨r,h1,h2,zaz4 h3 hm hn⟩
  case callv =>
   split at h
   ·obtain ⟨r,h1,h2,h3⟩:=h
    exact ⟨r,h1,h2,zaz4 h3 hm hn⟩
   ·exact h.elim
  case callb =>
   split at h
   ·obtain ⟨r,h1,h2,h3⟩:=h
    exact ⟨r,h1,h2,zaz4 h3 hm hn⟩
   ·exact h.elim
  case callm f =>
   obtain ⟨l,as,ms,k,r,ms',k',h1,h2,h3,h4,h5⟩:=h
   exact ⟨l,as,ms,k,r,ms',k',h1,h2,h3,h4,zaz4 h5 hm hn⟩
  case callvm =>
   split at h
   ·obtain ⟨l,as,ms,k,r,ms',k',h1,h2,h3,h4,h5⟩:=h
    exact ⟨l,as,ms,k,r,ms',k',h1,h2,h3,h4,zaz4 h5 hm hn⟩
   ·exact h.elim
  all_goals
   split at h
   ·exact ⟨h.1,h.2.1,zaz4 h.2.2 hm hn⟩
   ·exact ⟨h.1,h.2.1,zaz4 h.2.2 hm hn⟩
def SL (ps:List POp) (vs:Nat→A) (st:St) (f:Nat→Bool):Nat→St
 | 0=>st
 | n+1=>match ps[n]? with
  | some p=>if f n then (SL ps vs st f n).app p.dst (vs n) [] else SL ps vs st f n
  | none=>SL ps vs st f n
theorem zbH3 (ps:List POp) (vs:Nat→A) (st:St) (f:Nat→Bool):∀ n,(SL ps vs st f n).mem=st.mem∧(SL ps vs st f n).nx=st.nx
 | 0=>⟨rfl,rfl⟩
 | n+1=>by
  have:=zbH3 ps vs st f n
  simp only [SL]
  split
  ·split
   ·exact this
   ·exact this
  ·exact this
theorem zaq0 (st:St) (d:Option Nat) (v:A) (t:Nat):(st.app d v []).slot t=if d=some t then v else st.slot t:=by
 rw [zbO0]
 cases d with
 | none=>simp [setF]
 | some d =>
  by_cases h:t=d
  ·subst h; simp [setF]
  ·simp [setF,h,kB h,show ¬ d=t from fun e=>h e.symm]
theorem zcv4 {ps:List POp} {vs:Nat→A} {st:St} {f:Nat→Bool} {j:Nat} {p:POp} (hp:ps[j]? = some p) (hf:f j=false) (f':Nat→Bool) (hj:f' j=true) (hf':∀ i,i≠j→f' i=f i)
  (hc:∀ i q,j < i→ps[i]? = some q→f i=true→conf p q=false):∀ n t,(SL ps vs st f' n).slot t=if j < n∧p.dst=some t then vs j else (SL ps vs st f n).slot t
 | 0,t=>by simp [SL]
 | n+1,t=>by
  have ih:=zcv4 (vs:=vs) (st:=st) hp hf f' hj hf' hc n
  by_cases hn:n=j
  ·subst hn
   simp only [SL,hp,hj,hf,bZ,bT,cA,zaq0]
   by_cases hd:p.dst=some t
   ·simp [hd]
   ·simp only [hd,cA,and_false]
    have:=ih t
    simpa [hd] using this
  ·have hlt:j < n+1 ↔ j < n:=by omega
   simp only [SL,hf' n hn,hlt]
   cases hq:ps[n]? with
   | none=>simpa using ih t
   | some q =>
    simp only []
    split
    ·rename_i hfn
     rw [zaq0,zaq0,ih t]
     by_cases hd:q.dst=some t
     ·simp only [hd,bZ]
      by_cases hjn:j < n
      ·have:=hc n q hjn hq hfn
       unfold conf at this
       by_cases hpd:p.dst=some t
       ·simp [hpd,hd] at this
       ·simp [hpd]
      ·simp [hjn]
     ·simp [hd]
    ·exact ih t
theorem zcf6 {ps:List POp} {vs:Nat→A} {st:St} {f:Nat→Bool} {j t:Nat} (h1:∀ i q,i < j→ps[i]? = some q→q.dst=some t→f i=true) (h2:∀ i q,j≤i→ps[i]? = some q→q.dst=some t→f i=false) :
  ∀ n,(SL ps vs st f n).slot t=(SL ps vs st (fun _=>true) (min n j)).slot t
 | 0=>by simp [SL]
 | n+1=>by
  have ih:=zcf6 (vs:=vs) (st:=st) h1 h2 n
  by_cases hn:n < j
  ·rw [show min (n+1) j=n+1 by omega]
   rw [show min n j=n by omega] at ih
   simp only [SL]
   cases hq:ps[n]? with
   | none=>exact ih
   | some q =>
    simp only [bZ]
    by_cases hd:q.dst=some t
    ·rw [h1 n q hn hq hd]; simp [zaq0,hd]
    ·rw [zaq0,bW hd]
     split
     ·rw [zaq0,bW hd]; exact ih
     ·exact ih
  ·rw [show min (n+1) j=j by omega]
   rw [show min n j=j by omega] at ih
   simp only [SL]
   cases hq:ps[n]? with
   | none=>exact ih
   | some q =>
    simp only []
    by_cases hd:q.dst=some t
    ·rw [h2 n q (by omega) hq hd]; simpa using ih
    ·split
     ·rw [zaq0,bW hd]; exact ih
     ·exact ih
theorem zbq0 {K:St→Prop}:∀ (ps:List POp) (st:St),zaC9 C ps st K→∃ vs:Nat→A,K (SL ps vs st (fun _=>true) ps.length) ∧
  ∀ j p,ps[j]? = some p→aop C p (SL ps vs st (fun _=>true) j) (fun s=>s=(SL ps vs st (fun _=>true) j).app p.dst (vs j) [])
 | [],st,h=>⟨fun _=>.any,h,fun j p hp=>by simp at hp⟩
 | p :: ps,st,h=>by
  obtain ⟨v,mw,⟨⟨h1,h2⟩,h3⟩,h4⟩:=zcK8 h
  have e:st.app p.dst v mw=st.app p.dst v []:=by
   simp only [St.app,St.mk.injEq] at h1 h2 ⊢
   exact ⟨trivial,h1,h2⟩
  rw [e] at h3 h4
  obtain ⟨vs,h5,h6⟩:=zbq0 ps _ h3
  have sh:∀ n,SL (p :: ps) (fun i=>match i with|0=>v|i+1=>vs i) st (fun _=>true) (n+1)=SL ps vs (st.app p.dst v []) (fun _=>true) n:=by
   intro n
   induction n with
   | zero=>simp [SL]
   | succ n ih=>rw [SL,ih]; simp only [List.getElem?_cons_succ]; rfl
  refine ⟨fun i=>match i with|0=>v|i+1=>vs i,?_,fun j q hq=>?_⟩
  ·rw [List.length_cons,sh]; exact h5
  ·cases j with
   | zero=>simp at hq; subst hq; exact h4
   | succ j=>rw [sh]; exact h6 j q (by simpa using hq)
theorem zaD0 {D:Nat→Prop}:∀ (es acc:List (List Nat)),(∀ j e,es[j]? = some e→D (acc.length+j)→∀ i ∈ e,D i)→(∀ j,D j→∀ i ∈ acc.getD j [],D i) →
  ∀ j,D j→∀ i ∈ (ancs acc es).getD j [],D i
 | [],acc,_,h=>h
 | e :: es,acc,he,h=>by
  unfold ancs
  refine zaD0 es _ (fun j e' hj hD=>he (j+1) e' (by simpa using hj) (by rw [cI] at hD; simp only [List.length_cons,List.length_nil] at hD; rwa [show acc.length+(j+1)=acc.length+(0+1)+j by omega])) ?_
  intro j hD i hi
  by_cases hj:j < acc.length
  ·refine h j hD i ?_
   rw [bU,dE hj] at hi
   rwa [bU]
  ·by_cases hj2:j=acc.length
   ·subst hj2
    have he0:=he 0 e rfl (by simpa using hD)
    rw [bU,eR (cS _)] at hi
    simp only [gF,List.getElem?_cons_zero,Option.getD_some,dF,fU] at hi
    rcases hi with hi|⟨k,hk,hi⟩
    ·exact he0 i hi
    ·exact h k (he0 k hk) i hi
   ·rw [bU,gP (by simp; omega)] at hi
    simp at hi
theorem zaz5 {ps:List POp} {an:List (List Nat)} (h:zbc3 ps an=true) {i j:Nat} {p q:POp} (hij:i < j) (hp:ps[i]? = some p) (hq:ps[j]? = some q) (hc:conf p q=true):i ∈ an.getD j []:=by
 unfold zbc3 at h
 have h1:=eK.1 h j (eC.2 (cC.1 hq).1)
 have h2:=eK.1 h1 i (eC.2 hij)
 simp only [hp,hq,hc,cP,dB] at h2
 simpa using h2
theorem zaL8:∀ (os:List Oper) (n:Nat),POp.sortOk os n=true→∀ j o,os[j]? = some o→∀ i ∈ zB1 o,i < n+j
 | [],_,_,j,o,h=>by simp at h
 | x :: os,n,h,j,o,ho=>by
  simp only [POp.sortOk,bS] at h
  cases j with
  | zero =>
   simp at ho; subst ho
   intro i hi
   simp only [zB1,cV,gX] at hi
   obtain ⟨e,⟨he,hb⟩,rfl⟩:=hi
   have:=Array.all_eq_true_iff_forall_mem.1 h.1 e (by simpa using he)
   simpa [hb] using this
  | succ j =>
   intro i hi
   have:=zaL8 os (n+1) h.2 j o (by simpa using ho) i hi
   omega
def left (f:Nat→Bool):Nat→Nat
 | 0=>0
 | n+1=>left f n+if f n then 0 else 1
theorem zbq1 {f f':Nat→Bool} {j:Nat} (hj:f j=false) (hj':f' j=true) (h:∀ i,i≠j→f' i=f i):∀ n,left f n=left f' n+if j < n then 1 else 0
 | 0=>rfl
 | n+1=>by
  have ih:=zbq1 hj hj' h n
  simp only [left]
  by_cases hn:n=j
  ·subst hn; simp [hj,hj'] ; simp at ih; omega
  ·rw [h n hn,ih]
   have:j < n+1 ↔ j < n:=by omega
   simp only [this]; omega
theorem zbc6 {f:Nat→Bool}:∀ n,left f n=0→∀ i,i < n→f i=true
 | n+1,h,i,hi=>by
  simp only [left] at h
  by_cases hn:i=n
  ·subst hn
   cases hf:f i with
   | true=>rfl
   | false=>simp [hf] at h
  ·exact zbc6 n (by omega) i (by omega)
theorem zaF7 {p q:POp} {t:Nat} (h:p.dst=some t) (hq:t ∈ q.rds∨q.dst=some t):conf p q=true∧(t ∈ q.rds→conf q p=true):=by
 unfold conf
 rw [h]
 refine ⟨?_,fun hr=>?_⟩
 ·rcases hq with hq|hq <;> simp [hq]
 ·simp [hr]
end
section
variable {C:Cx} {E:Env}
theorem Sat.drawn {s:S} {a:Act} {w:World} {n:Nat} (h:Sat E s a w) (hn:w.drawn≤n):Sat E s a { w with drawn:=n }:=by
  obtain ⟨W,μ,hs⟩:=h
  have hk:Keeps (fun _=>False) w { w with drawn:=n }:=⟨rfl,rfl,rfl,hn,cS _,fun _ _ _=>rfl⟩
  exact ⟨W,μ,hs.step (Step.quiet hk hs.mem hs.inj hs.wlt) (d:=none) (v:=undef) (av:=.any) (fun x hx=>by cases hx) trivial⟩
theorem ROk.at {ops:Array Oper} {N:Nat}:∀ {ps:List POp} {n j:Nat} {o:Oper},ROk C N ops n ps→ops[n+j]? = some o→∃ p,ps[j]? = some p∧POk C N ops o p
  | [],n,j,o,h,ho=>by
    have h:n=ops.size:=h
    have:=(cH.1 ho).1
    omega
  | p :: ps,n,0,o,h,ho=>by
    obtain ⟨⟨o',ho',hp⟩,_⟩:=h
    rw [Nat.add_zero,ho'] at ho; cases ho
    exact ⟨p,rfl,hp⟩
  | p :: ps,n,j+1,o,h,ho=>by
    obtain ⟨q,hq,hp⟩:=ROk.at (j:=j) h.2 (by rw [← ho]; congr 1; omega)
    exact ⟨q,by simpa using hq,hp⟩
theorem zbq2 {ps:List POp} {vs:Nat→A} {st:St} {f f':Nat→Bool}:∀ n,(∀ i,i < n→f i=f' i)→SL ps vs st f n=SL ps vs st f' n
  | 0,_=>rfl
  | n+1,h=>by
    have ih:=zbq2 (ps:=ps) (vs:=vs) (st:=st) n fun i hi=>h i (by omega)
    simp only [SL,ih,h n (by omega)]
theorem zcj9 {st st2:St} (hs:∀ t,st2.slot t=st.slot t) (hm:st2.mem=st.mem) (hn:st2.nx=st.nx):st2.toS=st.toS:=by
  unfold St.toS
  rw [zcf5 hm hn,show st2.slot=st.slot from funext hs]
theorem zck0 {os:Array Oper} {ps:List POp} {st:St} {vs:Nat→A} {K:St→Prop} {Q:Exit→Act→World→Prop} (hG:E.G=C.G) (hr:ROk C E.N os 0 ps) (hso:POp.sortOk os.toList 0=true)
    (hco:zbc3 ps (ancs [] (os.toList.map zB1))=true) (hK:K (SL ps vs st (fun _=>true) ps.length))
    (hv:∀ j p,ps[j]? = some p→aop C p (SL ps vs st (fun _=>true) j) (fun s=>s=(SL ps vs st (fun _=>true) j).app p.dst (vs j) []))
    (hQ:∀ st' a' w',K st'→Sat E st'.toS a' w'→Q .normal a' w') :
    ∀ (fuel:Nat) (listed:Array Bool) (a:Act) (w:World),listed.size=os.size→Sat E (SL ps vs st (fun i=>listed.getD i false) ps.length).toS a w →
      (∀ j o,os[j]? = some o→listed.getD j false=true→∀ i ∈ zB1 o,listed.getD i false=true)→left (fun i=>listed.getD i false) os.size≤fuel →
      wpAny C.P .any os Q fuel listed a w:=by
  have hlen:ps.length=os.size:=by have:=hr.size; omega
  have hdone:∀ (listed:Array Bool) (a:Act) (w:World),Sat E (SL ps vs st (fun i=>listed.getD i false) ps.length).toS a w→(∀ i,i < os.size→listed.getD i false=true)→Q .normal a w:=by
    intro listed a w hs hall
    refine hQ _ a w hK ?_
    rw [zbq2 (f:=fun _=>true) (f':=fun i=>listed.getD i false) ps.length fun i hi=>(hall i (by omega)).symm]
    exact hs
  have hready:∀ (listed:Array Bool),listed.size=os.size→Region.ready .any os listed=[]→∀ i,i < os.size→listed.getD i false=true:=by
    intro listed hsz hr0 i
    induction i using Nat.strongRecOn with
    | _ i ih =>
      intro hi
      cases hl:listed.getD i false with
      | true=>rfl
      | false =>
        have:i ∈ Region.ready .any os listed:=by
          rw [mem_ready]
          refine ⟨?_,os[i],by simp [hi],fun e he hb=>?_⟩
          · have h1:i < listed.size:=by omega
            simp only [Array.getD,h1,jM] at hl ⊢; exact hl
          · have h2:e.on ∈ zB1 os[i]:=by
              simp only [zB1,cV,gX]
              exact ⟨e,⟨by simpa using he,hb⟩,rfl⟩
            have h3:=zaL8 os.toList 0 hso i os[i] (by simp [hi]) e.on h2
            exact ih e.on (by omega) (by omega)
        rw [hr0] at this; cases this
  intro fuel
  induction fuel with
  | zero =>
    intro listed a w hsz hs hcl hle
    have hall:=zbc6 (f:=fun i=>listed.getD i false) os.size (by omega)
    refine ⟨?_,hdone listed a w hs hall⟩
    cases hrd:Region.ready .any os listed with
    | nil=>rfl
    | cons i rs =>
      have:i ∈ Region.ready .any os listed:=by rw [hrd]; simp
      rw [mem_ready] at this
      obtain ⟨h1,o,ho,_⟩:=this
      have hi:=(cH.1 ho).1
      have:=hall i hi
      have h2:i < listed.size:=by omega
      simp only [Array.getD,h2,jM] at h1 this
      rw [this] at h1; cases h1
  | succ fuel ih =>
    intro listed a w hsz hs hcl hle
    refine ⟨fun hr0=>hdone listed a w hs (hready listed hsz hr0),fun i hi=>?_⟩
    rw [mem_ready] at hi
    obtain ⟨hl,o,ho,hed⟩:=hi
    have hlt:=(cH.1 ho).1
    have hlt2:i < listed.size:=by omega
    have hl:listed.getD i false=false:=by
      simp only [Array.getD,hlt2,jM] at hl ⊢; exact hl
    obtain ⟨p,hp,hpo⟩:=hr.at (j:=i) (by rw [dJ]; exact ho)
    have hedge:∀ k ∈ zB1 o,listed.getD k false=true:=by
      intro k hk
      simp only [zB1,cV,gX] at hk
      obtain ⟨e,⟨he,hb⟩,rfl⟩:=hk
      exact hed e (by simpa using he) hb
    have hset:(listed.setIfInBounds i true).getD i false=true:=by simp [Array.getD,hlt2]
    have hsetne:∀ k,k≠i→(listed.setIfInBounds i true).getD k false=listed.getD k false:=fun k hk=>getD_set_ne false (kB hk)
    have hcl':∀ j o,os[j]? = some o→(listed.setIfInBounds i true).getD j false=true→∀ k ∈ zB1 o,(listed.setIfInBounds i true).getD k false=true:=by
      intro j o' ho' hj k hk
      by_cases hji:j=i
      · subst hji
        rw [ho] at ho'; cases ho'
        exact getD_set_true (hedge k hk)
      · rw [hsetne j hji] at hj
        exact getD_set_true (hcl j o' ho' hj k hk)
    have hanc:∀ j,(listed.setIfInBounds i true).getD j false=true→∀ k ∈ (ancs [] (os.toList.map zB1)).getD j [],(listed.setIfInBounds i true).getD k false=true :=
      zaD0 (D:=fun j=>(listed.setIfInBounds i true).getD j false=true) _ [] (fun j e he hD=>by
        simp only [cK,cD] at he
        obtain ⟨o',ho',rfl⟩:=he
        exact hcl' j o' (by simpa using ho') (by simpa using hD)) (fun j _ k hk=>by simp at hk)
    have hanc0:∀ j,listed.getD j false=true→∀ k ∈ (ancs [] (os.toList.map zB1)).getD j [],listed.getD k false=true :=
      zaD0 (D:=fun j=>listed.getD j false=true) _ [] (fun j e he hD=>by
        simp only [cK,cD] at he
        obtain ⟨o',ho',rfl⟩:=he
        exact hcl j o' (by simpa using ho') (by simpa using hD)) (fun j _ k hk=>by simp at hk)
    have hbef:∀ k q,k < i→ps[k]? = some q→conf q p=true→listed.getD k false=true:=by
      intro k q hk hq hc
      have:=hanc i hset k (zaz5 hco hk hq hp hc)
      rwa [hsetne k (by omega)] at this
    have haft:∀ k q,i < k→ps[k]? = some q→conf p q=true→listed.getD k false=false:=by
      intro k q hk hq hc
      cases hlk:listed.getD k false with
      | false=>rfl
      | true =>
        have:=hanc0 k hlk i (zaz5 hco hk hp hq hc)
        rw [hl] at this; cases this
    have hmem:=zbH3 ps vs st (fun k=>listed.getD k false) ps.length
    have hmem2:=zbH3 ps vs st (fun _=>true) i
    have hil:i < ps.length:=(cC.1 hp).1
    have haop:aop C p (SL ps vs st (fun k=>listed.getD k false) ps.length) (fun s=>s=(SL ps vs st (fun k=>listed.getD k false) ps.length).app p.dst (vs i) []):=by
      refine zcj8 (st:=SL ps vs st (fun _=>true) i) (by rw [hmem.1,hmem2.1]) (by rw [hmem.2,hmem2.2]) (fun t ht=>?_) (hv i p hp)
      rw [zcf6 (j:=i) (t:=t) (fun k q hk hq hd=>hbef k q hk hq (zaF7 hd (.inl ht)).1) (fun k q hk hq hd=>?_) ps.length,iW (hY hil)]
      by_cases hki:k=i
      · subst hki; exact hl
      · exact haft k q (by omega) hq ((zaF7 hd (.inl ht)).2 ht)
    obtain ⟨W,μ,hs⟩:=hs
    have key:=zbC9 hs hG hpo haop (Q:=Q) (k:=wpAny C.P .any os Q fuel (listed.setIfInBounds i true)) (fun st' a' w' hst hs'=>by
      subst hst
      refine ih _ a' w' (by simpa using hsz) ?_ hcl' ?_
      · have e:(SL ps vs st (fun k=>(listed.setIfInBounds i true).getD k false) ps.length).toS=((SL ps vs st (fun k=>listed.getD k false) ps.length).app p.dst (vs i) []).toS:=by
          have hm3:=zbH3 ps vs st (fun k=>(listed.setIfInBounds i true).getD k false) ps.length
          refine zcj9 (fun t=>?_) ?_ ?_
          · rw [zcv4 (f:=fun k=>listed.getD k false) hp hl (fun k=>(listed.setIfInBounds i true).getD k false) hset hsetne (fun k q hk hq hfk=>?_),zaq0]
            · simp only [hil,fC]
            · cases hc:conf p q with
              | false=>rfl
              | true=>have:=haft k q hk hq hc; exact absurd (this.symm.trans hfk) (by simp)
          · rw [hm3.1]; exact hmem.1.symm
          · rw [hm3.2]; exact hmem.2.symm
        rw [e]; exact hs'
      · have:=zbq1 (f:=fun k=>listed.getD k false) (f':=fun k=>(listed.setIfInBounds i true).getD k false) (j:=i) hl hset hsetne os.size
        rw [bY hlt] at this
        omega)
    simp only [wpOp,ho]
    split at key
    · rename_i hw; rw [bY hw]; exact .inl key
    · rename_i hw; rw [bW hw]; exact key
theorem zcK9 {Q:Exit→St→Prop} {st:St} {dr:List Nat} {ops:List POp} (hm:C.P.follows .mixedOrders=true) (hG:E.G=C.G) (h:zaC9 C ops st fun s=>Q .normal (s.drop dr)):AW C E (.regd dr ops) Q st:=fun code hc a w hs=>by
  cases code with
  | region id os d =>
   cases d with
   | false=>simp [chkC] at hc
   | true =>
    simp only [chkC,bS,zcf0] at hc
    obtain ⟨hc1,hc2,hc3⟩:=hc
    have hr:ROk C E.N os 0 ops:=by
      obtain ⟨P,G⟩:=C
      exact zaQ6 os.toList ops 0 hc1 (by simp) (by simp)
    obtain ⟨vs,hK,hv⟩:=zbq0 ops st h
    refine wp_region_any hm ?_
    refine zck0 (st:=st) (vs:=vs) hG hr hc2 hc3 hK hv (fun st' a' w' hQ hs'=>⟨_,hQ,hs'.drop⟩) os.size _ a _ (by simp) ?_ (fun j o ho hj=>?_) ?_
    · have e:SL ops vs st (fun i=>(Array.replicate os.size false).getD i false) ops.length=SL ops vs st (fun _=>false) ops.length:=zbq2 _ fun i _=>by simp [Array.getD]
      have e2:∀ n,SL ops vs st (fun _=>false) n=st:=fun n=>by
        induction n with
        | zero=>rfl
        | succ n ih=>simp only [SL,ih,bT,cA]; split <;> rfl
      rw [e,e2]
      exact hs.drawn (jL _)
    · simp [Array.getD] at hj
    · have:∀ n,left (fun i=>(Array.replicate os.size false).getD i false) n≤n:=fun n=>by
        induction n with
        | zero=>exact cS _
        | succ n ih=>simp only [left]; split <;> omega
      exact this _
  | _=>simp [chkC] at hc
end
theorem zab7 {a b:ByteArray}:a.toList=b.toList ↔ a=b:=by
 constructor
 ·intro h
  rw [ByteArray.toList_eq,ByteArray.toList_eq] at h
  cases a; cases b
  simp only [ByteArray.mk.injEq]
  exact Array.toList_inj.1 (by simpa using h)
 ·intro h; rw [h]
def eI (k:IntKind) (x:Int):List A:=[A.int k x]
def eB (x:Bool):List A:=[A.bool x]
def eS (x:ByteArray):List A:=[A.str x]
def eL {α:Type} (f:α→List A) (l:List α):List A:=[A.sl (l.map f)]
@[go_sem] theorem zda0 (a:A):sub [a] 0 1=[a]:=rfl
@[go_sem] theorem zda1 (a b:A):upd [a] 0 [b]=[b]:=rfl
@[go_sem] theorem zcX7 {α β:Type} (f:α→β) (l:List α) (n:Nat):(l.map f).take n=(l.take n).map f:=List.map_take.symm
@[go_sem] theorem zcX8 {α β:Type} (f:α→β) (l:List α) (n:Nat):(l.map f).drop n=(l.drop n).map f:=List.map_drop.symm
@[go_sem] theorem zcR6 {α β:Type} (f:α→β) (l m:List α):l.map f++m.map f=(l++m).map f:=iI.symm
attribute [go_sem] dO
@[go_sem] theorem zcG4 (c:List A) (cs:List (List A)):zS3 (c :: cs) ↔ zk0 c=true∧zS3 cs:=by
 constructor
 ·intro h
  refine ⟨?_,fun d hd=>h d (.tail _ hd)⟩
  have:=h c (.head _)
  clear h
  induction c with
  | nil=>rfl
  | cons a c ih=>simp only [zk0,bS]; exact ⟨this a (.head _),ih fun b hb=>this b (.tail _ hb)⟩
 ·rintro ⟨h1,h2⟩ d hd
  rcases cE.1 hd with rfl|hd
  ·exact zab6 h1
  ·exact h2 d hd
@[go_sem] theorem zcU9:maxLen=9223372036854775807:=rfl
@[go_sem] theorem eI.getD (k:IntKind) (l:List Int) (i:Nat):(l.map (eI k)).getD i [A.int k 0]=[A.int k (l.getD i 0)]:=by
 simp only [bU,cK]; cases l[i]? <;> rfl
@[go_sem] theorem eI.snoc (k:IntKind) (l:List Int) (x:Int):l.map (eI k)++[[A.int k x]]=(l++[x]).map (eI k):=by simp [eI]
@[go_sem] theorem eI.allLen (k:IntKind) (l:List Int):zI9 1 (l.map (eI k)):=by intro c hc; obtain ⟨x,_,rfl⟩:=cV.1 hc; rfl
@[go_sem] theorem eI.pureRows (k:IntKind) (l:List Int):zS3 (l.map (eI k)):=by intro c hc; obtain ⟨x,_,rfl⟩:=cV.1 hc; intro a ha; simp [eI] at ha; subst ha; rfl
@[go_sem] theorem eI.pureEs (k:IntKind) (l:List Int):pureEs (l.map (eI k))=true:=by induction l with
 | nil=>rfl
 | cons a l ih=>simpa [Ab.pureEs,zk0,A.pure1,eI] using ih
@[go_sem] theorem eB.getD (l:List Bool) (i:Nat):(l.map eB).getD i [A.bool false]=[A.bool (l.getD i false)]:=by
 simp only [bU,cK]; cases l[i]? <;> rfl
@[go_sem] theorem eB.snoc (l:List Bool) (x:Bool):l.map eB++[[A.bool x]]=(l++[x]).map eB:=by simp [eB]
@[go_sem] theorem eB.set (l:List Bool) (i:Nat) (x:Bool):(l.map eB).set i [A.bool x]=(l.set i x).map eB:=by simp [List.map_set,eB]
@[go_sem] theorem eB.rep (n:Nat) (x:Bool):List.replicate n [A.bool x]=(List.replicate n x).map eB:=by simp [eB]
@[go_sem] theorem eB.pureRows (l:List Bool):zS3 (l.map eB):=by intro c hc; obtain ⟨x,_,rfl⟩:=cV.1 hc; intro a ha; simp [eB] at ha; subst ha; rfl
@[go_sem] theorem eB.pureEs (l:List Bool):pureEs (l.map eB)=true:=by induction l with
 | nil=>rfl
 | cons a l ih=>simpa [Ab.pureEs,zk0,A.pure1,eB] using ih
@[go_sem] theorem eS.getD (l:List ByteArray) (i:Nat):(l.map eS).getD i [A.str ⟨#[]⟩]=[A.str (l.getD i ⟨#[]⟩)]:=by
 simp only [bU,cK]; cases l[i]? <;> rfl
@[go_sem] theorem eS.snoc (l:List ByteArray) (x:ByteArray):l.map eS++[[A.str x]]=(l++[x]).map eS:=by simp [eS]
@[go_sem] theorem eS.set (l:List ByteArray) (i:Nat) (x:ByteArray):(l.map eS).set i [A.str x]=(l.set i x).map eS:=by simp [List.map_set,eS]
@[go_sem] theorem eS.pureRows (l:List ByteArray):zS3 (l.map eS):=by intro c hc; obtain ⟨x,_,rfl⟩:=cV.1 hc; intro a ha; simp [eS] at ha; subst ha; rfl
@[go_sem] theorem eS.pureEs (l:List ByteArray):pureEs (l.map eS)=true:=by induction l with
 | nil=>rfl
 | cons a l ih=>simpa [Ab.pureEs,zk0,A.pure1,eS] using ih
@[go_sem] theorem eL.getD {α:Type} (f:α→List A) (l:List (List α)) (i:Nat):(l.map (eL f)).getD i [A.sl (([]:List α).map f)]=[A.sl ((l.getD i []).map f)]:=by
 simp only [bU,cK]; cases l[i]? <;> rfl
@[go_sem] theorem eL.getD0 {α:Type} (f:α→List A) (l:List (List α)) (i:Nat):(l.map (eL f)).getD i [A.sl []]=[A.sl ((l.getD i []).map f)]:=eL.getD f l i
@[ext] structure Arr (α:Type) (n:Nat) where
 l:List α
 h:l.length=n
instance {α:Type} [DecidableEq α] {n:Nat}:DecidableEq (Arr α n):=fun a b=>decidable_of_iff (a.l=b.l) (by rw [Arr.ext_iff])
def Arr.get {α:Type} {n:Nat} (a:Arr α n) (i:Nat) (z:α):α:=a.l.getD (zG0 i n) z
def Arr.put {α:Type} {n:Nat} (a:Arr α n) (i:Nat) (x:α):Arr α n:=⟨a.l.set (zG0 i n) x,by simp [a.h]⟩
def Arr.rep {α:Type} (n:Nat) (x:α):Arr α n:=⟨List.replicate n x,by simp⟩
def Arr.enc {α:Type} {n:Nat} (f:α→List A) (a:Arr α n):List A:=(a.l.map f).flatten
theorem zbP0 {α:Type} (f:α→List A) (sz:Nat) (hf:∀ x,(f x).length=sz):∀ l:List α,(l.map f).flatten.length=l.length * sz
 | []=>by simp
 | a :: l=>by simp only [dM,List.flatten_cons,cI,hf,zbP0 f sz hf l,List.length_cons]; rw [dN]; omega
theorem zcf7 {α:Type} (f:α→List A) (sz:Nat) (hf:∀ x,(f x).length=sz) (z:α):∀ (l:List α) (i:Nat),i < l.length→sub (l.map f).flatten (i * sz) sz=f (l.getD i z)
 | [],i,h=>by simp at h
 | a :: l,0,_=>by simp [sub,hf a]
 | a :: l,i+1,h=>by
  have:=zcf7 f sz hf z l i (by simpa using h)
  simp only [sub,dM,List.flatten_cons,gE] at this ⊢
  rw [← this,jQ,gG (by rw [hf,dN]; omega),hf,List.nil_append]
  congr 2
  rw [dN]; omega
theorem zbP1 {α:Type} (f:α→List A) (sz:Nat) (hf:∀ x,(f x).length=sz) (x:α):∀ (l:List α) (i:Nat),i < l.length→upd (l.map f).flatten (i * sz) (f x)=((l.set i x).map f).flatten
 | [],i,h=>by simp at h
 | a :: l,0,_=>by simp [upd,hf]
 | a :: l,i+1,h=>by
  have:=zbP1 f sz hf x l i (by simpa using h)
  simp only [upd,dM,List.flatten_cons,List.set_cons_succ] at this ⊢
  rw [← this]
  have e:(i+1) * sz=(f a).length+i * sz:=by rw [hf,dN]; omega
  rw [e,List.take_length_add_append,fN,List.drop_length_add_append]
  simp [dI]
@[go_sem] theorem Arr.enc_len {α:Type} {n:Nat} (f:α→List A) (a:Arr α n) (sz:Nat) (hf:∀ x,(f x).length=sz):(Arr.enc f a).length=n * sz:=by
 rw [Arr.enc,zbP0 f sz hf,a.h]
theorem zau5 {i n:Nat} (h:0 < n):zG0 i n < n:=by unfold zG0; split <;> omega
theorem zab8 {i n:Nat} (h:i < n):zG0 i n=i:=bY h
theorem zbX9 {α:Type} {n sz:Nat} (f:α→List A) (hf:∀ x,(f x).length=sz) (z:α) (a:Arr α (n+1)) (i:Nat):sub (Arr.enc f a) (zG0 i (n+1) * sz) sz=f (a.get i z):=zcf7 f sz hf z a.l _ (by rw [a.h]; exact zau5 (by omega))
theorem zcf8 {α:Type} {n sz:Nat} (f:α→List A) (hf:∀ x,(f x).length=sz) (a:Arr α (n+1)) (i:Nat) (x:α):upd (Arr.enc f a) (zG0 i (n+1) * sz) (f x)=Arr.enc f (a.put i x):=zbP1 f sz hf x a.l _ (by rw [a.h]; exact zau5 (by omega))
attribute [go_sem] zab8
@[go_sem] theorem zcV0 (i n:Nat):(zG0 i (n+1)≤n)=True:=by
 have:=zau5 (i:=i) (n:=n+1) (by omega)
 exact eq_true (by omega)
section
variable {n:Nat}
@[go_sem] theorem eI.alen (k:IntKind) (a:Arr Int n):(Arr.enc (eI k) a).length=n:=by rw [Arr.enc_len _ _ 1 (fun _=>rfl),fY]
@[go_sem] theorem eB.alen (a:Arr Bool n):(Arr.enc eB a).length=n:=by rw [Arr.enc_len _ _ 1 (fun _=>rfl),fY]
@[go_sem] theorem eI.aat (k:IntKind) (a:Arr Int (n+1)) (i:Nat):sub (Arr.enc (eI k) a) (zG0 i (n+1)) 1=[A.int k (a.get i 0)]:=by
 have:=zbX9 (eI k) (sz:=1) (fun _=>rfl) 0 a i; rwa [fY] at this
@[go_sem] theorem eI.aput (k:IntKind) (a:Arr Int (n+1)) (i:Nat) (x:Int):upd (Arr.enc (eI k) a) (zG0 i (n+1)) [A.int k x]=Arr.enc (eI k) (a.put i x):=by
 have:=zcf8 (eI k) (sz:=1) (fun _=>rfl) a i x; rwa [fY] at this
@[go_sem] theorem eI.aatc (k:IntKind) (a:Arr Int (n+1)) (i:Nat) (h:i < n+1):sub (Arr.enc (eI k) a) i 1=[A.int k (a.get i 0)]:=by
 have:=eI.aat k a i; rwa [zab8 h] at this
@[go_sem] theorem eI.aputc (k:IntKind) (a:Arr Int (n+1)) (i:Nat) (x:Int) (h:i < n+1):upd (Arr.enc (eI k) a) i [A.int k x]=Arr.enc (eI k) (a.put i x):=by
 have:=eI.aput k a i x; rwa [zab8 h] at this
@[go_sem] theorem eB.aat (a:Arr Bool (n+1)) (i:Nat):sub (Arr.enc eB a) (zG0 i (n+1)) 1=[A.bool (a.get i false)]:=by
 have:=zbX9 eB (sz:=1) (fun _=>rfl) false a i; rwa [fY] at this
@[go_sem] theorem eB.aat2 {m:Nat} (a:Arr (Arr Bool (m+1)) (n+1)) (i j:Nat):sub (Arr.enc (Arr.enc eB) a) (zG0 i (n+1) * (m+1)+zG0 j (m+1)) 1=[A.bool ((a.get i (Arr.rep (m+1) false)).get j false)]:=by
 have h1:=zbX9 (sz:=m+1) (Arr.enc eB) (fun x=>eB.alen x) (Arr.rep (m+1) false) a i
 have h2:=eB.aat (a.get i (Arr.rep (m+1) false)) j
 have hj:=zau5 (i:=j) (n:=m+1) (by omega)
 rw [← h2,← h1]
 simp only [sub,List.drop_take,jG,fI]
 congr 1; omega
@[go_sem] theorem zcR7 (i j n m k:Nat) (h:(n+1) * (m+1)≤k+1):(zG0 i (n+1) * (m+1)+zG0 j (m+1)≤k)=True:=by
 have h1:=zau5 (i:=i) (n:=n+1) (by omega)
 have h2:=zau5 (i:=j) (n:=m+1) (by omega)
 have h3:(zG0 i (n+1)+1) * (m+1)≤(n+1) * (m+1):=dC _ h1
 rw [dN] at h3
 exact eq_true (by omega)
@[go_sem] theorem eB.aput (a:Arr Bool (n+1)) (i:Nat) (x:Bool):upd (Arr.enc eB a) (zG0 i (n+1)) [A.bool x]=Arr.enc eB (a.put i x):=by
 have:=zcf8 eB (sz:=1) (fun _=>rfl) a i x; rwa [fY] at this
@[go_sem] theorem eB.aputc (a:Arr Bool (n+1)) (i:Nat) (x:Bool) (h:i < n+1):upd (Arr.enc eB a) i [A.bool x]=Arr.enc eB (a.put i x):=by
 have:=eB.aput a i x; rwa [zab8 h] at this
@[go_sem] theorem eB.aall (a b:Arr Bool n):upd (Arr.enc eB a) 0 (Arr.enc eB b)=Arr.enc eB b:=by
 simp [upd,eB.alen]
@[go_sem] theorem eI.asub (k:IntKind) (a:Arr Int n):sub (Arr.enc (eI k) a) 0 n=Arr.enc (eI k) a:=by
 rw [sub,gK,dO (by rw [eI.alen]; exact cS _)]
@[go_sem] theorem eB.asub (a:Arr Bool n):sub (Arr.enc eB a) 0 n=Arr.enc eB a:=by
 rw [sub,gK,dO (by rw [eB.alen]; exact cS _)]
theorem zaL9 {α:Type} (f:α→List A) (hf:∀ x,zk0 (f x)=true):∀ l:List α,zk0 (l.map f).flatten=true
 | []=>rfl
 | a :: l=>by
  have h1:=hf a
  have h2:=zaL9 f hf l
  have:∀ x y:List A,zk0 x=true→zk0 y=true→zk0 (x++y)=true:=fun x y hx hy=>by
   induction x with
   | nil=>exact hy
   | cons c x ih=>simp only [zk0,bS,List.cons_append] at hx ⊢; exact ⟨hx.1,ih hx.2⟩
  simpa using this _ _ h1 h2
@[go_sem] theorem eI.apure (k:IntKind) (a:Arr Int n):zk0 (Arr.enc (eI k) a)=true:=zaL9 _ (fun _=>rfl) _
@[go_sem] theorem eB.apure (a:Arr Bool n):zk0 (Arr.enc eB a)=true:=zaL9 _ (fun _=>rfl) _
end
class En (T:Type) where
 sz:Nat
 e:T→List A
 z:T
attribute [go_sem] En.sz En.e En.z
@[go_sem] abbrev bx {T:Type} [En T] (v:T):Row:=⟨false,En.sz T,En.e (En.z:T),[En.e v]⟩
@[go_sem] abbrev sx {T:Type} [En T] (v:List T):Row:=⟨false,En.sz T,En.e (En.z:T),v.map En.e⟩
@[go_sem] abbrev ga {T:Type} [En T] (v:T):A:=.agg (En.e v)
@[go_sem] abbrev la {T:Type} [En T] (v:List T):A:=.sl (v.map En.e)
section
variable {T:Type} {f:T→List A}
@[go_sem] theorem zcR8 {n:Nat} (h:∀ x,(f x).length=n) (l:List T):zI9 n (l.map f):=by intro c hc; obtain ⟨x,_,rfl⟩:=cV.1 hc; exact h x
@[go_sem] theorem zcL0 (h:∀ x,zk0 (f x)=true) (l:List T):zS3 (l.map f):=by intro c hc; obtain ⟨x,_,rfl⟩:=cV.1 hc; exact zab6 (h x)
@[go_sem] theorem zcR9 (h:∀ x,zk0 (f x)=true) (l:List T):pureEs (l.map f)=true:=by induction l with
 | nil=>rfl
 | cons a l ih=>simp [Ab.pureEs,h,ih]
@[go_sem] theorem zcX9 (l:List T) (i:Nat) (z:T):(l.map f).getD i (f z)=f (l.getD i z):=by
 simp only [bU,cK]; cases l[i]? <;> rfl
@[go_sem] theorem zcY0 (l:List T) (x:T):l.map f++[f x]=(l++[x]).map f:=by simp
@[go_sem] theorem zda2 (l:List T) (i:Nat) (x:T):(l.map f).set i (f x)=(l.set i x).map f:=by simp [List.map_set]
end
@[ext] structure aC where
 name:ByteArray
 (kind aP home:Int)
 deriving DecidableEq
namespace aC
def zero:aC:=⟨⟨#[]⟩,0,0,0⟩
def enc (x:aC):List A:=[A.str x.name,A.int .i64 x.kind,A.int .i64 x.aP,A.int .i64 x.home]
@[go_sem] theorem len (x:aC):(enc x).length=4:=by simp [enc]
instance:En aC:=⟨4,enc,zero⟩
@[go_sem] theorem laws (x:aC) :
 zk0 (enc x)=true ∧
 zu9 (enc x)=true ∧
 zq1 [.s,.i .i64,.i .i64,.i .i64] (enc x)=true ∧
 sub (enc x) 0 4=enc x ∧
 (∀ y,upd (enc x) 0 (enc y)=enc y) ∧
 sub (enc x) 0 1=[A.str x.name] ∧
 sub (enc x) 1 1=[A.int .i64 x.kind] ∧
 sub (enc x) 2 1=[A.int .i64 x.aP] ∧
 sub (enc x) 3 1=[A.int .i64 x.home] ∧
 (∀ v,upd (enc x) 0 ([A.str v])=enc { x with name:=v }) ∧
 (∀ v,upd (enc x) 1 ([A.int .i64 v])=enc { x with kind:=v }) ∧
 (∀ v,upd (enc x) 2 ([A.int .i64 v])=enc { x with aP:=v }) ∧
 (∀ v,upd (enc x) 3 ([A.int .i64 v])=enc { x with home:=v }) ∧
 (∀ (c0 c1 c2 c3:A) (cs:List A),upd (c0 :: c1 :: c2 :: c3 :: cs) 0 (enc x)=A.str x.name :: A.int .i64 x.kind :: A.int .i64 x.aP :: A.int .i64 x.home :: cs) ∧
 (∀ (c0 c1 c2 c3:A),upd (enc x) 0 [c0,c1,c2,c3]=[c0,c1,c2,c3]):=by simp [sub,upd,zk0,A.pure1,zu9,A.scal1,zq1,LK.fits,eG,enc]
@[go_sem] theorem eq (x y:aC):eqA (enc x) (enc y)=decide (x=y):=by
 rw [dP]; simp [eqA,eq1,zab7,fL,enc,aC.ext_iff]
end aC
@[ext] structure aH where
 (site inc num:Int)
 deriving DecidableEq
namespace aH
def zero:aH:=⟨0,0,0⟩
def enc (x:aH):List A:=[A.int .i64 x.site,A.int .i64 x.inc,A.int .i64 x.num]
@[go_sem] theorem len (x:aH):(enc x).length=3:=by simp [enc]
instance:En aH:=⟨3,enc,zero⟩
@[go_sem] theorem laws (x:aH) :
 zk0 (enc x)=true ∧
 zu9 (enc x)=true ∧
 zq1 [.i .i64,.i .i64,.i .i64] (enc x)=true ∧
 sub (enc x) 0 3=enc x ∧
 (∀ y,upd (enc x) 0 (enc y)=enc y) ∧
 sub (enc x) 0 1=[A.int .i64 x.site] ∧
 sub (enc x) 1 1=[A.int .i64 x.inc] ∧
 sub (enc x) 2 1=[A.int .i64 x.num] ∧
 (∀ v,upd (enc x) 0 ([A.int .i64 v])=enc { x with site:=v }) ∧
 (∀ v,upd (enc x) 1 ([A.int .i64 v])=enc { x with inc:=v }) ∧
 (∀ v,upd (enc x) 2 ([A.int .i64 v])=enc { x with num:=v }) ∧
 (∀ (c0 c1 c2:A) (cs:List A),upd (c0 :: c1 :: c2 :: cs) 0 (enc x)=A.int .i64 x.site :: A.int .i64 x.inc :: A.int .i64 x.num :: cs) ∧
 (∀ (c0 c1 c2:A),upd (enc x) 0 [c0,c1,c2]=[c0,c1,c2]):=by simp [sub,upd,zk0,A.pure1,zu9,A.scal1,zq1,LK.fits,eG,enc]
@[go_sem] theorem eq (x y:aH):eqA (enc x) (enc y)=decide (x=y):=by
 rw [dP]; simp [eqA,eq1,zab7,fL,enc,aH.ext_iff]
@[go_sem] theorem rep (n:Nat) (x:aH):List.replicate n (enc x)=(List.replicate n x).map enc:=by simp
end aH
@[ext] structure aA where
 (mode aP:Int)
 deriving DecidableEq
namespace aA
def zero:aA:=⟨0,0⟩
def enc (x:aA):List A:=[A.int .i64 x.mode,A.int .i64 x.aP]
@[go_sem] theorem len (x:aA):(enc x).length=2:=by simp [enc]
instance:En aA:=⟨2,enc,zero⟩
@[go_sem] theorem laws (x:aA) :
 zk0 (enc x)=true ∧
 zu9 (enc x)=true ∧
 zq1 [.i .i64,.i .i64] (enc x)=true ∧
 sub (enc x) 0 2=enc x ∧
 (∀ y,upd (enc x) 0 (enc y)=enc y) ∧
 sub (enc x) 0 1=[A.int .i64 x.mode] ∧
 sub (enc x) 1 1=[A.int .i64 x.aP] ∧
 (∀ v,upd (enc x) 0 ([A.int .i64 v])=enc { x with mode:=v }) ∧
 (∀ v,upd (enc x) 1 ([A.int .i64 v])=enc { x with aP:=v }) ∧
 (∀ (c0 c1:A) (cs:List A),upd (c0 :: c1 :: cs) 0 (enc x)=A.int .i64 x.mode :: A.int .i64 x.aP :: cs) ∧
 (∀ (c0 c1:A),upd (enc x) 0 [c0,c1]=[c0,c1]):=by simp [sub,upd,zk0,A.pure1,zu9,A.scal1,zq1,LK.fits,eG,enc]
@[go_sem] theorem eq (x y:aA):eqA (enc x) (enc y)=decide (x=y):=by
 rw [dP]; simp [eqA,eq1,zab7,fL,enc,aA.ext_iff]
end aA
@[ext] structure aT where
 aN:aH
 aI:aA
 deriving DecidableEq
namespace aT
def zero:aT:=⟨aH.zero,aA.zero⟩
def enc (x:aT):List A:=aH.enc x.aN++aA.enc x.aI
@[go_sem] theorem len (x:aT):(enc x).length=5:=by simp [enc,aA.len,aH.len]
instance:En aT:=⟨5,enc,zero⟩
@[go_sem] theorem laws (x:aT) :
 zk0 (enc x)=true ∧
 zu9 (enc x)=true ∧
 zq1 [.i .i64,.i .i64,.i .i64,.i .i64,.i .i64] (enc x)=true ∧
 sub (enc x) 0 5=enc x ∧
 (∀ y,upd (enc x) 0 (enc y)=enc y) ∧
 sub (enc x) 0 3=aH.enc x.aN ∧
 sub (enc x) 3 2=aA.enc x.aI ∧
 sub (enc x) 3 1=[A.int .i64 x.aI.mode] ∧
 sub (enc x) 4 1=[A.int .i64 x.aI.aP] ∧
 (∀ v,upd (enc x) 0 (aH.enc v)=enc { x with aN:=v }) ∧
 (∀ v,upd (enc x) 3 (aA.enc v)=enc { x with aI:=v }) ∧
 (∀ (c0 c1 c2 c3 c4:A) (cs:List A),upd (c0 :: c1 :: c2 :: c3 :: c4 :: cs) 0 (enc x)=A.int .i64 x.aN.site :: A.int .i64 x.aN.inc :: A.int .i64 x.aN.num :: A.int .i64 x.aI.mode :: A.int .i64 x.aI.aP :: cs) ∧
 (∀ (c0 c1 c2 c3 c4:A),upd (enc x) 0 [c0,c1,c2,c3,c4]=[c0,c1,c2,c3,c4]):=by simp [sub,upd,zk0,A.pure1,zu9,A.scal1,zq1,LK.fits,eG,enc,aA.enc,aH.enc]
@[go_sem] theorem eq (x y:aT):eqA (enc x) (enc y)=decide (x=y):=by
 rw [dP]; simp [eqA,eq1,zab7,fL,enc,aA.enc,aH.enc,aT.ext_iff,aA.ext_iff,aH.ext_iff]
@[go_sem] theorem rep (n:Nat) (x:aT):List.replicate n (enc x)=(List.replicate n x).map enc:=by simp
end aT
@[ext] structure aR where
 aN:aH
 aI:aA
 (aW bO:Int)
 deriving DecidableEq
namespace aR
def zero:aR:=⟨aH.zero,aA.zero,0,0⟩
def enc (x:aR):List A:=aH.enc x.aN++aA.enc x.aI++[A.int .i64 x.aW,A.int .i64 x.bO]
@[go_sem] theorem len (x:aR):(enc x).length=7:=by simp [enc,aA.len,aH.len]
instance:En aR:=⟨7,enc,zero⟩
@[go_sem] theorem laws (x:aR) :
 zk0 (enc x)=true ∧
 zu9 (enc x)=true ∧
 zq1 [.i .i64,.i .i64,.i .i64,.i .i64,.i .i64,.i .i64,.i .i64] (enc x)=true ∧
 sub (enc x) 0 7=enc x ∧
 (∀ y,upd (enc x) 0 (enc y)=enc y) ∧
 sub (enc x) 0 3=aH.enc x.aN ∧
 sub (enc x) 3 2=aA.enc x.aI ∧
 sub (enc x) 3 1=[A.int .i64 x.aI.mode] ∧
 sub (enc x) 4 1=[A.int .i64 x.aI.aP] ∧
 sub (enc x) 5 1=[A.int .i64 x.aW] ∧
 sub (enc x) 6 1=[A.int .i64 x.bO] ∧
 (∀ v,upd (enc x) 0 (aH.enc v)=enc { x with aN:=v }) ∧
 (∀ v,upd (enc x) 3 (aA.enc v)=enc { x with aI:=v }) ∧
 (∀ v,upd (enc x) 5 ([A.int .i64 v])=enc { x with aW:=v }) ∧
 (∀ v,upd (enc x) 6 ([A.int .i64 v])=enc { x with bO:=v }) ∧
 (∀ (c0 c1 c2 c3 c4 c5 c6:A) (cs:List A),upd (c0 :: c1 :: c2 :: c3 :: c4 :: c5 :: c6 :: cs) 0 (enc x)=A.int .i64 x.aN.site :: A.int .i64 x.aN.inc :: A.int .i64 x.aN.num :: A.int .i64 x.aI.mode :: A.int .i64 x.aI.aP :: A.int .i64 x.aW :: A.int .i64 x.bO :: cs) ∧
 (∀ (c0 c1 c2 c3 c4 c5 c6:A),upd (enc x) 0 [c0,c1,c2,c3,c4,c5,c6]=[c0,c1,c2,c3,c4,c5,c6]):=by simp [sub,upd,zk0,A.pure1,zu9,A.scal1,zq1,LK.fits,eG,enc,aA.enc,aH.enc]
@[go_sem] theorem eq (x y:aR):eqA (enc x) (enc y)=decide (x=y):=by
 rw [dP]; simp [eqA,eq1,zab7,fL,enc,aA.enc,aH.enc,aR.ext_iff,aA.ext_iff,aH.ext_iff]
end aR
@[ext] structure aF where
 aB:aC
 bA:(List aT)
 (aL aS:(List aR))
 gen:Int
namespace aF
def zero:aF:=⟨aC.zero,[],[],[],0⟩
def enc (x:aF):List A:=aC.enc x.aB++[A.sl (x.bA.map aT.enc),A.sl (x.aL.map aR.enc),A.sl (x.aS.map aR.enc),A.int .i64 x.gen]
@[go_sem] theorem len (x:aF):(enc x).length=8:=by simp [enc,aC.len]
instance:En aF:=⟨8,enc,zero⟩
@[go_sem] theorem laws (x:aF) :
 zk0 (enc x)=true ∧
 zu9 (enc x)=false ∧
 sub (enc x) 0 8=enc x ∧
 (∀ y,upd (enc x) 0 (enc y)=enc y) ∧
 sub (enc x) 0 4=aC.enc x.aB ∧
 sub (enc x) 0 1=[A.str x.aB.name] ∧
 sub (enc x) 1 1=[A.int .i64 x.aB.kind] ∧
 sub (enc x) 2 1=[A.int .i64 x.aB.aP] ∧
 sub (enc x) 3 1=[A.int .i64 x.aB.home] ∧
 sub (enc x) 4 1=[A.sl (x.bA.map aT.enc)] ∧
 sub (enc x) 5 1=[A.sl (x.aL.map aR.enc)] ∧
 sub (enc x) 6 1=[A.sl (x.aS.map aR.enc)] ∧
 sub (enc x) 7 1=[A.int .i64 x.gen] ∧
 (∀ v,upd (enc x) 0 (aC.enc v)=enc { x with aB:=v }) ∧
 (∀ v,upd (enc x) 0 ([A.str v])=enc { x with aB:={ x.aB with name:=v } }) ∧
 (∀ v,upd (enc x) 1 ([A.int .i64 v])=enc { x with aB:={ x.aB with kind:=v } }) ∧
 (∀ v,upd (enc x) 2 ([A.int .i64 v])=enc { x with aB:={ x.aB with aP:=v } }) ∧
 (∀ v,upd (enc x) 3 ([A.int .i64 v])=enc { x with aB:={ x.aB with home:=v } }) ∧
 (∀ v,upd (enc x) 4 ([A.sl (v.map aT.enc)])=enc { x with bA:=v }) ∧
 (∀ v,upd (enc x) 5 ([A.sl (v.map aR.enc)])=enc { x with aL:=v }) ∧
 (∀ v,upd (enc x) 6 ([A.sl (v.map aR.enc)])=enc { x with aS:=v }) ∧
 (∀ v,upd (enc x) 7 ([A.int .i64 v])=enc { x with gen:=v }) ∧
 (∀ (c0 c1 c2 c3 c4 c5 c6 c7:A) (cs:List A),upd (c0 :: c1 :: c2 :: c3 :: c4 :: c5 :: c6 :: c7 :: cs) 0 (enc x)=A.str x.aB.name :: A.int .i64 x.aB.kind :: A.int .i64 x.aB.aP :: A.int .i64 x.aB.home :: A.sl (x.bA.map aT.enc) :: A.sl (x.aL.map aR.enc) :: A.sl (x.aS.map aR.enc) :: A.int .i64 x.gen :: cs) ∧
 (∀ (c0 c1 c2 c3 c4 c5 c6 c7:A),upd (enc x) 0 [c0,c1,c2,c3,c4,c5,c6,c7]=[c0,c1,c2,c3,c4,c5,c6,c7]) ∧
 (∀ y lo k,upd (enc x) 4 [.own y lo k]=[A.str x.aB.name,A.int .i64 x.aB.kind,A.int .i64 x.aB.aP,A.int .i64 x.aB.home,.own y lo k,A.sl (x.aL.map aR.enc),A.sl (x.aS.map aR.enc),A.int .i64 x.gen]) ∧
 (∀ y lo k,upd (enc x) 5 [.own y lo k]=[A.str x.aB.name,A.int .i64 x.aB.kind,A.int .i64 x.aB.aP,A.int .i64 x.aB.home,A.sl (x.bA.map aT.enc),.own y lo k,A.sl (x.aS.map aR.enc),A.int .i64 x.gen]) ∧
 (∀ y lo k,upd (enc x) 6 [.own y lo k]=[A.str x.aB.name,A.int .i64 x.aB.kind,A.int .i64 x.aB.aP,A.int .i64 x.aB.home,A.sl (x.bA.map aT.enc),A.sl (x.aL.map aR.enc),.own y lo k,A.int .i64 x.gen]):=by simp [sub,upd,zk0,A.pure1,zu9,A.scal1,zq1,LK.fits,eG,enc,aC.enc]
end aF
@[ext] structure bB where
 name:ByteArray
 (before after:aA)
 deriving DecidableEq
namespace bB
def zero:bB:=⟨⟨#[]⟩,aA.zero,aA.zero⟩
def enc (x:bB):List A:=[A.str x.name]++aA.enc x.before++aA.enc x.after
@[go_sem] theorem len (x:bB):(enc x).length=5:=by simp [enc,aA.len]
instance:En bB:=⟨5,enc,zero⟩
@[go_sem] theorem laws (x:bB) :
 zk0 (enc x)=true ∧
 zu9 (enc x)=true ∧
 zq1 [.s,.i .i64,.i .i64,.i .i64,.i .i64] (enc x)=true ∧
 sub (enc x) 0 5=enc x ∧
 (∀ y,upd (enc x) 0 (enc y)=enc y) ∧
 sub (enc x) 0 1=[A.str x.name] ∧
 sub (enc x) 1 2=aA.enc x.before ∧
 sub (enc x) 3 2=aA.enc x.after ∧
 (∀ v,upd (enc x) 0 ([A.str v])=enc { x with name:=v }) ∧
 (∀ v,upd (enc x) 1 (aA.enc v)=enc { x with before:=v }) ∧
 (∀ v,upd (enc x) 3 (aA.enc v)=enc { x with after:=v }) ∧
 (∀ (c0 c1 c2 c3 c4:A) (cs:List A),upd (c0 :: c1 :: c2 :: c3 :: c4 :: cs) 0 (enc x)=A.str x.name :: A.int .i64 x.before.mode :: A.int .i64 x.before.aP :: A.int .i64 x.after.mode :: A.int .i64 x.after.aP :: cs) ∧
 (∀ (c0 c1 c2 c3 c4:A),upd (enc x) 0 [c0,c1,c2,c3,c4]=[c0,c1,c2,c3,c4]):=by simp [sub,upd,zk0,A.pure1,zu9,A.scal1,zq1,LK.fits,eG,enc,aA.enc]
end bB
@[ext] structure bI where
 (label at_:Int)
 deriving DecidableEq
namespace bI
def zero:bI:=⟨0,0⟩
def enc (x:bI):List A:=[A.int .i64 x.label,A.int .i64 x.at_]
@[go_sem] theorem len (x:bI):(enc x).length=2:=by simp [enc]
instance:En bI:=⟨2,enc,zero⟩
@[go_sem] theorem laws (x:bI) :
 zk0 (enc x)=true ∧
 zu9 (enc x)=true ∧
 zq1 [.i .i64,.i .i64] (enc x)=true ∧
 sub (enc x) 0 2=enc x ∧
 (∀ y,upd (enc x) 0 (enc y)=enc y) ∧
 sub (enc x) 0 1=[A.int .i64 x.label] ∧
 sub (enc x) 1 1=[A.int .i64 x.at_] ∧
 (∀ v,upd (enc x) 0 ([A.int .i64 v])=enc { x with label:=v }) ∧
 (∀ v,upd (enc x) 1 ([A.int .i64 v])=enc { x with at_:=v }) ∧
 (∀ (c0 c1:A) (cs:List A),upd (c0 :: c1 :: cs) 0 (enc x)=A.int .i64 x.label :: A.int .i64 x.at_ :: cs) ∧
 (∀ (c0 c1:A),upd (enc x) 0 [c0,c1]=[c0,c1]):=by simp [sub,upd,zk0,A.pure1,zu9,A.scal1,zq1,LK.fits,eG,enc]
end bI
@[ext] structure bC where
 aJ:(List bB)
 bE:(List bI)
namespace bC
def zero:bC:=⟨[],[]⟩
def enc (x:bC):List A:=[A.sl (x.aJ.map bB.enc),A.sl (x.bE.map bI.enc)]
@[go_sem] theorem len (x:bC):(enc x).length=2:=by simp [enc]
instance:En bC:=⟨2,enc,zero⟩
@[go_sem] theorem laws (x:bC) :
 zk0 (enc x)=true ∧
 zu9 (enc x)=false ∧
 sub (enc x) 0 2=enc x ∧
 (∀ y,upd (enc x) 0 (enc y)=enc y) ∧
 sub (enc x) 0 1=[A.sl (x.aJ.map bB.enc)] ∧
 sub (enc x) 1 1=[A.sl (x.bE.map bI.enc)] ∧
 (∀ v,upd (enc x) 0 ([A.sl (v.map bB.enc)])=enc { x with aJ:=v }) ∧
 (∀ v,upd (enc x) 1 ([A.sl (v.map bI.enc)])=enc { x with bE:=v }) ∧
 (∀ (c0 c1:A) (cs:List A),upd (c0 :: c1 :: cs) 0 (enc x)=A.sl (x.aJ.map bB.enc) :: A.sl (x.bE.map bI.enc) :: cs) ∧
 (∀ (c0 c1:A),upd (enc x) 0 [c0,c1]=[c0,c1]) ∧
 (∀ y lo k,upd (enc x) 0 [.own y lo k]=[.own y lo k,A.sl (x.bE.map bI.enc)]) ∧
 (∀ y lo k,upd (enc x) 1 [.own y lo k]=[A.sl (x.aJ.map bB.enc),.own y lo k]):=by simp [sub,upd,zk0,A.pure1,zu9,A.scal1,zq1,LK.fits,eG,enc]
end bC
@[ext] structure aD where
 name:ByteArray
 aI:aA
 deriving DecidableEq
namespace aD
def zero:aD:=⟨⟨#[]⟩,aA.zero⟩
def enc (x:aD):List A:=[A.str x.name]++aA.enc x.aI
@[go_sem] theorem len (x:aD):(enc x).length=3:=by simp [enc,aA.len]
instance:En aD:=⟨3,enc,zero⟩
@[go_sem] theorem laws (x:aD) :
 zk0 (enc x)=true ∧
 zu9 (enc x)=true ∧
 zq1 [.s,.i .i64,.i .i64] (enc x)=true ∧
 sub (enc x) 0 3=enc x ∧
 (∀ y,upd (enc x) 0 (enc y)=enc y) ∧
 sub (enc x) 0 1=[A.str x.name] ∧
 sub (enc x) 1 2=aA.enc x.aI ∧
 sub (enc x) 1 1=[A.int .i64 x.aI.mode] ∧
 sub (enc x) 2 1=[A.int .i64 x.aI.aP] ∧
 (∀ v,upd (enc x) 0 ([A.str v])=enc { x with name:=v }) ∧
 (∀ v,upd (enc x) 1 (aA.enc v)=enc { x with aI:=v }) ∧
 (∀ (c0 c1 c2:A) (cs:List A),upd (c0 :: c1 :: c2 :: cs) 0 (enc x)=A.str x.name :: A.int .i64 x.aI.mode :: A.int .i64 x.aI.aP :: cs) ∧
 (∀ (c0 c1 c2:A),upd (enc x) 0 [c0,c1,c2]=[c0,c1,c2]):=by simp [sub,upd,zk0,A.pure1,zu9,A.scal1,zq1,LK.fits,eG,enc,aA.enc]
@[go_sem] theorem eq (x y:aD):eqA (enc x) (enc y)=decide (x=y):=by
 rw [dP]; simp [eqA,eq1,zab7,fL,enc,aA.enc,aD.ext_iff,aA.ext_iff]
end aD
@[ext] structure aG where
 k:Int
 aZ:aD
 aV:(List aG)
namespace aG
def zero:aG:=⟨0,aD.zero,[]⟩
def enc (x:aG):List A:=[A.int .i64 x.k]++aD.enc x.aZ++[A.sl (x.aV.map aG.enc)]
termination_by _root_.SizeOf.sizeOf x
decreasing_by
 rename_i h
 have h2:=List.sizeOf_lt_of_mem h
 cases x
 simp at h2 ⊢
 omega
@[simp] theorem enc_mk (k:Int) (aZ:aD) (aV:(List aG)):enc ⟨k,aZ,aV⟩=[A.int .i64 k,A.str aZ.name,A.int .i64 aZ.aI.mode,A.int .i64 aZ.aI.aP,A.sl (aV.map aG.enc)]:=by simp [enc,aA.enc,aD.enc]
@[simp] theorem zdA8:zero.k=0∧zero.aZ.name=⟨#[]⟩∧zero.aZ.aI.mode=0∧zero.aZ.aI.aP=0∧zero.aV=[]:=by and_intros <;> rfl
theorem enc_cells (x:aG):[A.int .i64 x.k,A.str x.aZ.name,A.int .i64 x.aZ.aI.mode,A.int .i64 x.aZ.aI.aP,A.sl (x.aV.map aG.enc)]=enc x:=by simp [enc,aA.enc,aD.enc]
@[go_sem] theorem len (x:aG):(enc x).length=5:=by simp [enc,aD.len]
instance:En aG:=⟨5,enc,zero⟩
@[go_sem] theorem laws (x:aG) :
 zk0 (enc x)=true ∧
 zu9 (enc x)=false ∧
 sub (enc x) 0 5=enc x ∧
 (∀ y,upd (enc x) 0 (enc y)=enc y) ∧
 sub (enc x) 0 1=[A.int .i64 x.k] ∧
 sub (enc x) 1 3=aD.enc x.aZ ∧
 sub (enc x) 1 1=[A.str x.aZ.name] ∧
 sub (enc x) 2 2=aA.enc x.aZ.aI ∧
 sub (enc x) 2 1=[A.int .i64 x.aZ.aI.mode] ∧
 sub (enc x) 3 1=[A.int .i64 x.aZ.aI.aP] ∧
 sub (enc x) 4 1=[A.sl (x.aV.map aG.enc)] ∧
 (∀ v,upd (enc x) 0 ([A.int .i64 v])=enc { x with k:=v }) ∧
 (∀ v,upd (enc x) 1 (aD.enc v)=enc { x with aZ:=v }) ∧
 (∀ v,upd (enc x) 1 ([A.str v])=enc { x with aZ:={ x.aZ with name:=v } }) ∧
 (∀ v,upd (enc x) 2 (aA.enc v)=enc { x with aZ:={ x.aZ with aI:=v } }) ∧
 (∀ v,upd (enc x) 4 ([A.sl (v.map aG.enc)])=enc { x with aV:=v }) ∧
 (∀ (c0 c1 c2 c3 c4:A) (cs:List A),upd (c0 :: c1 :: c2 :: c3 :: c4 :: cs) 0 (enc x)=A.int .i64 x.k :: A.str x.aZ.name :: A.int .i64 x.aZ.aI.mode :: A.int .i64 x.aZ.aI.aP :: A.sl (x.aV.map aG.enc) :: cs) ∧
 (∀ (c0 c1 c2 c3 c4:A),upd (enc x) 0 [c0,c1,c2,c3,c4]=[c0,c1,c2,c3,c4]) ∧
 (∀ y lo k,upd (enc x) 4 [.own y lo k]=[A.int .i64 x.k,A.str x.aZ.name,A.int .i64 x.aZ.aI.mode,A.int .i64 x.aZ.aI.aP,.own y lo k]):=by simp [sub,upd,zk0,A.pure1,zu9,A.scal1,zq1,LK.fits,eG,enc,aA.enc,aD.enc]
end aG
@[ext] structure bG where
 bL:aG
 (aW limit:Int)
namespace bG
def zero:bG:=⟨aG.zero,0,0⟩
def enc (x:bG):List A:=aG.enc x.bL++[A.int .i64 x.aW,A.int .i64 x.limit]
@[go_sem] theorem len (x:bG):(enc x).length=7:=by simp [enc,aG.len]
instance:En bG:=⟨7,enc,zero⟩
@[go_sem] theorem laws (x:bG) :
 zk0 (enc x)=true ∧
 zu9 (enc x)=false ∧
 sub (enc x) 0 7=enc x ∧
 (∀ y,upd (enc x) 0 (enc y)=enc y) ∧
 sub (enc x) 0 5=aG.enc x.bL ∧
 sub (enc x) 0 1=[A.int .i64 x.bL.k] ∧
 sub (enc x) 1 3=aD.enc x.bL.aZ ∧
 sub (enc x) 4 1=[A.sl (x.bL.aV.map aG.enc)] ∧
 sub (enc x) 5 1=[A.int .i64 x.aW] ∧
 sub (enc x) 6 1=[A.int .i64 x.limit] ∧
 (∀ v,upd (enc x) 0 (aG.enc v)=enc { x with bL:=v }) ∧
 (∀ v,upd (enc x) 5 ([A.int .i64 v])=enc { x with aW:=v }) ∧
 (∀ v,upd (enc x) 6 ([A.int .i64 v])=enc { x with limit:=v }) ∧
 (∀ (c0 c1 c2 c3 c4 c5 c6:A) (cs:List A),upd (c0 :: c1 :: c2 :: c3 :: c4 :: c5 :: c6 :: cs) 0 (enc x)=A.int .i64 x.bL.k :: A.str x.bL.aZ.name :: A.int .i64 x.bL.aZ.aI.mode :: A.int .i64 x.bL.aZ.aI.aP :: A.sl (x.bL.aV.map aG.enc) :: A.int .i64 x.aW :: A.int .i64 x.limit :: cs) ∧
 (∀ (c0 c1 c2 c3 c4 c5 c6:A),upd (enc x) 0 [c0,c1,c2,c3,c4,c5,c6]=[c0,c1,c2,c3,c4,c5,c6]):=by simp [sub,upd,zk0,A.pure1,zu9,A.scal1,zq1,LK.fits,eG,enc,aA.enc,aD.enc,aG.enc]
end bG
@[ext] structure aO where
 aN:aH
 cost:Int
 bD:bC
 bM:Bool
 aQ:bG
 (since gen:Int)
namespace aO
def zero:aO:=⟨aH.zero,0,bC.zero,false,bG.zero,0,0⟩
def enc (x:aO):List A:=aH.enc x.aN++[A.int .i64 x.cost]++bC.enc x.bD++[A.bool x.bM]++bG.enc x.aQ++[A.int .i64 x.since,A.int .i64 x.gen]
@[go_sem] theorem len (x:aO):(enc x).length=16:=by simp [enc,bC.len,aH.len,bG.len]
instance:En aO:=⟨16,enc,zero⟩
@[go_sem] theorem laws (x:aO) :
 zk0 (enc x)=true ∧
 zu9 (enc x)=false ∧
 sub (enc x) 0 16=enc x ∧
 (∀ y,upd (enc x) 0 (enc y)=enc y) ∧
 sub (enc x) 0 3=aH.enc x.aN ∧
 sub (enc x) 3 1=[A.int .i64 x.cost] ∧
 sub (enc x) 4 2=bC.enc x.bD ∧
 sub (enc x) 4 1=[A.sl (x.bD.aJ.map bB.enc)] ∧
 sub (enc x) 6 1=[A.bool x.bM] ∧
 sub (enc x) 7 7=bG.enc x.aQ ∧
 sub (enc x) 7 5=aG.enc x.aQ.bL ∧
 sub (enc x) 12 1=[A.int .i64 x.aQ.aW] ∧
 sub (enc x) 13 1=[A.int .i64 x.aQ.limit] ∧
 sub (enc x) 14 1=[A.int .i64 x.since] ∧
 sub (enc x) 15 1=[A.int .i64 x.gen] ∧
 (∀ v,upd (enc x) 0 (aH.enc v)=enc { x with aN:=v }) ∧
 (∀ v,upd (enc x) 3 ([A.int .i64 v])=enc { x with cost:=v }) ∧
 (∀ v,upd (enc x) 4 (bC.enc v)=enc { x with bD:=v }) ∧
 (∀ v,upd (enc x) 6 ([A.bool v])=enc { x with bM:=v }) ∧
 (∀ v,upd (enc x) 7 (bG.enc v)=enc { x with aQ:=v }) ∧
 (∀ v,upd (enc x) 14 ([A.int .i64 v])=enc { x with since:=v }) ∧
 (∀ v,upd (enc x) 15 ([A.int .i64 v])=enc { x with gen:=v }) ∧
 (∀ (c0 c1 c2 c3 c4 c5 c6 c7 c8 c9 c10 c11 c12 c13 c14 c15:A),upd (enc x) 0 [c0,c1,c2,c3,c4,c5,c6,c7,c8,c9,c10,c11,c12,c13,c14,c15]=[c0,c1,c2,c3,c4,c5,c6,c7,c8,c9,c10,c11,c12,c13,c14,c15]):=by simp [sub,upd,zk0,A.pure1,zu9,A.scal1,zq1,LK.fits,eG,enc,aA.enc,aD.enc,aG.enc,bC.enc,aH.enc,bG.enc]
end aO
@[ext] structure aY where
 now:Int
 aM:(List aF)
 aX:(List aO)
namespace aY
def zero:aY:=⟨0,[],[]⟩
def enc (x:aY):List A:=[A.int .i64 x.now,A.sl (x.aM.map aF.enc),A.sl (x.aX.map aO.enc)]
@[go_sem] theorem len (x:aY):(enc x).length=3:=by simp [enc]
instance:En aY:=⟨3,enc,zero⟩
@[go_sem] theorem laws (x:aY) :
 zk0 (enc x)=true ∧
 zu9 (enc x)=false ∧
 sub (enc x) 0 3=enc x ∧
 (∀ y,upd (enc x) 0 (enc y)=enc y) ∧
 sub (enc x) 0 1=[A.int .i64 x.now] ∧
 sub (enc x) 1 1=[A.sl (x.aM.map aF.enc)] ∧
 sub (enc x) 2 1=[A.sl (x.aX.map aO.enc)] ∧
 (∀ v,upd (enc x) 0 ([A.int .i64 v])=enc { x with now:=v }) ∧
 (∀ v,upd (enc x) 1 ([A.sl (v.map aF.enc)])=enc { x with aM:=v }) ∧
 (∀ v,upd (enc x) 2 ([A.sl (v.map aO.enc)])=enc { x with aX:=v }) ∧
 (∀ (c0 c1 c2:A) (cs:List A),upd (c0 :: c1 :: c2 :: cs) 0 (enc x)=A.int .i64 x.now :: A.sl (x.aM.map aF.enc) :: A.sl (x.aX.map aO.enc) :: cs) ∧
 (∀ (c0 c1 c2:A),upd (enc x) 0 [c0,c1,c2]=[c0,c1,c2]) ∧
 (∀ y lo k,upd (enc x) 1 [.own y lo k]=[A.int .i64 x.now,.own y lo k,A.sl (x.aX.map aO.enc)]) ∧
 (∀ y lo k,upd (enc x) 2 [.own y lo k]=[A.int .i64 x.now,A.sl (x.aM.map aF.enc),.own y lo k]):=by simp [sub,upd,zk0,A.pure1,zu9,A.scal1,zq1,LK.fits,eG,enc]
end aY
@[ext] structure bK where
 aN:aH
 bL:aG
 gen:Int
namespace bK
def zero:bK:=⟨aH.zero,aG.zero,0⟩
def enc (x:bK):List A:=aH.enc x.aN++aG.enc x.bL++[A.int .i64 x.gen]
@[simp] theorem enc_mk (aN:aH) (bL:aG) (gen:Int):enc ⟨aN,bL,gen⟩=[A.int .i64 aN.site,A.int .i64 aN.inc,A.int .i64 aN.num,A.int .i64 bL.k,A.str bL.aZ.name,A.int .i64 bL.aZ.aI.mode,A.int .i64 bL.aZ.aI.aP,A.sl (bL.aV.map aG.enc),A.int .i64 gen]:=by simp [enc,aA.enc,aD.enc,aG.enc,aH.enc]
@[go_sem] theorem len (x:bK):(enc x).length=9:=by simp [enc,aG.len,aH.len]
instance:En bK:=⟨9,enc,zero⟩
@[go_sem] theorem laws (x:bK) :
 zk0 (enc x)=true ∧
 zu9 (enc x)=false ∧
 sub (enc x) 0 9=enc x ∧
 (∀ y,upd (enc x) 0 (enc y)=enc y) ∧
 sub (enc x) 0 3=aH.enc x.aN ∧
 sub (enc x) 3 5=aG.enc x.bL ∧
 sub (enc x) 8 1=[A.int .i64 x.gen] ∧
 (∀ v,upd (enc x) 0 (aH.enc v)=enc { x with aN:=v }) ∧
 (∀ v,upd (enc x) 3 (aG.enc v)=enc { x with bL:=v }) ∧
 (∀ v,upd (enc x) 8 ([A.int .i64 v])=enc { x with gen:=v }) ∧
 (∀ (c0 c1 c2 c3 c4 c5 c6 c7 c8:A),upd (enc x) 0 [c0,c1,c2,c3,c4,c5,c6,c7,c8]=[c0,c1,c2,c3,c4,c5,c6,c7,c8]):=by simp [sub,upd,zk0,A.pure1,zu9,A.scal1,zq1,LK.fits,eG,enc,aA.enc,aD.enc,aG.enc,aH.enc]
end bK
@[ext] structure aK where
 aM:(List aF)
 bF:(List bK)
namespace aK
def zero:aK:=⟨[],[]⟩
def enc (x:aK):List A:=[A.sl (x.aM.map aF.enc),A.sl (x.bF.map bK.enc)]
@[go_sem] theorem len (x:aK):(enc x).length=2:=by simp [enc]
instance:En aK:=⟨2,enc,zero⟩
@[go_sem] theorem laws (x:aK) :
 zk0 (enc x)=true ∧
 zu9 (enc x)=false ∧
 sub (enc x) 0 2=enc x ∧
 (∀ y,upd (enc x) 0 (enc y)=enc y) ∧
 sub (enc x) 0 1=[A.sl (x.aM.map aF.enc)] ∧
 sub (enc x) 1 1=[A.sl (x.bF.map bK.enc)] ∧
 (∀ v,upd (enc x) 0 ([A.sl (v.map aF.enc)])=enc { x with aM:=v }) ∧
 (∀ v,upd (enc x) 1 ([A.sl (v.map bK.enc)])=enc { x with bF:=v }) ∧
 (∀ (c0 c1:A) (cs:List A),upd (c0 :: c1 :: cs) 0 (enc x)=A.sl (x.aM.map aF.enc) :: A.sl (x.bF.map bK.enc) :: cs) ∧
 (∀ (c0 c1:A),upd (enc x) 0 [c0,c1]=[c0,c1]) ∧
 (∀ y lo k,upd (enc x) 0 [.own y lo k]=[.own y lo k,A.sl (x.bF.map bK.enc)]) ∧
 (∀ y lo k,upd (enc x) 1 [.own y lo k]=[A.sl (x.aM.map aF.enc),.own y lo k]):=by simp [sub,upd,zk0,A.pure1,zu9,A.scal1,zq1,LK.fits,eG,enc]
end aK
@[ext] structure bJ where
 rest:(List Int)
 err:Int
namespace bJ
def zero:bJ:=⟨[],0⟩
def enc (x:bJ):List A:=[A.sl (x.rest.map (eI .u8)),A.int .i64 x.err]
@[go_sem] theorem len (x:bJ):(enc x).length=2:=by simp [enc]
instance:En bJ:=⟨2,enc,zero⟩
@[go_sem] theorem laws (x:bJ) :
 zk0 (enc x)=true ∧
 zu9 (enc x)=false ∧
 sub (enc x) 0 2=enc x ∧
 (∀ y,upd (enc x) 0 (enc y)=enc y) ∧
 sub (enc x) 0 1=[A.sl (x.rest.map (eI .u8))] ∧
 sub (enc x) 1 1=[A.int .i64 x.err] ∧
 (∀ v,upd (enc x) 0 ([A.sl (v.map (eI .u8))])=enc { x with rest:=v }) ∧
 (∀ v,upd (enc x) 1 ([A.int .i64 v])=enc { x with err:=v }) ∧
 (∀ (c0 c1:A) (cs:List A),upd (c0 :: c1 :: cs) 0 (enc x)=A.sl (x.rest.map (eI .u8)) :: A.int .i64 x.err :: cs) ∧
 (∀ (c0 c1:A),upd (enc x) 0 [c0,c1]=[c0,c1]) ∧
 (∀ y lo k,upd (enc x) 0 [.own y lo k]=[.own y lo k,A.int .i64 x.err]):=by simp [sub,upd,zk0,A.pure1,zu9,A.scal1,zq1,LK.fits,eG,enc]
end bJ
@[ext] structure aU where
 bH:bJ
namespace aU
def zero:aU:=⟨bJ.zero⟩
def enc (x:aU):List A:=bJ.enc x.bH
@[go_sem] theorem len (x:aU):(enc x).length=2:=by simp [enc,bJ.len]
instance:En aU:=⟨2,enc,zero⟩
@[go_sem] theorem laws (x:aU) :
 zk0 (enc x)=true ∧
 zu9 (enc x)=false ∧
 sub (enc x) 0 2=enc x ∧
 (∀ y,upd (enc x) 0 (enc y)=enc y) ∧
 sub (enc x) 0 1=[A.sl (x.bH.rest.map (eI .u8))] ∧
 sub (enc x) 1 1=[A.int .i64 x.bH.err] ∧
 (∀ v,upd (enc x) 1 ([A.int .i64 v])=enc { x with bH:={ x.bH with err:=v } }) ∧
 (∀ (c0 c1:A) (cs:List A),upd (c0 :: c1 :: cs) 0 (enc x)=A.sl (x.bH.rest.map (eI .u8)) :: A.int .i64 x.bH.err :: cs) ∧
 (∀ (c0 c1:A),upd (enc x) 0 [c0,c1]=[c0,c1]):=by simp [sub,upd,zk0,A.pure1,zu9,A.scal1,zq1,LK.fits,eG,enc,bJ.enc]
end aU
@[ext] structure Tape where
 l:(List Int)
 at_:Int
namespace Tape
def zero:Tape:=⟨[],0⟩
def enc (x:Tape):List A:=[A.sl (x.l.map (eI .i64)),A.int .i64 x.at_]
instance:En Tape:=⟨2,enc,zero⟩
end Tape
@[ext] structure bQ where
 kind:Int
 aN:aH
 aQ:bG
 name:ByteArray
 n:Int
namespace bQ
def zero:bQ:=⟨0,aH.zero,bG.zero,⟨#[]⟩,0⟩
def enc (x:bQ):List A:=[A.int .i64 x.kind]++aH.enc x.aN++bG.enc x.aQ++[A.str x.name,A.int .i64 x.n]
instance:En bQ:=⟨13,enc,zero⟩
end bQ
@[ext] structure bR where
 kind:Int
 aN:aH
 name:ByteArray
 aI:aA
 deriving DecidableEq
namespace bR
def zero:bR:=⟨0,aH.zero,⟨#[]⟩,aA.zero⟩
def enc (x:bR):List A:=[A.int .i64 x.kind]++aH.enc x.aN++[A.str x.name]++aA.enc x.aI
instance:En bR:=⟨7,enc,zero⟩
end bR
@[ext] structure bP where
 c:aY
 ev:(List bR)
namespace bP
def zero:bP:=⟨aY.zero,[]⟩
def enc (x:bP):List A:=aY.enc x.c++[A.sl (x.ev.map bR.enc)]
instance:En bP:=⟨4,enc,zero⟩
end bP
@[ext] structure bN where
 atoms:(List aD)
 set:(List Bool)
namespace bN
def zero:bN:=⟨[],[]⟩
def enc (x:bN):List A:=[A.sl (x.atoms.map aD.enc),A.sl (x.set.map eB)]
@[go_sem] theorem len (x:bN):(enc x).length=2:=by simp [enc]
instance:En bN:=⟨2,enc,zero⟩
@[go_sem] theorem laws (x:bN) :
 zk0 (enc x)=true ∧
 zu9 (enc x)=false ∧
 sub (enc x) 0 2=enc x ∧
 (∀ y,upd (enc x) 0 (enc y)=enc y) ∧
 sub (enc x) 0 1=[A.sl (x.atoms.map aD.enc)] ∧
 sub (enc x) 1 1=[A.sl (x.set.map eB)] ∧
 (∀ v,upd (enc x) 0 ([A.sl (v.map aD.enc)])=enc { x with atoms:=v }) ∧
 (∀ v,upd (enc x) 1 ([A.sl (v.map eB)])=enc { x with set:=v }) ∧
 (∀ (c0 c1:A) (cs:List A),upd (c0 :: c1 :: cs) 0 (enc x)=A.sl (x.atoms.map aD.enc) :: A.sl (x.set.map eB) :: cs) ∧
 (∀ (c0 c1:A),upd (enc x) 0 [c0,c1]=[c0,c1]) ∧
 (∀ y lo k,upd (enc x) 0 [.own y lo k]=[.own y lo k,A.sl (x.set.map eB)]) ∧
 (∀ y lo k,upd (enc x) 1 [.own y lo k]=[A.sl (x.atoms.map aD.enc),.own y lo k]):=by simp [sub,upd,zk0,A.pure1,zu9,A.scal1,zq1,LK.fits,eG,enc]
end bN
attribute [simp] aG.enc_cells
def zaz6:A→List Nat
 | .own x _ _=>[x]
 | .ptr x _ _=>[x]
 | .mp x=>[x]
 | .it x=>[x]
 | _=>[]
def zaH8:A→List Nat
 | .clo _ cs=>cs.flatMap zaz6
 | a=>zaz6 a
def idsA:A→List Nat
 | .agg cs=>if zk0 cs then [] else cs.flatMap zaH8
 | .bnd _ cs=>if zk0 cs then [] else cs.flatMap zaH8
 | a=>zaH8 a
def zz2:List A→List Nat
 | []=>[]
 | x :: xs=>idsA x++zz2 xs
def disj:List Nat→List Nat→Bool
 | [],_=>true
 | x :: xs,ys=>!ys.contains x&&disj xs ys
def zaH9 (an:List Nat) (i:Nat):List (List Nat×List Nat)→List Nat→List Nat→Bool
 | [],_,_=>true
 | q :: log,r,w=>(an.contains i||(disj q.2 r&&disj q.2 w&&disj w q.1))&&zaH9 an (i+1) log r w
def A.flatCap:A→Bool
 | .agg _=>false
 | .clo _ cs=>cs.isEmpty
 | .bnd _ _=>false
 | _=>true
def zaM0:List A→Bool
 | []=>true
 | c :: cs=>c.flatCap&&zaM0 cs
def zaB7:List A→Bool
 | .clo _ caps :: _=>zaM0 caps
 | _=>true
theorem zbh5:∀ {cs:List A},zaM0 cs=true→∀ c ∈ cs,idsA c=zaz6 c
 | d :: ds,h,c,hc=>by
  simp only [zaM0,bS] at h
  rcases cE.1 hc with rfl|hc
  ·cases c <;> first|rfl|(simp [A.flatCap] at h; done)|skip
   rename_i f cs
   cases cs with
   | nil=>rfl
   | cons x xs=>simp [A.flatCap] at h
  ·exact zbh5 h.2 c hc
def zaj3 (C:Cx) (an:List (List Nat)):List POp→St→List (List Nat×List Nat)→(St→Prop)→Prop
 | [],st,_,K=>K st
 | p :: ps,st,log,K=>aopS C p st.toS st.nx fun v mw=>zaH9 (an.getD log.length []) 0 log (zz2 (zp2 C st p.xs)) (mw.map (·.1))=true∧zaB7 (zp2 C st p.xs)=true ∧
   zaj3 C an ps (st.app p.dst v mw) (log++[(zz2 (zp2 C st p.xs),mw.map (·.1))]) K
section
variable {C:Cx} {E:Env}
theorem zcv5 {p:POp} {s:S} {id:Nat} {K:A→List (Nat×MS)→Prop} (h:aopS C p s id K):∃ v mw,K v mw∧aopS C p s id (fun v' mw'=>v'=v∧mw'=mw):=by
 unfold aopS at h ⊢
 cases hg:zG1 s.fr p.g with
 | none=>simp [hg] at h
 | some g =>
  simp only [hg] at h ⊢
  cases hp:p.po <;> simp only [hp] at h ⊢
  case pick =>
   split at h
   ·split at h
    ·exact ⟨_,_,h.2,h.1,rfl,rfl⟩
    ·exact h.elim
   ·exact h.elim
  case call f =>
   obtain ⟨r,h1,h2,h3⟩:=h
   exact ⟨_,_,h3,r,h1,h2,rfl,rfl⟩
  case callv =>
   split at h
   ·obtain ⟨r,h1,h2,h3⟩:=h
    exact ⟨_,_,h3,r,h1,h2,rfl,rfl⟩
   ·exact h.elim
  case callb =>
   split at h
   ·obtain ⟨r,h1,h2,h3⟩:=h
    exact ⟨_,_,h3,r,h1,h2,rfl,rfl⟩
   ·exact h.elim
  case callm f =>
   obtain ⟨l,as,ms,k,r,ms',k',h1,h2,h3,h4,h5⟩:=h
   exact ⟨_,_,h5,l,as,ms,k,r,ms',k',h1,h2,h3,h4,rfl,rfl⟩
  case callvm =>
   split at h
   ·obtain ⟨l,as,ms,k,r,ms',k',h1,h2,h3,h4,h5⟩:=h
    exact ⟨_,_,h5,l,as,ms,k,r,ms',k',h1,h2,h3,h4,rfl,rfl⟩
   ·exact h.elim
  all_goals
   split at h
   ·exact ⟨_,_,h.2.2,h.1,h.2.1,rfl,rfl⟩
   ·exact ⟨_,_,h.2.2,h.1,h.2.1,rfl,rfl⟩
theorem zcL1 {p:POp} {st:St} {K:A→List (Nat×MS)→Prop} (h:aopS C p st.toS st.nx K):aopS C p st.toS st.nx (fun v mw=>mwOk st.nx mw∧K v mw):=by
 unfold aopS at h ⊢
 simp only [St.toS] at h ⊢
 cases hg:zG1 st.slot p.g with
 | none=>simp [hg] at h
 | some g =>
  simp only [hg] at h ⊢
  cases hp:p.po <;> simp only [hp] at h ⊢
  case pick =>
   split at h
   ·split at h
    ·exact ⟨h.1,trivial,h.2⟩
    ·exact h.elim
   ·exact h.elim
  case call f =>
   obtain ⟨r,h1,h2,h3⟩:=h
   exact ⟨r,h1,h2,zau3 st _ _,h3⟩
  case callv =>
   split at h
   ·obtain ⟨r,h1,h2,h3⟩:=h
    exact ⟨r,h1,h2,zau3 st _ _,h3⟩
   ·exact h.elim
  case callb =>
   split at h
   ·obtain ⟨r,h1,h2,h3⟩:=h
    exact ⟨r,h1,h2,zau3 st _ _,h3⟩
   ·exact h.elim
  case callm f=>exact zbm1 h
  case callvm =>
   split at h
   ·exact zbm1 h
   ·exact h.elim
  all_goals
   split at h
   ·rename_i ef hev
    obtain ⟨h1,h2,h3⟩:=h
    exact ⟨h1,h2,zce8 hev,h3⟩
   ·exact ⟨h.1,h.2.1,trivial,h.2.2⟩
theorem zaF8 {m m2:Nat→MS} {x:A} (h:∀ y ∈ zaH8 x,m y=m2 y):frz1 m x=frz1 m2 x∧(zad7 m x ↔ zad7 m2 x):=by
 cases x <;> first|exact ⟨rfl,jW⟩|skip
 rename_i y lo n
 have:=h y (by simp [zaH8,zaz6])
 simp only [frz1,zad7,this,cQ]
theorem zbq3 {x:A}:∀ y ∈ zaj1 x,y ∈ idsA x:=by
 cases x <;> intro y hy <;> first|(simp [zaj1,zK1] at hy; done)|skip
 ·rename_i z lo n; simpa [zaj1,zK1,idsA,zaH8,zaz6] using hy
 ·rename_i cs
  simp only [zaj1,idsA] at hy ⊢
  split at hy
  ·cases hy
  ·rename_i hp
   rw [bW hp]
   obtain ⟨c,hc,hy⟩:=fU.1 hy
   refine fU.2 ⟨c,hc,?_⟩
   cases c <;> simp [zK1] at hy
   subst hy; simp [zaH8,zaz6]
theorem zbD6 {m m2:Nat→MS} {x:A} (h:∀ y ∈ idsA x,m y=m2 y):frz m x=frz m2 x∧(zaj0 m x ↔ zaj0 m2 x):=by
 cases x with
 | agg cs =>
  simp only [frz,zaj0]
  split
  ·exact ⟨rfl,jW⟩
  ·rename_i hp
   simp only [idsA,bW hp] at h
   have h2:∀ c ∈ cs,∀ y ∈ zaH8 c,m y=m2 y:=fun c hc y hy=>h y (fU.2 ⟨c,hc,hy⟩)
   exact ⟨by rw [List.map_congr_left fun c hc=>(zaF8 (h2 c hc)).1],⟨fun hh c hc=>(zaF8 (h2 c hc)).2.1 (hh c hc),fun hh c hc=>(zaF8 (h2 c hc)).2.2 (hh c hc)⟩⟩
 | own x lo n=>exact zaF8 (x:=.own x lo n) h
 | _=>exact ⟨rfl,jW⟩
theorem zat8 {m m2:Nat→MS}:∀ {xs:List A},(∀ y ∈ zz2 xs,m y=m2 y)→zD0 m xs=zD0 m2 xs∧(zx0 m xs ↔ zx0 m2 xs)
 | [],_=>⟨rfl,jW⟩
 | x :: xs,h=>by
  obtain ⟨h1,h2⟩:=zbD6 (x:=x) fun y hy=>h y (dX _ hy)
  obtain ⟨h3,h4⟩:=zat8 (xs:=xs) fun y hy=>h y (dS _ hy)
  simp only [zD0,zx0,h1,h2,h3,h4,cQ]
theorem zaq1 {m m2:Nat→MS}:∀ {xs:List Nat},(∀ y ∈ xs,m y=m2 y)→zI1 m xs=zI1 m2 xs
 | [],_=>rfl
 | x :: xs,h=>by simp only [zI1,h x (.head _),zaq1 fun y hy=>h y (.tail _ hy)]
theorem zap0:∀ {xs:List A},∀ y ∈ zz0 xs,y ∈ zz2 xs
 | x :: xs,y,hy=>by
  rcases dF.1 hy with h|h
  ·exact dX _ (zbq3 y h)
  ·exact dS _ (zap0 y h)
theorem zcf9:∀ {vs as:List A},∀ y ∈ fzM vs as,y ∈ zz2 vs
 | v :: vs,a :: as,y,hy=>by
  rcases dF.1 hy with h|h
  ·split at h
   ·cases h
   ·exact dX _ (zbq3 y h)
  ·exact dS _ (zcf9 y h)
 | [],[],y,hy=>by cases hy
 | _ :: _,[],y,hy=>by cases hy
 | [],_ :: _,y,hy=>by cases hy
theorem zbh6 {m m2:Nat→MS} {l:List (Nat×Nat)} {k:Nat}:∀ {vs as:List A},(∀ y ∈ zz2 vs,m y=m2 y)→zaY8 m l k vs as→zaY8 m2 l k vs as
 | v :: vs,a :: as,h,h1=>by
  refine ⟨?_,zbh6 (fun y hy=>h y (dS _ hy)) h1.2⟩
  obtain ⟨h3,h4⟩:=zbD6 (x:=v) fun y hy=>h y (dX _ hy)
  have h2:=h1.1
  unfold argM at h2 ⊢
  split
  ·rename_i hh; rw [bY hh] at h2; exact h2
  ·rename_i hh; rw [bW hh] at h2; exact ⟨h4.1 h2.1,h3 ▸ h2.2⟩
 | [],[],_,_=>trivial
 | _ :: _,[],_,h=>h.elim
 | [],_ :: _,_,h=>h.elim
theorem zbh7 {m m2:Nat→MS} {l:List (Nat×Nat)} {k:Nat} {fz:List Nat}:∀ {ms:List (Nat×Row)},(∀ q ∈ ms,m (rho l q.1)=m2 (rho l q.1))→zbC0 m l k fz ms→zbC0 m2 l k fz ms
 | [],_,_=>trivial
 | q :: ms,h,h1=>by
  obtain ⟨h2,h3,h4,h5,h6,h8,h7⟩:=h1
  exact ⟨by rw [← h q (.head _)]; exact h2,h3,h4,h5,h6,h8,zbh7 (fun p hp=>h p (.tail _ hp)) h7⟩
theorem zaU9 {L:List (Nat×Nat)} {ms':List (Nat×Row)}:∀ {ids:List Nat},∀ x ∈ ids,rho L x ∈ (zV2 L ms' ids).map (·.1)
 | y :: ids,x,h=>by
  rcases cE.1 h with rfl|h
  ·exact .head _
  ·exact .tail _ (zaU9 x h)
theorem zbh8 {m m2:Nat→MS}:∀ {mw:List (Nat×MS)},(∀ y ∈ mw.map (·.1),m y=m2 y)→zaY9 m mw→zaY9 m2 mw
 | [],_,_=>trivial
 | q :: r,h,⟨h1,h3⟩=>⟨by rw [← h q.1 (.head _)]; exact h1,zbh8 (fun y hy=>h y (.tail _ hy)) h3⟩
theorem zbh9 {f:FuncId} {m m2:Nat→MS} {id:Nat} {vals:List A} {og:Option (Nat×Bool)} {g:Bool} {ob:Prop} {v:A} {mw:List (Nat×MS)} (h1:∀ y ∈ zz2 vals,m y=m2 y) (h2:∀ y ∈ mw.map (·.1),m y=m2 y)
  (h:zaz1 C m id f vals og g ob (fun n=>∀ x,id≤x→x < id+n→m x=.fresh) (fun v' mw'=>v'=v∧mw'=mw)) :
  zaz1 C m2 id f vals og g ob (fun n=>∀ x,id≤x→x < id+n→m2 x=.fresh) (fun v' mw'=>v'=v∧mw'=mw):=by
 obtain ⟨l,as,ms,k,r,ms',k',ht,hf,hvv,h5,h7,h8⟩:=h
 have e0:mwM m2 (l++newL k id (k' - k)) vals as ms ms' k k'=mw:=by rw [← h8,mwM,mwM,zaq1 fun y hy=>h1 y (zcf9 y hy)]
 refine ⟨l,as,ms,k,r,ms',k',fun hg=>?_,fun hg=>?_,hvv,h5,h7,e0⟩
 case refine_2 =>
  rw [e0]; rw [h8] at hf
  exact ⟨(hf hg).1,zbh8 h2 (hf hg).2⟩
 obtain ⟨hob,h3,h4,h6⟩:=ht hg
 obtain ⟨g1,g2,g3,g4,g5,g6,g7,g8⟩:=h4
 have hkk:k≤k':=fB g6
 have key:∀ x ∈ ms.map (·.1)++(List.range (k' - k)).map (k+·),m (rho (l++newL k id (k' - k)) x)=m2 (rho (l++newL k id (k' - k)) x):=fun x hx=>by
  refine h2 _ ?_
  rw [← h8,mwM,iI]
  exact dS _ (zaU9 x hx)
 have rhoOld:∀ x,x < k→rho (l++newL k id (k' - k)) x=rho l x:=fun x hx=>by
  simp only [rho,zV3,zag7]
  rw [bW (by omega),jZ]
 have rhoNew:∀ i,i < k' - k→rho (l++newL k id (k' - k)) (k+i)=id+i:=fun i hi=>by
  simp only [rho,zV3,zag7]
  rw [zaC5 fun q hq=>by have:=g8 q hq; omega,bY (by omega)]
  simp
 refine ⟨hob,h3,⟨zbh6 h1 g1,zbh7 (fun q hq=>?_) g2,g3,g4,g5,g6,g7,g8⟩,fun x hx hx2=>?_⟩
 ·have:=key q.1 (dX _ (cV.2 ⟨q,hq,rfl⟩))
  rwa [rhoOld q.1 (zaC7 g2 q.1 q.2 hq).2.2.1] at this
 ·have:=key (k+(x - id)) (dS _ (cV.2 ⟨x - id,eC.2 (by omega),rfl⟩))
  rw [rhoNew _ (by omega),show id+(x - id)=x by omega] at this
  rw [← this]; exact h6 x hx hx2
theorem zbz7 (x y:List A):zz2 (x++y)=zz2 x++zz2 y:=by
 induction x with
 | nil=>rfl
 | cons a x ih=>simp only [List.cons_append,zz2,ih,dI]
theorem zbi0 {y:Nat}:∀ {caps:List A},(∀ c ∈ caps,idsA c=zaz6 c)→y ∈ zz2 caps→y ∈ caps.flatMap zaz6
 | c :: cs,hc,h=>by
  rcases dF.1 h with h|h
  ·exact fU.2 ⟨c,.head _,hc c (.head _) ▸ h⟩
  ·obtain ⟨d,hd,h2⟩:=fU.1 (zbi0 (fun d hd=>hc d (.tail _ hd)) h)
   exact fU.2 ⟨d,.tail _ hd,h2⟩
theorem zbi1 {f:FuncId} {caps vals:List A} {y:Nat} (h:y ∈ zz2 (vals++caps)) (hc:∀ c ∈ caps,idsA c=zaz6 c):y ∈ zz2 (.clo f caps :: vals):=by
 rw [zbz7] at h
 simp only [zz2,dF]
 rcases dF.1 h with h|h
 ·exact .inr h
 ·exact .inl (zbi0 hc h)
theorem zcv6 {id:Nat} {m m2:Nat→MS} {po:PO} {vals:List A} (h:∀ y ∈ zz2 vals,m y=m2 y):ev id m po vals=ev id m2 po vals:=by
 have e1:∀ {x:A} {xs:List A},vals=x :: xs→(∀ y ∈ idsA x,m y=m2 y):=fun hv y hy=>h y (by rw [hv]; exact dX _ hy)
 have e2:∀ {x x2:A} {xs:List A},vals=x :: x2 :: xs→(∀ y ∈ idsA x2,m y=m2 y):=fun hv y hy=>h y (by rw [hv]; exact dS _ (dX _ hy))
 have own:∀ {x:Nat} {lo n:Nat} ,(∀ y ∈ idsA (.own x lo n),m y=m2 y)→m x=m2 x:=fun hh=>hh _ (by simp [idsA,zaH8,zaz6])
 have ptr:∀ {x:Nat} {lo n:Nat} ,(∀ y ∈ idsA (.ptr x lo n),m y=m2 y)→m x=m2 x:=fun hh=>hh _ (by simp [idsA,zaH8,zaz6])
 have mp:∀ {x:Nat},(∀ y ∈ idsA (.mp x),m y=m2 y)→m x=m2 x:=fun hh=>hh _ (by simp [idsA,zaH8,zaz6])
 have hel:∀ {x:A},(∀ y ∈ idsA x,m y=m2 y)→zat1 m x=zat1 m2 x∧zab5 m x=zab5 m2 x:=fun {x} hh=>by
  cases x <;> first|exact ⟨rfl,rfl⟩|skip
  simp only [zat1,zab5,own hh,cQ]
 have hsl:∀ {x:A} {sz:Nat} {lo hi mx:Option Int},(∀ y ∈ idsA x,m y=m2 y)→zal6 m sz x lo hi mx=zal6 m2 sz x lo hi mx:=fun {x sz lo hi mx} hh=>by
  cases x <;> cases mx <;> first|rfl|(simp only [zal6,own hh])
 cases po
 case slc sz lo hi mx =>
  rcases vals with _|⟨x,_|⟨x2,_|⟨x3,_|⟨x4,_|⟨x5,xs⟩⟩⟩⟩⟩
  ·cases lo <;> cases hi <;> cases mx <;> rfl
  ·have hx:=e1 rfl
   have:=fun {lo hi mx}=>hsl (sz:=sz) (lo:=lo) (hi:=hi) (mx:=mx) hx
   cases lo <;> cases hi <;> cases mx <;> first|rfl|(simp only [ev,this])
  ·have hx:=e1 rfl
   have:=fun {lo hi mx}=>hsl (sz:=sz) (lo:=lo) (hi:=hi) (mx:=mx) hx
   cases lo <;> cases hi <;> cases mx <;> cases x2 <;> first|rfl|(simp only [ev,this])
  ·have hx:=e1 rfl
   have:=fun {lo hi mx}=>hsl (sz:=sz) (lo:=lo) (hi:=hi) (mx:=mx) hx
   cases lo <;> cases hi <;> cases mx <;> cases x2 <;> cases x3 <;> first|rfl|(simp only [ev,this])
  ·have hx:=e1 rfl
   have:=fun {lo hi mx}=>hsl (sz:=sz) (lo:=lo) (hi:=hi) (mx:=mx) hx
   cases lo <;> cases hi <;> cases mx <;> first|rfl|(cases x2 <;> first|rfl|(cases x3 <;> first|rfl|(cases x4 <;> first|rfl|(simp only [ev,this]))))
  ·cases lo <;> cases hi <;> cases mx <;> first|rfl|(cases x2 <;> first|rfl|(cases x3 <;> first|rfl|(cases x4 <;> rfl)))
 case slcS lo hi =>
  rcases vals with _|⟨x,_|⟨x2,_|⟨x3,_|⟨x4,xs⟩⟩⟩⟩ <;> cases lo <;> cases hi <;> first|rfl|(cases x <;> first|rfl|(cases x2 <;> first|rfl|(cases x3 <;> rfl)))
 case cvS =>
  rcases vals with _|⟨x,_|⟨x2,xs⟩⟩ <;> first|rfl|skip
  obtain ⟨g1,g2⟩:=hel (e1 rfl)
  simp only [ev,g1,g2]
 case append sz bytes z =>
  rcases vals with _|⟨x,_|⟨x2,_|⟨x3,xs⟩⟩⟩ <;> first|rfl|skip
  have hx:=e1 rfl
  obtain ⟨g1,g2⟩:=hel (e2 rfl)
  simp only [ev,g1,g2]
  cases x <;> first|rfl|skip
  have e:=own hx
  simp only [e]
 case appc sz bytes =>
  rcases vals with _|⟨x,_|⟨x2,_|⟨x3,xs⟩⟩⟩ <;> first|rfl|skip
  have hx:=e1 rfl
  obtain ⟨g1,g2⟩:=hel (e2 rfl)
  simp only [ev,g1,g2]
  cases x <;> first|rfl|skip
  have e:=own hx
  simp only [e]
 case clear sz z =>
  rcases vals with _|⟨x,_|⟨x2,xs⟩⟩ <;> first|rfl|skip
  have hx:=e1 rfl
  simp only [ev]
  cases x <;> first|rfl|skip
  have e:=own hx
  simp only [e]
 case copy sz =>
  rcases vals with _|⟨x,_|⟨x2,_|⟨x3,xs⟩⟩⟩ <;> first|rfl|skip
  have hx:=e1 rfl
  obtain ⟨g1,g2⟩:=hel (e2 rfl)
  simp only [ev,g1,g2]
  cases x <;> first|rfl|skip
  have e:=own hx
  simp only [e]
 case load n ag =>
  rcases vals with _|⟨x,_|⟨x2,xs⟩⟩ <;> first|rfl|skip
  have hx:=e1 rfl
  cases x <;> first|rfl|skip
  have e:=ptr hx
  simp only [ev,e]
 case store n =>
  rcases vals with _|⟨x,_|⟨x2,_|⟨x3,xs⟩⟩⟩ <;> first|rfl|skip
  have hx:=e1 rfl
  cases x <;> first|rfl|skip
  have e:=ptr hx
  simp only [ev,e]
 case faddr off =>
  rcases vals with _|⟨x,_|⟨x2,xs⟩⟩ <;> first|rfl|skip
  have hx:=e1 rfl
  cases x <;> first|rfl|skip
  have e:=ptr hx
  simp only [ev,e]
 case nilck =>
  rcases vals with _|⟨x,_|⟨x2,xs⟩⟩ <;> first|rfl|skip
  have hx:=e1 rfl
  cases x <;> first|rfl|skip
  have e:=ptr hx
  simp only [ev,e]
 case len =>
  rcases vals with _|⟨x,_|⟨x2,xs⟩⟩ <;> first|rfl|skip
  have hx:=e1 rfl
  cases x <;> first|rfl|skip
  have e:=own hx
  simp only [ev,e]
 case lkp ok ag kz z =>
  rcases vals with _|⟨x,_|⟨x2,_|⟨x3,xs⟩⟩⟩ <;> first|rfl|(cases x <;> rfl)|skip
  have hx:=e1 rfl
  cases x <;> first|rfl|skip
  have e:=mp hx
  simp only [ev,e]
 case mupd kz ag n =>
  rcases vals with _|⟨x,_|⟨x2,_|⟨x3,_|⟨x4,xs⟩⟩⟩⟩ <;> first|rfl|(cases x <;> rfl)|skip
  have hx:=e1 rfl
  cases x <;> first|rfl|skip
  have e:=mp hx
  simp only [ev,e]
 case rng =>
  rcases vals with _|⟨x,_|⟨x2,xs⟩⟩ <;> first|rfl|(cases x <;> rfl)|skip
  have hx:=e1 rfl
  cases x <;> first|rfl|skip
  have e:=mp hx
  simp only [ev,e]
 case lenM =>
  rcases vals with _|⟨x,_|⟨x2,xs⟩⟩ <;> first|rfl|(cases x <;> rfl)|skip
  have hx:=e1 rfl
  cases x <;> first|rfl|skip
  have e:=mp hx
  simp only [ev,e]
 case iaA n sz =>
  rcases vals with _|⟨x,_|⟨x2,_|⟨x3,xs⟩⟩⟩ <;> first|rfl|(cases x2 <;> rfl)|skip
  have hx:=e1 rfl
  cases x2 <;> first|rfl|skip
  cases x <;> first|rfl|skip
  have e:=ptr hx
  simp only [ev,e]
 case iaS sz z =>
  rcases vals with _|⟨x,_|⟨x2,_|⟨x3,xs⟩⟩⟩ <;> first|rfl|(cases x2 <;> rfl)|skip
  have hx:=e1 rfl
  cases x2 <;> first|rfl|skip
  cases x <;> first|rfl|skip
  have e:=own hx
  simp only [ev,e]
 all_goals first
  | rfl
  | (rcases vals with _|⟨x,_|⟨x2,_|⟨x3,xs⟩⟩⟩ <;> first|rfl|(cases x <;> first|rfl|(cases x2 <;> rfl)))
theorem zbi2 {fr f2:Nat→A}:∀ (xs:List PX),(∀ t ∈ rdsX xs,fr t=f2 t)→zC9 C fr xs=zC9 C f2 xs∧(gdsF C fr xs ↔ gdsF C f2 xs)
 | [],_=>⟨rfl,jW⟩
 | x :: xs,h=>by
  have h1:=zap9 (x:=x) C.G (f:=fr) (g:=f2) fun t ht=>h t ((zK2 x xs t).2 (.inl ht))
  obtain ⟨h2,h3⟩:=zbi2 xs fun t ht=>h t ((zK2 x xs t).2 (.inr ht))
  simp only [zC9,gdsF,h1,h2,h3,cQ]
theorem zbY0 {p:POp} {s s2:S} {id:Nat} {v:A} {mw:List (Nat×MS)} (hr:∀ t ∈ p.rds,s.fr t=s2.fr t) (hm:∀ y ∈ zz2 (zC9 C s.fr p.xs),s.mem y=s2.mem y) (hw:∀ y ∈ mw.map (·.1),s.mem y=s2.mem y)
  (hcap:∀ f caps vals,(p.po=.callv∨p.po=.callvm)→zC9 C s.fr p.xs=.clo f caps :: vals→∀ c ∈ caps,idsA c=zaz6 c)
  (h:aopS C p s id (fun v' mw'=>v'=v∧mw'=mw)):aopS C p s2 id (fun v' mw'=>v'=v∧mw'=mw):=by
 have hx:∀ t ∈ rdsX p.xs,s.fr t=s2.fr t:=fun t ht=>hr t (dS _ ht)
 obtain ⟨hv,hgd⟩:=zbi2 (C:=C) p.xs hx
 have hgo:zG1 s2.fr p.g=zG1 s.fr p.g:=by
  cases hg:p.g with
  | none=>rfl
  | some q=>simp only [zG1]; rw [hr q.1 (dX _ (by simp [hg]))]
 obtain ⟨hf1,hf2⟩:=zat8 hm
 have hcm:∀ r,zx3 s.mem (zC9 C s.fr p.xs) r=zx3 s2.mem (zC9 C s.fr p.xs) r:=fun r=>by
  simp only [zx3,zaq1 fun y hy=>hm y (zap0 y hy)]
 unfold aopS at h ⊢
 rw [hgo,← hv,← hgd]
 cases hg:zG1 s.fr p.g with
 | none=>simp [hg] at h
 | some g =>
  simp only [hg] at h ⊢
  cases hp:p.po <;> simp only [hp] at h ⊢
  case pick =>
   split at h
   ·rename_i c x y hxs
    simp only [hxs] at hx ⊢
    have e1:=zap9 (x:=c) C.G (f:=s.fr) (g:=s2.fr) fun t ht=>hx t ((zK2 _ _ _).2 (.inl ht))
    have e2:=zap9 (x:=x) C.G (f:=s.fr) (g:=s2.fr) fun t ht=>hx t ((zK2 _ _ _).2 (.inr ((zK2 _ _ _).2 (.inl ht))))
    have e3:=zap9 (x:=y) C.G (f:=s.fr) (g:=s2.fr) fun t ht=>hx t ((zK2 _ _ _).2 (.inr ((zK2 _ _ _).2 (.inr ht))))
    rw [← e1,← e2,← e3]
    exact h
   ·exact h.elim
  case call f =>
   rw [← hf1,← hf2]
   obtain ⟨r,h1,h2,h3⟩:=h
   exact ⟨r,h1,by rw [← hcm]; exact h2,by rw [← hcm]; exact h3⟩
  case callv =>
   split at h
   ·rename_i f caps vals hvals
    have hc:=hcap f caps vals (.inl hp) hvals
    have hm2:∀ y ∈ zz2 (vals++caps),s.mem y=s2.mem y:=fun y hy=>hm y (by rw [hvals]; exact zbi1 hy hc)
    obtain ⟨g1,g2⟩:=zat8 hm2
    have hcm2:∀ r,zx3 s.mem (vals++caps) r=zx3 s2.mem (vals++caps) r:=fun r=>by
     simp only [zx3,zaq1 fun y hy=>hm2 y (zap0 y hy)]
    obtain ⟨r,h1,h2,h3⟩:=h
    rw [← g1,← g2]
    exact ⟨r,h1,by rw [← hcm2]; exact h2,by rw [← hcm2]; exact h3⟩
   ·exact h.elim
  case callb =>
   split at h
   ·rename_i f cs vals hvals
    have hm2:∀ y ∈ zz2 (.agg cs :: vals),s.mem y=s2.mem y:=fun y hy=>hm y (by rw [hvals]; exact hy)
    obtain ⟨g1,g2⟩:=zat8 hm2
    have hcm2:∀ r,zx3 s.mem (.agg cs :: vals) r=zx3 s2.mem (.agg cs :: vals) r:=fun r=>by
     simp only [zx3,zaq1 fun y hy=>hm2 y (zap0 y hy)]
    obtain ⟨r,h1,h2,h3⟩:=h
    rw [← g1,← g2]
    exact ⟨r,h1,by rw [← hcm2]; exact h2,by rw [← hcm2]; exact h3⟩
   ·exact h.elim
  case callm f=>exact zbh9 hm hw h
  case callvm =>
   split at h
   ·rename_i f caps vals hvals
    have hc:=hcap f caps vals (.inr hp) hvals
    exact zbh9 (fun y hy=>hm y (by rw [hvals]; exact zbi1 hy hc)) hw h
   ·exact h.elim
  all_goals
   rw [← zcv6 (id:=id) hm]
   exact h
set_option maxHeartbeats 1000000 in
theorem zcY1 {id:Nat} {m:Nat→MS} {po:PO} {vals:List A} {ef:Ef} (h:ev id m po vals=some ef):id ∈ ef.mw.map (·.1)∨∀ id',ev id' m po vals=some ef:=by
 cases po
 case nilown sz z=>rcases vals with _|⟨x,_|⟨x2,xs⟩⟩ <;> cases h; exact .inl (by simp)
 case box n=>rcases vals with _|⟨x,_|⟨x2,xs⟩⟩ <;> cases h; exact .inl (by simp)
 case alloc n z=>rcases vals with _|⟨x,xs⟩ <;> cases h; exact .inl (by simp)
 case bown sz z=>simp only [ev,cU] at h; subst h; exact .inl (by simp)
 case mkmap z=>rcases vals with _|⟨x,xs⟩ <;> cases h; exact .inl (by simp)
 case rng =>
  rcases vals with _|⟨x,_|⟨x2,xs⟩⟩ <;> first|(cases h; done)|(cases x <;> cases h; done)|skip
  cases x <;> simp only [ev] at h <;> first|(cases h; done)|skip
  split at h
  ·cases h; exact .inl (by simp)
  ·cases h
 case next d=>exact .inr fun id'=>by rw [← h]; rfl
 case entry d=>exact .inr fun id'=>by rw [← h]; rfl
 case lkp ok ag kz z=>exact .inr fun id'=>by rw [← h]; rcases vals with _|⟨x,_|⟨x2,_|⟨x3,xs⟩⟩⟩ <;> first|rfl|(cases x <;> rfl)
 case mupd kz ag n=>exact .inr fun id'=>by rw [← h]; rcases vals with _|⟨x,_|⟨x2,_|⟨x3,_|⟨x4,xs⟩⟩⟩⟩ <;> first|rfl|(cases x <;> rfl)
 case lenM=>exact .inr fun id'=>by rw [← h]; rcases vals with _|⟨x,_|⟨x2,xs⟩⟩ <;> first|rfl|(cases x <;> rfl)
 case mk sz b z =>
  rcases vals with _|⟨x,_|⟨x2,_|⟨x3,xs⟩⟩⟩ <;> first|(cases h; done)|(cases x <;> cases h; done)|skip
  ·cases x <;> cases x2 <;> cases h; exact .inl (by simp)
  ·cases x <;> cases x2 <;> cases h
 case append sz b z =>
  rcases vals with _|⟨x,_|⟨x2,_|⟨x3,xs⟩⟩⟩ <;> first|(cases h; done)|skip
  simp only [ev,gB] at h
  obtain ⟨new,hnew,h⟩:=h
  cases x <;> simp only [] at h <;> first|(cases h; done)|skip
  ·cases h; exact .inl (by simp)
  ·split at h
   ·cases h; exact .inl (by simp)
   ·cases h
 case appc sz b =>
  rcases vals with _|⟨x,_|⟨x2,_|⟨x3,xs⟩⟩⟩ <;> first|(cases h; done)|skip
  simp only [ev,gB] at h
  obtain ⟨new,hnew,h⟩:=h
  cases x <;> simp only [] at h <;> first|(cases h; done)|skip
  split at h
  ·cases h; exact .inl (by simp)
  ·cases h
 all_goals
  refine .inr fun id'=>?_
  rw [← h]
  first
   | rfl
   | (rename_i lo hi mx; cases lo <;> cases hi <;> cases mx <;> rcases vals with _|⟨x,_|⟨x2,_|⟨x3,_|⟨x4,_|⟨x5,xs⟩⟩⟩⟩⟩ <;> first|rfl|(cases x2 <;> first|rfl|(cases x3 <;> first|rfl|(cases x4 <;> rfl))))
   | (rename_i lo hi; cases lo <;> cases hi <;> rcases vals with _|⟨x,_|⟨x2,_|⟨x3,_|⟨x4,xs⟩⟩⟩⟩ <;> first|rfl|(cases x <;> first|rfl|(cases x2 <;> first|rfl|(cases x3 <;> rfl))))
   | (rcases vals with _|⟨x,_|⟨x2,_|⟨x3,xs⟩⟩⟩ <;> first|rfl|(cases x <;> first|rfl|(cases x2 <;> rfl))|(cases x2 <;> rfl))
theorem zcL2 {p:POp} {s:S} {id:Nat} {v:A} {mw:List (Nat×MS)} (h:aopS C p s id (fun v' mw'=>v'=v∧mw'=mw)):id ∈ mw.map (·.1)∨∀ id',id≤id'→aopS C p s id' (fun v' mw'=>v'=v∧mw'=mw):=by
 have cm:∀ {f:FuncId} {vals:List A} {og:Option (Nat×Bool)} {g:Bool} {ob:Prop},zaz1 C s.mem id f vals og g ob (fun n=>∀ x,id≤x→x < id+n→s.mem x=.fresh) (fun v' mw'=>v'=v∧mw'=mw) →
   id ∈ mw.map (·.1)∨∀ id',id≤id'→zaz1 C s.mem id' f vals og g ob (fun n=>∀ x,id'≤x→x < id'+n→s.mem x=.fresh) (fun v' mw'=>v'=v∧mw'=mw):=fun {f vals og g ob} h=>by
  obtain ⟨l,as,ms,k,r,ms',k',ht,hf,hvv,h5,h7,h8⟩:=h
  by_cases hk:k=k'
  ·have en:∀ id',newL k id' (k' - k)=[]:=fun id'=>by rw [hk,gF]; rfl
   simp only [en] at hf hvv h7 h8
   refine .inr fun id' hid=>⟨l,as,ms,k,r,ms',k',fun hg=>?_,?_⟩
   ·obtain ⟨hob,h3,h4,h6⟩:=ht hg
    obtain ⟨g1,g2,g3,g4,g5,g6,g7,g8⟩:=h4
    exact ⟨hob,h3,⟨g1,g2,g3,g4,g5,g6,fun q hq=>dQ (g7 q hq) hid,g8⟩,fun x hx hx2=>by omega⟩
   ·simp only [en]
    exact ⟨hf,hvv,h5,h7,h8⟩
  ·have hg:g=true:=by
    cases g with
    | true=>rfl
    | false=>exact absurd (hf rfl).1 hk
   obtain ⟨hob,h3,h4,h6⟩:=ht hg
   obtain ⟨g1,g2,g3,g4,g5,g6,g7,g8⟩:=h4
   have hkk:k≤k':=fB g6
   left
   rw [← h8,mwM,iI]
   refine dS _ ?_
   have:=zaU9 (L:=l++newL k id (k' - k)) (ms':=ms') (ids:=ms.map (·.1)++(List.range (k' - k)).map (k+·)) (k+0) (dS _ (cV.2 ⟨0,eC.2 (by omega),rfl⟩))
   have e:rho (l++newL k id (k' - k)) (k+0)=id+0:=by
    simp only [rho,zV3,zag7]
    rw [zaC5 fun q hq=>by have:=g8 q hq; omega,bY (by omega)]
    simp
   rw [e] at this
   exact this
 unfold aopS at h ⊢
 cases hg:zG1 s.fr p.g with
 | none=>simp [hg] at h
 | some g =>
  simp only [hg] at h ⊢
  cases hp:p.po <;> simp only [hp] at h ⊢
  case pick=>exact .inr fun _ _=>h
  case call f=>exact .inr fun _ _=>h
  case callv=>exact .inr fun _ _=>h
  case callb=>exact .inr fun _ _=>h
  case callm f =>
   exact cm h
  case callvm =>
   split at h
   ·exact cm h
   ·exact h.elim
  all_goals
   split at h
   ·rename_i ef hev
    obtain ⟨h1,h2,h3,h4⟩:=h
    rcases zcY1 hev with g1|g1
    ·exact .inl (h4 ▸ g1)
    ·exact .inr fun id' _=>by rw [g1 id']; exact ⟨h1,h2,h3,h4⟩
   ·rename_i hev
    exact .inr fun id' _=>by rw [← zcR1 (id:=id) h.2.1,hev]; exact h
end
end Ab
end Go.Proofs.YtenebhlnfjcffaaGreatDoor
