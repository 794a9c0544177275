import Derived.Test.YtenebhlnfjcffaaGreatDoorAb16
import Derived.Orders
namespace Go.Proofs.YtenebhlnfjcffaaGreatDoor
namespace Ab
set_option linter.unusedSimpArgs false
set_option linter.unusedVariables false
def zM2:Nat->List A->List (Nat×A)
 |_,[]=>[]
 |n,a::as=>(n,a)::zM2 (n+1) as
inductive RX where
 |t (n:Nat)
 |c (n sz:Nat) (ag:Bool)
def zaQ6(P:Program):List ResultVar->List RX->Bool
 |[],[]=>true
 | .tmp t::rs,.t n::ns=>t==n&&zaQ6 P rs ns
 | .cell t T::rs,.c n sz ag::ns=>t==n&&tyOk P T ag sz&&zaQ6 P rs ns
 |_,_=>false
def chkF(P:Program)(f:FuncId)(pc:PC)(N:Nat)(rs:List RX)(np:Nat):Bool:=
 match P.funcs[f]? with
 |some fn=>(match fn.body with
  |some c=>chkC P N c pc
  |none=>false)&&fn.ntmps==N&&zaQ6 P fn.results.toList rs&&Nat.ble np N
 |none=>false
def resA(st:St):RX->A
 | .t n=>st.slot n
 | .c n sz ag=>match ev st.nx st.m (.load sz ag) [st.slot n]with
  |some ef=>ef.v
  |none=>.any
def resG(st:St):RX->Prop
 | .t _=>True
 | .c n sz ag=>match ev st.nx st.m (.load sz ag) [st.slot n]with
  |some ef=>ef.obl
  |none=>False
def allG(st:St):List RX->Prop
 |[]=>True
 |x::xs=>(resG st x/\zaB1 st.m (resA st x))/\allG st xs
def zbh1(st:St):List RX->List A
 |[]=>[]
 |x::xs=>frz st.m (resA st x)::zbh1 st xs
def zcj5:List A->A
 |[x]=>x
 |xs=>.tup xs
def zcj6(st:St)(rs:List RX)(r:A):Prop:=allG st rs/\zcj5 (zbh1 st rs)=r
def resL(st:St):List RX->List A
 |[]=>[]
 |x::xs=>resA st x::resL st xs
def zbK1(st:St):List RX->Prop
 |[]=>True
 |x::xs=>resG st x/\zbK1 st xs
def zbT9:List A->Bool
 |[]=>true
 |x::xs=>x.isVV&&zbT9 xs
def zbe3(k:Nat)(st:St)(rs:List RX)(rl:List A)(ms':List (Nat×Row))(k':Nat):Prop:=
 zbK1 st rs/\zbT9 rl=true/\∃l,Le l ⟨zM2 0 (resL st rs),st.mem,st.nx⟩ ⟨zM2 0 rl,ms',k'⟩/\zaB3 k l k'=true
def zcx8(k:Nat)(rs:List RX)(rl:List A)(ms':List (Nat×Row))(k':Nat):Exit->St->Prop
 | .ret,st=>zbe3 k st rs rl ms' k'
 | .normal,st=>zbe3 k st rs rl ms' k'
 |_,_=>False
def zcj7:List (Nat×Row)->Bool
 |[]=>true
 |q::r=>!q.2.ro&&zcj7 r
def Post(rs:List RX)(r:A):Exit->St->Prop
 | .ret,st=>zcj6 st rs r
 | .normal,st=>zcj6 st rs r
 |_,_=>False
section
variable {C:Cx}
theorem zaK2:∀(as:List A) (n t:Nat),look (zM2 n as) t=if n<=t then as[t-n]? else none
 |[],n,t=>by simp[zM2,look]
 |a::as,n,t=>by
  simp only[zM2,look]
  by_cases h:n=t
  .subst h;simp
  .rw[bV h,zaK2 as (n+1) t]
   by_cases h2:n+1<=t
   .rw[bX h2,bX (by omega)];rw[show t-n=(t-(n+1))+1 by omega];simp
   .rw[bV h2]
    by_cases h3:n<=t
    .omega
    .rw[bV h3]
def zbE5:List Value->Value
 |[v]=>v
 |us=>.tuple us.toArray
theorem zbl3{E:Env}{st:St}{a:Act}{w:World}{W:Nat->Prop}{μ:Nat->Loc}(hs:SatW E st.toS a w W μ){F:ResultVar->Sem Value}(hF:∀t,F (.tmp t)=pure (a.tmps.getD t undef))
  (hC:∀t T,F (.cell t T)=do loadVar T (<-asAddr (a.tmps.getD t undef))):∀(l:List ResultVar) (ns:List RX),zaQ6 C.P l ns=true->zbK1 st ns->
  ∃us,(l.mapM F).run C.P w=.ok us w/\us.length=ns.length/\∀(i:Nat) (u:Value) (x:RX),us[i]? =some u->ns[i]? =some x->Rep w W μ u (resA st x)
 |[],[],_,_=>⟨[],rfl,rfl,λ i u x h=>by simp at h⟩
 |[],_::_,h,_=>by simp[zaQ6]at h
 |x::l,[],h,_=>by cases x<;>simp[zaQ6]at h
 | .cell _ _::_,.t _::_,h,_=>by simp[zaQ6]at h
 | .tmp _::_,.c _ _ _::_,h,_=>by simp[zaQ6]at h
 | .tmp t::l,.t n::ns,h,hg=>by
  simp only[zaQ6,bU,dK]at h;obtain⟨rfl,h2⟩:=h;obtain⟨us,e1,e2,e3⟩:=zbl3 hs hF hC l ns h2 hg.2;refine⟨a.tmps.getD t undef::us,?_,by simp[e2],λ i u x hu hx=>?_⟩
  .simp only[lE,Sem.run_bind,hF,Sem.run_pure,Result.andThen_ok,e1]
  .cases i with
   |zero=>rw[List.getElem?_cons_zero]at hu hx;cases hu;cases hx;exact hs.fr t
   |succ i=>exact e3 i u x (by simpa using hu) (by simpa using hx)
 | .cell t T::l,.c n sz ag::ns,h,hg=>by
  simp only[zaQ6,bU,dK]at h;obtain⟨⟨rfl,hT⟩,h2⟩:=h;obtain⟨us,e1,e2,e3⟩:=zbl3 hs hF hC l ns h2 hg.2;have hg1:=hg.1;have hl:∃u,(F (.cell t T)).run C.P w=.ok u w/\Rep w W μ u (resA st (.c t sz ag)):=by
   simp only[resG]at hg1;split at hg1
   .rename_i ef he;obtain⟨b,q,u,h1,h3,h4⟩:=zcw6 (P:=C.P) hs hT (hs.fr t) he hg1;refine⟨u,?_,?_⟩
    .rw[hC];simp only[h1,Sem.run_bind];show(((loadVar T ⟨b,q,none⟩).run C.P w))=_;exact h3
    .simp only[resA,he];exact h4
   .exact hg1.elim
  obtain⟨u0,h5,h6⟩:=hl;refine⟨u0::us,?_,by simp[e2],λ i u x hu hx=>?_⟩
  .simp only[lE,Sem.run_bind,h5,Sem.run_pure,Result.andThen_ok,e1]
  .cases i with
   |zero=>simp at hu hx;subst hu;subst hx;exact h6
   |succ i=>exact e3 i u x (by simpa using hu) (by simpa using hx)
theorem zbK2(fn:Func){E:Env}{st:St}{a:Act}{w:World}{W:Nat->Prop}{μ:Nat->Loc}(hs:SatW E st.toS a w W μ){rs:List RX}(h:zaQ6 C.P fn.results.toList rs=true)(hg:zbK1 st rs):
  ∃us,(results fn a.tmps).run C.P w=.ok (zbE5 us) w/\us.length=rs.length/\∀(i:Nat) (u:Value) (x:RX),us[i]? =some u->rs[i]? =some x->Rep w W μ u (resA st x):=by
 have e:∀F:ResultVar->Sem Value,fn.results.mapM F=Functor.map List.toArray (fn.results.toList.mapM F):=λ F=>by rw[<-List.mapM_toArray,Array.toArray_toList]
 let F:ResultVar->Sem Value:=λ
  | .tmp t=>pure (a.tmps.getD t undef)
  | .cell x t=>do loadVar t (<-asAddr (a.tmps.getD x undef))
 have eF:results fn a.tmps=(do
   let vs<-fn.results.mapM F
   pure (if h:vs.size=1 then vs[0]else .tuple vs)):=by
  unfold results;congr 1
 obtain⟨us,h1,h2,h3⟩:=zbl3 (C:=C) hs (F:=F) (λ t=>rfl) (λ t T=>rfl) _ _ h hg;refine⟨us,?_,h2,h3⟩;rw[eF];simp only[Sem.run_bind];rw[e F,Sem.run_map,h1];simp only[Result.andThen_ok,Sem.run_pure,iT]
 match us with
 |[t]=>simp[zbE5]
 |[]=>simp[zbE5]
 |_::_::_=>simp[zbE5]
theorem zcx9{st:St}:∀{rs:List RX},allG st rs->zbK1 st rs
 |[],_=>trivial
 |_::_,h=>⟨h.1.1,zcx9 h.2⟩
theorem zcS6{st:St}:∀{rs:List RX},allG st rs->∀(i:Nat) (x:RX),rs[i]? =some x->zaB1 st.m (resA st x)
 |y::ys,h,i,x,hx=>by
  cases i with
  |zero=>simp at hx;subst hx;exact h.1.2
  |succ i=>exact zcS6 h.2 i x (by simpa using hx)
 |[],_,i,x,hx=>by simp at hx
theorem zcy0{st:St}:∀(rs:List RX) (i:Nat),(zbh1 st rs)[i]? =(rs[i]?).map λ x=>frz st.m (resA st x)
 |[],i=>by simp[zbh1]
 |y::ys,i=>by
  cases i with
  |zero=>simp[zbh1]
  |succ i=>simpa [zbh1]using zcy0 ys i
theorem zbE6{f:FuncId}{pc:PC}{N np:Nat}{rs:List RX}(hchk:chkF C.P f pc N rs np=true){as:List A}(hnp:as.length=np){r:A}
  (h:∀E:Env,E.G=C.G->E.N=N->E.k0=0->AW C E pc (Post rs r) ⟨zM2 0 as,[],0⟩):PFn C f as r:=by
 intro w W vs hgl hlt hlen hargs;unfold chkF at hchk;split at hchk
 .rename_i fn hfn;simp only[bU,dK]at hchk;obtain⟨⟨⟨hc,hN⟩,hres⟩,hle⟩:=hchk;have hle:np<=N:=fQ hle;split at hc
  .rename_i c hb
   let E:Env:=⟨w,W,λ _=>False,N,C.G,0,zaB0⟩
   have hS:SatW E (⟨zM2 0 as,[],0⟩:St).toS {tmps:=vs.toArray++Array.replicate (fn.ntmps-vs.toArray.size) undef,defers:=[]} w W zaB0:={
    defers:=rfl
    size:=by simp;show vs.length+(fn.ntmps-vs.length)=N;omega
    fr:=λ t=>by
     show Rep w W zaB0 _ ((⟨zM2 0 as,[],0⟩:St).slot t);simp only[St.slot,zaK2,fD,cC,Nat.sub_zero];cases ha:as[t]? with
     |none=>trivial
     |some b=>
      have ht:t<vs.length:=by rw[hlen];exact(cE.1 ha).1
      have hv:vs[t]? =some vs[t]:=by simp[ht]
      have:(vs.toArray++Array.replicate (fn.ntmps-vs.toArray.size) undef).getD t undef=vs[t]:=by rw[gD,hZ (by simpa using ht)];simp[ht]
      rw[this];exact zp1 (hargs t _ b hv ha)
    mem:=λ x=>by show zau9 w W zaB0 x ((⟨zM2 0 as,[],0⟩:St).m x);simp[St.m,zau9,zaB0]
    inj:=λ x y k k' hx=>by cases hx
    keeps:=Keeps.refl _ w
    winlt:=hlt
    wsub:=λ b h=>.inl h
    wsup:=λ b h=>.inl h
    wlt:=hlt
    live:=λ x k hx=>by cases hx
    glob:=hgl
    fix:=λ x hx=>absurd hx (lD x)}
   have hwp:=h E rfl rfl rfl c hc _ w ⟨W,zaB0,hS⟩;refine calls_of_wp hfn hb (wp_mono hwp λ e a' w' ⟨st',hq,W',μ',hs'⟩=>?_);have fin:zcj6 st' rs r->a'.defers=[]/\∃v,(results fn a'.tmps).run C.P w'=.ok v w'/\∃u,Ending.returned v=.returned u/\Keeps (λ _=>False) w w'/\Rep w' W zaB0 u r:=λ hro=>by
    obtain⟨hg,hr⟩:=hro;obtain⟨us,hrun,hul,hus⟩:=zbK2 fn hs' hres (zcx9 hg);refine⟨hs'.defers,_,hrun,_,rfl,hs'.keeps,?_⟩;have toW:∀{v:Value} {b:A},RepV w' (zaK1 W' μ' (zaB2 b)) zaB0 v (frz st'.m b)->RepV w' W zaB0 v (frz st'.m b):=λ{v b} hv=>
     hv.goes (Keeps.refl (λ _=>False) w') (λ _ _ _ h=>h) (λ q _ h1 h2=>h1 ⟨(hs'.wsup q h2).elim id (λ h=>h.elim),λ⟨x,k,_,hk,hkb⟩=>by
      rcases hs'.live x k hk with h3|h3
      .exact h3
      .have:=hlt q h2;have h4:w.heap.size<=k.b:=h3;omega⟩) (Old.refl _)
    have one:∀(i:Nat) (u:Value) (x:RX),us[i]? =some u->rs[i]? =some x->RepV w' W zaB0 u (frz st'.m (resA st' x)):=λ i u x hu hx=>toW (zco9 (s:=st'.toS) hs' (hus i u x hu hx) (zcS6 hg i x hx) (λ y hy=>hy));subst hr
    match rs,us,hul,one with
    |[x],[u],_,one=>exact zp1 (one 0 u x rfl rfl)
    |[],[],_,one=>exact⟨[],by simp[zbE5],by simp[zbh1],by simp⟩
    |x1::x2::xs,u1::u2::us,hul,one=>
     refine⟨u1::u2::us,rfl,?_,λ i u b hu hb=>?_⟩
     .simp only[zbh1,List.length_cons]at hul⊢;have:∀l,(zbh1 st' l).length=l.length:=λ l=>by induction l with
       |nil=>rfl
       |cons a l ih=>simp[zbh1,ih]
      rw[this];omega
     .have hb':(zbh1 st' (x1::x2::xs))[i]? =some b:=hb;rw[zcy0,cH]at hb';obtain⟨x,hx,rfl⟩:=hb';exact one i u x hu hx
   cases e with
   |normal=>exact fin hq
   |ret=>exact fin hq
   |_=>exact hq.elim
  .cases hc
 .cases hchk
theorem zcy1:∀{ms:List (Nat×Row)},zcj7 ms=true->∀x r,look ms x=some r->r.ro=false
 |q::ms,h,x,r,hr=>by
  simp only[zcj7,bU,cP]at h;simp only[look]at hr;split at hr
  .cases hr;exact h.1
  .exact zcy1 h.2 x r hr
theorem zcy2:∀{l:List A},zbT9 l=true->∀x∈l,x.isVV=true
 |y::ys,h,x,hx=>by
  simp only[zbT9,bU]at h;rcases cF.1 hx with rfl|hx
  .exact h.1
  .exact zcy2 h.2 x hx
theorem zcS7{st:St}:∀(rs:List RX) (i:Nat),(resL st rs)[i]? =(rs[i]?).map λ x=>resA st x
 |[],i=>by simp[resL]
 |y::ys,i=>by
  cases i with
  |zero=>simp[resL]
  |succ i=>simpa [resL]using zcS7 ys i
theorem zcj8{f:FuncId}{pc:PC}{N np:Nat}{rs:List RX}(hchk:chkF C.P f pc N rs np=true){as:List A}(hnp:as.length=np){ms ms':List (Nat×Row)}{k k':Nat}{rl:List A}(hms:zcj7 ms=true)(hall:zbJ8 ms k=true)
  (hrl:rl.length=rs.length) (h:∀E:Env,E.G=C.G->E.N=N->E.k0=k->AW C E pc (zcx8 k rs rl ms' k') ⟨zM2 0 as,ms,k⟩):MFn C f as ms k (zcj5 rl) ms' k':=by
 intro w W μ vs hgl hlt hlen hargs hmem hinj;unfold chkF at hchk;split at hchk
 .rename_i fn hfn;simp only[bU,dK]at hchk;obtain⟨⟨⟨hc,hN⟩,hres⟩,hle⟩:=hchk;have hle:np<=N:=fQ hle;have hrow:∀x r,(⟨[],ms,k⟩:St).m x=.row r->r.ro=false:=λ x r hx=>by
   simp only[St.m]at hx;split at hx
   .cases hx
   .cases hl:look ms x with
    |none=>rw[hl]at hx;cases hx
    |some r'=>rw[hl]at hx;cases hx;exact zcy1 hms x r hl
  have hfr:∀x,k<=x->μ x=.fresh:=λ x hx=>by have:=hmem x;rw[show(⟨[],ms,k⟩:St).m x=.fresh by simp only[St.m];rw[bX hx]]at this;exact this
  have hnf:∀x,x<k->μ x≠.fresh:=λ x hx hf=>by
   obtain⟨r,hr⟩:=zbv5 hall x hx;have:=hmem x;rw[show(⟨[],ms,k⟩:St).m x=.row r by simp only[St.m,hr];rw[bV (by omega)]]at this;rcases this with⟨h1,_⟩|⟨kb,h1,_⟩
   .rw[hf]at h1;cases h1
   .rw[hf]at h1;cases h1
  have hown:∀x kb,μ x=.at_ kb->W kb.b:=λ x kb hx=>by obtain⟨r,h1,h2⟩:=hmem.at_ hx;exact h2.wr.1 (hrow x r h1)
  split at hc
  .rename_i c hb
   let E:Env:=⟨w,W,λ b=>W b/\∃y kb,μ y=.at_ kb/\kb.b=b,N,C.G,k,μ⟩
   have hS:SatW E (⟨zM2 0 as,ms,k⟩:St).toS {tmps:=vs.toArray++Array.replicate (fn.ntmps-vs.toArray.size) undef,defers:=[]} w W μ:={
    defers:=rfl
    size:=by simp;show vs.length+(fn.ntmps-vs.length)=N;omega
    fr:=λ t=>by
     show Rep w W μ _ ((⟨zM2 0 as,ms,k⟩:St).slot t);simp only[St.slot,zaK2,fD,cC,Nat.sub_zero];cases ha:as[t]? with
     |none=>trivial
     |some b=>
      have ht:t<vs.length:=by rw[hlen];exact(cE.1 ha).1
      have hv:vs[t]? =some vs[t]:=by simp[ht]
      have:(vs.toArray++Array.replicate (fn.ntmps-vs.toArray.size) undef).getD t undef=vs[t]:=by rw[gD,hZ (by simpa using ht)];simp[ht]
      rw[this];exact zp1 (hargs t _ b hv ha)
    mem:=hmem
    inj:=hinj
    keeps:=Keeps.refl _ w
    winlt:=hlt
    wsub:=λ b h=>.inl h
    wsup:=λ b h=>.inl h
    wlt:=hlt
    live:=λ x kb hx=>.inl ⟨hown x kb hx,x,kb,hx,rfl⟩
    glob:=hgl
    fix:=λ x hx=>.inl ⟨rfl,hnf x hx⟩}
   have hwp:=h E rfl rfl rfl c hc _ w ⟨W,μ,hS⟩;refine calls_of_wp hfn hb (wp_mono hwp λ e a' w' ⟨st',hq,W1,μ1,hs'⟩=>?_);have fin:zbe3 k st' rs rl ms' k'->a'.defers=[]/\∃v,(results fn a'.tmps).run C.P w'=.ok v w'/\∃u W' μ',Ending.returned v=.returned u/\Step (⟨[],ms,k⟩:St).m (⟨[],ms',k'⟩:St).m w w' W W' μ μ'/\Rep w' W' μ' u (zcj5 rl):=λ⟨hg,hvv,l,hle',hfx⟩=>by
    obtain⟨us,hrun,hul,hus⟩:=zbK2 fn hs' hres hg
    let E':Env:={E with N:=us.length}
    have hs1:SatW E' (⟨zM2 0 (resL st' rs),st'.mem,st'.nx⟩:St).toS {tmps:=us.toArray,defers:=[]} w' W1 μ1:={
     defers:=rfl
     size:=by simp;rfl
     fr:=λ t=>by
      show Rep w' W1 μ1 _ ((⟨zM2 0 (resL st' rs),st'.mem,st'.nx⟩:St).slot t);simp only[St.slot,zaK2,fD,cC,Nat.sub_zero,zcS7];cases hx:rs[t]? with
      |none=>trivial
      |some x=>
       have ht:t<us.length:=by rw[hul];exact(cE.1 hx).1
       have:us.toArray.getD t undef=us[t]:=by simp[Array.getD,ht]
       show Rep w' W1 μ1 (us.toArray.getD t undef) (resA st' x);rw[this];exact hus t _ x (by simp[ht]) hx
     mem:=hs'.mem
     inj:=hs'.inj
     keeps:=hs'.keeps
     winlt:=hs'.winlt
     wsub:=hs'.wsub
     wsup:=hs'.wsup
     wlt:=hs'.wlt
     live:=hs'.live
     glob:=hs'.glob
     fix:=hs'.fix}
    obtain⟨W2,μ2,hs2⟩:=St.le_of (E:=E') l hle' hfx _ w' ⟨W1,μ1,hs1⟩;have hst:Step (⟨[],ms,k⟩:St).m (⟨[],ms',k'⟩:St).m w w' W W2 μ μ2:={
     keeps:=hs2.keeps
     hW:=λ b hb h=>by
      rcases hs2.wsub b h with h1|h1
      .exact h1
      .have h2:w.heap.size<=b:=h1;omega
     wsup:=λ b hb=>by
      rcases hs2.wsup b hb with h1|h1
      .exact .inl h1
      .exact .inr h1.2
     wlt0:=hlt
     wlt:=hs2.wlt
     old:=λ x hx=>by
      by_cases hxk:x<k
      .rcases hs2.fix x hxk with h1|h1
       .exact .inl h1.1
       .exact .inr h1
      .exact absurd (hfr x (by omega)) hx
     mem:=hs2.mem
     inj:=hs2.inj
     live:=λ x kb hx=>by
      rcases hs2.live x kb hx with h1|h1
      .exact .inl h1.2
      .exact .inr h1}
    have one:∀(i:Nat) (u:Value) (b:A),us[i]? =some u->rl[i]? =some b->RepV w' W2 μ2 u b:=λ i u b hu hb=>by
     have h1:=hs2.fr i;have hi:i<us.length:=(cE.1 hu).1;have h2:(⟨zM2 0 rl,ms',k'⟩:St).slot i=b:=by simp only[St.slot,zaK2,fD,cC,Nat.sub_zero,hb,Option.getD_some]
     have h3:us.toArray.getD i undef=u:=by rw[bZ hi]at hu;cases hu;simp[Array.getD,hi]
     have h4:Rep w' W2 μ2 (us.toArray.getD i undef) ((⟨zM2 0 rl,ms',k'⟩:St).slot i):=h1;rw[h2,h3]at h4;have hv:=zcy2 hvv b (cQ hb);exact h4.toVV hv
    refine⟨hs'.defers,_,hrun,_,W2,μ2,rfl,hst,?_⟩
    match rl,us,(hul.trans hrl.symm),one with
    |[b],[u],_,one=>exact zp1 (one 0 u b rfl rfl)
    |[],[],_,_=>exact⟨[],by simp[zbE5],by simp,by simp⟩
    |b1::b2::bs,u1::u2::us,hul,one=>exact⟨u1::u2::us,rfl,hul,one⟩
   cases e with
   |normal=>exact fin hq
   |ret=>exact fin hq
   |_=>exact hq.elim
  .cases hc
 .cases hchk
end
def zaZ7(C:Cx):List POp->St->(St->Prop)->Prop
 |[],st,K=>K st
 |p::ps,st,K=>aop C p st λ st'=>(st'.mem=st.mem/\st'.nx=st.nx)/\zaZ7 C ps st' K
section
variable {C:Cx} {E:Env}
theorem zdB5{p:POp}{st:St}{K:St->Prop}(h:aop C p st K):∃v mw,K (st.app p.dst v mw)/\aop C p st (λ s=>s=st.app p.dst v mw):=by
 unfold aop at h⊢;cases hg:zL0 st p.g with
 |none=>simp[hg]at h
 |some g=>
  simp only[hg]at h⊢;cases hp:p.po<;>simp only[hp]at h|-
  case pick=>
   split at h
   .split at h
    .exact⟨_,_,h.2,h.1,rfl⟩
    .exact h.elim
   .exact h.elim
  case call f=>obtain⟨r,h1,h2,h3⟩:=h;exact⟨_,_,h3,r,h1,h2,rfl⟩
  case callv=>
   split at h
   .obtain⟨r,h1,h2,h3⟩:=h;exact⟨_,_,h3,r,h1,h2,rfl⟩
   .exact h.elim
  case callb=>
   split at h
   .obtain⟨r,h1,h2,h3⟩:=h;exact⟨_,_,h3,r,h1,h2,rfl⟩
   .exact h.elim
  case callm f=>obtain⟨l,as,ms,k,r,ms',k',h1,h2,h3,h4,h5⟩:=h;exact⟨_,_,h5,l,as,ms,k,r,ms',k',h1,h2,h3,h4,rfl⟩
  case callvm=>
   split at h
   .obtain⟨l,as,ms,k,r,ms',k',h1,h2,h3,h4,h5⟩:=h;exact⟨_,_,h5,l,as,ms,k,r,ms',k',h1,h2,h3,h4,rfl⟩
   .exact h.elim
  all_goals
   split at h
   .exact⟨_,_,h.2.2,h.1,h.2.1,rfl⟩
   .exact⟨_,_,h.2.2,h.1,h.2.1,rfl⟩
theorem zaK3{x:PX}{f g:Nat->A}(G:zbJ5)(h:∀t∈rdsX [x],f t=g t):xv G f x=xv G g x:=by cases x<;>first|rfl|exact h _ (by simp[rdsX])
theorem zT8(x:PX)(xs:List PX)(t:Nat):t∈rdsX (x::xs)↔t∈rdsX [x]\/t∈rdsX xs:=by cases x<;>simp[rdsX]
theorem zbA8{st st2:St}:∀(xs:List PX),(∀t∈rdsX xs,st.slot t=st2.slot t)->zt2 C st xs=zt2 C st2 xs/\(zai2 C st xs↔zai2 C st2 xs)
 |[],_=>⟨rfl,lB⟩
 |x::xs,h=>by have h1:=zaK3 (x:=x) C.G (f:=st.slot) (g:=st2.slot) λ t ht=>h t ((zT8 x xs t).2 (.inl ht));obtain⟨h2,h3⟩:=zbA8 xs λ t ht=>h t ((zT8 x xs t).2 (.inr ht));simp only[zt2,zai2,h1,h2,h3,cS]
theorem zcS8{st st2:St}(hm:st2.mem=st.mem)(hn:st2.nx=st.nx):st2.m=st.m:=by funext x;simp only[St.m,hm,hn]
theorem zaV9{st:St}{d:Option Nat}{v u:A}{mw:List (Nat×MS)}{st2:St}(h:st.app d u mw=st.app d v [])(hm:st2.mem=st.mem)(hn:st2.nx=st.nx):st2.app d u mw=st2.app d v []:=by
 simp only[St.app,St.mk.injEq,putM,nxt]at h⊢;obtain⟨h1,h2,h3⟩:=h;refine⟨?_,by rw[hm];exact h2,by rw[hn];exact h3⟩;cases d with
 |none=>rfl
 |some d=>simp only[putF,gO,Prod.mk.injEq,fK,iW]at h1⊢;exact h1
theorem zcY4{p:POp}{st st2:St}{v:A}(hm:st2.mem=st.mem)(hn:st2.nx=st.nx)(hr:∀t∈p.rds,st.slot t=st2.slot t)
  (h:aop C p st (λ s=>s=st.app p.dst v [])):aop C p st2 (λ s=>s=st2.app p.dst v []):=by
 have hx:∀t∈rdsX p.xs,st.slot t=st2.slot t:=λ t ht=>hr t (cY _ ht);obtain⟨hv,hgd⟩:=zbA8 (C:=C) p.xs hx;have hgo:zL0 st2 p.g=zL0 st p.g:=by
  cases hg:p.g with
  |none=>rfl
  |some q=>simp only[zL0];rw[hr q.1 (dJ _ (by simp[hg]))]
 unfold aop at h⊢;rw[hgo,<-hv,hn,zcS8 hm hn,<-hgd];cases hg:zL0 st p.g with
 |none=>simp[hg]at h
 |some g=>
  simp only[hg]at h⊢;cases hp:p.po<;>simp only[hp]at h|-
  case pick=>
   split at h
   .rename_i c x y hxs;simp only[hxs]at hx⊢;have e1:=zaK3 (x:=c) C.G (f:=st.slot) (g:=st2.slot) λ t ht=>hx t ((zT8 _ _ _).2 (.inl ht));have e2:=zaK3 (x:=x) C.G (f:=st.slot) (g:=st2.slot) λ t ht=>hx t ((zT8 _ _ _).2 (.inr ((zT8 _ _ _).2 (.inl ht))));have e3:=zaK3 (x:=y) C.G (f:=st.slot) (g:=st2.slot) λ t ht=>hx t ((zT8 _ _ _).2 (.inr ((zT8 _ _ _).2 (.inr ht))));rw[<-e1,<-e2,<-e3];split at h
    .exact⟨h.1,zaV9 h.2 hm hn⟩
    .exact h.elim
   .exact h.elim
  case call f=>obtain⟨r,h1,h2,h3⟩:=h;exact⟨r,h1,h2,zaV9 h3 hm hn⟩
  case callv=>
   split at h
   .obtain⟨r,h1,h2,h3⟩:=h;exact⟨r,h1,h2,zaV9 h3 hm hn⟩
   .exact h.elim
  case callb=>
   split at h
   .obtain⟨r,h1,h2,h3⟩:=h;exact⟨r,h1,h2,zaV9 h3 hm hn⟩
   .exact h.elim
  case callm f=>obtain⟨l,as,ms,k,r,ms',k',h1,h2,h3,h4,h5⟩:=h;exact⟨l,as,ms,k,r,ms',k',h1,h2,h3,h4,zaV9 h5 hm hn⟩
  case callvm=>
   split at h
   .obtain⟨l,as,ms,k,r,ms',k',h1,h2,h3,h4,h5⟩:=h;exact⟨l,as,ms,k,r,ms',k',h1,h2,h3,h4,zaV9 h5 hm hn⟩
   .exact h.elim
  all_goals
   split at h
   .exact⟨h.1,h.2.1,zaV9 h.2.2 hm hn⟩
   .exact⟨h.1,h.2.1,zaV9 h.2.2 hm hn⟩
def SL(ps:List POp)(vs:Nat->A)(st:St)(f:Nat->Bool):Nat->St
 |0=>st
 |n+1=>match ps[n]? with
  |some p=>if f n then(SL ps vs st f n).app p.dst (vs n) []else SL ps vs st f n
  |none=>SL ps vs st f n
theorem zcp2(ps:List POp)(vs:Nat->A)(st:St)(f:Nat->Bool):∀n,(SL ps vs st f n).mem=st.mem/\(SL ps vs st f n).nx=st.nx
 |0=>⟨rfl,rfl⟩
 |n+1=>by
  have:=zcp2 ps vs st f n;simp only[SL];split
  .split
   .exact this
   .exact this
  .exact this
theorem zaK4(st:St)(d:Option Nat)(v:A)(t:Nat):(st.app d v []).slot t=if d=some t then v else st.slot t:=by
 rw[zcx3];cases d with
 |none=>simp[setF]
 |some d=>
  by_cases h:t=d
  .subst h;simp[setF]
  .simp[setF,h,lA h,show¬d=t fromλ e=>h e.symm]
theorem zdm3{ps:List POp}{vs:Nat->A}{st:St}{f:Nat->Bool}{j:Nat}{p:POp}(hp:ps[j]? =some p)(hf:f j=false)(f':Nat->Bool)(hj:f' j=true)(hf':∀i,i≠j->f' i=f i)
  (hc:∀i q,j<i->ps[i]? =some q->f i=true->conf p q=false):∀n t,(SL ps vs st f' n).slot t=if j<n/\p.dst=some t then vs j else(SL ps vs st f n).slot t
 |0,t=>by simp[SL]
 |n+1,t=>by
  have ih:=zdm3 (vs:=vs) (st:=st) hp hf f' hj hf' hc n
  by_cases hn:n=j
  .subst hn;simp only[SL,hp,hj,hf,cC,bT,cB,zaK4]
   by_cases hd:p.dst=some t
   .simp[hd]
   .simp only[hd,cB,and_false];have:=ih t
    simpa [hd]using this
  .have hlt:j<n+1↔j<n:=by omega
   simp only[SL,hf' n hn,hlt];cases hq:ps[n]? with
   |none=>simpa using ih t
   |some q=>
    simp only[];split
    .rename_i hfn;rw[zaK4,zaK4,ih t]
     by_cases hd:q.dst=some t
     .simp only[hd,cC]
      by_cases hjn:j<n
      .have:=hc n q hjn hq hfn;unfold conf at this
       by_cases hpd:p.dst=some t
       .simp[hpd,hd]at this
       .simp[hpd]
      .simp[hjn]
     .simp[hd]
    .exact ih t
theorem zcS9{ps:List POp}{vs:Nat->A}{st:St}{f:Nat->Bool}{j t:Nat}(h1:∀i q,i<j->ps[i]? =some q->q.dst=some t->f i=true)(h2:∀i q,j<=i->ps[i]? =some q->q.dst=some t->f i=false):
  ∀n,(SL ps vs st f n).slot t=(SL ps vs st (λ _=>true) (min n j)).slot t
 |0=>by simp[SL]
 |n+1=>by
  have ih:=zcS9 (vs:=vs) (st:=st) h1 h2 n
  by_cases hn:n<j
  .rw[show min (n+1) j=n+1 by omega];rw[show min n j=n by omega]at ih;simp only[SL];cases hq:ps[n]? with
   |none=>exact ih
   |some q=>
    simp only[cC]
    by_cases hd:q.dst=some t
    .rw[h1 n q hn hq hd];simp[zaK4,hd]
    .rw[zaK4,bV hd];split
     .rw[zaK4,bV hd];exact ih
     .exact ih
  .rw[show min (n+1) j=j by omega];rw[show min n j=j by omega]at ih;simp only[SL];cases hq:ps[n]? with
   |none=>exact ih
   |some q=>
    simp only[]
    by_cases hd:q.dst=some t
    .rw[h2 n q (by omega) hq hd];simpa using ih
    .split
     .rw[zaK4,bV hd];exact ih
     .exact ih
theorem zbU0{K:St->Prop}:∀(ps:List POp) (st:St),zaZ7 C ps st K->∃vs:Nat->A,K (SL ps vs st (λ _=>true) ps.length)/\
  ∀j p,ps[j]? =some p->aop C p (SL ps vs st (λ _=>true) j) (λ s=>s=(SL ps vs st (λ _=>true) j).app p.dst (vs j) [])
 |[],st,h=>⟨λ _=>.any,h,λ j p hp=>by simp at hp⟩
 |p::ps,st,h=>by
  obtain⟨v,mw,⟨⟨h1,h2⟩,h3⟩,h4⟩:=zdB5 h;have e:st.app p.dst v mw=st.app p.dst v []:=by simp only[St.app,St.mk.injEq]at h1 h2⊢;exact⟨trivial,h1,h2⟩
  rw[e]at h3 h4;obtain⟨vs,h5,h6⟩:=zbU0 ps _ h3;have sh:∀n,SL (p::ps) (λ i=>match i with|0=>v|i+1=>vs i) st (λ _=>true) (n+1)=SL ps vs (st.app p.dst v []) (λ _=>true) n:=by
   intro n;induction n with
   |zero=>simp[SL]
   |succ n ih=>rw[SL,ih];simp only[List.getElem?_cons_succ];rfl
  refine⟨λ i=>match i with|0=>v|i+1=>vs i,?_,λ j q hq=>?_⟩
  .rw[List.length_cons,sh];exact h5
  .cases j with
   |zero=>simp at hq;subst hq;exact h4
   |succ j=>rw[sh];exact h6 j q (by simpa using hq)
theorem zaZ8{D:Nat->Prop}:∀(es acc:List (List Nat)),(∀j e,es[j]? =some e->D (acc.length+j)->∀i∈e,D i)->(∀j,D j->∀i∈acc.getD j [],D i)->
  ∀j,D j->∀i∈(ancs acc es).getD j [],D i
 |[],acc,_,h=>h
 |e::es,acc,he,h=>by
  unfold ancs;refine zaZ8 es _ (λ j e' hj hD=>he (j+1) e' (by simpa using hj) (by rw[cD]at hD;simp only[List.length_cons,List.length_nil]at hD;rwa [show acc.length+(j+1)=acc.length+(0+1)+j by omega])) ?_;intro j hD i hi
  by_cases hj:j<acc.length
  .refine h j hD i ?_;rw[bW,dR hj]at hi;rwa [bW]
  .by_cases hj2:j=acc.length
   .subst hj2;have he0:=he 0 e rfl (by simpa using hD);rw[bW,fC (dA _)]at hi;simp only[gG,List.getElem?_cons_zero,Option.getD_some,cR,gC]at hi;rcases hi with hi|⟨k,hk,hi⟩
    .exact he0 i hi
    .exact h k (he0 k hk) i hi
   .rw[bW,iC (by simp;omega)]at hi;simp at hi
theorem zaW0{ps:List POp}{an:List (List Nat)}(h:zbE4 ps an=true){i j:Nat}{p q:POp}(hij:i<j)(hp:ps[i]? =some p)(hq:ps[j]? =some q)(hc:conf p q=true):i∈an.getD j []:=by
 unfold zbE4 at h;have h1:=fH.1 h j (eX.2 (cE.1 hq).1);have h2:=fH.1 h1 i (eX.2 hij);simp only[hp,hq,hc,cO,dM]at h2
 simpa using h2
theorem zbl4:∀(os:List Oper) (n:Nat),POp.sortOk os n=true->∀j o,os[j]? =some o->∀i∈zG8 o,i<n+j
 |[],_,_,j,o,h=>by simp at h
 |x::os,n,h,j,o,ho=>by
  simp only[POp.sortOk,bU]at h;cases j with
  |zero=>
   simp at ho;subst ho;intro i hi;simp only[zG8,cI,hI]at hi;obtain⟨e,⟨he,hb⟩,rfl⟩:=hi;have:=Array.all_eq_true_iff_forall_mem.1 h.1 e (by simpa using he)
   simpa [hb]using this
  |succ j=>intro i hi;have:=zbl4 os (n+1) h.2 j o (by simpa using ho) i hi;omega
def left(f:Nat->Bool):Nat->Nat
 |0=>0
 |n+1=>left f n+if f n then 0 else 1
theorem zbU1{f f':Nat->Bool}{j:Nat}(hj:f j=false)(hj':f' j=true)(h:∀i,i≠j->f' i=f i):∀n,left f n=left f' n+if j<n then 1 else 0
 |0=>rfl
 |n+1=>by
  have ih:=zbU1 hj hj' h n;simp only[left]
  by_cases hn:n=j
  .subst hn;simp[hj,hj'];simp at ih;omega
  .rw[h n hn,ih];have:j<n+1↔j<n:=by omega
   simp only[this];omega
theorem zbE7{f:Nat->Bool}:∀n,left f n=0->∀i,i<n->f i=true
 |n+1,h,i,hi=>by
  simp only[left]at h
  by_cases hn:i=n
  .subst hn;cases hf:f i with
   |true=>rfl
   |false=>simp[hf]at h
  .exact zbE7 n (by omega) i (by omega)
theorem zbe4{p q:POp}{t:Nat}(h:p.dst=some t)(hq:t∈q.rds\/q.dst=some t):conf p q=true/\(t∈q.rds->conf q p=true):=by
 unfold conf;rw[h];refine⟨?_,λ hr=>?_⟩
 .rcases hq with hq|hq<;>simp[hq]
 .simp[hr]
end
section
variable {C:Cx} {E:Env}
theorem Sat.drawn{s:S}{a:Act}{w:World}{n:Nat}(h:Sat E s a w)(hn:w.drawn<=n):Sat E s a {w with drawn:=n}:=by obtain⟨W,μ,hs⟩:=h;have hk:Keeps (λ _=>False) w {w with drawn:=n}:=⟨rfl,rfl,rfl,hn,dA _,λ _ _ _=>rfl⟩;exact⟨W,μ,hs.step (Step.quiet hk hs.mem hs.inj hs.wlt) (d:=none) (v:=undef) (av:=.any) (λ x hx=>by cases hx) trivial⟩
theorem ROk.at{ops:Array Oper}{N:Nat}:∀{ps:List POp} {n j:Nat} {o:Oper},ROk C N ops n ps->ops[n+j]? =some o->∃p,ps[j]? =some p/\POk C N ops o p
  |[],n,j,o,h,ho=>by have h:n=ops.size:=h;have:=(cV.1 ho).1;omega
  |p::ps,n,0,o,h,ho=>by obtain⟨⟨o',ho',hp⟩,_⟩:=h;rw[Nat.add_zero,ho']at ho;cases ho;exact⟨p,rfl,hp⟩
  |p::ps,n,j+1,o,h,ho=>by obtain⟨q,hq,hp⟩:=ROk.at (j:=j) h.2 (by rw[<-ho];congr 1;omega);exact⟨q,by simpa using hq,hp⟩
theorem zbU2{ps:List POp}{vs:Nat->A}{st:St}{f f':Nat->Bool}:∀n,(∀i,i<n->f i=f' i)->SL ps vs st f n=SL ps vs st f' n
  |0,_=>rfl
  |n+1,h=>by have ih:=zbU2 (ps:=ps) (vs:=vs) (st:=st) n λ i hi=>h i (by omega);simp only[SL,ih,h n (by omega)]
theorem zcY5{st st2:St}(hs:∀t,st2.slot t=st.slot t)(hm:st2.mem=st.mem)(hn:st2.nx=st.nx):st2.toS=st.toS:=by unfold St.toS;rw[zcS8 hm hn,show st2.slot=st.slot from funext hs]
theorem zcY6{os:Array Oper}{ps:List POp}{st:St}{vs:Nat->A}{K:St->Prop}{Q:Exit->Act->World->Prop}(hG:E.G=C.G)(hr:ROk C E.N os 0 ps)(hso:POp.sortOk os.toList 0=true)
    (hco:zbE4 ps (ancs [] (os.toList.map zG8))=true) (hK:K (SL ps vs st (λ _=>true) ps.length))
    (hv:∀j p,ps[j]? =some p->aop C p (SL ps vs st (λ _=>true) j) (λ s=>s=(SL ps vs st (λ _=>true) j).app p.dst (vs j) []))
    (hQ:∀st' a' w',K st'->Sat E st'.toS a' w'->Q .normal a' w'):
    ∀(fuel:Nat) (listed:Array Bool) (a:Act) (w:World),listed.size=os.size->Sat E (SL ps vs st (λ i=>listed.getD i false) ps.length).toS a w->
      (∀j o,os[j]? =some o->listed.getD j false=true->∀i∈zG8 o,listed.getD i false=true)->left (λ i=>listed.getD i false) os.size<=fuel->
      wpAny C.P .any os Q fuel listed a w:=by
  have hlen:ps.length=os.size:=by have:=hr.size;omega
  have hdone:∀(listed:Array Bool) (a:Act) (w:World),Sat E (SL ps vs st (λ i=>listed.getD i false) ps.length).toS a w->(∀i,i<os.size->listed.getD i false=true)->Q .normal a w:=by intro listed a w hs hall;refine hQ _ a w hK ?_;rw[zbU2 (f:=λ _=>true) (f':=λ i=>listed.getD i false) ps.length λ i hi=>(hall i (by omega)).symm];exact hs
  have hready:∀(listed:Array Bool),listed.size=os.size->Region.ready .any os listed=[]->∀i,i<os.size->listed.getD i false=true:=by
    intro listed hsz hr0 i;induction i using Nat.strongRecOn with
    |_ i ih=>
      intro hi;cases hl:listed.getD i false with
      |true=>rfl
      |false=>
        have:i∈Region.ready .any os listed:=by
          rw[mem_ready];refine⟨?_,os[i],by simp[hi],λ e he hb=>?_⟩
          · have h1:i<listed.size:=by omega
            simp only[Array.getD,h1,kN]at hl⊢;exact hl
          · have h2:e.on∈zG8 os[i]:=by
              simp only[zG8,cI,hI];exact⟨e,⟨by simpa using he,hb⟩,rfl⟩
            have h3:=zbl4 os.toList 0 hso i os[i] (by simp[hi]) e.on h2;exact ih e.on (by omega) (by omega)
        rw[hr0]at this;cases this
  intro fuel;induction fuel with
  |zero=>
    intro listed a w hsz hs hcl hle;have hall:=zbE7 (f:=λ i=>listed.getD i false) os.size (by omega);refine⟨?_,hdone listed a w hs hall⟩;cases hrd:Region.ready .any os listed with
    |nil=>rfl
    |cons i rs=>
      have:i∈Region.ready .any os listed:=by rw[hrd];simp
      rw[mem_ready]at this;obtain⟨h1,o,ho,_⟩:=this;have hi:=(cV.1 ho).1;have:=hall i hi;have h2:i<listed.size:=by omega
      simp only[Array.getD,h2,kN]at h1 this;rw[this]at h1;cases h1
  |succ fuel ih=>
    intro listed a w hsz hs hcl hle;refine⟨λ hr0=>hdone listed a w hs (hready listed hsz hr0),λ i hi=>?_⟩;rw[mem_ready]at hi;obtain⟨hl,o,ho,hed⟩:=hi;have hlt:=(cV.1 ho).1;have hlt2:i<listed.size:=by omega
    have hl:listed.getD i false=false:=by simp only[Array.getD,hlt2,kN]at hl⊢;exact hl
    obtain⟨p,hp,hpo⟩:=hr.at (j:=i) (by rw[dV];exact ho);have hedge:∀k∈zG8 o,listed.getD k false=true:=by intro k hk;simp only[zG8,cI,hI]at hk;obtain⟨e,⟨he,hb⟩,rfl⟩:=hk;exact hed e (by simpa using he) hb
    have hset:(listed.setIfInBounds i true).getD i false=true:=by simp[Array.getD,hlt2]
    have hsetne:∀k,k≠i->(listed.setIfInBounds i true).getD k false=listed.getD k false:=λ k hk=>getD_set_ne false (lA hk);have hcl':∀j o,os[j]? =some o->(listed.setIfInBounds i true).getD j false=true->∀k∈zG8 o,(listed.setIfInBounds i true).getD k false=true:=by
      intro j o' ho' hj k hk
      by_cases hji:j=i
      · subst hji
        rw[ho]at ho';cases ho';exact getD_set_true (hedge k hk)
      · rw[hsetne j hji]at hj
        exact getD_set_true (hcl j o' ho' hj k hk)
    have hanc:∀j,(listed.setIfInBounds i true).getD j false=true->∀k∈(ancs [] (os.toList.map zG8)).getD j [],(listed.setIfInBounds i true).getD k false=true:=
      zaZ8 (D:=λ j=>(listed.setIfInBounds i true).getD j false=true) _ [] (λ j e he hD=>by
        simp only[cN,cH]at he;obtain⟨o',ho',rfl⟩:=he;exact hcl' j o' (by simpa using ho') (by simpa using hD)) (λ j _ k hk=>by simp at hk)
    have hanc0:∀j,listed.getD j false=true->∀k∈(ancs [] (os.toList.map zG8)).getD j [],listed.getD k false=true:=
      zaZ8 (D:=λ j=>listed.getD j false=true) _ [] (λ j e he hD=>by
        simp only[cN,cH]at he;obtain⟨o',ho',rfl⟩:=he;exact hcl j o' (by simpa using ho') (by simpa using hD)) (λ j _ k hk=>by simp at hk)
    have hbef:∀k q,k<i->ps[k]? =some q->conf q p=true->listed.getD k false=true:=by intro k q hk hq hc;have:=hanc i hset k (zaW0 hco hk hq hp hc);rwa [hsetne k (by omega)]at this
    have haft:∀k q,i<k->ps[k]? =some q->conf p q=true->listed.getD k false=false:=by
      intro k q hk hq hc;cases hlk:listed.getD k false with
      |false=>rfl
      |true=>have:=hanc0 k hlk i (zaW0 hco hk hp hq hc);rw[hl]at this;cases this
    have hmem:=zcp2 ps vs st (λ k=>listed.getD k false) ps.length;have hmem2:=zcp2 ps vs st (λ _=>true) i;have hil:i<ps.length:=(cE.1 hp).1;have haop:aop C p (SL ps vs st (λ k=>listed.getD k false) ps.length) (λ s=>s=(SL ps vs st (λ k=>listed.getD k false) ps.length).app p.dst (vs i) []):=by
      refine zcY4 (st:=SL ps vs st (λ _=>true) i) (by rw[hmem.1,hmem2.1]) (by rw[hmem.2,hmem2.2]) (λ t ht=>?_) (hv i p hp);rw[zcS9 (j:=i) (t:=t) (λ k q hk hq hd=>hbef k q hk hq (zbe4 hd (.inl ht)).1) (λ k q hk hq hd=>?_) ps.length,iL (iY hil)]
      by_cases hki:k=i
      .subst hki;exact hl
      .exact haft k q (by omega) hq ((zbe4 hd (.inl ht)).2 ht)
    obtain ⟨W,μ,hs⟩:=hs;have key:=zcj2 hs hG hpo haop (Q:=Q) (k:=wpAny C.P .any os Q fuel (listed.setIfInBounds i true)) (λ st' a' w' hst hs'=>by
      subst hst;refine ih _ a' w' (by simpa using hsz) ?_ hcl' ?_
      · have e:(SL ps vs st (λ k=>(listed.setIfInBounds i true).getD k false) ps.length).toS=((SL ps vs st (λ k=>listed.getD k false) ps.length).app p.dst (vs i) []).toS:=by
          have hm3:=zcp2 ps vs st (λ k=>(listed.setIfInBounds i true).getD k false) ps.length;refine zcY5 (λ t=>?_) ?_ ?_
          · rw[zdm3 (f:=λ k=>listed.getD k false) hp hl (λ k=>(listed.setIfInBounds i true).getD k false) hset hsetne (λ k q hk hq hfk=>?_),zaK4]
            .simp only[hil,fK]
            · cases hc:conf p q with
              |false=>rfl
              |true=>have:=haft k q hk hq hc;exact absurd (this.symm.trans hfk) (by simp)
          .rw[hm3.1];exact hmem.1.symm
          .rw[hm3.2];exact hmem.2.symm
        rw[e];exact hs'
      · have:=zbU1 (f:=λ k=>listed.getD k false) (f':=λ k=>(listed.setIfInBounds i true).getD k false) (j:=i) hl hset hsetne os.size
        rw[bX hlt]at this;omega)
    simp only[wpOp,ho];split at key
    .rename_i hw;rw[bX hw];exact .inl key
    .rename_i hw;rw[bV hw];exact key
theorem zdB6{Q:Exit->St->Prop}{st:St}{dr:List Nat}{ops:List POp}(hm:C.P.follows .mixedOrders=true)(hG:E.G=C.G)(h:zaZ7 C ops st λ s=>Q .normal (s.drop dr)):AW C E (.regd dr ops) Q st:=λ code hc a w hs=>by
  cases code with
  |region id os d=>
   cases d with
   |false=>simp[chkC]at hc
   |true=>
    simp only[chkC,bU,zcS3]at hc;obtain⟨hc1,hc2,hc3⟩:=hc;have hr:ROk C E.N os 0 ops:=by obtain⟨P,G⟩:=C;exact zbq1 os.toList ops 0 hc1 (by simp) (by simp)
    obtain⟨vs,hK,hv⟩:=zbU0 ops st h;refine wp_region_any hm ?_;refine zcY6 (st:=st) (vs:=vs) hG hr hc2 hc3 hK hv (λ st' a' w' hQ hs'=>⟨_,hQ,hs'.drop⟩) os.size _ a _ (by simp) ?_ (λ j o ho hj=>?_) ?_
    · have e:SL ops vs st (λ i=>(Array.replicate os.size false).getD i false) ops.length=SL ops vs st (λ _=>false) ops.length:=zbU2 _ λ i _=>by simp[Array.getD]
      have e2:∀n,SL ops vs st (λ _=>false) n=st:=λ n=>by
        induction n with
        |zero=>rfl
        |succ n ih=>simp only[SL,ih,bT,cB];split<;>rfl
      rw[e,e2];exact hs.drawn (kM _)
    .simp[Array.getD]at hj
    · have:∀n,left (λ i=>(Array.replicate os.size false).getD i false) n<=n:=λ n=>by
        induction n with
        |zero=>exact dA _
        |succ n ih=>simp only[left];split<;>omega
      exact this _
  |_=>simp[chkC]at hc
end
theorem zaq7{a b:ByteArray}:a.toList=b.toList↔a=b:=by
 constructor
 .intro h;rw[ByteArray.toList_eq,ByteArray.toList_eq]at h;cases a;cases b;simp only[ByteArray.mk.injEq];exact Array.toList_inj.1 (by simpa using h)
 .intro h;rw[h]
def eI(k:IntKind)(x:Int):List A:=[A.int k x]
def eB(x:Bool):List A:=[A.bool x]
def eS(x:ByteArray):List A:=[A.str x]
def eL{α:Type}(f:α->List A)(l:List α):List A:=[A.sl (l.map f)]
@[go_sem] theorem zdU0(a:A):sub [a] 0 1=[a]:=rfl
@[go_sem] theorem zdU1(a b:A):upd [a] 0 [b]=[b]:=rfl
@[go_sem] theorem zdR6{α β:Type}(f:α->β)(l:List α)(n:Nat):(l.map f).take n=(l.take n).map f:=List.map_take.symm
@[go_sem] theorem zdR7{α β:Type}(f:α->β)(l:List α)(n:Nat):(l.map f).drop n=(l.drop n).map f:=List.map_drop.symm
@[go_sem] theorem zdK3{α β:Type}(f:α->β)(l m:List α):l.map f++m.map f=(l++m).map f:=fA.symm
attribute [go_sem] dO
@[go_sem] theorem zdx5(c:List A)(cs:List (List A)):zae7 (c::cs)↔zk9 c=true/\zae7 cs:=by
 constructor
 .intro h;refine⟨?_,λ d hd=>h d (.tail _ hd)⟩;have:=h c (.head _)
  clear h
  induction c with
  |nil=>rfl
  |cons a c ih=>simp only[zk9,bU];exact⟨this a (.head _),ih λ b hb=>this b (.tail _ hb)⟩
 .rintro⟨h1,h2⟩ d hd;rcases cF.1 hd with rfl|hd
  .exact zaq6 h1
  .exact h2 d hd
@[go_sem] theorem zdO7:maxLen=9223372036854775807:=rfl
@[go_sem] theorem eI.getD(k:IntKind)(l:List Int)(i:Nat):(l.map (eI k)).getD i [A.int k 0]=[A.int k (l.getD i 0)]:=by simp only[bW,cN];cases l[i]? <;>rfl
@[go_sem] theorem eI.snoc(k:IntKind)(l:List Int)(x:Int):l.map (eI k)++[[A.int k x]]=(l++[x]).map (eI k):=by simp[eI]
@[go_sem] theorem eI.allLen(k:IntKind)(l:List Int):zS2 1 (l.map (eI k)):=by intro c hc;obtain⟨x,_,rfl⟩:=cI.1 hc;rfl
@[go_sem] theorem eI.pureRows(k:IntKind)(l:List Int):zae7 (l.map (eI k)):=by intro c hc;obtain⟨x,_,rfl⟩:=cI.1 hc;intro a ha;simp[eI]at ha;subst ha;rfl
@[go_sem] theorem eI.pureEs(k:IntKind)(l:List Int):pureEs (l.map (eI k))=true:=by induction l with
 |nil=>rfl
 |cons a l ih=>simpa [Ab.pureEs,zk9,A.pure1,eI]using ih
@[go_sem] theorem eB.getD(l:List Bool)(i:Nat):(l.map eB).getD i [A.bool false]=[A.bool (l.getD i false)]:=by simp only[bW,cN];cases l[i]? <;>rfl
@[go_sem] theorem eB.snoc(l:List Bool)(x:Bool):l.map eB++[[A.bool x]]=(l++[x]).map eB:=by simp[eB]
@[go_sem] theorem eB.set(l:List Bool)(i:Nat)(x:Bool):(l.map eB).set i [A.bool x]=(l.set i x).map eB:=by simp[List.map_set,eB]
@[go_sem] theorem eB.rep(n:Nat)(x:Bool):List.replicate n [A.bool x]=(List.replicate n x).map eB:=by simp[eB]
@[go_sem] theorem eB.pureRows(l:List Bool):zae7 (l.map eB):=by intro c hc;obtain⟨x,_,rfl⟩:=cI.1 hc;intro a ha;simp[eB]at ha;subst ha;rfl
@[go_sem] theorem eB.pureEs(l:List Bool):pureEs (l.map eB)=true:=by induction l with
 |nil=>rfl
 |cons a l ih=>simpa [Ab.pureEs,zk9,A.pure1,eB]using ih
@[go_sem] theorem eS.getD(l:List ByteArray)(i:Nat):(l.map eS).getD i [A.str ⟨#[]⟩]=[A.str (l.getD i ⟨#[]⟩)]:=by simp only[bW,cN];cases l[i]? <;>rfl
@[go_sem] theorem eS.snoc(l:List ByteArray)(x:ByteArray):l.map eS++[[A.str x]]=(l++[x]).map eS:=by simp[eS]
@[go_sem] theorem eS.set(l:List ByteArray)(i:Nat)(x:ByteArray):(l.map eS).set i [A.str x]=(l.set i x).map eS:=by simp[List.map_set,eS]
@[go_sem] theorem eS.pureRows(l:List ByteArray):zae7 (l.map eS):=by intro c hc;obtain⟨x,_,rfl⟩:=cI.1 hc;intro a ha;simp[eS]at ha;subst ha;rfl
@[go_sem] theorem eS.pureEs(l:List ByteArray):pureEs (l.map eS)=true:=by induction l with
 |nil=>rfl
 |cons a l ih=>simpa [Ab.pureEs,zk9,A.pure1,eS]using ih
@[go_sem] theorem eL.getD{α:Type}(f:α->List A)(l:List (List α))(i:Nat):(l.map (eL f)).getD i [A.sl (([]:List α).map f)]=[A.sl ((l.getD i []).map f)]:=by simp only[bW,cN];cases l[i]? <;>rfl
@[go_sem] theorem eL.getD0{α:Type}(f:α->List A)(l:List (List α))(i:Nat):(l.map (eL f)).getD i [A.sl []]=[A.sl ((l.getD i []).map f)]:=eL.getD f l i
@[ext] structure Arr (α:Type) (n:Nat) where
 l:List α
 h:l.length=n
instance{α:Type}[DecidableEq α]{n:Nat}:DecidableEq (Arr α n):=λ a b=>decidable_of_iff (a.l=b.l) (by rw[Arr.ext_iff])
def Arr.get{α:Type}{n:Nat}(a:Arr α n)(i:Nat)(z:α):α:=a.l.getD (zO4 i n) z
def Arr.put{α:Type}{n:Nat}(a:Arr α n)(i:Nat)(x:α):Arr α n:=⟨a.l.set (zO4 i n) x,by simp[a.h]⟩
def Arr.rep{α:Type}(n:Nat)(x:α):Arr α n:=⟨List.replicate n x,by simp⟩
def Arr.enc{α:Type}{n:Nat}(f:α->List A)(a:Arr α n):List A:=(a.l.map f).flatten
theorem zcy3{α:Type}(f:α->List A)(sz:Nat)(hf:∀x,(f x).length=sz):∀l:List α,(l.map f).flatten.length=l.length*sz
 |[]=>by simp
 |a::l=>by simp only[dF,List.flatten_cons,cD,hf,zcy3 f sz hf l,List.length_cons];rw[dY];omega
theorem zcT0{α:Type}(f:α->List A)(sz:Nat)(hf:∀x,(f x).length=sz)(z:α):∀(l:List α) (i:Nat),i<l.length->sub (l.map f).flatten (i*sz) sz=f (l.getD i z)
 |[],i,h=>by simp at h
 |a::l,0,_=>by simp[sub,hf a]
 |a::l,i+1,h=>by have:=zcT0 f sz hf z l i (by simpa using h);simp only[sub,dF,List.flatten_cons,gN]at this⊢;rw[<-this,kS,gJ (by rw[hf,dY];omega),hf,List.nil_append];congr 2;rw[dY];omega
theorem zcy4{α:Type}(f:α->List A)(sz:Nat)(hf:∀x,(f x).length=sz)(x:α):∀(l:List α) (i:Nat),i<l.length->upd (l.map f).flatten (i*sz) (f x)=((l.set i x).map f).flatten
 |[],i,h=>by simp at h
 |a::l,0,_=>by simp[upd,hf]
 |a::l,i+1,h=>by
  have:=zcy4 f sz hf x l i (by simpa using h);simp only[upd,dF,List.flatten_cons,List.set_cons_succ]at this⊢;rw[<-this];have e:(i+1)*sz=(f a).length+i*sz:=by rw[hf,dY];omega
  rw[e,List.take_length_add_append,gE,List.drop_length_add_append];simp[dD]
@[go_sem] theorem Arr.enc_len{α:Type}{n:Nat}(f:α->List A)(a:Arr α n)(sz:Nat)(hf:∀x,(f x).length=sz):(Arr.enc f a).length=n*sz:=by rw[Arr.enc,zcy3 f sz hf,a.h]
theorem zaP6{i n:Nat}(h:0<n):zO4 i n<n:=by unfold zO4;split<;>omega
theorem zaq8{i n:Nat}(h:i<n):zO4 i n=i:=bX h
theorem zcJ3{α:Type}{n sz:Nat}(f:α->List A)(hf:∀x,(f x).length=sz)(z:α)(a:Arr α (n+1))(i:Nat):sub (Arr.enc f a) (zO4 i (n+1)*sz) sz=f (a.get i z):=zcT0 f sz hf z a.l _ (by rw[a.h];exact zaP6 (by omega))
theorem zcT1{α:Type}{n sz:Nat}(f:α->List A)(hf:∀x,(f x).length=sz)(a:Arr α (n+1))(i:Nat)(x:α):upd (Arr.enc f a) (zO4 i (n+1)*sz) (f x)=Arr.enc f (a.put i x):=zcy4 f sz hf x a.l _ (by rw[a.h];exact zaP6 (by omega))
attribute [go_sem] zaq8
@[go_sem] theorem zdO8(i n:Nat):(zO4 i (n+1)<=n)=True:=by have:=zaP6 (i:=i) (n:=n+1) (by omega);exact eq_true (by omega)
section
variable {n:Nat}
@[go_sem] theorem eI.alen(k:IntKind)(a:Arr Int n):(Arr.enc (eI k) a).length=n:=by rw[Arr.enc_len _ _ 1 (λ _=>rfl),gU]
@[go_sem] theorem eB.alen(a:Arr Bool n):(Arr.enc eB a).length=n:=by rw[Arr.enc_len _ _ 1 (λ _=>rfl),gU]
@[go_sem] theorem eI.aat(k:IntKind)(a:Arr Int (n+1))(i:Nat):sub (Arr.enc (eI k) a) (zO4 i (n+1)) 1=[A.int k (a.get i 0)]:=by have:=zcJ3 (eI k) (sz:=1) (λ _=>rfl) 0 a i;rwa [gU]at this
@[go_sem] theorem eI.aput(k:IntKind)(a:Arr Int (n+1))(i:Nat)(x:Int):upd (Arr.enc (eI k) a) (zO4 i (n+1)) [A.int k x]=Arr.enc (eI k) (a.put i x):=by have:=zcT1 (eI k) (sz:=1) (λ _=>rfl) a i x;rwa [gU]at this
@[go_sem] theorem eI.aatc(k:IntKind)(a:Arr Int (n+1))(i:Nat)(h:i<n+1):sub (Arr.enc (eI k) a) i 1=[A.int k (a.get i 0)]:=by have:=eI.aat k a i;rwa [zaq8 h]at this
@[go_sem] theorem eI.aputc(k:IntKind)(a:Arr Int (n+1))(i:Nat)(x:Int)(h:i<n+1):upd (Arr.enc (eI k) a) i [A.int k x]=Arr.enc (eI k) (a.put i x):=by have:=eI.aput k a i x;rwa [zaq8 h]at this
@[go_sem] theorem eB.aat(a:Arr Bool (n+1))(i:Nat):sub (Arr.enc eB a) (zO4 i (n+1)) 1=[A.bool (a.get i false)]:=by have:=zcJ3 eB (sz:=1) (λ _=>rfl) false a i;rwa [gU]at this
@[go_sem] theorem eB.aat2{m:Nat}(a:Arr (Arr Bool (m+1)) (n+1))(i j:Nat):sub (Arr.enc (Arr.enc eB) a) (zO4 i (n+1)*(m+1)+zO4 j (m+1)) 1=[A.bool ((a.get i (Arr.rep (m+1) false)).get j false)]:=by have h1:=zcJ3 (sz:=m+1) (Arr.enc eB) (λ x=>eB.alen x) (Arr.rep (m+1) false) a i;have h2:=eB.aat (a.get i (Arr.rep (m+1) false)) j;have hj:=zaP6 (i:=j) (n:=m+1) (by omega);rw[<-h2,<-h1];simp only[sub,List.drop_take,gH,fT];congr 1;omega
@[go_sem] theorem zdK4(i j n m k:Nat)(h:(n+1)*(m+1)<=k+1):(zO4 i (n+1)*(m+1)+zO4 j (m+1)<=k)=True:=by have h1:=zaP6 (i:=i) (n:=n+1) (by omega);have h2:=zaP6 (i:=j) (n:=m+1) (by omega);have h3:(zO4 i (n+1)+1)*(m+1)<=(n+1)*(m+1):=dQ _ h1;rw[dY]at h3;exact eq_true (by omega)
@[go_sem] theorem eB.aput(a:Arr Bool (n+1))(i:Nat)(x:Bool):upd (Arr.enc eB a) (zO4 i (n+1)) [A.bool x]=Arr.enc eB (a.put i x):=by have:=zcT1 eB (sz:=1) (λ _=>rfl) a i x;rwa [gU]at this
@[go_sem] theorem eB.aputc(a:Arr Bool (n+1))(i:Nat)(x:Bool)(h:i<n+1):upd (Arr.enc eB a) i [A.bool x]=Arr.enc eB (a.put i x):=by have:=eB.aput a i x;rwa [zaq8 h]at this
@[go_sem] theorem eB.aall(a b:Arr Bool n):upd (Arr.enc eB a) 0 (Arr.enc eB b)=Arr.enc eB b:=by simp[upd,eB.alen]
@[go_sem] theorem eI.asub(k:IntKind)(a:Arr Int n):sub (Arr.enc (eI k) a) 0 n=Arr.enc (eI k) a:=by rw[sub,gW,dO (by rw[eI.alen];exact dA _)]
@[go_sem] theorem eB.asub(a:Arr Bool n):sub (Arr.enc eB a) 0 n=Arr.enc eB a:=by rw[sub,gW,dO (by rw[eB.alen];exact dA _)]
theorem zbl5{α:Type}(f:α->List A)(hf:∀x,zk9 (f x)=true):∀l:List α,zk9 (l.map f).flatten=true
 |[]=>rfl
 |a::l=>by
  have h1:=hf a;have h2:=zbl5 f hf l;have:∀x y:List A,zk9 x=true->zk9 y=true->zk9 (x++y)=true:=λ x y hx hy=>by
   induction x with
   |nil=>exact hy
   |cons c x ih=>simp only[zk9,bU,List.cons_append]at hx⊢;exact⟨hx.1,ih hx.2⟩
  simpa using this _ _ h1 h2
@[go_sem] theorem eI.apure(k:IntKind)(a:Arr Int n):zk9 (Arr.enc (eI k) a)=true:=zbl5 _ (λ _=>rfl) _
@[go_sem] theorem eB.apure(a:Arr Bool n):zk9 (Arr.enc eB a)=true:=zbl5 _ (λ _=>rfl) _
end
class En (T:Type) where
 sz:Nat
 e:T->List A
 z:T
attribute [go_sem] En.sz En.e En.z
@[go_sem] abbrev bx{T:Type}[En T](v:T):Row:=⟨false,En.sz T,En.e (En.z:T),[En.e v]⟩
@[go_sem] abbrev sx{T:Type}[En T](v:List T):Row:=⟨false,En.sz T,En.e (En.z:T),v.map En.e⟩
@[go_sem] abbrev ga{T:Type}[En T](v:T):A:=.agg (En.e v)
@[go_sem] abbrev la{T:Type}[En T](v:List T):A:=.sl (v.map En.e)
section
variable {T:Type} {f:T→List A}
@[go_sem] theorem zdK5{n:Nat}(h:∀x,(f x).length=n)(l:List T):zS2 n (l.map f):=by intro c hc;obtain⟨x,_,rfl⟩:=cI.1 hc;exact h x
@[go_sem] theorem zdB7(h:∀x,zk9 (f x)=true)(l:List T):zae7 (l.map f):=by intro c hc;obtain⟨x,_,rfl⟩:=cI.1 hc;exact zaq6 (h x)
@[go_sem] theorem zdK6(h:∀x,zk9 (f x)=true)(l:List T):pureEs (l.map f)=true:=by induction l with
 |nil=>rfl
 |cons a l ih=>simp[Ab.pureEs,h,ih]
@[go_sem] theorem zdR8(l:List T)(i:Nat)(z:T):(l.map f).getD i (f z)=f (l.getD i z):=by simp only[bW,cN];cases l[i]? <;>rfl
@[go_sem] theorem zdR9(l:List T)(x:T):l.map f++[f x]=(l++[x]).map f:=by simp
@[go_sem] theorem zdU2(l:List T)(i:Nat)(x:T):(l.map f).set i (f x)=(l.set i x).map f:=by simp[List.map_set]
end
@[ext] structure aH where
 name:ByteArray
 (kind aS home:Int)
 deriving DecidableEq
namespace aH
def zero:aH:=⟨⟨#[]⟩,0,0,0⟩
def enc(x:aH):List A:=[A.str x.name,A.int .i64 x.kind,A.int .i64 x.aS,A.int .i64 x.home]
@[go_sem] theorem len(x:aH):(enc x).length=4:=by simp[enc]
instance:En aH:=⟨4,enc,zero⟩
@[go_sem] theorem laws(x:aH):
 zk9 (enc x)=true/\
 zx7 (enc x)=true/\
 zs6 [.s,.i .i64,.i .i64,.i .i64] (enc x)=true/\
 sub (enc x) 0 4=enc x/\
 (∀y,upd (enc x) 0 (enc y)=enc y)/\
 sub (enc x) 0 1=[A.str x.name]/\
 sub (enc x) 1 1=[A.int .i64 x.kind]/\
 sub (enc x) 2 1=[A.int .i64 x.aS]/\
 sub (enc x) 3 1=[A.int .i64 x.home]/\
 (∀v,upd (enc x) 0 ([A.str v])=enc {x with name:=v})/\
 (∀v,upd (enc x) 1 ([A.int .i64 v])=enc {x with kind:=v})/\
 (∀v,upd (enc x) 2 ([A.int .i64 v])=enc {x with aS:=v})/\
 (∀v,upd (enc x) 3 ([A.int .i64 v])=enc {x with home:=v})/\
 (∀(c0 c1 c2 c3:A) (cs:List A),upd (c0::c1::c2::c3::cs) 0 (enc x)=A.str x.name::A.int .i64 x.kind::A.int .i64 x.aS::A.int .i64 x.home::cs)/\
 (∀(c0 c1 c2 c3:A),upd (enc x) 0 [c0,c1,c2,c3]=[c0,c1,c2,c3]):=by simp[sub,upd,zk9,A.pure1,zx7,A.scal1,zs6,LK.fits,eQ,enc]
@[go_sem] theorem eq(x y:aH):eqA (enc x) (enc y)=decide (x=y):=by rw[dW];simp[eqA,eq1,zaq7,fW,enc,aH.ext_iff]
end aH
@[ext] structure aL where
 (site inc num:Int)
 deriving DecidableEq
namespace aL
def zero:aL:=⟨0,0,0⟩
def enc(x:aL):List A:=[A.int .i64 x.site,A.int .i64 x.inc,A.int .i64 x.num]
@[go_sem] theorem len(x:aL):(enc x).length=3:=by simp[enc]
instance:En aL:=⟨3,enc,zero⟩
@[go_sem] theorem laws(x:aL):
 zk9 (enc x)=true/\
 zx7 (enc x)=true/\
 zs6 [.i .i64,.i .i64,.i .i64] (enc x)=true/\
 sub (enc x) 0 3=enc x/\
 (∀y,upd (enc x) 0 (enc y)=enc y)/\
 sub (enc x) 0 1=[A.int .i64 x.site]/\
 sub (enc x) 1 1=[A.int .i64 x.inc]/\
 sub (enc x) 2 1=[A.int .i64 x.num]/\
 (∀v,upd (enc x) 0 ([A.int .i64 v])=enc {x with site:=v})/\
 (∀v,upd (enc x) 1 ([A.int .i64 v])=enc {x with inc:=v})/\
 (∀v,upd (enc x) 2 ([A.int .i64 v])=enc {x with num:=v})/\
 (∀(c0 c1 c2:A) (cs:List A),upd (c0::c1::c2::cs) 0 (enc x)=A.int .i64 x.site::A.int .i64 x.inc::A.int .i64 x.num::cs)/\
 (∀(c0 c1 c2:A),upd (enc x) 0 [c0,c1,c2]=[c0,c1,c2]):=by simp[sub,upd,zk9,A.pure1,zx7,A.scal1,zs6,LK.fits,eQ,enc]
@[go_sem] theorem eq(x y:aL):eqA (enc x) (enc y)=decide (x=y):=by rw[dW];simp[eqA,eq1,zaq7,fW,enc,aL.ext_iff]
@[go_sem] theorem rep(n:Nat)(x:aL):List.replicate n (enc x)=(List.replicate n x).map enc:=by simp
end aL
@[ext] structure aC where
 (mode aS:Int)
 deriving DecidableEq
namespace aC
def zero:aC:=⟨0,0⟩
def enc(x:aC):List A:=[A.int .i64 x.mode,A.int .i64 x.aS]
@[go_sem] theorem len(x:aC):(enc x).length=2:=by simp[enc]
instance:En aC:=⟨2,enc,zero⟩
@[go_sem] theorem laws(x:aC):
 zk9 (enc x)=true/\
 zx7 (enc x)=true/\
 zs6 [.i .i64,.i .i64] (enc x)=true/\
 sub (enc x) 0 2=enc x/\
 (∀y,upd (enc x) 0 (enc y)=enc y)/\
 sub (enc x) 0 1=[A.int .i64 x.mode]/\
 sub (enc x) 1 1=[A.int .i64 x.aS]/\
 (∀v,upd (enc x) 0 ([A.int .i64 v])=enc {x with mode:=v})/\
 (∀v,upd (enc x) 1 ([A.int .i64 v])=enc {x with aS:=v})/\
 (∀(c0 c1:A) (cs:List A),upd (c0::c1::cs) 0 (enc x)=A.int .i64 x.mode::A.int .i64 x.aS::cs)/\
 (∀(c0 c1:A),upd (enc x) 0 [c0,c1]=[c0,c1]):=by simp[sub,upd,zk9,A.pure1,zx7,A.scal1,zs6,LK.fits,eQ,enc]
@[go_sem] theorem eq(x y:aC):eqA (enc x) (enc y)=decide (x=y):=by rw[dW];simp[eqA,eq1,zaq7,fW,enc,aC.ext_iff]
end aC
@[ext] structure bA where
 aK:aL
 aM:aC
 deriving DecidableEq
namespace bA
def zero:bA:=⟨aL.zero,aC.zero⟩
def enc(x:bA):List A:=aL.enc x.aK++aC.enc x.aM
@[go_sem] theorem len(x:bA):(enc x).length=5:=by simp[enc,aC.len,aL.len]
instance:En bA:=⟨5,enc,zero⟩
@[go_sem] theorem laws(x:bA):
 zk9 (enc x)=true/\
 zx7 (enc x)=true/\
 zs6 [.i .i64,.i .i64,.i .i64,.i .i64,.i .i64] (enc x)=true/\
 sub (enc x) 0 5=enc x/\
 (∀y,upd (enc x) 0 (enc y)=enc y)/\
 sub (enc x) 0 3=aL.enc x.aK/\
 sub (enc x) 3 2=aC.enc x.aM/\
 sub (enc x) 3 1=[A.int .i64 x.aM.mode]/\
 sub (enc x) 4 1=[A.int .i64 x.aM.aS]/\
 (∀v,upd (enc x) 0 (aL.enc v)=enc {x with aK:=v})/\
 (∀v,upd (enc x) 3 (aC.enc v)=enc {x with aM:=v})/\
 (∀(c0 c1 c2 c3 c4:A) (cs:List A),upd (c0::c1::c2::c3::c4::cs) 0 (enc x)=A.int .i64 x.aK.site::A.int .i64 x.aK.inc::A.int .i64 x.aK.num::A.int .i64 x.aM.mode::A.int .i64 x.aM.aS::cs)/\
 (∀(c0 c1 c2 c3 c4:A),upd (enc x) 0 [c0,c1,c2,c3,c4]=[c0,c1,c2,c3,c4]):=by simp[sub,upd,zk9,A.pure1,zx7,A.scal1,zs6,LK.fits,eQ,enc,aC.enc,aL.enc]
@[go_sem] theorem eq(x y:bA):eqA (enc x) (enc y)=decide (x=y):=by rw[dW];simp[eqA,eq1,zaq7,fW,enc,aC.enc,aL.enc,bA.ext_iff,aC.ext_iff,aL.ext_iff]
@[go_sem] theorem rep(n:Nat)(x:bA):List.replicate n (enc x)=(List.replicate n x).map enc:=by simp
end bA
@[ext] structure aU where
 aK:aL
 aM:aC
 (aZ bR:Int)
 deriving DecidableEq
namespace aU
def zero:aU:=⟨aL.zero,aC.zero,0,0⟩
def enc(x:aU):List A:=aL.enc x.aK++aC.enc x.aM++[A.int .i64 x.aZ,A.int .i64 x.bR]
@[go_sem] theorem len(x:aU):(enc x).length=7:=by simp[enc,aC.len,aL.len]
instance:En aU:=⟨7,enc,zero⟩
@[go_sem] theorem laws(x:aU):
 zk9 (enc x)=true/\
 zx7 (enc x)=true/\
 zs6 [.i .i64,.i .i64,.i .i64,.i .i64,.i .i64,.i .i64,.i .i64] (enc x)=true/\
 sub (enc x) 0 7=enc x/\
 (∀y,upd (enc x) 0 (enc y)=enc y)/\
 sub (enc x) 0 3=aL.enc x.aK/\
 sub (enc x) 3 2=aC.enc x.aM/\
 sub (enc x) 3 1=[A.int .i64 x.aM.mode]/\
 sub (enc x) 4 1=[A.int .i64 x.aM.aS]/\
 sub (enc x) 5 1=[A.int .i64 x.aZ]/\
 sub (enc x) 6 1=[A.int .i64 x.bR]/\
 (∀v,upd (enc x) 0 (aL.enc v)=enc {x with aK:=v})/\
 (∀v,upd (enc x) 3 (aC.enc v)=enc {x with aM:=v})/\
 (∀v,upd (enc x) 5 ([A.int .i64 v])=enc {x with aZ:=v})/\
 (∀v,upd (enc x) 6 ([A.int .i64 v])=enc {x with bR:=v})/\
 (∀(c0 c1 c2 c3 c4 c5 c6:A) (cs:List A),upd (c0::c1::c2::c3::c4::c5::c6::cs) 0 (enc x)=A.int .i64 x.aK.site::A.int .i64 x.aK.inc::A.int .i64 x.aK.num::A.int .i64 x.aM.mode::A.int .i64 x.aM.aS::A.int .i64 x.aZ::A.int .i64 x.bR::cs)/\
 (∀(c0 c1 c2 c3 c4 c5 c6:A),upd (enc x) 0 [c0,c1,c2,c3,c4,c5,c6]=[c0,c1,c2,c3,c4,c5,c6]):=by simp[sub,upd,zk9,A.pure1,zx7,A.scal1,zs6,LK.fits,eQ,enc,aC.enc,aL.enc]
@[go_sem] theorem eq(x y:aU):eqA (enc x) (enc y)=decide (x=y):=by rw[dW];simp[eqA,eq1,zaq7,fW,enc,aC.enc,aL.enc,aU.ext_iff,aC.ext_iff,aL.ext_iff]
end aU
@[ext] structure aB where
 aA:aH
 aP:(List bA)
 (aN aT:(List aU))
 gen:Int
namespace aB
def zero:aB:=⟨aH.zero,[],[],[],0⟩
def enc(x:aB):List A:=aH.enc x.aA++[A.sl (x.aP.map bA.enc),A.sl (x.aN.map aU.enc),A.sl (x.aT.map aU.enc),A.int .i64 x.gen]
@[go_sem] theorem len(x:aB):(enc x).length=8:=by simp[enc,aH.len]
instance:En aB:=⟨8,enc,zero⟩
@[go_sem] theorem laws(x:aB):
 zk9 (enc x)=true/\
 zx7 (enc x)=false/\
 sub (enc x) 0 8=enc x/\
 (∀y,upd (enc x) 0 (enc y)=enc y)/\
 sub (enc x) 0 4=aH.enc x.aA/\
 sub (enc x) 0 1=[A.str x.aA.name]/\
 sub (enc x) 1 1=[A.int .i64 x.aA.kind]/\
 sub (enc x) 2 1=[A.int .i64 x.aA.aS]/\
 sub (enc x) 3 1=[A.int .i64 x.aA.home]/\
 sub (enc x) 4 1=[A.sl (x.aP.map bA.enc)]/\
 sub (enc x) 5 1=[A.sl (x.aN.map aU.enc)]/\
 sub (enc x) 6 1=[A.sl (x.aT.map aU.enc)]/\
 sub (enc x) 7 1=[A.int .i64 x.gen]/\
 (∀v,upd (enc x) 0 (aH.enc v)=enc {x with aA:=v})/\
 (∀v,upd (enc x) 0 ([A.str v])=enc {x with aA:={x.aA with name:=v}})/\
 (∀v,upd (enc x) 1 ([A.int .i64 v])=enc {x with aA:={x.aA with kind:=v}})/\
 (∀v,upd (enc x) 2 ([A.int .i64 v])=enc {x with aA:={x.aA with aS:=v}})/\
 (∀v,upd (enc x) 3 ([A.int .i64 v])=enc {x with aA:={x.aA with home:=v}})/\
 (∀v,upd (enc x) 4 ([A.sl (v.map bA.enc)])=enc {x with aP:=v})/\
 (∀v,upd (enc x) 5 ([A.sl (v.map aU.enc)])=enc {x with aN:=v})/\
 (∀v,upd (enc x) 6 ([A.sl (v.map aU.enc)])=enc {x with aT:=v})/\
 (∀v,upd (enc x) 7 ([A.int .i64 v])=enc {x with gen:=v})/\
 (∀(c0 c1 c2 c3 c4 c5 c6 c7:A) (cs:List A),upd (c0::c1::c2::c3::c4::c5::c6::c7::cs) 0 (enc x)=A.str x.aA.name::A.int .i64 x.aA.kind::A.int .i64 x.aA.aS::A.int .i64 x.aA.home::A.sl (x.aP.map bA.enc)::A.sl (x.aN.map aU.enc)::A.sl (x.aT.map aU.enc)::A.int .i64 x.gen::cs)/\
 (∀(c0 c1 c2 c3 c4 c5 c6 c7:A),upd (enc x) 0 [c0,c1,c2,c3,c4,c5,c6,c7]=[c0,c1,c2,c3,c4,c5,c6,c7])/\
 (∀y lo k,upd (enc x) 4 [.own y lo k]=[A.str x.aA.name,A.int .i64 x.aA.kind,A.int .i64 x.aA.aS,A.int .i64 x.aA.home,.own y lo k,A.sl (x.aN.map aU.enc),A.sl (x.aT.map aU.enc),A.int .i64 x.gen])/\
 (∀y lo k,upd (enc x) 5 [.own y lo k]=[A.str x.aA.name,A.int .i64 x.aA.kind,A.int .i64 x.aA.aS,A.int .i64 x.aA.home,A.sl (x.aP.map bA.enc),.own y lo k,A.sl (x.aT.map aU.enc),A.int .i64 x.gen])/\
 (∀y lo k,upd (enc x) 6 [.own y lo k]=[A.str x.aA.name,A.int .i64 x.aA.kind,A.int .i64 x.aA.aS,A.int .i64 x.aA.home,A.sl (x.aP.map bA.enc),A.sl (x.aN.map aU.enc),.own y lo k,A.int .i64 x.gen]):=by simp[sub,upd,zk9,A.pure1,zx7,A.scal1,zs6,LK.fits,eQ,enc,aH.enc]
end aB
@[ext] structure bC where
 name:ByteArray
 (before after:aC)
 deriving DecidableEq
namespace bC
def zero:bC:=⟨⟨#[]⟩,aC.zero,aC.zero⟩
def enc(x:bC):List A:=[A.str x.name]++aC.enc x.before++aC.enc x.after
@[go_sem] theorem len(x:bC):(enc x).length=5:=by simp[enc,aC.len]
instance:En bC:=⟨5,enc,zero⟩
@[go_sem] theorem laws(x:bC):
 zk9 (enc x)=true/\
 zx7 (enc x)=true/\
 zs6 [.s,.i .i64,.i .i64,.i .i64,.i .i64] (enc x)=true/\
 sub (enc x) 0 5=enc x/\
 (∀y,upd (enc x) 0 (enc y)=enc y)/\
 sub (enc x) 0 1=[A.str x.name]/\
 sub (enc x) 1 2=aC.enc x.before/\
 sub (enc x) 3 2=aC.enc x.after/\
 (∀v,upd (enc x) 0 ([A.str v])=enc {x with name:=v})/\
 (∀v,upd (enc x) 1 (aC.enc v)=enc {x with before:=v})/\
 (∀v,upd (enc x) 3 (aC.enc v)=enc {x with after:=v})/\
 (∀(c0 c1 c2 c3 c4:A) (cs:List A),upd (c0::c1::c2::c3::c4::cs) 0 (enc x)=A.str x.name::A.int .i64 x.before.mode::A.int .i64 x.before.aS::A.int .i64 x.after.mode::A.int .i64 x.after.aS::cs)/\
 (∀(c0 c1 c2 c3 c4:A),upd (enc x) 0 [c0,c1,c2,c3,c4]=[c0,c1,c2,c3,c4]):=by simp[sub,upd,zk9,A.pure1,zx7,A.scal1,zs6,LK.fits,eQ,enc,aC.enc]
end bC
@[ext] structure bK where
 (label at_:Int)
 deriving DecidableEq
namespace bK
def zero:bK:=⟨0,0⟩
def enc(x:bK):List A:=[A.int .i64 x.label,A.int .i64 x.at_]
@[go_sem] theorem len(x:bK):(enc x).length=2:=by simp[enc]
instance:En bK:=⟨2,enc,zero⟩
@[go_sem] theorem laws(x:bK):
 zk9 (enc x)=true/\
 zx7 (enc x)=true/\
 zs6 [.i .i64,.i .i64] (enc x)=true/\
 sub (enc x) 0 2=enc x/\
 (∀y,upd (enc x) 0 (enc y)=enc y)/\
 sub (enc x) 0 1=[A.int .i64 x.label]/\
 sub (enc x) 1 1=[A.int .i64 x.at_]/\
 (∀v,upd (enc x) 0 ([A.int .i64 v])=enc {x with label:=v})/\
 (∀v,upd (enc x) 1 ([A.int .i64 v])=enc {x with at_:=v})/\
 (∀(c0 c1:A) (cs:List A),upd (c0::c1::cs) 0 (enc x)=A.int .i64 x.label::A.int .i64 x.at_::cs)/\
 (∀(c0 c1:A),upd (enc x) 0 [c0,c1]=[c0,c1]):=by simp[sub,upd,zk9,A.pure1,zx7,A.scal1,zs6,LK.fits,eQ,enc]
end bK
@[ext] structure aW where
 aD:(List bC)
 aY:(List bK)
namespace aW
def zero:aW:=⟨[],[]⟩
def enc(x:aW):List A:=[A.sl (x.aD.map bC.enc),A.sl (x.aY.map bK.enc)]
@[go_sem] theorem len(x:aW):(enc x).length=2:=by simp[enc]
instance:En aW:=⟨2,enc,zero⟩
@[go_sem] theorem laws(x:aW):
 zk9 (enc x)=true/\
 zx7 (enc x)=false/\
 sub (enc x) 0 2=enc x/\
 (∀y,upd (enc x) 0 (enc y)=enc y)/\
 sub (enc x) 0 1=[A.sl (x.aD.map bC.enc)]/\
 sub (enc x) 1 1=[A.sl (x.aY.map bK.enc)]/\
 (∀v,upd (enc x) 0 ([A.sl (v.map bC.enc)])=enc {x with aD:=v})/\
 (∀v,upd (enc x) 1 ([A.sl (v.map bK.enc)])=enc {x with aY:=v})/\
 (∀(c0 c1:A) (cs:List A),upd (c0::c1::cs) 0 (enc x)=A.sl (x.aD.map bC.enc)::A.sl (x.aY.map bK.enc)::cs)/\
 (∀(c0 c1:A),upd (enc x) 0 [c0,c1]=[c0,c1])/\
 (∀y lo k,upd (enc x) 0 [.own y lo k]=[.own y lo k,A.sl (x.aY.map bK.enc)])/\
 (∀y lo k,upd (enc x) 1 [.own y lo k]=[A.sl (x.aD.map bC.enc),.own y lo k]):=by simp[sub,upd,zk9,A.pure1,zx7,A.scal1,zs6,LK.fits,eQ,enc]
end aW
@[ext] structure aJ where
 name:ByteArray
 aM:aC
 deriving DecidableEq
namespace aJ
def zero:aJ:=⟨⟨#[]⟩,aC.zero⟩
def enc(x:aJ):List A:=[A.str x.name]++aC.enc x.aM
@[go_sem] theorem len(x:aJ):(enc x).length=3:=by simp[enc,aC.len]
instance:En aJ:=⟨3,enc,zero⟩
@[go_sem] theorem laws(x:aJ):
 zk9 (enc x)=true/\
 zx7 (enc x)=true/\
 zs6 [.s,.i .i64,.i .i64] (enc x)=true/\
 sub (enc x) 0 3=enc x/\
 (∀y,upd (enc x) 0 (enc y)=enc y)/\
 sub (enc x) 0 1=[A.str x.name]/\
 sub (enc x) 1 2=aC.enc x.aM/\
 sub (enc x) 1 1=[A.int .i64 x.aM.mode]/\
 sub (enc x) 2 1=[A.int .i64 x.aM.aS]/\
 (∀v,upd (enc x) 0 ([A.str v])=enc {x with name:=v})/\
 (∀v,upd (enc x) 1 (aC.enc v)=enc {x with aM:=v})/\
 (∀(c0 c1 c2:A) (cs:List A),upd (c0::c1::c2::cs) 0 (enc x)=A.str x.name::A.int .i64 x.aM.mode::A.int .i64 x.aM.aS::cs)/\
 (∀(c0 c1 c2:A),upd (enc x) 0 [c0,c1,c2]=[c0,c1,c2]):=by simp[sub,upd,zk9,A.pure1,zx7,A.scal1,zs6,LK.fits,eQ,enc,aC.enc]
@[go_sem] theorem eq(x y:aJ):eqA (enc x) (enc y)=decide (x=y):=by rw[dW];simp[eqA,eq1,zaq7,fW,enc,aC.enc,aJ.ext_iff,aC.ext_iff]
end aJ
@[ext] structure aO where
 k:Int
 bG:aJ
 bE:(List aO)
namespace aO
def zero:aO:=⟨0,aJ.zero,[]⟩
def enc(x:aO):List A:=[A.int .i64 x.k]++aJ.enc x.bG++[A.sl (x.bE.map aO.enc)]
termination_by _root_.SizeOf.sizeOf x
decreasing_by
 rename_i h;have h2:=List.sizeOf_lt_of_mem h;cases x;simp at h2⊢;omega
@[simp] theorem enc_mk(k:Int)(bG:aJ)(bE:(List aO)):enc ⟨k,bG,bE⟩=[A.int .i64 k,A.str bG.name,A.int .i64 bG.aM.mode,A.int .i64 bG.aM.aS,A.sl (bE.map aO.enc)]:=by simp[enc,aC.enc,aJ.enc]
@[simp] theorem zey3:zero.k=0/\zero.bG.name=⟨#[]⟩/\zero.bG.aM.mode=0/\zero.bG.aM.aS=0/\zero.bE=[]:=by and_intros<;>rfl
theorem enc_cells(x:aO):[A.int .i64 x.k,A.str x.bG.name,A.int .i64 x.bG.aM.mode,A.int .i64 x.bG.aM.aS,A.sl (x.bE.map aO.enc)]=enc x:=by simp[enc,aC.enc,aJ.enc]
@[go_sem] theorem len(x:aO):(enc x).length=5:=by simp[enc,aJ.len]
instance:En aO:=⟨5,enc,zero⟩
@[go_sem] theorem laws(x:aO):
 zk9 (enc x)=true/\
 zx7 (enc x)=false/\
 sub (enc x) 0 5=enc x/\
 (∀y,upd (enc x) 0 (enc y)=enc y)/\
 sub (enc x) 0 1=[A.int .i64 x.k]/\
 sub (enc x) 1 3=aJ.enc x.bG/\
 sub (enc x) 1 1=[A.str x.bG.name]/\
 sub (enc x) 2 2=aC.enc x.bG.aM/\
 sub (enc x) 2 1=[A.int .i64 x.bG.aM.mode]/\
 sub (enc x) 3 1=[A.int .i64 x.bG.aM.aS]/\
 sub (enc x) 4 1=[A.sl (x.bE.map aO.enc)]/\
 (∀v,upd (enc x) 0 ([A.int .i64 v])=enc {x with k:=v})/\
 (∀v,upd (enc x) 1 (aJ.enc v)=enc {x with bG:=v})/\
 (∀v,upd (enc x) 1 ([A.str v])=enc {x with bG:={x.bG with name:=v}})/\
 (∀v,upd (enc x) 2 (aC.enc v)=enc {x with bG:={x.bG with aM:=v}})/\
 (∀v,upd (enc x) 4 ([A.sl (v.map aO.enc)])=enc {x with bE:=v})/\
 (∀(c0 c1 c2 c3 c4:A) (cs:List A),upd (c0::c1::c2::c3::c4::cs) 0 (enc x)=A.int .i64 x.k::A.str x.bG.name::A.int .i64 x.bG.aM.mode::A.int .i64 x.bG.aM.aS::A.sl (x.bE.map aO.enc)::cs)/\
 (∀(c0 c1 c2 c3 c4:A),upd (enc x) 0 [c0,c1,c2,c3,c4]=[c0,c1,c2,c3,c4])/\
 (∀y lo k,upd (enc x) 4 [.own y lo k]=[A.int .i64 x.k,A.str x.bG.name,A.int .i64 x.bG.aM.mode,A.int .i64 x.bG.aM.aS,.own y lo k]):=by simp[sub,upd,zk9,A.pure1,zx7,A.scal1,zs6,LK.fits,eQ,enc,aC.enc,aJ.enc]
end aO
@[ext] structure bH where
 bN:aO
 (aZ limit:Int)
namespace bH
def zero:bH:=⟨aO.zero,0,0⟩
def enc(x:bH):List A:=aO.enc x.bN++[A.int .i64 x.aZ,A.int .i64 x.limit]
@[go_sem] theorem len(x:bH):(enc x).length=7:=by simp[enc,aO.len]
instance:En bH:=⟨7,enc,zero⟩
@[go_sem] theorem laws(x:bH):
 zk9 (enc x)=true/\
 zx7 (enc x)=false/\
 sub (enc x) 0 7=enc x/\
 (∀y,upd (enc x) 0 (enc y)=enc y)/\
 sub (enc x) 0 5=aO.enc x.bN/\
 sub (enc x) 0 1=[A.int .i64 x.bN.k]/\
 sub (enc x) 1 3=aJ.enc x.bN.bG/\
 sub (enc x) 4 1=[A.sl (x.bN.bE.map aO.enc)]/\
 sub (enc x) 5 1=[A.int .i64 x.aZ]/\
 sub (enc x) 6 1=[A.int .i64 x.limit]/\
 (∀v,upd (enc x) 0 (aO.enc v)=enc {x with bN:=v})/\
 (∀v,upd (enc x) 5 ([A.int .i64 v])=enc {x with aZ:=v})/\
 (∀v,upd (enc x) 6 ([A.int .i64 v])=enc {x with limit:=v})/\
 (∀(c0 c1 c2 c3 c4 c5 c6:A) (cs:List A),upd (c0::c1::c2::c3::c4::c5::c6::cs) 0 (enc x)=A.int .i64 x.bN.k::A.str x.bN.bG.name::A.int .i64 x.bN.bG.aM.mode::A.int .i64 x.bN.bG.aM.aS::A.sl (x.bN.bE.map aO.enc)::A.int .i64 x.aZ::A.int .i64 x.limit::cs)/\
 (∀(c0 c1 c2 c3 c4 c5 c6:A),upd (enc x) 0 [c0,c1,c2,c3,c4,c5,c6]=[c0,c1,c2,c3,c4,c5,c6]):=by simp[sub,upd,zk9,A.pure1,zx7,A.scal1,zs6,LK.fits,eQ,enc,aC.enc,aJ.enc,aO.enc]
end bH
@[ext] structure aF where
 aK:aL
 cost:Int
 aX:aW
 bF:Bool
 aR:bH
 (since gen:Int)
namespace aF
def zero:aF:=⟨aL.zero,0,aW.zero,false,bH.zero,0,0⟩
def enc(x:aF):List A:=aL.enc x.aK++[A.int .i64 x.cost]++aW.enc x.aX++[A.bool x.bF]++bH.enc x.aR++[A.int .i64 x.since,A.int .i64 x.gen]
@[go_sem] theorem len(x:aF):(enc x).length=16:=by simp[enc,aW.len,aL.len,bH.len]
instance:En aF:=⟨16,enc,zero⟩
@[go_sem] theorem laws(x:aF):
 zk9 (enc x)=true/\
 zx7 (enc x)=false/\
 sub (enc x) 0 16=enc x/\
 (∀y,upd (enc x) 0 (enc y)=enc y)/\
 sub (enc x) 0 3=aL.enc x.aK/\
 sub (enc x) 3 1=[A.int .i64 x.cost]/\
 sub (enc x) 4 2=aW.enc x.aX/\
 sub (enc x) 4 1=[A.sl (x.aX.aD.map bC.enc)]/\
 sub (enc x) 6 1=[A.bool x.bF]/\
 sub (enc x) 7 7=bH.enc x.aR/\
 sub (enc x) 7 5=aO.enc x.aR.bN/\
 sub (enc x) 12 1=[A.int .i64 x.aR.aZ]/\
 sub (enc x) 13 1=[A.int .i64 x.aR.limit]/\
 sub (enc x) 14 1=[A.int .i64 x.since]/\
 sub (enc x) 15 1=[A.int .i64 x.gen]/\
 (∀v,upd (enc x) 0 (aL.enc v)=enc {x with aK:=v})/\
 (∀v,upd (enc x) 3 ([A.int .i64 v])=enc {x with cost:=v})/\
 (∀v,upd (enc x) 4 (aW.enc v)=enc {x with aX:=v})/\
 (∀v,upd (enc x) 6 ([A.bool v])=enc {x with bF:=v})/\
 (∀v,upd (enc x) 7 (bH.enc v)=enc {x with aR:=v})/\
 (∀v,upd (enc x) 14 ([A.int .i64 v])=enc {x with since:=v})/\
 (∀v,upd (enc x) 15 ([A.int .i64 v])=enc {x with gen:=v})/\
 (∀(c0 c1 c2 c3 c4 c5 c6 c7 c8 c9 c10 c11 c12 c13 c14 c15:A),upd (enc x) 0 [c0,c1,c2,c3,c4,c5,c6,c7,c8,c9,c10,c11,c12,c13,c14,c15]=[c0,c1,c2,c3,c4,c5,c6,c7,c8,c9,c10,c11,c12,c13,c14,c15]):=by simp[sub,upd,zk9,A.pure1,zx7,A.scal1,zs6,LK.fits,eQ,enc,aC.enc,aJ.enc,aO.enc,aW.enc,aL.enc,bH.enc]
end aF
@[ext] structure aV where
 now:Int
 aI:(List aB)
 aG:(List aF)
namespace aV
def zero:aV:=⟨0,[],[]⟩
def enc(x:aV):List A:=[A.int .i64 x.now,A.sl (x.aI.map aB.enc),A.sl (x.aG.map aF.enc)]
@[go_sem] theorem len(x:aV):(enc x).length=3:=by simp[enc]
instance:En aV:=⟨3,enc,zero⟩
@[go_sem] theorem laws(x:aV):
 zk9 (enc x)=true/\
 zx7 (enc x)=false/\
 sub (enc x) 0 3=enc x/\
 (∀y,upd (enc x) 0 (enc y)=enc y)/\
 sub (enc x) 0 1=[A.int .i64 x.now]/\
 sub (enc x) 1 1=[A.sl (x.aI.map aB.enc)]/\
 sub (enc x) 2 1=[A.sl (x.aG.map aF.enc)]/\
 (∀v,upd (enc x) 0 ([A.int .i64 v])=enc {x with now:=v})/\
 (∀v,upd (enc x) 1 ([A.sl (v.map aB.enc)])=enc {x with aI:=v})/\
 (∀v,upd (enc x) 2 ([A.sl (v.map aF.enc)])=enc {x with aG:=v})/\
 (∀(c0 c1 c2:A) (cs:List A),upd (c0::c1::c2::cs) 0 (enc x)=A.int .i64 x.now::A.sl (x.aI.map aB.enc)::A.sl (x.aG.map aF.enc)::cs)/\
 (∀(c0 c1 c2:A),upd (enc x) 0 [c0,c1,c2]=[c0,c1,c2])/\
 (∀y lo k,upd (enc x) 1 [.own y lo k]=[A.int .i64 x.now,.own y lo k,A.sl (x.aG.map aF.enc)])/\
 (∀y lo k,upd (enc x) 2 [.own y lo k]=[A.int .i64 x.now,A.sl (x.aI.map aB.enc),.own y lo k]):=by simp[sub,upd,zk9,A.pure1,zx7,A.scal1,zs6,LK.fits,eQ,enc]
end aV
@[ext] structure bP where
 aK:aL
 bN:aO
 gen:Int
namespace bP
def zero:bP:=⟨aL.zero,aO.zero,0⟩
def enc(x:bP):List A:=aL.enc x.aK++aO.enc x.bN++[A.int .i64 x.gen]
@[simp] theorem enc_mk(aK:aL)(bN:aO)(gen:Int):enc ⟨aK,bN,gen⟩=[A.int .i64 aK.site,A.int .i64 aK.inc,A.int .i64 aK.num,A.int .i64 bN.k,A.str bN.bG.name,A.int .i64 bN.bG.aM.mode,A.int .i64 bN.bG.aM.aS,A.sl (bN.bE.map aO.enc),A.int .i64 gen]:=by simp[enc,aC.enc,aJ.enc,aO.enc,aL.enc]
@[go_sem] theorem len(x:bP):(enc x).length=9:=by simp[enc,aO.len,aL.len]
instance:En bP:=⟨9,enc,zero⟩
@[go_sem] theorem laws(x:bP):
 zk9 (enc x)=true/\
 zx7 (enc x)=false/\
 sub (enc x) 0 9=enc x/\
 (∀y,upd (enc x) 0 (enc y)=enc y)/\
 sub (enc x) 0 3=aL.enc x.aK/\
 sub (enc x) 3 5=aO.enc x.bN/\
 sub (enc x) 8 1=[A.int .i64 x.gen]/\
 (∀v,upd (enc x) 0 (aL.enc v)=enc {x with aK:=v})/\
 (∀v,upd (enc x) 3 (aO.enc v)=enc {x with bN:=v})/\
 (∀v,upd (enc x) 8 ([A.int .i64 v])=enc {x with gen:=v})/\
 (∀(c0 c1 c2 c3 c4 c5 c6 c7 c8:A),upd (enc x) 0 [c0,c1,c2,c3,c4,c5,c6,c7,c8]=[c0,c1,c2,c3,c4,c5,c6,c7,c8]):=by simp[sub,upd,zk9,A.pure1,zx7,A.scal1,zs6,LK.fits,eQ,enc,aC.enc,aJ.enc,aO.enc,aL.enc]
end bP
@[ext] structure aQ where
 aI:(List aB)
 bI:(List bP)
namespace aQ
def zero:aQ:=⟨[],[]⟩
def enc(x:aQ):List A:=[A.sl (x.aI.map aB.enc),A.sl (x.bI.map bP.enc)]
@[go_sem] theorem len(x:aQ):(enc x).length=2:=by simp[enc]
instance:En aQ:=⟨2,enc,zero⟩
@[go_sem] theorem laws(x:aQ):
 zk9 (enc x)=true/\
 zx7 (enc x)=false/\
 sub (enc x) 0 2=enc x/\
 (∀y,upd (enc x) 0 (enc y)=enc y)/\
 sub (enc x) 0 1=[A.sl (x.aI.map aB.enc)]/\
 sub (enc x) 1 1=[A.sl (x.bI.map bP.enc)]/\
 (∀v,upd (enc x) 0 ([A.sl (v.map aB.enc)])=enc {x with aI:=v})/\
 (∀v,upd (enc x) 1 ([A.sl (v.map bP.enc)])=enc {x with bI:=v})/\
 (∀(c0 c1:A) (cs:List A),upd (c0::c1::cs) 0 (enc x)=A.sl (x.aI.map aB.enc)::A.sl (x.bI.map bP.enc)::cs)/\
 (∀(c0 c1:A),upd (enc x) 0 [c0,c1]=[c0,c1])/\
 (∀y lo k,upd (enc x) 0 [.own y lo k]=[.own y lo k,A.sl (x.bI.map bP.enc)])/\
 (∀y lo k,upd (enc x) 1 [.own y lo k]=[A.sl (x.aI.map aB.enc),.own y lo k]):=by simp[sub,upd,zk9,A.pure1,zx7,A.scal1,zs6,LK.fits,eQ,enc]
end aQ
@[ext] structure bQ where
 rest:(List Int)
 err:Int
namespace bQ
def zero:bQ:=⟨[],0⟩
def enc(x:bQ):List A:=[A.sl (x.rest.map (eI .u8)),A.int .i64 x.err]
@[go_sem] theorem len(x:bQ):(enc x).length=2:=by simp[enc]
instance:En bQ:=⟨2,enc,zero⟩
@[go_sem] theorem laws(x:bQ):
 zk9 (enc x)=true/\
 zx7 (enc x)=false/\
 sub (enc x) 0 2=enc x/\
 (∀y,upd (enc x) 0 (enc y)=enc y)/\
 sub (enc x) 0 1=[A.sl (x.rest.map (eI .u8))]/\
 sub (enc x) 1 1=[A.int .i64 x.err]/\
 (∀v,upd (enc x) 0 ([A.sl (v.map (eI .u8))])=enc {x with rest:=v})/\
 (∀v,upd (enc x) 1 ([A.int .i64 v])=enc {x with err:=v})/\
 (∀(c0 c1:A) (cs:List A),upd (c0::c1::cs) 0 (enc x)=A.sl (x.rest.map (eI .u8))::A.int .i64 x.err::cs)/\
 (∀(c0 c1:A),upd (enc x) 0 [c0,c1]=[c0,c1])/\
 (∀y lo k,upd (enc x) 0 [.own y lo k]=[.own y lo k,A.int .i64 x.err]):=by simp[sub,upd,zk9,A.pure1,zx7,A.scal1,zs6,LK.fits,eQ,enc]
end bQ
@[ext] structure bD where
 bO:bQ
namespace bD
def zero:bD:=⟨bQ.zero⟩
def enc(x:bD):List A:=bQ.enc x.bO
@[go_sem] theorem len(x:bD):(enc x).length=2:=by simp[enc,bQ.len]
instance:En bD:=⟨2,enc,zero⟩
@[go_sem] theorem laws(x:bD):
 zk9 (enc x)=true/\
 zx7 (enc x)=false/\
 sub (enc x) 0 2=enc x/\
 (∀y,upd (enc x) 0 (enc y)=enc y)/\
 sub (enc x) 0 1=[A.sl (x.bO.rest.map (eI .u8))]/\
 sub (enc x) 1 1=[A.int .i64 x.bO.err]/\
 (∀v,upd (enc x) 1 ([A.int .i64 v])=enc {x with bO:={x.bO with err:=v}})/\
 (∀(c0 c1:A) (cs:List A),upd (c0::c1::cs) 0 (enc x)=A.sl (x.bO.rest.map (eI .u8))::A.int .i64 x.bO.err::cs)/\
 (∀(c0 c1:A),upd (enc x) 0 [c0,c1]=[c0,c1]):=by simp[sub,upd,zk9,A.pure1,zx7,A.scal1,zs6,LK.fits,eQ,enc,bQ.enc]
end bD
@[ext] structure bL where
 l:(List Int)
 at_:Int
namespace bL
def zero:bL:=⟨[],0⟩
def enc(x:bL):List A:=[A.sl (x.l.map (eI .i64)),A.int .i64 x.at_]
@[go_sem] theorem len(x:bL):(enc x).length=2:=by simp[enc]
instance:En bL:=⟨2,enc,zero⟩
@[go_sem] theorem laws(x:bL):
 zk9 (enc x)=true/\
 zx7 (enc x)=false/\
 sub (enc x) 0 2=enc x/\
 (∀y,upd (enc x) 0 (enc y)=enc y)/\
 sub (enc x) 0 1=[A.sl (x.l.map (eI .i64))]/\
 sub (enc x) 1 1=[A.int .i64 x.at_]/\
 (∀v,upd (enc x) 0 ([A.sl (v.map (eI .i64))])=enc {x with l:=v})/\
 (∀v,upd (enc x) 1 ([A.int .i64 v])=enc {x with at_:=v})/\
 (∀(c0 c1:A) (cs:List A),upd (c0::c1::cs) 0 (enc x)=A.sl (x.l.map (eI .i64))::A.int .i64 x.at_::cs)/\
 (∀(c0 c1:A),upd (enc x) 0 [c0,c1]=[c0,c1])/\
 (∀y lo k,upd (enc x) 0 [.own y lo k]=[.own y lo k,A.int .i64 x.at_]):=by simp[sub,upd,zk9,A.pure1,zx7,A.scal1,zs6,LK.fits,eQ,enc]
end bL
@[ext] structure bM where
 kind:Int
 aK:aL
 aR:bH
 name:ByteArray
 n:Int
namespace bM
def zero:bM:=⟨0,aL.zero,bH.zero,⟨#[]⟩,0⟩
def enc(x:bM):List A:=[A.int .i64 x.kind]++aL.enc x.aK++bH.enc x.aR++[A.str x.name,A.int .i64 x.n]
@[go_sem] theorem len(x:bM):(enc x).length=13:=by simp[enc,aL.len,bH.len]
instance:En bM:=⟨13,enc,zero⟩
@[go_sem] theorem laws(x:bM):
 zk9 (enc x)=true/\
 zx7 (enc x)=false/\
 sub (enc x) 0 13=enc x/\
 (∀y,upd (enc x) 0 (enc y)=enc y)/\
 sub (enc x) 0 1=[A.int .i64 x.kind]/\
 sub (enc x) 1 3=aL.enc x.aK/\
 sub (enc x) 4 7=bH.enc x.aR/\
 sub (enc x) 11 1=[A.str x.name]/\
 sub (enc x) 12 1=[A.int .i64 x.n]/\
 (∀v,upd (enc x) 0 ([A.int .i64 v])=enc {x with kind:=v})/\
 (∀v,upd (enc x) 1 (aL.enc v)=enc {x with aK:=v})/\
 (∀v,upd (enc x) 4 (bH.enc v)=enc {x with aR:=v})/\
 (∀v,upd (enc x) 11 ([A.str v])=enc {x with name:=v})/\
 (∀v,upd (enc x) 12 ([A.int .i64 v])=enc {x with n:=v})/\
 (∀(c0 c1 c2 c3 c4 c5 c6 c7 c8 c9 c10 c11 c12:A),upd (enc x) 0 [c0,c1,c2,c3,c4,c5,c6,c7,c8,c9,c10,c11,c12]=[c0,c1,c2,c3,c4,c5,c6,c7,c8,c9,c10,c11,c12]):=by simp[sub,upd,zk9,A.pure1,zx7,A.scal1,zs6,LK.fits,eQ,enc,aC.enc,aJ.enc,aO.enc,aL.enc,bH.enc]
end bM
@[ext] structure bJ where
 kind:Int
 aK:aL
 name:ByteArray
 aM:aC
 deriving DecidableEq
namespace bJ
def zero:bJ:=⟨0,aL.zero,⟨#[]⟩,aC.zero⟩
def enc(x:bJ):List A:=[A.int .i64 x.kind]++aL.enc x.aK++[A.str x.name]++aC.enc x.aM
@[go_sem] theorem len(x:bJ):(enc x).length=7:=by simp[enc,aC.len,aL.len]
instance:En bJ:=⟨7,enc,zero⟩
@[go_sem] theorem laws(x:bJ):
 zk9 (enc x)=true/\
 zx7 (enc x)=true/\
 zs6 [.i .i64,.i .i64,.i .i64,.i .i64,.s,.i .i64,.i .i64] (enc x)=true/\
 sub (enc x) 0 7=enc x/\
 (∀y,upd (enc x) 0 (enc y)=enc y)/\
 (∀v,upd (enc x) 0 ([A.int .i64 v])=enc {x with kind:=v})/\
 (∀v,upd (enc x) 1 (aL.enc v)=enc {x with aK:=v})/\
 (∀v,upd (enc x) 4 ([A.str v])=enc {x with name:=v})/\
 (∀v,upd (enc x) 5 (aC.enc v)=enc {x with aM:=v})/\
 (∀(c0 c1 c2 c3 c4 c5 c6:A) (cs:List A),upd (c0::c1::c2::c3::c4::c5::c6::cs) 0 (enc x)=A.int .i64 x.kind::A.int .i64 x.aK.site::A.int .i64 x.aK.inc::A.int .i64 x.aK.num::A.str x.name::A.int .i64 x.aM.mode::A.int .i64 x.aM.aS::cs)/\
 (∀(c0 c1 c2 c3 c4 c5 c6:A),upd (enc x) 0 [c0,c1,c2,c3,c4,c5,c6]=[c0,c1,c2,c3,c4,c5,c6]):=by simp[sub,upd,zk9,A.pure1,zx7,A.scal1,zs6,LK.fits,eQ,enc,aC.enc,aL.enc]
end bJ
@[ext] structure bB where
 c:aV
 ev:(List bJ)
namespace bB
def zero:bB:=⟨aV.zero,[]⟩
def enc(x:bB):List A:=aV.enc x.c++[A.sl (x.ev.map bJ.enc)]
instance:En bB:=⟨4,enc,zero⟩
end bB
@[ext] structure bS where
 atoms:(List aJ)
 set:(List Bool)
namespace bS
def zero:bS:=⟨[],[]⟩
def enc(x:bS):List A:=[A.sl (x.atoms.map aJ.enc),A.sl (x.set.map eB)]
@[go_sem] theorem len(x:bS):(enc x).length=2:=by simp[enc]
instance:En bS:=⟨2,enc,zero⟩
@[go_sem] theorem laws(x:bS):
 zk9 (enc x)=true/\
 zx7 (enc x)=false/\
 sub (enc x) 0 2=enc x/\
 (∀y,upd (enc x) 0 (enc y)=enc y)/\
 sub (enc x) 0 1=[A.sl (x.atoms.map aJ.enc)]/\
 sub (enc x) 1 1=[A.sl (x.set.map eB)]/\
 (∀v,upd (enc x) 0 ([A.sl (v.map aJ.enc)])=enc {x with atoms:=v})/\
 (∀v,upd (enc x) 1 ([A.sl (v.map eB)])=enc {x with set:=v})/\
 (∀(c0 c1:A) (cs:List A),upd (c0::c1::cs) 0 (enc x)=A.sl (x.atoms.map aJ.enc)::A.sl (x.set.map eB)::cs)/\
 (∀(c0 c1:A),upd (enc x) 0 [c0,c1]=[c0,c1])/\
 (∀y lo k,upd (enc x) 0 [.own y lo k]=[.own y lo k,A.sl (x.set.map eB)])/\
 (∀y lo k,upd (enc x) 1 [.own y lo k]=[A.sl (x.atoms.map aJ.enc),.own y lo k]):=by simp[sub,upd,zk9,A.pure1,zx7,A.scal1,zs6,LK.fits,eQ,enc]
end bS
attribute [simp] aO.enc_cells
end Ab
end Go.Proofs.YtenebhlnfjcffaaGreatDoor
