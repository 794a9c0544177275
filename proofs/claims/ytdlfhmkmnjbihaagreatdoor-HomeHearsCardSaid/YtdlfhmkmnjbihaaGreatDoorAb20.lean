import Derived.Test.YtdlfhmkmnjbihaaGreatDoorAb16
import Derived.Orders
namespace Go.Proofs.YtdlfhmkmnjbihaaGreatDoor
namespace Ab
set_option linter.unusedSimpArgs false
set_option linter.unusedVariables false
def zI9:Nat->List A->List (Nat×A)
 |_,[]=>[]
 |n,a::as=>(n,a)::zI9 (n+1) as
inductive RX where
 |t (n:Nat)
 |c (n sz:Nat) (ag:Bool)
def zaP4(P:Program):List ResultVar->List RX->Bool
 |[],[]=>true
 | .tmp t::rs,.t n::ns=>t==n&&zaP4 P rs ns
 | .cell t T::rs,.c n sz ag::ns=>t==n&&tyOk P T ag sz&&zaP4 P rs ns
 |_,_=>false
def chkF(P:Program)(f:FuncId)(pc:PC)(N:Nat)(rs:List RX)(np:Nat):Bool:=
 match P.funcs[f]? with
 |some fn=>(match fn.body with
  |some c=>chkC P N c pc
  |none=>false)&&fn.ntmps==N&&zaP4 P fn.results.toList rs&&Nat.ble np N
 |none=>false
def resA(st:St):RX->A
 | .t n=>st.slot n
 | .c n sz ag=>match ev st.nx st.m (.load sz ag) [st.slot n]with
  |some ef=>ef.v
  |none=>.any
def resG(st:St):RX->Prop
 | .t _=>True
 | .c n sz ag=>match ev st.nx st.m (.load sz ag) [st.slot n]with
  |some ef=>ef.obl
  |none=>False
def allG(st:St):List RX->Prop
 |[]=>True
 |x::xs=>(resG st x/\zaz5 st.m (resA st x))/\allG st xs
def zbh1(st:St):List RX->List A
 |[]=>[]
 |x::xs=>frz st.m (resA st x)::zbh1 st xs
def zcs0:List A->A
 |[x]=>x
 |xs=>.tup xs
def zcs1(st:St)(rs:List RX)(r:A):Prop:=allG st rs/\zcs0 (zbh1 st rs)=r
def resL(st:St):List RX->List A
 |[]=>[]
 |x::xs=>resA st x::resL st xs
def zbQ2(st:St):List RX->Prop
 |[]=>True
 |x::xs=>resG st x/\zbQ2 st xs
def zca7:List A->Bool
 |[]=>true
 |x::xs=>x.isVV&&zca7 xs
def zbe0(k:Nat)(st:St)(rs:List RX)(rl:List A)(ms':List (Nat×Row))(k':Nat):Prop:=
 zbQ2 st rs/\zca7 rl=true/\∃l,Le l ⟨zI9 0 (resL st rs),st.mem,st.nx⟩ ⟨zI9 0 rl,ms',k'⟩/\zaz7 k l k'=true
def zcE8(k:Nat)(rs:List RX)(rl:List A)(ms':List (Nat×Row))(k':Nat):Exit->St->Prop
 | .ret,st=>zbe0 k st rs rl ms' k'
 | .normal,st=>zbe0 k st rs rl ms' k'
 |_,_=>False
def zcs2:List (Nat×Row)->Bool
 |[]=>true
 |q::r=>!q.2.ro&&zcs2 r
def Post(rs:List RX)(r:A):Exit->St->Prop
 | .ret,st=>zcs1 st rs r
 | .normal,st=>zcs1 st rs r
 |_,_=>False
section
variable {C:Cx}
theorem zaI8:∀(as:List A) (n t:Nat),look (zI9 n as) t=if n<=t then as[t-n]? else none
 |[],n,t=>by simp[zI9,look]
 |a::as,n,t=>by
  simp only[zI9,look]
  by_cases h:n=t
  .subst h;simp
  .rw[bN h,zaI8 as (n+1) t]
   by_cases h2:n+1<=t
   .rw[bO h2,bO (by omega)];rw[show t-n=(t-(n+1))+1 by omega];simp
   .rw[bN h2]
    by_cases h3:n<=t
    .omega
    .rw[bN h3]
def zbK0:List Value->Value
 |[v]=>v
 |us=>.tuple us.toArray
theorem zbl2{E:Env}{st:St}{a:Act}{w:World}{W:Nat->Prop}{μ:Nat->Loc}(hs:SatW E st.toS a w W μ){F:ResultVar->Sem Value}(hF:∀t,F (.tmp t)=pure (a.tmps.getD t undef))
  (hC:∀t T,F (.cell t T)=do loadVar T (<-asAddr (a.tmps.getD t undef))):∀(l:List ResultVar) (ns:List RX),zaP4 C.P l ns=true->zbQ2 st ns->
  ∃us,(l.mapM F).run C.P w=.ok us w/\us.length=ns.length/\∀(i:Nat) (u:Value) (x:RX),us[i]? =some u->ns[i]? =some x->Rep w W μ u (resA st x)
 |[],[],_,_=>⟨[],rfl,rfl,λ i u x h=>by simp at h⟩
 |[],_::_,h,_=>by simp[zaP4]at h
 |x::l,[],h,_=>by cases x<;>simp[zaP4]at h
 | .cell _ _::_,.t _::_,h,_=>by simp[zaP4]at h
 | .tmp _::_,.c _ _ _::_,h,_=>by simp[zaP4]at h
 | .tmp t::l,.t n::ns,h,hg=>by
  simp only[zaP4,bM,dB]at h;obtain⟨rfl,h2⟩:=h;obtain⟨us,e1,e2,e3⟩:=zbl2 hs hF hC l ns h2 hg.2;refine⟨a.tmps.getD t undef::us,?_,by simp[e2],λ i u x hu hx=>?_⟩
  .simp only[kD,Sem.run_bind,hF,Sem.run_pure,Result.andThen_ok,e1]
  .cases i with
   |zero=>rw[List.getElem?_cons_zero]at hu hx;cases hu;cases hx;exact hs.fr t
   |succ i=>exact e3 i u x (by simpa using hu) (by simpa using hx)
 | .cell t T::l,.c n sz ag::ns,h,hg=>by
  simp only[zaP4,bM,dB]at h;obtain⟨⟨rfl,hT⟩,h2⟩:=h;obtain⟨us,e1,e2,e3⟩:=zbl2 hs hF hC l ns h2 hg.2;have hg1:=hg.1;have hl:∃u,(F (.cell t T)).run C.P w=.ok u w/\Rep w W μ u (resA st (.c t sz ag)):=by
   simp only[resG]at hg1;split at hg1
   .rename_i ef he;obtain⟨b,q,u,h1,h3,h4⟩:=zcD4 (P:=C.P) hs hT (hs.fr t) he hg1;refine⟨u,?_,?_⟩
    .rw[hC];simp only[h1,Sem.run_bind];show(((loadVar T ⟨b,q,none⟩).run C.P w))=_;exact h3
    .simp only[resA,he];exact h4
   .exact hg1.elim
  obtain⟨u0,h5,h6⟩:=hl;refine⟨u0::us,?_,by simp[e2],λ i u x hu hx=>?_⟩
  .simp only[kD,Sem.run_bind,h5,Sem.run_pure,Result.andThen_ok,e1]
  .cases i with
   |zero=>simp at hu hx;subst hu;subst hx;exact h6
   |succ i=>exact e3 i u x (by simpa using hu) (by simpa using hx)
theorem zbQ3(fn:Func){E:Env}{st:St}{a:Act}{w:World}{W:Nat->Prop}{μ:Nat->Loc}(hs:SatW E st.toS a w W μ){rs:List RX}(h:zaP4 C.P fn.results.toList rs=true)(hg:zbQ2 st rs):
  ∃us,(results fn a.tmps).run C.P w=.ok (zbK0 us) w/\us.length=rs.length/\∀(i:Nat) (u:Value) (x:RX),us[i]? =some u->rs[i]? =some x->Rep w W μ u (resA st x):=by
 have e:∀F:ResultVar->Sem Value,fn.results.mapM F=List.toArray<$>fn.results.toList.mapM F:=λ F=>by rw[<-List.mapM_toArray,Array.toArray_toList]
 let F:ResultVar->Sem Value:=λ
  | .tmp t=>pure (a.tmps.getD t undef)
  | .cell x t=>do loadVar t (<-asAddr (a.tmps.getD x undef))
 have eF:results fn a.tmps=(do
   let vs<-fn.results.mapM F
   pure (if h:vs.size=1 then vs[0]else .tuple vs)):=by
  unfold results;congr 1
 obtain⟨us,h1,h2,h3⟩:=zbl2 (C:=C) hs (F:=F) (λ t=>rfl) (λ t T=>rfl) _ _ h hg;refine⟨us,?_,h2,h3⟩;rw[eF];simp only[Sem.run_bind];rw[e F,Sem.run_map,h1];simp only[Result.andThen_ok,Sem.run_pure,gT]
 match us with
 |[t]=>simp[zbK0]
 |[]=>simp[zbK0]
 |_::_::_=>simp[zbK0]
theorem zcE9{st:St}:∀{rs:List RX},allG st rs->zbQ2 st rs
 |[],_=>trivial
 |_::_,h=>⟨h.1.1,zcE9 h.2⟩
theorem zda0{st:St}:∀{rs:List RX},allG st rs->∀(i:Nat) (x:RX),rs[i]? =some x->zaz5 st.m (resA st x)
 |y::ys,h,i,x,hx=>by
  cases i with
  |zero=>simp at hx;subst hx;exact h.1.2
  |succ i=>exact zda0 h.2 i x (by simpa using hx)
 |[],_,i,x,hx=>by simp at hx
theorem zcF0{st:St}:∀(rs:List RX) (i:Nat),(zbh1 st rs)[i]? =(rs[i]?).map λ x=>frz st.m (resA st x)
 |[],i=>by simp[zbh1]
 |y::ys,i=>by
  cases i with
  |zero=>simp[zbh1]
  |succ i=>simpa [zbh1]using zcF0 ys i
theorem zbK1{f:FuncId}{pc:PC}{N np:Nat}{rs:List RX}(hchk:chkF C.P f pc N rs np=true){as:List A}(hnp:as.length=np){r:A}
  (h:∀E:Env,E.G=C.G->E.N=N->E.k0=0->AW C E pc (Post rs r) ⟨zI9 0 as,[],0⟩):PFn C f as r:=by
 intro w W vs hgl hlt hlen hargs;unfold chkF at hchk;split at hchk
 .rename_i fn hfn;simp only[bM,dB]at hchk;obtain⟨⟨⟨hc,hN⟩,hres⟩,hle⟩:=hchk;have hle:np<=N:=eZ hle;split at hc
  .rename_i c hb
   let E:Env:=⟨w,W,λ _=>False,N,C.G,0,zay3⟩
   have hS:SatW E (⟨zI9 0 as,[],0⟩:St).toS {tmps:=vs.toArray++Array.replicate (fn.ntmps-vs.toArray.size) undef,defers:=[]} w W zay3:={
    defers:=rfl
    size:=by simp;show vs.length+(fn.ntmps-vs.length)=N;omega
    fr:=λ t=>by
     show Rep w W zay3 _ ((⟨zI9 0 as,[],0⟩:St).slot t);simp only[St.slot,zaI8,fM,bT,Nat.sub_zero];cases ha:as[t]? with
     |none=>trivial
     |some b=>
      have ht:t<vs.length:=by rw[hlen];exact(bY.1 ha).1
      have hv:vs[t]? =some vs[t]:=by simp[ht]
      have:(vs.toArray++Array.replicate (fn.ntmps-vs.toArray.size) undef).getD t undef=vs[t]:=by rw[fR,gK (by simpa using ht)];simp[ht]
      rw[this];exact zp2 (hargs t _ b hv ha)
    mem:=λ x=>by show zau0 w W zay3 x ((⟨zI9 0 as,[],0⟩:St).m x);simp[St.m,zau0,zay3]
    inj:=λ x y k k' hx=>by cases hx
    keeps:=Keeps.refl _ w
    winlt:=hlt
    wsub:=λ b h=>.inl h
    wsup:=λ b h=>.inl h
    wlt:=hlt
    live:=λ x k hx=>by cases hx
    glob:=hgl
    fix:=λ x hx=>absurd hx (Nat.not_lt_zero x)}
   have hwp:=h E rfl rfl rfl c hc _ w ⟨W,zay3,hS⟩;refine calls_of_wp hfn hb (wp_mono hwp λ e a' w' ⟨st',hq,W',μ',hs'⟩=>?_);have fin:zcs1 st' rs r->a'.defers=[]/\∃v,(results fn a'.tmps).run C.P w'=.ok v w'/\∃u,Ending.returned v=.returned u/\Keeps (λ _=>False) w w'/\Rep w' W zay3 u r:=λ hro=>by
    obtain⟨hg,hr⟩:=hro;obtain⟨us,hrun,hul,hus⟩:=zbQ3 fn hs' hres (zcE9 hg);refine⟨hs'.defers,_,hrun,_,rfl,hs'.keeps,?_⟩;have toW:∀{v:Value} {b:A},RepV w' (zaI7 W' μ' (zaz6 b)) zay3 v (frz st'.m b)->RepV w' W zay3 v (frz st'.m b):=λ{v b} hv=>
     hv.goes (Keeps.refl (λ _=>False) w') (λ _ _ _ h=>h) (λ q _ h1 h2=>h1 ⟨(hs'.wsup q h2).elim id (λ h=>h.elim),λ⟨x,k,_,hk,hkb⟩=>by
      rcases hs'.live x k hk with h3|h3
      .exact h3
      .have:=hlt q h2;have h4:w.heap.size<=k.b:=h3;omega⟩) (Old.refl _)
    have one:∀(i:Nat) (u:Value) (x:RX),us[i]? =some u->rs[i]? =some x->RepV w' W zay3 u (frz st'.m (resA st' x)):=λ i u x hu hx=>toW (zcw4 (s:=st'.toS) hs' (hus i u x hu hx) (zda0 hg i x hx) (λ y hy=>hy));subst hr
    match rs,us,hul,one with
    |[x],[u],_,one=>exact zp2 (one 0 u x rfl rfl)
    |[],[],_,one=>exact⟨[],by simp[zbK0],by simp[zbh1],by simp⟩
    |x1::x2::xs,u1::u2::us,hul,one=>
     refine⟨u1::u2::us,rfl,?_,λ i u b hu hb=>?_⟩
     .simp only[zbh1,List.length_cons]at hul⊢;have:∀l,(zbh1 st' l).length=l.length:=λ l=>by induction l with
       |nil=>rfl
       |cons a l ih=>simp[zbh1,ih]
      rw[this];omega
     .have hb':(zbh1 st' (x1::x2::xs))[i]? =some b:=hb;rw[zcF0,cC]at hb';obtain⟨x,hx,rfl⟩:=hb';exact one i u x hu hx
   cases e with
   |normal=>exact fin hq
   |ret=>exact fin hq
   |_=>exact hq.elim
  .cases hc
 .cases hchk
theorem zcF1:∀{ms:List (Nat×Row)},zcs2 ms=true->∀x r,look ms x=some r->r.ro=false
 |q::ms,h,x,r,hr=>by
  simp only[zcs2,bM,cQ]at h;simp only[look]at hr;split at hr
  .cases hr;exact h.1
  .exact zcF1 h.2 x r hr
theorem zcF2:∀{l:List A},zca7 l=true->∀x∈l,x.isVV=true
 |y::ys,h,x,hx=>by
  simp only[zca7,bM]at h;rcases bX.1 hx with rfl|hx
  .exact h.1
  .exact zcF2 h.2 x hx
theorem zda1{st:St}:∀(rs:List RX) (i:Nat),(resL st rs)[i]? =(rs[i]?).map λ x=>resA st x
 |[],i=>by simp[resL]
 |y::ys,i=>by
  cases i with
  |zero=>simp[resL]
  |succ i=>simpa [resL]using zda1 ys i
theorem zcs3{f:FuncId}{pc:PC}{N np:Nat}{rs:List RX}(hchk:chkF C.P f pc N rs np=true){as:List A}(hnp:as.length=np){ms ms':List (Nat×Row)}{k k':Nat}{rl:List A}(hms:zcs2 ms=true)(hall:zbP9 ms k=true)
  (hrl:rl.length=rs.length) (h:∀E:Env,E.G=C.G->E.N=N->E.k0=k->AW C E pc (zcE8 k rs rl ms' k') ⟨zI9 0 as,ms,k⟩):MFn C f as ms k (zcs0 rl) ms' k':=by
 intro w W μ vs hgl hlt hlen hargs hmem hinj;unfold chkF at hchk;split at hchk
 .rename_i fn hfn;simp only[bM,dB]at hchk;obtain⟨⟨⟨hc,hN⟩,hres⟩,hle⟩:=hchk;have hle:np<=N:=eZ hle;have hrow:∀x r,(⟨[],ms,k⟩:St).m x=.row r->r.ro=false:=λ x r hx=>by
   simp only[St.m]at hx;split at hx
   .cases hx
   .cases hl:look ms x with
    |none=>rw[hl]at hx;cases hx
    |some r'=>rw[hl]at hx;cases hx;exact zcF1 hms x r hl
  have hfr:∀x,k<=x->μ x=.fresh:=λ x hx=>by have:=hmem x;rw[show(⟨[],ms,k⟩:St).m x=.fresh by simp only[St.m];rw[bO hx]]at this;exact this
  have hnf:∀x,x<k->μ x≠.fresh:=λ x hx hf=>by
   obtain⟨r,hr⟩:=zby6 hall x hx;have:=hmem x;rw[show(⟨[],ms,k⟩:St).m x=.row r by simp only[St.m,hr];rw[bN (by omega)]]at this;rcases this with⟨h1,_⟩|⟨kb,h1,_⟩
   .rw[hf]at h1;cases h1
   .rw[hf]at h1;cases h1
  have hown:∀x kb,μ x=.at_ kb->W kb.b:=λ x kb hx=>by obtain⟨r,h1,h2⟩:=hmem.at_ hx;exact h2.wr.1 (hrow x r h1)
  split at hc
  .rename_i c hb
   let E:Env:=⟨w,W,λ b=>W b/\∃y kb,μ y=.at_ kb/\kb.b=b,N,C.G,k,μ⟩
   have hS:SatW E (⟨zI9 0 as,ms,k⟩:St).toS {tmps:=vs.toArray++Array.replicate (fn.ntmps-vs.toArray.size) undef,defers:=[]} w W μ:={
    defers:=rfl
    size:=by simp;show vs.length+(fn.ntmps-vs.length)=N;omega
    fr:=λ t=>by
     show Rep w W μ _ ((⟨zI9 0 as,ms,k⟩:St).slot t);simp only[St.slot,zaI8,fM,bT,Nat.sub_zero];cases ha:as[t]? with
     |none=>trivial
     |some b=>
      have ht:t<vs.length:=by rw[hlen];exact(bY.1 ha).1
      have hv:vs[t]? =some vs[t]:=by simp[ht]
      have:(vs.toArray++Array.replicate (fn.ntmps-vs.toArray.size) undef).getD t undef=vs[t]:=by rw[fR,gK (by simpa using ht)];simp[ht]
      rw[this];exact zp2 (hargs t _ b hv ha)
    mem:=hmem
    inj:=hinj
    keeps:=Keeps.refl _ w
    winlt:=hlt
    wsub:=λ b h=>.inl h
    wsup:=λ b h=>.inl h
    wlt:=hlt
    live:=λ x kb hx=>.inl ⟨hown x kb hx,x,kb,hx,rfl⟩
    glob:=hgl
    fix:=λ x hx=>.inl ⟨rfl,hnf x hx⟩}
   have hwp:=h E rfl rfl rfl c hc _ w ⟨W,μ,hS⟩;refine calls_of_wp hfn hb (wp_mono hwp λ e a' w' ⟨st',hq,W1,μ1,hs'⟩=>?_);have fin:zbe0 k st' rs rl ms' k'->a'.defers=[]/\∃v,(results fn a'.tmps).run C.P w'=.ok v w'/\∃u W' μ',Ending.returned v=.returned u/\Step (⟨[],ms,k⟩:St).m (⟨[],ms',k'⟩:St).m w w' W W' μ μ'/\Rep w' W' μ' u (zcs0 rl):=λ⟨hg,hvv,l,hle',hfx⟩=>by
    obtain⟨us,hrun,hul,hus⟩:=zbQ3 fn hs' hres hg
    let E':Env:={E with N:=us.length}
    have hs1:SatW E' (⟨zI9 0 (resL st' rs),st'.mem,st'.nx⟩:St).toS {tmps:=us.toArray,defers:=[]} w' W1 μ1:={
     defers:=rfl
     size:=by simp;rfl
     fr:=λ t=>by
      show Rep w' W1 μ1 _ ((⟨zI9 0 (resL st' rs),st'.mem,st'.nx⟩:St).slot t);simp only[St.slot,zaI8,fM,bT,Nat.sub_zero,zda1];cases hx:rs[t]? with
      |none=>trivial
      |some x=>
       have ht:t<us.length:=by rw[hul];exact(bY.1 hx).1
       have:us.toArray.getD t undef=us[t]:=by simp[Array.getD,ht]
       show Rep w' W1 μ1 (us.toArray.getD t undef) (resA st' x);rw[this];exact hus t _ x (by simp[ht]) hx
     mem:=hs'.mem
     inj:=hs'.inj
     keeps:=hs'.keeps
     winlt:=hs'.winlt
     wsub:=hs'.wsub
     wsup:=hs'.wsup
     wlt:=hs'.wlt
     live:=hs'.live
     glob:=hs'.glob
     fix:=hs'.fix}
    obtain⟨W2,μ2,hs2⟩:=St.le_of (E:=E') l hle' hfx _ w' ⟨W1,μ1,hs1⟩;have hst:Step (⟨[],ms,k⟩:St).m (⟨[],ms',k'⟩:St).m w w' W W2 μ μ2:={
     keeps:=hs2.keeps
     hW:=λ b hb h=>by
      rcases hs2.wsub b h with h1|h1
      .exact h1
      .have h2:w.heap.size<=b:=h1;omega
     wsup:=λ b hb=>by
      rcases hs2.wsup b hb with h1|h1
      .exact .inl h1
      .exact .inr h1.2
     wlt0:=hlt
     wlt:=hs2.wlt
     old:=λ x hx=>by
      by_cases hxk:x<k
      .rcases hs2.fix x hxk with h1|h1
       .exact .inl h1.1
       .exact .inr h1
      .exact absurd (hfr x (by omega)) hx
     mem:=hs2.mem
     inj:=hs2.inj
     live:=λ x kb hx=>by
      rcases hs2.live x kb hx with h1|h1
      .exact .inl h1.2
      .exact .inr h1}
    have one:∀(i:Nat) (u:Value) (b:A),us[i]? =some u->rl[i]? =some b->RepV w' W2 μ2 u b:=λ i u b hu hb=>by
     have h1:=hs2.fr i;have hi:i<us.length:=(bY.1 hu).1;have h2:(⟨zI9 0 rl,ms',k'⟩:St).slot i=b:=by simp only[St.slot,zaI8,fM,bT,Nat.sub_zero,hb,Option.getD_some]
     have h3:us.toArray.getD i undef=u:=by rw[bW hi]at hu;cases hu;simp[Array.getD,hi]
     have h4:Rep w' W2 μ2 (us.toArray.getD i undef) ((⟨zI9 0 rl,ms',k'⟩:St).slot i):=h1;rw[h2,h3]at h4;have hv:=zcF2 hvv b (cF hb);exact h4.toVV hv
    refine⟨hs'.defers,_,hrun,_,W2,μ2,rfl,hst,?_⟩
    match rl,us,(hul.trans hrl.symm),one with
    |[b],[u],_,one=>exact zp2 (one 0 u b rfl rfl)
    |[],[],_,_=>exact⟨[],by simp[zbK0],by simp,by simp⟩
    |b1::b2::bs,u1::u2::us,hul,one=>exact⟨u1::u2::us,rfl,hul,one⟩
   cases e with
   |normal=>exact fin hq
   |ret=>exact fin hq
   |_=>exact hq.elim
  .cases hc
 .cases hchk
end
def zaZ1(C:Cx):List POp->St->(St->Prop)->Prop
 |[],st,K=>K st
 |p::ps,st,K=>aop C p st λ st'=>(st'.mem=st.mem/\st'.nx=st.nx)/\zaZ1 C ps st' K
section
variable {C:Cx} {E:Env}
theorem zdK3{p:POp}{st:St}{K:St->Prop}(h:aop C p st K):∃v mw,K (st.app p.dst v mw)/\aop C p st (λ s=>s=st.app p.dst v mw):=by
 unfold aop at h⊢;cases hg:zI2 st p.g with
 |none=>simp[hg]at h
 |some g=>
  simp only[hg]at h⊢;cases hp:p.po<;>simp only[hp]at h|-
  case pick=>
   split at h
   .split at h
    .exact⟨_,_,h.2,h.1,rfl⟩
    .exact h.elim
   .exact h.elim
  case call f=>obtain⟨r,h1,h2,h3⟩:=h;exact⟨_,_,h3,r,h1,h2,rfl⟩
  case callv=>
   split at h
   .obtain⟨r,h1,h2,h3⟩:=h;exact⟨_,_,h3,r,h1,h2,rfl⟩
   .exact h.elim
  case callb=>
   split at h
   .obtain⟨r,h1,h2,h3⟩:=h;exact⟨_,_,h3,r,h1,h2,rfl⟩
   .exact h.elim
  case callm f=>obtain⟨l,as,ms,k,r,ms',k',h1,h2,h3,h4,h5⟩:=h;exact⟨_,_,h5,l,as,ms,k,r,ms',k',h1,h2,h3,h4,rfl⟩
  case callvm=>
   split at h
   .obtain⟨l,as,ms,k,r,ms',k',h1,h2,h3,h4,h5⟩:=h;exact⟨_,_,h5,l,as,ms,k,r,ms',k',h1,h2,h3,h4,rfl⟩
   .exact h.elim
  all_goals
   split at h
   .exact⟨_,_,h.2.2,h.1,h.2.1,rfl⟩
   .exact⟨_,_,h.2.2,h.1,h.2.1,rfl⟩
theorem zaI9{x:PX}{f g:Nat->A}(G:zbP5)(h:∀t∈rdsX [x],f t=g t):xv G f x=xv G g x:=by cases x<;>first|rfl|exact h _ (by simp[rdsX])
theorem zQ1(x:PX)(xs:List PX)(t:Nat):t∈rdsX (x::xs)↔t∈rdsX [x]\/t∈rdsX xs:=by cases x<;>simp[rdsX]
theorem zbE7{st st2:St}:∀(xs:List PX),(∀t∈rdsX xs,st.slot t=st2.slot t)->zs5 C st xs=zs5 C st2 xs/\(zaf4 C st xs↔zaf4 C st2 xs)
 |[],_=>⟨rfl,kG⟩
 |x::xs,h=>by have h1:=zaI9 (x:=x) C.G (f:=st.slot) (g:=st2.slot) λ t ht=>h t ((zQ1 x xs t).2 (.inl ht));obtain⟨h2,h3⟩:=zbE7 xs λ t ht=>h t ((zQ1 x xs t).2 (.inr ht));simp only[zs5,zaf4,h1,h2,h3,cN]
theorem zda2{st st2:St}(hm:st2.mem=st.mem)(hn:st2.nx=st.nx):st2.m=st.m:=by funext x;simp only[St.m,hm,hn]
theorem zaU0{st:St}{d:Option Nat}{v u:A}{mw:List (Nat×MS)}{st2:St}(h:st.app d u mw=st.app d v [])(hm:st2.mem=st.mem)(hn:st2.nx=st.nx):st2.app d u mw=st2.app d v []:=by
 simp only[St.app,St.mk.injEq,putM,nxt]at h⊢;obtain⟨h1,h2,h3⟩:=h;refine⟨?_,by rw[hm];exact h2,by rw[hn];exact h3⟩;cases d with
 |none=>rfl
 |some d=>simp only[putF,fX,Prod.mk.injEq,fU,iA]at h1⊢;exact h1
theorem zdg0{p:POp}{st st2:St}{v:A}(hm:st2.mem=st.mem)(hn:st2.nx=st.nx)(hr:∀t∈p.rds,st.slot t=st2.slot t)
  (h:aop C p st (λ s=>s=st.app p.dst v [])):aop C p st2 (λ s=>s=st2.app p.dst v []):=by
 have hx:∀t∈rdsX p.xs,st.slot t=st2.slot t:=λ t ht=>hr t (cG _ ht);obtain⟨hv,hgd⟩:=zbE7 (C:=C) p.xs hx;have hgo:zI2 st2 p.g=zI2 st p.g:=by
  cases hg:p.g with
  |none=>rfl
  |some q=>simp only[zI2];rw[hr q.1 (cW _ (by simp[hg]))]
 unfold aop at h⊢;rw[hgo,<-hv,hn,zda2 hm hn,<-hgd];cases hg:zI2 st p.g with
 |none=>simp[hg]at h
 |some g=>
  simp only[hg]at h⊢;cases hp:p.po<;>simp only[hp]at h|-
  case pick=>
   split at h
   .rename_i c x y hxs;simp only[hxs]at hx⊢;have e1:=zaI9 (x:=c) C.G (f:=st.slot) (g:=st2.slot) λ t ht=>hx t ((zQ1 _ _ _).2 (.inl ht));have e2:=zaI9 (x:=x) C.G (f:=st.slot) (g:=st2.slot) λ t ht=>hx t ((zQ1 _ _ _).2 (.inr ((zQ1 _ _ _).2 (.inl ht))));have e3:=zaI9 (x:=y) C.G (f:=st.slot) (g:=st2.slot) λ t ht=>hx t ((zQ1 _ _ _).2 (.inr ((zQ1 _ _ _).2 (.inr ht))));rw[<-e1,<-e2,<-e3];split at h
    .exact⟨h.1,zaU0 h.2 hm hn⟩
    .exact h.elim
   .exact h.elim
  case call f=>obtain⟨r,h1,h2,h3⟩:=h;exact⟨r,h1,h2,zaU0 h3 hm hn⟩
  case callv=>
   split at h
   .obtain⟨r,h1,h2,h3⟩:=h;exact⟨r,h1,h2,zaU0 h3 hm hn⟩
   .exact h.elim
  case callb=>
   split at h
   .obtain⟨r,h1,h2,h3⟩:=h;exact⟨r,h1,h2,zaU0 h3 hm hn⟩
   .exact h.elim
  case callm f=>obtain⟨l,as,ms,k,r,ms',k',h1,h2,h3,h4,h5⟩:=h;exact⟨l,as,ms,k,r,ms',k',h1,h2,h3,h4,zaU0 h5 hm hn⟩
  case callvm=>
   split at h
   .obtain⟨l,as,ms,k,r,ms',k',h1,h2,h3,h4,h5⟩:=h;exact⟨l,as,ms,k,r,ms',k',h1,h2,h3,h4,zaU0 h5 hm hn⟩
   .exact h.elim
  all_goals
   split at h
   .exact⟨h.1,h.2.1,zaU0 h.2.2 hm hn⟩
   .exact⟨h.1,h.2.1,zaU0 h.2.2 hm hn⟩
def SL(ps:List POp)(vs:Nat->A)(st:St)(f:Nat->Bool):Nat->St
 |0=>st
 |n+1=>match ps[n]? with
  |some p=>if f n then(SL ps vs st f n).app p.dst (vs n) []else SL ps vs st f n
  |none=>SL ps vs st f n
theorem zcw8(ps:List POp)(vs:Nat->A)(st:St)(f:Nat->Bool):∀n,(SL ps vs st f n).mem=st.mem/\(SL ps vs st f n).nx=st.nx
 |0=>⟨rfl,rfl⟩
 |n+1=>by
  have:=zcw8 ps vs st f n;simp only[SL];split
  .split
   .exact this
   .exact this
  .exact this
theorem zaJ0(st:St)(d:Option Nat)(v:A)(t:Nat):(st.app d v []).slot t=if d=some t then v else st.slot t:=by
 rw[zcE2];cases d with
 |none=>simp[setF]
 |some d=>
  by_cases h:t=d
  .subst h;simp[setF]
  .simp[setF,h,kB h,show¬d=t fromλ e=>h e.symm]
theorem zdt8{ps:List POp}{vs:Nat->A}{st:St}{f:Nat->Bool}{j:Nat}{p:POp}(hp:ps[j]? =some p)(hf:f j=false)(f':Nat->Bool)(hj:f' j=true)(hf':∀i,i≠j->f' i=f i)
  (hc:∀i q,j<i->ps[i]? =some q->f i=true->conf p q=false):∀n t,(SL ps vs st f' n).slot t=if j<n/\p.dst=some t then vs j else(SL ps vs st f n).slot t
 |0,t=>by simp[SL]
 |n+1,t=>by
  have ih:=zdt8 (vs:=vs) (st:=st) hp hf f' hj hf' hc n
  by_cases hn:n=j
  .subst hn;simp only[SL,hp,hj,hf,bT,bP,bV,zaJ0]
   by_cases hd:p.dst=some t
   .simp[hd]
   .simp only[hd,bV,and_false];have:=ih t
    simpa [hd]using this
  .have hlt:j<n+1↔j<n:=by omega
   simp only[SL,hf' n hn,hlt];cases hq:ps[n]? with
   |none=>simpa using ih t
   |some q=>
    simp only[];split
    .rename_i hfn;rw[zaJ0,zaJ0,ih t]
     by_cases hd:q.dst=some t
     .simp only[hd,bT]
      by_cases hjn:j<n
      .have:=hc n q hjn hq hfn;unfold conf at this
       by_cases hpd:p.dst=some t
       .simp[hpd,hd]at this
       .simp[hpd]
      .simp[hjn]
     .simp[hd]
    .exact ih t
theorem zda3{ps:List POp}{vs:Nat->A}{st:St}{f:Nat->Bool}{j t:Nat}(h1:∀i q,i<j->ps[i]? =some q->q.dst=some t->f i=true)(h2:∀i q,j<=i->ps[i]? =some q->q.dst=some t->f i=false):
  ∀n,(SL ps vs st f n).slot t=(SL ps vs st (λ _=>true) (min n j)).slot t
 |0=>by simp[SL]
 |n+1=>by
  have ih:=zda3 (vs:=vs) (st:=st) h1 h2 n
  by_cases hn:n<j
  .rw[show min (n+1) j=n+1 by omega];rw[show min n j=n by omega]at ih;simp only[SL];cases hq:ps[n]? with
   |none=>exact ih
   |some q=>
    simp only[bT]
    by_cases hd:q.dst=some t
    .rw[h1 n q hn hq hd];simp[zaJ0,hd]
    .rw[zaJ0,bN hd];split
     .rw[zaJ0,bN hd];exact ih
     .exact ih
  .rw[show min (n+1) j=j by omega];rw[show min n j=j by omega]at ih;simp only[SL];cases hq:ps[n]? with
   |none=>exact ih
   |some q=>
    simp only[]
    by_cases hd:q.dst=some t
    .rw[h2 n q (by omega) hq hd];simpa using ih
    .split
     .rw[zaJ0,bN hd];exact ih
     .exact ih
theorem zca8{K:St->Prop}:∀(ps:List POp) (st:St),zaZ1 C ps st K->∃vs:Nat->A,K (SL ps vs st (λ _=>true) ps.length)/\
  ∀j p,ps[j]? =some p->aop C p (SL ps vs st (λ _=>true) j) (λ s=>s=(SL ps vs st (λ _=>true) j).app p.dst (vs j) [])
 |[],st,h=>⟨λ _=>.any,h,λ j p hp=>by simp at hp⟩
 |p::ps,st,h=>by
  obtain⟨v,mw,⟨⟨h1,h2⟩,h3⟩,h4⟩:=zdK3 h;have e:st.app p.dst v mw=st.app p.dst v []:=by simp only[St.app,St.mk.injEq]at h1 h2⊢;exact⟨trivial,h1,h2⟩
  rw[e]at h3 h4;obtain⟨vs,h5,h6⟩:=zca8 ps _ h3;have sh:∀n,SL (p::ps) (λ i=>match i with|0=>v|i+1=>vs i) st (λ _=>true) (n+1)=SL ps vs (st.app p.dst v []) (λ _=>true) n:=by
   intro n;induction n with
   |zero=>simp[SL]
   |succ n ih=>rw[SL,ih];simp only[List.getElem?_cons_succ];rfl
  refine⟨λ i=>match i with|0=>v|i+1=>vs i,?_,λ j q hq=>?_⟩
  .rw[List.length_cons,sh];exact h5
  .cases j with
   |zero=>simp at hq;subst hq;exact h4
   |succ j=>rw[sh];exact h6 j q (by simpa using hq)
theorem zaZ2{D:Nat->Prop}:∀(es acc:List (List Nat)),(∀j e,es[j]? =some e->D (acc.length+j)->∀i∈e,D i)->(∀j,D j->∀i∈acc.getD j [],D i)->
  ∀j,D j->∀i∈(ancs acc es).getD j [],D i
 |[],acc,_,h=>h
 |e::es,acc,he,h=>by
  unfold ancs;refine zaZ2 es _ (λ j e' hj hD=>he (j+1) e' (by simpa using hj) (by rw[bR]at hD;simp only[List.length_cons,List.length_nil]at hD;rwa [show acc.length+(j+1)=acc.length+(0+1)+j by omega])) ?_;intro j hD i hi
  by_cases hj:j<acc.length
  .refine h j hD i ?_;rw[bS,dF hj]at hi;rwa [bS]
  .by_cases hj2:j=acc.length
   .subst hj2;have he0:=he 0 e rfl (by simpa using hD);rw[bS,eJ (cU _)]at hi;simp only[iK,List.getElem?_cons_zero,Option.getD_some,cP,fI]at hi;rcases hi with hi|⟨k,hk,hi⟩
    .exact he0 i hi
    .exact h k (he0 k hk) i hi
   .rw[bS,gO (by simp;omega)]at hi;simp at hi
theorem zaU1{ps:List POp}{an:List (List Nat)}(h:zbJ9 ps an=true){i j:Nat}{p q:POp}(hij:i<j)(hp:ps[i]? =some p)(hq:ps[j]? =some q)(hc:conf p q=true):i∈an.getD j []:=by
 unfold zbJ9 at h;have h1:=cS.1 h j (dH.2 (bY.1 hq).1);have h2:=cS.1 h1 i (dH.2 hij);simp only[hp,hq,hc,cI,dK]at h2
 simpa using h2
theorem zbl3:∀(os:List Oper) (n:Nat),POp.sortOk os n=true->∀j o,os[j]? =some o->∀i∈zF3 o,i<n+j
 |[],_,_,j,o,h=>by simp at h
 |x::os,n,h,j,o,ho=>by
  simp only[POp.sortOk,bM]at h;cases j with
  |zero=>
   simp at ho;subst ho;intro i hi;simp only[zF3,cD,dM]at hi;obtain⟨e,⟨he,hb⟩,rfl⟩:=hi;have:=Array.all_eq_true_iff_forall_mem.1 h.1 e (by simpa using he)
   simpa [hb]using this
  |succ j=>intro i hi;have:=zbl3 os (n+1) h.2 j o (by simpa using ho) i hi;omega
def left(f:Nat->Bool):Nat->Nat
 |0=>0
 |n+1=>left f n+if f n then 0 else 1
theorem zca9{f f':Nat->Bool}{j:Nat}(hj:f j=false)(hj':f' j=true)(h:∀i,i≠j->f' i=f i):∀n,left f n=left f' n+if j<n then 1 else 0
 |0=>rfl
 |n+1=>by
  have ih:=zca9 hj hj' h n;simp only[left]
  by_cases hn:n=j
  .subst hn;simp[hj,hj'];simp at ih;omega
  .rw[h n hn,ih];have:j<n+1↔j<n:=by omega
   simp only[this];omega
theorem zbK2{f:Nat->Bool}:∀n,left f n=0->∀i,i<n->f i=true
 |n+1,h,i,hi=>by
  simp only[left]at h
  by_cases hn:i=n
  .subst hn;cases hf:f i with
   |true=>rfl
   |false=>simp[hf]at h
  .exact zbK2 n (by omega) i (by omega)
theorem zbe1{p q:POp}{t:Nat}(h:p.dst=some t)(hq:t∈q.rds\/q.dst=some t):conf p q=true/\(t∈q.rds->conf q p=true):=by
 unfold conf;rw[h];refine⟨?_,λ hr=>?_⟩
 .rcases hq with hq|hq<;>simp[hq]
 .simp[hr]
end
section
variable {C:Cx} {E:Env}
theorem Sat.drawn{s:S}{a:Act}{w:World}{n:Nat}(h:Sat E s a w)(hn:w.drawn<=n):Sat E s a {w with drawn:=n}:=by obtain⟨W,μ,hs⟩:=h;have hk:Keeps (λ _=>False) w {w with drawn:=n}:=⟨rfl,rfl,rfl,hn,cU _,λ _ _ _=>rfl⟩;exact⟨W,μ,hs.step (Step.quiet hk hs.mem hs.inj hs.wlt) (d:=none) (v:=undef) (av:=.any) (λ x hx=>by cases hx) trivial⟩
theorem ROk.at{ops:Array Oper}{N:Nat}:∀{ps:List POp} {n j:Nat} {o:Oper},ROk C N ops n ps->ops[n+j]? =some o->∃p,ps[j]? =some p/\POk C N ops o p
  |[],n,j,o,h,ho=>by have h:n=ops.size:=h;have:=(cE.1 ho).1;omega
  |p::ps,n,0,o,h,ho=>by obtain⟨⟨o',ho',hp⟩,_⟩:=h;rw[Nat.add_zero,ho']at ho;cases ho;exact⟨p,rfl,hp⟩
  |p::ps,n,j+1,o,h,ho=>by obtain⟨q,hq,hp⟩:=ROk.at (j:=j) h.2 (by rw[<-ho];congr 1;omega);exact⟨q,by simpa using hq,hp⟩
theorem zcb0{ps:List POp}{vs:Nat->A}{st:St}{f f':Nat->Bool}:∀n,(∀i,i<n->f i=f' i)->SL ps vs st f n=SL ps vs st f' n
  |0,_=>rfl
  |n+1,h=>by have ih:=zcb0 (ps:=ps) (vs:=vs) (st:=st) n λ i hi=>h i (by omega);simp only[SL,ih,h n (by omega)]
theorem zdg1{st st2:St}(hs:∀t,st2.slot t=st.slot t)(hm:st2.mem=st.mem)(hn:st2.nx=st.nx):st2.toS=st.toS:=by unfold St.toS;rw[zda2 hm hn,show st2.slot=st.slot from funext hs]
theorem zdg2{os:Array Oper}{ps:List POp}{st:St}{vs:Nat->A}{K:St->Prop}{Q:Exit->Act->World->Prop}(hG:E.G=C.G)(hr:ROk C E.N os 0 ps)(hso:POp.sortOk os.toList 0=true)
    (hco:zbJ9 ps (ancs [] (os.toList.map zF3))=true) (hK:K (SL ps vs st (λ _=>true) ps.length))
    (hv:∀j p,ps[j]? =some p->aop C p (SL ps vs st (λ _=>true) j) (λ s=>s=(SL ps vs st (λ _=>true) j).app p.dst (vs j) []))
    (hQ:∀st' a' w',K st'->Sat E st'.toS a' w'->Q .normal a' w'):
    ∀(fuel:Nat) (listed:Array Bool) (a:Act) (w:World),listed.size=os.size->Sat E (SL ps vs st (λ i=>listed.getD i false) ps.length).toS a w->
      (∀j o,os[j]? =some o->listed.getD j false=true->∀i∈zF3 o,listed.getD i false=true)->left (λ i=>listed.getD i false) os.size<=fuel->
      wpAny C.P .any os Q fuel listed a w:=by
  have hlen:ps.length=os.size:=by have:=hr.size;omega
  have hdone:∀(listed:Array Bool) (a:Act) (w:World),Sat E (SL ps vs st (λ i=>listed.getD i false) ps.length).toS a w->(∀i,i<os.size->listed.getD i false=true)->Q .normal a w:=by intro listed a w hs hall;refine hQ _ a w hK ?_;rw[zcb0 (f:=λ _=>true) (f':=λ i=>listed.getD i false) ps.length λ i hi=>(hall i (by omega)).symm];exact hs
  have hready:∀(listed:Array Bool),listed.size=os.size->Region.ready .any os listed=[]->∀i,i<os.size->listed.getD i false=true:=by
    intro listed hsz hr0 i;induction i using Nat.strongRecOn with
    |_ i ih=>
      intro hi;cases hl:listed.getD i false with
      |true=>rfl
      |false=>
        have:i∈Region.ready .any os listed:=by
          rw[mem_ready];refine⟨?_,os[i],by simp[hi],λ e he hb=>?_⟩
          · have h1:i<listed.size:=by omega
            simp only[Array.getD,h1,jS]at hl⊢;exact hl
          · have h2:e.on∈zF3 os[i]:=by
              simp only[zF3,cD,dM];exact⟨e,⟨by simpa using he,hb⟩,rfl⟩
            have h3:=zbl3 os.toList 0 hso i os[i] (by simp[hi]) e.on h2;exact ih e.on (by omega) (by omega)
        rw[hr0]at this;cases this
  intro fuel;induction fuel with
  |zero=>
    intro listed a w hsz hs hcl hle;have hall:=zbK2 (f:=λ i=>listed.getD i false) os.size (by omega);refine⟨?_,hdone listed a w hs hall⟩;cases hrd:Region.ready .any os listed with
    |nil=>rfl
    |cons i rs=>
      have:i∈Region.ready .any os listed:=by rw[hrd];simp
      rw[mem_ready]at this;obtain⟨h1,o,ho,_⟩:=this;have hi:=(cE.1 ho).1;have:=hall i hi;have h2:i<listed.size:=by omega
      simp only[Array.getD,h2,jS]at h1 this;rw[this]at h1;cases h1
  |succ fuel ih=>
    intro listed a w hsz hs hcl hle;refine⟨λ hr0=>hdone listed a w hs (hready listed hsz hr0),λ i hi=>?_⟩;rw[mem_ready]at hi;obtain⟨hl,o,ho,hed⟩:=hi;have hlt:=(cE.1 ho).1;have hlt2:i<listed.size:=by omega
    have hl:listed.getD i false=false:=by simp only[Array.getD,hlt2,jS]at hl⊢;exact hl
    obtain⟨p,hp,hpo⟩:=hr.at (j:=i) (by rw[dG];exact ho);have hedge:∀k∈zF3 o,listed.getD k false=true:=by intro k hk;simp only[zF3,cD,dM]at hk;obtain⟨e,⟨he,hb⟩,rfl⟩:=hk;exact hed e (by simpa using he) hb
    have hset:(listed.setIfInBounds i true).getD i false=true:=by simp[Array.getD,hlt2]
    have hsetne:∀k,k≠i->(listed.setIfInBounds i true).getD k false=listed.getD k false:=λ k hk=>getD_set_ne false (kB hk);have hcl':∀j o,os[j]? =some o->(listed.setIfInBounds i true).getD j false=true->∀k∈zF3 o,(listed.setIfInBounds i true).getD k false=true:=by
      intro j o' ho' hj k hk
      by_cases hji:j=i
      · subst hji
        rw[ho]at ho';cases ho';exact getD_set_true (hedge k hk)
      · rw[hsetne j hji]at hj
        exact getD_set_true (hcl j o' ho' hj k hk)
    have hanc:∀j,(listed.setIfInBounds i true).getD j false=true->∀k∈(ancs [] (os.toList.map zF3)).getD j [],(listed.setIfInBounds i true).getD k false=true:=
      zaZ2 (D:=λ j=>(listed.setIfInBounds i true).getD j false=true) _ [] (λ j e he hD=>by
        simp only[cH,cC]at he;obtain⟨o',ho',rfl⟩:=he;exact hcl' j o' (by simpa using ho') (by simpa using hD)) (λ j _ k hk=>by simp at hk)
    have hanc0:∀j,listed.getD j false=true->∀k∈(ancs [] (os.toList.map zF3)).getD j [],listed.getD k false=true:=
      zaZ2 (D:=λ j=>listed.getD j false=true) _ [] (λ j e he hD=>by
        simp only[cH,cC]at he;obtain⟨o',ho',rfl⟩:=he;exact hcl j o' (by simpa using ho') (by simpa using hD)) (λ j _ k hk=>by simp at hk)
    have hbef:∀k q,k<i->ps[k]? =some q->conf q p=true->listed.getD k false=true:=by intro k q hk hq hc;have:=hanc i hset k (zaU1 hco hk hq hp hc);rwa [hsetne k (by omega)]at this
    have haft:∀k q,i<k->ps[k]? =some q->conf p q=true->listed.getD k false=false:=by
      intro k q hk hq hc;cases hlk:listed.getD k false with
      |false=>rfl
      |true=>have:=hanc0 k hlk i (zaU1 hco hk hp hq hc);rw[hl]at this;cases this
    have hmem:=zcw8 ps vs st (λ k=>listed.getD k false) ps.length;have hmem2:=zcw8 ps vs st (λ _=>true) i;have hil:i<ps.length:=(bY.1 hp).1;have haop:aop C p (SL ps vs st (λ k=>listed.getD k false) ps.length) (λ s=>s=(SL ps vs st (λ k=>listed.getD k false) ps.length).app p.dst (vs i) []):=by
      refine zdg0 (st:=SL ps vs st (λ _=>true) i) (by rw[hmem.1,hmem2.1]) (by rw[hmem.2,hmem2.2]) (λ t ht=>?_) (hv i p hp);rw[zda3 (j:=i) (t:=t) (λ k q hk hq hd=>hbef k q hk hq (zbe1 hd (.inl ht)).1) (λ k q hk hq hd=>?_) ps.length,iY (iL hil)]
      by_cases hki:k=i
      .subst hki;exact hl
      .exact haft k q (by omega) hq ((zbe1 hd (.inl ht)).2 ht)
    obtain ⟨W,μ,hs⟩:=hs;have key:=zcr7 hs hG hpo haop (Q:=Q) (k:=wpAny C.P .any os Q fuel (listed.setIfInBounds i true)) (λ st' a' w' hst hs'=>by
      subst hst;refine ih _ a' w' (by simpa using hsz) ?_ hcl' ?_
      · have e:(SL ps vs st (λ k=>(listed.setIfInBounds i true).getD k false) ps.length).toS=((SL ps vs st (λ k=>listed.getD k false) ps.length).app p.dst (vs i) []).toS:=by
          have hm3:=zcw8 ps vs st (λ k=>(listed.setIfInBounds i true).getD k false) ps.length;refine zdg1 (λ t=>?_) ?_ ?_
          · rw[zdt8 (f:=λ k=>listed.getD k false) hp hl (λ k=>(listed.setIfInBounds i true).getD k false) hset hsetne (λ k q hk hq hfk=>?_),zaJ0]
            .simp only[hil,fU]
            · cases hc:conf p q with
              |false=>rfl
              |true=>have:=haft k q hk hq hc;exact absurd (this.symm.trans hfk) (by simp)
          .rw[hm3.1];exact hmem.1.symm
          .rw[hm3.2];exact hmem.2.symm
        rw[e];exact hs'
      · have:=zca9 (f:=λ k=>listed.getD k false) (f':=λ k=>(listed.setIfInBounds i true).getD k false) (j:=i) hl hset hsetne os.size
        rw[bO hlt]at this;omega)
    simp only[wpOp,ho];split at key
    .rename_i hw;rw[bO hw];exact .inl key
    .rename_i hw;rw[bN hw];exact key
theorem zdK4{Q:Exit->St->Prop}{st:St}{dr:List Nat}{ops:List POp}(hm:C.P.follows .mixedOrders=true)(hG:E.G=C.G)(h:zaZ1 C ops st λ s=>Q .normal (s.drop dr)):AW C E (.regd dr ops) Q st:=λ code hc a w hs=>by
  cases code with
  |region id os d=>
   cases d with
   |false=>simp[chkC]at hc
   |true=>
    simp only[chkC,bM,zcZ8]at hc;obtain⟨hc1,hc2,hc3⟩:=hc;have hr:ROk C E.N os 0 ops:=by obtain⟨P,G⟩:=C;exact zbs0 os.toList ops 0 hc1 (by simp) (by simp)
    obtain⟨vs,hK,hv⟩:=zca8 ops st h;refine wp_region_any hm ?_;refine zdg2 (st:=st) (vs:=vs) hG hr hc2 hc3 hK hv (λ st' a' w' hQ hs'=>⟨_,hQ,hs'.drop⟩) os.size _ a _ (by simp) ?_ (λ j o ho hj=>?_) ?_
    · have e:SL ops vs st (λ i=>(Array.replicate os.size false).getD i false) ops.length=SL ops vs st (λ _=>false) ops.length:=zcb0 _ λ i _=>by simp[Array.getD]
      have e2:∀n,SL ops vs st (λ _=>false) n=st:=λ n=>by
        induction n with
        |zero=>rfl
        |succ n ih=>simp only[SL,ih,bP,bV];split<;>rfl
      rw[e,e2];exact hs.drawn (jR _)
    .simp[Array.getD]at hj
    · have:∀n,left (λ i=>(Array.replicate os.size false).getD i false) n<=n:=λ n=>by
        induction n with
        |zero=>exact cU _
        |succ n ih=>simp only[left];split<;>omega
      exact this _
  |_=>simp[chkC]at hc
end
theorem zQ2{a b:ByteArray}:a.toList=b.toList↔a=b:=by
 constructor
 .intro h;rw[ByteArray.toList_eq,ByteArray.toList_eq]at h;cases a;cases b;simp only[ByteArray.mk.injEq];exact Array.toList_inj.1 (by simpa using h)
 .intro h;rw[h]
def eI(k:IntKind)(x:Int):List A:=[A.int k x]
def eB(x:Bool):List A:=[A.bool x]
def eS(x:ByteArray):List A:=[A.str x]
def eL{α:Type}(f:α->List A)(l:List α):List A:=[A.sl (l.map f)]
@[go_sem] theorem zef4(a:A):sub [a] 0 1=[a]:=rfl
@[go_sem] theorem zef5(a b:A):upd [a] 0 [b]=[b]:=rfl
@[go_sem] theorem zed0{α β:Type}(f:α->β)(l:List α)(n:Nat):(l.map f).take n=(l.take n).map f:=List.map_take.symm
@[go_sem] theorem zed1{α β:Type}(f:α->β)(l:List α)(n:Nat):(l.map f).drop n=(l.drop n).map f:=List.map_drop.symm
@[go_sem] theorem zdU1{α β:Type}(f:α->β)(l m:List α):l.map f++m.map f=(l++m).map f:=eE.symm
attribute [go_sem] dN
@[go_sem] theorem zdF9(c:List A)(cs:List (List A)):zU1 (c::cs)↔zn6 c=true/\zU1 cs:=by
 constructor
 .intro h;refine⟨?_,λ d hd=>h d (.tail _ hd)⟩;have:=h c (.head _)
  clear h
  induction c with
  |nil=>rfl
  |cons a c ih=>simp only[zn6,bM];exact⟨this a (.head _),ih λ b hb=>this b (.tail _ hb)⟩
 .rintro⟨h1,h2⟩ d hd;rcases bX.1 hd with rfl|hd
  .exact zap8 h1
  .exact h2 d hd
@[go_sem] theorem zdp3(a b:List (List A)):zU1 (a++b)↔zU1 a/\zU1 b:=by simp only[zU1,cP];exact⟨λ h=>⟨λ c k=>h c (.inl k),λ c k=>h c (.inr k)⟩,λ h c k=>k.elim (h.1 c) (h.2 c)⟩
@[go_sem] theorem zdZ9:maxLen=9223372036854775807:=rfl
@[go_sem] theorem eI.getD(k:IntKind)(l:List Int)(i:Nat):(l.map (eI k)).getD i [A.int k 0]=[A.int k (l.getD i 0)]:=by simp only[bS,cH];cases l[i]? <;>rfl
@[go_sem] theorem eI.snoc(k:IntKind)(l:List Int)(x:Int):l.map (eI k)++[[A.int k x]]=(l++[x]).map (eI k):=by simp[eI]
@[go_sem] theorem eI.allLen(k:IntKind)(l:List Int):zN7 1 (l.map (eI k)):=by intro c hc;obtain⟨x,_,rfl⟩:=cD.1 hc;rfl
@[go_sem] theorem eI.pureRows(k:IntKind)(l:List Int):zU1 (l.map (eI k)):=by intro c hc;obtain⟨x,_,rfl⟩:=cD.1 hc;intro a ha;simp[eI]at ha;subst ha;rfl
@[go_sem] theorem eI.pureEs(k:IntKind)(l:List Int):pureEs (l.map (eI k))=true:=by induction l with
 |nil=>rfl
 |cons a l ih=>simpa [Ab.pureEs,zn6,A.pure1,eI]using ih
@[go_sem] theorem eS.getD(l:List ByteArray)(i:Nat):(l.map eS).getD i [A.str ⟨#[]⟩]=[A.str (l.getD i ⟨#[]⟩)]:=by simp only[bS,cH];cases l[i]? <;>rfl
@[go_sem] theorem eL.getD{α:Type}(f:α->List A)(l:List (List α))(i:Nat):(l.map (eL f)).getD i [A.sl (([]:List α).map f)]=[A.sl ((l.getD i []).map f)]:=by simp only[bS,cH];cases l[i]? <;>rfl
@[go_sem] theorem eL.getD0{α:Type}(f:α->List A)(l:List (List α))(i:Nat):(l.map (eL f)).getD i [A.sl []]=[A.sl ((l.getD i []).map f)]:=eL.getD f l i
@[ext] structure Arr (α:Type) (n:Nat) where
 l:List α
 h:l.length=n
instance{α:Type}[DecidableEq α]{n:Nat}:DecidableEq (Arr α n):=λ a b=>decidable_of_iff (a.l=b.l) (by rw[Arr.ext_iff])
def Arr.get{α:Type}{n:Nat}(a:Arr α n)(i:Nat)(z:α):α:=a.l.getD (zI4 i n) z
def Arr.put{α:Type}{n:Nat}(a:Arr α n)(i:Nat)(x:α):Arr α n:=⟨a.l.set (zI4 i n) x,by simp[a.h]⟩
def Arr.rep{α:Type}(n:Nat)(x:α):Arr α n:=⟨List.replicate n x,by simp⟩
def Arr.enc{α:Type}{n:Nat}(f:α->List A)(a:Arr α n):List A:=(a.l.map f).flatten
theorem zcF3{α:Type}(f:α->List A)(sz:Nat)(hf:∀x,(f x).length=sz):∀l:List α,(l.map f).flatten.length=l.length*sz
 |[]=>by simp
 |a::l=>by simp only[cX,List.flatten_cons,bR,hf,zcF3 f sz hf l,List.length_cons];rw[dL];omega
theorem zda4{α:Type}(f:α->List A)(sz:Nat)(hf:∀x,(f x).length=sz)(z:α):∀(l:List α) (i:Nat),i<l.length->sub (l.map f).flatten (i*sz) sz=f (l.getD i z)
 |[],i,h=>by simp at h
 |a::l,0,_=>by simp[sub,hf a]
 |a::l,i+1,h=>by have:=zda4 f sz hf z l i (by simpa using h);simp only[sub,cX,List.flatten_cons,hB]at this⊢;rw[<-this,jW,fJ (by rw[hf,dL];omega),hf,List.nil_append];congr 2;rw[dL];omega
theorem zcF4{α:Type}(f:α->List A)(sz:Nat)(hf:∀x,(f x).length=sz)(x:α):∀(l:List α) (i:Nat),i<l.length->upd (l.map f).flatten (i*sz) (f x)=((l.set i x).map f).flatten
 |[],i,h=>by simp at h
 |a::l,0,_=>by simp[upd,hf]
 |a::l,i+1,h=>by
  have:=zcF4 f sz hf x l i (by simpa using h);simp only[upd,cX,List.flatten_cons,List.set_cons_succ]at this⊢;rw[<-this];have e:(i+1)*sz=(f a).length+i*sz:=by rw[hf,dL];omega
  rw[e,List.take_length_add_append,fS,List.drop_length_add_append];simp[bZ]
@[go_sem] theorem Arr.enc_len{α:Type}{n:Nat}(f:α->List A)(a:Arr α n)(sz:Nat)(hf:∀x,(f x).length=sz):(Arr.enc f a).length=n*sz:=by rw[Arr.enc,zcF3 f sz hf,a.h]
theorem zB3{α:Type}(l:List α)(i:Nat)(z:α)(h:i<l.length):l.getD i z=l[i]:=by rw[bS,bW h];rfl
theorem zaO5{i n:Nat}(h:0<n):zI4 i n<n:=by unfold zI4;split<;>omega
theorem zaz8{i n:Nat}(h:i<n):zI4 i n=i:=bO h
theorem zcw9{α:Type}{n sz:Nat}(f:α->List A)(hf:∀x,(f x).length=sz)(z:α)(a:Arr α (n+1))(i:Nat):sub (Arr.enc f a) (zI4 i (n+1)*sz) sz=f (a.get i z):=zda4 f sz hf z a.l _ (by rw[a.h];exact zaO5 (by omega))
theorem zda5{α:Type}{n sz:Nat}(f:α->List A)(hf:∀x,(f x).length=sz)(a:Arr α (n+1))(i:Nat)(x:α):upd (Arr.enc f a) (zI4 i (n+1)*sz) (f x)=Arr.enc f (a.put i x):=zcF4 f sz hf x a.l _ (by rw[a.h];exact zaO5 (by omega))
attribute [go_sem] zaz8
@[go_sem] theorem zea0(i n:Nat):(zI4 i (n+1)<=n)=True:=by have:=zaO5 (i:=i) (n:=n+1) (by omega);exact eq_true (by omega)
section
variable {n:Nat}
@[go_sem] theorem eI.alen(k:IntKind)(a:Arr Int n):(Arr.enc (eI k) a).length=n:=by rw[Arr.enc_len _ _ 1 (λ _=>rfl),fQ]
@[go_sem] theorem eB.alen(a:Arr Bool n):(Arr.enc eB a).length=n:=by rw[Arr.enc_len _ _ 1 (λ _=>rfl),fQ]
@[go_sem] theorem eS.alen(a:Arr ByteArray n):(Arr.enc eS a).length=n:=by rw[Arr.enc_len _ _ 1 (λ _=>rfl),fQ]
@[go_sem] theorem eI.aat(k:IntKind)(a:Arr Int (n+1))(i:Nat):sub (Arr.enc (eI k) a) (zI4 i (n+1)) 1=[A.int k (a.get i 0)]:=by have:=zcw9 (eI k) (sz:=1) (λ _=>rfl) 0 a i;rwa [fQ]at this
@[go_sem] theorem eI.aput(k:IntKind)(a:Arr Int (n+1))(i:Nat)(x:Int):upd (Arr.enc (eI k) a) (zI4 i (n+1)) [A.int k x]=Arr.enc (eI k) (a.put i x):=by have:=zda5 (eI k) (sz:=1) (λ _=>rfl) a i x;rwa [fQ]at this
@[go_sem] theorem eI.aputc(k:IntKind)(a:Arr Int (n+1))(i:Nat)(x:Int)(h:i<n+1):upd (Arr.enc (eI k) a) i [A.int k x]=Arr.enc (eI k) (a.put i x):=by have:=eI.aput k a i x;rwa [zaz8 h]at this
@[go_sem] theorem eB.aat(a:Arr Bool (n+1))(i:Nat):sub (Arr.enc eB a) (zI4 i (n+1)) 1=[A.bool (a.get i false)]:=by have:=zcw9 eB (sz:=1) (λ _=>rfl) false a i;rwa [fQ]at this
@[go_sem] theorem eB.aat2{m:Nat}(a:Arr (Arr Bool (m+1)) (n+1))(i j:Nat):sub (Arr.enc (Arr.enc eB) a) (zI4 i (n+1)*(m+1)+zI4 j (m+1)) 1=[A.bool ((a.get i (Arr.rep (m+1) false)).get j false)]:=by have h1:=zcw9 (sz:=m+1) (Arr.enc eB) (λ x=>eB.alen x) (Arr.rep (m+1) false) a i;have h2:=eB.aat (a.get i (Arr.rep (m+1) false)) j;have hj:=zaO5 (i:=j) (n:=m+1) (by omega);rw[<-h2,<-h1];simp only[sub,List.drop_take,iR,eQ];congr 1;omega
@[go_sem] theorem zdU2(i j n m k:Nat)(h:(n+1)*(m+1)<=k+1):(zI4 i (n+1)*(m+1)+zI4 j (m+1)<=k)=True:=by have h1:=zaO5 (i:=i) (n:=n+1) (by omega);have h2:=zaO5 (i:=j) (n:=m+1) (by omega);have h3:(zI4 i (n+1)+1)*(m+1)<=(n+1)*(m+1):=dD _ h1;rw[dL]at h3;exact eq_true (by omega)
@[go_sem] theorem eB.aput(a:Arr Bool (n+1))(i:Nat)(x:Bool):upd (Arr.enc eB a) (zI4 i (n+1)) [A.bool x]=Arr.enc eB (a.put i x):=by have:=zda5 eB (sz:=1) (λ _=>rfl) a i x;rwa [fQ]at this
@[go_sem] theorem eB.aputc(a:Arr Bool (n+1))(i:Nat)(x:Bool)(h:i<n+1):upd (Arr.enc eB a) i [A.bool x]=Arr.enc eB (a.put i x):=by have:=eB.aput a i x;rwa [zaz8 h]at this
@[go_sem] theorem eS.aat(a:Arr ByteArray (n+1))(i:Nat):sub (Arr.enc eS a) (zI4 i (n+1)) 1=[A.str (a.get i ⟨#[]⟩)]:=by have:=zcw9 eS (sz:=1) (λ _=>rfl) ⟨#[]⟩ a i;rwa [fQ]at this
@[go_sem] theorem eB.aall(a b:Arr Bool n):upd (Arr.enc eB a) 0 (Arr.enc eB b)=Arr.enc eB b:=by simp[upd,eB.alen]
@[go_sem] theorem eI.asub(k:IntKind)(a:Arr Int n):sub (Arr.enc (eI k) a) 0 n=Arr.enc (eI k) a:=by rw[sub,fD,dN (by rw[eI.alen];exact cU _)]
@[go_sem] theorem eB.asub(a:Arr Bool n):sub (Arr.enc eB a) 0 n=Arr.enc eB a:=by rw[sub,fD,dN (by rw[eB.alen];exact cU _)]
theorem zbl4{α:Type}(f:α->List A)(hf:∀x,zn6 (f x)=true):∀l:List α,zn6 (l.map f).flatten=true
 |[]=>rfl
 |a::l=>by
  have h1:=hf a;have h2:=zbl4 f hf l;have:∀x y:List A,zn6 x=true->zn6 y=true->zn6 (x++y)=true:=λ x y hx hy=>by
   induction x with
   |nil=>exact hy
   |cons c x ih=>simp only[zn6,bM,List.cons_append]at hx⊢;exact⟨hx.1,ih hx.2⟩
  simpa using this _ _ h1 h2
@[go_sem] theorem eI.apure(k:IntKind)(a:Arr Int n):zn6 (Arr.enc (eI k) a)=true:=zbl4 _ (λ _=>rfl) _
@[go_sem] theorem eB.apure(a:Arr Bool n):zn6 (Arr.enc eB a)=true:=zbl4 _ (λ _=>rfl) _
end
class En (T:Type) where
 sz:Nat
 e:T->List A
 z:T
attribute [go_sem] En.sz En.e En.z
@[go_sem] abbrev bx{T:Type}[En T](v:T):Row:=⟨false,En.sz T,En.e (En.z:T),[En.e v]⟩
@[go_sem] abbrev sx{T:Type}[En T](v:List T):Row:=⟨false,En.sz T,En.e (En.z:T),v.map En.e⟩
@[go_sem] abbrev ga{T:Type}[En T](v:T):A:=.agg (En.e v)
@[go_sem] abbrev la{T:Type}[En T](v:List T):A:=.sl (v.map En.e)
section
variable {T:Type} {f:T→List A}
@[go_sem] theorem zdU3{n:Nat}(h:∀x,(f x).length=n)(l:List T):zN7 n (l.map f):=by intro c hc;obtain⟨x,_,rfl⟩:=cD.1 hc;exact h x
@[go_sem] theorem zdK5(h:∀x,zn6 (f x)=true)(l:List T):zU1 (l.map f):=by intro c hc;obtain⟨x,_,rfl⟩:=cD.1 hc;exact zap8 (h x)
@[go_sem] theorem zdU4(h:∀x,zn6 (f x)=true)(l:List T):pureEs (l.map f)=true:=by induction l with
 |nil=>rfl
 |cons a l ih=>simp[Ab.pureEs,h,ih]
@[go_sem] theorem zed2(l:List T)(i:Nat)(z:T):(l.map f).getD i (f z)=f (l.getD i z):=by simp only[bS,cH];cases l[i]? <;>rfl
@[go_sem] theorem zed3(l:List T)(x:T):l.map f++[f x]=(l++[x]).map f:=by simp
@[go_sem] theorem zef6(l:List T)(i:Nat)(x:T):(l.map f).set i (f x)=(l.set i x).map f:=by simp[List.map_set]
end
@[ext] structure aD where
 name:ByteArray
 (kind aV home:Int)
 deriving DecidableEq
namespace aD
def zero:aD:=⟨⟨#[]⟩,0,0,0⟩
def enc(x:aD):List A:=[A.str x.name,A.int .i64 x.kind,A.int .i64 x.aV,A.int .i64 x.home]
@[go_sem] theorem len(x:aD):(enc x).length=4:=by simp[enc]
instance:En aD:=⟨4,enc,zero⟩
@[go_sem] theorem laws(x:aD):
 zn6 (enc x)=true/\
 zz9 (enc x)=true/\
 zq9 [.s,.i .i64,.i .i64,.i .i64] (enc x)=true/\
 sub (enc x) 0 4=enc x/\
 (∀y,upd (enc x) 0 (enc y)=enc y)/\
 sub (enc x) 0 1=[A.str x.name]/\
 sub (enc x) 1 1=[A.int .i64 x.kind]/\
 sub (enc x) 2 1=[A.int .i64 x.aV]/\
 sub (enc x) 3 1=[A.int .i64 x.home]/\
 (∀v,upd (enc x) 0 ([A.str v])=enc {x with name:=v})/\
 (∀v,upd (enc x) 1 ([A.int .i64 v])=enc {x with kind:=v})/\
 (∀v,upd (enc x) 2 ([A.int .i64 v])=enc {x with aV:=v})/\
 (∀v,upd (enc x) 3 ([A.int .i64 v])=enc {x with home:=v})/\
 (∀(c0 c1 c2 c3:A) (cs:List A),upd (c0::c1::c2::c3::cs) 0 (enc x)=A.str x.name::A.int .i64 x.kind::A.int .i64 x.aV::A.int .i64 x.home::cs)/\
 (∀(c0 c1 c2 c3:A),upd (enc x) 0 [c0,c1,c2,c3]=[c0,c1,c2,c3]):=by simp[sub,upd,zn6,A.pure1,zz9,A.scal1,zq9,LK.fits,eD,enc]
@[go_sem] theorem eq(x y:aD):eqA (enc x) (enc y)=decide (x=y):=by rw[cJ];simp[eqA,eq1,zQ2,eV,enc,aD.ext_iff]
end aD
@[ext] structure aF where
 (site inc num:Int)
 deriving DecidableEq
namespace aF
def zero:aF:=⟨0,0,0⟩
def enc(x:aF):List A:=[A.int .i64 x.site,A.int .i64 x.inc,A.int .i64 x.num]
@[go_sem] theorem len(x:aF):(enc x).length=3:=by simp[enc]
instance:En aF:=⟨3,enc,zero⟩
@[go_sem] theorem laws(x:aF):
 zn6 (enc x)=true/\
 zz9 (enc x)=true/\
 zq9 [.i .i64,.i .i64,.i .i64] (enc x)=true/\
 sub (enc x) 0 3=enc x/\
 (∀y,upd (enc x) 0 (enc y)=enc y)/\
 sub (enc x) 0 1=[A.int .i64 x.site]/\
 sub (enc x) 1 1=[A.int .i64 x.inc]/\
 sub (enc x) 2 1=[A.int .i64 x.num]/\
 (∀v,upd (enc x) 0 ([A.int .i64 v])=enc {x with site:=v})/\
 (∀v,upd (enc x) 1 ([A.int .i64 v])=enc {x with inc:=v})/\
 (∀v,upd (enc x) 2 ([A.int .i64 v])=enc {x with num:=v})/\
 (∀(c0 c1 c2:A) (cs:List A),upd (c0::c1::c2::cs) 0 (enc x)=A.int .i64 x.site::A.int .i64 x.inc::A.int .i64 x.num::cs)/\
 (∀(c0 c1 c2:A),upd (enc x) 0 [c0,c1,c2]=[c0,c1,c2]):=by simp[sub,upd,zn6,A.pure1,zz9,A.scal1,zq9,LK.fits,eD,enc]
@[go_sem] theorem eq(x y:aF):eqA (enc x) (enc y)=decide (x=y):=by rw[cJ];simp[eqA,eq1,zQ2,eV,enc,aF.ext_iff]
@[go_sem] theorem rep(n:Nat)(x:aF):List.replicate n (enc x)=(List.replicate n x).map enc:=by simp
end aF
@[ext] structure aC where
 (mode aV:Int)
 deriving DecidableEq
namespace aC
def zero:aC:=⟨0,0⟩
def enc(x:aC):List A:=[A.int .i64 x.mode,A.int .i64 x.aV]
@[go_sem] theorem len(x:aC):(enc x).length=2:=by simp[enc]
instance:En aC:=⟨2,enc,zero⟩
@[go_sem] theorem laws(x:aC):
 zn6 (enc x)=true/\
 zz9 (enc x)=true/\
 zq9 [.i .i64,.i .i64] (enc x)=true/\
 sub (enc x) 0 2=enc x/\
 (∀y,upd (enc x) 0 (enc y)=enc y)/\
 sub (enc x) 0 1=[A.int .i64 x.mode]/\
 sub (enc x) 1 1=[A.int .i64 x.aV]/\
 (∀v,upd (enc x) 0 ([A.int .i64 v])=enc {x with mode:=v})/\
 (∀v,upd (enc x) 1 ([A.int .i64 v])=enc {x with aV:=v})/\
 (∀(c0 c1:A) (cs:List A),upd (c0::c1::cs) 0 (enc x)=A.int .i64 x.mode::A.int .i64 x.aV::cs)/\
 (∀(c0 c1:A),upd (enc x) 0 [c0,c1]=[c0,c1]):=by simp[sub,upd,zn6,A.pure1,zz9,A.scal1,zq9,LK.fits,eD,enc]
@[go_sem] theorem eq(x y:aC):eqA (enc x) (enc y)=decide (x=y):=by rw[cJ];simp[eqA,eq1,zQ2,eV,enc,aC.ext_iff]
end aC
@[ext] structure aT where
 aI:aF
 aJ:aC
 deriving DecidableEq
namespace aT
def zero:aT:=⟨aF.zero,aC.zero⟩
def enc(x:aT):List A:=aF.enc x.aI++aC.enc x.aJ
@[go_sem] theorem len(x:aT):(enc x).length=5:=by simp[enc,aC.len,aF.len]
instance:En aT:=⟨5,enc,zero⟩
@[go_sem] theorem laws(x:aT):
 zn6 (enc x)=true/\
 zz9 (enc x)=true/\
 zq9 [.i .i64,.i .i64,.i .i64,.i .i64,.i .i64] (enc x)=true/\
 sub (enc x) 0 5=enc x/\
 (∀y,upd (enc x) 0 (enc y)=enc y)/\
 sub (enc x) 0 3=aF.enc x.aI/\
 sub (enc x) 3 2=aC.enc x.aJ/\
 sub (enc x) 3 1=[A.int .i64 x.aJ.mode]/\
 sub (enc x) 4 1=[A.int .i64 x.aJ.aV]/\
 (∀v,upd (enc x) 0 (aF.enc v)=enc {x with aI:=v})/\
 (∀v,upd (enc x) 3 (aC.enc v)=enc {x with aJ:=v})/\
 (∀(c0 c1 c2 c3 c4:A) (cs:List A),upd (c0::c1::c2::c3::c4::cs) 0 (enc x)=A.int .i64 x.aI.site::A.int .i64 x.aI.inc::A.int .i64 x.aI.num::A.int .i64 x.aJ.mode::A.int .i64 x.aJ.aV::cs)/\
 (∀(c0 c1 c2 c3 c4:A),upd (enc x) 0 [c0,c1,c2,c3,c4]=[c0,c1,c2,c3,c4]):=by simp[sub,upd,zn6,A.pure1,zz9,A.scal1,zq9,LK.fits,eD,enc,aC.enc,aF.enc]
@[go_sem] theorem eq(x y:aT):eqA (enc x) (enc y)=decide (x=y):=by rw[cJ];simp[eqA,eq1,zQ2,eV,enc,aC.enc,aF.enc,aT.ext_iff,aC.ext_iff,aF.ext_iff]
@[go_sem] theorem rep(n:Nat)(x:aT):List.replicate n (enc x)=(List.replicate n x).map enc:=by simp
end aT
@[ext] structure aM where
 aI:aF
 aJ:aC
 (aX bG:Int)
 deriving DecidableEq
namespace aM
def zero:aM:=⟨aF.zero,aC.zero,0,0⟩
def enc(x:aM):List A:=aF.enc x.aI++aC.enc x.aJ++[A.int .i64 x.aX,A.int .i64 x.bG]
@[go_sem] theorem len(x:aM):(enc x).length=7:=by simp[enc,aC.len,aF.len]
instance:En aM:=⟨7,enc,zero⟩
@[go_sem] theorem laws(x:aM):
 zn6 (enc x)=true/\
 zz9 (enc x)=true/\
 zq9 [.i .i64,.i .i64,.i .i64,.i .i64,.i .i64,.i .i64,.i .i64] (enc x)=true/\
 sub (enc x) 0 7=enc x/\
 (∀y,upd (enc x) 0 (enc y)=enc y)/\
 sub (enc x) 0 3=aF.enc x.aI/\
 sub (enc x) 3 2=aC.enc x.aJ/\
 sub (enc x) 3 1=[A.int .i64 x.aJ.mode]/\
 sub (enc x) 4 1=[A.int .i64 x.aJ.aV]/\
 sub (enc x) 5 1=[A.int .i64 x.aX]/\
 sub (enc x) 6 1=[A.int .i64 x.bG]/\
 (∀v,upd (enc x) 0 (aF.enc v)=enc {x with aI:=v})/\
 (∀v,upd (enc x) 3 (aC.enc v)=enc {x with aJ:=v})/\
 (∀v,upd (enc x) 5 ([A.int .i64 v])=enc {x with aX:=v})/\
 (∀v,upd (enc x) 6 ([A.int .i64 v])=enc {x with bG:=v})/\
 (∀(c0 c1 c2 c3 c4 c5 c6:A) (cs:List A),upd (c0::c1::c2::c3::c4::c5::c6::cs) 0 (enc x)=A.int .i64 x.aI.site::A.int .i64 x.aI.inc::A.int .i64 x.aI.num::A.int .i64 x.aJ.mode::A.int .i64 x.aJ.aV::A.int .i64 x.aX::A.int .i64 x.bG::cs)/\
 (∀(c0 c1 c2 c3 c4 c5 c6:A),upd (enc x) 0 [c0,c1,c2,c3,c4,c5,c6]=[c0,c1,c2,c3,c4,c5,c6]):=by simp[sub,upd,zn6,A.pure1,zz9,A.scal1,zq9,LK.fits,eD,enc,aC.enc,aF.enc]
@[go_sem] theorem eq(x y:aM):eqA (enc x) (enc y)=decide (x=y):=by rw[cJ];simp[eqA,eq1,zQ2,eV,enc,aC.enc,aF.enc,aM.ext_iff,aC.ext_iff,aF.ext_iff]
@[go_sem] theorem rep(n:Nat)(x:aM):List.replicate n (enc x)=(List.replicate n x).map enc:=by simp
end aM
@[ext] structure aA where
 aB:aD
 aL:(List aT)
 (aH aU:(List aM))
 gen:Int
namespace aA
def zero:aA:=⟨aD.zero,[],[],[],0⟩
def enc(x:aA):List A:=aD.enc x.aB++[A.sl (x.aL.map aT.enc),A.sl (x.aH.map aM.enc),A.sl (x.aU.map aM.enc),A.int .i64 x.gen]
@[go_sem] theorem len(x:aA):(enc x).length=8:=by simp[enc,aD.len]
instance:En aA:=⟨8,enc,zero⟩
@[go_sem] theorem laws(x:aA):
 zn6 (enc x)=true/\
 zz9 (enc x)=false/\
 sub (enc x) 0 8=enc x/\
 (∀y,upd (enc x) 0 (enc y)=enc y)/\
 sub (enc x) 0 4=aD.enc x.aB/\
 sub (enc x) 0 1=[A.str x.aB.name]/\
 sub (enc x) 4 1=[A.sl (x.aL.map aT.enc)]/\
 sub (enc x) 5 1=[A.sl (x.aH.map aM.enc)]/\
 sub (enc x) 6 1=[A.sl (x.aU.map aM.enc)]/\
 sub (enc x) 7 1=[A.int .i64 x.gen]/\
 (∀v,upd (enc x) 0 (aD.enc v)=enc {x with aB:=v})/\
 (∀v,upd (enc x) 4 ([A.sl (v.map aT.enc)])=enc {x with aL:=v})/\
 (∀v,upd (enc x) 5 ([A.sl (v.map aM.enc)])=enc {x with aH:=v})/\
 (∀v,upd (enc x) 6 ([A.sl (v.map aM.enc)])=enc {x with aU:=v})/\
 (∀v,upd (enc x) 7 ([A.int .i64 v])=enc {x with gen:=v})/\
 (∀(c0 c1 c2 c3 c4 c5 c6 c7:A) (cs:List A),upd (c0::c1::c2::c3::c4::c5::c6::c7::cs) 0 (enc x)=A.str x.aB.name::A.int .i64 x.aB.kind::A.int .i64 x.aB.aV::A.int .i64 x.aB.home::A.sl (x.aL.map aT.enc)::A.sl (x.aH.map aM.enc)::A.sl (x.aU.map aM.enc)::A.int .i64 x.gen::cs)/\
 (∀(c0 c1 c2 c3 c4 c5 c6 c7:A),upd (enc x) 0 [c0,c1,c2,c3,c4,c5,c6,c7]=[c0,c1,c2,c3,c4,c5,c6,c7])/\
 (∀y lo k,upd (enc x) 4 [.own y lo k]=[A.str x.aB.name,A.int .i64 x.aB.kind,A.int .i64 x.aB.aV,A.int .i64 x.aB.home,.own y lo k,A.sl (x.aH.map aM.enc),A.sl (x.aU.map aM.enc),A.int .i64 x.gen])/\
 (∀y lo k,upd (enc x) 5 [.own y lo k]=[A.str x.aB.name,A.int .i64 x.aB.kind,A.int .i64 x.aB.aV,A.int .i64 x.aB.home,A.sl (x.aL.map aT.enc),.own y lo k,A.sl (x.aU.map aM.enc),A.int .i64 x.gen])/\
 (∀y lo k,upd (enc x) 6 [.own y lo k]=[A.str x.aB.name,A.int .i64 x.aB.kind,A.int .i64 x.aB.aV,A.int .i64 x.aB.home,A.sl (x.aL.map aT.enc),A.sl (x.aH.map aM.enc),.own y lo k,A.int .i64 x.gen]):=by simp[sub,upd,zn6,A.pure1,zz9,A.scal1,zq9,LK.fits,eD,enc,aD.enc]
@[go_sem] theorem rep(n:Nat)(x:aA):List.replicate n (enc x)=(List.replicate n x).map enc:=by simp
end aA
@[ext] structure bF where
 aI:aF
 name:ByteArray
 gen:Int
 deriving DecidableEq
namespace bF
def zero:bF:=⟨aF.zero,⟨#[]⟩,0⟩
def enc(x:bF):List A:=aF.enc x.aI++[A.str x.name,A.int .i64 x.gen]
@[go_sem] theorem len(x:bF):(enc x).length=5:=by simp[enc,aF.len]
instance:En bF:=⟨5,enc,zero⟩
@[go_sem] theorem laws(x:bF):
 zn6 (enc x)=true/\
 zz9 (enc x)=true/\
 zq9 [.i .i64,.i .i64,.i .i64,.s,.i .i64] (enc x)=true/\
 sub (enc x) 0 5=enc x/\
 (∀y,upd (enc x) 0 (enc y)=enc y)/\
 sub (enc x) 0 3=aF.enc x.aI/\
 sub (enc x) 3 1=[A.str x.name]/\
 sub (enc x) 4 1=[A.int .i64 x.gen]/\
 (∀v,upd (enc x) 0 (aF.enc v)=enc {x with aI:=v})/\
 (∀v,upd (enc x) 3 ([A.str v])=enc {x with name:=v})/\
 (∀v,upd (enc x) 4 ([A.int .i64 v])=enc {x with gen:=v})/\
 (∀(c0 c1 c2 c3 c4:A) (cs:List A),upd (c0::c1::c2::c3::c4::cs) 0 (enc x)=A.int .i64 x.aI.site::A.int .i64 x.aI.inc::A.int .i64 x.aI.num::A.str x.name::A.int .i64 x.gen::cs)/\
 (∀(c0 c1 c2 c3 c4:A),upd (enc x) 0 [c0,c1,c2,c3,c4]=[c0,c1,c2,c3,c4]):=by simp[sub,upd,zn6,A.pure1,zz9,A.scal1,zq9,LK.fits,eD,enc,aF.enc]
@[go_sem] theorem eq(x y:bF):eqA (enc x) (enc y)=decide (x=y):=by rw[cJ];simp[eqA,eq1,zQ2,eV,enc,aF.enc,bF.ext_iff,aF.ext_iff]
end bF
@[ext] structure bC where
 aG:(List aA)
 tags:(List bF)
namespace bC
def zero:bC:=⟨[],[]⟩
def enc(x:bC):List A:=[A.sl (x.aG.map aA.enc),A.sl (x.tags.map bF.enc)]
@[go_sem] theorem len(x:bC):(enc x).length=2:=by simp[enc]
instance:En bC:=⟨2,enc,zero⟩
@[go_sem] theorem laws(x:bC):
 zn6 (enc x)=true/\
 zz9 (enc x)=false/\
 sub (enc x) 0 2=enc x/\
 (∀y,upd (enc x) 0 (enc y)=enc y)/\
 sub (enc x) 0 1=[A.sl (x.aG.map aA.enc)]/\
 sub (enc x) 1 1=[A.sl (x.tags.map bF.enc)]/\
 (∀v,upd (enc x) 0 ([A.sl (v.map aA.enc)])=enc {x with aG:=v})/\
 (∀v,upd (enc x) 1 ([A.sl (v.map bF.enc)])=enc {x with tags:=v})/\
 (∀(c0 c1:A) (cs:List A),upd (c0::c1::cs) 0 (enc x)=A.sl (x.aG.map aA.enc)::A.sl (x.tags.map bF.enc)::cs)/\
 (∀(c0 c1:A),upd (enc x) 0 [c0,c1]=[c0,c1])/\
 (∀y lo k,upd (enc x) 0 [.own y lo k]=[.own y lo k,A.sl (x.tags.map bF.enc)])/\
 (∀y lo k,upd (enc x) 1 [.own y lo k]=[A.sl (x.aG.map aA.enc),.own y lo k]):=by simp[sub,upd,zn6,A.pure1,zz9,A.scal1,zq9,LK.fits,eD,enc]
end bC
@[ext] structure aO where
 name:ByteArray
 aJ:aC
 deriving DecidableEq
namespace aO
def zero:aO:=⟨⟨#[]⟩,aC.zero⟩
def enc(x:aO):List A:=[A.str x.name]++aC.enc x.aJ
@[go_sem] theorem len(x:aO):(enc x).length=3:=by simp[enc,aC.len]
instance:En aO:=⟨3,enc,zero⟩
@[go_sem] theorem laws(x:aO):
 zn6 (enc x)=true/\
 zz9 (enc x)=true/\
 zq9 [.s,.i .i64,.i .i64] (enc x)=true/\
 sub (enc x) 0 3=enc x/\
 (∀y,upd (enc x) 0 (enc y)=enc y)/\
 sub (enc x) 0 1=[A.str x.name]/\
 sub (enc x) 1 2=aC.enc x.aJ/\
 sub (enc x) 1 1=[A.int .i64 x.aJ.mode]/\
 sub (enc x) 2 1=[A.int .i64 x.aJ.aV]/\
 (∀v,upd (enc x) 0 ([A.str v])=enc {x with name:=v})/\
 (∀v,upd (enc x) 1 (aC.enc v)=enc {x with aJ:=v})/\
 (∀(c0 c1 c2:A) (cs:List A),upd (c0::c1::c2::cs) 0 (enc x)=A.str x.name::A.int .i64 x.aJ.mode::A.int .i64 x.aJ.aV::cs)/\
 (∀(c0 c1 c2:A),upd (enc x) 0 [c0,c1,c2]=[c0,c1,c2]):=by simp[sub,upd,zn6,A.pure1,zz9,A.scal1,zq9,LK.fits,eD,enc,aC.enc]
@[go_sem] theorem eq(x y:aO):eqA (enc x) (enc y)=decide (x=y):=by rw[cJ];simp[eqA,eq1,zQ2,eV,enc,aC.enc,aO.ext_iff,aC.ext_iff]
end aO
@[ext] structure aZ where
 k:Int
 aW:aO
 bE:(List aZ)
namespace aZ
def zero:aZ:=⟨0,aO.zero,[]⟩
def enc(x:aZ):List A:=[A.int .i64 x.k]++aO.enc x.aW++[A.sl (x.bE.map aZ.enc)]
termination_by _root_.SizeOf.sizeOf x
decreasing_by
 rename_i h;have h2:=iW h;cases x;simp at h2⊢;omega
@[go_sem] theorem len(x:aZ):(enc x).length=5:=by simp[enc,aO.len]
instance:En aZ:=⟨5,enc,zero⟩
@[go_sem] theorem laws(x:aZ):
 zn6 (enc x)=true/\
 zz9 (enc x)=false/\
 sub (enc x) 0 5=enc x/\
 (∀y,upd (enc x) 0 (enc y)=enc y)/\
 sub (enc x) 0 1=[A.int .i64 x.k]/\
 sub (enc x) 1 3=aO.enc x.aW/\
 sub (enc x) 1 1=[A.str x.aW.name]/\
 sub (enc x) 2 2=aC.enc x.aW.aJ/\
 sub (enc x) 2 1=[A.int .i64 x.aW.aJ.mode]/\
 sub (enc x) 3 1=[A.int .i64 x.aW.aJ.aV]/\
 sub (enc x) 4 1=[A.sl (x.bE.map aZ.enc)]/\
 (∀(c0 c1 c2 c3 c4:A) (cs:List A),upd (c0::c1::c2::c3::c4::cs) 0 (enc x)=A.int .i64 x.k::A.str x.aW.name::A.int .i64 x.aW.aJ.mode::A.int .i64 x.aW.aJ.aV::A.sl (x.bE.map aZ.enc)::cs)/\
 (∀(c0 c1 c2 c3 c4:A),upd (enc x) 0 [c0,c1,c2,c3,c4]=[c0,c1,c2,c3,c4]):=by simp[sub,upd,zn6,A.pure1,zz9,A.scal1,zq9,LK.fits,eD,enc,aC.enc,aO.enc]
end aZ
@[ext] structure bI where
 aI:aF
 bK:aZ
 gen:Int
namespace bI
def zero:bI:=⟨aF.zero,aZ.zero,0⟩
def enc(x:bI):List A:=aF.enc x.aI++aZ.enc x.bK++[A.int .i64 x.gen]
@[go_sem] theorem len(x:bI):(enc x).length=9:=by simp[enc,aZ.len,aF.len]
instance:En bI:=⟨9,enc,zero⟩
@[go_sem] theorem laws(x:bI):
 zn6 (enc x)=true/\
 zz9 (enc x)=false/\
 sub (enc x) 0 9=enc x/\
 (∀y,upd (enc x) 0 (enc y)=enc y)/\
 sub (enc x) 0 3=aF.enc x.aI/\
 sub (enc x) 3 5=aZ.enc x.bK/\
 sub (enc x) 8 1=[A.int .i64 x.gen]/\
 (∀(c0 c1 c2 c3 c4 c5 c6 c7 c8:A),upd (enc x) 0 [c0,c1,c2,c3,c4,c5,c6,c7,c8]=[c0,c1,c2,c3,c4,c5,c6,c7,c8]):=by simp[sub,upd,zn6,A.pure1,zz9,A.scal1,zq9,LK.fits,eD,enc,aC.enc,aO.enc,aZ.enc,aF.enc]
end bI
@[ext] structure aS where
 aG:(List aA)
 bA:(List bI)
namespace aS
def zero:aS:=⟨[],[]⟩
def enc(x:aS):List A:=[A.sl (x.aG.map aA.enc),A.sl (x.bA.map bI.enc)]
@[go_sem] theorem len(x:aS):(enc x).length=2:=by simp[enc]
instance:En aS:=⟨2,enc,zero⟩
@[go_sem] theorem laws(x:aS):
 zn6 (enc x)=true/\
 zz9 (enc x)=false/\
 sub (enc x) 0 2=enc x/\
 (∀y,upd (enc x) 0 (enc y)=enc y)/\
 sub (enc x) 0 1=[A.sl (x.aG.map aA.enc)]/\
 sub (enc x) 1 1=[A.sl (x.bA.map bI.enc)]/\
 (∀v,upd (enc x) 0 ([A.sl (v.map aA.enc)])=enc {x with aG:=v})/\
 (∀(c0 c1:A) (cs:List A),upd (c0::c1::cs) 0 (enc x)=A.sl (x.aG.map aA.enc)::A.sl (x.bA.map bI.enc)::cs)/\
 (∀(c0 c1:A),upd (enc x) 0 [c0,c1]=[c0,c1])/\
 (∀y lo k,upd (enc x) 0 [.own y lo k]=[.own y lo k,A.sl (x.bA.map bI.enc)]):=by simp[sub,upd,zn6,A.pure1,zz9,A.scal1,zq9,LK.fits,eD,enc]
end aS
@[ext] structure bB where
 aI:aF
 (label cost:Int)
 lower:(List aO)
namespace bB
def zero:bB:=⟨aF.zero,0,0,[]⟩
def enc(x:bB):List A:=aF.enc x.aI++[A.int .i64 x.label,A.int .i64 x.cost,A.sl (x.lower.map aO.enc)]
@[go_sem] theorem len(x:bB):(enc x).length=6:=by simp[enc,aF.len]
instance:En bB:=⟨6,enc,zero⟩
@[go_sem] theorem laws(x:bB):
 zn6 (enc x)=true/\
 zz9 (enc x)=false/\
 sub (enc x) 0 6=enc x/\
 (∀y,upd (enc x) 0 (enc y)=enc y)/\
 sub (enc x) 0 3=aF.enc x.aI/\
 sub (enc x) 3 1=[A.int .i64 x.label]/\
 sub (enc x) 4 1=[A.int .i64 x.cost]/\
 sub (enc x) 5 1=[A.sl (x.lower.map aO.enc)]/\
 (∀(c0 c1 c2 c3 c4 c5:A) (cs:List A),upd (c0::c1::c2::c3::c4::c5::cs) 0 (enc x)=A.int .i64 x.aI.site::A.int .i64 x.aI.inc::A.int .i64 x.aI.num::A.int .i64 x.label::A.int .i64 x.cost::A.sl (x.lower.map aO.enc)::cs)/\
 (∀(c0 c1 c2 c3 c4 c5:A),upd (enc x) 0 [c0,c1,c2,c3,c4,c5]=[c0,c1,c2,c3,c4,c5]):=by simp[sub,upd,zn6,A.pure1,zz9,A.scal1,zq9,LK.fits,eD,enc,aF.enc]
end bB
@[ext] structure aK where
 kind:Int
 aI:aF
 gen:Int
 aW:aO
 (aX inc round epoch site label:Int)
 done:Bool
 state:aS
 options:(List bB)
namespace aK
def zero:aK:=⟨0,aF.zero,0,aO.zero,0,0,0,0,0,0,false,aS.zero,[]⟩
def enc(x:aK):List A:=[A.int .i64 x.kind]++aF.enc x.aI++[A.int .i64 x.gen]++aO.enc x.aW++[A.int .i64 x.aX,A.int .i64 x.inc,A.int .i64 x.round,A.int .i64 x.epoch,A.int .i64 x.site,A.int .i64 x.label,A.bool x.done]++aS.enc x.state++[A.sl (x.options.map bB.enc)]
@[go_sem] theorem len(x:aK):(enc x).length=18:=by simp[enc,aO.len,aF.len,aS.len]
instance:En aK:=⟨18,enc,zero⟩
@[go_sem] theorem laws(x:aK):
 zn6 (enc x)=true/\
 zz9 (enc x)=false/\
 sub (enc x) 0 18=enc x/\
 (∀y,upd (enc x) 0 (enc y)=enc y)/\
 sub (enc x) 0 1=[A.int .i64 x.kind]/\
 sub (enc x) 1 3=aF.enc x.aI/\
 sub (enc x) 1 1=[A.int .i64 x.aI.site]/\
 sub (enc x) 4 1=[A.int .i64 x.gen]/\
 sub (enc x) 5 3=aO.enc x.aW/\
 sub (enc x) 5 1=[A.str x.aW.name]/\
 sub (enc x) 6 2=aC.enc x.aW.aJ/\
 sub (enc x) 6 1=[A.int .i64 x.aW.aJ.mode]/\
 sub (enc x) 7 1=[A.int .i64 x.aW.aJ.aV]/\
 sub (enc x) 8 1=[A.int .i64 x.aX]/\
 sub (enc x) 9 1=[A.int .i64 x.inc]/\
 sub (enc x) 10 1=[A.int .i64 x.round]/\
 sub (enc x) 11 1=[A.int .i64 x.epoch]/\
 sub (enc x) 12 1=[A.int .i64 x.site]/\
 sub (enc x) 13 1=[A.int .i64 x.label]/\
 sub (enc x) 14 1=[A.bool x.done]/\
 sub (enc x) 15 2=aS.enc x.state/\
 sub (enc x) 15 1=[A.sl (x.state.aG.map aA.enc)]/\
 sub (enc x) 16 1=[A.sl (x.state.bA.map bI.enc)]/\
 sub (enc x) 17 1=[A.sl (x.options.map bB.enc)]/\
 (∀v,upd (enc x) 0 ([A.int .i64 v])=enc {x with kind:=v})/\
 (∀v,upd (enc x) 1 (aF.enc v)=enc {x with aI:=v})/\
 (∀v,upd (enc x) 4 ([A.int .i64 v])=enc {x with gen:=v})/\
 (∀v,upd (enc x) 5 (aO.enc v)=enc {x with aW:=v})/\
 (∀v,upd (enc x) 6 (aC.enc v)=enc {x with aW:={x.aW with aJ:=v}})/\
 (∀v,upd (enc x) 8 ([A.int .i64 v])=enc {x with aX:=v})/\
 (∀v,upd (enc x) 9 ([A.int .i64 v])=enc {x with inc:=v})/\
 (∀v,upd (enc x) 10 ([A.int .i64 v])=enc {x with round:=v})/\
 (∀v,upd (enc x) 11 ([A.int .i64 v])=enc {x with epoch:=v})/\
 (∀v,upd (enc x) 12 ([A.int .i64 v])=enc {x with site:=v})/\
 (∀v,upd (enc x) 13 ([A.int .i64 v])=enc {x with label:=v})/\
 (∀v,upd (enc x) 14 ([A.bool v])=enc {x with done:=v})/\
 (∀v,upd (enc x) 15 (aS.enc v)=enc {x with state:=v})/\
 (∀v,upd (enc x) 17 ([A.sl (v.map bB.enc)])=enc {x with options:=v})/\
 (∀(c0 c1 c2 c3 c4 c5 c6 c7 c8 c9 c10 c11 c12 c13 c14 c15 c16 c17:A),upd (enc x) 0 [c0,c1,c2,c3,c4,c5,c6,c7,c8,c9,c10,c11,c12,c13,c14,c15,c16,c17]=[c0,c1,c2,c3,c4,c5,c6,c7,c8,c9,c10,c11,c12,c13,c14,c15,c16,c17])/\
 (∀y lo k,upd (enc x) 17 [.own y lo k]=[A.int .i64 x.kind,A.int .i64 x.aI.site,A.int .i64 x.aI.inc,A.int .i64 x.aI.num,A.int .i64 x.gen,A.str x.aW.name,A.int .i64 x.aW.aJ.mode,A.int .i64 x.aW.aJ.aV,A.int .i64 x.aX,A.int .i64 x.inc,A.int .i64 x.round,A.int .i64 x.epoch,A.int .i64 x.site,A.int .i64 x.label,A.bool x.done,A.sl (x.state.aG.map aA.enc),A.sl (x.state.bA.map bI.enc),.own y lo k]):=by simp[sub,upd,zn6,A.pure1,zz9,A.scal1,zq9,LK.fits,eD,enc,aC.enc,aO.enc,aF.enc,aS.enc]
end aK
@[ext] structure bJ where
 l:(List Int)
 at_:Int
namespace bJ
def zero:bJ:=⟨[],0⟩
def enc(x:bJ):List A:=[A.sl (x.l.map (eI .i64)),A.int .i64 x.at_]
@[go_sem] theorem len(x:bJ):(enc x).length=2:=by simp[enc]
instance:En bJ:=⟨2,enc,zero⟩
@[go_sem] theorem laws(x:bJ):
 zn6 (enc x)=true/\
 zz9 (enc x)=false/\
 sub (enc x) 0 2=enc x/\
 (∀y,upd (enc x) 0 (enc y)=enc y)/\
 sub (enc x) 0 1=[A.sl (x.l.map (eI .i64))]/\
 sub (enc x) 1 1=[A.int .i64 x.at_]/\
 (∀v,upd (enc x) 0 ([A.sl (v.map (eI .i64))])=enc {x with l:=v})/\
 (∀v,upd (enc x) 1 ([A.int .i64 v])=enc {x with at_:=v})/\
 (∀(c0 c1:A) (cs:List A),upd (c0::c1::cs) 0 (enc x)=A.sl (x.l.map (eI .i64))::A.int .i64 x.at_::cs)/\
 (∀(c0 c1:A),upd (enc x) 0 [c0,c1]=[c0,c1])/\
 (∀y lo k,upd (enc x) 0 [.own y lo k]=[.own y lo k,A.int .i64 x.at_]):=by simp[sub,upd,zn6,A.pure1,zz9,A.scal1,zq9,LK.fits,eD,enc]
end bJ
@[ext] structure aY where
 kind:Int
 aI:aF
 name:ByteArray
 aJ:aC
 deriving DecidableEq
namespace aY
def zero:aY:=⟨0,aF.zero,⟨#[]⟩,aC.zero⟩
def enc(x:aY):List A:=[A.int .i64 x.kind]++aF.enc x.aI++[A.str x.name]++aC.enc x.aJ
@[go_sem] theorem len(x:aY):(enc x).length=7:=by simp[enc,aC.len,aF.len]
instance:En aY:=⟨7,enc,zero⟩
@[go_sem] theorem laws(x:aY):
 zn6 (enc x)=true/\
 zz9 (enc x)=true/\
 zq9 [.i .i64,.i .i64,.i .i64,.i .i64,.s,.i .i64,.i .i64] (enc x)=true/\
 sub (enc x) 0 7=enc x/\
 (∀y,upd (enc x) 0 (enc y)=enc y)/\
 sub (enc x) 0 1=[A.int .i64 x.kind]/\
 sub (enc x) 1 3=aF.enc x.aI/\
 sub (enc x) 1 1=[A.int .i64 x.aI.site]/\
 sub (enc x) 4 1=[A.str x.name]/\
 sub (enc x) 5 2=aC.enc x.aJ/\
 (∀v,upd (enc x) 0 ([A.int .i64 v])=enc {x with kind:=v})/\
 (∀v,upd (enc x) 1 (aF.enc v)=enc {x with aI:=v})/\
 (∀v,upd (enc x) 4 ([A.str v])=enc {x with name:=v})/\
 (∀v,upd (enc x) 5 (aC.enc v)=enc {x with aJ:=v})/\
 (∀(c0 c1 c2 c3 c4 c5 c6:A) (cs:List A),upd (c0::c1::c2::c3::c4::c5::c6::cs) 0 (enc x)=A.int .i64 x.kind::A.int .i64 x.aI.site::A.int .i64 x.aI.inc::A.int .i64 x.aI.num::A.str x.name::A.int .i64 x.aJ.mode::A.int .i64 x.aJ.aV::cs)/\
 (∀(c0 c1 c2 c3 c4 c5 c6:A),upd (enc x) 0 [c0,c1,c2,c3,c4,c5,c6]=[c0,c1,c2,c3,c4,c5,c6]):=by simp[sub,upd,zn6,A.pure1,zz9,A.scal1,zq9,LK.fits,eD,enc,aC.enc,aF.enc]
@[go_sem] theorem eq(x y:aY):eqA (enc x) (enc y)=decide (x=y):=by rw[cJ];simp[eqA,eq1,zQ2,eV,enc,aC.enc,aF.enc,aY.ext_iff,aC.ext_iff,aF.ext_iff]
end aY
@[ext] structure bD where
 to:Int
 message:aK
namespace bD
def zero:bD:=⟨0,aK.zero⟩
def enc(x:bD):List A:=[A.int .i64 x.to]++aK.enc x.message
@[go_sem] theorem len(x:bD):(enc x).length=19:=by simp[enc,aK.len]
instance:En bD:=⟨19,enc,zero⟩
@[go_sem] theorem laws(x:bD):
 zn6 (enc x)=true/\
 zz9 (enc x)=false/\
 sub (enc x) 0 19=enc x/\
 (∀y,upd (enc x) 0 (enc y)=enc y)/\
 sub (enc x) 0 1=[A.int .i64 x.to]/\
 sub (enc x) 1 18=aK.enc x.message/\
 sub (enc x) 1 1=[A.int .i64 x.message.kind]/\
 sub (enc x) 5 1=[A.int .i64 x.message.gen]/\
 sub (enc x) 15 1=[A.bool x.message.done]/\
 (∀v,upd (enc x) 0 ([A.int .i64 v])=enc {x with to:=v})/\
 (∀v,upd (enc x) 1 (aK.enc v)=enc {x with message:=v})/\
 (∀(c0 c1 c2 c3 c4 c5 c6 c7 c8 c9 c10 c11 c12 c13 c14 c15 c16 c17 c18:A),upd (enc x) 0 [c0,c1,c2,c3,c4,c5,c6,c7,c8,c9,c10,c11,c12,c13,c14,c15,c16,c17,c18]=[c0,c1,c2,c3,c4,c5,c6,c7,c8,c9,c10,c11,c12,c13,c14,c15,c16,c17,c18]):=by simp[sub,upd,zn6,A.pure1,zz9,A.scal1,zq9,LK.fits,eD,enc,aC.enc,aO.enc,aK.enc,aF.enc,aS.enc]
end bD
@[ext] structure bH where
 of:Nat
 (low high plus:Int)
namespace bH
def zero:bH:=⟨zak5,0,0,0⟩
def enc(x:bH):List A:=[A.clo x.of [],A.int .i64 x.low,A.int .i64 x.high,A.int .i64 x.plus]
@[go_sem] theorem len(x:bH):(enc x).length=4:=by simp[enc]
instance:En bH:=⟨4,enc,zero⟩
@[go_sem] theorem laws(x:bH):
 zn6 (enc x)=true/\
 sub (enc x) 0 4=enc x/\
 (∀y,upd (enc x) 0 (enc y)=enc y)/\
 sub (enc x) 0 1=[A.clo x.of []]/\
 sub (enc x) 1 1=[A.int .i64 x.low]/\
 sub (enc x) 2 1=[A.int .i64 x.high]/\
 sub (enc x) 3 1=[A.int .i64 x.plus]/\
 (∀v,upd (enc x) 0 ([A.clo v []])=enc {x with of:=v})/\
 (∀v,upd (enc x) 1 ([A.int .i64 v])=enc {x with low:=v})/\
 (∀v,upd (enc x) 2 ([A.int .i64 v])=enc {x with high:=v})/\
 (∀v,upd (enc x) 3 ([A.int .i64 v])=enc {x with plus:=v}):=by simp[sub,upd,zn6,A.pure1,zz9,A.scal1,zq9,LK.fits,eD,enc]
end bH
def zaP5:A->List Nat
 | .own x _ _=>[x]
 | .ptr x _ _=>[x]
 | .mp x=>[x]
 | .it x=>[x]
 |_=>[]
def zbh2:A->List Nat
 | .clo _ cs=>cs.flatMap zaP5
 |a=>zaP5 a
def idsA:A->List Nat
 | .agg cs=>if zn6 cs then[]else cs.flatMap zbh2
 | .bnd _ cs=>if zn6 cs then[]else cs.flatMap zbh2
 |a=>zbh2 a
def zR0:List A->List Nat
 |[]=>[]
 |x::xs=>idsA x++zR0 xs
def idsP:PO->List A->List Nat
 | .mv,_=>[]
 |_,vs=>zR0 vs
def disj:List Nat->List Nat->Bool
 |[],_=>true
 |x::xs,ys=>!ys.contains x&&disj xs ys
def zbh3(an:List Nat)(i:Nat):List (List Nat×List Nat)->List Nat->List Nat->Bool
 |[],_,_=>true
 |q::log,r,w=>(an.contains i||(disj q.2 r&&disj q.2 w&&disj w q.1))&&zbh3 an (i+1) log r w
def A.flatCap:A->Bool
 | .agg _=>false
 | .clo _ cs=>cs.isEmpty
 | .bnd _ _=>false
 |_=>true
def zbl5:List A->Bool
 |[]=>true
 |c::cs=>c.flatCap&&zbl5 cs
def zaX0:List A->Bool
 | .clo _ caps::_=>zbl5 caps
 |_=>true
theorem zbQ4:∀{cs:List A},zbl5 cs=true->∀c∈cs,idsA c=zaP5 c
 |d::ds,h,c,hc=>by
  simp only[zbl5,bM]at h;rcases bX.1 hc with rfl|hc
  .cases c<;>first|rfl|(simp[A.flatCap]at h;done)|skip
   rename_i f cs;cases cs with
   |nil=>rfl
   |cons x xs=>simp[A.flatCap]at h
  .exact zbQ4 h.2 c hc
def zaz9(C:Cx)(an:List (List Nat)):List POp->St->List (List Nat×List Nat)->(St->Prop)->Prop
 |[],st,_,K=>K st
 |p::ps,st,log,K=>aopS C p st.toS st.nx λ v mw=>zbh3 (an.getD log.length []) 0 log (idsP p.po (zs5 C st p.xs)) (mw.map (·.1))=true/\zaX0 (zs5 C st p.xs)=true/\
   zaz9 C an ps (st.app p.dst v mw) (log++[(idsP p.po (zs5 C st p.xs),mw.map (·.1))]) K
section
variable {C:Cx} {E:Env}
theorem zdt9{p:POp}{s:S}{id:Nat}{K:A->List (Nat×MS)->Prop}(h:aopS C p s id K):∃v mw,K v mw/\aopS C p s id (λ v' mw'=>v'=v/\mw'=mw):=by
 unfold aopS at h⊢;cases hg:zG1 s.fr p.g with
 |none=>simp[hg]at h
 |some g=>
  simp only[hg]at h⊢;cases hp:p.po<;>simp only[hp]at h|-
  case pick=>
   split at h
   .split at h
    .exact⟨_,_,h.2,h.1,rfl,rfl⟩
    .exact h.elim
   .exact h.elim
  case call f=>obtain⟨r,h1,h2,h3⟩:=h;exact⟨_,_,h3,r,h1,h2,rfl,rfl⟩
  case callv=>
   split at h
   .obtain⟨r,h1,h2,h3⟩:=h;exact⟨_,_,h3,r,h1,h2,rfl,rfl⟩
   .exact h.elim
  case callb=>
   split at h
   .obtain⟨r,h1,h2,h3⟩:=h;exact⟨_,_,h3,r,h1,h2,rfl,rfl⟩
   .exact h.elim
  case callm f=>obtain⟨l,as,ms,k,r,ms',k',h1,h2,h3,h4,h5⟩:=h;exact⟨_,_,h5,l,as,ms,k,r,ms',k',h1,h2,h3,h4,rfl,rfl⟩
  case callvm=>
   split at h
   .obtain⟨l,as,ms,k,r,ms',k',h1,h2,h3,h4,h5⟩:=h;exact⟨_,_,h5,l,as,ms,k,r,ms',k',h1,h2,h3,h4,rfl,rfl⟩
   .exact h.elim
  all_goals
   split at h
   .exact⟨_,_,h.2.2,h.1,h.2.1,rfl,rfl⟩
   .exact⟨_,_,h.2.2,h.1,h.2.1,rfl,rfl⟩
theorem zdK6{p:POp}{st:St}{K:A->List (Nat×MS)->Prop}(h:aopS C p st.toS st.nx K):aopS C p st.toS st.nx (λ v mw=>mwOk st.nx mw/\K v mw):=by
 unfold aopS at h⊢;simp only[St.toS]at h⊢;cases hg:zG1 st.slot p.g with
 |none=>simp[hg]at h
 |some g=>
  simp only[hg]at h⊢;cases hp:p.po<;>simp only[hp]at h|-
  case pick=>
   split at h
   .split at h
    .exact⟨h.1,trivial,h.2⟩
    .exact h.elim
   .exact h.elim
  case call f=>obtain⟨r,h1,h2,h3⟩:=h;exact⟨r,h1,h2,zaO3 st _ _,h3⟩
  case callv=>
   split at h
   .obtain⟨r,h1,h2,h3⟩:=h;exact⟨r,h1,h2,zaO3 st _ _,h3⟩
   .exact h.elim
  case callb=>
   split at h
   .obtain⟨r,h1,h2,h3⟩:=h;exact⟨r,h1,h2,zaO3 st _ _,h3⟩
   .exact h.elim
  case callm f=>exact zbW4 h
  case callvm=>
   split at h
   .exact zbW4 h
   .exact h.elim
  all_goals
   split at h
   .rename_i ef hev;obtain⟨h1,h2,h3⟩:=h;exact⟨h1,h2,zcZ6 hev,h3⟩
   .exact⟨h.1,h.2.1,trivial,h.2.2⟩
theorem zbe2{m m2:Nat->MS}{x:A}(h:∀y∈zbh2 x,m y=m2 y):frz1 m x=frz1 m2 x/\(zat3 m x↔zat3 m2 x):=by
 cases x<;>first|exact⟨rfl,kG⟩|skip
 rename_i y lo n;have:=h y (by simp[zbh2,zaP5]);simp only[frz1,zat3,this,cN]
theorem zcb1{x:A}:∀y∈zaz6 x,y∈idsA x:=by
 cases x<;>intro y hy<;>first|(simp[zaz6,zP8]at hy;done)|skip
 .rename_i z lo n;simpa [zaz6,zP8,idsA,zbh2,zaP5]using hy
 .rename_i cs;simp only[zaz6,idsA]at hy⊢;split at hy
  .cases hy
  .rename_i hp;rw[bN hp];obtain⟨c,hc,hy⟩:=fI.1 hy;refine fI.2 ⟨c,hc,?_⟩;cases c<;>simp[zP8]at hy;subst hy;simp[zbh2,zaP5]
theorem zcs4{m m2:Nat->MS}{x:A}(h:∀y∈idsA x,m y=m2 y):frz m x=frz m2 x/\(zaz5 m x↔zaz5 m2 x):=by
 cases x with
 |agg cs=>
  simp only[frz,zaz5];split
  .exact⟨rfl,kG⟩
  .rename_i hp;simp only[idsA,bN hp]at h;have h2:∀c∈cs,∀y∈zbh2 c,m y=m2 y:=λ c hc y hy=>h y (fI.2 ⟨c,hc,hy⟩);exact⟨by rw[jG λ c hc=>(zbe2 (h2 c hc)).1],⟨λ hh c hc=>(zbe2 (h2 c hc)).2.1 (hh c hc),λ hh c hc=>(zbe2 (h2 c hc)).2.2 (hh c hc)⟩⟩
 |own x lo n=>exact zbe2 (x:=.own x lo n) h
 |_=>exact⟨rfl,kG⟩
theorem zaN0{m m2:Nat->MS}:∀{xs:List A},(∀y∈zR0 xs,m y=m2 y)->zG8 m xs=zG8 m2 xs/\(zA1 m xs↔zA1 m2 xs)
 |[],_=>⟨rfl,kG⟩
 |x::xs,h=>by obtain⟨h1,h2⟩:=zcs4 (x:=x) λ y hy=>h y (cW _ hy);obtain⟨h3,h4⟩:=zaN0 (xs:=xs) λ y hy=>h y (cG _ hy);simp only[zG8,zA1,h1,h2,h3,h4,cN]
theorem zaJ1{m m2:Nat->MS}:∀{xs:List Nat},(∀y∈xs,m y=m2 y)->zP9 m xs=zP9 m2 xs
 |[],_=>rfl
 |x::xs,h=>by simp only[zP9,h x (.head _),zaJ1 λ y hy=>h y (.tail _ hy)]
theorem zaH8:∀{xs:List A},∀y∈zC3 xs,y∈zR0 xs
 |x::xs,y,hy=>by
  rcases cP.1 hy with h|h
  .exact cW _ (zcb1 y h)
  .exact cG _ (zaH8 y h)
theorem zda6:∀{vs as:List A},∀y∈fzM vs as,y∈zR0 vs
 |v::vs,a::as,y,hy=>by
  rcases cP.1 hy with h|h
  .split at h
   .cases h
   .exact cW _ (zcb1 y h)
  .exact cG _ (zda6 y h)
 |[],[],y,hy=>by cases hy
 |_::_,[],y,hy=>by cases hy
 |[],_::_,y,hy=>by cases hy
theorem zbQ5{m m2:Nat->MS}{l:List (Nat×Nat)}{k:Nat}:∀{vs as:List A},(∀y∈zR0 vs,m y=m2 y)->zbE4 m l k vs as->zbE4 m2 l k vs as
 |v::vs,a::as,h,h1=>by
  refine⟨?_,zbQ5 (λ y hy=>h y (cG _ hy)) h1.2⟩;obtain⟨h3,h4⟩:=zcs4 (x:=v) λ y hy=>h y (cW _ hy);have h2:=h1.1;unfold argM at h2⊢;split
  .rename_i hh;rw[bO hh]at h2;exact h2
  .rename_i hh;rw[bN hh]at h2;exact⟨h4.1 h2.1,h3▸h2.2⟩
 |[],[],_,_=>trivial
 |_::_,[],_,h=>h.elim
 |[],_::_,_,h=>h.elim
theorem zbQ6{m m2:Nat->MS}{l:List (Nat×Nat)}{k:Nat}{fz:List Nat}:∀{ms:List (Nat×Row)},(∀q∈ms,m (rho l q.1)=m2 (rho l q.1))->zcq8 m l k fz ms->zcq8 m2 l k fz ms
 |[],_,_=>trivial
 |q::ms,h,h1=>by obtain⟨h2,h3,h4,h5,h6,h8,h7⟩:=h1;exact⟨by rw[<-h q (.head _)];exact h2,h3,h4,h5,h6,h8,zbQ6 (λ p hp=>h p (.tail _ hp)) h7⟩
theorem zby8{L:List (Nat×Nat)}{ms':List (Nat×Row)}:∀{ids:List Nat},∀x∈ids,rho L x∈(zak7 L ms' ids).map (·.1)
 |y::ids,x,h=>by
  rcases bX.1 h with rfl|h
  .exact .head _
  .exact .tail _ (zby8 x h)
theorem zbQ7{m m2:Nat->MS}:∀{mw:List (Nat×MS)},(∀y∈mw.map (·.1),m y=m2 y)->zbZ6 m mw->zbZ6 m2 mw
 |[],_,_=>trivial
 |q::r,h,⟨h1,h3⟩=>⟨by rw[<-h q.1 (.head _)];exact h1,zbQ7 (λ y hy=>h y (.tail _ hy)) h3⟩
theorem zbQ8{f:FuncId}{m m2:Nat->MS}{id:Nat}{vals:List A}{og:Option (Nat×Bool)}{g:Bool}{ob:Prop}{v:A}{mw:List (Nat×MS)}(h1:∀y∈zR0 vals,m y=m2 y)(h2:∀y∈mw.map (·.1),m y=m2 y)
  (h:zaT7 C m id f vals og g ob (λ n=>∀x,id<=x->x<id+n->m x=.fresh) (λ v' mw'=>v'=v/\mw'=mw)):
  zaT7 C m2 id f vals og g ob (λ n=>∀x,id<=x->x<id+n->m2 x=.fresh) (λ v' mw'=>v'=v/\mw'=mw):=by
 obtain⟨l,as,ms,k,r,ms',k',ht,hf,hvv,h5,h7,h8⟩:=h;have e0:mwM m2 (l++newL k id (k'-k)) vals as ms ms' k k'=mw:=by rw[<-h8,mwM,mwM,zaJ1 λ y hy=>h1 y (zda6 y hy)]
 refine⟨l,as,ms,k,r,ms',k',λ hg=>?_,λ hg=>?_,hvv,h5,h7,e0⟩
 case refine_2=>rw[e0];rw[h8]at hf;exact⟨(hf hg).1,zbQ7 h2 (hf hg).2⟩
 obtain⟨hob,h3,h4,h6⟩:=ht hg;obtain⟨g1,g2,g3,g4,g5,g6,g7,g8⟩:=h4;have hkk:k<=k':=eZ g6;have key:∀x∈ms.map (·.1)++(List.range (k'-k)).map (k+·),m (rho (l++newL k id (k'-k)) x)=m2 (rho (l++newL k id (k'-k)) x):=λ x hx=>by refine h2 _ ?_;rw[<-h8,mwM,eE];exact cG _ (zby8 x hx)
 have rhoOld:∀x,x<k->rho (l++newL k id (k'-k)) x=rho l x:=λ x hx=>by simp only[rho,zaf5,zay4];rw[bN (by omega),kE]
 have rhoNew:∀i,i<k'-k->rho (l++newL k id (k'-k)) (k+i)=id+i:=λ i hi=>by simp only[rho,zaf5,zay4];rw[zaY7 λ q hq=>by have:=g8 q hq;omega,bO (by omega)];simp
 refine⟨hob,h3,⟨zbQ5 h1 g1,zbQ6 (λ q hq=>?_) g2,g3,g4,g5,g6,g7,g8⟩,λ x hx hx2=>?_⟩
 .have:=key q.1 (cW _ (cD.2 ⟨q,hq,rfl⟩));rwa [rhoOld q.1 (zaY9 g2 q.1 q.2 hq).2.2.1]at this
 .have:=key (k+(x-id)) (cG _ (cD.2 ⟨x-id,dH.2 (by omega),rfl⟩));rw[rhoNew _ (by omega),show id+(x-id)=x by omega]at this;rw[<-this];exact h6 x hx hx2
theorem zcm9(x y:List A):zR0 (x++y)=zR0 x++zR0 y:=by
 induction x with
 |nil=>rfl
 |cons a x ih=>simp only[List.cons_append,zR0,ih,bZ]
theorem zbQ9{y:Nat}:∀{caps:List A},(∀c∈caps,idsA c=zaP5 c)->y∈zR0 caps->y∈caps.flatMap zaP5
 |c::cs,hc,h=>by
  rcases cP.1 h with h|h
  .exact fI.2 ⟨c,.head _,hc c (.head _)▸h⟩
  .obtain⟨d,hd,h2⟩:=fI.1 (zbQ9 (λ d hd=>hc d (.tail _ hd)) h);exact fI.2 ⟨d,.tail _ hd,h2⟩
theorem zbR0{f:FuncId}{caps vals:List A}{y:Nat}(h:y∈zR0 (vals++caps))(hc:∀c∈caps,idsA c=zaP5 c):y∈zR0 (.clo f caps::vals):=by
 rw[zcm9]at h;simp only[zR0,cP];rcases cP.1 h with h|h
 .exact .inr h
 .exact .inl (zbQ9 hc h)
theorem zdu0{id:Nat}{m m2:Nat->MS}{po:PO}{vals:List A}(h:∀y∈zR0 vals,m y=m2 y):ev id m po vals=ev id m2 po vals:=by
 have e1:∀{x:A} {xs:List A},vals=x::xs->(∀y∈idsA x,m y=m2 y):=λ hv y hy=>h y (by rw[hv];exact cW _ hy);have e2:∀{x x2:A} {xs:List A},vals=x::x2::xs->(∀y∈idsA x2,m y=m2 y):=λ hv y hy=>h y (by rw[hv];exact cG _ (cW _ hy));have own:∀{x:Nat} {lo n:Nat},(∀y∈idsA (.own x lo n),m y=m2 y)->m x=m2 x:=λ hh=>hh _ (by simp[idsA,zbh2,zaP5]);have ptr:∀{x:Nat} {lo n:Nat},(∀y∈idsA (.ptr x lo n),m y=m2 y)->m x=m2 x:=λ hh=>hh _ (by simp[idsA,zbh2,zaP5]);have mp:∀{x:Nat},(∀y∈idsA (.mp x),m y=m2 y)->m x=m2 x:=λ hh=>hh _ (by simp[idsA,zbh2,zaP5]);have hel:∀{x:A},(∀y∈idsA x,m y=m2 y)->zaM4 m x=zaM4 m2 x/\zap7 m x=zap7 m2 x:=λ{x} hh=>by
  cases x<;>first|exact⟨rfl,rfl⟩|skip
  simp only[zaM4,zap7,own hh,cN]
 have hsl:∀{x:A} {sz:Nat} {lo hi mx:Option Int},(∀y∈idsA x,m y=m2 y)->zaD3 m sz x lo hi mx=zaD3 m2 sz x lo hi mx:=λ{x sz lo hi mx} hh=>by cases x<;>cases mx<;>first|rfl|(simp only[zaD3,own hh])
 cases po
 case slc sz lo hi mx=>
  rcases vals with _|⟨x,_|⟨x2,_|⟨x3,_|⟨x4,_|⟨x5,xs⟩⟩⟩⟩⟩
  .cases lo<;>cases hi<;>cases mx<;>rfl
  .have hx:=e1 rfl;have:=λ{lo hi mx}=>hsl (sz:=sz) (lo:=lo) (hi:=hi) (mx:=mx) hx;cases lo<;>cases hi<;>cases mx<;>first|rfl|(simp only[ev,this])
  .have hx:=e1 rfl;have:=λ{lo hi mx}=>hsl (sz:=sz) (lo:=lo) (hi:=hi) (mx:=mx) hx;cases lo<;>cases hi<;>cases mx<;>cases x2<;>first|rfl|(simp only[ev,this])
  .have hx:=e1 rfl;have:=λ{lo hi mx}=>hsl (sz:=sz) (lo:=lo) (hi:=hi) (mx:=mx) hx;cases lo<;>cases hi<;>cases mx<;>cases x2<;>cases x3<;>first|rfl|(simp only[ev,this])
  .have hx:=e1 rfl;have:=λ{lo hi mx}=>hsl (sz:=sz) (lo:=lo) (hi:=hi) (mx:=mx) hx;cases lo<;>cases hi<;>cases mx<;>first|rfl|(cases x2<;>first|rfl|(cases x3<;>first|rfl|(cases x4<;>first|rfl|(simp only[ev,this]))))
  .cases lo<;>cases hi<;>cases mx<;>first|rfl|(cases x2<;>first|rfl|(cases x3<;>first|rfl|(cases x4<;>rfl)))
 case slcS lo hi=>rcases vals with _|⟨x,_|⟨x2,_|⟨x3,_|⟨x4,xs⟩⟩⟩⟩<;>cases lo<;>cases hi<;>first|rfl|(cases x<;>first|rfl|(cases x2<;>first|rfl|(cases x3<;>rfl)))
 case cvS=>
  rcases vals with _|⟨x,_|⟨x2,xs⟩⟩<;>first|rfl|skip
  obtain⟨g1,g2⟩:=hel (e1 rfl);simp only[ev,g1,g2]
 case append sz bytes z=>
  rcases vals with _|⟨x,_|⟨x2,_|⟨x3,xs⟩⟩⟩<;>first|rfl|skip
  have hx:=e1 rfl;obtain⟨g1,g2⟩:=hel (e2 rfl);simp only[ev,g1,g2];cases x<;>first|rfl|skip
  have e:=own hx;simp only[e]
 case appc sz bytes=>
  rcases vals with _|⟨x,_|⟨x2,_|⟨x3,xs⟩⟩⟩<;>first|rfl|skip
  have hx:=e1 rfl;obtain⟨g1,g2⟩:=hel (e2 rfl);simp only[ev,g1,g2];cases x<;>first|rfl|skip
  have e:=own hx;simp only[e]
 case clear sz z=>
  rcases vals with _|⟨x,_|⟨x2,xs⟩⟩<;>first|rfl|skip
  have hx:=e1 rfl;simp only[ev];cases x<;>first|rfl|skip
  have e:=own hx;simp only[e]
 case copy sz=>
  rcases vals with _|⟨x,_|⟨x2,_|⟨x3,xs⟩⟩⟩<;>first|rfl|skip
  have hx:=e1 rfl;obtain⟨g1,g2⟩:=hel (e2 rfl);simp only[ev,g1,g2];cases x<;>first|rfl|skip
  have e:=own hx;simp only[e]
 case load n ag=>
  rcases vals with _|⟨x,_|⟨x2,xs⟩⟩<;>first|rfl|skip
  have hx:=e1 rfl;cases x<;>first|rfl|skip
  have e:=ptr hx;simp only[ev,e]
 case store n=>
  rcases vals with _|⟨x,_|⟨x2,_|⟨x3,xs⟩⟩⟩<;>first|rfl|skip
  have hx:=e1 rfl;cases x<;>first|rfl|skip
  have e:=ptr hx;simp only[ev,e]
 case faddr off=>
  rcases vals with _|⟨x,_|⟨x2,xs⟩⟩<;>first|rfl|skip
  have hx:=e1 rfl;cases x<;>first|rfl|skip
  have e:=ptr hx;simp only[ev,e]
 case nilck=>
  rcases vals with _|⟨x,_|⟨x2,xs⟩⟩<;>first|rfl|skip
  have hx:=e1 rfl;cases x<;>first|rfl|skip
  have e:=ptr hx;simp only[ev,e]
 case len=>
  rcases vals with _|⟨x,_|⟨x2,xs⟩⟩<;>first|rfl|skip
  have hx:=e1 rfl;cases x<;>first|rfl|skip
  have e:=own hx;simp only[ev,e]
 case lkp ok ag kz z=>
  rcases vals with _|⟨x,_|⟨x2,_|⟨x3,xs⟩⟩⟩<;>first|rfl|(cases x<;>rfl)|skip
  have hx:=e1 rfl;cases x<;>first|rfl|skip
  have e:=mp hx;simp only[ev,e]
 case mupd kz ag n=>
  rcases vals with _|⟨x,_|⟨x2,_|⟨x3,_|⟨x4,xs⟩⟩⟩⟩<;>first|rfl|(cases x<;>rfl)|skip
  have hx:=e1 rfl;cases x<;>first|rfl|skip
  have e:=mp hx;simp only[ev,e]
 case rng=>
  rcases vals with _|⟨x,_|⟨x2,xs⟩⟩<;>first|rfl|(cases x<;>rfl)|skip
  have hx:=e1 rfl;cases x<;>first|rfl|skip
  have e:=mp hx;simp only[ev,e]
 case lenM=>
  rcases vals with _|⟨x,_|⟨x2,xs⟩⟩<;>first|rfl|(cases x<;>rfl)|skip
  have hx:=e1 rfl;cases x<;>first|rfl|skip
  have e:=mp hx;simp only[ev,e]
 case iaA n sz=>
  rcases vals with _|⟨x,_|⟨x2,_|⟨x3,xs⟩⟩⟩<;>first|rfl|(cases x2<;>rfl)|skip
  have hx:=e1 rfl;cases x2<;>first|rfl|skip
  cases x<;>first|rfl|skip
  have e:=ptr hx;simp only[ev,e]
 case iaS sz z=>
  rcases vals with _|⟨x,_|⟨x2,_|⟨x3,xs⟩⟩⟩<;>first|rfl|(cases x2<;>rfl)|skip
  have hx:=e1 rfl;cases x2<;>first|rfl|skip
  cases x<;>first|rfl|skip
  have e:=own hx;simp only[ev,e]
 all_goals first
  |rfl
  |(rcases vals with _|⟨x,_|⟨x2,_|⟨x3,xs⟩⟩⟩<;>first|rfl|(cases x<;>first|rfl|(cases x2<;>rfl)))
theorem zbl6{fr f2:Nat->A}:∀(xs:List PX),(∀t∈rdsX xs,fr t=f2 t)->zF2 C fr xs=zF2 C f2 xs/\(gdsF C fr xs↔gdsF C f2 xs)
 |[],_=>⟨rfl,kG⟩
 |x::xs,h=>by have h1:=zaI9 (x:=x) C.G (f:=fr) (g:=f2) λ t ht=>h t ((zQ1 x xs t).2 (.inl ht));obtain⟨h2,h3⟩:=zbl6 xs λ t ht=>h t ((zQ1 x xs t).2 (.inr ht));simp only[zF2,gdsF,h1,h2,h3,cN]
theorem zcS2{p:POp}{s s2:S}{id:Nat}{v:A}{mw:List (Nat×MS)}(hr:∀t∈p.rds,s.fr t=s2.fr t)(hm:∀y∈zR0 (zF2 C s.fr p.xs),s.mem y=s2.mem y)(hw:∀y∈mw.map (·.1),s.mem y=s2.mem y)
  (hcap:∀f caps vals,(p.po=.callv\/p.po=.callvm)->zF2 C s.fr p.xs=.clo f caps::vals->∀c∈caps,idsA c=zaP5 c)
  (h:aopS C p s id (λ v' mw'=>v'=v/\mw'=mw)):aopS C p s2 id (λ v' mw'=>v'=v/\mw'=mw):=by
 have hx:∀t∈rdsX p.xs,s.fr t=s2.fr t:=λ t ht=>hr t (cG _ ht);obtain⟨hv,hgd⟩:=zbl6 (C:=C) p.xs hx;have hgo:zG1 s2.fr p.g=zG1 s.fr p.g:=by
  cases hg:p.g with
  |none=>rfl
  |some q=>simp only[zG1];rw[hr q.1 (cW _ (by simp[hg]))]
 obtain⟨hf1,hf2⟩:=zaN0 hm;have hcm:∀r,zA3 s.mem (zF2 C s.fr p.xs) r=zA3 s2.mem (zF2 C s.fr p.xs) r:=λ r=>by simp only[zA3,zaJ1 λ y hy=>hm y (zaH8 y hy)]
 unfold aopS at h⊢;rw[hgo,<-hv,<-hgd];cases hg:zG1 s.fr p.g with
 |none=>simp[hg]at h
 |some g=>
  simp only[hg]at h⊢;cases hp:p.po<;>simp only[hp]at h|-
  case pick=>
   split at h
   .rename_i c x y hxs;simp only[hxs]at hx⊢;have e1:=zaI9 (x:=c) C.G (f:=s.fr) (g:=s2.fr) λ t ht=>hx t ((zQ1 _ _ _).2 (.inl ht));have e2:=zaI9 (x:=x) C.G (f:=s.fr) (g:=s2.fr) λ t ht=>hx t ((zQ1 _ _ _).2 (.inr ((zQ1 _ _ _).2 (.inl ht))));have e3:=zaI9 (x:=y) C.G (f:=s.fr) (g:=s2.fr) λ t ht=>hx t ((zQ1 _ _ _).2 (.inr ((zQ1 _ _ _).2 (.inr ht))));rw[<-e1,<-e2,<-e3];exact h
   .exact h.elim
  case call f=>rw[<-hf1,<-hf2];obtain⟨r,h1,h2,h3⟩:=h;exact⟨r,h1,by rw[<-hcm];exact h2,by rw[<-hcm];exact h3⟩
  case callv=>
   split at h
   .rename_i f caps vals hvals;have hc:=hcap f caps vals (.inl hp) hvals;have hm2:∀y∈zR0 (vals++caps),s.mem y=s2.mem y:=λ y hy=>hm y (by rw[hvals];exact zbR0 hy hc);obtain⟨g1,g2⟩:=zaN0 hm2;have hcm2:∀r,zA3 s.mem (vals++caps) r=zA3 s2.mem (vals++caps) r:=λ r=>by
     simp only[zA3,zaJ1 λ y hy=>hm2 y (zaH8 y hy)]
    obtain⟨r,h1,h2,h3⟩:=h;rw[<-g1,<-g2];exact⟨r,h1,by rw[<-hcm2];exact h2,by rw[<-hcm2];exact h3⟩
   .exact h.elim
  case callb=>
   split at h
   .rename_i f cs vals hvals;have hm2:∀y∈zR0 (.agg cs::vals),s.mem y=s2.mem y:=λ y hy=>hm y (by rw[hvals];exact hy);obtain⟨g1,g2⟩:=zaN0 hm2;have hcm2:∀r,zA3 s.mem (.agg cs::vals) r=zA3 s2.mem (.agg cs::vals) r:=λ r=>by
     simp only[zA3,zaJ1 λ y hy=>hm2 y (zaH8 y hy)]
    obtain⟨r,h1,h2,h3⟩:=h;rw[<-g1,<-g2];exact⟨r,h1,by rw[<-hcm2];exact h2,by rw[<-hcm2];exact h3⟩
   .exact h.elim
  case callm f=>exact zbQ8 hm hw h
  case callvm=>
   split at h
   .rename_i f caps vals hvals;have hc:=hcap f caps vals (.inr hp) hvals;exact zbQ8 (λ y hy=>hm y (by rw[hvals];exact zbR0 hy hc)) hw h
   .exact h.elim
  all_goals
   rw[<-zdu0 (id:=id) hm];exact h
theorem zcF5{p:POp}{s s2:S}{id:Nat}{v:A}{mw:List (Nat×MS)}(hr:∀t∈p.rds,s.fr t=s2.fr t)(hm:∀y∈idsP p.po (zF2 C s.fr p.xs),s.mem y=s2.mem y)(hw:∀y∈mw.map (·.1),s.mem y=s2.mem y)
  (hcap:∀f caps vals,(p.po=.callv\/p.po=.callvm)->zF2 C s.fr p.xs=.clo f caps::vals->∀c∈caps,idsA c=zaP5 c)
  (h:aopS C p s id (λ v' mw'=>v'=v/\mw'=mw)):aopS C p s2 id (λ v' mw'=>v'=v/\mw'=mw):=by
 cases hpo:p.po with
 |mv=>
  have hx:∀t∈rdsX p.xs,s.fr t=s2.fr t:=λ t ht=>hr t (cG _ ht);obtain⟨hv,hgd⟩:=zbl6 (C:=C) p.xs hx;have hgo:zG1 s2.fr p.g=zG1 s.fr p.g:=by
   cases hg:p.g with
   |none=>rfl
   |some q=>simp only[zG1];rw[hr q.1 (cW _ (by simp[hg]))]
  unfold aopS at h⊢;rw[hgo,<-hv,<-hgd];cases hg:zG1 s.fr p.g with
  |none=>simp[hg]at h
  |some g=>
   simp only[hg,hpo]at h⊢;have e:∀vals,ev id s.mem .mv vals=ev id s2.mem .mv vals:=λ vals=>by rcases vals with _|⟨x,_|⟨x2,xs⟩⟩<;>rfl
   rw[<-e];exact h
 |_=>exact zcS2 hr (λ y hy=>hm y (by rw[hpo];exact hy)) hw hcap h
set_option maxHeartbeats 1000000 in
theorem zed4{id:Nat}{m:Nat->MS}{po:PO}{vals:List A}{ef:Ef}(h:ev id m po vals=some ef):id∈ef.mw.map (·.1)\/∀id',ev id' m po vals=some ef:=by
 cases po
 case nilown sz z=>rcases vals with _|⟨x,_|⟨x2,xs⟩⟩<;>cases h;exact .inl (by simp)
 case box n=>rcases vals with _|⟨x,_|⟨x2,xs⟩⟩<;>cases h;exact .inl (by simp)
 case alloc n z=>rcases vals with _|⟨x,xs⟩<;>cases h;exact .inl (by simp)
 case bown sz z=>simp only[ev,cK]at h;subst h;exact .inl (by simp)
 case mkmap z=>rcases vals with _|⟨x,xs⟩<;>cases h;exact .inl (by simp)
 case rng=>
  rcases vals with _|⟨x,_|⟨x2,xs⟩⟩<;>first|(cases h;done)|(cases x<;>cases h;done)|skip
  cases x<;>simp only[ev]at h<;>first|(cases h;done)|skip
  split at h
  .cases h;exact .inl (by simp)
  .cases h
 case next d=>exact .inr λ id'=>by rw[<-h];rfl
 case entry d=>exact .inr λ id'=>by rw[<-h];rfl
 case lkp ok ag kz z=>exact .inr λ id'=>by rw[<-h];rcases vals with _|⟨x,_|⟨x2,_|⟨x3,xs⟩⟩⟩<;>first|rfl|(cases x<;>rfl)
 case mupd kz ag n=>exact .inr λ id'=>by rw[<-h];rcases vals with _|⟨x,_|⟨x2,_|⟨x3,_|⟨x4,xs⟩⟩⟩⟩<;>first|rfl|(cases x<;>rfl)
 case lenM=>exact .inr λ id'=>by rw[<-h];rcases vals with _|⟨x,_|⟨x2,xs⟩⟩<;>first|rfl|(cases x<;>rfl)
 case mk sz b z=>
  rcases vals with _|⟨x,_|⟨x2,_|⟨x3,xs⟩⟩⟩<;>first|(cases h;done)|(cases x<;>cases h;done)|skip
  .cases x<;>cases x2<;>cases h;exact .inl (by simp)
  .cases x<;>cases x2<;>cases h
 case append sz b z=>
  rcases vals with _|⟨x,_|⟨x2,_|⟨x3,xs⟩⟩⟩<;>first|(cases h;done)|skip
  simp only[ev,gE]at h;obtain⟨new,hnew,h⟩:=h;cases x<;>simp only[]at h<;>first|(cases h;done)|skip
  .cases h;exact .inl (by simp)
  .split at h
   .cases h;exact .inl (by simp)
   .cases h
 case appc sz b=>
  rcases vals with _|⟨x,_|⟨x2,_|⟨x3,xs⟩⟩⟩<;>first|(cases h;done)|skip
  simp only[ev,gE]at h;obtain⟨new,hnew,h⟩:=h;cases x<;>simp only[]at h<;>first|(cases h;done)|skip
  split at h
  .cases h;exact .inl (by simp)
  .cases h
 all_goals
  refine .inr λ id'=>?_;rw[<-h]
  first
   |rfl
   |(rename_i lo hi mx;cases lo<;>cases hi<;>cases mx<;>rcases vals with _|⟨x,_|⟨x2,_|⟨x3,_|⟨x4,_|⟨x5,xs⟩⟩⟩⟩⟩<;>first|rfl|(cases x2<;>first|rfl|(cases x3<;>first|rfl|(cases x4<;>rfl))))
   |(rename_i lo hi;cases lo<;>cases hi<;>rcases vals with _|⟨x,_|⟨x2,_|⟨x3,_|⟨x4,xs⟩⟩⟩⟩<;>first|rfl|(cases x<;>first|rfl|(cases x2<;>first|rfl|(cases x3<;>rfl))))
   |(rcases vals with _|⟨x,_|⟨x2,_|⟨x3,xs⟩⟩⟩<;>first|rfl|(cases x<;>first|rfl|(cases x2<;>rfl))|(cases x2<;>rfl))
theorem zdK7{p:POp}{s:S}{id:Nat}{v:A}{mw:List (Nat×MS)}(h:aopS C p s id (λ v' mw'=>v'=v/\mw'=mw)):id∈mw.map (·.1)\/∀id',id<=id'->aopS C p s id' (λ v' mw'=>v'=v/\mw'=mw):=by
 have cm:∀{f:FuncId} {vals:List A} {og:Option (Nat×Bool)} {g:Bool} {ob:Prop},zaT7 C s.mem id f vals og g ob (λ n=>∀x,id<=x->x<id+n->s.mem x=.fresh) (λ v' mw'=>v'=v/\mw'=mw)->
   id∈mw.map (·.1)\/∀id',id<=id'->zaT7 C s.mem id' f vals og g ob (λ n=>∀x,id'<=x->x<id'+n->s.mem x=.fresh) (λ v' mw'=>v'=v/\mw'=mw):=λ{f vals og g ob} h=>by
  obtain⟨l,as,ms,k,r,ms',k',ht,hf,hvv,h5,h7,h8⟩:=h
  by_cases hk:k=k'
  .have en:∀id',newL k id' (k'-k)=[]:=λ id'=>by rw[hk,iK];rfl
   simp only[en]at hf hvv h7 h8;refine .inr λ id' hid=>⟨l,as,ms,k,r,ms',k',λ hg=>?_,?_⟩
   .obtain⟨hob,h3,h4,h6⟩:=ht hg;obtain⟨g1,g2,g3,g4,g5,g6,g7,g8⟩:=h4;exact⟨hob,h3,⟨g1,g2,g3,g4,g5,g6,λ q hq=>dQ (g7 q hq) hid,g8⟩,λ x hx hx2=>by omega⟩
   .simp only[en];exact⟨hf,hvv,h5,h7,h8⟩
  .have hg:g=true:=by
    cases g with
    |true=>rfl
    |false=>exact absurd (hf rfl).1 hk
   obtain⟨hob,h3,h4,h6⟩:=ht hg;obtain⟨g1,g2,g3,g4,g5,g6,g7,g8⟩:=h4;have hkk:k<=k':=eZ g6;left;rw[<-h8,mwM,eE];refine cG _ ?_;have:=zby8 (L:=l++newL k id (k'-k)) (ms':=ms') (ids:=ms.map (·.1)++(List.range (k'-k)).map (k+·)) (k+0) (cG _ (cD.2 ⟨0,dH.2 (by omega),rfl⟩));have e:rho (l++newL k id (k'-k)) (k+0)=id+0:=by simp only[rho,zaf5,zay4];rw[zaY7 λ q hq=>by have:=g8 q hq;omega,bO (by omega)];simp
   rw[e]at this;exact this
 unfold aopS at h⊢;cases hg:zG1 s.fr p.g with
 |none=>simp[hg]at h
 |some g=>
  simp only[hg]at h⊢;cases hp:p.po<;>simp only[hp]at h|-
  case pick=>exact .inr λ _ _=>h
  case call f=>exact .inr λ _ _=>h
  case callv=>exact .inr λ _ _=>h
  case callb=>exact .inr λ _ _=>h
  case callm f=>exact cm h
  case callvm=>
   split at h
   .exact cm h
   .exact h.elim
  all_goals
   split at h
   .rename_i ef hev;obtain⟨h1,h2,h3,h4⟩:=h;rcases zed4 hev with g1|g1
    .exact .inl (h4▸g1)
    .exact .inr λ id' _=>by rw[g1 id'];exact⟨h1,h2,h3,h4⟩
   .rename_i hev;exact .inr λ id' _=>by rw[<-zdT6 (id:=id) h.2.1,hev];exact h
end
end Ab
end Go.Proofs.YtdlfhmkmnjbihaaGreatDoor
