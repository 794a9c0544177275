import Derived.Test.YtdlfhmkmnjbihaaGreatDoorAb16
import Derived.Orders
namespace Go.Proofs.YtdlfhmkmnjbihaaGreatDoor
namespace Ab
set_option linter.unusedSimpArgs false
set_option linter.unusedVariables false
def zE8:Nat->List A->List (Nat×A)
 |_,[]=>[]
 |n,a::as=>(n,a)::zE8 (n+1) as
inductive RX where
 |t (n:Nat)
 |c (n sz:Nat) (ag:Bool)
def zaD4(P:Program):List ResultVar->List RX->Bool
 |[],[]=>true
 | .tmp t::rs,.t n::ns=>t==n&&zaD4 P rs ns
 | .cell t T::rs,.c n sz ag::ns=>t==n&&tyOk P T ag sz&&zaD4 P rs ns
 |_,_=>false
def chkF(P:Program)(f:FuncId)(pc:PC)(N:Nat)(rs:List RX)(np:Nat):Bool:=
 match P.funcs[f]? with
 |some fn=>(match fn.body with
  |some c=>chkC P N c pc
  |none=>false)&&fn.ntmps==N&&zaD4 P fn.results.toList rs&&Nat.ble np N
 |none=>false
def resA(st:St):RX->A
 | .t n=>st.slot n
 | .c n sz ag=>match ev st.nx st.m (.load sz ag) [st.slot n]with
  |some ef=>ef.v
  |none=>.any
def resG(st:St):RX->Prop
 | .t _=>True
 | .c n sz ag=>match ev st.nx st.m (.load sz ag) [st.slot n]with
  |some ef=>ef.obl
  |none=>False
def allG(st:St):List RX->Prop
 |[]=>True
 |x::xs=>(resG st x/\zao2 st.m (resA st x))/\allG st xs
def zaU5(st:St):List RX->List A
 |[]=>[]
 |x::xs=>frz st.m (resA st x)::zaU5 st xs
def zcb8:List A->A
 |[x]=>x
 |xs=>.tup xs
def zcb9(st:St)(rs:List RX)(r:A):Prop:=allG st rs/\zcb8 (zaU5 st rs)=r
def resL(st:St):List RX->List A
 |[]=>[]
 |x::xs=>resA st x::resL st xs
def zbA5(st:St):List RX->Prop
 |[]=>True
 |x::xs=>resG st x/\zbA5 st xs
def zbL5:List A->Bool
 |[]=>true
 |x::xs=>x.isVV&&zbL5 xs
def zaR1(k:Nat)(st:St)(rs:List RX)(rl:List A)(ms':List (Nat×Row))(k':Nat):Prop:=
 zbA5 st rs/\zbL5 rl=true/\∃l,Le l ⟨zE8 0 (resL st rs),st.mem,st.nx⟩ ⟨zE8 0 rl,ms',k'⟩/\zao4 k l k'=true
def zcn2(k:Nat)(rs:List RX)(rl:List A)(ms':List (Nat×Row))(k':Nat):Exit->St->Prop
 | .ret,st=>zaR1 k st rs rl ms' k'
 | .normal,st=>zaR1 k st rs rl ms' k'
 |_,_=>False
def zcc0:List (Nat×Row)->Bool
 |[]=>true
 |q::r=>!q.2.ro&&zcc0 r
def Post(rs:List RX)(r:A):Exit->St->Prop
 | .ret,st=>zcb9 st rs r
 | .normal,st=>zcb9 st rs r
 |_,_=>False
section
variable {C:Cx}
theorem zaw3:∀(as:List A) (n t:Nat),look (zE8 n as) t=if n<=t then as[t-n]? else none
 |[],n,t=>by simp[zE8,look]
 |a::as,n,t=>by
  simp only[zE8,look]
  by_cases h:n=t
  .subst h;simp
  .rw[bL h,zaw3 as (n+1) t]
   by_cases h2:n+1<=t
   .rw[bM h2,bM (by omega)];rw[show t-n=(t-(n+1))+1 by omega];simp
   .rw[bL h2]
    by_cases h3:n<=t
    .omega
    .rw[bL h3]
def zbu4:List Value->Value
 |[v]=>v
 |us=>.tuple us.toArray
theorem zaX7{E:Env}{st:St}{a:Act}{w:World}{W:Nat->Prop}{μ:Nat->Loc}(hs:SatW E st.toS a w W μ){F:ResultVar->Sem Value}(hF:∀t,F (.tmp t)=pure (a.tmps.getD t undef))
  (hC:∀t T,F (.cell t T)=do loadVar T (<-asAddr (a.tmps.getD t undef))):∀(l:List ResultVar) (ns:List RX),zaD4 C.P l ns=true->zbA5 st ns->
  ∃us,(l.mapM F).run C.P w=.ok us w/\us.length=ns.length/\∀(i:Nat) (u:Value) (x:RX),us[i]? =some u->ns[i]? =some x->Rep w W μ u (resA st x)
 |[],[],_,_=>⟨[],rfl,rfl,λ i u x h=>by simp at h⟩
 |[],_::_,h,_=>by simp[zaD4]at h
 |x::l,[],h,_=>by cases x<;>simp[zaD4]at h
 | .cell _ _::_,.t _::_,h,_=>by simp[zaD4]at h
 | .tmp _::_,.c _ _ _::_,h,_=>by simp[zaD4]at h
 | .tmp t::l,.t n::ns,h,hg=>by
  simp only[zaD4,bK,dA]at h;obtain⟨rfl,h2⟩:=h;obtain⟨us,e1,e2,e3⟩:=zaX7 hs hF hC l ns h2 hg.2;refine⟨a.tmps.getD t undef::us,?_,by simp[e2],λ i u x hu hx=>?_⟩
  .simp only[kB,Sem.run_bind,hF,Sem.run_pure,Result.andThen_ok,e1]
  .cases i with
   |zero=>rw[List.getElem?_cons_zero]at hu hx;cases hu;cases hx;exact hs.fr t
   |succ i=>exact e3 i u x (by simpa using hu) (by simpa using hx)
 | .cell t T::l,.c n sz ag::ns,h,hg=>by
  simp only[zaD4,bK,dA]at h;obtain⟨⟨rfl,hT⟩,h2⟩:=h;obtain⟨us,e1,e2,e3⟩:=zaX7 hs hF hC l ns h2 hg.2;have hg1:=hg.1;have hl:∃u,(F (.cell t T)).run C.P w=.ok u w/\Rep w W μ u (resA st (.c t sz ag)):=by
   simp only[resG]at hg1;split at hg1
   .rename_i ef he;obtain⟨b,q,u,h1,h3,h4⟩:=zcl8 (P:=C.P) hs hT (hs.fr t) he hg1;refine⟨u,?_,?_⟩
    .rw[hC];simp only[h1,Sem.run_bind];show(((loadVar T ⟨b,q,none⟩).run C.P w))=_;exact h3
    .simp only[resA,he];exact h4
   .exact hg1.elim
  obtain⟨u0,h5,h6⟩:=hl;refine⟨u0::us,?_,by simp[e2],λ i u x hu hx=>?_⟩
  .simp only[kB,Sem.run_bind,h5,Sem.run_pure,Result.andThen_ok,e1]
  .cases i with
   |zero=>simp at hu hx;subst hu;subst hx;exact h6
   |succ i=>exact e3 i u x (by simpa using hu) (by simpa using hx)
theorem zbA6(fn:Func){E:Env}{st:St}{a:Act}{w:World}{W:Nat->Prop}{μ:Nat->Loc}(hs:SatW E st.toS a w W μ){rs:List RX}(h:zaD4 C.P fn.results.toList rs=true)(hg:zbA5 st rs):
  ∃us,(results fn a.tmps).run C.P w=.ok (zbu4 us) w/\us.length=rs.length/\∀(i:Nat) (u:Value) (x:RX),us[i]? =some u->rs[i]? =some x->Rep w W μ u (resA st x):=by
 have e:∀F:ResultVar->Sem Value,fn.results.mapM F=List.toArray<$>fn.results.toList.mapM F:=λ F=>by rw[<-List.mapM_toArray,Array.toArray_toList]
 let F:ResultVar->Sem Value:=λ
  | .tmp t=>pure (a.tmps.getD t undef)
  | .cell x t=>do loadVar t (<-asAddr (a.tmps.getD x undef))
 have eF:results fn a.tmps=(do
   let vs<-fn.results.mapM F
   pure (if h:vs.size=1 then vs[0]else .tuple vs)):=by
  unfold results;congr 1
 obtain⟨us,h1,h2,h3⟩:=zaX7 (C:=C) hs (F:=F) (λ t=>rfl) (λ t T=>rfl) _ _ h hg;refine⟨us,?_,h2,h3⟩;rw[eF];simp only[Sem.run_bind];rw[e F,Sem.run_map,h1];simp only[Result.andThen_ok,Sem.run_pure,gK]
 match us with
 |[t]=>simp[zbu4]
 |[]=>simp[zbu4]
 |_::_::_=>simp[zbu4]
theorem zcn3{st:St}:∀{rs:List RX},allG st rs->zbA5 st rs
 |[],_=>trivial
 |_::_,h=>⟨h.1.1,zcn3 h.2⟩
theorem zcF9{st:St}:∀{rs:List RX},allG st rs->∀(i:Nat) (x:RX),rs[i]? =some x->zao2 st.m (resA st x)
 |y::ys,h,i,x,hx=>by
  cases i with
  |zero=>simp at hx;subst hx;exact h.1.2
  |succ i=>exact zcF9 h.2 i x (by simpa using hx)
 |[],_,i,x,hx=>by simp at hx
theorem zcn4{st:St}:∀(rs:List RX) (i:Nat),(zaU5 st rs)[i]? =(rs[i]?).map λ x=>frz st.m (resA st x)
 |[],i=>by simp[zaU5]
 |y::ys,i=>by
  cases i with
  |zero=>simp[zaU5]
  |succ i=>simpa [zaU5]using zcn4 ys i
theorem zbu5{f:FuncId}{pc:PC}{N np:Nat}{rs:List RX}(hchk:chkF C.P f pc N rs np=true){as:List A}(hnp:as.length=np){r:A}
  (h:∀E:Env,E.G=C.G->E.N=N->E.k0=0->AW C E pc (Post rs r) ⟨zE8 0 as,[],0⟩):PFn C f as r:=by
 intro w W vs hgl hlt hlen hargs;unfold chkF at hchk;split at hchk
 .rename_i fn hfn;simp only[bK,dA]at hchk;obtain⟨⟨⟨hc,hN⟩,hres⟩,hle⟩:=hchk;have hle:np<=N:=eT hle;split at hc
  .rename_i c hb
   let E:Env:=⟨w,W,λ _=>False,N,C.G,0,zam8⟩
   have hS:SatW E (⟨zE8 0 as,[],0⟩:St).toS {tmps:=vs.toArray++Array.replicate (fn.ntmps-vs.toArray.size) undef,defers:=[]} w W zam8:={
    defers:=rfl
    size:=by simp;show vs.length+(fn.ntmps-vs.length)=N;omega
    fr:=λ t=>by
     show Rep w W zam8 _ ((⟨zE8 0 as,[],0⟩:St).slot t);simp only[St.slot,zaw3,eY,bS,Nat.sub_zero];cases ha:as[t]? with
     |none=>trivial
     |some b=>
      have ht:t<vs.length:=by rw[hlen];exact(bT.1 ha).1
      have hv:vs[t]? =some vs[t]:=by simp[ht]
      have:(vs.toArray++Array.replicate (fn.ntmps-vs.toArray.size) undef).getD t undef=vs[t]:=by rw[fL,fY (by simpa using ht)];simp[ht]
      rw[this];exact zl3 (hargs t _ b hv ha)
    mem:=λ x=>by show zai9 w W zam8 x ((⟨zE8 0 as,[],0⟩:St).m x);simp[St.m,zai9,zam8]
    inj:=λ x y k k' hx=>by cases hx
    keeps:=Keeps.refl _ w
    winlt:=hlt
    wsub:=λ b h=>.inl h
    wsup:=λ b h=>.inl h
    wlt:=hlt
    live:=λ x k hx=>by cases hx
    glob:=hgl
    fix:=λ x hx=>absurd hx (Nat.not_lt_zero x)}
   have hwp:=h E rfl rfl rfl c hc _ w ⟨W,zam8,hS⟩;refine calls_of_wp hfn hb (wp_mono hwp λ e a' w' ⟨st',hq,W',μ',hs'⟩=>?_);have fin:zcb9 st' rs r->a'.defers=[]/\∃v,(results fn a'.tmps).run C.P w'=.ok v w'/\∃u,Ending.returned v=.returned u/\Keeps (λ _=>False) w w'/\Rep w' W zam8 u r:=λ hro=>by
    obtain⟨hg,hr⟩:=hro;obtain⟨us,hrun,hul,hus⟩:=zbA6 fn hs' hres (zcn3 hg);refine⟨hs'.defers,_,hrun,_,rfl,hs'.keeps,?_⟩;have toW:∀{v:Value} {b:A},RepV w' (zaw2 W' μ' (zao3 b)) zam8 v (frz st'.m b)->RepV w' W zam8 v (frz st'.m b):=λ{v b} hv=>
     hv.goes (Keeps.refl (λ _=>False) w') (λ _ _ _ h=>h) (λ q _ h1 h2=>h1 ⟨(hs'.wsup q h2).elim id (λ h=>h.elim),λ⟨x,k,_,hk,hkb⟩=>by
      rcases hs'.live x k hk with h3|h3
      .exact h3
      .have:=hlt q h2;have h4:w.heap.size<=k.b:=h3;omega⟩) (Old.refl _)
    have one:∀(i:Nat) (u:Value) (x:RX),us[i]? =some u->rs[i]? =some x->RepV w' W zam8 u (frz st'.m (resA st' x)):=λ i u x hu hx=>toW (zcg3 (s:=st'.toS) hs' (hus i u x hu hx) (zcF9 hg i x hx) (λ y hy=>hy));subst hr
    match rs,us,hul,one with
    |[x],[u],_,one=>exact zl3 (one 0 u x rfl rfl)
    |[],[],_,one=>exact⟨[],by simp[zbu4],by simp[zaU5],by simp⟩
    |x1::x2::xs,u1::u2::us,hul,one=>
     refine⟨u1::u2::us,rfl,?_,λ i u b hu hb=>?_⟩
     .simp only[zaU5,List.length_cons]at hul⊢;have:∀l,(zaU5 st' l).length=l.length:=λ l=>by induction l with
       |nil=>rfl
       |cons a l ih=>simp[zaU5,ih]
      rw[this];omega
     .have hb':(zaU5 st' (x1::x2::xs))[i]? =some b:=hb;rw[zcn4,bX]at hb';obtain⟨x,hx,rfl⟩:=hb';exact one i u x hu hx
   cases e with
   |normal=>exact fin hq
   |ret=>exact fin hq
   |_=>exact hq.elim
  .cases hc
 .cases hchk
theorem zcn5:∀{ms:List (Nat×Row)},zcc0 ms=true->∀x r,look ms x=some r->r.ro=false
 |q::ms,h,x,r,hr=>by
  simp only[zcc0,bK,cK]at h;simp only[look]at hr;split at hr
  .cases hr;exact h.1
  .exact zcn5 h.2 x r hr
theorem zcn6:∀{l:List A},zbL5 l=true->∀x∈l,x.isVV=true
 |y::ys,h,x,hx=>by
  simp only[zbL5,bK]at h;rcases bY.1 hx with rfl|hx
  .exact h.1
  .exact zcn6 h.2 x hx
theorem zcG0{st:St}:∀(rs:List RX) (i:Nat),(resL st rs)[i]? =(rs[i]?).map λ x=>resA st x
 |[],i=>by simp[resL]
 |y::ys,i=>by
  cases i with
  |zero=>simp[resL]
  |succ i=>simpa [resL]using zcG0 ys i
theorem zcc1{f:FuncId}{pc:PC}{N np:Nat}{rs:List RX}(hchk:chkF C.P f pc N rs np=true){as:List A}(hnp:as.length=np){ms ms':List (Nat×Row)}{k k':Nat}{rl:List A}(hms:zcc0 ms=true)(hall:zbA2 ms k=true)
  (hrl:rl.length=rs.length) (h:∀E:Env,E.G=C.G->E.N=N->E.k0=k->AW C E pc (zcn2 k rs rl ms' k') ⟨zE8 0 as,ms,k⟩):MFn C f as ms k (zcb8 rl) ms' k':=by
 intro w W μ vs hgl hlt hlen hargs hmem hinj;unfold chkF at hchk;split at hchk
 .rename_i fn hfn;simp only[bK,dA]at hchk;obtain⟨⟨⟨hc,hN⟩,hres⟩,hle⟩:=hchk;have hle:np<=N:=eT hle;have hrow:∀x r,(⟨[],ms,k⟩:St).m x=.row r->r.ro=false:=λ x r hx=>by
   simp only[St.m]at hx;split at hx
   .cases hx
   .cases hl:look ms x with
    |none=>rw[hl]at hx;cases hx
    |some r'=>rw[hl]at hx;cases hx;exact zcn5 hms x r hl
  have hfr:∀x,k<=x->μ x=.fresh:=λ x hx=>by have:=hmem x;rw[show(⟨[],ms,k⟩:St).m x=.fresh by simp only[St.m];rw[bM hx]]at this;exact this
  have hnf:∀x,x<k->μ x≠.fresh:=λ x hx hf=>by
   obtain⟨r,hr⟩:=zbl0 hall x hx;have:=hmem x;rw[show(⟨[],ms,k⟩:St).m x=.row r by simp only[St.m,hr];rw[bL (by omega)]]at this;rcases this with⟨h1,_⟩|⟨kb,h1,_⟩
   .rw[hf]at h1;cases h1
   .rw[hf]at h1;cases h1
  have hown:∀x kb,μ x=.at_ kb->W kb.b:=λ x kb hx=>by obtain⟨r,h1,h2⟩:=hmem.at_ hx;exact h2.wr.1 (hrow x r h1)
  split at hc
  .rename_i c hb
   let E:Env:=⟨w,W,λ b=>W b/\∃y kb,μ y=.at_ kb/\kb.b=b,N,C.G,k,μ⟩
   have hS:SatW E (⟨zE8 0 as,ms,k⟩:St).toS {tmps:=vs.toArray++Array.replicate (fn.ntmps-vs.toArray.size) undef,defers:=[]} w W μ:={
    defers:=rfl
    size:=by simp;show vs.length+(fn.ntmps-vs.length)=N;omega
    fr:=λ t=>by
     show Rep w W μ _ ((⟨zE8 0 as,ms,k⟩:St).slot t);simp only[St.slot,zaw3,eY,bS,Nat.sub_zero];cases ha:as[t]? with
     |none=>trivial
     |some b=>
      have ht:t<vs.length:=by rw[hlen];exact(bT.1 ha).1
      have hv:vs[t]? =some vs[t]:=by simp[ht]
      have:(vs.toArray++Array.replicate (fn.ntmps-vs.toArray.size) undef).getD t undef=vs[t]:=by rw[fL,fY (by simpa using ht)];simp[ht]
      rw[this];exact zl3 (hargs t _ b hv ha)
    mem:=hmem
    inj:=hinj
    keeps:=Keeps.refl _ w
    winlt:=hlt
    wsub:=λ b h=>.inl h
    wsup:=λ b h=>.inl h
    wlt:=hlt
    live:=λ x kb hx=>.inl ⟨hown x kb hx,x,kb,hx,rfl⟩
    glob:=hgl
    fix:=λ x hx=>.inl ⟨rfl,hnf x hx⟩}
   have hwp:=h E rfl rfl rfl c hc _ w ⟨W,μ,hS⟩;refine calls_of_wp hfn hb (wp_mono hwp λ e a' w' ⟨st',hq,W1,μ1,hs'⟩=>?_);have fin:zaR1 k st' rs rl ms' k'->a'.defers=[]/\∃v,(results fn a'.tmps).run C.P w'=.ok v w'/\∃u W' μ',Ending.returned v=.returned u/\Step (⟨[],ms,k⟩:St).m (⟨[],ms',k'⟩:St).m w w' W W' μ μ'/\Rep w' W' μ' u (zcb8 rl):=λ⟨hg,hvv,l,hle',hfx⟩=>by
    obtain⟨us,hrun,hul,hus⟩:=zbA6 fn hs' hres hg
    let E':Env:={E with N:=us.length}
    have hs1:SatW E' (⟨zE8 0 (resL st' rs),st'.mem,st'.nx⟩:St).toS {tmps:=us.toArray,defers:=[]} w' W1 μ1:={
     defers:=rfl
     size:=by simp;rfl
     fr:=λ t=>by
      show Rep w' W1 μ1 _ ((⟨zE8 0 (resL st' rs),st'.mem,st'.nx⟩:St).slot t);simp only[St.slot,zaw3,eY,bS,Nat.sub_zero,zcG0];cases hx:rs[t]? with
      |none=>trivial
      |some x=>
       have ht:t<us.length:=by rw[hul];exact(bT.1 hx).1
       have:us.toArray.getD t undef=us[t]:=by simp[Array.getD,ht]
       show Rep w' W1 μ1 (us.toArray.getD t undef) (resA st' x);rw[this];exact hus t _ x (by simp[ht]) hx
     mem:=hs'.mem
     inj:=hs'.inj
     keeps:=hs'.keeps
     winlt:=hs'.winlt
     wsub:=hs'.wsub
     wsup:=hs'.wsup
     wlt:=hs'.wlt
     live:=hs'.live
     glob:=hs'.glob
     fix:=hs'.fix}
    obtain⟨W2,μ2,hs2⟩:=St.le_of (E:=E') l hle' hfx _ w' ⟨W1,μ1,hs1⟩;have hst:Step (⟨[],ms,k⟩:St).m (⟨[],ms',k'⟩:St).m w w' W W2 μ μ2:={
     keeps:=hs2.keeps
     hW:=λ b hb h=>by
      rcases hs2.wsub b h with h1|h1
      .exact h1
      .have h2:w.heap.size<=b:=h1;omega
     wsup:=λ b hb=>by
      rcases hs2.wsup b hb with h1|h1
      .exact .inl h1
      .exact .inr h1.2
     wlt0:=hlt
     wlt:=hs2.wlt
     old:=λ x hx=>by
      by_cases hxk:x<k
      .rcases hs2.fix x hxk with h1|h1
       .exact .inl h1.1
       .exact .inr h1
      .exact absurd (hfr x (by omega)) hx
     mem:=hs2.mem
     inj:=hs2.inj
     live:=λ x kb hx=>by
      rcases hs2.live x kb hx with h1|h1
      .exact .inl h1.2
      .exact .inr h1}
    have one:∀(i:Nat) (u:Value) (b:A),us[i]? =some u->rl[i]? =some b->RepV w' W2 μ2 u b:=λ i u b hu hb=>by
     have h1:=hs2.fr i;have hi:i<us.length:=(bT.1 hu).1;have h2:(⟨zE8 0 rl,ms',k'⟩:St).slot i=b:=by simp only[St.slot,zaw3,eY,bS,Nat.sub_zero,hb,Option.getD_some]
     have h3:us.toArray.getD i undef=u:=by rw[bR hi]at hu;cases hu;simp[Array.getD,hi]
     have h4:Rep w' W2 μ2 (us.toArray.getD i undef) ((⟨zE8 0 rl,ms',k'⟩:St).slot i):=h1;rw[h2,h3]at h4;have hv:=zcn6 hvv b (cB hb);exact h4.toVV hv
    refine⟨hs'.defers,_,hrun,_,W2,μ2,rfl,hst,?_⟩
    match rl,us,(hul.trans hrl.symm),one with
    |[b],[u],_,one=>exact zl3 (one 0 u b rfl rfl)
    |[],[],_,_=>exact⟨[],by simp[zbu4],by simp,by simp⟩
    |b1::b2::bs,u1::u2::us,hul,one=>exact⟨u1::u2::us,rfl,hul,one⟩
   cases e with
   |normal=>exact fin hq
   |ret=>exact fin hq
   |_=>exact hq.elim
  .cases hc
 .cases hchk
end
def zaL9(C:Cx):List POp->St->(St->Prop)->Prop
 |[],st,K=>K st
 |p::ps,st,K=>aop C p st λ st'=>(st'.mem=st.mem/\st'.nx=st.nx)/\zaL9 C ps st' K
section
variable {C:Cx} {E:Env}
theorem zdl1{p:POp}{st:St}{K:St->Prop}(h:aop C p st K):∃v mw,K (st.app p.dst v mw)/\aop C p st (λ s=>s=st.app p.dst v mw):=by
 unfold aop at h⊢;cases hg:zE1 st p.g with
 |none=>simp[hg]at h
 |some g=>
  simp only[hg]at h⊢;cases hp:p.po<;>simp only[hp]at h|-
  case pick=>
   split at h
   .split at h
    .exact⟨_,_,h.2,h.1,rfl⟩
    .exact h.elim
   .exact h.elim
  case call f=>obtain⟨r,h1,h2,h3⟩:=h;exact⟨_,_,h3,r,h1,h2,rfl⟩
  case callv=>
   split at h
   .obtain⟨r,h1,h2,h3⟩:=h;exact⟨_,_,h3,r,h1,h2,rfl⟩
   .exact h.elim
  case callb=>
   split at h
   .obtain⟨r,h1,h2,h3⟩:=h;exact⟨_,_,h3,r,h1,h2,rfl⟩
   .exact h.elim
  case callm f=>obtain⟨l,as,ms,k,r,ms',k',h1,h2,h3,h4,h5⟩:=h;exact⟨_,_,h5,l,as,ms,k,r,ms',k',h1,h2,h3,h4,rfl⟩
  case callvm=>
   split at h
   .obtain⟨l,as,ms,k,r,ms',k',h1,h2,h3,h4,h5⟩:=h;exact⟨_,_,h5,l,as,ms,k,r,ms',k',h1,h2,h3,h4,rfl⟩
   .exact h.elim
  all_goals
   split at h
   .exact⟨_,_,h.2.2,h.1,h.2.1,rfl⟩
   .exact⟨_,_,h.2.2,h.1,h.2.1,rfl⟩
theorem zaw4{x:PX}{f g:Nat->A}(G:zbz8)(h:∀t∈rdsX [x],f t=g t):xv G f x=xv G g x:=by cases x<;>first|rfl|exact h _ (by simp[rdsX])
theorem zL8(x:PX)(xs:List PX)(t:Nat):t∈rdsX (x::xs)↔t∈rdsX [x]\/t∈rdsX xs:=by cases x<;>simp[rdsX]
theorem zbp7{st st2:St}:∀(xs:List PX),(∀t∈rdsX xs,st.slot t=st2.slot t)->zo3 C st xs=zo3 C st2 xs/\(zX4 C st xs↔zX4 C st2 xs)
 |[],_=>⟨rfl,kF⟩
 |x::xs,h=>by have h1:=zaw4 (x:=x) C.G (f:=st.slot) (g:=st2.slot) λ t ht=>h t ((zL8 x xs t).2 (.inl ht));obtain⟨h2,h3⟩:=zbp7 xs λ t ht=>h t ((zL8 x xs t).2 (.inr ht));simp only[zo3,zX4,h1,h2,h3,cP]
theorem zcG1{st st2:St}(hm:st2.mem=st.mem)(hn:st2.nx=st.nx):st2.m=st.m:=by funext x;simp only[St.m,hm,hn]
theorem zaH0{st:St}{d:Option Nat}{v u:A}{mw:List (Nat×MS)}{st2:St}(h:st.app d u mw=st.app d v [])(hm:st2.mem=st.mem)(hn:st2.nx=st.nx):st2.app d u mw=st2.app d v []:=by
 simp only[St.app,St.mk.injEq,putM,nxt]at h⊢;obtain⟨h1,h2,h3⟩:=h;refine⟨?_,by rw[hm];exact h2,by rw[hn];exact h3⟩;cases d with
 |none=>rfl
 |some d=>simp only[putF,fO,Prod.mk.injEq,fX,gV]at h1⊢;exact h1
theorem zcK6{p:POp}{st st2:St}{v:A}(hm:st2.mem=st.mem)(hn:st2.nx=st.nx)(hr:∀t∈p.rds,st.slot t=st2.slot t)
  (h:aop C p st (λ s=>s=st.app p.dst v [])):aop C p st2 (λ s=>s=st2.app p.dst v []):=by
 have hx:∀t∈rdsX p.xs,st.slot t=st2.slot t:=λ t ht=>hr t (cC _ ht);obtain⟨hv,hgd⟩:=zbp7 (C:=C) p.xs hx;have hgo:zE1 st2 p.g=zE1 st p.g:=by
  cases hg:p.g with
  |none=>rfl
  |some q=>simp only[zE1];rw[hr q.1 (cO _ (by simp[hg]))]
 unfold aop at h⊢;rw[hgo,<-hv,hn,zcG1 hm hn,<-hgd];cases hg:zE1 st p.g with
 |none=>simp[hg]at h
 |some g=>
  simp only[hg]at h⊢;cases hp:p.po<;>simp only[hp]at h|-
  case pick=>
   split at h
   .rename_i c x y hxs;simp only[hxs]at hx⊢;have e1:=zaw4 (x:=c) C.G (f:=st.slot) (g:=st2.slot) λ t ht=>hx t ((zL8 _ _ _).2 (.inl ht));have e2:=zaw4 (x:=x) C.G (f:=st.slot) (g:=st2.slot) λ t ht=>hx t ((zL8 _ _ _).2 (.inr ((zL8 _ _ _).2 (.inl ht))));have e3:=zaw4 (x:=y) C.G (f:=st.slot) (g:=st2.slot) λ t ht=>hx t ((zL8 _ _ _).2 (.inr ((zL8 _ _ _).2 (.inr ht))));rw[<-e1,<-e2,<-e3];split at h
    .exact⟨h.1,zaH0 h.2 hm hn⟩
    .exact h.elim
   .exact h.elim
  case call f=>obtain⟨r,h1,h2,h3⟩:=h;exact⟨r,h1,h2,zaH0 h3 hm hn⟩
  case callv=>
   split at h
   .obtain⟨r,h1,h2,h3⟩:=h;exact⟨r,h1,h2,zaH0 h3 hm hn⟩
   .exact h.elim
  case callb=>
   split at h
   .obtain⟨r,h1,h2,h3⟩:=h;exact⟨r,h1,h2,zaH0 h3 hm hn⟩
   .exact h.elim
  case callm f=>obtain⟨l,as,ms,k,r,ms',k',h1,h2,h3,h4,h5⟩:=h;exact⟨l,as,ms,k,r,ms',k',h1,h2,h3,h4,zaH0 h5 hm hn⟩
  case callvm=>
   split at h
   .obtain⟨l,as,ms,k,r,ms',k',h1,h2,h3,h4,h5⟩:=h;exact⟨l,as,ms,k,r,ms',k',h1,h2,h3,h4,zaH0 h5 hm hn⟩
   .exact h.elim
  all_goals
   split at h
   .exact⟨h.1,h.2.1,zaH0 h.2.2 hm hn⟩
   .exact⟨h.1,h.2.1,zaH0 h.2.2 hm hn⟩
def SL(ps:List POp)(vs:Nat->A)(st:St)(f:Nat->Bool):Nat->St
 |0=>st
 |n+1=>match ps[n]? with
  |some p=>if f n then(SL ps vs st f n).app p.dst (vs n) []else SL ps vs st f n
  |none=>SL ps vs st f n
theorem zcg7(ps:List POp)(vs:Nat->A)(st:St)(f:Nat->Bool):∀n,(SL ps vs st f n).mem=st.mem/\(SL ps vs st f n).nx=st.nx
 |0=>⟨rfl,rfl⟩
 |n+1=>by
  have:=zcg7 ps vs st f n;simp only[SL];split
  .split
   .exact this
   .exact this
  .exact this
theorem zaw5(st:St)(d:Option Nat)(v:A)(t:Nat):(st.app d v []).slot t=if d=some t then v else st.slot t:=by
 rw[zcm6];cases d with
 |none=>simp[setF]
 |some d=>
  by_cases h:t=d
  .subst h;simp[setF]
  .simp[setF,h,jX h,show¬d=t fromλ e=>h e.symm]
theorem zcX2{ps:List POp}{vs:Nat->A}{st:St}{f:Nat->Bool}{j:Nat}{p:POp}(hp:ps[j]? =some p)(hf:f j=false)(f':Nat->Bool)(hj:f' j=true)(hf':∀i,i≠j->f' i=f i)
  (hc:∀i q,j<i->ps[i]? =some q->f i=true->conf p q=false):∀n t,(SL ps vs st f' n).slot t=if j<n/\p.dst=some t then vs j else(SL ps vs st f n).slot t
 |0,t=>by simp[SL]
 |n+1,t=>by
  have ih:=zcX2 (vs:=vs) (st:=st) hp hf f' hj hf' hc n
  by_cases hn:n=j
  .subst hn;simp only[SL,hp,hj,hf,bS,bN,bU,zaw5]
   by_cases hd:p.dst=some t
   .simp[hd]
   .simp only[hd,bU,and_false];have:=ih t
    simpa [hd]using this
  .have hlt:j<n+1↔j<n:=by omega
   simp only[SL,hf' n hn,hlt];cases hq:ps[n]? with
   |none=>simpa using ih t
   |some q=>
    simp only[];split
    .rename_i hfn;rw[zaw5,zaw5,ih t]
     by_cases hd:q.dst=some t
     .simp only[hd,bS]
      by_cases hjn:j<n
      .have:=hc n q hjn hq hfn;unfold conf at this
       by_cases hpd:p.dst=some t
       .simp[hpd,hd]at this
       .simp[hpd]
      .simp[hjn]
     .simp[hd]
    .exact ih t
theorem zcG2{ps:List POp}{vs:Nat->A}{st:St}{f:Nat->Bool}{j t:Nat}(h1:∀i q,i<j->ps[i]? =some q->q.dst=some t->f i=true)(h2:∀i q,j<=i->ps[i]? =some q->q.dst=some t->f i=false):
  ∀n,(SL ps vs st f n).slot t=(SL ps vs st (λ _=>true) (min n j)).slot t
 |0=>by simp[SL]
 |n+1=>by
  have ih:=zcG2 (vs:=vs) (st:=st) h1 h2 n
  by_cases hn:n<j
  .rw[show min (n+1) j=n+1 by omega];rw[show min n j=n by omega]at ih;simp only[SL];cases hq:ps[n]? with
   |none=>exact ih
   |some q=>
    simp only[bS]
    by_cases hd:q.dst=some t
    .rw[h1 n q hn hq hd];simp[zaw5,hd]
    .rw[zaw5,bL hd];split
     .rw[zaw5,bL hd];exact ih
     .exact ih
  .rw[show min (n+1) j=j by omega];rw[show min n j=j by omega]at ih;simp only[SL];cases hq:ps[n]? with
   |none=>exact ih
   |some q=>
    simp only[]
    by_cases hd:q.dst=some t
    .rw[h2 n q (by omega) hq hd];simpa using ih
    .split
     .rw[zaw5,bL hd];exact ih
     .exact ih
theorem zbL6{K:St->Prop}:∀(ps:List POp) (st:St),zaL9 C ps st K->∃vs:Nat->A,K (SL ps vs st (λ _=>true) ps.length)/\
  ∀j p,ps[j]? =some p->aop C p (SL ps vs st (λ _=>true) j) (λ s=>s=(SL ps vs st (λ _=>true) j).app p.dst (vs j) [])
 |[],st,h=>⟨λ _=>.any,h,λ j p hp=>by simp at hp⟩
 |p::ps,st,h=>by
  obtain⟨v,mw,⟨⟨h1,h2⟩,h3⟩,h4⟩:=zdl1 h;have e:st.app p.dst v mw=st.app p.dst v []:=by simp only[St.app,St.mk.injEq]at h1 h2⊢;exact⟨trivial,h1,h2⟩
  rw[e]at h3 h4;obtain⟨vs,h5,h6⟩:=zbL6 ps _ h3;have sh:∀n,SL (p::ps) (λ i=>match i with|0=>v|i+1=>vs i) st (λ _=>true) (n+1)=SL ps vs (st.app p.dst v []) (λ _=>true) n:=by
   intro n;induction n with
   |zero=>simp[SL]
   |succ n ih=>rw[SL,ih];simp only[List.getElem?_cons_succ];rfl
  refine⟨λ i=>match i with|0=>v|i+1=>vs i,?_,λ j q hq=>?_⟩
  .rw[List.length_cons,sh];exact h5
  .cases j with
   |zero=>simp at hq;subst hq;exact h4
   |succ j=>rw[sh];exact h6 j q (by simpa using hq)
theorem zaM0{D:Nat->Prop}:∀(es acc:List (List Nat)),(∀j e,es[j]? =some e->D (acc.length+j)->∀i∈e,D i)->(∀j,D j->∀i∈acc.getD j [],D i)->
  ∀j,D j->∀i∈(ancs acc es).getD j [],D i
 |[],acc,_,h=>h
 |e::es,acc,he,h=>by
  unfold ancs;refine zaM0 es _ (λ j e' hj hD=>he (j+1) e' (by simpa using hj) (by rw[bP]at hD;simp only[List.length_cons,List.length_nil]at hD;rwa [show acc.length+(j+1)=acc.length+(0+1)+j by omega])) ?_;intro j hD i hi
  by_cases hj:j<acc.length
  .refine h j hD i ?_;rw[bO,cY hj]at hi;rwa [bO]
  .by_cases hj2:j=acc.length
   .subst hj2;have he0:=he 0 e rfl (by simpa using hD);rw[bO,eC (cQ _)]at hi;simp only[hB,List.getElem?_cons_zero,Option.getD_some,cF,eD]at hi;rcases hi with hi|⟨k,hk,hi⟩
    .exact he0 i hi
    .exact h k (he0 k hk) i hi
   .rw[bO,gC (by simp;omega)]at hi;simp at hi
theorem zaH1{ps:List POp}{an:List (List Nat)}(h:zbu3 ps an=true){i j:Nat}{p q:POp}(hij:i<j)(hp:ps[i]? =some p)(hq:ps[j]? =some q)(hc:conf p q=true):i∈an.getD j []:=by
 unfold zbu3 at h;have h1:=dB.1 h j (dN.2 (bT.1 hq).1);have h2:=dB.1 h1 i (dN.2 hij);simp only[hp,hq,hc,cW,dW]at h2
 simpa using h2
theorem zaX8:∀(os:List Oper) (n:Nat),POp.sortOk os n=true->∀j o,os[j]? =some o->∀i∈zB1 o,i<n+j
 |[],_,_,j,o,h=>by simp at h
 |x::os,n,h,j,o,ho=>by
  simp only[POp.sortOk,bK]at h;cases j with
  |zero=>
   simp at ho;subst ho;intro i hi;simp only[zB1,bW,cV]at hi;obtain⟨e,⟨he,hb⟩,rfl⟩:=hi;have:=Array.all_eq_true_iff_forall_mem.1 h.1 e (by simpa using he)
   simpa [hb]using this
  |succ j=>intro i hi;have:=zaX8 os (n+1) h.2 j o (by simpa using ho) i hi;omega
def left(f:Nat->Bool):Nat->Nat
 |0=>0
 |n+1=>left f n+if f n then 0 else 1
theorem zbL7{f f':Nat->Bool}{j:Nat}(hj:f j=false)(hj':f' j=true)(h:∀i,i≠j->f' i=f i):∀n,left f n=left f' n+if j<n then 1 else 0
 |0=>rfl
 |n+1=>by
  have ih:=zbL7 hj hj' h n;simp only[left]
  by_cases hn:n=j
  .subst hn;simp[hj,hj'];simp at ih;omega
  .rw[h n hn,ih];have:j<n+1↔j<n:=by omega
   simp only[this];omega
theorem zbu6{f:Nat->Bool}:∀n,left f n=0->∀i,i<n->f i=true
 |n+1,h,i,hi=>by
  simp only[left]at h
  by_cases hn:i=n
  .subst hn;cases hf:f i with
   |true=>rfl
   |false=>simp[hf]at h
  .exact zbu6 n (by omega) i (by omega)
theorem zaR2{p q:POp}{t:Nat}(h:p.dst=some t)(hq:t∈q.rds\/q.dst=some t):conf p q=true/\(t∈q.rds->conf q p=true):=by
 unfold conf;rw[h];refine⟨?_,λ hr=>?_⟩
 .rcases hq with hq|hq<;>simp[hq]
 .simp[hr]
end
section
variable {C:Cx} {E:Env}
theorem Sat.drawn{s:S}{a:Act}{w:World}{n:Nat}(h:Sat E s a w)(hn:w.drawn<=n):Sat E s a {w with drawn:=n}:=by obtain⟨W,μ,hs⟩:=h;have hk:Keeps (λ _=>False) w {w with drawn:=n}:=⟨rfl,rfl,rfl,hn,cQ _,λ _ _ _=>rfl⟩;exact⟨W,μ,hs.step (Step.quiet hk hs.mem hs.inj hs.wlt) (d:=none) (v:=undef) (av:=.any) (λ x hx=>by cases hx) trivial⟩
theorem ROk.at{ops:Array Oper}{N:Nat}:∀{ps:List POp} {n j:Nat} {o:Oper},ROk C N ops n ps->ops[n+j]? =some o->∃p,ps[j]? =some p/\POk C N ops o p
  |[],n,j,o,h,ho=>by have h:n=ops.size:=h;have:=(cD.1 ho).1;omega
  |p::ps,n,0,o,h,ho=>by obtain⟨⟨o',ho',hp⟩,_⟩:=h;rw[Nat.add_zero,ho']at ho;cases ho;exact⟨p,rfl,hp⟩
  |p::ps,n,j+1,o,h,ho=>by obtain⟨q,hq,hp⟩:=ROk.at (j:=j) h.2 (by rw[<-ho];congr 1;omega);exact⟨q,by simpa using hq,hp⟩
theorem zbL8{ps:List POp}{vs:Nat->A}{st:St}{f f':Nat->Bool}:∀n,(∀i,i<n->f i=f' i)->SL ps vs st f n=SL ps vs st f' n
  |0,_=>rfl
  |n+1,h=>by have ih:=zbL8 (ps:=ps) (vs:=vs) (st:=st) n λ i hi=>h i (by omega);simp only[SL,ih,h n (by omega)]
theorem zcK7{st st2:St}(hs:∀t,st2.slot t=st.slot t)(hm:st2.mem=st.mem)(hn:st2.nx=st.nx):st2.toS=st.toS:=by unfold St.toS;rw[zcG1 hm hn,show st2.slot=st.slot from funext hs]
theorem zcK8{os:Array Oper}{ps:List POp}{st:St}{vs:Nat->A}{K:St->Prop}{Q:Exit->Act->World->Prop}(hG:E.G=C.G)(hr:ROk C E.N os 0 ps)(hso:POp.sortOk os.toList 0=true)
    (hco:zbu3 ps (ancs [] (os.toList.map zB1))=true) (hK:K (SL ps vs st (λ _=>true) ps.length))
    (hv:∀j p,ps[j]? =some p->aop C p (SL ps vs st (λ _=>true) j) (λ s=>s=(SL ps vs st (λ _=>true) j).app p.dst (vs j) []))
    (hQ:∀st' a' w',K st'->Sat E st'.toS a' w'->Q .normal a' w'):
    ∀(fuel:Nat) (listed:Array Bool) (a:Act) (w:World),listed.size=os.size->Sat E (SL ps vs st (λ i=>listed.getD i false) ps.length).toS a w->
      (∀j o,os[j]? =some o->listed.getD j false=true->∀i∈zB1 o,listed.getD i false=true)->left (λ i=>listed.getD i false) os.size<=fuel->
      wpAny C.P .any os Q fuel listed a w:=by
  have hlen:ps.length=os.size:=by have:=hr.size;omega
  have hdone:∀(listed:Array Bool) (a:Act) (w:World),Sat E (SL ps vs st (λ i=>listed.getD i false) ps.length).toS a w->(∀i,i<os.size->listed.getD i false=true)->Q .normal a w:=by intro listed a w hs hall;refine hQ _ a w hK ?_;rw[zbL8 (f:=λ _=>true) (f':=λ i=>listed.getD i false) ps.length λ i hi=>(hall i (by omega)).symm];exact hs
  have hready:∀(listed:Array Bool),listed.size=os.size->Region.ready .any os listed=[]->∀i,i<os.size->listed.getD i false=true:=by
    intro listed hsz hr0 i;induction i using Nat.strongRecOn with
    |_ i ih=>
      intro hi;cases hl:listed.getD i false with
      |true=>rfl
      |false=>
        have:i∈Region.ready .any os listed:=by
          rw[mem_ready];refine⟨?_,os[i],by simp[hi],λ e he hb=>?_⟩
          · have h1:i<listed.size:=by omega
            simp only[Array.getD,h1,jO]at hl⊢;exact hl
          · have h2:e.on∈zB1 os[i]:=by
              simp only[zB1,bW,cV];exact⟨e,⟨by simpa using he,hb⟩,rfl⟩
            have h3:=zaX8 os.toList 0 hso i os[i] (by simp[hi]) e.on h2;exact ih e.on (by omega) (by omega)
        rw[hr0]at this;cases this
  intro fuel;induction fuel with
  |zero=>
    intro listed a w hsz hs hcl hle;have hall:=zbu6 (f:=λ i=>listed.getD i false) os.size (by omega);refine⟨?_,hdone listed a w hs hall⟩;cases hrd:Region.ready .any os listed with
    |nil=>rfl
    |cons i rs=>
      have:i∈Region.ready .any os listed:=by rw[hrd];simp
      rw[mem_ready]at this;obtain⟨h1,o,ho,_⟩:=this;have hi:=(cD.1 ho).1;have:=hall i hi;have h2:i<listed.size:=by omega
      simp only[Array.getD,h2,jO]at h1 this;rw[this]at h1;cases h1
  |succ fuel ih=>
    intro listed a w hsz hs hcl hle;refine⟨λ hr0=>hdone listed a w hs (hready listed hsz hr0),λ i hi=>?_⟩;rw[mem_ready]at hi;obtain⟨hl,o,ho,hed⟩:=hi;have hlt:=(cD.1 ho).1;have hlt2:i<listed.size:=by omega
    have hl:listed.getD i false=false:=by simp only[Array.getD,hlt2,jO]at hl⊢;exact hl
    obtain⟨p,hp,hpo⟩:=hr.at (j:=i) (by rw[dC];exact ho);have hedge:∀k∈zB1 o,listed.getD k false=true:=by intro k hk;simp only[zB1,bW,cV]at hk;obtain⟨e,⟨he,hb⟩,rfl⟩:=hk;exact hed e (by simpa using he) hb
    have hset:(listed.setIfInBounds i true).getD i false=true:=by simp[Array.getD,hlt2]
    have hsetne:∀k,k≠i->(listed.setIfInBounds i true).getD k false=listed.getD k false:=λ k hk=>getD_set_ne false (jX hk);have hcl':∀j o,os[j]? =some o->(listed.setIfInBounds i true).getD j false=true->∀k∈zB1 o,(listed.setIfInBounds i true).getD k false=true:=by
      intro j o' ho' hj k hk
      by_cases hji:j=i
      · subst hji
        rw[ho]at ho';cases ho';exact getD_set_true (hedge k hk)
      · rw[hsetne j hji]at hj
        exact getD_set_true (hcl j o' ho' hj k hk)
    have hanc:∀j,(listed.setIfInBounds i true).getD j false=true->∀k∈(ancs [] (os.toList.map zB1)).getD j [],(listed.setIfInBounds i true).getD k false=true:=
      zaM0 (D:=λ j=>(listed.setIfInBounds i true).getD j false=true) _ [] (λ j e he hD=>by
        simp only[cE,bX]at he;obtain⟨o',ho',rfl⟩:=he;exact hcl' j o' (by simpa using ho') (by simpa using hD)) (λ j _ k hk=>by simp at hk)
    have hanc0:∀j,listed.getD j false=true->∀k∈(ancs [] (os.toList.map zB1)).getD j [],listed.getD k false=true:=
      zaM0 (D:=λ j=>listed.getD j false=true) _ [] (λ j e he hD=>by
        simp only[cE,bX]at he;obtain⟨o',ho',rfl⟩:=he;exact hcl j o' (by simpa using ho') (by simpa using hD)) (λ j _ k hk=>by simp at hk)
    have hbef:∀k q,k<i->ps[k]? =some q->conf q p=true->listed.getD k false=true:=by intro k q hk hq hc;have:=hanc i hset k (zaH1 hco hk hq hp hc);rwa [hsetne k (by omega)]at this
    have haft:∀k q,i<k->ps[k]? =some q->conf p q=true->listed.getD k false=false:=by
      intro k q hk hq hc;cases hlk:listed.getD k false with
      |false=>rfl
      |true=>have:=hanc0 k hlk i (zaH1 hco hk hp hq hc);rw[hl]at this;cases this
    have hmem:=zcg7 ps vs st (λ k=>listed.getD k false) ps.length;have hmem2:=zcg7 ps vs st (λ _=>true) i;have hil:i<ps.length:=(bT.1 hp).1;have haop:aop C p (SL ps vs st (λ k=>listed.getD k false) ps.length) (λ s=>s=(SL ps vs st (λ k=>listed.getD k false) ps.length).app p.dst (vs i) []):=by
      refine zcK6 (st:=SL ps vs st (λ _=>true) i) (by rw[hmem.1,hmem2.1]) (by rw[hmem.2,hmem2.2]) (λ t ht=>?_) (hv i p hp);rw[zcG2 (j:=i) (t:=t) (λ k q hk hq hd=>hbef k q hk hq (zaR2 hd (.inl ht)).1) (λ k q hk hq hd=>?_) ps.length,iR (hI hil)]
      by_cases hki:k=i
      .subst hki;exact hl
      .exact haft k q (by omega) hq ((zaR2 hd (.inl ht)).2 ht)
    obtain ⟨W,μ,hs⟩:=hs;have key:=zcb5 hs hG hpo haop (Q:=Q) (k:=wpAny C.P .any os Q fuel (listed.setIfInBounds i true)) (λ st' a' w' hst hs'=>by
      subst hst;refine ih _ a' w' (by simpa using hsz) ?_ hcl' ?_
      · have e:(SL ps vs st (λ k=>(listed.setIfInBounds i true).getD k false) ps.length).toS=((SL ps vs st (λ k=>listed.getD k false) ps.length).app p.dst (vs i) []).toS:=by
          have hm3:=zcg7 ps vs st (λ k=>(listed.setIfInBounds i true).getD k false) ps.length;refine zcK7 (λ t=>?_) ?_ ?_
          · rw[zcX2 (f:=λ k=>listed.getD k false) hp hl (λ k=>(listed.setIfInBounds i true).getD k false) hset hsetne (λ k q hk hq hfk=>?_),zaw5]
            .simp only[hil,fX]
            · cases hc:conf p q with
              |false=>rfl
              |true=>have:=haft k q hk hq hc;exact absurd (this.symm.trans hfk) (by simp)
          .rw[hm3.1];exact hmem.1.symm
          .rw[hm3.2];exact hmem.2.symm
        rw[e];exact hs'
      · have:=zbL7 (f:=λ k=>listed.getD k false) (f':=λ k=>(listed.setIfInBounds i true).getD k false) (j:=i) hl hset hsetne os.size
        rw[bM hlt]at this;omega)
    simp only[wpOp,ho];split at key
    .rename_i hw;rw[bM hw];exact .inl key
    .rename_i hw;rw[bL hw];exact key
theorem zdl2{Q:Exit->St->Prop}{st:St}{dr:List Nat}{ops:List POp}(hm:C.P.follows .mixedOrders=true)(hG:E.G=C.G)(h:zaL9 C ops st λ s=>Q .normal (s.drop dr)):AW C E (.regd dr ops) Q st:=λ code hc a w hs=>by
  cases code with
  |region id os d=>
   cases d with
   |false=>simp[chkC]at hc
   |true=>
    simp only[chkC,bK,zcF7]at hc;obtain⟨hc1,hc2,hc3⟩:=hc;have hr:ROk C E.N os 0 ops:=by obtain⟨P,G⟩:=C;exact zbe3 os.toList ops 0 hc1 (by simp) (by simp)
    obtain⟨vs,hK,hv⟩:=zbL6 ops st h;refine wp_region_any hm ?_;refine zcK8 (st:=st) (vs:=vs) hG hr hc2 hc3 hK hv (λ st' a' w' hQ hs'=>⟨_,hQ,hs'.drop⟩) os.size _ a _ (by simp) ?_ (λ j o ho hj=>?_) ?_
    · have e:SL ops vs st (λ i=>(Array.replicate os.size false).getD i false) ops.length=SL ops vs st (λ _=>false) ops.length:=zbL8 _ λ i _=>by simp[Array.getD]
      have e2:∀n,SL ops vs st (λ _=>false) n=st:=λ n=>by
        induction n with
        |zero=>rfl
        |succ n ih=>simp only[SL,ih,bN,bU];split<;>rfl
      rw[e,e2];exact hs.drawn (jN _)
    .simp[Array.getD]at hj
    · have:∀n,left (λ i=>(Array.replicate os.size false).getD i false) n<=n:=λ n=>by
        induction n with
        |zero=>exact cQ _
        |succ n ih=>simp only[left];split<;>omega
      exact this _
  |_=>simp[chkC]at hc
end
theorem zL9{a b:ByteArray}:a.toList=b.toList↔a=b:=by
 constructor
 .intro h;rw[ByteArray.toList_eq,ByteArray.toList_eq]at h;cases a;cases b;simp only[ByteArray.mk.injEq];exact Array.toList_inj.1 (by simpa using h)
 .intro h;rw[h]
def eI(k:IntKind)(x:Int):List A:=[A.int k x]
def eB(x:Bool):List A:=[A.bool x]
def eS(x:ByteArray):List A:=[A.str x]
def eL{α:Type}(f:α->List A)(l:List α):List A:=[A.sl (l.map f)]
@[go_sem] theorem zdF3(a:A):sub [a] 0 1=[a]:=rfl
@[go_sem] theorem zdF4(a b:A):upd [a] 0 [b]=[b]:=rfl
@[go_sem] theorem zdD1{α β:Type}(f:α->β)(l:List α)(n:Nat):(l.map f).take n=(l.take n).map f:=List.map_take.symm
@[go_sem] theorem zdD2{α β:Type}(f:α->β)(l:List α)(n:Nat):(l.map f).drop n=(l.drop n).map f:=List.map_drop.symm
@[go_sem] theorem zdt7{α β:Type}(f:α->β)(l m:List α):l.map f++m.map f=(l++m).map f:=dX.symm
attribute [go_sem] dG
@[go_sem] theorem zdh2(c:List A)(cs:List (List A)):zP0 (c::cs)↔zj2 c=true/\zP0 cs:=by
 constructor
 .intro h;refine⟨?_,λ d hd=>h d (.tail _ hd)⟩;have:=h c (.head _)
  clear h
  induction c with
  |nil=>rfl
  |cons a c ih=>simp only[zj2,bK];exact⟨this a (.head _),ih λ b hb=>this b (.tail _ hb)⟩
 .rintro⟨h1,h2⟩ d hd;rcases bY.1 hd with rfl|hd
  .exact zaf2 h1
  .exact h2 d hd
@[go_sem] theorem zcS7(a b:List (List A)):zP0 (a++b)↔zP0 a/\zP0 b:=by simp only[zP0,cF];exact⟨λ h=>⟨λ c k=>h c (.inl k),λ c k=>h c (.inr k)⟩,λ h c k=>k.elim (h.1 c) (h.2 c)⟩
@[go_sem] theorem zdz9:maxLen=9223372036854775807:=rfl
@[go_sem] theorem eI.getD(k:IntKind)(l:List Int)(i:Nat):(l.map (eI k)).getD i [A.int k 0]=[A.int k (l.getD i 0)]:=by simp only[bO,cE];cases l[i]? <;>rfl
@[go_sem] theorem eI.snoc(k:IntKind)(l:List Int)(x:Int):l.map (eI k)++[[A.int k x]]=(l++[x]).map (eI k):=by simp[eI]
@[go_sem] theorem eI.allLen(k:IntKind)(l:List Int):zJ9 1 (l.map (eI k)):=by intro c hc;obtain⟨x,_,rfl⟩:=bW.1 hc;rfl
@[go_sem] theorem eI.pureRows(k:IntKind)(l:List Int):zP0 (l.map (eI k)):=by intro c hc;obtain⟨x,_,rfl⟩:=bW.1 hc;intro a ha;simp[eI]at ha;subst ha;rfl
@[go_sem] theorem eI.pureEs(k:IntKind)(l:List Int):pureEs (l.map (eI k))=true:=by induction l with
 |nil=>rfl
 |cons a l ih=>simpa [Ab.pureEs,zj2,A.pure1,eI]using ih
@[go_sem] theorem eS.getD(l:List ByteArray)(i:Nat):(l.map eS).getD i [A.str ⟨#[]⟩]=[A.str (l.getD i ⟨#[]⟩)]:=by simp only[bO,cE];cases l[i]? <;>rfl
@[go_sem] theorem eL.getD{α:Type}(f:α->List A)(l:List (List α))(i:Nat):(l.map (eL f)).getD i [A.sl (([]:List α).map f)]=[A.sl ((l.getD i []).map f)]:=by simp only[bO,cE];cases l[i]? <;>rfl
@[go_sem] theorem eL.getD0{α:Type}(f:α->List A)(l:List (List α))(i:Nat):(l.map (eL f)).getD i [A.sl []]=[A.sl ((l.getD i []).map f)]:=eL.getD f l i
@[ext] structure Arr (α:Type) (n:Nat) where
 l:List α
 h:l.length=n
instance{α:Type}[DecidableEq α]{n:Nat}:DecidableEq (Arr α n):=λ a b=>decidable_of_iff (a.l=b.l) (by rw[Arr.ext_iff])
def Arr.get{α:Type}{n:Nat}(a:Arr α n)(i:Nat)(z:α):α:=a.l.getD (zE3 i n) z
def Arr.put{α:Type}{n:Nat}(a:Arr α n)(i:Nat)(x:α):Arr α n:=⟨a.l.set (zE3 i n) x,by simp[a.h]⟩
def Arr.rep{α:Type}(n:Nat)(x:α):Arr α n:=⟨List.replicate n x,by simp⟩
def Arr.enc{α:Type}{n:Nat}(f:α->List A)(a:Arr α n):List A:=(a.l.map f).flatten
theorem zcn7{α:Type}(f:α->List A)(sz:Nat)(hf:∀x,(f x).length=sz):∀l:List α,(l.map f).flatten.length=l.length*sz
 |[]=>by simp
 |a::l=>by simp only[cN,List.flatten_cons,bP,hf,zcn7 f sz hf l,List.length_cons];rw[dF];omega
theorem zcG3{α:Type}(f:α->List A)(sz:Nat)(hf:∀x,(f x).length=sz)(z:α):∀(l:List α) (i:Nat),i<l.length->sub (l.map f).flatten (i*sz) sz=f (l.getD i z)
 |[],i,h=>by simp at h
 |a::l,0,_=>by simp[sub,hf a]
 |a::l,i+1,h=>by have:=zcG3 f sz hf z l i (by simpa using h);simp only[sub,cN,List.flatten_cons,gQ]at this⊢;rw[<-this,jR,fD (by rw[hf,dF];omega),hf,List.nil_append];congr 2;rw[dF];omega
theorem zcn8{α:Type}(f:α->List A)(sz:Nat)(hf:∀x,(f x).length=sz)(x:α):∀(l:List α) (i:Nat),i<l.length->upd (l.map f).flatten (i*sz) (f x)=((l.set i x).map f).flatten
 |[],i,h=>by simp at h
 |a::l,0,_=>by simp[upd,hf]
 |a::l,i+1,h=>by
  have:=zcn8 f sz hf x l i (by simpa using h);simp only[upd,cN,List.flatten_cons,List.set_cons_succ]at this⊢;rw[<-this];have e:(i+1)*sz=(f a).length+i*sz:=by rw[hf,dF];omega
  rw[e,List.take_length_add_append,fM,List.drop_length_add_append];simp[dE]
@[go_sem] theorem Arr.enc_len{α:Type}{n:Nat}(f:α->List A)(a:Arr α n)(sz:Nat)(hf:∀x,(f x).length=sz):(Arr.enc f a).length=n*sz:=by rw[Arr.enc,zcn7 f sz hf,a.h]
theorem zA5{α:Type}(l:List α)(i:Nat)(z:α)(h:i<l.length):l.getD i z=l[i]:=by rw[bO,bR h];rfl
theorem zaC5{i n:Nat}(h:0<n):zE3 i n<n:=by unfold zE3;split<;>omega
theorem zao5{i n:Nat}(h:i<n):zE3 i n=i:=bM h
theorem zcg8{α:Type}{n sz:Nat}(f:α->List A)(hf:∀x,(f x).length=sz)(z:α)(a:Arr α (n+1))(i:Nat):sub (Arr.enc f a) (zE3 i (n+1)*sz) sz=f (a.get i z):=zcG3 f sz hf z a.l _ (by rw[a.h];exact zaC5 (by omega))
theorem zcG4{α:Type}{n sz:Nat}(f:α->List A)(hf:∀x,(f x).length=sz)(a:Arr α (n+1))(i:Nat)(x:α):upd (Arr.enc f a) (zE3 i (n+1)*sz) (f x)=Arr.enc f (a.put i x):=zcn8 f sz hf x a.l _ (by rw[a.h];exact zaC5 (by omega))
attribute [go_sem] zao5
@[go_sem] theorem zdA0(i n:Nat):(zE3 i (n+1)<=n)=True:=by have:=zaC5 (i:=i) (n:=n+1) (by omega);exact eq_true (by omega)
section
variable {n:Nat}
@[go_sem] theorem eI.alen(k:IntKind)(a:Arr Int n):(Arr.enc (eI k) a).length=n:=by rw[Arr.enc_len _ _ 1 (λ _=>rfl),fK]
@[go_sem] theorem eB.alen(a:Arr Bool n):(Arr.enc eB a).length=n:=by rw[Arr.enc_len _ _ 1 (λ _=>rfl),fK]
@[go_sem] theorem eS.alen(a:Arr ByteArray n):(Arr.enc eS a).length=n:=by rw[Arr.enc_len _ _ 1 (λ _=>rfl),fK]
@[go_sem] theorem eI.aat(k:IntKind)(a:Arr Int (n+1))(i:Nat):sub (Arr.enc (eI k) a) (zE3 i (n+1)) 1=[A.int k (a.get i 0)]:=by have:=zcg8 (eI k) (sz:=1) (λ _=>rfl) 0 a i;rwa [fK]at this
@[go_sem] theorem eI.aput(k:IntKind)(a:Arr Int (n+1))(i:Nat)(x:Int):upd (Arr.enc (eI k) a) (zE3 i (n+1)) [A.int k x]=Arr.enc (eI k) (a.put i x):=by have:=zcG4 (eI k) (sz:=1) (λ _=>rfl) a i x;rwa [fK]at this
@[go_sem] theorem eI.aputc(k:IntKind)(a:Arr Int (n+1))(i:Nat)(x:Int)(h:i<n+1):upd (Arr.enc (eI k) a) i [A.int k x]=Arr.enc (eI k) (a.put i x):=by have:=eI.aput k a i x;rwa [zao5 h]at this
@[go_sem] theorem eB.aat(a:Arr Bool (n+1))(i:Nat):sub (Arr.enc eB a) (zE3 i (n+1)) 1=[A.bool (a.get i false)]:=by have:=zcg8 eB (sz:=1) (λ _=>rfl) false a i;rwa [fK]at this
@[go_sem] theorem eB.aat2{m:Nat}(a:Arr (Arr Bool (m+1)) (n+1))(i j:Nat):sub (Arr.enc (Arr.enc eB) a) (zE3 i (n+1)*(m+1)+zE3 j (m+1)) 1=[A.bool ((a.get i (Arr.rep (m+1) false)).get j false)]:=by have h1:=zcg8 (sz:=m+1) (Arr.enc eB) (λ x=>eB.alen x) (Arr.rep (m+1) false) a i;have h2:=eB.aat (a.get i (Arr.rep (m+1) false)) j;have hj:=zaC5 (i:=j) (n:=m+1) (by omega);rw[<-h2,<-h1];simp only[sub,List.drop_take,iJ,eN];congr 1;omega
@[go_sem] theorem zdt8(i j n m k:Nat)(h:(n+1)*(m+1)<=k+1):(zE3 i (n+1)*(m+1)+zE3 j (m+1)<=k)=True:=by have h1:=zaC5 (i:=i) (n:=n+1) (by omega);have h2:=zaC5 (i:=j) (n:=m+1) (by omega);have h3:(zE3 i (n+1)+1)*(m+1)<=(n+1)*(m+1):=cX _ h1;rw[dF]at h3;exact eq_true (by omega)
@[go_sem] theorem eB.aput(a:Arr Bool (n+1))(i:Nat)(x:Bool):upd (Arr.enc eB a) (zE3 i (n+1)) [A.bool x]=Arr.enc eB (a.put i x):=by have:=zcG4 eB (sz:=1) (λ _=>rfl) a i x;rwa [fK]at this
@[go_sem] theorem eB.aputc(a:Arr Bool (n+1))(i:Nat)(x:Bool)(h:i<n+1):upd (Arr.enc eB a) i [A.bool x]=Arr.enc eB (a.put i x):=by have:=eB.aput a i x;rwa [zao5 h]at this
@[go_sem] theorem eS.aat(a:Arr ByteArray (n+1))(i:Nat):sub (Arr.enc eS a) (zE3 i (n+1)) 1=[A.str (a.get i ⟨#[]⟩)]:=by have:=zcg8 eS (sz:=1) (λ _=>rfl) ⟨#[]⟩ a i;rwa [fK]at this
@[go_sem] theorem eB.aall(a b:Arr Bool n):upd (Arr.enc eB a) 0 (Arr.enc eB b)=Arr.enc eB b:=by simp[upd,eB.alen]
@[go_sem] theorem eI.asub(k:IntKind)(a:Arr Int n):sub (Arr.enc (eI k) a) 0 n=Arr.enc (eI k) a:=by rw[sub,eZ,dG (by rw[eI.alen];exact cQ _)]
@[go_sem] theorem eB.asub(a:Arr Bool n):sub (Arr.enc eB a) 0 n=Arr.enc eB a:=by rw[sub,eZ,dG (by rw[eB.alen];exact cQ _)]
theorem zaX9{α:Type}(f:α->List A)(hf:∀x,zj2 (f x)=true):∀l:List α,zj2 (l.map f).flatten=true
 |[]=>rfl
 |a::l=>by
  have h1:=hf a;have h2:=zaX9 f hf l;have:∀x y:List A,zj2 x=true->zj2 y=true->zj2 (x++y)=true:=λ x y hx hy=>by
   induction x with
   |nil=>exact hy
   |cons c x ih=>simp only[zj2,bK,List.cons_append]at hx⊢;exact⟨hx.1,ih hx.2⟩
  simpa using this _ _ h1 h2
@[go_sem] theorem eI.apure(k:IntKind)(a:Arr Int n):zj2 (Arr.enc (eI k) a)=true:=zaX9 _ (λ _=>rfl) _
@[go_sem] theorem eB.apure(a:Arr Bool n):zj2 (Arr.enc eB a)=true:=zaX9 _ (λ _=>rfl) _
end
class En (T:Type) where
 sz:Nat
 e:T->List A
 z:T
attribute [go_sem] En.sz En.e En.z
@[go_sem] abbrev bx{T:Type}[En T](v:T):Row:=⟨false,En.sz T,En.e (En.z:T),[En.e v]⟩
@[go_sem] abbrev sx{T:Type}[En T](v:List T):Row:=⟨false,En.sz T,En.e (En.z:T),v.map En.e⟩
@[go_sem] abbrev ga{T:Type}[En T](v:T):A:=.agg (En.e v)
@[go_sem] abbrev la{T:Type}[En T](v:List T):A:=.sl (v.map En.e)
section
variable {T:Type} {f:T→List A}
@[go_sem] theorem zdt9{n:Nat}(h:∀x,(f x).length=n)(l:List T):zJ9 n (l.map f):=by intro c hc;obtain⟨x,_,rfl⟩:=bW.1 hc;exact h x
@[go_sem] theorem zdl3(h:∀x,zj2 (f x)=true)(l:List T):zP0 (l.map f):=by intro c hc;obtain⟨x,_,rfl⟩:=bW.1 hc;exact zaf2 (h x)
@[go_sem] theorem zdu0(h:∀x,zj2 (f x)=true)(l:List T):pureEs (l.map f)=true:=by induction l with
 |nil=>rfl
 |cons a l ih=>simp[Ab.pureEs,h,ih]
@[go_sem] theorem zdD3(l:List T)(i:Nat)(z:T):(l.map f).getD i (f z)=f (l.getD i z):=by simp only[bO,cE];cases l[i]? <;>rfl
@[go_sem] theorem zdD4(l:List T)(x:T):l.map f++[f x]=(l++[x]).map f:=by simp
@[go_sem] theorem zdF5(l:List T)(i:Nat)(x:T):(l.map f).set i (f x)=(l.set i x).map f:=by simp[List.map_set]
end
@[ext] structure aD where
 name:ByteArray
 (kind aU home:Int)
 deriving DecidableEq
namespace aD
def zero:aD:=⟨⟨#[]⟩,0,0,0⟩
def enc(x:aD):List A:=[A.str x.name,A.int .i64 x.kind,A.int .i64 x.aU,A.int .i64 x.home]
@[go_sem] theorem len(x:aD):(enc x).length=4:=by simp[enc]
instance:En aD:=⟨4,enc,zero⟩
@[go_sem] theorem laws(x:aD):
 zj2 (enc x)=true/\
 zu9 (enc x)=true/\
 zm6 [.s,.i .i64,.i .i64,.i .i64] (enc x)=true/\
 sub (enc x) 0 4=enc x/\
 (∀y,upd (enc x) 0 (enc y)=enc y)/\
 sub (enc x) 0 1=[A.str x.name]/\
 sub (enc x) 1 1=[A.int .i64 x.kind]/\
 sub (enc x) 2 1=[A.int .i64 x.aU]/\
 sub (enc x) 3 1=[A.int .i64 x.home]/\
 (∀v,upd (enc x) 0 ([A.str v])=enc {x with name:=v})/\
 (∀v,upd (enc x) 1 ([A.int .i64 v])=enc {x with kind:=v})/\
 (∀v,upd (enc x) 2 ([A.int .i64 v])=enc {x with aU:=v})/\
 (∀v,upd (enc x) 3 ([A.int .i64 v])=enc {x with home:=v})/\
 (∀(c0 c1 c2 c3:A) (cs:List A),upd (c0::c1::c2::c3::cs) 0 (enc x)=A.str x.name::A.int .i64 x.kind::A.int .i64 x.aU::A.int .i64 x.home::cs)/\
 (∀(c0 c1 c2 c3:A),upd (enc x) 0 [c0,c1,c2,c3]=[c0,c1,c2,c3]):=by simp[sub,upd,zj2,A.pure1,zu9,A.scal1,zm6,LK.fits,dR,enc]
@[go_sem] theorem eq(x y:aD):eqA (enc x) (enc y)=decide (x=y):=by rw[cI];simp[eqA,eq1,zL9,fH,enc,aD.ext_iff]
end aD
@[ext] structure aF where
 (site inc num:Int)
 deriving DecidableEq
namespace aF
def zero:aF:=⟨0,0,0⟩
def enc(x:aF):List A:=[A.int .i64 x.site,A.int .i64 x.inc,A.int .i64 x.num]
@[go_sem] theorem len(x:aF):(enc x).length=3:=by simp[enc]
instance:En aF:=⟨3,enc,zero⟩
@[go_sem] theorem laws(x:aF):
 zj2 (enc x)=true/\
 zu9 (enc x)=true/\
 zm6 [.i .i64,.i .i64,.i .i64] (enc x)=true/\
 sub (enc x) 0 3=enc x/\
 (∀y,upd (enc x) 0 (enc y)=enc y)/\
 sub (enc x) 0 1=[A.int .i64 x.site]/\
 sub (enc x) 1 1=[A.int .i64 x.inc]/\
 sub (enc x) 2 1=[A.int .i64 x.num]/\
 (∀v,upd (enc x) 0 ([A.int .i64 v])=enc {x with site:=v})/\
 (∀v,upd (enc x) 1 ([A.int .i64 v])=enc {x with inc:=v})/\
 (∀v,upd (enc x) 2 ([A.int .i64 v])=enc {x with num:=v})/\
 (∀(c0 c1 c2:A) (cs:List A),upd (c0::c1::c2::cs) 0 (enc x)=A.int .i64 x.site::A.int .i64 x.inc::A.int .i64 x.num::cs)/\
 (∀(c0 c1 c2:A),upd (enc x) 0 [c0,c1,c2]=[c0,c1,c2]):=by simp[sub,upd,zj2,A.pure1,zu9,A.scal1,zm6,LK.fits,dR,enc]
@[go_sem] theorem eq(x y:aF):eqA (enc x) (enc y)=decide (x=y):=by rw[cI];simp[eqA,eq1,zL9,fH,enc,aF.ext_iff]
@[go_sem] theorem rep(n:Nat)(x:aF):List.replicate n (enc x)=(List.replicate n x).map enc:=by simp
end aF
@[ext] structure aC where
 (mode aU:Int)
 deriving DecidableEq
namespace aC
def zero:aC:=⟨0,0⟩
def enc(x:aC):List A:=[A.int .i64 x.mode,A.int .i64 x.aU]
@[go_sem] theorem len(x:aC):(enc x).length=2:=by simp[enc]
instance:En aC:=⟨2,enc,zero⟩
@[go_sem] theorem laws(x:aC):
 zj2 (enc x)=true/\
 zu9 (enc x)=true/\
 zm6 [.i .i64,.i .i64] (enc x)=true/\
 sub (enc x) 0 2=enc x/\
 (∀y,upd (enc x) 0 (enc y)=enc y)/\
 sub (enc x) 0 1=[A.int .i64 x.mode]/\
 sub (enc x) 1 1=[A.int .i64 x.aU]/\
 (∀v,upd (enc x) 0 ([A.int .i64 v])=enc {x with mode:=v})/\
 (∀v,upd (enc x) 1 ([A.int .i64 v])=enc {x with aU:=v})/\
 (∀(c0 c1:A) (cs:List A),upd (c0::c1::cs) 0 (enc x)=A.int .i64 x.mode::A.int .i64 x.aU::cs)/\
 (∀(c0 c1:A),upd (enc x) 0 [c0,c1]=[c0,c1]):=by simp[sub,upd,zj2,A.pure1,zu9,A.scal1,zm6,LK.fits,dR,enc]
@[go_sem] theorem eq(x y:aC):eqA (enc x) (enc y)=decide (x=y):=by rw[cI];simp[eqA,eq1,zL9,fH,enc,aC.ext_iff]
end aC
@[ext] structure aO where
 aI:aF
 aK:aC
 deriving DecidableEq
namespace aO
def zero:aO:=⟨aF.zero,aC.zero⟩
def enc(x:aO):List A:=aF.enc x.aI++aC.enc x.aK
@[go_sem] theorem len(x:aO):(enc x).length=5:=by simp[enc,aC.len,aF.len]
instance:En aO:=⟨5,enc,zero⟩
@[go_sem] theorem laws(x:aO):
 zj2 (enc x)=true/\
 zu9 (enc x)=true/\
 zm6 [.i .i64,.i .i64,.i .i64,.i .i64,.i .i64] (enc x)=true/\
 sub (enc x) 0 5=enc x/\
 (∀y,upd (enc x) 0 (enc y)=enc y)/\
 sub (enc x) 0 3=aF.enc x.aI/\
 sub (enc x) 3 2=aC.enc x.aK/\
 (∀v,upd (enc x) 0 (aF.enc v)=enc {x with aI:=v})/\
 (∀v,upd (enc x) 3 (aC.enc v)=enc {x with aK:=v})/\
 (∀(c0 c1 c2 c3 c4:A) (cs:List A),upd (c0::c1::c2::c3::c4::cs) 0 (enc x)=A.int .i64 x.aI.site::A.int .i64 x.aI.inc::A.int .i64 x.aI.num::A.int .i64 x.aK.mode::A.int .i64 x.aK.aU::cs)/\
 (∀(c0 c1 c2 c3 c4:A),upd (enc x) 0 [c0,c1,c2,c3,c4]=[c0,c1,c2,c3,c4]):=by simp[sub,upd,zj2,A.pure1,zu9,A.scal1,zm6,LK.fits,dR,enc,aC.enc,aF.enc]
@[go_sem] theorem eq(x y:aO):eqA (enc x) (enc y)=decide (x=y):=by rw[cI];simp[eqA,eq1,zL9,fH,enc,aC.enc,aF.enc,aO.ext_iff,aC.ext_iff,aF.ext_iff]
@[go_sem] theorem rep(n:Nat)(x:aO):List.replicate n (enc x)=(List.replicate n x).map enc:=by simp
end aO
@[ext] structure aM where
 aI:aF
 aK:aC
 (aV bE:Int)
 deriving DecidableEq
namespace aM
def zero:aM:=⟨aF.zero,aC.zero,0,0⟩
def enc(x:aM):List A:=aF.enc x.aI++aC.enc x.aK++[A.int .i64 x.aV,A.int .i64 x.bE]
@[go_sem] theorem len(x:aM):(enc x).length=7:=by simp[enc,aC.len,aF.len]
instance:En aM:=⟨7,enc,zero⟩
@[go_sem] theorem laws(x:aM):
 zj2 (enc x)=true/\
 zu9 (enc x)=true/\
 zm6 [.i .i64,.i .i64,.i .i64,.i .i64,.i .i64,.i .i64,.i .i64] (enc x)=true/\
 sub (enc x) 0 7=enc x/\
 (∀y,upd (enc x) 0 (enc y)=enc y)/\
 sub (enc x) 0 3=aF.enc x.aI/\
 sub (enc x) 3 2=aC.enc x.aK/\
 sub (enc x) 5 1=[A.int .i64 x.aV]/\
 sub (enc x) 6 1=[A.int .i64 x.bE]/\
 (∀v,upd (enc x) 0 (aF.enc v)=enc {x with aI:=v})/\
 (∀v,upd (enc x) 3 (aC.enc v)=enc {x with aK:=v})/\
 (∀v,upd (enc x) 5 ([A.int .i64 v])=enc {x with aV:=v})/\
 (∀v,upd (enc x) 6 ([A.int .i64 v])=enc {x with bE:=v})/\
 (∀(c0 c1 c2 c3 c4 c5 c6:A) (cs:List A),upd (c0::c1::c2::c3::c4::c5::c6::cs) 0 (enc x)=A.int .i64 x.aI.site::A.int .i64 x.aI.inc::A.int .i64 x.aI.num::A.int .i64 x.aK.mode::A.int .i64 x.aK.aU::A.int .i64 x.aV::A.int .i64 x.bE::cs)/\
 (∀(c0 c1 c2 c3 c4 c5 c6:A),upd (enc x) 0 [c0,c1,c2,c3,c4,c5,c6]=[c0,c1,c2,c3,c4,c5,c6]):=by simp[sub,upd,zj2,A.pure1,zu9,A.scal1,zm6,LK.fits,dR,enc,aC.enc,aF.enc]
@[go_sem] theorem eq(x y:aM):eqA (enc x) (enc y)=decide (x=y):=by rw[cI];simp[eqA,eq1,zL9,fH,enc,aC.enc,aF.enc,aM.ext_iff,aC.ext_iff,aF.ext_iff]
@[go_sem] theorem rep(n:Nat)(x:aM):List.replicate n (enc x)=(List.replicate n x).map enc:=by simp
end aM
@[ext] structure aA where
 aB:aD
 aL:(List aO)
 (aH aT:(List aM))
 gen:Int
namespace aA
def zero:aA:=⟨aD.zero,[],[],[],0⟩
def enc(x:aA):List A:=aD.enc x.aB++[A.sl (x.aL.map aO.enc),A.sl (x.aH.map aM.enc),A.sl (x.aT.map aM.enc),A.int .i64 x.gen]
@[go_sem] theorem len(x:aA):(enc x).length=8:=by simp[enc,aD.len]
instance:En aA:=⟨8,enc,zero⟩
@[go_sem] theorem laws(x:aA):
 zj2 (enc x)=true/\
 zu9 (enc x)=false/\
 sub (enc x) 0 8=enc x/\
 (∀y,upd (enc x) 0 (enc y)=enc y)/\
 sub (enc x) 0 4=aD.enc x.aB/\
 sub (enc x) 0 1=[A.str x.aB.name]/\
 sub (enc x) 4 1=[A.sl (x.aL.map aO.enc)]/\
 sub (enc x) 5 1=[A.sl (x.aH.map aM.enc)]/\
 sub (enc x) 6 1=[A.sl (x.aT.map aM.enc)]/\
 sub (enc x) 7 1=[A.int .i64 x.gen]/\
 (∀v,upd (enc x) 0 (aD.enc v)=enc {x with aB:=v})/\
 (∀v,upd (enc x) 4 ([A.sl (v.map aO.enc)])=enc {x with aL:=v})/\
 (∀v,upd (enc x) 5 ([A.sl (v.map aM.enc)])=enc {x with aH:=v})/\
 (∀v,upd (enc x) 6 ([A.sl (v.map aM.enc)])=enc {x with aT:=v})/\
 (∀v,upd (enc x) 7 ([A.int .i64 v])=enc {x with gen:=v})/\
 (∀(c0 c1 c2 c3 c4 c5 c6 c7:A) (cs:List A),upd (c0::c1::c2::c3::c4::c5::c6::c7::cs) 0 (enc x)=A.str x.aB.name::A.int .i64 x.aB.kind::A.int .i64 x.aB.aU::A.int .i64 x.aB.home::A.sl (x.aL.map aO.enc)::A.sl (x.aH.map aM.enc)::A.sl (x.aT.map aM.enc)::A.int .i64 x.gen::cs)/\
 (∀(c0 c1 c2 c3 c4 c5 c6 c7:A),upd (enc x) 0 [c0,c1,c2,c3,c4,c5,c6,c7]=[c0,c1,c2,c3,c4,c5,c6,c7])/\
 (∀y lo k,upd (enc x) 4 [.own y lo k]=[A.str x.aB.name,A.int .i64 x.aB.kind,A.int .i64 x.aB.aU,A.int .i64 x.aB.home,.own y lo k,A.sl (x.aH.map aM.enc),A.sl (x.aT.map aM.enc),A.int .i64 x.gen])/\
 (∀y lo k,upd (enc x) 5 [.own y lo k]=[A.str x.aB.name,A.int .i64 x.aB.kind,A.int .i64 x.aB.aU,A.int .i64 x.aB.home,A.sl (x.aL.map aO.enc),.own y lo k,A.sl (x.aT.map aM.enc),A.int .i64 x.gen])/\
 (∀y lo k,upd (enc x) 6 [.own y lo k]=[A.str x.aB.name,A.int .i64 x.aB.kind,A.int .i64 x.aB.aU,A.int .i64 x.aB.home,A.sl (x.aL.map aO.enc),A.sl (x.aH.map aM.enc),.own y lo k,A.int .i64 x.gen]):=by simp[sub,upd,zj2,A.pure1,zu9,A.scal1,zm6,LK.fits,dR,enc,aD.enc]
@[go_sem] theorem rep(n:Nat)(x:aA):List.replicate n (enc x)=(List.replicate n x).map enc:=by simp
end aA
@[ext] structure bA where
 aI:aF
 name:ByteArray
 gen:Int
 deriving DecidableEq
namespace bA
def zero:bA:=⟨aF.zero,⟨#[]⟩,0⟩
def enc(x:bA):List A:=aF.enc x.aI++[A.str x.name,A.int .i64 x.gen]
@[go_sem] theorem len(x:bA):(enc x).length=5:=by simp[enc,aF.len]
instance:En bA:=⟨5,enc,zero⟩
@[go_sem] theorem laws(x:bA):
 zj2 (enc x)=true/\
 zu9 (enc x)=true/\
 zm6 [.i .i64,.i .i64,.i .i64,.s,.i .i64] (enc x)=true/\
 sub (enc x) 0 5=enc x/\
 (∀y,upd (enc x) 0 (enc y)=enc y)/\
 sub (enc x) 0 3=aF.enc x.aI/\
 sub (enc x) 3 1=[A.str x.name]/\
 sub (enc x) 4 1=[A.int .i64 x.gen]/\
 (∀v,upd (enc x) 0 (aF.enc v)=enc {x with aI:=v})/\
 (∀v,upd (enc x) 3 ([A.str v])=enc {x with name:=v})/\
 (∀v,upd (enc x) 4 ([A.int .i64 v])=enc {x with gen:=v})/\
 (∀(c0 c1 c2 c3 c4:A) (cs:List A),upd (c0::c1::c2::c3::c4::cs) 0 (enc x)=A.int .i64 x.aI.site::A.int .i64 x.aI.inc::A.int .i64 x.aI.num::A.str x.name::A.int .i64 x.gen::cs)/\
 (∀(c0 c1 c2 c3 c4:A),upd (enc x) 0 [c0,c1,c2,c3,c4]=[c0,c1,c2,c3,c4]):=by simp[sub,upd,zj2,A.pure1,zu9,A.scal1,zm6,LK.fits,dR,enc,aF.enc]
@[go_sem] theorem eq(x y:bA):eqA (enc x) (enc y)=decide (x=y):=by rw[cI];simp[eqA,eq1,zL9,fH,enc,aF.enc,bA.ext_iff,aF.ext_iff]
end bA
@[ext] structure aX where
 aG:(List aA)
 tags:(List bA)
namespace aX
def zero:aX:=⟨[],[]⟩
def enc(x:aX):List A:=[A.sl (x.aG.map aA.enc),A.sl (x.tags.map bA.enc)]
@[go_sem] theorem len(x:aX):(enc x).length=2:=by simp[enc]
instance:En aX:=⟨2,enc,zero⟩
@[go_sem] theorem laws(x:aX):
 zj2 (enc x)=true/\
 zu9 (enc x)=false/\
 sub (enc x) 0 2=enc x/\
 (∀y,upd (enc x) 0 (enc y)=enc y)/\
 sub (enc x) 0 1=[A.sl (x.aG.map aA.enc)]/\
 sub (enc x) 1 1=[A.sl (x.tags.map bA.enc)]/\
 (∀v,upd (enc x) 0 ([A.sl (v.map aA.enc)])=enc {x with aG:=v})/\
 (∀v,upd (enc x) 1 ([A.sl (v.map bA.enc)])=enc {x with tags:=v})/\
 (∀(c0 c1:A) (cs:List A),upd (c0::c1::cs) 0 (enc x)=A.sl (x.aG.map aA.enc)::A.sl (x.tags.map bA.enc)::cs)/\
 (∀(c0 c1:A),upd (enc x) 0 [c0,c1]=[c0,c1])/\
 (∀y lo k,upd (enc x) 0 [.own y lo k]=[.own y lo k,A.sl (x.tags.map bA.enc)])/\
 (∀y lo k,upd (enc x) 1 [.own y lo k]=[A.sl (x.aG.map aA.enc),.own y lo k]):=by simp[sub,upd,zj2,A.pure1,zu9,A.scal1,zm6,LK.fits,dR,enc]
end aX
@[ext] structure bF where
 name:ByteArray
 aK:aC
 deriving DecidableEq
namespace bF
def zero:bF:=⟨⟨#[]⟩,aC.zero⟩
def enc(x:bF):List A:=[A.str x.name]++aC.enc x.aK
@[go_sem] theorem len(x:bF):(enc x).length=3:=by simp[enc,aC.len]
instance:En bF:=⟨3,enc,zero⟩
@[go_sem] theorem laws(x:bF):
 zj2 (enc x)=true/\
 zu9 (enc x)=true/\
 zm6 [.s,.i .i64,.i .i64] (enc x)=true/\
 sub (enc x) 0 3=enc x/\
 (∀y,upd (enc x) 0 (enc y)=enc y)/\
 sub (enc x) 0 1=[A.str x.name]/\
 sub (enc x) 1 2=aC.enc x.aK/\
 sub (enc x) 1 1=[A.int .i64 x.aK.mode]/\
 sub (enc x) 2 1=[A.int .i64 x.aK.aU]/\
 (∀v,upd (enc x) 0 ([A.str v])=enc {x with name:=v})/\
 (∀v,upd (enc x) 1 (aC.enc v)=enc {x with aK:=v})/\
 (∀(c0 c1 c2:A) (cs:List A),upd (c0::c1::c2::cs) 0 (enc x)=A.str x.name::A.int .i64 x.aK.mode::A.int .i64 x.aK.aU::cs)/\
 (∀(c0 c1 c2:A),upd (enc x) 0 [c0,c1,c2]=[c0,c1,c2]):=by simp[sub,upd,zj2,A.pure1,zu9,A.scal1,zm6,LK.fits,dR,enc,aC.enc]
@[go_sem] theorem eq(x y:bF):eqA (enc x) (enc y)=decide (x=y):=by rw[cI];simp[eqA,eq1,zL9,fH,enc,aC.enc,bF.ext_iff,aC.ext_iff]
end bF
@[ext] structure bH where
 k:Int
 aY:bF
 kids:(List bH)
namespace bH
def zero:bH:=⟨0,bF.zero,[]⟩
def enc(x:bH):List A:=[A.int .i64 x.k]++bF.enc x.aY++[A.sl (x.kids.map bH.enc)]
termination_by _root_.SizeOf.sizeOf x
decreasing_by
 rename_i h;have h2:=List.sizeOf_lt_of_mem h;cases x;simp at h2⊢;omega
@[go_sem] theorem len(x:bH):(enc x).length=5:=by simp[enc,bF.len]
instance:En bH:=⟨5,enc,zero⟩
@[go_sem] theorem laws(x:bH):
 zj2 (enc x)=true/\
 zu9 (enc x)=false/\
 sub (enc x) 0 5=enc x/\
 (∀y,upd (enc x) 0 (enc y)=enc y)/\
 sub (enc x) 4 1=[A.sl (x.kids.map bH.enc)]/\
 (∀(c0 c1 c2 c3 c4:A) (cs:List A),upd (c0::c1::c2::c3::c4::cs) 0 (enc x)=A.int .i64 x.k::A.str x.aY.name::A.int .i64 x.aY.aK.mode::A.int .i64 x.aY.aK.aU::A.sl (x.kids.map bH.enc)::cs)/\
 (∀(c0 c1 c2 c3 c4:A),upd (enc x) 0 [c0,c1,c2,c3,c4]=[c0,c1,c2,c3,c4]):=by simp[sub,upd,zj2,A.pure1,zu9,A.scal1,zm6,LK.fits,dR,enc,aC.enc,bF.enc]
end bH
@[ext] structure bI where
 aI:aF
 expr:bH
 gen:Int
namespace bI
def zero:bI:=⟨aF.zero,bH.zero,0⟩
def enc(x:bI):List A:=aF.enc x.aI++bH.enc x.expr++[A.int .i64 x.gen]
@[go_sem] theorem len(x:bI):(enc x).length=9:=by simp[enc,bH.len,aF.len]
instance:En bI:=⟨9,enc,zero⟩
@[go_sem] theorem laws(x:bI):
 zj2 (enc x)=true/\
 zu9 (enc x)=false/\
 sub (enc x) 0 9=enc x/\
 (∀y,upd (enc x) 0 (enc y)=enc y)/\
 sub (enc x) 3 5=bH.enc x.expr/\
 (∀(c0 c1 c2 c3 c4 c5 c6 c7 c8:A),upd (enc x) 0 [c0,c1,c2,c3,c4,c5,c6,c7,c8]=[c0,c1,c2,c3,c4,c5,c6,c7,c8]):=by simp[sub,upd,zj2,A.pure1,zu9,A.scal1,zm6,LK.fits,dR,enc,aC.enc,bF.enc,bH.enc,aF.enc]
end bI
@[ext] structure aZ where
 aG:(List aA)
 bG:(List bI)
namespace aZ
def zero:aZ:=⟨[],[]⟩
def enc(x:aZ):List A:=[A.sl (x.aG.map aA.enc),A.sl (x.bG.map bI.enc)]
@[go_sem] theorem len(x:aZ):(enc x).length=2:=by simp[enc]
instance:En aZ:=⟨2,enc,zero⟩
@[go_sem] theorem laws(x:aZ):
 zj2 (enc x)=true/\
 zu9 (enc x)=false/\
 sub (enc x) 0 2=enc x/\
 (∀y,upd (enc x) 0 (enc y)=enc y)/\
 sub (enc x) 0 1=[A.sl (x.aG.map aA.enc)]/\
 sub (enc x) 1 1=[A.sl (x.bG.map bI.enc)]/\
 (∀v,upd (enc x) 0 ([A.sl (v.map aA.enc)])=enc {x with aG:=v})/\
 (∀(c0 c1:A) (cs:List A),upd (c0::c1::cs) 0 (enc x)=A.sl (x.aG.map aA.enc)::A.sl (x.bG.map bI.enc)::cs)/\
 (∀(c0 c1:A),upd (enc x) 0 [c0,c1]=[c0,c1])/\
 (∀y lo k,upd (enc x) 0 [.own y lo k]=[.own y lo k,A.sl (x.bG.map bI.enc)]):=by simp[sub,upd,zj2,A.pure1,zu9,A.scal1,zm6,LK.fits,dR,enc]
end aZ
@[ext] structure bC where
 aI:aF
 (label cost:Int)
 lower:(List bF)
namespace bC
def zero:bC:=⟨aF.zero,0,0,[]⟩
def enc(x:bC):List A:=aF.enc x.aI++[A.int .i64 x.label,A.int .i64 x.cost,A.sl (x.lower.map bF.enc)]
@[go_sem] theorem len(x:bC):(enc x).length=6:=by simp[enc,aF.len]
instance:En bC:=⟨6,enc,zero⟩
@[go_sem] theorem laws(x:bC):
 zj2 (enc x)=true/\
 zu9 (enc x)=false/\
 sub (enc x) 0 6=enc x/\
 (∀y,upd (enc x) 0 (enc y)=enc y)/\
 (∀(c0 c1 c2 c3 c4 c5:A) (cs:List A),upd (c0::c1::c2::c3::c4::c5::cs) 0 (enc x)=A.int .i64 x.aI.site::A.int .i64 x.aI.inc::A.int .i64 x.aI.num::A.int .i64 x.label::A.int .i64 x.cost::A.sl (x.lower.map bF.enc)::cs)/\
 (∀(c0 c1 c2 c3 c4 c5:A),upd (enc x) 0 [c0,c1,c2,c3,c4,c5]=[c0,c1,c2,c3,c4,c5]):=by simp[sub,upd,zj2,A.pure1,zu9,A.scal1,zm6,LK.fits,dR,enc,aF.enc]
end bC
@[ext] structure aJ where
 kind:Int
 aI:aF
 gen:Int
 aY:bF
 (aV inc round epoch site label:Int)
 done:Bool
 state:aZ
 options:(List bC)
namespace aJ
def zero:aJ:=⟨0,aF.zero,0,bF.zero,0,0,0,0,0,0,false,aZ.zero,[]⟩
def enc(x:aJ):List A:=[A.int .i64 x.kind]++aF.enc x.aI++[A.int .i64 x.gen]++bF.enc x.aY++[A.int .i64 x.aV,A.int .i64 x.inc,A.int .i64 x.round,A.int .i64 x.epoch,A.int .i64 x.site,A.int .i64 x.label,A.bool x.done]++aZ.enc x.state++[A.sl (x.options.map bC.enc)]
@[go_sem] theorem len(x:aJ):(enc x).length=18:=by simp[enc,bF.len,aF.len,aZ.len]
instance:En aJ:=⟨18,enc,zero⟩
@[go_sem] theorem laws(x:aJ):
 zj2 (enc x)=true/\
 zu9 (enc x)=false/\
 sub (enc x) 0 18=enc x/\
 (∀y,upd (enc x) 0 (enc y)=enc y)/\
 sub (enc x) 0 1=[A.int .i64 x.kind]/\
 sub (enc x) 1 3=aF.enc x.aI/\
 sub (enc x) 1 1=[A.int .i64 x.aI.site]/\
 sub (enc x) 4 1=[A.int .i64 x.gen]/\
 sub (enc x) 5 3=bF.enc x.aY/\
 sub (enc x) 5 1=[A.str x.aY.name]/\
 sub (enc x) 6 2=aC.enc x.aY.aK/\
 sub (enc x) 6 1=[A.int .i64 x.aY.aK.mode]/\
 sub (enc x) 7 1=[A.int .i64 x.aY.aK.aU]/\
 sub (enc x) 8 1=[A.int .i64 x.aV]/\
 sub (enc x) 9 1=[A.int .i64 x.inc]/\
 sub (enc x) 10 1=[A.int .i64 x.round]/\
 sub (enc x) 11 1=[A.int .i64 x.epoch]/\
 sub (enc x) 12 1=[A.int .i64 x.site]/\
 sub (enc x) 13 1=[A.int .i64 x.label]/\
 sub (enc x) 14 1=[A.bool x.done]/\
 sub (enc x) 15 2=aZ.enc x.state/\
 sub (enc x) 15 1=[A.sl (x.state.aG.map aA.enc)]/\
 sub (enc x) 16 1=[A.sl (x.state.bG.map bI.enc)]/\
 sub (enc x) 17 1=[A.sl (x.options.map bC.enc)]/\
 (∀v,upd (enc x) 0 ([A.int .i64 v])=enc {x with kind:=v})/\
 (∀v,upd (enc x) 1 (aF.enc v)=enc {x with aI:=v})/\
 (∀v,upd (enc x) 4 ([A.int .i64 v])=enc {x with gen:=v})/\
 (∀v,upd (enc x) 5 (bF.enc v)=enc {x with aY:=v})/\
 (∀v,upd (enc x) 6 (aC.enc v)=enc {x with aY:={x.aY with aK:=v}})/\
 (∀v,upd (enc x) 8 ([A.int .i64 v])=enc {x with aV:=v})/\
 (∀v,upd (enc x) 9 ([A.int .i64 v])=enc {x with inc:=v})/\
 (∀v,upd (enc x) 10 ([A.int .i64 v])=enc {x with round:=v})/\
 (∀v,upd (enc x) 11 ([A.int .i64 v])=enc {x with epoch:=v})/\
 (∀v,upd (enc x) 12 ([A.int .i64 v])=enc {x with site:=v})/\
 (∀v,upd (enc x) 13 ([A.int .i64 v])=enc {x with label:=v})/\
 (∀v,upd (enc x) 14 ([A.bool v])=enc {x with done:=v})/\
 (∀v,upd (enc x) 15 (aZ.enc v)=enc {x with state:=v})/\
 (∀v,upd (enc x) 17 ([A.sl (v.map bC.enc)])=enc {x with options:=v})/\
 (∀(c0 c1 c2 c3 c4 c5 c6 c7 c8 c9 c10 c11 c12 c13 c14 c15 c16 c17:A),upd (enc x) 0 [c0,c1,c2,c3,c4,c5,c6,c7,c8,c9,c10,c11,c12,c13,c14,c15,c16,c17]=[c0,c1,c2,c3,c4,c5,c6,c7,c8,c9,c10,c11,c12,c13,c14,c15,c16,c17])/\
 (∀y lo k,upd (enc x) 17 [.own y lo k]=[A.int .i64 x.kind,A.int .i64 x.aI.site,A.int .i64 x.aI.inc,A.int .i64 x.aI.num,A.int .i64 x.gen,A.str x.aY.name,A.int .i64 x.aY.aK.mode,A.int .i64 x.aY.aK.aU,A.int .i64 x.aV,A.int .i64 x.inc,A.int .i64 x.round,A.int .i64 x.epoch,A.int .i64 x.site,A.int .i64 x.label,A.bool x.done,A.sl (x.state.aG.map aA.enc),A.sl (x.state.bG.map bI.enc),.own y lo k]):=by simp[sub,upd,zj2,A.pure1,zu9,A.scal1,zm6,LK.fits,dR,enc,aC.enc,bF.enc,aF.enc,aZ.enc]
end aJ
@[ext] structure bB where
 l:(List Int)
 at_:Int
namespace bB
def zero:bB:=⟨[],0⟩
def enc(x:bB):List A:=[A.sl (x.l.map (eI .i64)),A.int .i64 x.at_]
@[go_sem] theorem len(x:bB):(enc x).length=2:=by simp[enc]
instance:En bB:=⟨2,enc,zero⟩
@[go_sem] theorem laws(x:bB):
 zj2 (enc x)=true/\
 zu9 (enc x)=false/\
 sub (enc x) 0 2=enc x/\
 (∀y,upd (enc x) 0 (enc y)=enc y)/\
 sub (enc x) 0 1=[A.sl (x.l.map (eI .i64))]/\
 sub (enc x) 1 1=[A.int .i64 x.at_]/\
 (∀v,upd (enc x) 0 ([A.sl (v.map (eI .i64))])=enc {x with l:=v})/\
 (∀v,upd (enc x) 1 ([A.int .i64 v])=enc {x with at_:=v})/\
 (∀(c0 c1:A) (cs:List A),upd (c0::c1::cs) 0 (enc x)=A.sl (x.l.map (eI .i64))::A.int .i64 x.at_::cs)/\
 (∀(c0 c1:A),upd (enc x) 0 [c0,c1]=[c0,c1])/\
 (∀y lo k,upd (enc x) 0 [.own y lo k]=[.own y lo k,A.int .i64 x.at_]):=by simp[sub,upd,zj2,A.pure1,zu9,A.scal1,zm6,LK.fits,dR,enc]
end bB
@[ext] structure aS where
 kind:Int
 aI:aF
 name:ByteArray
 aK:aC
 deriving DecidableEq
namespace aS
def zero:aS:=⟨0,aF.zero,⟨#[]⟩,aC.zero⟩
def enc(x:aS):List A:=[A.int .i64 x.kind]++aF.enc x.aI++[A.str x.name]++aC.enc x.aK
@[go_sem] theorem len(x:aS):(enc x).length=7:=by simp[enc,aC.len,aF.len]
instance:En aS:=⟨7,enc,zero⟩
@[go_sem] theorem laws(x:aS):
 zj2 (enc x)=true/\
 zu9 (enc x)=true/\
 zm6 [.i .i64,.i .i64,.i .i64,.i .i64,.s,.i .i64,.i .i64] (enc x)=true/\
 sub (enc x) 0 7=enc x/\
 (∀y,upd (enc x) 0 (enc y)=enc y)/\
 sub (enc x) 0 1=[A.int .i64 x.kind]/\
 sub (enc x) 1 3=aF.enc x.aI/\
 sub (enc x) 1 1=[A.int .i64 x.aI.site]/\
 sub (enc x) 4 1=[A.str x.name]/\
 sub (enc x) 5 2=aC.enc x.aK/\
 (∀v,upd (enc x) 0 ([A.int .i64 v])=enc {x with kind:=v})/\
 (∀v,upd (enc x) 1 (aF.enc v)=enc {x with aI:=v})/\
 (∀v,upd (enc x) 4 ([A.str v])=enc {x with name:=v})/\
 (∀v,upd (enc x) 5 (aC.enc v)=enc {x with aK:=v})/\
 (∀(c0 c1 c2 c3 c4 c5 c6:A) (cs:List A),upd (c0::c1::c2::c3::c4::c5::c6::cs) 0 (enc x)=A.int .i64 x.kind::A.int .i64 x.aI.site::A.int .i64 x.aI.inc::A.int .i64 x.aI.num::A.str x.name::A.int .i64 x.aK.mode::A.int .i64 x.aK.aU::cs)/\
 (∀(c0 c1 c2 c3 c4 c5 c6:A),upd (enc x) 0 [c0,c1,c2,c3,c4,c5,c6]=[c0,c1,c2,c3,c4,c5,c6]):=by simp[sub,upd,zj2,A.pure1,zu9,A.scal1,zm6,LK.fits,dR,enc,aC.enc,aF.enc]
end aS
@[ext] structure key where
 p:aF
 name:ByteArray
 deriving DecidableEq
namespace key
def zero:key:=⟨aF.zero,⟨#[]⟩⟩
def enc(x:key):List A:=aF.enc x.p++[A.str x.name]
@[go_sem] theorem len(x:key):(enc x).length=4:=by simp[enc,aF.len]
instance:En key:=⟨4,enc,zero⟩
@[go_sem] theorem laws(x:key):
 zj2 (enc x)=true/\
 zu9 (enc x)=true/\
 zm6 [.i .i64,.i .i64,.i .i64,.s] (enc x)=true/\
 sub (enc x) 0 4=enc x/\
 (∀y,upd (enc x) 0 (enc y)=enc y)/\
 (∀v,upd (enc x) 0 (aF.enc v)=enc {x with p:=v})/\
 (∀v,upd (enc x) 3 ([A.str v])=enc {x with name:=v})/\
 (∀(c0 c1 c2 c3:A) (cs:List A),upd (c0::c1::c2::c3::cs) 0 (enc x)=A.int .i64 x.p.site::A.int .i64 x.p.inc::A.int .i64 x.p.num::A.str x.name::cs)/\
 (∀(c0 c1 c2 c3:A),upd (enc x) 0 [c0,c1,c2,c3]=[c0,c1,c2,c3]):=by simp[sub,upd,zj2,A.pure1,zu9,A.scal1,zm6,LK.fits,dR,enc,aF.enc]
end key
@[ext] structure aW where
 to:Int
 message:aJ
namespace aW
def zero:aW:=⟨0,aJ.zero⟩
def enc(x:aW):List A:=[A.int .i64 x.to]++aJ.enc x.message
@[go_sem] theorem len(x:aW):(enc x).length=19:=by simp[enc,aJ.len]
instance:En aW:=⟨19,enc,zero⟩
@[go_sem] theorem laws(x:aW):
 zj2 (enc x)=true/\
 zu9 (enc x)=false/\
 sub (enc x) 0 19=enc x/\
 (∀y,upd (enc x) 0 (enc y)=enc y)/\
 sub (enc x) 0 1=[A.int .i64 x.to]/\
 sub (enc x) 1 18=aJ.enc x.message/\
 sub (enc x) 1 1=[A.int .i64 x.message.kind]/\
 sub (enc x) 5 1=[A.int .i64 x.message.gen]/\
 sub (enc x) 15 1=[A.bool x.message.done]/\
 (∀v,upd (enc x) 0 ([A.int .i64 v])=enc {x with to:=v})/\
 (∀v,upd (enc x) 1 (aJ.enc v)=enc {x with message:=v})/\
 (∀(c0 c1 c2 c3 c4 c5 c6 c7 c8 c9 c10 c11 c12 c13 c14 c15 c16 c17 c18:A),upd (enc x) 0 [c0,c1,c2,c3,c4,c5,c6,c7,c8,c9,c10,c11,c12,c13,c14,c15,c16,c17,c18]=[c0,c1,c2,c3,c4,c5,c6,c7,c8,c9,c10,c11,c12,c13,c14,c15,c16,c17,c18]):=by simp[sub,upd,zj2,A.pure1,zu9,A.scal1,zm6,LK.fits,dR,enc,aC.enc,bF.enc,aJ.enc,aF.enc,aZ.enc]
end aW
@[ext] structure bD where
 of:Nat
 (low high plus:Int)
namespace bD
def zero:bD:=⟨zaa8,0,0,0⟩
def enc(x:bD):List A:=[A.clo x.of [],A.int .i64 x.low,A.int .i64 x.high,A.int .i64 x.plus]
@[go_sem] theorem len(x:bD):(enc x).length=4:=by simp[enc]
instance:En bD:=⟨4,enc,zero⟩
@[go_sem] theorem laws(x:bD):
 zj2 (enc x)=true/\
 sub (enc x) 0 4=enc x/\
 (∀y,upd (enc x) 0 (enc y)=enc y)/\
 sub (enc x) 0 1=[A.clo x.of []]/\
 sub (enc x) 1 1=[A.int .i64 x.low]/\
 sub (enc x) 2 1=[A.int .i64 x.high]/\
 sub (enc x) 3 1=[A.int .i64 x.plus]/\
 (∀v,upd (enc x) 0 ([A.clo v []])=enc {x with of:=v})/\
 (∀v,upd (enc x) 1 ([A.int .i64 v])=enc {x with low:=v})/\
 (∀v,upd (enc x) 2 ([A.int .i64 v])=enc {x with high:=v})/\
 (∀v,upd (enc x) 3 ([A.int .i64 v])=enc {x with plus:=v}):=by simp[sub,upd,zj2,A.pure1,zu9,A.scal1,zm6,LK.fits,dR,enc]
end bD
def zaD5:A->List Nat
 | .own x _ _=>[x]
 | .ptr x _ _=>[x]
 | .mp x=>[x]
 | .it x=>[x]
 |_=>[]
def zaU6:A->List Nat
 | .clo _ cs=>cs.flatMap zaD5
 |a=>zaD5 a
def idsA:A->List Nat
 | .agg cs=>if zj2 cs then[]else cs.flatMap zaU6
 | .bnd _ cs=>if zj2 cs then[]else cs.flatMap zaU6
 |a=>zaU6 a
def zM3:List A->List Nat
 |[]=>[]
 |x::xs=>idsA x++zM3 xs
def idsP:PO->List A->List Nat
 | .mv,_=>[]
 |_,vs=>zM3 vs
def disj:List Nat->List Nat->Bool
 |[],_=>true
 |x::xs,ys=>!ys.contains x&&disj xs ys
def zaU7(an:List Nat)(i:Nat):List (List Nat×List Nat)->List Nat->List Nat->Bool
 |[],_,_=>true
 |q::log,r,w=>(an.contains i||(disj q.2 r&&disj q.2 w&&disj w q.1))&&zaU7 an (i+1) log r w
def A.flatCap:A->Bool
 | .agg _=>false
 | .clo _ cs=>cs.isEmpty
 | .bnd _ _=>false
 |_=>true
def zaY0:List A->Bool
 |[]=>true
 |c::cs=>c.flatCap&&zaY0 cs
def zaJ7:List A->Bool
 | .clo _ caps::_=>zaY0 caps
 |_=>true
theorem zbA7:∀{cs:List A},zaY0 cs=true->∀c∈cs,idsA c=zaD5 c
 |d::ds,h,c,hc=>by
  simp only[zaY0,bK]at h;rcases bY.1 hc with rfl|hc
  .cases c<;>first|rfl|(simp[A.flatCap]at h;done)|skip
   rename_i f cs;cases cs with
   |nil=>rfl
   |cons x xs=>simp[A.flatCap]at h
  .exact zbA7 h.2 c hc
def zao6(C:Cx)(an:List (List Nat)):List POp->St->List (List Nat×List Nat)->(St->Prop)->Prop
 |[],st,_,K=>K st
 |p::ps,st,log,K=>aopS C p st.toS st.nx λ v mw=>zaU7 (an.getD log.length []) 0 log (idsP p.po (zo3 C st p.xs)) (mw.map (·.1))=true/\zaJ7 (zo3 C st p.xs)=true/\
   zao6 C an ps (st.app p.dst v mw) (log++[(idsP p.po (zo3 C st p.xs),mw.map (·.1))]) K
section
variable {C:Cx} {E:Env}
theorem zcX3{p:POp}{s:S}{id:Nat}{K:A->List (Nat×MS)->Prop}(h:aopS C p s id K):∃v mw,K v mw/\aopS C p s id (λ v' mw'=>v'=v/\mw'=mw):=by
 unfold aopS at h⊢;cases hg:zB7 s.fr p.g with
 |none=>simp[hg]at h
 |some g=>
  simp only[hg]at h⊢;cases hp:p.po<;>simp only[hp]at h|-
  case pick=>
   split at h
   .split at h
    .exact⟨_,_,h.2,h.1,rfl,rfl⟩
    .exact h.elim
   .exact h.elim
  case call f=>obtain⟨r,h1,h2,h3⟩:=h;exact⟨_,_,h3,r,h1,h2,rfl,rfl⟩
  case callv=>
   split at h
   .obtain⟨r,h1,h2,h3⟩:=h;exact⟨_,_,h3,r,h1,h2,rfl,rfl⟩
   .exact h.elim
  case callb=>
   split at h
   .obtain⟨r,h1,h2,h3⟩:=h;exact⟨_,_,h3,r,h1,h2,rfl,rfl⟩
   .exact h.elim
  case callm f=>obtain⟨l,as,ms,k,r,ms',k',h1,h2,h3,h4,h5⟩:=h;exact⟨_,_,h5,l,as,ms,k,r,ms',k',h1,h2,h3,h4,rfl,rfl⟩
  case callvm=>
   split at h
   .obtain⟨l,as,ms,k,r,ms',k',h1,h2,h3,h4,h5⟩:=h;exact⟨_,_,h5,l,as,ms,k,r,ms',k',h1,h2,h3,h4,rfl,rfl⟩
   .exact h.elim
  all_goals
   split at h
   .exact⟨_,_,h.2.2,h.1,h.2.1,rfl,rfl⟩
   .exact⟨_,_,h.2.2,h.1,h.2.1,rfl,rfl⟩
theorem zdl4{p:POp}{st:St}{K:A->List (Nat×MS)->Prop}(h:aopS C p st.toS st.nx K):aopS C p st.toS st.nx (λ v mw=>mwOk st.nx mw/\K v mw):=by
 unfold aopS at h⊢;simp only[St.toS]at h⊢;cases hg:zB7 st.slot p.g with
 |none=>simp[hg]at h
 |some g=>
  simp only[hg]at h⊢;cases hp:p.po<;>simp only[hp]at h|-
  case pick=>
   split at h
   .split at h
    .exact⟨h.1,trivial,h.2⟩
    .exact h.elim
   .exact h.elim
  case call f=>obtain⟨r,h1,h2,h3⟩:=h;exact⟨r,h1,h2,zaC3 st _ _,h3⟩
  case callv=>
   split at h
   .obtain⟨r,h1,h2,h3⟩:=h;exact⟨r,h1,h2,zaC3 st _ _,h3⟩
   .exact h.elim
  case callb=>
   split at h
   .obtain⟨r,h1,h2,h3⟩:=h;exact⟨r,h1,h2,zaC3 st _ _,h3⟩
   .exact h.elim
  case callm f=>exact zbG9 h
  case callvm=>
   split at h
   .exact zbG9 h
   .exact h.elim
  all_goals
   split at h
   .rename_i ef hev;obtain⟨h1,h2,h3⟩:=h;exact⟨h1,h2,zcF5 hev,h3⟩
   .exact⟨h.1,h.2.1,trivial,h.2.2⟩
theorem zaR3{m m2:Nat->MS}{x:A}(h:∀y∈zaU6 x,m y=m2 y):frz1 m x=frz1 m2 x/\(zai2 m x↔zai2 m2 x):=by
 cases x<;>first|exact⟨rfl,kF⟩|skip
 rename_i y lo n;have:=h y (by simp[zaU6,zaD5]);simp only[frz1,zai2,this,cP]
theorem zbL9{x:A}:∀y∈zao3 x,y∈idsA x:=by
 cases x<;>intro y hy<;>first|(simp[zao3,zL7]at hy;done)|skip
 .rename_i z lo n;simpa [zao3,zL7,idsA,zaU6,zaD5]using hy
 .rename_i cs;simp only[zao3,idsA]at hy⊢;split at hy
  .cases hy
  .rename_i hp;rw[bL hp];obtain⟨c,hc,hy⟩:=eD.1 hy;refine eD.2 ⟨c,hc,?_⟩;cases c<;>simp[zL7]at hy;subst hy;simp[zaU6,zaD5]
theorem zcc2{m m2:Nat->MS}{x:A}(h:∀y∈idsA x,m y=m2 y):frz m x=frz m2 x/\(zao2 m x↔zao2 m2 x):=by
 cases x with
 |agg cs=>
  simp only[frz,zao2];split
  .exact⟨rfl,kF⟩
  .rename_i hp;simp only[idsA,bL hp]at h;have h2:∀c∈cs,∀y∈zaU6 c,m y=m2 y:=λ c hc y hy=>h y (eD.2 ⟨c,hc,hy⟩);exact⟨by rw[jC λ c hc=>(zaR3 (h2 c hc)).1],⟨λ hh c hc=>(zaR3 (h2 c hc)).2.1 (hh c hc),λ hh c hc=>(zaR3 (h2 c hc)).2.2 (hh c hc)⟩⟩
 |own x lo n=>exact zaR3 (x:=.own x lo n) h
 |_=>exact⟨rfl,kF⟩
theorem zaA8{m m2:Nat->MS}:∀{xs:List A},(∀y∈zM3 xs,m y=m2 y)->zD2 m xs=zD2 m2 xs/\(zw3 m xs↔zw3 m2 xs)
 |[],_=>⟨rfl,kF⟩
 |x::xs,h=>by obtain⟨h1,h2⟩:=zcc2 (x:=x) λ y hy=>h y (cO _ hy);obtain⟨h3,h4⟩:=zaA8 (xs:=xs) λ y hy=>h y (cC _ hy);simp only[zD2,zw3,h1,h2,h3,h4,cP]
theorem zaw6{m m2:Nat->MS}:∀{xs:List Nat},(∀y∈xs,m y=m2 y)->zM9 m xs=zM9 m2 xs
 |[],_=>rfl
 |x::xs,h=>by simp only[zM9,h x (.head _),zaw6 λ y hy=>h y (.tail _ hy)]
theorem zav4:∀{xs:List A},∀y∈zy4 xs,y∈zM3 xs
 |x::xs,y,hy=>by
  rcases cF.1 hy with h|h
  .exact cO _ (zbL9 y h)
  .exact cC _ (zav4 y h)
theorem zcG5:∀{vs as:List A},∀y∈fzM vs as,y∈zM3 vs
 |v::vs,a::as,y,hy=>by
  rcases cF.1 hy with h|h
  .split at h
   .cases h
   .exact cO _ (zbL9 y h)
  .exact cC _ (zcG5 y h)
 |[],[],y,hy=>by cases hy
 |_::_,[],y,hy=>by cases hy
 |[],_::_,y,hy=>by cases hy
theorem zbA8{m m2:Nat->MS}{l:List (Nat×Nat)}{k:Nat}:∀{vs as:List A},(∀y∈zM3 vs,m y=m2 y)->zbp4 m l k vs as->zbp4 m2 l k vs as
 |v::vs,a::as,h,h1=>by
  refine⟨?_,zbA8 (λ y hy=>h y (cC _ hy)) h1.2⟩;obtain⟨h3,h4⟩:=zcc2 (x:=v) λ y hy=>h y (cO _ hy);have h2:=h1.1;unfold argM at h2⊢;split
  .rename_i hh;rw[bM hh]at h2;exact h2
  .rename_i hh;rw[bL hh]at h2;exact⟨h4.1 h2.1,h3▸h2.2⟩
 |[],[],_,_=>trivial
 |_::_,[],_,h=>h.elim
 |[],_::_,_,h=>h.elim
theorem zbA9{m m2:Nat->MS}{l:List (Nat×Nat)}{k:Nat}{fz:List Nat}:∀{ms:List (Nat×Row)},(∀q∈ms,m (rho l q.1)=m2 (rho l q.1))->zca6 m l k fz ms->zca6 m2 l k fz ms
 |[],_,_=>trivial
 |q::ms,h,h1=>by obtain⟨h2,h3,h4,h5,h6,h8,h7⟩:=h1;exact⟨by rw[<-h q (.head _)];exact h2,h3,h4,h5,h6,h8,zbA9 (λ p hp=>h p (.tail _ hp)) h7⟩
theorem zbl2{L:List (Nat×Nat)}{ms':List (Nat×Row)}:∀{ids:List Nat},∀x∈ids,rho L x∈(zac5 L ms' ids).map (·.1)
 |y::ids,x,h=>by
  rcases bY.1 h with rfl|h
  .exact .head _
  .exact .tail _ (zbl2 x h)
theorem zbB0{m m2:Nat->MS}:∀{mw:List (Nat×MS)},(∀y∈mw.map (·.1),m y=m2 y)->zbK4 m mw->zbK4 m2 mw
 |[],_,_=>trivial
 |q::r,h,⟨h1,h3⟩=>⟨by rw[<-h q.1 (.head _)];exact h1,zbB0 (λ y hy=>h y (.tail _ hy)) h3⟩
theorem zbB1{f:FuncId}{m m2:Nat->MS}{id:Nat}{vals:List A}{og:Option (Nat×Bool)}{g:Bool}{ob:Prop}{v:A}{mw:List (Nat×MS)}(h1:∀y∈zM3 vals,m y=m2 y)(h2:∀y∈mw.map (·.1),m y=m2 y)
  (h:zaG7 C m id f vals og g ob (λ n=>∀x,id<=x->x<id+n->m x=.fresh) (λ v' mw'=>v'=v/\mw'=mw)):
  zaG7 C m2 id f vals og g ob (λ n=>∀x,id<=x->x<id+n->m2 x=.fresh) (λ v' mw'=>v'=v/\mw'=mw):=by
 obtain⟨l,as,ms,k,r,ms',k',ht,hf,hvv,h5,h7,h8⟩:=h;have e0:mwM m2 (l++newL k id (k'-k)) vals as ms ms' k k'=mw:=by rw[<-h8,mwM,mwM,zaw6 λ y hy=>h1 y (zcG5 y hy)]
 refine⟨l,as,ms,k,r,ms',k',λ hg=>?_,λ hg=>?_,hvv,h5,h7,e0⟩
 case refine_2=>rw[e0];rw[h8]at hf;exact⟨(hf hg).1,zbB0 h2 (hf hg).2⟩
 obtain⟨hob,h3,h4,h6⟩:=ht hg;obtain⟨g1,g2,g3,g4,g5,g6,g7,g8⟩:=h4;have hkk:k<=k':=eT g6;have key:∀x∈ms.map (·.1)++(List.range (k'-k)).map (k+·),m (rho (l++newL k id (k'-k)) x)=m2 (rho (l++newL k id (k'-k)) x):=λ x hx=>by refine h2 _ ?_;rw[<-h8,mwM,dX];exact cC _ (zbl2 x hx)
 have rhoOld:∀x,x<k->rho (l++newL k id (k'-k)) x=rho l x:=λ x hx=>by simp only[rho,zX5,zam9];rw[bL (by omega),kC]
 have rhoNew:∀i,i<k'-k->rho (l++newL k id (k'-k)) (k+i)=id+i:=λ i hi=>by simp only[rho,zX5,zam9];rw[zaL5 λ q hq=>by have:=g8 q hq;omega,bM (by omega)];simp
 refine⟨hob,h3,⟨zbA8 h1 g1,zbA9 (λ q hq=>?_) g2,g3,g4,g5,g6,g7,g8⟩,λ x hx hx2=>?_⟩
 .have:=key q.1 (cO _ (bW.2 ⟨q,hq,rfl⟩));rwa [rhoOld q.1 (zaL7 g2 q.1 q.2 hq).2.2.1]at this
 .have:=key (k+(x-id)) (cC _ (bW.2 ⟨x-id,dN.2 (by omega),rfl⟩));rw[rhoNew _ (by omega),show id+(x-id)=x by omega]at this;rw[<-this];exact h6 x hx hx2
theorem zbW2(x y:List A):zM3 (x++y)=zM3 x++zM3 y:=by
 induction x with
 |nil=>rfl
 |cons a x ih=>simp only[List.cons_append,zM3,ih,dE]
theorem zbB2{y:Nat}:∀{caps:List A},(∀c∈caps,idsA c=zaD5 c)->y∈zM3 caps->y∈caps.flatMap zaD5
 |c::cs,hc,h=>by
  rcases cF.1 h with h|h
  .exact eD.2 ⟨c,.head _,hc c (.head _)▸h⟩
  .obtain⟨d,hd,h2⟩:=eD.1 (zbB2 (λ d hd=>hc d (.tail _ hd)) h);exact eD.2 ⟨d,.tail _ hd,h2⟩
theorem zbB3{f:FuncId}{caps vals:List A}{y:Nat}(h:y∈zM3 (vals++caps))(hc:∀c∈caps,idsA c=zaD5 c):y∈zM3 (.clo f caps::vals):=by
 rw[zbW2]at h;simp only[zM3,cF];rcases cF.1 h with h|h
 .exact .inr h
 .exact .inl (zbB2 hc h)
theorem zcX4{id:Nat}{m m2:Nat->MS}{po:PO}{vals:List A}(h:∀y∈zM3 vals,m y=m2 y):ev id m po vals=ev id m2 po vals:=by
 have e1:∀{x:A} {xs:List A},vals=x::xs->(∀y∈idsA x,m y=m2 y):=λ hv y hy=>h y (by rw[hv];exact cO _ hy);have e2:∀{x x2:A} {xs:List A},vals=x::x2::xs->(∀y∈idsA x2,m y=m2 y):=λ hv y hy=>h y (by rw[hv];exact cC _ (cO _ hy));have own:∀{x:Nat} {lo n:Nat},(∀y∈idsA (.own x lo n),m y=m2 y)->m x=m2 x:=λ hh=>hh _ (by simp[idsA,zaU6,zaD5]);have ptr:∀{x:Nat} {lo n:Nat},(∀y∈idsA (.ptr x lo n),m y=m2 y)->m x=m2 x:=λ hh=>hh _ (by simp[idsA,zaU6,zaD5]);have mp:∀{x:Nat},(∀y∈idsA (.mp x),m y=m2 y)->m x=m2 x:=λ hh=>hh _ (by simp[idsA,zaU6,zaD5]);have hel:∀{x:A},(∀y∈idsA x,m y=m2 y)->zaA0 m x=zaA0 m2 x/\zaf1 m x=zaf1 m2 x:=λ{x} hh=>by
  cases x<;>first|exact⟨rfl,rfl⟩|skip
  simp only[zaA0,zaf1,own hh,cP]
 have hsl:∀{x:A} {sz:Nat} {lo hi mx:Option Int},(∀y∈idsA x,m y=m2 y)->zar6 m sz x lo hi mx=zar6 m2 sz x lo hi mx:=λ{x sz lo hi mx} hh=>by cases x<;>cases mx<;>first|rfl|(simp only[zar6,own hh])
 cases po
 case slc sz lo hi mx=>
  rcases vals with _|⟨x,_|⟨x2,_|⟨x3,_|⟨x4,_|⟨x5,xs⟩⟩⟩⟩⟩
  .cases lo<;>cases hi<;>cases mx<;>rfl
  .have hx:=e1 rfl;have:=λ{lo hi mx}=>hsl (sz:=sz) (lo:=lo) (hi:=hi) (mx:=mx) hx;cases lo<;>cases hi<;>cases mx<;>first|rfl|(simp only[ev,this])
  .have hx:=e1 rfl;have:=λ{lo hi mx}=>hsl (sz:=sz) (lo:=lo) (hi:=hi) (mx:=mx) hx;cases lo<;>cases hi<;>cases mx<;>cases x2<;>first|rfl|(simp only[ev,this])
  .have hx:=e1 rfl;have:=λ{lo hi mx}=>hsl (sz:=sz) (lo:=lo) (hi:=hi) (mx:=mx) hx;cases lo<;>cases hi<;>cases mx<;>cases x2<;>cases x3<;>first|rfl|(simp only[ev,this])
  .have hx:=e1 rfl;have:=λ{lo hi mx}=>hsl (sz:=sz) (lo:=lo) (hi:=hi) (mx:=mx) hx;cases lo<;>cases hi<;>cases mx<;>first|rfl|(cases x2<;>first|rfl|(cases x3<;>first|rfl|(cases x4<;>first|rfl|(simp only[ev,this]))))
  .cases lo<;>cases hi<;>cases mx<;>first|rfl|(cases x2<;>first|rfl|(cases x3<;>first|rfl|(cases x4<;>rfl)))
 case slcS lo hi=>rcases vals with _|⟨x,_|⟨x2,_|⟨x3,_|⟨x4,xs⟩⟩⟩⟩<;>cases lo<;>cases hi<;>first|rfl|(cases x<;>first|rfl|(cases x2<;>first|rfl|(cases x3<;>rfl)))
 case cvS=>
  rcases vals with _|⟨x,_|⟨x2,xs⟩⟩<;>first|rfl|skip
  obtain⟨g1,g2⟩:=hel (e1 rfl);simp only[ev,g1,g2]
 case append sz bytes z=>
  rcases vals with _|⟨x,_|⟨x2,_|⟨x3,xs⟩⟩⟩<;>first|rfl|skip
  have hx:=e1 rfl;obtain⟨g1,g2⟩:=hel (e2 rfl);simp only[ev,g1,g2];cases x<;>first|rfl|skip
  have e:=own hx;simp only[e]
 case appc sz bytes=>
  rcases vals with _|⟨x,_|⟨x2,_|⟨x3,xs⟩⟩⟩<;>first|rfl|skip
  have hx:=e1 rfl;obtain⟨g1,g2⟩:=hel (e2 rfl);simp only[ev,g1,g2];cases x<;>first|rfl|skip
  have e:=own hx;simp only[e]
 case clear sz z=>
  rcases vals with _|⟨x,_|⟨x2,xs⟩⟩<;>first|rfl|skip
  have hx:=e1 rfl;simp only[ev];cases x<;>first|rfl|skip
  have e:=own hx;simp only[e]
 case copy sz=>
  rcases vals with _|⟨x,_|⟨x2,_|⟨x3,xs⟩⟩⟩<;>first|rfl|skip
  have hx:=e1 rfl;obtain⟨g1,g2⟩:=hel (e2 rfl);simp only[ev,g1,g2];cases x<;>first|rfl|skip
  have e:=own hx;simp only[e]
 case load n ag=>
  rcases vals with _|⟨x,_|⟨x2,xs⟩⟩<;>first|rfl|skip
  have hx:=e1 rfl;cases x<;>first|rfl|skip
  have e:=ptr hx;simp only[ev,e]
 case store n=>
  rcases vals with _|⟨x,_|⟨x2,_|⟨x3,xs⟩⟩⟩<;>first|rfl|skip
  have hx:=e1 rfl;cases x<;>first|rfl|skip
  have e:=ptr hx;simp only[ev,e]
 case faddr off=>
  rcases vals with _|⟨x,_|⟨x2,xs⟩⟩<;>first|rfl|skip
  have hx:=e1 rfl;cases x<;>first|rfl|skip
  have e:=ptr hx;simp only[ev,e]
 case nilck=>
  rcases vals with _|⟨x,_|⟨x2,xs⟩⟩<;>first|rfl|skip
  have hx:=e1 rfl;cases x<;>first|rfl|skip
  have e:=ptr hx;simp only[ev,e]
 case len=>
  rcases vals with _|⟨x,_|⟨x2,xs⟩⟩<;>first|rfl|skip
  have hx:=e1 rfl;cases x<;>first|rfl|skip
  have e:=own hx;simp only[ev,e]
 case lkp ok ag kz z=>
  rcases vals with _|⟨x,_|⟨x2,_|⟨x3,xs⟩⟩⟩<;>first|rfl|(cases x<;>rfl)|skip
  have hx:=e1 rfl;cases x<;>first|rfl|skip
  have e:=mp hx;simp only[ev,e]
 case mupd kz ag n=>
  rcases vals with _|⟨x,_|⟨x2,_|⟨x3,_|⟨x4,xs⟩⟩⟩⟩<;>first|rfl|(cases x<;>rfl)|skip
  have hx:=e1 rfl;cases x<;>first|rfl|skip
  have e:=mp hx;simp only[ev,e]
 case rng=>
  rcases vals with _|⟨x,_|⟨x2,xs⟩⟩<;>first|rfl|(cases x<;>rfl)|skip
  have hx:=e1 rfl;cases x<;>first|rfl|skip
  have e:=mp hx;simp only[ev,e]
 case lenM=>
  rcases vals with _|⟨x,_|⟨x2,xs⟩⟩<;>first|rfl|(cases x<;>rfl)|skip
  have hx:=e1 rfl;cases x<;>first|rfl|skip
  have e:=mp hx;simp only[ev,e]
 case iaA n sz=>
  rcases vals with _|⟨x,_|⟨x2,_|⟨x3,xs⟩⟩⟩<;>first|rfl|(cases x2<;>rfl)|skip
  have hx:=e1 rfl;cases x2<;>first|rfl|skip
  cases x<;>first|rfl|skip
  have e:=ptr hx;simp only[ev,e]
 case iaS sz z=>
  rcases vals with _|⟨x,_|⟨x2,_|⟨x3,xs⟩⟩⟩<;>first|rfl|(cases x2<;>rfl)|skip
  have hx:=e1 rfl;cases x2<;>first|rfl|skip
  cases x<;>first|rfl|skip
  have e:=own hx;simp only[ev,e]
 all_goals first
  |rfl
  |(rcases vals with _|⟨x,_|⟨x2,_|⟨x3,xs⟩⟩⟩<;>first|rfl|(cases x<;>first|rfl|(cases x2<;>rfl)))
theorem zaY1{fr f2:Nat->A}:∀(xs:List PX),(∀t∈rdsX xs,fr t=f2 t)->zB0 C fr xs=zB0 C f2 xs/\(gdsF C fr xs↔gdsF C f2 xs)
 |[],_=>⟨rfl,kF⟩
 |x::xs,h=>by have h1:=zaw4 (x:=x) C.G (f:=fr) (g:=f2) λ t ht=>h t ((zL8 x xs t).2 (.inl ht));obtain⟨h2,h3⟩:=zaY1 xs λ t ht=>h t ((zL8 x xs t).2 (.inr ht));simp only[zB0,gdsF,h1,h2,h3,cP]
theorem zcz2{p:POp}{s s2:S}{id:Nat}{v:A}{mw:List (Nat×MS)}(hr:∀t∈p.rds,s.fr t=s2.fr t)(hm:∀y∈zM3 (zB0 C s.fr p.xs),s.mem y=s2.mem y)(hw:∀y∈mw.map (·.1),s.mem y=s2.mem y)
  (hcap:∀f caps vals,(p.po=.callv\/p.po=.callvm)->zB0 C s.fr p.xs=.clo f caps::vals->∀c∈caps,idsA c=zaD5 c)
  (h:aopS C p s id (λ v' mw'=>v'=v/\mw'=mw)):aopS C p s2 id (λ v' mw'=>v'=v/\mw'=mw):=by
 have hx:∀t∈rdsX p.xs,s.fr t=s2.fr t:=λ t ht=>hr t (cC _ ht);obtain⟨hv,hgd⟩:=zaY1 (C:=C) p.xs hx;have hgo:zB7 s2.fr p.g=zB7 s.fr p.g:=by
  cases hg:p.g with
  |none=>rfl
  |some q=>simp only[zB7];rw[hr q.1 (cO _ (by simp[hg]))]
 obtain⟨hf1,hf2⟩:=zaA8 hm;have hcm:∀r,zw5 s.mem (zB0 C s.fr p.xs) r=zw5 s2.mem (zB0 C s.fr p.xs) r:=λ r=>by simp only[zw5,zaw6 λ y hy=>hm y (zav4 y hy)]
 unfold aopS at h⊢;rw[hgo,<-hv,<-hgd];cases hg:zB7 s.fr p.g with
 |none=>simp[hg]at h
 |some g=>
  simp only[hg]at h⊢;cases hp:p.po<;>simp only[hp]at h|-
  case pick=>
   split at h
   .rename_i c x y hxs;simp only[hxs]at hx⊢;have e1:=zaw4 (x:=c) C.G (f:=s.fr) (g:=s2.fr) λ t ht=>hx t ((zL8 _ _ _).2 (.inl ht));have e2:=zaw4 (x:=x) C.G (f:=s.fr) (g:=s2.fr) λ t ht=>hx t ((zL8 _ _ _).2 (.inr ((zL8 _ _ _).2 (.inl ht))));have e3:=zaw4 (x:=y) C.G (f:=s.fr) (g:=s2.fr) λ t ht=>hx t ((zL8 _ _ _).2 (.inr ((zL8 _ _ _).2 (.inr ht))));rw[<-e1,<-e2,<-e3];exact h
   .exact h.elim
  case call f=>rw[<-hf1,<-hf2];obtain⟨r,h1,h2,h3⟩:=h;exact⟨r,h1,by rw[<-hcm];exact h2,by rw[<-hcm];exact h3⟩
  case callv=>
   split at h
   .rename_i f caps vals hvals;have hc:=hcap f caps vals (.inl hp) hvals;have hm2:∀y∈zM3 (vals++caps),s.mem y=s2.mem y:=λ y hy=>hm y (by rw[hvals];exact zbB3 hy hc);obtain⟨g1,g2⟩:=zaA8 hm2;have hcm2:∀r,zw5 s.mem (vals++caps) r=zw5 s2.mem (vals++caps) r:=λ r=>by
     simp only[zw5,zaw6 λ y hy=>hm2 y (zav4 y hy)]
    obtain⟨r,h1,h2,h3⟩:=h;rw[<-g1,<-g2];exact⟨r,h1,by rw[<-hcm2];exact h2,by rw[<-hcm2];exact h3⟩
   .exact h.elim
  case callb=>
   split at h
   .rename_i f cs vals hvals;have hm2:∀y∈zM3 (.agg cs::vals),s.mem y=s2.mem y:=λ y hy=>hm y (by rw[hvals];exact hy);obtain⟨g1,g2⟩:=zaA8 hm2;have hcm2:∀r,zw5 s.mem (.agg cs::vals) r=zw5 s2.mem (.agg cs::vals) r:=λ r=>by
     simp only[zw5,zaw6 λ y hy=>hm2 y (zav4 y hy)]
    obtain⟨r,h1,h2,h3⟩:=h;rw[<-g1,<-g2];exact⟨r,h1,by rw[<-hcm2];exact h2,by rw[<-hcm2];exact h3⟩
   .exact h.elim
  case callm f=>exact zbB1 hm hw h
  case callvm=>
   split at h
   .rename_i f caps vals hvals;have hc:=hcap f caps vals (.inr hp) hvals;exact zbB1 (λ y hy=>hm y (by rw[hvals];exact zbB3 hy hc)) hw h
   .exact h.elim
  all_goals
   rw[<-zcX4 (id:=id) hm];exact h
theorem zcn9{p:POp}{s s2:S}{id:Nat}{v:A}{mw:List (Nat×MS)}(hr:∀t∈p.rds,s.fr t=s2.fr t)(hm:∀y∈idsP p.po (zB0 C s.fr p.xs),s.mem y=s2.mem y)(hw:∀y∈mw.map (·.1),s.mem y=s2.mem y)
  (hcap:∀f caps vals,(p.po=.callv\/p.po=.callvm)->zB0 C s.fr p.xs=.clo f caps::vals->∀c∈caps,idsA c=zaD5 c)
  (h:aopS C p s id (λ v' mw'=>v'=v/\mw'=mw)):aopS C p s2 id (λ v' mw'=>v'=v/\mw'=mw):=by
 cases hpo:p.po with
 |mv=>
  have hx:∀t∈rdsX p.xs,s.fr t=s2.fr t:=λ t ht=>hr t (cC _ ht);obtain⟨hv,hgd⟩:=zaY1 (C:=C) p.xs hx;have hgo:zB7 s2.fr p.g=zB7 s.fr p.g:=by
   cases hg:p.g with
   |none=>rfl
   |some q=>simp only[zB7];rw[hr q.1 (cO _ (by simp[hg]))]
  unfold aopS at h⊢;rw[hgo,<-hv,<-hgd];cases hg:zB7 s.fr p.g with
  |none=>simp[hg]at h
  |some g=>
   simp only[hg,hpo]at h⊢;have e:∀vals,ev id s.mem .mv vals=ev id s2.mem .mv vals:=λ vals=>by rcases vals with _|⟨x,_|⟨x2,xs⟩⟩<;>rfl
   rw[<-e];exact h
 |_=>exact zcz2 hr (λ y hy=>hm y (by rw[hpo];exact hy)) hw hcap h
set_option maxHeartbeats 1000000 in
theorem zdD5{id:Nat}{m:Nat->MS}{po:PO}{vals:List A}{ef:Ef}(h:ev id m po vals=some ef):id∈ef.mw.map (·.1)\/∀id',ev id' m po vals=some ef:=by
 cases po
 case nilown sz z=>rcases vals with _|⟨x,_|⟨x2,xs⟩⟩<;>cases h;exact .inl (by simp)
 case box n=>rcases vals with _|⟨x,_|⟨x2,xs⟩⟩<;>cases h;exact .inl (by simp)
 case alloc n z=>rcases vals with _|⟨x,xs⟩<;>cases h;exact .inl (by simp)
 case bown sz z=>simp only[ev,cJ]at h;subst h;exact .inl (by simp)
 case mkmap z=>rcases vals with _|⟨x,xs⟩<;>cases h;exact .inl (by simp)
 case rng=>
  rcases vals with _|⟨x,_|⟨x2,xs⟩⟩<;>first|(cases h;done)|(cases x<;>cases h;done)|skip
  cases x<;>simp only[ev]at h<;>first|(cases h;done)|skip
  split at h
  .cases h;exact .inl (by simp)
  .cases h
 case next d=>exact .inr λ id'=>by rw[<-h];rfl
 case entry d=>exact .inr λ id'=>by rw[<-h];rfl
 case lkp ok ag kz z=>exact .inr λ id'=>by rw[<-h];rcases vals with _|⟨x,_|⟨x2,_|⟨x3,xs⟩⟩⟩<;>first|rfl|(cases x<;>rfl)
 case mupd kz ag n=>exact .inr λ id'=>by rw[<-h];rcases vals with _|⟨x,_|⟨x2,_|⟨x3,_|⟨x4,xs⟩⟩⟩⟩<;>first|rfl|(cases x<;>rfl)
 case lenM=>exact .inr λ id'=>by rw[<-h];rcases vals with _|⟨x,_|⟨x2,xs⟩⟩<;>first|rfl|(cases x<;>rfl)
 case mk sz b z=>
  rcases vals with _|⟨x,_|⟨x2,_|⟨x3,xs⟩⟩⟩<;>first|(cases h;done)|(cases x<;>cases h;done)|skip
  .cases x<;>cases x2<;>cases h;exact .inl (by simp)
  .cases x<;>cases x2<;>cases h
 case append sz b z=>
  rcases vals with _|⟨x,_|⟨x2,_|⟨x3,xs⟩⟩⟩<;>first|(cases h;done)|skip
  simp only[ev,fT]at h;obtain⟨new,hnew,h⟩:=h;cases x<;>simp only[]at h<;>first|(cases h;done)|skip
  .cases h;exact .inl (by simp)
  .split at h
   .cases h;exact .inl (by simp)
   .cases h
 case appc sz b=>
  rcases vals with _|⟨x,_|⟨x2,_|⟨x3,xs⟩⟩⟩<;>first|(cases h;done)|skip
  simp only[ev,fT]at h;obtain⟨new,hnew,h⟩:=h;cases x<;>simp only[]at h<;>first|(cases h;done)|skip
  split at h
  .cases h;exact .inl (by simp)
  .cases h
 all_goals
  refine .inr λ id'=>?_;rw[<-h]
  first
   |rfl
   |(rename_i lo hi mx;cases lo<;>cases hi<;>cases mx<;>rcases vals with _|⟨x,_|⟨x2,_|⟨x3,_|⟨x4,_|⟨x5,xs⟩⟩⟩⟩⟩<;>first|rfl|(cases x2<;>first|rfl|(cases x3<;>first|rfl|(cases x4<;>rfl))))
   |(rename_i lo hi;cases lo<;>cases hi<;>rcases vals with _|⟨x,_|⟨x2,_|⟨x3,_|⟨x4,xs⟩⟩⟩⟩<;>first|rfl|(cases x<;>first|rfl|(cases x2<;>first|rfl|(cases x3<;>rfl))))
   |(rcases vals with _|⟨x,_|⟨x2,_|⟨x3,xs⟩⟩⟩<;>first|rfl|(cases x<;>first|rfl|(cases x2<;>rfl))|(cases x2<;>rfl))
theorem zdl5{p:POp}{s:S}{id:Nat}{v:A}{mw:List (Nat×MS)}(h:aopS C p s id (λ v' mw'=>v'=v/\mw'=mw)):id∈mw.map (·.1)\/∀id',id<=id'->aopS C p s id' (λ v' mw'=>v'=v/\mw'=mw):=by
 have cm:∀{f:FuncId} {vals:List A} {og:Option (Nat×Bool)} {g:Bool} {ob:Prop},zaG7 C s.mem id f vals og g ob (λ n=>∀x,id<=x->x<id+n->s.mem x=.fresh) (λ v' mw'=>v'=v/\mw'=mw)->
   id∈mw.map (·.1)\/∀id',id<=id'->zaG7 C s.mem id' f vals og g ob (λ n=>∀x,id'<=x->x<id'+n->s.mem x=.fresh) (λ v' mw'=>v'=v/\mw'=mw):=λ{f vals og g ob} h=>by
  obtain⟨l,as,ms,k,r,ms',k',ht,hf,hvv,h5,h7,h8⟩:=h
  by_cases hk:k=k'
  .have en:∀id',newL k id' (k'-k)=[]:=λ id'=>by rw[hk,hB];rfl
   simp only[en]at hf hvv h7 h8;refine .inr λ id' hid=>⟨l,as,ms,k,r,ms',k',λ hg=>?_,?_⟩
   .obtain⟨hob,h3,h4,h6⟩:=ht hg;obtain⟨g1,g2,g3,g4,g5,g6,g7,g8⟩:=h4;exact⟨hob,h3,⟨g1,g2,g3,g4,g5,g6,λ q hq=>dI (g7 q hq) hid,g8⟩,λ x hx hx2=>by omega⟩
   .simp only[en];exact⟨hf,hvv,h5,h7,h8⟩
  .have hg:g=true:=by
    cases g with
    |true=>rfl
    |false=>exact absurd (hf rfl).1 hk
   obtain⟨hob,h3,h4,h6⟩:=ht hg;obtain⟨g1,g2,g3,g4,g5,g6,g7,g8⟩:=h4;have hkk:k<=k':=eT g6;left;rw[<-h8,mwM,dX];refine cC _ ?_;have:=zbl2 (L:=l++newL k id (k'-k)) (ms':=ms') (ids:=ms.map (·.1)++(List.range (k'-k)).map (k+·)) (k+0) (cC _ (bW.2 ⟨0,dN.2 (by omega),rfl⟩));have e:rho (l++newL k id (k'-k)) (k+0)=id+0:=by simp only[rho,zX5,zam9];rw[zaL5 λ q hq=>by have:=g8 q hq;omega,bM (by omega)];simp
   rw[e]at this;exact this
 unfold aopS at h⊢;cases hg:zB7 s.fr p.g with
 |none=>simp[hg]at h
 |some g=>
  simp only[hg]at h⊢;cases hp:p.po<;>simp only[hp]at h|-
  case pick=>exact .inr λ _ _=>h
  case call f=>exact .inr λ _ _=>h
  case callv=>exact .inr λ _ _=>h
  case callb=>exact .inr λ _ _=>h
  case callm f=>exact cm h
  case callvm=>
   split at h
   .exact cm h
   .exact h.elim
  all_goals
   split at h
   .rename_i ef hev;obtain⟨h1,h2,h3,h4⟩:=h;rcases zdD5 hev with g1|g1
    .exact .inl (h4▸g1)
    .exact .inr λ id' _=>by rw[g1 id'];exact⟨h1,h2,h3,h4⟩
   .rename_i hev;exact .inr λ id' _=>by rw[<-zdt2 (id:=id) h.2.1,hev];exact h
end
end Ab
end Go.Proofs.YtdlfhmkmnjbihaaGreatDoor
