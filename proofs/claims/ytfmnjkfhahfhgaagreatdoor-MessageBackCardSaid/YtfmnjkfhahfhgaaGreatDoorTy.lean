import Derived.Test.YtfmnjkfhahfhgaaGreatDoorAb16
import Derived.Orders
namespace Go.Proofs.YtfmnjkfhahfhgaaGreatDoor
namespace Ab
set_option linter.defProp false
set_option linter.unusedSimpArgs false
set_option linter.unusedVariables false
def oY:Nat->List A->List (Nat×A)
 |_,[]=>[]
 |n,a::as=>(n,a)::oY (n+1) as
inductive RX where
 |t (n:Nat)
 |c (n sz:Nat) (ag:Bool)
def wA(P:Program):List ResultVar->List RX->Bool
 |[],[]=>true
 | .tmp t::rs,.t n::ns=>t==n&&wA P rs ns
 | .cell t T::rs,.c n sz ag::ns=>t==n&&tyOk P T ag sz&&wA P rs ns
 |_,_=>false
def chkF(P:Program)(f:FuncId)(H:PC)(N:Nat)(rs:List RX)(O:Nat):Bool:=
 match P.funcs[f]? with
 |some fn=>(match fn.body with
  |some c=>chkC P N c H
  |none=>false)&&fn.ntmps==N&&wA P fn.results.toList rs&&Nat.ble O N
 |none=>false
def resA(st:St):RX->A
 | .t n=>st.slot n
 | .c n H O=>match ev st.nx st.m (.load H O) [st.slot n]with
  |some U=>U.v
  |none=>.any
def resG(st:St):RX->Prop
 | .t _=>True
 | .c n H O=>match ev st.nx st.m (.load H O) [st.slot n]with
  |some U=>U.obl
  |none=>False
def allG(st:St):List RX->Prop
 |[]=>True
 |x::xs=>(resG st x/\rK st.m (resA st x))/\allG st xs
def uY(st:St):List RX->List A
 |[]=>[]
 |x::xs=>frz st.m (resA st x)::uY st xs
def C6:List A->A
 |[x]=>x
 |xs=>.tup xs
def C7(st:St)(rs:List RX)(r:A):Prop:=allG st rs/\C6 (uY st rs)=r
def resL(st:St):List RX->List A
 |[]=>[]
 |x::xs=>resA st x::resL st xs
def q7(st:St):List RX->Prop
 |[]=>True
 |x::xs=>resG st x/\q7 st xs
def AV:List A->Bool
 |[]=>true
 |x::xs=>x.isVV&&AV xs
def zK(k:Nat)(st:St)(rs:List RX)(rl:List A)(ms':List (Nat×Row))(k':Nat):Prop:=
 q7 st rs/\AV rl=true/\∃l,Le l ⟨oY 0 (resL st rs),st.mem,st.nx⟩ ⟨oY 0 rl,ms',k'⟩/\rL k l k'=true
def FK(k:Nat)(rs:List RX)(rl:List A)(ms':List (Nat×Row))(k':Nat):Exit->St->Prop
 | .ret,st=>zK k st rs rl ms' k'
 | .normal,st=>zK k st rs rl ms' k'
 |_,_=>False
def C8:List (Nat×Row)->Bool
 |[]=>true
 |q::r=>!q.2.ro&&C8 r
def Post(rs:List RX)(r:A):Exit->St->Prop
 | .ret,st=>C7 st rs r
 | .normal,st=>C7 st rs r
 |_,_=>False
section
variable {C:Cx}
def FL:∀(as:List A) (n t:Nat),look (oY n as) t=if n<=t then as[t-n]? else none
 |[],n,t=>by simp[oY,look]
 |a::as,n,t=>by
  simp only[oY,look]
  by_cases h:n=t
  .subst h;simp
  .rw[bX h,FL as (n+1) t]
   by_cases H:n+1<=t
   .rw[cB H,cB om];rw[show t-n=(t-(n+1))+1 by omega];simp
   .rw[bX H]
    by_cases O:n<=t
    .omega
    .rw[bX O]
def C9:List Value->Value
 |[v]=>v
 |us=>.tuple us.toArray
def MG{E:Env}{st:St}{a:Act}{w:World}{W:Nat->Prop}{μ:Nat->Loc}(Y:SatW E st.toS a w W μ){F:ResultVar->Sem Value}(B:∀t,F (.tmp t)=pure (a.tmps.getD t undef))
  (M:∀t T,F (.cell t T)=do loadVar T (<-asAddr (a.tmps.getD t undef))):∀(l:List ResultVar) (O:List RX),wA C.P l O=true->q7 st O->
  ∃us,(l.mapM F).run C.P w=.ok us w/\us.length=O.length/\∀(i:Nat) (u:Value) (x:RX),us[i]? =some u->O[i]? =some x->Rep w W μ u (resA st x)
 |[],[],_,_=>⟨[],rfl,rfl,λ i u x h=>by simp at h⟩
 |[],_::_,h,_=>by simp[wA]at h
 |x::l,[],h,_=>by cases x<;>simp[wA]at h
 | .cell _ _::_,.t _::_,h,_=>by simp[wA]at h
 | .tmp _::_,.c _ _ _::_,h,_=>by simp[wA]at h
 | .tmp t::l,.t n::O,h,hg=>by
  simp only[wA,bY,dN]at h;obtain⟨rfl,L⟩:=h;obtain⟨us,V,Z,e3⟩:=MG Y B M l O L hg.2;refine⟨a.tmps.getD t undef::us,?_,by simp[Z],λ i u x U K=>?_⟩
  .simp only[lC,qc,B,Qc,Oc,V]
  .cases i with
   |zero=>rw[List.getElem?_cons_zero]at U K;cases U;cases K;exact Y.fr t
   |succ i=>exact e3 i u x (by simpa using U) (by simpa using K)
 | .cell t T::l,.c n sz ag::O,h,hg=>by
  simp only[wA,bY,dN]at h;obtain⟨⟨rfl,hT⟩,L⟩:=h;obtain⟨us,V,Z,e3⟩:=MG Y B M l O L hg.2;have H:=hg.1;have hl:∃u,(F (.cell t T)).run C.P w=.ok u w/\Rep w W μ u (resA st (.c t sz ag)):=by
   simp only[resG]at H;split at H
   .rename_i ef he;obtain⟨b,q,u,h1,h3,h4⟩:=PY (P:=C.P) Y hT (Y.fr t) he H;refine⟨u,?_,?_⟩
    .rw[M];simp only[h1,qc];show(((loadVar T ⟨b,q,none⟩).run C.P w))=_;exact h3
    .simp only[resA,he];exact h4
   .exact H.elim
  obtain⟨u0,h5,h6⟩:=hl;refine⟨u0::us,?_,by simp[Z],λ i u x U K=>?_⟩
  .simp only[lC,qc,h5,Qc,Oc,V]
  .cases i with
   |zero=>simp at U K;subst U;subst K;exact h6
   |succ i=>exact e3 i u x (by simpa using U) (by simpa using K)
def Q0(fn:Func){E:Env}{st:St}{a:Act}{w:World}{W:Nat->Prop}{μ:Nat->Loc}(H:SatW E st.toS a w W μ){rs:List RX}(h:wA C.P fn.results.toList rs=true)(hg:q7 st rs):
  ∃us,(results fn a.tmps).run C.P w=.ok (C9 us) w/\us.length=rs.length/\∀(i:Nat) (u:Value) (x:RX),us[i]? =some u->rs[i]? =some x->Rep w W μ u (resA st x):=by
 have e:∀F:ResultVar->Sem Value,fn.results.mapM F=List.toArray<$>fn.results.toList.mapM F:=λ F=>by rw[<-List.mapM_toArray,lK]
 let F:ResultVar->Sem Value:=λ
  | .tmp t=>pure (a.tmps.getD t undef)
  | .cell x t=>do loadVar t (<-asAddr (a.tmps.getD x undef))
 have O:results fn a.tmps=(do
   let vs<-fn.results.mapM F
   pure (if h:vs.size=1 then vs[0]else .tuple vs)):=by
  unfold results;congr 1
 obtain⟨us,U,Y,B⟩:=MG (C:=C) H (F:=F) (λ t=>rfl) (λ t T=>rfl) _ _ h hg;refine⟨us,?_,Y,B⟩;rw[O];simp only[qc];rw[e F,Sem.run_map,U];simp only[Oc,Qc,iG]
 match us with
 |[t]=>simp[C9]
 |[]=>simp[C9]
 |_::_::_=>simp[C9]
def Q1{st:St}:∀{rs:List RX},allG st rs->q7 st rs
 |[],_=>trivial
 |_::_,h=>⟨h.1.1,Q1 h.2⟩
def Q2{st:St}:∀{rs:List RX},allG st rs->∀(i:Nat) (x:RX),rs[i]? =some x->rK st.m (resA st x)
 |y::ys,h,i,x,H=>by
  cases i with
  |zero=>simp at H;subst H;exact h.1.2
  |succ i=>exact Q2 h.2 i x (by simpa using H)
 |[],_,i,x,H=>by simp at H
def Q3{st:St}:∀(rs:List RX) (i:Nat),(uY st rs)[i]? =(rs[i]?).map λ x=>frz st.m (resA st x)
 |[],i=>by simp[uY]
 |y::ys,i=>by
  cases i with
  |zero=>simp[uY]
  |succ i=>simpa [uY]using Q3 ys i
def MH{f:FuncId}{pc:PC}{N np:Nat}{rs:List RX}(H:chkF C.P f pc N rs np=true){as:List A}(u0:as.length=np){r:A}
  (h:∀E:Env,E.G=C.G->E.N=N->E.k0=0->AW C E pc (Post rs r) ⟨oY 0 as,[],0⟩):PFn C f as r:=by
 intro w W vs hgl V hlen hargs;unfold chkF at H;split at H
 .rename_i fn h0;simp only[bY,dN]at H;obtain⟨⟨⟨hc,hN⟩,U⟩,Y⟩:=H;have Y:np<=N:=fP Y;split at hc
  .rename_i c hb
   let E:Env:=⟨w,W,λ _=>False,N,C.G,0,qX⟩
   have hS:SatW E (⟨oY 0 as,[],0⟩:St).toS {tmps:=vs.toArray++Array.replicate (fn.ntmps-vs.toArray.size) undef,defers:=[]} w W qX:={
    defers:=rfl
    size:=by simp;show vs.length+(fn.ntmps-vs.length)=N;omega
    fr:=λ t=>by
     show Rep w W qX _ ((⟨oY 0 as,[],0⟩:St).slot t);simp only[St.slot,FL,fS,cH,Nat.sub_zero];cases ha:as[t]? with
     |none=>trivial
     |some b=>
      have ht:t<vs.length:=by rw[hlen];exact(cK.1 ha).1
      have hv:vs[t]? =some vs[t]:=by simp[ht]
      have:(vs.toArray++Array.replicate (fn.ntmps-vs.toArray.size) undef).getD t undef=vs[t]:=by rw[gE,hX (by simpa using ht)];simp[ht]
      rw[this];exact nG (hargs t _ b hv ha)
    mem:=λ x=>by show qN w W qX x ((⟨oY 0 as,[],0⟩:St).m x);simp[St.m,qN,qX]
    inj:=λ x y k k' L=>by cases L
    keeps:=Keeps.refl _ w
    winlt:=V
    wsub:=λ b h=>.inl h
    wsup:=λ b h=>.inl h
    wlt:=V
    live:=λ x k L=>by cases L
    glob:=hgl
    fix:=λ x L=>absurd L (Nat.not_lt_zero x)}
   have x0:=h E rfl rfl rfl c hc _ w ⟨W,qX,hS⟩;refine calls_of_wp h0 hb (wp_mono x0 λ e a' w' ⟨st',hq,W',μ',K⟩=>?_);have B:C7 st' rs r->a'.defers=[]/\∃v,(results fn a'.tmps).run C.P w'=.ok v w'/\∃u,Ending.returned v=.returned u/\Keeps (λ _=>False) w w'/\Rep w' W qX u r:=λ y0=>by
    obtain⟨hg,hr⟩:=y0;obtain⟨us,F,Z,hus⟩:=Q0 fn K U (Q1 hg);refine⟨K.defers,_,F,_,rfl,K.keeps,?_⟩;have z0:∀{v:Value} {b:A},RepV w' (sC W' μ' (tH b)) qX v (frz st'.m b)->RepV w' W qX v (frz st'.m b):=λ{v b} hv=>
     hv.goes (Keeps.refl (λ _=>False) w') (λ _ _ _ h=>h) (λ q _ h1 h2=>h1 ⟨(K.wsup q h2).elim id (λ h=>h.elim),λ⟨x,k,_,hk,v0⟩=>by
      rcases K.live x k hk with h3|h3
      .exact h3
      .have:=V q h2;have h4:w.heap.size<=k.b:=h3;omega⟩) (Old.refl _)
    have O:∀(i:Nat) (u:Value) (x:RX),us[i]? =some u->rs[i]? =some x->RepV w' W qX u (frz st'.m (resA st' x)):=λ i u x hu L=>z0 (My (s:=st'.toS) K (hus i u x hu L) (Q2 hg i x L) (λ y hy=>hy));subst hr
    match rs,us,Z,O with
    |[x],[u],_,O=>exact nG (O 0 u x rfl rfl)
    |[],[],_,O=>exact⟨[],by simp[C9],by simp[uY],by simp⟩
    |x1::x2::xs,u1::u2::us,Z,O=>
     refine⟨u1::u2::us,rfl,?_,λ i u b hu hb=>?_⟩
     .simp only[uY,ym]at Z⊢;have:∀l,(uY st' l).length=l.length:=λ l=>by induction l with
       |nil=>rfl
       |cons a l ih=>simp[uY,ih]
      rw[this];omega
     .have M:(uY st' (x1::x2::xs))[i]? =some b:=hb;rw[Q3,cO]at M;obtain⟨x,L,rfl⟩:=M;exact O i u x hu L
   cases e with
   |normal=>exact B hq
   |ret=>exact B hq
   |_=>exact hq.elim
  .cases hc
 .cases H
def Q4:∀{ms:List (Nat×Row)},C8 ms=true->∀x r,look ms x=some r->r.ro=false
 |q::ms,h,x,r,H=>by
  simp only[C8,bY,dA]at h;simp only[look]at H;split at H
  .cases H;exact h.1
  .exact Q4 h.2 x r H
def Q5:∀{l:List A},AV l=true->∀x∈l,x.isVV=true
 |y::ys,h,x,hx=>by
  simp only[AV,bY]at h;rcases cL.1 hx with rfl|hx
  .exact h.1
  .exact Q5 h.2 x hx
def Q6{st:St}:∀(rs:List RX) (i:Nat),(resL st rs)[i]? =(rs[i]?).map λ x=>resA st x
 |[],i=>by simp[resL]
 |y::ys,i=>by
  cases i with
  |zero=>simp[resL]
  |succ i=>simpa [resL]using Q6 ys i
def Q7{f:FuncId}{pc:PC}{N np:Nat}{rs:List RX}(O:chkF C.P f pc N rs np=true){as:List A}(e0:as.length=np){ms ms':List (Nat×Row)}{k k':Nat}{rl:List A}(z0:C8 ms=true)(Y:p9 ms k=true)
  (u0:rl.length=rs.length) (h:∀E:Env,E.G=C.G->E.N=N->E.k0=k->AW C E pc (FK k rs rl ms' k') ⟨oY 0 as,ms,k⟩):MFn C f as ms k (C6 rl) ms' k':=by
 intro w W μ vs hgl hlt hlen hargs V hinj;unfold chkF at O;split at O
 .rename_i fn v0;simp only[bY,dN]at O;obtain⟨⟨⟨hc,hN⟩,B⟩,F⟩:=O;have F:np<=N:=fP F;have M:∀x r,(⟨[],ms,k⟩:St).m x=.row r->r.ro=false:=λ x r K=>by
   simp only[St.m]at K;split at K
   .cases K
   .cases hl:look ms x with
    |none=>rw[hl]at K;cases K
    |some r'=>rw[hl]at K;cases K;exact Q4 z0 x r hl
  have p0:∀x,k<=x->μ x=.fresh:=λ x K=>by have:=V x;rw[show(⟨[],ms,k⟩:St).m x=.fresh by simp only[St.m];rw[cB K]]at this;exact this
  have hnf:∀x,x<k->μ x≠.fresh:=λ x K hf=>by
   obtain⟨r,hr⟩:=Mz Y x K;have:=V x;rw[show(⟨[],ms,k⟩:St).m x=.row r by simp only[St.m,hr];rw[bX om]]at this;rcases this with⟨h1,_⟩|⟨kb,h1,_⟩
   .rw[hf]at h1;cases h1
   .rw[hf]at h1;cases h1
  have hown:∀x kb,μ x=.at_ kb->W kb.b:=λ x kb K=>by obtain⟨r,h1,h2⟩:=V.at_ K;exact h2.wr.1 (M x r h1)
  split at hc
  .rename_i c hb
   let E:Env:=⟨w,W,λ b=>W b/\∃y kb,μ y=.at_ kb/\kb.b=b,N,C.G,k,μ⟩
   have hS:SatW E (⟨oY 0 as,ms,k⟩:St).toS {tmps:=vs.toArray++Array.replicate (fn.ntmps-vs.toArray.size) undef,defers:=[]} w W μ:={
    defers:=rfl
    size:=by simp;show vs.length+(fn.ntmps-vs.length)=N;omega
    fr:=λ t=>by
     show Rep w W μ _ ((⟨oY 0 as,ms,k⟩:St).slot t);simp only[St.slot,FL,fS,cH,Nat.sub_zero];cases ha:as[t]? with
     |none=>trivial
     |some b=>
      have ht:t<vs.length:=by rw[hlen];exact(cK.1 ha).1
      have hv:vs[t]? =some vs[t]:=by simp[ht]
      have:(vs.toArray++Array.replicate (fn.ntmps-vs.toArray.size) undef).getD t undef=vs[t]:=by rw[gE,hX (by simpa using ht)];simp[ht]
      rw[this];exact nG (hargs t _ b hv ha)
    mem:=V
    inj:=hinj
    keeps:=Keeps.refl _ w
    winlt:=hlt
    wsub:=λ b h=>.inl h
    wsup:=λ b h=>.inl h
    wlt:=hlt
    live:=λ x kb K=>.inl ⟨hown x kb K,x,kb,K,rfl⟩
    glob:=hgl
    fix:=λ x K=>.inl ⟨rfl,hnf x K⟩}
   have q0:=h E rfl rfl rfl c hc _ w ⟨W,μ,hS⟩;refine calls_of_wp v0 hb (wp_mono q0 λ e a' w' ⟨st',hq,W1,μ1,L⟩=>?_);have h0:zK k st' rs rl ms' k'->a'.defers=[]/\∃v,(results fn a'.tmps).run C.P w'=.ok v w'/\∃u W' μ',Ending.returned v=.returned u/\Step (⟨[],ms,k⟩:St).m (⟨[],ms',k'⟩:St).m w w' W W' μ μ'/\Rep w' W' μ' u (C6 rl):=λ⟨hg,r0,l,x0,s0⟩=>by
    obtain⟨us,y0,Z,hus⟩:=Q0 fn L B hg
    let E':Env:={E with N:=us.length}
    have t0:SatW E' (⟨oY 0 (resL st' rs),st'.mem,st'.nx⟩:St).toS {tmps:=us.toArray,defers:=[]} w' W1 μ1:={
     defers:=rfl
     size:=by simp;rfl
     fr:=λ t=>by
      show Rep w' W1 μ1 _ ((⟨oY 0 (resL st' rs),st'.mem,st'.nx⟩:St).slot t);simp only[St.slot,FL,fS,cH,Nat.sub_zero,Q6];cases K:rs[t]? with
      |none=>trivial
      |some x=>
       have ht:t<us.length:=by rw[Z];exact(cK.1 K).1
       have:us.toArray.getD t undef=us[t]:=by simp[Array.getD,ht]
       show Rep w' W1 μ1 (us.toArray.getD t undef) (resA st' x);rw[this];exact hus t _ x (by simp[ht]) K
     mem:=L.mem
     inj:=L.inj
     keeps:=L.keeps
     winlt:=L.winlt
     wsub:=L.wsub
     wsup:=L.wsup
     wlt:=L.wlt
     live:=L.live
     glob:=L.glob
     fix:=L.fix}
    obtain⟨W2,μ2,H⟩:=St.le_of (E:=E') l x0 s0 _ w' ⟨W1,μ1,t0⟩;have c0:Step (⟨[],ms,k⟩:St).m (⟨[],ms',k'⟩:St).m w w' W W2 μ μ2:={
     keeps:=H.keeps
     hW:=λ b hb h=>by
      rcases H.wsub b h with h1|h1
      .exact h1
      .have h2:w.heap.size<=b:=h1;omega
     wsup:=λ b hb=>by
      rcases H.wsup b hb with h1|h1
      .exact .inl h1
      .exact .inr h1.2
     wlt0:=hlt
     wlt:=H.wlt
     old:=λ x K=>by
      by_cases d0:x<k
      .rcases H.fix x d0 with h1|h1
       .exact .inl h1.1
       .exact .inr h1
      .exact absurd (p0 x om) K
     mem:=H.mem
     inj:=H.inj
     live:=λ x kb K=>by
      rcases H.live x kb K with h1|h1
      .exact .inl h1.2
      .exact .inr h1}
    have U:∀(i:Nat) (u:Value) (b:A),us[i]? =some u->rl[i]? =some b->RepV w' W2 μ2 u b:=λ i u b hu hb=>by
     have h1:=H.fr i;have hi:i<us.length:=(cK.1 hu).1;have h2:(⟨oY 0 rl,ms',k'⟩:St).slot i=b:=by simp only[St.slot,FL,fS,cH,Nat.sub_zero,hb,Xm]
     have h3:us.toArray.getD i undef=u:=by rw[cE hi]at hu;cases hu;simp[Array.getD,hi]
     have h4:Rep w' W2 μ2 (us.toArray.getD i undef) ((⟨oY 0 rl,ms',k'⟩:St).slot i):=h1;rw[h2,h3]at h4;have hv:=Q5 r0 b (cV hb);exact h4.toVV hv
    refine⟨L.defers,_,y0,_,W2,μ2,rfl,c0,?_⟩
    match rl,us,(Z.trans u0.symm),U with
    |[b],[u],_,U=>exact nG (U 0 u b rfl rfl)
    |[],[],_,_=>exact⟨[],by simp[C9],by simp,by simp⟩
    |b1::b2::bs,u1::u2::us,Z,U=>exact⟨u1::u2::us,rfl,Z,U⟩
   cases e with
   |normal=>exact h0 hq
   |ret=>exact h0 hq
   |_=>exact hq.elim
  .cases hc
 .cases O
end
def uA(C:Cx):List POp->St->(St->Prop)->Prop
 |[],st,K=>K st
 |p::ps,st,K=>aop C p st λ st'=>(st'.mem=st.mem/\st'.nx=st.nx)/\uA C ps st' K
section
variable {C:Cx} {E:Env}
def Zj{p:POp}{st:St}{K:St->Prop}(h:aop C p st K):∃v M,K (st.app p.dst v M)/\aop C p st (λ s=>s=st.app p.dst v M):=by
 unfold aop at h⊢;cases hg:pX st p.g with
 |none=>simp[hg]at h
 |some g=>
  simp only[hg]at h⊢;cases L:p.po<;>simp only[L]at h|-
  case pick=>
   split at h
   .split at h
    .exact⟨_,_,h.2,h.1,rfl⟩
    .exact h.elim
   .exact h.elim
  case call f=>obtain⟨r,H,O,U⟩:=h;exact⟨_,_,U,r,H,O,rfl⟩
  case callv=>
   split at h
   .obtain⟨r,H,O,U⟩:=h;exact⟨_,_,U,r,H,O,rfl⟩
   .exact h.elim
  case callb=>
   split at h
   .obtain⟨r,H,O,U⟩:=h;exact⟨_,_,U,r,H,O,rfl⟩
   .exact h.elim
  case callm f=>obtain⟨l,as,ms,k,r,Y,k',H,O,U,B,F⟩:=h;exact⟨_,_,F,l,as,ms,k,r,Y,k',H,O,U,B,rfl⟩
  case callvm=>
   split at h
   .obtain⟨l,as,ms,k,r,Y,k',H,O,U,B,F⟩:=h;exact⟨_,_,F,l,as,ms,k,r,Y,k',H,O,U,B,rfl⟩
   .exact h.elim
  all_goals
   split at h
   .exact⟨_,_,h.2.2,h.1,h.2.1,rfl⟩
   .exact⟨_,_,h.2.2,h.1,h.2.1,rfl⟩
def q8{x:PX}{f g:Nat->A}(G:o5)(h:∀t∈rdsX [x],f t=g t):xv G f x=xv G g x:=by cases x<;>first|rfl|exact h _ (by simp[rdsX])
def tK(x:PX)(xs:List PX)(t:Nat):t∈rdsX (x::xs)↔t∈rdsX [x]\/t∈rdsX xs:=by cases x<;>simp[rdsX]
def Q8{st H:St}:∀(xs:List PX),(∀t∈rdsX xs,st.slot t=H.slot t)->mV C st xs=mV C H xs/\(pN C st xs↔pN C H xs)
 |[],_=>⟨rfl,kZ⟩
 |x::xs,h=>by have O:=q8 (x:=x) C.G (f:=st.slot) (g:=H.slot) λ t K=>h t ((tK x xs t).2 (.inl K));obtain⟨U,Y⟩:=Q8 xs λ t K=>h t ((tK x xs t).2 (.inr K));simp only[mV,pN,O,U,Y,cX]
def Q9{st H:St}(hm:H.mem=st.mem)(O:H.nx=st.nx):H.m=st.m:=by funext x;simp only[St.m,hm,O]
def q9{st:St}{d:Option Nat}{v u:A}{mw:List (Nat×MS)}{H:St}(h:st.app d u mw=st.app d v [])(hm:H.mem=st.mem)(U:H.nx=st.nx):H.app d u mw=H.app d v []:=by
 simp only[St.app,St.mk.injEq,putM,nxt]at h⊢;obtain⟨O,Y,B⟩:=h;refine⟨?_,by rw[hm];exact Y,by rw[U];exact B⟩;cases d with
 |none=>rfl
 |some d=>simp only[putF,gK,dH,gG,jF]at O⊢;exact O
def Zk{p:POp}{st H:St}{v:A}(hm:H.mem=st.mem)(O:H.nx=st.nx)(hr:∀t∈p.rds,st.slot t=H.slot t)
  (h:aop C p st (λ s=>s=st.app p.dst v [])):aop C p H (λ s=>s=H.app p.dst v []):=by
 have L:∀t∈rdsX p.xs,st.slot t=H.slot t:=λ t K=>hr t (dK _ K);obtain⟨hv,M⟩:=Q8 (C:=C) p.xs L;have h0:pX H p.g=pX st p.g:=by
  cases hg:p.g with
  |none=>rfl
  |some q=>simp only[pX];rw[hr q.1 (dV _ (by simp[hg]))]
 unfold aop at h⊢;rw[h0,<-hv,O,Q9 hm O,<-M];cases hg:pX st p.g with
 |none=>simp[hg]at h
 |some g=>
  simp only[hg]at h⊢;cases hp:p.po<;>simp only[hp]at h|-
  case pick=>
   split at h
   .rename_i c x y x0;simp only[x0]at L⊢;have e1:=q8 (x:=c) C.G (f:=st.slot) (g:=H.slot) λ t K=>L t ((tK _ _ _).2 (.inl K));have e2:=q8 (x:=x) C.G (f:=st.slot) (g:=H.slot) λ t K=>L t ((tK _ _ _).2 (.inr ((tK _ _ _).2 (.inl K))));have e3:=q8 (x:=y) C.G (f:=st.slot) (g:=H.slot) λ t K=>L t ((tK _ _ _).2 (.inr ((tK _ _ _).2 (.inr K))));rw[<-e1,<-e2,<-e3];split at h
    .exact⟨h.1,q9 h.2 hm O⟩
    .exact h.elim
   .exact h.elim
  case call f=>obtain⟨r,U,Y,B⟩:=h;exact⟨r,U,Y,q9 B hm O⟩
  case callv=>
   split at h
   .obtain⟨r,U,Y,B⟩:=h;exact⟨r,U,Y,q9 B hm O⟩
   .exact h.elim
  case callb=>
   split at h
   .obtain⟨r,U,Y,B⟩:=h;exact⟨r,U,Y,q9 B hm O⟩
   .exact h.elim
  case callm f=>obtain⟨l,as,ms,k,r,F,k',U,Y,B,V,Z⟩:=h;exact⟨l,as,ms,k,r,F,k',U,Y,B,V,q9 Z hm O⟩
  case callvm=>
   split at h
   .obtain⟨l,as,ms,k,r,F,k',U,Y,B,V,Z⟩:=h;exact⟨l,as,ms,k,r,F,k',U,Y,B,V,q9 Z hm O⟩
   .exact h.elim
  all_goals
   split at h
   .exact⟨h.1,h.2.1,q9 h.2.2 hm O⟩
   .exact⟨h.1,h.2.1,q9 h.2.2 hm O⟩
def SL(ps:List POp)(vs:Nat->A)(st:St)(f:Nat->Bool):Nat->St
 |0=>st
 |n+1=>match ps[n]? with
  |some p=>if f n then(SL ps vs st f n).app p.dst (vs n) []else SL ps vs st f n
  |none=>SL ps vs st f n
def IU(ps:List POp)(vs:Nat->A)(st:St)(f:Nat->Bool):∀n,(SL ps vs st f n).mem=st.mem/\(SL ps vs st f n).nx=st.nx
 |0=>⟨rfl,rfl⟩
 |n+1=>by
  have:=IU ps vs st f n;simp only[SL];split
  .split
   .exact this
   .exact this
  .exact this
def r7(st:St)(d:Option Nat)(v:A)(t:Nat):(st.app d v []).slot t=if d=some t then v else st.slot t:=by
 rw[Qt];cases d with
 |none=>simp[setF]
 |some d=>
  by_cases h:t=d
  .subst h;simp[setF]
  .simp[setF,h,kY h,show¬d=t fromλ e=>h e.symm]
def Ra{ps:List POp}{vs:Nat->A}{st:St}{f:Nat->Bool}{j:Nat}{p:POp}(M:ps[j]? =some p)(L:f j=false)(f':Nat->Bool)(V:f' j=true)(O:∀i,i≠j->f' i=f i)
  (Z:∀i q,j<i->ps[i]? =some q->f i=true->conf p q=false):∀n t,(SL ps vs st f' n).slot t=if j<n/\p.dst=some t then vs j else(SL ps vs st f n).slot t
 |0,t=>by simp[SL]
 |n+1,t=>by
  have B:=Ra (vs:=vs) (st:=st) M L f' V O Z n
  by_cases hn:n=j
  .subst hn;simp only[SL,M,V,L,cH,bZ,cI,r7]
   by_cases H:p.dst=some t
   .simp[H]
   .simp only[H,cI,and_false];have:=B t
    simpa [H]using this
  .have K:j<n+1↔j<n:=om
   simp only[SL,O n hn,K];cases hq:ps[n]? with
   |none=>simpa using B t
   |some q=>
    simp only[];split
    .rename_i F;rw[r7,r7,B t]
     by_cases H:q.dst=some t
     .simp only[H,cH]
      by_cases U:j<n
      .have:=Z n q U hq F;unfold conf at this
       by_cases Y:p.dst=some t
       .simp[Y,H]at this
       .simp[Y]
      .simp[U]
     .simp[H]
    .exact B t
def Rb{ps:List POp}{vs:Nat->A}{st:St}{f:Nat->Bool}{j t:Nat}(U:∀i q,i<j->ps[i]? =some q->q.dst=some t->f i=true)(Y:∀i q,j<=i->ps[i]? =some q->q.dst=some t->f i=false):
  ∀n,(SL ps vs st f n).slot t=(SL ps vs st (λ _=>true) (min n j)).slot t
 |0=>by simp[SL]
 |n+1=>by
  have H:=Rb (vs:=vs) (st:=st) U Y n
  by_cases B:n<j
  .rw[show min (n+1) j=n+1 by omega];rw[show min n j=n by omega]at H;simp only[SL];cases K:ps[n]? with
   |none=>exact H
   |some q=>
    simp only[cH]
    by_cases O:q.dst=some t
    .rw[U n q B K O];simp[r7,O]
    .rw[r7,bX O];split
     .rw[r7,bX O];exact H
     .exact H
  .rw[show min (n+1) j=j by omega];rw[show min n j=j by omega]at H;simp only[SL];cases K:ps[n]? with
   |none=>exact H
   |some q=>
    simp only[]
    by_cases O:q.dst=some t
    .rw[Y n q om K O];simpa using H
    .split
     .rw[r7,bX O];exact H
     .exact H
def Rc{K:St->Prop}:∀(ps:List POp) (st:St),uA C ps st K->∃vs:Nat->A,K (SL ps vs st (λ _=>true) ps.length)/\
  ∀j p,ps[j]? =some p->aop C p (SL ps vs st (λ _=>true) j) (λ s=>s=(SL ps vs st (λ _=>true) j).app p.dst (vs j) [])
 |[],st,h=>⟨λ _=>.any,h,λ j p M=>by simp at M⟩
 |p::ps,st,h=>by
  obtain⟨v,mw,⟨⟨O,U⟩,Y⟩,B⟩:=Zj h;have e:st.app p.dst v mw=st.app p.dst v []:=by simp only[St.app,St.mk.injEq]at O U⊢;exact⟨trivial,O,U⟩
  rw[e]at Y B;obtain⟨vs,L,V⟩:=Rc ps _ Y;have F:∀n,SL (p::ps) (λ i=>match i with|0=>v|i+1=>vs i) st (λ _=>true) (n+1)=SL ps vs (st.app p.dst v []) (λ _=>true) n:=by
   intro n;induction n with
   |zero=>simp[SL]
   |succ n ih=>rw[SL,ih];simp only[List.getElem?_cons_succ];rfl
  refine⟨λ i=>match i with|0=>v|i+1=>vs i,?_,λ j q H=>?_⟩
  .rw[lH,F];exact L
  .cases j with
   |zero=>simp at H;subst H;exact B
   |succ j=>rw[F];exact V j q (by simpa using H)
def FM{D:Nat->Prop}:∀(es acc:List (List Nat)),(∀j e,es[j]? =some e->D (acc.length+j)->∀i∈e,D i)->(∀j,D j->∀i∈acc.getD j [],D i)->
  ∀j,D j->∀i∈(ancs acc es).getD j [],D i
 |[],acc,_,h=>h
 |e::es,acc,L,h=>by
  unfold ancs;refine FM es _ (λ j B U H=>L (j+1) B (by simpa using U) (by rw[cA]at H;simp only[ym,Ym]at H;rwa [show acc.length+(j+1)=acc.length+(0+1)+j by omega])) ?_;intro j H i K
  by_cases U:j<acc.length
  .refine h j H i ?_;rw[cD,dX U]at K;rwa [cD]
  .by_cases Y:j=acc.length
   .subst Y;have O:=L 0 e rfl (by simpa using H);rw[cD,fH (dG _)]at K;simp only[gY,List.getElem?_cons_zero,Xm,cY,fM]at K;rcases K with K|⟨k,F,K⟩
    .exact O i K
    .exact h k (O k F) i K
   .rw[cD,iB (by simp;omega)]at K;simp at K
def IV{ps:List POp}{O:List (List Nat)}(h:C4 ps O=true){i j:Nat}{p q:POp}(H:i<j)(B:ps[i]? =some p)(U:ps[j]? =some q)(F:conf p q=true):i∈O.getD j []:=by
 unfold C4 at h;have M:=dQ.1 h j (eH.2 (cK.1 U).1);have Y:=dQ.1 M i (eH.2 H);simp only[B,U,F,cR,dT]at Y
 simpa using Y
def MI:∀(H:List Oper) (n:Nat),POp.sortOk H n=true->∀j o,H[j]? =some o->∀i∈pP o,i<n+j
 |[],_,_,j,o,h=>by simp at h
 |x::H,n,h,j,o,L=>by
  simp only[POp.sortOk,bY]at h;cases j with
  |zero=>
   simp at L;subst L;intro i K;simp only[pP,cS,gV]at K;obtain⟨e,⟨O,hb⟩,rfl⟩:=K;have:=Array.all_eq_true_iff_forall_mem.1 h.1 e (by simpa using O)
   simpa [hb]using this
  |succ j=>intro i K;have:=MI H (n+1) h.2 j o (by simpa using L) i K;omega
def left(f:Nat->Bool):Nat->Nat
 |0=>0
 |n+1=>left f n+if f n then 0 else 1
def MJ{f f':Nat->Bool}{j:Nat}(O:f j=false)(H:f' j=true)(h:∀i,i≠j->f' i=f i):∀n,left f n=left f' n+if j<n then 1 else 0
 |0=>rfl
 |n+1=>by
  have U:=MJ O H h n;simp only[left]
  by_cases Y:n=j
  .subst Y;simp[O,H];simp at U;omega
  .rw[h n Y,U];have:j<n+1↔j<n:=om
   simp only[this];omega
def MK{f:Nat->Bool}:∀n,left f n=0->∀i,i<n->f i=true
 |n+1,h,i,L=>by
  simp only[left]at h
  by_cases H:i=n
  .subst H;cases K:f i with
   |true=>rfl
   |false=>simp[K]at h
  .exact MK n om i om
def IW{p q:POp}{t:Nat}(h:p.dst=some t)(hq:t∈q.rds\/q.dst=some t):conf p q=true/\(t∈q.rds->conf q p=true):=by
 unfold conf;rw[h];refine⟨?_,λ H=>?_⟩
 .rcases hq with hq|hq<;>simp[hq]
 .simp[H]
end
section
variable {C:Cx} {E:Env}
def Sat.drawn{s:S}{a:Act}{w:World}{n:Nat}(h:Sat E s a w)(O:w.drawn<=n):Sat E s a {w with drawn:=n}:=by obtain⟨W,μ,H⟩:=h;have U:Keeps (λ _=>False) w {w with drawn:=n}:=⟨rfl,rfl,rfl,O,dG _,λ _ _ _=>rfl⟩;exact⟨W,μ,H.step (Step.quiet U H.mem H.inj H.wlt) (d:=none) (v:=undef) (av:=.any) (λ x K=>by cases K) trivial⟩
def ROk.at{H:Array Oper}{N:Nat}:∀{ps:List POp} {n j:Nat} {o:Oper},ROk C N H n ps->H[n+j]? =some o->∃p,ps[j]? =some p/\POk C N H o p
  |[],n,j,o,h,K=>by have h:n=H.size:=h;have:=(cU.1 K).1;omega
  |p::ps,n,0,o,h,K=>by obtain⟨⟨B,O,U⟩,_⟩:=h;rw[lO,O]at K;cases K;exact⟨p,rfl,U⟩
  |p::ps,n,j+1,o,h,K=>by obtain⟨q,Y,U⟩:=ROk.at (j:=j) h.2 (by rw[<-K];congr 1;omega);exact⟨q,by simpa using Y,U⟩
def ML{ps:List POp}{vs:Nat->A}{st:St}{f f':Nat->Bool}:∀n,(∀i,i<n->f i=f' i)->SL ps vs st f n=SL ps vs st f' n
  |0,_=>rfl
  |n+1,h=>by have H:=ML (ps:=ps) (vs:=vs) (st:=st) n λ i K=>h i om;simp only[SL,H,h n om]
def Zl{st H:St}(O:∀t,H.slot t=st.slot t)(hm:H.mem=st.mem)(U:H.nx=st.nx):H.toS=st.toS:=by unfold St.toS;rw[Q9 hm U,show H.slot=st.slot from funext O]
def Zm{O:Array Oper}{ps:List POp}{st:St}{vs:Nat->A}{K:St->Prop}{Q:Exit->Act->World->Prop}(hG:E.G=C.G)(hr:ROk C E.N O 0 ps)(o0:POp.sortOk O.toList 0=true)
    (e0:C4 ps (ancs [] (O.toList.map pP))=true) (hK:K (SL ps vs st (λ _=>true) ps.length))
    (hv:∀j p,ps[j]? =some p->aop C p (SL ps vs st (λ _=>true) j) (λ s=>s=(SL ps vs st (λ _=>true) j).app p.dst (vs j) []))
    (hQ:∀st' a' w',K st'->Sat E st'.toS a' w'->Q .normal a' w'):
    ∀(Y:Nat) (H:Array Bool) (a:Act) (w:World),H.size=O.size->Sat E (SL ps vs st (λ i=>H.getD i false) ps.length).toS a w->
      (∀j o,O[j]? =some o->H.getD j false=true->∀i∈pP o,H.getD i false=true)->left (λ i=>H.getD i false) O.size<=Y->
      wpAny C.P .any O Q Y H a w:=by
  have hlen:ps.length=O.size:=by have:=hr.size;omega
  have h0:∀(H:Array Bool) (a:Act) (w:World),Sat E (SL ps vs st (λ i=>H.getD i false) ps.length).toS a w->(∀i,i<O.size->H.getD i false=true)->Q .normal a w:=by intro H a w hs M;refine hQ _ a w hK ?_;rw[ML (f:=λ _=>true) (f':=λ i=>H.getD i false) ps.length λ i hi=>(M i om).symm];exact hs
  have z0:∀(H:Array Bool),H.size=O.size->Region.ready .any O H=[]->∀i,i<O.size->H.getD i false=true:=by
    intro H u0 r0 i;induction i using Nat.strongRecOn with
    |_ i ih=>
      intro hi;cases V:H.getD i false with
      |true=>rfl
      |false=>
        have:i∈Region.ready .any O H:=by
          rw[mem_ready];refine⟨?_,O[i],by simp[hi],λ e Z hb=>?_⟩
          · have h1:i<H.size:=om
            simp only[Array.getD,h1,kL]at V⊢;exact V
          · have h2:e.on∈pP O[i]:=by
              simp only[pP,cS,gV];exact⟨e,⟨by simpa using Z,hb⟩,rfl⟩
            have h3:=MI O.toList 0 o0 i O[i] (by simp[hi]) e.on h2;exact ih e.on om om
        rw[r0]at this;cases this
  intro Y;induction Y with
  |zero=>
    intro H a w u0 hs s0 b0;have M:=MK (f:=λ i=>H.getD i false) O.size om;refine⟨?_,h0 H a w hs M⟩;cases hrd:Region.ready .any O H with
    |nil=>rfl
    |cons i rs=>
      have:i∈Region.ready .any O H:=by rw[hrd];simp
      rw[mem_ready]at this;obtain⟨h1,o,ho,_⟩:=this;have hi:=(cU.1 ho).1;have:=M i hi;have h2:i<H.size:=om
      simp only[Array.getD,h2,kL]at h1 this;rw[this]at h1;cases h1
  |succ Y ih=>
    intro H a w u0 hs s0 b0;refine⟨λ r0=>h0 H a w hs (z0 H u0 r0),λ i hi=>?_⟩;rw[mem_ready]at hi;obtain⟨V,o,ho,a0⟩:=hi;have hlt:=(cU.1 ho).1;have v0:i<H.size:=om
    have V:H.getD i false=false:=by simp only[Array.getD,v0,kL]at V⊢;exact V
    obtain⟨p,hp,x1⟩:=hr.at (j:=i) (by rw[eC];exact ho);have t0:∀k∈pP o,H.getD k false=true:=by intro k B;simp only[pP,cS,gV]at B;obtain⟨e,⟨Z,hb⟩,rfl⟩:=B;exact a0 e (by simpa using Z) hb
    have x0:(H.setIfInBounds i true).getD i false=true:=by simp[Array.getD,v0]
    have U:∀k,k≠i->(H.setIfInBounds i true).getD k false=H.getD k false:=λ k B=>getD_set_ne false (kY B);have p0:∀j o,O[j]? =some o->(H.setIfInBounds i true).getD j false=true->∀k∈pP o,(H.setIfInBounds i true).getD k false=true:=by
      intro j o' F hj k B
      by_cases f0:j=i
      · subst f0
        rw[ho]at F;cases F;exact getD_set_true (t0 k B)
      · rw[U j f0]at hj
        exact getD_set_true (s0 j o' F hj k B)
    have g0:∀j,(H.setIfInBounds i true).getD j false=true->∀k∈(ancs [] (O.toList.map pP)).getD j [],(H.setIfInBounds i true).getD k false=true:=
      FM (D:=λ j=>(H.setIfInBounds i true).getD j false=true) _ [] (λ j e Z hD=>by
        simp only[cW,cO]at Z;obtain⟨o',F,rfl⟩:=Z;exact p0 j o' (by simpa using F) (by simpa using hD)) (λ j _ k B=>by simp at B)
    have c0:∀j,H.getD j false=true->∀k∈(ancs [] (O.toList.map pP)).getD j [],H.getD k false=true:=
      FM (D:=λ j=>H.getD j false=true) _ [] (λ j e Z hD=>by
        simp only[cW,cO]at Z;obtain⟨o',F,rfl⟩:=Z;exact s0 j o' (by simpa using F) (by simpa using hD)) (λ j _ k B=>by simp at B)
    have l0:∀k q,k<i->ps[k]? =some q->conf q p=true->H.getD k false=true:=by intro k q B hq hc;have:=g0 i x0 k (IV e0 B hq hp hc);rwa [U k om]at this
    have q0:∀k q,i<k->ps[k]? =some q->conf p q=true->H.getD k false=false:=by
      intro k q B hq hc;cases hlk:H.getD k false with
      |false=>rfl
      |true=>have:=c0 k hlk i (IV e0 B hp hq hc);rw[V]at this;cases this
    have L:=IU ps vs st (λ k=>H.getD k false) ps.length;have y0:=IU ps vs st (λ _=>true) i;have m0:i<ps.length:=(cK.1 hp).1;have n0:aop C p (SL ps vs st (λ k=>H.getD k false) ps.length) (λ s=>s=(SL ps vs st (λ k=>H.getD k false) ps.length).app p.dst (vs i) []):=by
      refine Zk (st:=SL ps vs st (λ _=>true) i) (by rw[L.1,y0.1]) (by rw[L.2,y0.2]) (λ t ht=>?_) (hv i p hp);rw[Rb (j:=i) (t:=t) (λ k q B hq hd=>l0 k q B hq (IW hd (.inl ht)).1) (λ k q B hq hd=>?_) ps.length,jT (jA m0)]
      by_cases y1:k=i
      .subst y1;exact V
      .exact q0 k q om hq ((IW hd (.inl ht)).2 ht)
    obtain ⟨W,μ,hs⟩:=hs;have d0:=QP hs hG x1 n0 (Q:=Q) (k:=wpAny C.P .any O Q Y (H.setIfInBounds i true)) (λ st' a' w' z1 hs'=>by
      subst z1;refine ih _ a' w' (by simpa using u0) ?_ p0 ?_
      · have e:(SL ps vs st (λ k=>(H.setIfInBounds i true).getD k false) ps.length).toS=((SL ps vs st (λ k=>H.getD k false) ps.length).app p.dst (vs i) []).toS:=by
          have j0:=IU ps vs st (λ k=>(H.setIfInBounds i true).getD k false) ps.length;refine Zl (λ t=>?_) ?_ ?_
          · rw[Ra (f:=λ k=>H.getD k false) hp V (λ k=>(H.setIfInBounds i true).getD k false) x0 U (λ k q B hq u1=>?_),r7]
            .simp only[m0,gG]
            · cases hc:conf p q with
              |false=>rfl
              |true=>have:=q0 k q B hq hc;exact absurd (this.symm.trans u1) (by simp)
          .rw[j0.1];exact L.1.symm
          .rw[j0.2];exact L.2.symm
        rw[e];exact hs'
      · have:=MJ (f:=λ k=>H.getD k false) (f':=λ k=>(H.setIfInBounds i true).getD k false) (j:=i) V x0 U O.size
        rw[cB hlt]at this;omega)
    simp only[wpOp,ho];split at d0
    .rename_i hw;rw[cB hw];exact .inl d0
    .rename_i hw;rw[bX hw];exact d0
def Zn{Q:Exit->St->Prop}{st:St}{dr:List Nat}{H:List POp}(hm:C.P.follows .mixedOrders=true)(hG:E.G=C.G)(h:uA C H st λ s=>Q .normal (s.drop dr)):AW C E (.regd dr H) Q st:=λ O Y a w L=>by
  cases O with
  |region id U d=>
   cases d with
   |false=>simp[chkC]at Y
   |true=>
    simp only[chkC,bY,QR]at Y;obtain⟨B,F,M⟩:=Y;have V:ROk C E.N U 0 H:=by obtain⟨P,G⟩:=C;exact IT U.toList H 0 B (by simp) (by simp)
    obtain⟨vs,hK,Z⟩:=Rc H st h;refine wp_region_any hm ?_;refine Zm (st:=st) (vs:=vs) hG V F M hK Z (λ st' a' w' hQ K=>⟨_,hQ,K.drop⟩) U.size _ a _ (by simp) ?_ (λ j o ho hj=>?_) ?_
    · have e:SL H vs st (λ i=>(Array.replicate U.size false).getD i false) H.length=SL H vs st (λ _=>false) H.length:=ML _ λ i _=>by simp[Array.getD]
      have e2:∀n,SL H vs st (λ _=>false) n=st:=λ n=>by
        induction n with
        |zero=>rfl
        |succ n ih=>simp only[SL,ih,bZ,cI];split<;>rfl
      rw[e,e2];exact L.drawn (kK _)
    .simp[Array.getD]at hj
    · have:∀n,left (λ i=>(Array.replicate U.size false).getD i false) n<=n:=λ n=>by
        induction n with
        |zero=>exact dG _
        |succ n ih=>simp only[left];split<;>omega
      exact this _
  |_=>simp[chkC]at Y
end
def zL{a b:ByteArray}:a.toList=b.toList↔a=b:=by
 constructor
 .intro h;rw[lG,lG]at h;cases a;cases b;simp only[ByteArray.mk.injEq];exact Array.toList_inj.1 (by simpa using h)
 .intro h;rw[h]
def eI(k:IntKind)(x:Int):List A:=[A.int k x]
def eB(x:Bool):List A:=[A.bool x]
def eS(x:ByteArray):List A:=[A.str x]
def eL{α:Type}(f:α->List A)(l:List α):List A:=[A.sl (l.map f)]
@[go_sem] theorem aJp(a:A):sub [a] 0 1=[a]:=rfl
@[go_sem] theorem aJq(a b:A):upd [a] 0 [b]=[b]:=rfl
@[go_sem] theorem aJr{α β:Type}(f:α->β)(l:List α)(n:Nat):(l.map f).take n=(l.take n).map f:=List.map_take.symm
@[go_sem] theorem aJs{α β:Type}(f:α->β)(l:List α)(n:Nat):(l.map f).drop n=(l.drop n).map f:=List.map_drop.symm
@[go_sem] theorem aJt{α β:Type}(f:α->β)(l m:List α):l.map f++m.map f=(l++m).map f:=fL.symm
attribute [go_sem] eJ
@[go_sem] theorem aJu(c:List A)(H:List (List A)):tX (c::H)↔mK c=true/\tX H:=by
 constructor
 .intro h;refine⟨?_,λ d hd=>h d (.tail _ hd)⟩;have:=h c (.head _)
  clear h
  induction c with
  |nil=>rfl
  |cons a c O=>simp only[mK,bY];exact⟨this a (.head _),O λ b hb=>this b (.tail _ hb)⟩
 .rintro⟨U,Y⟩ d hd;rcases cL.1 hd with rfl|hd
  .exact zJ U
  .exact Y d hd
@[go_sem] theorem aJv:maxLen=9223372036854775807:=rfl
@[go_sem] theorem eI.getD(k:IntKind)(l:List Int)(i:Nat):(l.map (eI k)).getD i [A.int k 0]=[A.int k (l.getD i 0)]:=by simp only[cD,cW];cases l[i]? <;>rfl
@[go_sem] theorem eI.snoc(k:IntKind)(l:List Int)(x:Int):l.map (eI k)++[[A.int k x]]=(l++[x]).map (eI k):=by simp[eI]
@[go_sem] theorem eI.allLen(k:IntKind)(l:List Int):pF 1 (l.map (eI k)):=by intro c H;obtain⟨x,_,rfl⟩:=cS.1 H;rfl
@[go_sem] theorem eI.pureRows(k:IntKind)(l:List Int):tX (l.map (eI k)):=by intro c H;obtain⟨x,_,rfl⟩:=cS.1 H;intro a K;simp[eI]at K;subst K;rfl
@[go_sem] theorem eI.pureEs(k:IntKind)(l:List Int):pureEs (l.map (eI k))=true:=by induction l with
 |nil=>rfl
 |cons a l H=>simpa [Ab.pureEs,mK,A.pure1,eI]using H
@[go_sem] theorem eB.getD(l:List Bool)(i:Nat):(l.map eB).getD i [A.bool false]=[A.bool (l.getD i false)]:=by simp only[cD,cW];cases l[i]? <;>rfl
@[go_sem] theorem eB.set(l:List Bool)(i:Nat)(x:Bool):(l.map eB).set i [A.bool x]=(l.set i x).map eB:=by simp[lA,eB]
@[go_sem] theorem eB.rep(n:Nat)(x:Bool):List.replicate n [A.bool x]=(List.replicate n x).map eB:=by simp[eB]
@[go_sem] theorem eB.pureRows(l:List Bool):tX (l.map eB):=by intro c H;obtain⟨x,_,rfl⟩:=cS.1 H;intro a K;simp[eB]at K;subst K;rfl
@[go_sem] theorem eB.pureEs(l:List Bool):pureEs (l.map eB)=true:=by induction l with
 |nil=>rfl
 |cons a l H=>simpa [Ab.pureEs,mK,A.pure1,eB]using H
@[go_sem] theorem eS.getD(l:List ByteArray)(i:Nat):(l.map eS).getD i [A.str ⟨#[]⟩]=[A.str (l.getD i ⟨#[]⟩)]:=by simp only[cD,cW];cases l[i]? <;>rfl
@[go_sem] theorem eS.snoc(l:List ByteArray)(x:ByteArray):l.map eS++[[A.str x]]=(l++[x]).map eS:=by simp[eS]
@[go_sem] theorem eS.set(l:List ByteArray)(i:Nat)(x:ByteArray):(l.map eS).set i [A.str x]=(l.set i x).map eS:=by simp[lA,eS]
@[go_sem] theorem eS.allLen(l:List ByteArray):pF 1 (l.map eS):=by intro c H;obtain⟨x,_,rfl⟩:=cS.1 H;rfl
@[go_sem] theorem eS.pureRows(l:List ByteArray):tX (l.map eS):=by intro c H;obtain⟨x,_,rfl⟩:=cS.1 H;intro a K;simp[eS]at K;subst K;rfl
@[go_sem] theorem eS.pureEs(l:List ByteArray):pureEs (l.map eS)=true:=by induction l with
 |nil=>rfl
 |cons a l H=>simpa [Ab.pureEs,mK,A.pure1,eS]using H
@[go_sem] theorem eL.getD{α:Type}(f:α->List A)(l:List (List α))(i:Nat):(l.map (eL f)).getD i [A.sl (([]:List α).map f)]=[A.sl ((l.getD i []).map f)]:=by simp only[cD,cW];cases l[i]? <;>rfl
@[go_sem] theorem eL.getD0{α:Type}(f:α->List A)(l:List (List α))(i:Nat):(l.map (eL f)).getD i [A.sl []]=[A.sl ((l.getD i []).map f)]:=eL.getD f l i
@[ext] structure Arr (α:Type) (n:Nat) where
 l:List α
 h:l.length=n
instance{α:Type}[DecidableEq α]{n:Nat}:DecidableEq (Arr α n):=λ a b=>decidable_of_iff (a.l=b.l) (by rw[Arr.ext_iff])
def Arr.get{α:Type}{n:Nat}(a:Arr α n)(i:Nat)(z:α):α:=a.l.getD (oV i n) z
def Arr.put{α:Type}{n:Nat}(a:Arr α n)(i:Nat)(x:α):Arr α n:=⟨a.l.set (oV i n) x,by simp[a.h]⟩
def Arr.rep{α:Type}(n:Nat)(x:α):Arr α n:=⟨List.replicate n x,by simp⟩
def Arr.enc{α:Type}{n:Nat}(f:α->List A)(a:Arr α n):List A:=(a.l.map f).flatten
def Rd{α:Type}(f:α->List A)(sz:Nat)(H:∀x,(f x).length=sz):∀l:List α,(l.map f).flatten.length=l.length*sz
 |[]=>by simp
 |a::l=>by simp only[dO,List.flatten_cons,cA,H,Rd f sz H l,ym];rw[eD];omega
def Re{α:Type}(f:α->List A)(sz:Nat)(H:∀x,(f x).length=sz)(z:α):∀(l:List α) (i:Nat),i<l.length->sub (l.map f).flatten (i*sz) sz=f (l.getD i z)
 |[],i,h=>by simp at h
 |a::l,0,_=>by simp[sub,H a]
 |a::l,i+1,h=>by have:=Re f sz H z l i (by simpa using h);simp only[sub,dO,List.flatten_cons,gX]at this⊢;rw[<-this,jS,gZ (by rw[H,eD];omega),H,lJ];congr 2;rw[eD];omega
def Rf{α:Type}(f:α->List A)(sz:Nat)(H:∀x,(f x).length=sz)(x:α):∀(l:List α) (i:Nat),i<l.length->upd (l.map f).flatten (i*sz) (f x)=((l.set i x).map f).flatten
 |[],i,h=>by simp at h
 |a::l,0,_=>by simp[upd,H]
 |a::l,i+1,h=>by
  have:=Rf f sz H x l i (by simpa using h);simp only[upd,dO,List.flatten_cons,List.set_cons_succ]at this⊢;rw[<-this];have e:(i+1)*sz=(f a).length+i*sz:=by rw[H,eD];omega
  rw[e,List.take_length_add_append,gF,List.drop_length_add_append];simp[cG]
@[go_sem] theorem Arr.enc_len{α:Type}{n:Nat}(f:α->List A)(a:Arr α n)(sz:Nat)(H:∀x,(f x).length=sz):(Arr.enc f a).length=n*sz:=by rw[Arr.enc,Rd f sz H,a.h]
def IX{α:Type}(l:List α)(i:Nat)(z:α)(h:i<l.length):l.getD i z=l[i]:=by rw[cD,cE h];rfl
def Da{i n:Nat}(h:0<n):oV i n<n:=by unfold oV;split<;>omega
def Db{i n:Nat}(h:i<n):oV i n=i:=cB h
def IY{α:Type}{n sz:Nat}(f:α->List A)(H:∀x,(f x).length=sz)(z:α)(a:Arr α (n+1))(i:Nat):sub (Arr.enc f a) (oV i (n+1)*sz) sz=f (a.get i z):=Re f sz H z a.l _ (by rw[a.h];exact Da om)
def Rg{α:Type}{n sz:Nat}(f:α->List A)(H:∀x,(f x).length=sz)(a:Arr α (n+1))(i:Nat)(x:α):upd (Arr.enc f a) (oV i (n+1)*sz) (f x)=Arr.enc f (a.put i x):=Rf f sz H x a.l _ (by rw[a.h];exact Da om)
attribute [go_sem] Db
@[go_sem] theorem aK4(i n:Nat):(oV i (n+1)<=n)=True:=by have:=Da (i:=i) (n:=n+1) om;exact eq_true om
section
variable {n:Nat}
@[go_sem] theorem eI.alen(k:IntKind)(a:Arr Int n):(Arr.enc (eI k) a).length=n:=by rw[Arr.enc_len _ _ 1 (λ _=>rfl),gC]
@[go_sem] theorem eB.alen(a:Arr Bool n):(Arr.enc eB a).length=n:=by rw[Arr.enc_len _ _ 1 (λ _=>rfl),gC]
@[go_sem] theorem eS.alen(a:Arr ByteArray n):(Arr.enc eS a).length=n:=by rw[Arr.enc_len _ _ 1 (λ _=>rfl),gC]
@[go_sem] theorem eI.aat(k:IntKind)(a:Arr Int (n+1))(i:Nat):sub (Arr.enc (eI k) a) (oV i (n+1)) 1=[A.int k (a.get i 0)]:=by have:=IY (eI k) (sz:=1) (λ _=>rfl) 0 a i;rwa [gC]at this
@[go_sem] theorem eI.aput(k:IntKind)(a:Arr Int (n+1))(i:Nat)(x:Int):upd (Arr.enc (eI k) a) (oV i (n+1)) [A.int k x]=Arr.enc (eI k) (a.put i x):=by have:=Rg (eI k) (sz:=1) (λ _=>rfl) a i x;rwa [gC]at this
@[go_sem] theorem eI.aatc(k:IntKind)(a:Arr Int (n+1))(i:Nat)(h:i<n+1):sub (Arr.enc (eI k) a) i 1=[A.int k (a.get i 0)]:=by have:=eI.aat k a i;rwa [Db h]at this
@[go_sem] theorem eI.aputc(k:IntKind)(a:Arr Int (n+1))(i:Nat)(x:Int)(h:i<n+1):upd (Arr.enc (eI k) a) i [A.int k x]=Arr.enc (eI k) (a.put i x):=by have:=eI.aput k a i x;rwa [Db h]at this
@[go_sem] theorem eB.aat(a:Arr Bool (n+1))(i:Nat):sub (Arr.enc eB a) (oV i (n+1)) 1=[A.bool (a.get i false)]:=by have:=IY eB (sz:=1) (λ _=>rfl) false a i;rwa [gC]at this
@[go_sem] theorem eB.aat2{m:Nat}(a:Arr (Arr Bool (m+1)) (n+1))(i j:Nat):sub (Arr.enc (Arr.enc eB) a) (oV i (n+1)*(m+1)+oV j (m+1)) 1=[A.bool ((a.get i (Arr.rep (m+1) false)).get j false)]:=by have H:=IY (sz:=m+1) (Arr.enc eB) (λ x=>eB.alen x) (Arr.rep (m+1) false) a i;have O:=eB.aat (a.get i (Arr.rep (m+1) false)) j;have U:=Da (i:=j) (n:=m+1) om;rw[<-O,<-H];simp only[sub,List.drop_take,lB,fB];congr 1;omega
@[go_sem] theorem aK5(i j n m k:Nat)(h:(n+1)*(m+1)<=k+1):(oV i (n+1)*(m+1)+oV j (m+1)<=k)=True:=by have H:=Da (i:=i) (n:=n+1) om;have U:=Da (i:=j) (n:=m+1) om;have O:(oV i (n+1)+1)*(m+1)<=(n+1)*(m+1):=dU _ H;rw[eD]at O;exact eq_true om
@[go_sem] theorem eB.aput(a:Arr Bool (n+1))(i:Nat)(x:Bool):upd (Arr.enc eB a) (oV i (n+1)) [A.bool x]=Arr.enc eB (a.put i x):=by have:=Rg eB (sz:=1) (λ _=>rfl) a i x;rwa [gC]at this
@[go_sem] theorem eB.aputc(a:Arr Bool (n+1))(i:Nat)(x:Bool)(h:i<n+1):upd (Arr.enc eB a) i [A.bool x]=Arr.enc eB (a.put i x):=by have:=eB.aput a i x;rwa [Db h]at this
@[go_sem] theorem eS.aat(a:Arr ByteArray (n+1))(i:Nat):sub (Arr.enc eS a) (oV i (n+1)) 1=[A.str (a.get i ⟨#[]⟩)]:=by have:=IY eS (sz:=1) (λ _=>rfl) ⟨#[]⟩ a i;rwa [gC]at this
@[go_sem] theorem eB.aall(a b:Arr Bool n):upd (Arr.enc eB a) 0 (Arr.enc eB b)=Arr.enc eB b:=by simp[upd,eB.alen]
@[go_sem] theorem eI.asub(k:IntKind)(a:Arr Int n):sub (Arr.enc (eI k) a) 0 n=Arr.enc (eI k) a:=by rw[sub,fT,eJ (by rw[eI.alen];exact dG _)]
@[go_sem] theorem eB.asub(a:Arr Bool n):sub (Arr.enc eB a) 0 n=Arr.enc eB a:=by rw[sub,fT,eJ (by rw[eB.alen];exact dG _)]
def MM{α:Type}(f:α->List A)(H:∀x,mK (f x)=true):∀l:List α,mK (l.map f).flatten=true
 |[]=>rfl
 |a::l=>by
  have O:=H a;have U:=MM f H l;have:∀x y:List A,mK x=true->mK y=true->mK (x++y)=true:=λ x y K L=>by
   induction x with
   |nil=>exact L
   |cons c x Y=>simp only[mK,bY,Jm]at K⊢;exact⟨K.1,Y K.2⟩
  simpa using this _ _ O U
@[go_sem] theorem eI.apure(k:IntKind)(a:Arr Int n):mK (Arr.enc (eI k) a)=true:=MM _ (λ _=>rfl) _
@[go_sem] theorem eB.apure(a:Arr Bool n):mK (Arr.enc eB a)=true:=MM _ (λ _=>rfl) _
end
class En (T:Type) where
 sz:Nat
 e:T->List A
 z:T
attribute [go_sem] En.sz En.e En.z
@[go_sem] abbrev bx{T:Type}[En T](v:T):Row:=⟨false,En.sz T,En.e (En.z:T),[En.e v]⟩
@[go_sem] abbrev sx{T:Type}[En T](v:List T):Row:=⟨false,En.sz T,En.e (En.z:T),v.map En.e⟩
@[go_sem] abbrev ga{T:Type}[En T](v:T):A:=.agg (En.e v)
@[go_sem] abbrev la{T:Type}[En T](v:List T):A:=.sl (v.map En.e)
section
variable {T:Type} {f:T→List A}
@[go_sem] theorem aK7{n:Nat}(h:∀x,(f x).length=n)(l:List T):pF n (l.map f):=by intro c H;obtain⟨x,_,rfl⟩:=cS.1 H;exact h x
@[go_sem] theorem aK8(h:∀x,mK (f x)=true)(l:List T):tX (l.map f):=by intro c H;obtain⟨x,_,rfl⟩:=cS.1 H;exact zJ (h x)
@[go_sem] theorem aK9(h:∀x,mK (f x)=true)(l:List T):pureEs (l.map f)=true:=by induction l with
 |nil=>rfl
 |cons a l H=>simp[Ab.pureEs,h,H]
@[go_sem] theorem aKa(l:List T)(i:Nat)(z:T):(l.map f).getD i (f z)=f (l.getD i z):=by simp only[cD,cW];cases l[i]? <;>rfl
@[go_sem] theorem aKb(l:List T)(x:T):l.map f++[f x]=(l++[x]).map f:=by simp
@[go_sem] theorem aKc(l:List T)(i:Nat)(x:T):(l.map f).set i (f x)=(l.set i x).map f:=by simp[lA]
end
@[ext] structure aK where
 (site inc num:Int)
 deriving DecidableEq
namespace aK
def zero:aK:=⟨0,0,0⟩
def enc(x:aK):List A:=[A.int .i64 x.site,A.int .i64 x.inc,A.int .i64 x.num]
@[go_sem] theorem len(x:aK):(enc x).length=3:=by simp[enc]
instance:En aK:=⟨3,enc,zero⟩
@[go_sem] theorem laws(x:aK):
 mK (enc x)=true/\
 nB (enc x)=true/\
 mU [.i .i64,.i .i64,.i .i64] (enc x)=true/\
 sub (enc x) 0 3=enc x/\
 (∀y,upd (enc x) 0 (enc y)=enc y)/\
 sub (enc x) 0 1=[A.int .i64 x.site]/\
 sub (enc x) 1 1=[A.int .i64 x.inc]/\
 sub (enc x) 2 1=[A.int .i64 x.num]/\
 (∀v,upd (enc x) 0 ([A.int .i64 v])=enc {x with site:=v})/\
 (∀v,upd (enc x) 1 ([A.int .i64 v])=enc {x with inc:=v})/\
 (∀v,upd (enc x) 2 ([A.int .i64 v])=enc {x with num:=v})/\
 (∀(H O K:A) (U:List A),upd (H::O::K::U) 0 (enc x)=A.int .i64 x.site::A.int .i64 x.inc::A.int .i64 x.num::U)/\
 (∀(H O K:A),upd (enc x) 0 [H,O,K]=[H,O,K]):=by simp[sub,upd,mK,A.pure1,nB,A.scal1,mU,LK.fits,eN,enc]
@[go_sem] theorem eq(x y:aK):eqA (enc x) (enc y)=decide (x=y):=by rw[dR];simp[eqA,eq1,zL,fV,enc,aK.ext_iff]
@[go_sem] theorem rep(n:Nat)(x:aK):List.replicate n (enc x)=(List.replicate n x).map enc:=by simp
end aK
@[ext] structure aC where
 (mode aU:Int)
 deriving DecidableEq
namespace aC
def zero:aC:=⟨0,0⟩
def enc(x:aC):List A:=[A.int .i64 x.mode,A.int .i64 x.aU]
@[go_sem] theorem len(x:aC):(enc x).length=2:=by simp[enc]
instance:En aC:=⟨2,enc,zero⟩
@[go_sem] theorem laws(x:aC):
 mK (enc x)=true/\
 nB (enc x)=true/\
 mU [.i .i64,.i .i64] (enc x)=true/\
 sub (enc x) 0 2=enc x/\
 (∀y,upd (enc x) 0 (enc y)=enc y)/\
 sub (enc x) 0 1=[A.int .i64 x.mode]/\
 sub (enc x) 1 1=[A.int .i64 x.aU]/\
 (∀v,upd (enc x) 0 ([A.int .i64 v])=enc {x with mode:=v})/\
 (∀v,upd (enc x) 1 ([A.int .i64 v])=enc {x with aU:=v})/\
 (∀(H O:A) (U:List A),upd (H::O::U) 0 (enc x)=A.int .i64 x.mode::A.int .i64 x.aU::U)/\
 (∀(H O:A),upd (enc x) 0 [H,O]=[H,O]):=by simp[sub,upd,mK,A.pure1,nB,A.scal1,mU,LK.fits,eN,enc]
@[go_sem] theorem eq(x y:aC):eqA (enc x) (enc y)=decide (x=y):=by rw[dR];simp[eqA,eq1,zL,fV,enc,aC.ext_iff]
end aC
@[ext] structure aO where
 name:ByteArray
 aJ:aC
 deriving DecidableEq
namespace aO
def zero:aO:=⟨⟨#[]⟩,aC.zero⟩
def enc(x:aO):List A:=[A.str x.name]++aC.enc x.aJ
@[go_sem] theorem len(x:aO):(enc x).length=3:=by simp[enc,aC.len]
instance:En aO:=⟨3,enc,zero⟩
@[go_sem] theorem laws(x:aO):
 mK (enc x)=true/\
 nB (enc x)=true/\
 mU [.s,.i .i64,.i .i64] (enc x)=true/\
 sub (enc x) 0 3=enc x/\
 (∀y,upd (enc x) 0 (enc y)=enc y)/\
 sub (enc x) 0 1=[A.str x.name]/\
 sub (enc x) 1 2=aC.enc x.aJ/\
 sub (enc x) 1 1=[A.int .i64 x.aJ.mode]/\
 sub (enc x) 2 1=[A.int .i64 x.aJ.aU]/\
 (∀v,upd (enc x) 0 ([A.str v])=enc {x with name:=v})/\
 (∀v,upd (enc x) 1 (aC.enc v)=enc {x with aJ:=v})/\
 (∀v,upd (enc x) 1 ([A.int .i64 v])=enc {x with aJ:={x.aJ with mode:=v}})/\
 (∀v,upd (enc x) 2 ([A.int .i64 v])=enc {x with aJ:={x.aJ with aU:=v}})/\
 (∀(H O K:A) (U:List A),upd (H::O::K::U) 0 (enc x)=A.str x.name::A.int .i64 x.aJ.mode::A.int .i64 x.aJ.aU::U)/\
 (∀(H O K:A),upd (enc x) 0 [H,O,K]=[H,O,K]):=by simp[sub,upd,mK,A.pure1,nB,A.scal1,mU,LK.fits,eN,enc,aC.enc]
@[go_sem] theorem eq(x y:aO):eqA (enc x) (enc y)=decide (x=y):=by rw[dR];simp[eqA,eq1,zL,fV,enc,aC.enc,aO.ext_iff,aC.ext_iff]
end aO
@[ext] structure aI where
 name:ByteArray
 (kind aU home:Int)
 deriving DecidableEq
namespace aI
def zero:aI:=⟨⟨#[]⟩,0,0,0⟩
def enc(x:aI):List A:=[A.str x.name,A.int .i64 x.kind,A.int .i64 x.aU,A.int .i64 x.home]
@[go_sem] theorem len(x:aI):(enc x).length=4:=by simp[enc]
instance:En aI:=⟨4,enc,zero⟩
@[go_sem] theorem laws(x:aI):
 mK (enc x)=true/\
 nB (enc x)=true/\
 mU [.s,.i .i64,.i .i64,.i .i64] (enc x)=true/\
 sub (enc x) 0 4=enc x/\
 (∀y,upd (enc x) 0 (enc y)=enc y)/\
 sub (enc x) 0 1=[A.str x.name]/\
 sub (enc x) 1 1=[A.int .i64 x.kind]/\
 sub (enc x) 2 1=[A.int .i64 x.aU]/\
 sub (enc x) 3 1=[A.int .i64 x.home]/\
 (∀v,upd (enc x) 0 ([A.str v])=enc {x with name:=v})/\
 (∀v,upd (enc x) 1 ([A.int .i64 v])=enc {x with kind:=v})/\
 (∀v,upd (enc x) 2 ([A.int .i64 v])=enc {x with aU:=v})/\
 (∀v,upd (enc x) 3 ([A.int .i64 v])=enc {x with home:=v})/\
 (∀(H O K U:A) (Y:List A),upd (H::O::K::U::Y) 0 (enc x)=A.str x.name::A.int .i64 x.kind::A.int .i64 x.aU::A.int .i64 x.home::Y)/\
 (∀(H O K U:A),upd (enc x) 0 [H,O,K,U]=[H,O,K,U]):=by simp[sub,upd,mK,A.pure1,nB,A.scal1,mU,LK.fits,eN,enc]
@[go_sem] theorem eq(x y:aI):eqA (enc x) (enc y)=decide (x=y):=by rw[dR];simp[eqA,eq1,zL,fV,enc,aI.ext_iff]
end aI
@[ext] structure aX where
 aM:aK
 aJ:aC
 deriving DecidableEq
namespace aX
def zero:aX:=⟨aK.zero,aC.zero⟩
def enc(x:aX):List A:=aK.enc x.aM++aC.enc x.aJ
@[go_sem] theorem len(x:aX):(enc x).length=5:=by simp[enc,aC.len,aK.len]
instance:En aX:=⟨5,enc,zero⟩
@[go_sem] theorem laws(x:aX):
 mK (enc x)=true/\
 nB (enc x)=true/\
 mU [.i .i64,.i .i64,.i .i64,.i .i64,.i .i64] (enc x)=true/\
 sub (enc x) 0 5=enc x/\
 (∀y,upd (enc x) 0 (enc y)=enc y)/\
 sub (enc x) 0 3=aK.enc x.aM/\
 sub (enc x) 3 2=aC.enc x.aJ/\
 sub (enc x) 3 1=[A.int .i64 x.aJ.mode]/\
 sub (enc x) 4 1=[A.int .i64 x.aJ.aU]/\
 (∀v,upd (enc x) 0 (aK.enc v)=enc {x with aM:=v})/\
 (∀v,upd (enc x) 3 (aC.enc v)=enc {x with aJ:=v})/\
 (∀(H O K U Y:A) (B:List A),upd (H::O::K::U::Y::B) 0 (enc x)=A.int .i64 x.aM.site::A.int .i64 x.aM.inc::A.int .i64 x.aM.num::A.int .i64 x.aJ.mode::A.int .i64 x.aJ.aU::B)/\
 (∀(H O K U Y:A),upd (enc x) 0 [H,O,K,U,Y]=[H,O,K,U,Y]):=by simp[sub,upd,mK,A.pure1,nB,A.scal1,mU,LK.fits,eN,enc,aC.enc,aK.enc]
@[go_sem] theorem eq(x y:aX):eqA (enc x) (enc y)=decide (x=y):=by rw[dR];simp[eqA,eq1,zL,fV,enc,aC.enc,aK.enc,aX.ext_iff,aC.ext_iff,aK.ext_iff]
@[go_sem] theorem rep(n:Nat)(x:aX):List.replicate n (enc x)=(List.replicate n x).map enc:=by simp
end aX
@[ext] structure aV where
 aM:aK
 aJ:aC
 (bC bS:Int)
 deriving DecidableEq
namespace aV
def zero:aV:=⟨aK.zero,aC.zero,0,0⟩
def enc(x:aV):List A:=aK.enc x.aM++aC.enc x.aJ++[A.int .i64 x.bC,A.int .i64 x.bS]
@[go_sem] theorem len(x:aV):(enc x).length=7:=by simp[enc,aC.len,aK.len]
instance:En aV:=⟨7,enc,zero⟩
@[go_sem] theorem laws(x:aV):
 mK (enc x)=true/\
 nB (enc x)=true/\
 mU [.i .i64,.i .i64,.i .i64,.i .i64,.i .i64,.i .i64,.i .i64] (enc x)=true/\
 sub (enc x) 0 7=enc x/\
 (∀y,upd (enc x) 0 (enc y)=enc y)/\
 sub (enc x) 0 3=aK.enc x.aM/\
 sub (enc x) 3 2=aC.enc x.aJ/\
 sub (enc x) 3 1=[A.int .i64 x.aJ.mode]/\
 sub (enc x) 4 1=[A.int .i64 x.aJ.aU]/\
 sub (enc x) 5 1=[A.int .i64 x.bC]/\
 sub (enc x) 6 1=[A.int .i64 x.bS]/\
 (∀v,upd (enc x) 0 (aK.enc v)=enc {x with aM:=v})/\
 (∀v,upd (enc x) 3 (aC.enc v)=enc {x with aJ:=v})/\
 (∀v,upd (enc x) 5 ([A.int .i64 v])=enc {x with bC:=v})/\
 (∀v,upd (enc x) 6 ([A.int .i64 v])=enc {x with bS:=v})/\
 (∀(H O K U Y B F:A) (M:List A),upd (H::O::K::U::Y::B::F::M) 0 (enc x)=A.int .i64 x.aM.site::A.int .i64 x.aM.inc::A.int .i64 x.aM.num::A.int .i64 x.aJ.mode::A.int .i64 x.aJ.aU::A.int .i64 x.bC::A.int .i64 x.bS::M)/\
 (∀(H O K U Y B F:A),upd (enc x) 0 [H,O,K,U,Y,B,F]=[H,O,K,U,Y,B,F]):=by simp[sub,upd,mK,A.pure1,nB,A.scal1,mU,LK.fits,eN,enc,aC.enc,aK.enc]
@[go_sem] theorem eq(x y:aV):eqA (enc x) (enc y)=decide (x=y):=by rw[dR];simp[eqA,eq1,zL,fV,enc,aC.enc,aK.enc,aV.ext_iff,aC.ext_iff,aK.ext_iff]
end aV
@[ext] structure aA where
 aB:aI
 aT:(List aX)
 (aN aW:(List aV))
 gen:Int
namespace aA
def zero:aA:=⟨aI.zero,[],[],[],0⟩
def enc(x:aA):List A:=aI.enc x.aB++[A.sl (x.aT.map aX.enc),A.sl (x.aN.map aV.enc),A.sl (x.aW.map aV.enc),A.int .i64 x.gen]
@[go_sem] theorem len(x:aA):(enc x).length=8:=by simp[enc,aI.len]
instance:En aA:=⟨8,enc,zero⟩
@[go_sem] theorem laws(x:aA):
 mK (enc x)=true/\
 nB (enc x)=false/\
 sub (enc x) 0 8=enc x/\
 (∀y,upd (enc x) 0 (enc y)=enc y)/\
 sub (enc x) 0 4=aI.enc x.aB/\
 sub (enc x) 0 1=[A.str x.aB.name]/\
 sub (enc x) 1 1=[A.int .i64 x.aB.kind]/\
 sub (enc x) 2 1=[A.int .i64 x.aB.aU]/\
 sub (enc x) 3 1=[A.int .i64 x.aB.home]/\
 sub (enc x) 4 1=[A.sl (x.aT.map aX.enc)]/\
 sub (enc x) 5 1=[A.sl (x.aN.map aV.enc)]/\
 sub (enc x) 6 1=[A.sl (x.aW.map aV.enc)]/\
 sub (enc x) 7 1=[A.int .i64 x.gen]/\
 (∀v,upd (enc x) 0 (aI.enc v)=enc {x with aB:=v})/\
 (∀v,upd (enc x) 0 ([A.str v])=enc {x with aB:={x.aB with name:=v}})/\
 (∀v,upd (enc x) 1 ([A.int .i64 v])=enc {x with aB:={x.aB with kind:=v}})/\
 (∀v,upd (enc x) 2 ([A.int .i64 v])=enc {x with aB:={x.aB with aU:=v}})/\
 (∀v,upd (enc x) 3 ([A.int .i64 v])=enc {x with aB:={x.aB with home:=v}})/\
 (∀v,upd (enc x) 4 ([A.sl (v.map aX.enc)])=enc {x with aT:=v})/\
 (∀v,upd (enc x) 5 ([A.sl (v.map aV.enc)])=enc {x with aN:=v})/\
 (∀v,upd (enc x) 6 ([A.sl (v.map aV.enc)])=enc {x with aW:=v})/\
 (∀v,upd (enc x) 7 ([A.int .i64 v])=enc {x with gen:=v})/\
 (∀(H O K U Y B F M:A) (cs:List A),upd (H::O::K::U::Y::B::F::M::cs) 0 (enc x)=A.str x.aB.name::A.int .i64 x.aB.kind::A.int .i64 x.aB.aU::A.int .i64 x.aB.home::A.sl (x.aT.map aX.enc)::A.sl (x.aN.map aV.enc)::A.sl (x.aW.map aV.enc)::A.int .i64 x.gen::cs)/\
 (∀(H O K U Y B F M:A),upd (enc x) 0 [H,O,K,U,Y,B,F,M]=[H,O,K,U,Y,B,F,M])/\
 (∀y lo k,upd (enc x) 4 [.own y lo k]=[A.str x.aB.name,A.int .i64 x.aB.kind,A.int .i64 x.aB.aU,A.int .i64 x.aB.home,.own y lo k,A.sl (x.aN.map aV.enc),A.sl (x.aW.map aV.enc),A.int .i64 x.gen])/\
 (∀y lo k,upd (enc x) 5 [.own y lo k]=[A.str x.aB.name,A.int .i64 x.aB.kind,A.int .i64 x.aB.aU,A.int .i64 x.aB.home,A.sl (x.aT.map aX.enc),.own y lo k,A.sl (x.aW.map aV.enc),A.int .i64 x.gen])/\
 (∀y lo k,upd (enc x) 6 [.own y lo k]=[A.str x.aB.name,A.int .i64 x.aB.kind,A.int .i64 x.aB.aU,A.int .i64 x.aB.home,A.sl (x.aT.map aX.enc),A.sl (x.aN.map aV.enc),.own y lo k,A.int .i64 x.gen]):=by simp[sub,upd,mK,A.pure1,nB,A.scal1,mU,LK.fits,eN,enc,aI.enc]
end aA
@[ext] structure aS where
 k:Int
 aZ:aO
 bG:(List aS)
namespace aS
def zero:aS:=⟨0,aO.zero,[]⟩
def enc(x:aS):List A:=[A.int .i64 x.k]++aO.enc x.aZ++[A.sl (x.bG.map aS.enc)]
termination_by _root_.SizeOf.sizeOf x
decreasing_by
 rename_i h;have H:=jQ h;cases x;simp at H⊢;omega
@[simp] theorem aKd(k:Int)(aZ:aO)(bG:(List aS)):enc ⟨k,aZ,bG⟩=[A.int .i64 k,A.str aZ.name,A.int .i64 aZ.aJ.mode,A.int .i64 aZ.aJ.aU,A.sl (bG.map aS.enc)]:=by simp[enc,aC.enc,aO.enc]
@[simp] theorem aKe:zero.k=0/\zero.aZ.name=⟨#[]⟩/\zero.aZ.aJ.mode=0/\zero.aZ.aJ.aU=0/\zero.bG=[]:=by and_intros<;>rfl
def enc_cells(x:aS):[A.int .i64 x.k,A.str x.aZ.name,A.int .i64 x.aZ.aJ.mode,A.int .i64 x.aZ.aJ.aU,A.sl (x.bG.map aS.enc)]=enc x:=by simp[enc,aC.enc,aO.enc]
@[go_sem] theorem len(x:aS):(enc x).length=5:=by simp[enc,aO.len]
instance:En aS:=⟨5,enc,zero⟩
@[go_sem] theorem laws(x:aS):
 mK (enc x)=true/\
 nB (enc x)=false/\
 sub (enc x) 0 5=enc x/\
 (∀y,upd (enc x) 0 (enc y)=enc y)/\
 sub (enc x) 0 1=[A.int .i64 x.k]/\
 sub (enc x) 1 3=aO.enc x.aZ/\
 sub (enc x) 1 1=[A.str x.aZ.name]/\
 sub (enc x) 2 2=aC.enc x.aZ.aJ/\
 sub (enc x) 2 1=[A.int .i64 x.aZ.aJ.mode]/\
 sub (enc x) 3 1=[A.int .i64 x.aZ.aJ.aU]/\
 sub (enc x) 4 1=[A.sl (x.bG.map aS.enc)]/\
 (∀v,upd (enc x) 0 ([A.int .i64 v])=enc {x with k:=v})/\
 (∀v,upd (enc x) 1 (aO.enc v)=enc {x with aZ:=v})/\
 (∀v,upd (enc x) 1 ([A.str v])=enc {x with aZ:={x.aZ with name:=v}})/\
 (∀v,upd (enc x) 2 (aC.enc v)=enc {x with aZ:={x.aZ with aJ:=v}})/\
 (∀v,upd (enc x) 4 ([A.sl (v.map aS.enc)])=enc {x with bG:=v})/\
 (∀(H O K U Y:A) (B:List A),upd (H::O::K::U::Y::B) 0 (enc x)=A.int .i64 x.k::A.str x.aZ.name::A.int .i64 x.aZ.aJ.mode::A.int .i64 x.aZ.aJ.aU::A.sl (x.bG.map aS.enc)::B)/\
 (∀(H O K U Y:A),upd (enc x) 0 [H,O,K,U,Y]=[H,O,K,U,Y])/\
 (∀y lo k,upd (enc x) 4 [.own y lo k]=[A.int .i64 x.k,A.str x.aZ.name,A.int .i64 x.aZ.aJ.mode,A.int .i64 x.aZ.aJ.aU,.own y lo k]):=by simp[sub,upd,mK,A.pure1,nB,A.scal1,mU,LK.fits,eN,enc,aC.enc,aO.enc]
end aS
@[ext] structure bQ where
 aM:aK
 bU:aS
 gen:Int
namespace bQ
def zero:bQ:=⟨aK.zero,aS.zero,0⟩
def enc(x:bQ):List A:=aK.enc x.aM++aS.enc x.bU++[A.int .i64 x.gen]
@[go_sem] theorem len(x:bQ):(enc x).length=9:=by simp[enc,aS.len,aK.len]
instance:En bQ:=⟨9,enc,zero⟩
@[go_sem] theorem laws(x:bQ):
 mK (enc x)=true/\
 nB (enc x)=false/\
 sub (enc x) 0 9=enc x/\
 (∀y,upd (enc x) 0 (enc y)=enc y)/\
 sub (enc x) 0 3=aK.enc x.aM/\
 sub (enc x) 3 5=aS.enc x.bU/\
 sub (enc x) 8 1=[A.int .i64 x.gen]/\
 (∀v,upd (enc x) 0 (aK.enc v)=enc {x with aM:=v})/\
 (∀v,upd (enc x) 3 (aS.enc v)=enc {x with bU:=v})/\
 (∀v,upd (enc x) 8 ([A.int .i64 v])=enc {x with gen:=v})/\
 (∀(H O K U Y B F M L:A),upd (enc x) 0 [H,O,K,U,Y,B,F,M,L]=[H,O,K,U,Y,B,F,M,L]):=by simp[sub,upd,mK,A.pure1,nB,A.scal1,mU,LK.fits,eN,enc,aC.enc,aO.enc,aS.enc,aK.enc]
end bQ
@[ext] structure aH where
 aF:(List aA)
 aY:(List bQ)
namespace aH
def zero:aH:=⟨[],[]⟩
def enc(x:aH):List A:=[A.sl (x.aF.map aA.enc),A.sl (x.aY.map bQ.enc)]
@[go_sem] theorem len(x:aH):(enc x).length=2:=by simp[enc]
instance:En aH:=⟨2,enc,zero⟩
@[go_sem] theorem laws(x:aH):
 mK (enc x)=true/\
 nB (enc x)=false/\
 sub (enc x) 0 2=enc x/\
 (∀y,upd (enc x) 0 (enc y)=enc y)/\
 sub (enc x) 0 1=[A.sl (x.aF.map aA.enc)]/\
 sub (enc x) 1 1=[A.sl (x.aY.map bQ.enc)]/\
 (∀v,upd (enc x) 0 ([A.sl (v.map aA.enc)])=enc {x with aF:=v})/\
 (∀v,upd (enc x) 1 ([A.sl (v.map bQ.enc)])=enc {x with aY:=v})/\
 (∀(H O:A) (U:List A),upd (H::O::U) 0 (enc x)=A.sl (x.aF.map aA.enc)::A.sl (x.aY.map bQ.enc)::U)/\
 (∀(H O:A),upd (enc x) 0 [H,O]=[H,O])/\
 (∀y lo k,upd (enc x) 0 [.own y lo k]=[.own y lo k,A.sl (x.aY.map bQ.enc)])/\
 (∀y lo k,upd (enc x) 1 [.own y lo k]=[A.sl (x.aF.map aA.enc),.own y lo k]):=by simp[sub,upd,mK,A.pure1,nB,A.scal1,mU,LK.fits,eN,enc]
end aH
@[ext] structure aP where
 aM:aK
 (label cost:Int)
 lower:(List aO)
namespace aP
def zero:aP:=⟨aK.zero,0,0,[]⟩
def enc(x:aP):List A:=aK.enc x.aM++[A.int .i64 x.label,A.int .i64 x.cost,A.sl (x.lower.map aO.enc)]
@[go_sem] theorem len(x:aP):(enc x).length=6:=by simp[enc,aK.len]
instance:En aP:=⟨6,enc,zero⟩
@[go_sem] theorem laws(x:aP):
 mK (enc x)=true/\
 nB (enc x)=false/\
 sub (enc x) 0 6=enc x/\
 (∀y,upd (enc x) 0 (enc y)=enc y)/\
 sub (enc x) 0 3=aK.enc x.aM/\
 sub (enc x) 3 1=[A.int .i64 x.label]/\
 sub (enc x) 4 1=[A.int .i64 x.cost]/\
 sub (enc x) 5 1=[A.sl (x.lower.map aO.enc)]/\
 (∀v,upd (enc x) 0 (aK.enc v)=enc {x with aM:=v})/\
 (∀v,upd (enc x) 3 ([A.int .i64 v])=enc {x with label:=v})/\
 (∀v,upd (enc x) 4 ([A.int .i64 v])=enc {x with cost:=v})/\
 (∀v,upd (enc x) 5 ([A.sl (v.map aO.enc)])=enc {x with lower:=v})/\
 (∀(H O K U Y B:A) (F:List A),upd (H::O::K::U::Y::B::F) 0 (enc x)=A.int .i64 x.aM.site::A.int .i64 x.aM.inc::A.int .i64 x.aM.num::A.int .i64 x.label::A.int .i64 x.cost::A.sl (x.lower.map aO.enc)::F)/\
 (∀(H O K U Y B:A),upd (enc x) 0 [H,O,K,U,Y,B]=[H,O,K,U,Y,B])/\
 (∀y lo k,upd (enc x) 5 [.own y lo k]=[A.int .i64 x.aM.site,A.int .i64 x.aM.inc,A.int .i64 x.aM.num,A.int .i64 x.label,A.int .i64 x.cost,.own y lo k]):=by simp[sub,upd,mK,A.pure1,nB,A.scal1,mU,LK.fits,eN,enc,aK.enc]
end aP
@[ext] structure aL where
 kind:Int
 aM:aK
 gen:Int
 aZ:aO
 (bC inc round epoch site label:Int)
 done:Bool
 state:aH
 options:(List aP)
namespace aL
def zero:aL:=⟨0,aK.zero,0,aO.zero,0,0,0,0,0,0,false,aH.zero,[]⟩
def enc(x:aL):List A:=[A.int .i64 x.kind]++aK.enc x.aM++[A.int .i64 x.gen]++aO.enc x.aZ++[A.int .i64 x.bC,A.int .i64 x.inc,A.int .i64 x.round,A.int .i64 x.epoch,A.int .i64 x.site,A.int .i64 x.label,A.bool x.done]++aH.enc x.state++[A.sl (x.options.map aP.enc)]
@[go_sem] theorem len(x:aL):(enc x).length=18:=by simp[enc,aO.len,aK.len,aH.len]
instance:En aL:=⟨18,enc,zero⟩
@[go_sem] theorem laws(x:aL):
 mK (enc x)=true/\
 nB (enc x)=false/\
 sub (enc x) 0 18=enc x/\
 (∀y,upd (enc x) 0 (enc y)=enc y)/\
 sub (enc x) 0 1=[A.int .i64 x.kind]/\
 sub (enc x) 1 3=aK.enc x.aM/\
 sub (enc x) 4 1=[A.int .i64 x.gen]/\
 sub (enc x) 5 3=aO.enc x.aZ/\
 sub (enc x) 5 1=[A.str x.aZ.name]/\
 sub (enc x) 6 2=aC.enc x.aZ.aJ/\
 sub (enc x) 6 1=[A.int .i64 x.aZ.aJ.mode]/\
 sub (enc x) 7 1=[A.int .i64 x.aZ.aJ.aU]/\
 sub (enc x) 8 1=[A.int .i64 x.bC]/\
 sub (enc x) 9 1=[A.int .i64 x.inc]/\
 sub (enc x) 10 1=[A.int .i64 x.round]/\
 sub (enc x) 11 1=[A.int .i64 x.epoch]/\
 sub (enc x) 12 1=[A.int .i64 x.site]/\
 sub (enc x) 13 1=[A.int .i64 x.label]/\
 sub (enc x) 14 1=[A.bool x.done]/\
 sub (enc x) 15 2=aH.enc x.state/\
 sub (enc x) 15 1=[A.sl (x.state.aF.map aA.enc)]/\
 sub (enc x) 16 1=[A.sl (x.state.aY.map bQ.enc)]/\
 sub (enc x) 17 1=[A.sl (x.options.map aP.enc)]/\
 (∀v,upd (enc x) 0 ([A.int .i64 v])=enc {x with kind:=v})/\
 (∀v,upd (enc x) 1 (aK.enc v)=enc {x with aM:=v})/\
 (∀v,upd (enc x) 4 ([A.int .i64 v])=enc {x with gen:=v})/\
 (∀v,upd (enc x) 5 (aO.enc v)=enc {x with aZ:=v})/\
 (∀v,upd (enc x) 6 (aC.enc v)=enc {x with aZ:={x.aZ with aJ:=v}})/\
 (∀v,upd (enc x) 8 ([A.int .i64 v])=enc {x with bC:=v})/\
 (∀v,upd (enc x) 9 ([A.int .i64 v])=enc {x with inc:=v})/\
 (∀v,upd (enc x) 10 ([A.int .i64 v])=enc {x with round:=v})/\
 (∀v,upd (enc x) 11 ([A.int .i64 v])=enc {x with epoch:=v})/\
 (∀v,upd (enc x) 12 ([A.int .i64 v])=enc {x with site:=v})/\
 (∀v,upd (enc x) 13 ([A.int .i64 v])=enc {x with label:=v})/\
 (∀v,upd (enc x) 14 ([A.bool v])=enc {x with done:=v})/\
 (∀v,upd (enc x) 15 (aH.enc v)=enc {x with state:=v})/\
 (∀v,upd (enc x) 17 ([A.sl (v.map aP.enc)])=enc {x with options:=v})/\
 (∀(K L V Z c4 c5 c6 c7 c8 c9 H O U Y B F M h0:A),upd (enc x) 0 [K,L,V,Z,c4,c5,c6,c7,c8,c9,H,O,U,Y,B,F,M,h0]=[K,L,V,Z,c4,c5,c6,c7,c8,c9,H,O,U,Y,B,F,M,h0])/\
 (∀y lo k,upd (enc x) 17 [.own y lo k]=[A.int .i64 x.kind,A.int .i64 x.aM.site,A.int .i64 x.aM.inc,A.int .i64 x.aM.num,A.int .i64 x.gen,A.str x.aZ.name,A.int .i64 x.aZ.aJ.mode,A.int .i64 x.aZ.aJ.aU,A.int .i64 x.bC,A.int .i64 x.inc,A.int .i64 x.round,A.int .i64 x.epoch,A.int .i64 x.site,A.int .i64 x.label,A.bool x.done,A.sl (x.state.aF.map aA.enc),A.sl (x.state.aY.map bQ.enc),.own y lo k]):=by simp[sub,upd,mK,A.pure1,nB,A.scal1,mU,LK.fits,eN,enc,aC.enc,aO.enc,aK.enc,aH.enc]
end aL
@[ext] structure bK where
 l:(List Int)
 at_:Int
namespace bK
def zero:bK:=⟨[],0⟩
def enc(x:bK):List A:=[A.sl (x.l.map (eI .i64)),A.int .i64 x.at_]
@[go_sem] theorem len(x:bK):(enc x).length=2:=by simp[enc]
instance:En bK:=⟨2,enc,zero⟩
@[go_sem] theorem laws(x:bK):
 mK (enc x)=true/\
 nB (enc x)=false/\
 sub (enc x) 0 2=enc x/\
 (∀y,upd (enc x) 0 (enc y)=enc y)/\
 sub (enc x) 0 1=[A.sl (x.l.map (eI .i64))]/\
 sub (enc x) 1 1=[A.int .i64 x.at_]/\
 (∀v,upd (enc x) 0 ([A.sl (v.map (eI .i64))])=enc {x with l:=v})/\
 (∀v,upd (enc x) 1 ([A.int .i64 v])=enc {x with at_:=v})/\
 (∀(H O:A) (U:List A),upd (H::O::U) 0 (enc x)=A.sl (x.l.map (eI .i64))::A.int .i64 x.at_::U)/\
 (∀(H O:A),upd (enc x) 0 [H,O]=[H,O])/\
 (∀y lo k,upd (enc x) 0 [.own y lo k]=[.own y lo k,A.int .i64 x.at_]):=by simp[sub,upd,mK,A.pure1,nB,A.scal1,mU,LK.fits,eN,enc]
end bK
@[ext] structure bN where
 name:ByteArray
 (before after:aC)
 deriving DecidableEq
namespace bN
def zero:bN:=⟨⟨#[]⟩,aC.zero,aC.zero⟩
def enc(x:bN):List A:=[A.str x.name]++aC.enc x.before++aC.enc x.after
@[go_sem] theorem len(x:bN):(enc x).length=5:=by simp[enc,aC.len]
instance:En bN:=⟨5,enc,zero⟩
@[go_sem] theorem laws(x:bN):
 mK (enc x)=true/\
 nB (enc x)=true/\
 mU [.s,.i .i64,.i .i64,.i .i64,.i .i64] (enc x)=true/\
 sub (enc x) 0 5=enc x/\
 (∀y,upd (enc x) 0 (enc y)=enc y)/\
 sub (enc x) 0 1=[A.str x.name]/\
 sub (enc x) 1 2=aC.enc x.before/\
 sub (enc x) 3 2=aC.enc x.after/\
 (∀v,upd (enc x) 0 ([A.str v])=enc {x with name:=v})/\
 (∀v,upd (enc x) 1 (aC.enc v)=enc {x with before:=v})/\
 (∀v,upd (enc x) 3 (aC.enc v)=enc {x with after:=v})/\
 (∀(H O K U Y:A) (B:List A),upd (H::O::K::U::Y::B) 0 (enc x)=A.str x.name::A.int .i64 x.before.mode::A.int .i64 x.before.aU::A.int .i64 x.after.mode::A.int .i64 x.after.aU::B)/\
 (∀(H O K U Y:A),upd (enc x) 0 [H,O,K,U,Y]=[H,O,K,U,Y]):=by simp[sub,upd,mK,A.pure1,nB,A.scal1,mU,LK.fits,eN,enc,aC.enc]
end bN
@[ext] structure bW where
 (label at_:Int)
 deriving DecidableEq
namespace bW
def zero:bW:=⟨0,0⟩
def enc(x:bW):List A:=[A.int .i64 x.label,A.int .i64 x.at_]
@[go_sem] theorem len(x:bW):(enc x).length=2:=by simp[enc]
instance:En bW:=⟨2,enc,zero⟩
@[go_sem] theorem laws(x:bW):
 mK (enc x)=true/\
 nB (enc x)=true/\
 mU [.i .i64,.i .i64] (enc x)=true/\
 sub (enc x) 0 2=enc x/\
 (∀y,upd (enc x) 0 (enc y)=enc y)/\
 sub (enc x) 0 1=[A.int .i64 x.label]/\
 sub (enc x) 1 1=[A.int .i64 x.at_]/\
 (∀v,upd (enc x) 0 ([A.int .i64 v])=enc {x with label:=v})/\
 (∀v,upd (enc x) 1 ([A.int .i64 v])=enc {x with at_:=v})/\
 (∀(H O:A) (U:List A),upd (H::O::U) 0 (enc x)=A.int .i64 x.label::A.int .i64 x.at_::U)/\
 (∀(H O:A),upd (enc x) 0 [H,O]=[H,O]):=by simp[sub,upd,mK,A.pure1,nB,A.scal1,mU,LK.fits,eN,enc]
end bW
@[ext] structure bA where
 aQ:(List bN)
 bH:(List bW)
namespace bA
def zero:bA:=⟨[],[]⟩
def enc(x:bA):List A:=[A.sl (x.aQ.map bN.enc),A.sl (x.bH.map bW.enc)]
@[go_sem] theorem len(x:bA):(enc x).length=2:=by simp[enc]
instance:En bA:=⟨2,enc,zero⟩
@[go_sem] theorem laws(x:bA):
 mK (enc x)=true/\
 nB (enc x)=false/\
 sub (enc x) 0 2=enc x/\
 (∀y,upd (enc x) 0 (enc y)=enc y)/\
 sub (enc x) 0 1=[A.sl (x.aQ.map bN.enc)]/\
 sub (enc x) 1 1=[A.sl (x.bH.map bW.enc)]/\
 (∀v,upd (enc x) 0 ([A.sl (v.map bN.enc)])=enc {x with aQ:=v})/\
 (∀v,upd (enc x) 1 ([A.sl (v.map bW.enc)])=enc {x with bH:=v})/\
 (∀(H O:A) (U:List A),upd (H::O::U) 0 (enc x)=A.sl (x.aQ.map bN.enc)::A.sl (x.bH.map bW.enc)::U)/\
 (∀(H O:A),upd (enc x) 0 [H,O]=[H,O])/\
 (∀y lo k,upd (enc x) 0 [.own y lo k]=[.own y lo k,A.sl (x.bH.map bW.enc)])/\
 (∀y lo k,upd (enc x) 1 [.own y lo k]=[A.sl (x.aQ.map bN.enc),.own y lo k]):=by simp[sub,upd,mK,A.pure1,nB,A.scal1,mU,LK.fits,eN,enc]
end bA
@[ext] structure bO where
 bU:aS
 (bC limit:Int)
namespace bO
def zero:bO:=⟨aS.zero,0,0⟩
def enc(x:bO):List A:=aS.enc x.bU++[A.int .i64 x.bC,A.int .i64 x.limit]
@[go_sem] theorem len(x:bO):(enc x).length=7:=by simp[enc,aS.len]
instance:En bO:=⟨7,enc,zero⟩
@[go_sem] theorem laws(x:bO):
 mK (enc x)=true/\
 nB (enc x)=false/\
 sub (enc x) 0 7=enc x/\
 (∀y,upd (enc x) 0 (enc y)=enc y)/\
 sub (enc x) 0 5=aS.enc x.bU/\
 sub (enc x) 5 1=[A.int .i64 x.bC]/\
 sub (enc x) 6 1=[A.int .i64 x.limit]/\
 (∀v,upd (enc x) 0 (aS.enc v)=enc {x with bU:=v})/\
 (∀v,upd (enc x) 5 ([A.int .i64 v])=enc {x with bC:=v})/\
 (∀v,upd (enc x) 6 ([A.int .i64 v])=enc {x with limit:=v})/\
 (∀(H O K U Y B F:A) (M:List A),upd (H::O::K::U::Y::B::F::M) 0 (enc x)=A.int .i64 x.bU.k::A.str x.bU.aZ.name::A.int .i64 x.bU.aZ.aJ.mode::A.int .i64 x.bU.aZ.aJ.aU::A.sl (x.bU.bG.map aS.enc)::A.int .i64 x.bC::A.int .i64 x.limit::M)/\
 (∀(H O K U Y B F:A),upd (enc x) 0 [H,O,K,U,Y,B,F]=[H,O,K,U,Y,B,F]):=by simp[sub,upd,mK,A.pure1,nB,A.scal1,mU,LK.fits,eN,enc,aC.enc,aO.enc,aS.enc]
end bO
@[ext] structure aG where
 aM:aK
 cost:Int
 bF:bA
 bI:Bool
 bJ:bO
 (since gen:Int)
namespace aG
def zero:aG:=⟨aK.zero,0,bA.zero,false,bO.zero,0,0⟩
def enc(x:aG):List A:=aK.enc x.aM++[A.int .i64 x.cost]++bA.enc x.bF++[A.bool x.bI]++bO.enc x.bJ++[A.int .i64 x.since,A.int .i64 x.gen]
@[go_sem] theorem len(x:aG):(enc x).length=16:=by simp[enc,bA.len,aK.len,bO.len]
instance:En aG:=⟨16,enc,zero⟩
@[go_sem] theorem laws(x:aG):
 mK (enc x)=true/\
 nB (enc x)=false/\
 sub (enc x) 0 16=enc x/\
 (∀y,upd (enc x) 0 (enc y)=enc y)/\
 sub (enc x) 0 3=aK.enc x.aM/\
 sub (enc x) 3 1=[A.int .i64 x.cost]/\
 sub (enc x) 4 2=bA.enc x.bF/\
 sub (enc x) 4 1=[A.sl (x.bF.aQ.map bN.enc)]/\
 sub (enc x) 5 1=[A.sl (x.bF.bH.map bW.enc)]/\
 sub (enc x) 6 1=[A.bool x.bI]/\
 sub (enc x) 7 7=bO.enc x.bJ/\
 sub (enc x) 7 5=aS.enc x.bJ.bU/\
 sub (enc x) 12 1=[A.int .i64 x.bJ.bC]/\
 sub (enc x) 13 1=[A.int .i64 x.bJ.limit]/\
 sub (enc x) 14 1=[A.int .i64 x.since]/\
 sub (enc x) 15 1=[A.int .i64 x.gen]/\
 (∀v,upd (enc x) 0 (aK.enc v)=enc {x with aM:=v})/\
 (∀v,upd (enc x) 3 ([A.int .i64 v])=enc {x with cost:=v})/\
 (∀v,upd (enc x) 4 (bA.enc v)=enc {x with bF:=v})/\
 (∀v,upd (enc x) 6 ([A.bool v])=enc {x with bI:=v})/\
 (∀v,upd (enc x) 7 (bO.enc v)=enc {x with bJ:=v})/\
 (∀v,upd (enc x) 14 ([A.int .i64 v])=enc {x with since:=v})/\
 (∀v,upd (enc x) 15 ([A.int .i64 v])=enc {x with gen:=v})/\
 (∀(M K L V Z c5 c6 c7 c8 c9 H O U Y B F:A),upd (enc x) 0 [M,K,L,V,Z,c5,c6,c7,c8,c9,H,O,U,Y,B,F]=[M,K,L,V,Z,c5,c6,c7,c8,c9,H,O,U,Y,B,F]):=by simp[sub,upd,mK,A.pure1,nB,A.scal1,mU,LK.fits,eN,enc,aC.enc,aO.enc,aS.enc,bA.enc,aK.enc,bO.enc]
end aG
@[ext] structure bD where
 now:Int
 aF:(List aA)
 aD:(List aG)
namespace bD
def zero:bD:=⟨0,[],[]⟩
def enc(x:bD):List A:=[A.int .i64 x.now,A.sl (x.aF.map aA.enc),A.sl (x.aD.map aG.enc)]
@[go_sem] theorem len(x:bD):(enc x).length=3:=by simp[enc]
instance:En bD:=⟨3,enc,zero⟩
@[go_sem] theorem laws(x:bD):
 mK (enc x)=true/\
 nB (enc x)=false/\
 sub (enc x) 0 3=enc x/\
 (∀y,upd (enc x) 0 (enc y)=enc y)/\
 sub (enc x) 0 1=[A.int .i64 x.now]/\
 sub (enc x) 1 1=[A.sl (x.aF.map aA.enc)]/\
 sub (enc x) 2 1=[A.sl (x.aD.map aG.enc)]/\
 (∀v,upd (enc x) 0 ([A.int .i64 v])=enc {x with now:=v})/\
 (∀v,upd (enc x) 1 ([A.sl (v.map aA.enc)])=enc {x with aF:=v})/\
 (∀v,upd (enc x) 2 ([A.sl (v.map aG.enc)])=enc {x with aD:=v})/\
 (∀(H O K:A) (U:List A),upd (H::O::K::U) 0 (enc x)=A.int .i64 x.now::A.sl (x.aF.map aA.enc)::A.sl (x.aD.map aG.enc)::U)/\
 (∀(H O K:A),upd (enc x) 0 [H,O,K]=[H,O,K])/\
 (∀y lo k,upd (enc x) 1 [.own y lo k]=[A.int .i64 x.now,.own y lo k,A.sl (x.aD.map aG.enc)])/\
 (∀y lo k,upd (enc x) 2 [.own y lo k]=[A.int .i64 x.now,A.sl (x.aF.map aA.enc),.own y lo k]):=by simp[sub,upd,mK,A.pure1,nB,A.scal1,mU,LK.fits,eN,enc]
end bD
@[ext] structure aR where
 b:(List Int)
 err:Int
namespace aR
def zero:aR:=⟨[],0⟩
def enc(x:aR):List A:=[A.sl (x.b.map (eI .u8)),A.int .i64 x.err]
@[go_sem] theorem len(x:aR):(enc x).length=2:=by simp[enc]
instance:En aR:=⟨2,enc,zero⟩
@[go_sem] theorem laws(x:aR):
 mK (enc x)=true/\
 nB (enc x)=false/\
 sub (enc x) 0 2=enc x/\
 (∀y,upd (enc x) 0 (enc y)=enc y)/\
 sub (enc x) 0 1=[A.sl (x.b.map (eI .u8))]/\
 sub (enc x) 1 1=[A.int .i64 x.err]/\
 (∀v,upd (enc x) 0 ([A.sl (v.map (eI .u8))])=enc {x with b:=v})/\
 (∀v,upd (enc x) 1 ([A.int .i64 v])=enc {x with err:=v})/\
 (∀(H O:A) (U:List A),upd (H::O::U) 0 (enc x)=A.sl (x.b.map (eI .u8))::A.int .i64 x.err::U)/\
 (∀(H O:A),upd (enc x) 0 [H,O]=[H,O])/\
 (∀y lo k,upd (enc x) 0 [.own y lo k]=[.own y lo k,A.int .i64 x.err]):=by simp[sub,upd,mK,A.pure1,nB,A.scal1,mU,LK.fits,eN,enc]
end aR
@[ext] structure bM where
 of:Nat
 (low high plus:Int)
namespace bM
def zero:bM:=⟨yZ,0,0,0⟩
def enc(x:bM):List A:=[A.clo x.of [],A.int .i64 x.low,A.int .i64 x.high,A.int .i64 x.plus]
@[go_sem] theorem len(x:bM):(enc x).length=4:=by simp[enc]
instance:En bM:=⟨4,enc,zero⟩
@[go_sem] theorem laws(x:bM):
 mK (enc x)=true/\
 sub (enc x) 0 4=enc x/\
 (∀y,upd (enc x) 0 (enc y)=enc y)/\
 sub (enc x) 0 1=[A.clo x.of []]/\
 sub (enc x) 1 1=[A.int .i64 x.low]/\
 sub (enc x) 2 1=[A.int .i64 x.high]/\
 sub (enc x) 3 1=[A.int .i64 x.plus]/\
 (∀v,upd (enc x) 0 ([A.clo v []])=enc {x with of:=v})/\
 (∀v,upd (enc x) 1 ([A.int .i64 v])=enc {x with low:=v})/\
 (∀v,upd (enc x) 2 ([A.int .i64 v])=enc {x with high:=v})/\
 (∀v,upd (enc x) 3 ([A.int .i64 v])=enc {x with plus:=v}):=by simp[sub,upd,mK,A.pure1,nB,A.scal1,mU,LK.fits,eN,enc]
end bM
@[ext] structure bP where
 kind:Int
 aM:aK
 bJ:bO
 name:ByteArray
 n:Int
namespace bP
def zero:bP:=⟨0,aK.zero,bO.zero,⟨#[]⟩,0⟩
def enc(x:bP):List A:=[A.int .i64 x.kind]++aK.enc x.aM++bO.enc x.bJ++[A.str x.name,A.int .i64 x.n]
@[go_sem] theorem len(x:bP):(enc x).length=13:=by simp[enc,aK.len,bO.len]
instance:En bP:=⟨13,enc,zero⟩
@[go_sem] theorem laws(x:bP):
 mK (enc x)=true/\
 nB (enc x)=false/\
 sub (enc x) 0 13=enc x/\
 (∀y,upd (enc x) 0 (enc y)=enc y)/\
 sub (enc x) 0 1=[A.int .i64 x.kind]/\
 sub (enc x) 1 3=aK.enc x.aM/\
 sub (enc x) 4 7=bO.enc x.bJ/\
 sub (enc x) 11 1=[A.str x.name]/\
 sub (enc x) 12 1=[A.int .i64 x.n]/\
 (∀v,upd (enc x) 0 ([A.int .i64 v])=enc {x with kind:=v})/\
 (∀v,upd (enc x) 1 (aK.enc v)=enc {x with aM:=v})/\
 (∀v,upd (enc x) 4 (bO.enc v)=enc {x with bJ:=v})/\
 (∀v,upd (enc x) 11 ([A.str v])=enc {x with name:=v})/\
 (∀v,upd (enc x) 12 ([A.int .i64 v])=enc {x with n:=v})/\
 (∀(Y B K F M L V Z c8 c9 H O U:A),upd (enc x) 0 [Y,B,K,F,M,L,V,Z,c8,c9,H,O,U]=[Y,B,K,F,M,L,V,Z,c8,c9,H,O,U]):=by simp[sub,upd,mK,A.pure1,nB,A.scal1,mU,LK.fits,eN,enc,aC.enc,aO.enc,aS.enc,aK.enc,bO.enc]
end bP
@[ext] structure bL where
 kind:Int
 aM:aK
 name:ByteArray
 aJ:aC
 deriving DecidableEq
namespace bL
def zero:bL:=⟨0,aK.zero,⟨#[]⟩,aC.zero⟩
def enc(x:bL):List A:=[A.int .i64 x.kind]++aK.enc x.aM++[A.str x.name]++aC.enc x.aJ
@[go_sem] theorem len(x:bL):(enc x).length=7:=by simp[enc,aC.len,aK.len]
instance:En bL:=⟨7,enc,zero⟩
@[go_sem] theorem laws(x:bL):
 mK (enc x)=true/\
 nB (enc x)=true/\
 mU [.i .i64,.i .i64,.i .i64,.i .i64,.s,.i .i64,.i .i64] (enc x)=true/\
 sub (enc x) 0 7=enc x/\
 (∀y,upd (enc x) 0 (enc y)=enc y)/\
 (∀v,upd (enc x) 0 ([A.int .i64 v])=enc {x with kind:=v})/\
 (∀v,upd (enc x) 1 (aK.enc v)=enc {x with aM:=v})/\
 (∀v,upd (enc x) 4 ([A.str v])=enc {x with name:=v})/\
 (∀v,upd (enc x) 5 (aC.enc v)=enc {x with aJ:=v})/\
 (∀(H O K U Y B F:A) (M:List A),upd (H::O::K::U::Y::B::F::M) 0 (enc x)=A.int .i64 x.kind::A.int .i64 x.aM.site::A.int .i64 x.aM.inc::A.int .i64 x.aM.num::A.str x.name::A.int .i64 x.aJ.mode::A.int .i64 x.aJ.aU::M)/\
 (∀(H O K U Y B F:A),upd (enc x) 0 [H,O,K,U,Y,B,F]=[H,O,K,U,Y,B,F]):=by simp[sub,upd,mK,A.pure1,nB,A.scal1,mU,LK.fits,eN,enc,aC.enc,aK.enc]
end bL
@[ext] structure bB where
 c:bD
 ev:(List bL)
namespace bB
def zero:bB:=⟨bD.zero,[]⟩
def enc(x:bB):List A:=bD.enc x.c++[A.sl (x.ev.map bL.enc)]
instance:En bB:=⟨4,enc,zero⟩
end bB
@[ext] structure bT where
 rest:(List Int)
 err:Int
namespace bT
def zero:bT:=⟨[],0⟩
def enc(x:bT):List A:=[A.sl (x.rest.map (eI .u8)),A.int .i64 x.err]
@[go_sem] theorem len(x:bT):(enc x).length=2:=by simp[enc]
instance:En bT:=⟨2,enc,zero⟩
@[go_sem] theorem laws(x:bT):
 mK (enc x)=true/\
 nB (enc x)=false/\
 sub (enc x) 0 2=enc x/\
 (∀y,upd (enc x) 0 (enc y)=enc y)/\
 sub (enc x) 0 1=[A.sl (x.rest.map (eI .u8))]/\
 sub (enc x) 1 1=[A.int .i64 x.err]/\
 (∀v,upd (enc x) 0 ([A.sl (v.map (eI .u8))])=enc {x with rest:=v})/\
 (∀v,upd (enc x) 1 ([A.int .i64 v])=enc {x with err:=v})/\
 (∀(H O:A) (U:List A),upd (H::O::U) 0 (enc x)=A.sl (x.rest.map (eI .u8))::A.int .i64 x.err::U)/\
 (∀(H O:A),upd (enc x) 0 [H,O]=[H,O])/\
 (∀y lo k,upd (enc x) 0 [.own y lo k]=[.own y lo k,A.int .i64 x.err]):=by simp[sub,upd,mK,A.pure1,nB,A.scal1,mU,LK.fits,eN,enc]
end bT
@[ext] structure bE where
 bR:bT
namespace bE
def zero:bE:=⟨bT.zero⟩
def enc(x:bE):List A:=bT.enc x.bR
@[go_sem] theorem len(x:bE):(enc x).length=2:=by simp[enc,bT.len]
instance:En bE:=⟨2,enc,zero⟩
@[go_sem] theorem laws(x:bE):
 mK (enc x)=true/\
 nB (enc x)=false/\
 sub (enc x) 0 2=enc x/\
 (∀y,upd (enc x) 0 (enc y)=enc y)/\
 sub (enc x) 0 1=[A.sl (x.bR.rest.map (eI .u8))]/\
 sub (enc x) 1 1=[A.int .i64 x.bR.err]/\
 (∀v,upd (enc x) 1 ([A.int .i64 v])=enc {x with bR:={x.bR with err:=v}})/\
 (∀(H O:A) (U:List A),upd (H::O::U) 0 (enc x)=A.sl (x.bR.rest.map (eI .u8))::A.int .i64 x.bR.err::U)/\
 (∀(H O:A),upd (enc x) 0 [H,O]=[H,O]):=by simp[sub,upd,mK,A.pure1,nB,A.scal1,mU,LK.fits,eN,enc,bT.enc]
end bE
@[ext] structure bV where
 all:(List Int)
 (at_ err:Int)
namespace bV
def zero:bV:=⟨[],0,0⟩
def enc(x:bV):List A:=[A.sl (x.all.map (eI .u8)),A.int .i64 x.at_,A.int .i64 x.err]
@[go_sem] theorem len(x:bV):(enc x).length=3:=by simp[enc]
instance:En bV:=⟨3,enc,zero⟩
@[go_sem] theorem laws(x:bV):
 mK (enc x)=true/\
 nB (enc x)=false/\
 sub (enc x) 0 3=enc x/\
 (∀y,upd (enc x) 0 (enc y)=enc y)/\
 sub (enc x) 0 1=[A.sl (x.all.map (eI .u8))]/\
 sub (enc x) 1 1=[A.int .i64 x.at_]/\
 sub (enc x) 2 1=[A.int .i64 x.err]/\
 (∀v,upd (enc x) 0 ([A.sl (v.map (eI .u8))])=enc {x with all:=v})/\
 (∀v,upd (enc x) 1 ([A.int .i64 v])=enc {x with at_:=v})/\
 (∀v,upd (enc x) 2 ([A.int .i64 v])=enc {x with err:=v})/\
 (∀(H O K:A) (U:List A),upd (H::O::K::U) 0 (enc x)=A.sl (x.all.map (eI .u8))::A.int .i64 x.at_::A.int .i64 x.err::U)/\
 (∀(H O K:A),upd (enc x) 0 [H,O,K]=[H,O,K])/\
 (∀y lo k,upd (enc x) 0 [.own y lo k]=[.own y lo k,A.int .i64 x.at_,A.int .i64 x.err]):=by simp[sub,upd,mK,A.pure1,nB,A.scal1,mU,LK.fits,eN,enc]
end bV
attribute [simp] aS.enc_cells
end Ab
end Go.Proofs.YtfmnjkfhahfhgaaGreatDoor
