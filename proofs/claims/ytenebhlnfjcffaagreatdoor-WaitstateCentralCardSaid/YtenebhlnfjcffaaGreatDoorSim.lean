import Derived.Test.YtenebhlnfjcffaaGreatDoorTy
namespace Go.Proofs.YtenebhlnfjcffaaGreatDoor
namespace Ab
set_option linter.unusedSimpArgs false
set_option linter.unusedVariables false
def zaW1:A->List Nat
 | .own x _ _=>[x]
 | .ptr x _ _=>[x]
 | .mp x=>[x]
 | .it x=>[x]
 |_=>[]
def zbh2:A->List Nat
 | .clo _ cs=>cs.flatMap zaW1
 |a=>zaW1 a
def idsA:A->List Nat
 | .agg cs=>if zk9 cs then[]else cs.flatMap zbh2
 | .bnd _ cs=>if zk9 cs then[]else cs.flatMap zbh2
 |a=>zbh2 a
def zE8:List A->List Nat
 |[]=>[]
 |x::xs=>idsA x++zE8 xs
def disj:List Nat->List Nat->Bool
 |[],_=>true
 |x::xs,ys=>!ys.contains x&&disj xs ys
def zbh3(an:List Nat)(i:Nat):List (List Nat×List Nat)->List Nat->List Nat->Bool
 |[],_,_=>true
 |q::log,r,w=>(an.contains i||(disj q.2 r&&disj q.2 w&&disj w q.1))&&zbh3 an (i+1) log r w
def A.flatCap:A->Bool
 | .agg _=>false
 | .clo _ cs=>cs.isEmpty
 | .bnd _ _=>false
 |_=>true
def zbl6:List A->Bool
 |[]=>true
 |c::cs=>c.flatCap&&zbl6 cs
def zaY3:List A->Bool
 | .clo _ caps::_=>zbl6 caps
 |_=>true
theorem zbK3:∀{cs:List A},zbl6 cs=true->∀c∈cs,idsA c=zaW1 c
 |d::ds,h,c,hc=>by
  simp only[zbl6,bU]at h;rcases cF.1 hc with rfl|hc
  .cases c<;>first|rfl|(simp[A.flatCap]at h;done)|skip
   rename_i f cs;cases cs with
   |nil=>rfl
   |cons x xs=>simp[A.flatCap]at h
  .exact zbK3 h.2 c hc
def zaB4(C:Cx)(an:List (List Nat)):List POp->St->List (List Nat×List Nat)->(St->Prop)->Prop
 |[],st,_,K=>K st
 |p::ps,st,log,K=>aopS C p st.toS st.nx λ v mw=>zbh3 (an.getD log.length []) 0 log (zE8 (zt2 C st p.xs)) (mw.map (·.1))=true/\zaY3 (zt2 C st p.xs)=true/\
   zaB4 C an ps (st.app p.dst v mw) (log++[(zE8 (zt2 C st p.xs),mw.map (·.1))]) K
section
variable {C:Cx} {E:Env}
theorem zdm4{p:POp}{s:S}{id:Nat}{K:A->List (Nat×MS)->Prop}(h:aopS C p s id K):∃v mw,K v mw/\aopS C p s id (λ v' mw'=>v'=v/\mw'=mw):=by
 unfold aopS at h⊢;cases hg:zO5 s.fr p.g with
 |none=>simp[hg]at h
 |some g=>
  simp only[hg]at h⊢;cases hp:p.po<;>simp only[hp]at h|-
  case pick=>
   split at h
   .split at h
    .exact⟨_,_,h.2,h.1,rfl,rfl⟩
    .exact h.elim
   .exact h.elim
  case call f=>obtain⟨r,h1,h2,h3⟩:=h;exact⟨_,_,h3,r,h1,h2,rfl,rfl⟩
  case callv=>
   split at h
   .obtain⟨r,h1,h2,h3⟩:=h;exact⟨_,_,h3,r,h1,h2,rfl,rfl⟩
   .exact h.elim
  case callb=>
   split at h
   .obtain⟨r,h1,h2,h3⟩:=h;exact⟨_,_,h3,r,h1,h2,rfl,rfl⟩
   .exact h.elim
  case callm f=>obtain⟨l,as,ms,k,r,ms',k',h1,h2,h3,h4,h5⟩:=h;exact⟨_,_,h5,l,as,ms,k,r,ms',k',h1,h2,h3,h4,rfl,rfl⟩
  case callvm=>
   split at h
   .obtain⟨l,as,ms,k,r,ms',k',h1,h2,h3,h4,h5⟩:=h;exact⟨_,_,h5,l,as,ms,k,r,ms',k',h1,h2,h3,h4,rfl,rfl⟩
   .exact h.elim
  all_goals
   split at h
   .exact⟨_,_,h.2.2,h.1,h.2.1,rfl,rfl⟩
   .exact⟨_,_,h.2.2,h.1,h.2.1,rfl,rfl⟩
theorem zdB8{p:POp}{st:St}{K:A->List (Nat×MS)->Prop}(h:aopS C p st.toS st.nx K):aopS C p st.toS st.nx (λ v mw=>mwOk st.nx mw/\K v mw):=by
 unfold aopS at h⊢;simp only[St.toS]at h⊢;cases hg:zO5 st.slot p.g with
 |none=>simp[hg]at h
 |some g=>
  simp only[hg]at h⊢;cases hp:p.po<;>simp only[hp]at h|-
  case pick=>
   split at h
   .split at h
    .exact⟨h.1,trivial,h.2⟩
    .exact h.elim
   .exact h.elim
  case call f=>obtain⟨r,h1,h2,h3⟩:=h;exact⟨r,h1,h2,zaP4 st _ _,h3⟩
  case callv=>
   split at h
   .obtain⟨r,h1,h2,h3⟩:=h;exact⟨r,h1,h2,zaP4 st _ _,h3⟩
   .exact h.elim
  case callb=>
   split at h
   .obtain⟨r,h1,h2,h3⟩:=h;exact⟨r,h1,h2,zaP4 st _ _,h3⟩
   .exact h.elim
  case callm f=>exact zbQ1 h
  case callvm=>
   split at h
   .exact zbQ1 h
   .exact h.elim
  all_goals
   split at h
   .rename_i ef hev;obtain⟨h1,h2,h3⟩:=h;exact⟨h1,h2,zcS1 hev,h3⟩
   .exact⟨h.1,h.2.1,trivial,h.2.2⟩
theorem zbe5{m m2:Nat->MS}{x:A}(h:∀y∈zbh2 x,m y=m2 y):frz1 m x=frz1 m2 x/\(zau0 m x↔zau0 m2 x):=by
 cases x<;>first|exact⟨rfl,lB⟩|skip
 rename_i y lo n;have:=h y (by simp[zbh2,zaW1]);simp only[frz1,zau0,this,cS]
theorem zbU3{x:A}:∀y∈zaB2 x,y∈idsA x:=by
 cases x<;>intro y hy<;>first|(simp[zaB2,zT7]at hy;done)|skip
 .rename_i z lo n;simpa [zaB2,zT7,idsA,zbh2,zaW1]using hy
 .rename_i cs;simp only[zaB2,idsA]at hy⊢;split at hy
  .cases hy
  .rename_i hp;rw[bV hp];obtain⟨c,hc,hy⟩:=gC.1 hy;refine gC.2 ⟨c,hc,?_⟩;cases c<;>simp[zT7]at hy;subst hy;simp[zbh2,zaW1]
theorem zcj9{m m2:Nat->MS}{x:A}(h:∀y∈idsA x,m y=m2 y):frz m x=frz m2 x/\(zaB1 m x↔zaB1 m2 x):=by
 cases x with
 |agg cs=>
  simp only[frz,zaB1];split
  .exact⟨rfl,lB⟩
  .rename_i hp;simp only[idsA,bV hp]at h;have h2:∀c∈cs,∀y∈zbh2 c,m y=m2 y:=λ c hc y hy=>h y (gC.2 ⟨c,hc,hy⟩);exact⟨by rw[kE λ c hc=>(zbe5 (h2 c hc)).1],⟨λ hh c hc=>(zbe5 (h2 c hc)).2.1 (hh c hc),λ hh c hc=>(zbe5 (h2 c hc)).2.2 (hh c hc)⟩⟩
 |own x lo n=>exact zbe5 (x:=.own x lo n) h
 |_=>exact⟨rfl,lB⟩
theorem zaO5{m m2:Nat->MS}:∀{xs:List A},(∀y∈zE8 xs,m y=m2 y)->zJ7 m xs=zJ7 m2 xs/\(zC4 m xs↔zC4 m2 xs)
 |[],_=>⟨rfl,lB⟩
 |x::xs,h=>by obtain⟨h1,h2⟩:=zcj9 (x:=x) λ y hy=>h y (dJ _ hy);obtain⟨h3,h4⟩:=zaO5 (xs:=xs) λ y hy=>h y (cY _ hy);simp only[zJ7,zC4,h1,h2,h3,h4,cS]
theorem zaK5{m m2:Nat->MS}:∀{xs:List Nat},(∀y∈xs,m y=m2 y)->zR4 m xs=zR4 m2 xs
 |[],_=>rfl
 |x::xs,h=>by simp only[zR4,h x (.head _),zaK5 λ y hy=>h y (.tail _ hy)]
theorem zaI9:∀{xs:List A},∀y∈zE6 xs,y∈zE8 xs
 |x::xs,y,hy=>by
  rcases cR.1 hy with h|h
  .exact dJ _ (zbU3 y h)
  .exact cY _ (zaI9 y h)
theorem zcT2:∀{vs as:List A},∀y∈fzM vs as,y∈zE8 vs
 |v::vs,a::as,y,hy=>by
  rcases cR.1 hy with h|h
  .split at h
   .cases h
   .exact dJ _ (zbU3 y h)
  .exact cY _ (zcT2 y h)
 |[],[],y,hy=>by cases hy
 |_::_,[],y,hy=>by cases hy
 |[],_::_,y,hy=>by cases hy
theorem zbK4{m m2:Nat->MS}{l:List (Nat×Nat)}{k:Nat}:∀{vs as:List A},(∀y∈zE8 vs,m y=m2 y)->zbA4 m l k vs as->zbA4 m2 l k vs as
 |v::vs,a::as,h,h1=>by
  refine⟨?_,zbK4 (λ y hy=>h y (cY _ hy)) h1.2⟩;obtain⟨h3,h4⟩:=zcj9 (x:=v) λ y hy=>h y (dJ _ hy);have h2:=h1.1;unfold argM at h2⊢;split
  .rename_i hh;rw[bX hh]at h2;exact h2
  .rename_i hh;rw[bV hh]at h2;exact⟨h4.1 h2.1,h3▸h2.2⟩
 |[],[],_,_=>trivial
 |_::_,[],_,h=>h.elim
 |[],_::_,_,h=>h.elim
theorem zbK5{m m2:Nat->MS}{l:List (Nat×Nat)}{k:Nat}{fz:List Nat}:∀{ms:List (Nat×Row)},(∀q∈ms,m (rho l q.1)=m2 (rho l q.1))->zci3 m l k fz ms->zci3 m2 l k fz ms
 |[],_,_=>trivial
 |q::ms,h,h1=>by obtain⟨h2,h3,h4,h5,h6,h8,h7⟩:=h1;exact⟨by rw[<-h q (.head _)];exact h2,h3,h4,h5,h6,h8,zbK5 (λ p hp=>h p (.tail _ hp)) h7⟩
theorem zbv7{L:List (Nat×Nat)}{ms':List (Nat×Row)}:∀{ids:List Nat},∀x∈ids,rho L x∈(zai3 L ms' ids).map (·.1)
 |y::ids,x,h=>by
  rcases cF.1 h with rfl|h
  .exact .head _
  .exact .tail _ (zbv7 x h)
theorem zbK6{m m2:Nat->MS}:∀{mw:List (Nat×MS)},(∀y∈mw.map (·.1),m y=m2 y)->zbA5 m mw->zbA5 m2 mw
 |[],_,_=>trivial
 |q::r,h,⟨h1,h3⟩=>⟨by rw[<-h q.1 (.head _)];exact h1,zbK6 (λ y hy=>h y (.tail _ hy)) h3⟩
theorem zbK7{f:FuncId}{m m2:Nat->MS}{id:Nat}{vals:List A}{og:Option (Nat×Bool)}{g:Bool}{ob:Prop}{v:A}{mw:List (Nat×MS)}(h1:∀y∈zE8 vals,m y=m2 y)(h2:∀y∈mw.map (·.1),m y=m2 y)
  (h:zaV6 C m id f vals og g ob (λ n=>∀x,id<=x->x<id+n->m x=.fresh) (λ v' mw'=>v'=v/\mw'=mw)):
  zaV6 C m2 id f vals og g ob (λ n=>∀x,id<=x->x<id+n->m2 x=.fresh) (λ v' mw'=>v'=v/\mw'=mw):=by
 obtain⟨l,as,ms,k,r,ms',k',ht,hf,hvv,h5,h7,h8⟩:=h;have e0:mwM m2 (l++newL k id (k'-k)) vals as ms ms' k k'=mw:=by rw[<-h8,mwM,mwM,zaK5 λ y hy=>h1 y (zcT2 y hy)]
 refine⟨l,as,ms,k,r,ms',k',λ hg=>?_,λ hg=>?_,hvv,h5,h7,e0⟩
 case refine_2=>rw[e0];rw[h8]at hf;exact⟨(hf hg).1,zbK6 h2 (hf hg).2⟩
 obtain⟨hob,h3,h4,h6⟩:=ht hg;obtain⟨g1,g2,g3,g4,g5,g6,g7,g8⟩:=h4;have hkk:k<=k':=fQ g6;have key:∀x∈ms.map (·.1)++(List.range (k'-k)).map (k+·),m (rho (l++newL k id (k'-k)) x)=m2 (rho (l++newL k id (k'-k)) x):=λ x hx=>by refine h2 _ ?_;rw[<-h8,mwM,fA];exact cY _ (zbv7 x hx)
 have rhoOld:∀x,x<k->rho (l++newL k id (k'-k)) x=rho l x:=λ x hx=>by simp only[rho,zai4,zay7];rw[bV (by omega),lF]
 have rhoNew:∀i,i<k'-k->rho (l++newL k id (k'-k)) (k+i)=id+i:=λ i hi=>by simp only[rho,zai4,zay7];rw[zaZ3 λ q hq=>by have:=g8 q hq;omega,bX (by omega)];simp
 refine⟨hob,h3,⟨zbK4 h1 g1,zbK5 (λ q hq=>?_) g2,g3,g4,g5,g6,g7,g8⟩,λ x hx hx2=>?_⟩
 .have:=key q.1 (dJ _ (cI.2 ⟨q,hq,rfl⟩));rwa [rhoOld q.1 (zaZ5 g2 q.1 q.2 hq).2.2.1]at this
 .have:=key (k+(x-id)) (cY _ (cI.2 ⟨x-id,eX.2 (by omega),rfl⟩));rw[rhoNew _ (by omega),show id+(x-id)=x by omega]at this;rw[<-this];exact h6 x hx hx2
theorem zcf3(x y:List A):zE8 (x++y)=zE8 x++zE8 y:=by
 induction x with
 |nil=>rfl
 |cons a x ih=>simp only[List.cons_append,zE8,ih,dD]
theorem zbK8{y:Nat}:∀{caps:List A},(∀c∈caps,idsA c=zaW1 c)->y∈zE8 caps->y∈caps.flatMap zaW1
 |c::cs,hc,h=>by
  rcases cR.1 h with h|h
  .exact gC.2 ⟨c,.head _,hc c (.head _)▸h⟩
  .obtain⟨d,hd,h2⟩:=gC.1 (zbK8 (λ d hd=>hc d (.tail _ hd)) h);exact gC.2 ⟨d,.tail _ hd,h2⟩
theorem zbK9{f:FuncId}{caps vals:List A}{y:Nat}(h:y∈zE8 (vals++caps))(hc:∀c∈caps,idsA c=zaW1 c):y∈zE8 (.clo f caps::vals):=by
 rw[zcf3]at h;simp only[zE8,cR];rcases cR.1 h with h|h
 .exact .inr h
 .exact .inl (zbK8 hc h)
theorem zdm5{id:Nat}{m m2:Nat->MS}{po:PO}{vals:List A}(h:∀y∈zE8 vals,m y=m2 y):ev id m po vals=ev id m2 po vals:=by
 have e1:∀{x:A} {xs:List A},vals=x::xs->(∀y∈idsA x,m y=m2 y):=λ hv y hy=>h y (by rw[hv];exact dJ _ hy);have e2:∀{x x2:A} {xs:List A},vals=x::x2::xs->(∀y∈idsA x2,m y=m2 y):=λ hv y hy=>h y (by rw[hv];exact cY _ (dJ _ hy));have own:∀{x:Nat} {lo n:Nat},(∀y∈idsA (.own x lo n),m y=m2 y)->m x=m2 x:=λ hh=>hh _ (by simp[idsA,zbh2,zaW1]);have ptr:∀{x:Nat} {lo n:Nat},(∀y∈idsA (.ptr x lo n),m y=m2 y)->m x=m2 x:=λ hh=>hh _ (by simp[idsA,zbh2,zaW1]);have mp:∀{x:Nat},(∀y∈idsA (.mp x),m y=m2 y)->m x=m2 x:=λ hh=>hh _ (by simp[idsA,zbh2,zaW1]);have hel:∀{x:A},(∀y∈idsA x,m y=m2 y)->zaN7 m x=zaN7 m2 x/\zaq5 m x=zaq5 m2 x:=λ{x} hh=>by
  cases x<;>first|exact⟨rfl,rfl⟩|skip
  simp only[zaN7,zaq5,own hh,cS]
 have hsl:∀{x:A} {sz:Nat} {lo hi mx:Option Int},(∀y∈idsA x,m y=m2 y)->zaF0 m sz x lo hi mx=zaF0 m2 sz x lo hi mx:=λ{x sz lo hi mx} hh=>by cases x<;>cases mx<;>first|rfl|(simp only[zaF0,own hh])
 cases po
 case slc sz lo hi mx=>
  rcases vals with _|⟨x,_|⟨x2,_|⟨x3,_|⟨x4,_|⟨x5,xs⟩⟩⟩⟩⟩
  .cases lo<;>cases hi<;>cases mx<;>rfl
  .have hx:=e1 rfl;have:=λ{lo hi mx}=>hsl (sz:=sz) (lo:=lo) (hi:=hi) (mx:=mx) hx;cases lo<;>cases hi<;>cases mx<;>first|rfl|(simp only[ev,this])
  .have hx:=e1 rfl;have:=λ{lo hi mx}=>hsl (sz:=sz) (lo:=lo) (hi:=hi) (mx:=mx) hx;cases lo<;>cases hi<;>cases mx<;>cases x2<;>first|rfl|(simp only[ev,this])
  .have hx:=e1 rfl;have:=λ{lo hi mx}=>hsl (sz:=sz) (lo:=lo) (hi:=hi) (mx:=mx) hx;cases lo<;>cases hi<;>cases mx<;>cases x2<;>cases x3<;>first|rfl|(simp only[ev,this])
  .have hx:=e1 rfl;have:=λ{lo hi mx}=>hsl (sz:=sz) (lo:=lo) (hi:=hi) (mx:=mx) hx;cases lo<;>cases hi<;>cases mx<;>first|rfl|(cases x2<;>first|rfl|(cases x3<;>first|rfl|(cases x4<;>first|rfl|(simp only[ev,this]))))
  .cases lo<;>cases hi<;>cases mx<;>first|rfl|(cases x2<;>first|rfl|(cases x3<;>first|rfl|(cases x4<;>rfl)))
 case slcS lo hi=>rcases vals with _|⟨x,_|⟨x2,_|⟨x3,_|⟨x4,xs⟩⟩⟩⟩<;>cases lo<;>cases hi<;>first|rfl|(cases x<;>first|rfl|(cases x2<;>first|rfl|(cases x3<;>rfl)))
 case cvS=>
  rcases vals with _|⟨x,_|⟨x2,xs⟩⟩<;>first|rfl|skip
  obtain⟨g1,g2⟩:=hel (e1 rfl);simp only[ev,g1,g2]
 case append sz bytes z=>
  rcases vals with _|⟨x,_|⟨x2,_|⟨x3,xs⟩⟩⟩<;>first|rfl|skip
  have hx:=e1 rfl;obtain⟨g1,g2⟩:=hel (e2 rfl);simp only[ev,g1,g2];cases x<;>first|rfl|skip
  have e:=own hx;simp only[e]
 case appc sz bytes=>
  rcases vals with _|⟨x,_|⟨x2,_|⟨x3,xs⟩⟩⟩<;>first|rfl|skip
  have hx:=e1 rfl;obtain⟨g1,g2⟩:=hel (e2 rfl);simp only[ev,g1,g2];cases x<;>first|rfl|skip
  have e:=own hx;simp only[e]
 case clear sz z=>
  rcases vals with _|⟨x,_|⟨x2,xs⟩⟩<;>first|rfl|skip
  have hx:=e1 rfl;simp only[ev];cases x<;>first|rfl|skip
  have e:=own hx;simp only[e]
 case copy sz=>
  rcases vals with _|⟨x,_|⟨x2,_|⟨x3,xs⟩⟩⟩<;>first|rfl|skip
  have hx:=e1 rfl;obtain⟨g1,g2⟩:=hel (e2 rfl);simp only[ev,g1,g2];cases x<;>first|rfl|skip
  have e:=own hx;simp only[e]
 case load n ag=>
  rcases vals with _|⟨x,_|⟨x2,xs⟩⟩<;>first|rfl|skip
  have hx:=e1 rfl;cases x<;>first|rfl|skip
  have e:=ptr hx;simp only[ev,e]
 case store n=>
  rcases vals with _|⟨x,_|⟨x2,_|⟨x3,xs⟩⟩⟩<;>first|rfl|skip
  have hx:=e1 rfl;cases x<;>first|rfl|skip
  have e:=ptr hx;simp only[ev,e]
 case faddr off=>
  rcases vals with _|⟨x,_|⟨x2,xs⟩⟩<;>first|rfl|skip
  have hx:=e1 rfl;cases x<;>first|rfl|skip
  have e:=ptr hx;simp only[ev,e]
 case nilck=>
  rcases vals with _|⟨x,_|⟨x2,xs⟩⟩<;>first|rfl|skip
  have hx:=e1 rfl;cases x<;>first|rfl|skip
  have e:=ptr hx;simp only[ev,e]
 case len=>
  rcases vals with _|⟨x,_|⟨x2,xs⟩⟩<;>first|rfl|skip
  have hx:=e1 rfl;cases x<;>first|rfl|skip
  have e:=own hx;simp only[ev,e]
 case lkp ok ag kz z=>
  rcases vals with _|⟨x,_|⟨x2,_|⟨x3,xs⟩⟩⟩<;>first|rfl|(cases x<;>rfl)|skip
  have hx:=e1 rfl;cases x<;>first|rfl|skip
  have e:=mp hx;simp only[ev,e]
 case mupd kz ag n=>
  rcases vals with _|⟨x,_|⟨x2,_|⟨x3,_|⟨x4,xs⟩⟩⟩⟩<;>first|rfl|(cases x<;>rfl)|skip
  have hx:=e1 rfl;cases x<;>first|rfl|skip
  have e:=mp hx;simp only[ev,e]
 case rng=>
  rcases vals with _|⟨x,_|⟨x2,xs⟩⟩<;>first|rfl|(cases x<;>rfl)|skip
  have hx:=e1 rfl;cases x<;>first|rfl|skip
  have e:=mp hx;simp only[ev,e]
 case lenM=>
  rcases vals with _|⟨x,_|⟨x2,xs⟩⟩<;>first|rfl|(cases x<;>rfl)|skip
  have hx:=e1 rfl;cases x<;>first|rfl|skip
  have e:=mp hx;simp only[ev,e]
 case iaA n sz=>
  rcases vals with _|⟨x,_|⟨x2,_|⟨x3,xs⟩⟩⟩<;>first|rfl|(cases x2<;>rfl)|skip
  have hx:=e1 rfl;cases x2<;>first|rfl|skip
  cases x<;>first|rfl|skip
  have e:=ptr hx;simp only[ev,e]
 case iaS sz z=>
  rcases vals with _|⟨x,_|⟨x2,_|⟨x3,xs⟩⟩⟩<;>first|rfl|(cases x2<;>rfl)|skip
  have hx:=e1 rfl;cases x2<;>first|rfl|skip
  cases x<;>first|rfl|skip
  have e:=own hx;simp only[ev,e]
 all_goals first
  |rfl
  |(rcases vals with _|⟨x,_|⟨x2,_|⟨x3,xs⟩⟩⟩<;>first|rfl|(cases x<;>first|rfl|(cases x2<;>rfl)))
theorem zbL0{fr f2:Nat->A}:∀(xs:List PX),(∀t∈rdsX xs,fr t=f2 t)->zJ5 C fr xs=zJ5 C f2 xs/\(gdsF C fr xs↔gdsF C f2 xs)
 |[],_=>⟨rfl,lB⟩
 |x::xs,h=>by have h1:=zaK3 (x:=x) C.G (f:=fr) (g:=f2) λ t ht=>h t ((zT8 x xs t).2 (.inl ht));obtain⟨h2,h3⟩:=zbL0 xs λ t ht=>h t ((zT8 x xs t).2 (.inr ht));simp only[zJ5,gdsF,h1,h2,h3,cS]
theorem zcJ4{p:POp}{s s2:S}{id:Nat}{v:A}{mw:List (Nat×MS)}(hr:∀t∈p.rds,s.fr t=s2.fr t)(hm:∀y∈zE8 (zJ5 C s.fr p.xs),s.mem y=s2.mem y)(hw:∀y∈mw.map (·.1),s.mem y=s2.mem y)
  (hcap:∀f caps vals,(p.po=.callv\/p.po=.callvm)->zJ5 C s.fr p.xs=.clo f caps::vals->∀c∈caps,idsA c=zaW1 c)
  (h:aopS C p s id (λ v' mw'=>v'=v/\mw'=mw)):aopS C p s2 id (λ v' mw'=>v'=v/\mw'=mw):=by
 have hx:∀t∈rdsX p.xs,s.fr t=s2.fr t:=λ t ht=>hr t (cY _ ht);obtain⟨hv,hgd⟩:=zbL0 (C:=C) p.xs hx;have hgo:zO5 s2.fr p.g=zO5 s.fr p.g:=by
  cases hg:p.g with
  |none=>rfl
  |some q=>simp only[zO5];rw[hr q.1 (dJ _ (by simp[hg]))]
 obtain⟨hf1,hf2⟩:=zaO5 hm;have hcm:∀r,zC8 s.mem (zJ5 C s.fr p.xs) r=zC8 s2.mem (zJ5 C s.fr p.xs) r:=λ r=>by simp only[zC8,zaK5 λ y hy=>hm y (zaI9 y hy)]
 unfold aopS at h⊢;rw[hgo,<-hv,<-hgd];cases hg:zO5 s.fr p.g with
 |none=>simp[hg]at h
 |some g=>
  simp only[hg]at h⊢;cases hp:p.po<;>simp only[hp]at h|-
  case pick=>
   split at h
   .rename_i c x y hxs;simp only[hxs]at hx⊢;have e1:=zaK3 (x:=c) C.G (f:=s.fr) (g:=s2.fr) λ t ht=>hx t ((zT8 _ _ _).2 (.inl ht));have e2:=zaK3 (x:=x) C.G (f:=s.fr) (g:=s2.fr) λ t ht=>hx t ((zT8 _ _ _).2 (.inr ((zT8 _ _ _).2 (.inl ht))));have e3:=zaK3 (x:=y) C.G (f:=s.fr) (g:=s2.fr) λ t ht=>hx t ((zT8 _ _ _).2 (.inr ((zT8 _ _ _).2 (.inr ht))));rw[<-e1,<-e2,<-e3];exact h
   .exact h.elim
  case call f=>rw[<-hf1,<-hf2];obtain⟨r,h1,h2,h3⟩:=h;exact⟨r,h1,by rw[<-hcm];exact h2,by rw[<-hcm];exact h3⟩
  case callv=>
   split at h
   .rename_i f caps vals hvals;have hc:=hcap f caps vals (.inl hp) hvals;have hm2:∀y∈zE8 (vals++caps),s.mem y=s2.mem y:=λ y hy=>hm y (by rw[hvals];exact zbK9 hy hc);obtain⟨g1,g2⟩:=zaO5 hm2;have hcm2:∀r,zC8 s.mem (vals++caps) r=zC8 s2.mem (vals++caps) r:=λ r=>by
     simp only[zC8,zaK5 λ y hy=>hm2 y (zaI9 y hy)]
    obtain⟨r,h1,h2,h3⟩:=h;rw[<-g1,<-g2];exact⟨r,h1,by rw[<-hcm2];exact h2,by rw[<-hcm2];exact h3⟩
   .exact h.elim
  case callb=>
   split at h
   .rename_i f cs vals hvals;have hm2:∀y∈zE8 (.agg cs::vals),s.mem y=s2.mem y:=λ y hy=>hm y (by rw[hvals];exact hy);obtain⟨g1,g2⟩:=zaO5 hm2;have hcm2:∀r,zC8 s.mem (.agg cs::vals) r=zC8 s2.mem (.agg cs::vals) r:=λ r=>by
     simp only[zC8,zaK5 λ y hy=>hm2 y (zaI9 y hy)]
    obtain⟨r,h1,h2,h3⟩:=h;rw[<-g1,<-g2];exact⟨r,h1,by rw[<-hcm2];exact h2,by rw[<-hcm2];exact h3⟩
   .exact h.elim
  case callm f=>exact zbK7 hm hw h
  case callvm=>
   split at h
   .rename_i f caps vals hvals;have hc:=hcap f caps vals (.inr hp) hvals;exact zbK7 (λ y hy=>hm y (by rw[hvals];exact zbK9 hy hc)) hw h
   .exact h.elim
  all_goals
   rw[<-zdm5 (id:=id) hm];exact h
set_option maxHeartbeats 1000000 in
theorem zdS0{id:Nat}{m:Nat->MS}{po:PO}{vals:List A}{ef:Ef}(h:ev id m po vals=some ef):id∈ef.mw.map (·.1)\/∀id',ev id' m po vals=some ef:=by
 cases po
 case nilown sz z=>rcases vals with _|⟨x,_|⟨x2,xs⟩⟩<;>cases h;exact .inl (by simp)
 case box n=>rcases vals with _|⟨x,_|⟨x2,xs⟩⟩<;>cases h;exact .inl (by simp)
 case alloc n z=>rcases vals with _|⟨x,xs⟩<;>cases h;exact .inl (by simp)
 case bown sz z=>simp only[ev,dE]at h;subst h;exact .inl (by simp)
 case mkmap z=>rcases vals with _|⟨x,xs⟩<;>cases h;exact .inl (by simp)
 case rng=>
  rcases vals with _|⟨x,_|⟨x2,xs⟩⟩<;>first|(cases h;done)|(cases x<;>cases h;done)|skip
  cases x<;>simp only[ev]at h<;>first|(cases h;done)|skip
  split at h
  .cases h;exact .inl (by simp)
  .cases h
 case next d=>exact .inr λ id'=>by rw[<-h];rfl
 case entry d=>exact .inr λ id'=>by rw[<-h];rfl
 case lkp ok ag kz z=>exact .inr λ id'=>by rw[<-h];rcases vals with _|⟨x,_|⟨x2,_|⟨x3,xs⟩⟩⟩<;>first|rfl|(cases x<;>rfl)
 case mupd kz ag n=>exact .inr λ id'=>by rw[<-h];rcases vals with _|⟨x,_|⟨x2,_|⟨x3,_|⟨x4,xs⟩⟩⟩⟩<;>first|rfl|(cases x<;>rfl)
 case lenM=>exact .inr λ id'=>by rw[<-h];rcases vals with _|⟨x,_|⟨x2,xs⟩⟩<;>first|rfl|(cases x<;>rfl)
 case mk sz b z=>
  rcases vals with _|⟨x,_|⟨x2,_|⟨x3,xs⟩⟩⟩<;>first|(cases h;done)|(cases x<;>cases h;done)|skip
  .cases x<;>cases x2<;>cases h;exact .inl (by simp)
  .cases x<;>cases x2<;>cases h
 case append sz b z=>
  rcases vals with _|⟨x,_|⟨x2,_|⟨x3,xs⟩⟩⟩<;>first|(cases h;done)|skip
  simp only[ev,gY]at h;obtain⟨new,hnew,h⟩:=h;cases x<;>simp only[]at h<;>first|(cases h;done)|skip
  .cases h;exact .inl (by simp)
  .split at h
   .cases h;exact .inl (by simp)
   .cases h
 case appc sz b=>
  rcases vals with _|⟨x,_|⟨x2,_|⟨x3,xs⟩⟩⟩<;>first|(cases h;done)|skip
  simp only[ev,gY]at h;obtain⟨new,hnew,h⟩:=h;cases x<;>simp only[]at h<;>first|(cases h;done)|skip
  split at h
  .cases h;exact .inl (by simp)
  .cases h
 all_goals
  refine .inr λ id'=>?_;rw[<-h]
  first
   |rfl
   |(rename_i lo hi mx;cases lo<;>cases hi<;>cases mx<;>rcases vals with _|⟨x,_|⟨x2,_|⟨x3,_|⟨x4,_|⟨x5,xs⟩⟩⟩⟩⟩<;>first|rfl|(cases x2<;>first|rfl|(cases x3<;>first|rfl|(cases x4<;>rfl))))
   |(rename_i lo hi;cases lo<;>cases hi<;>rcases vals with _|⟨x,_|⟨x2,_|⟨x3,_|⟨x4,xs⟩⟩⟩⟩<;>first|rfl|(cases x<;>first|rfl|(cases x2<;>first|rfl|(cases x3<;>rfl))))
   |(rcases vals with _|⟨x,_|⟨x2,_|⟨x3,xs⟩⟩⟩<;>first|rfl|(cases x<;>first|rfl|(cases x2<;>rfl))|(cases x2<;>rfl))
theorem zdB9{p:POp}{s:S}{id:Nat}{v:A}{mw:List (Nat×MS)}(h:aopS C p s id (λ v' mw'=>v'=v/\mw'=mw)):id∈mw.map (·.1)\/∀id',id<=id'->aopS C p s id' (λ v' mw'=>v'=v/\mw'=mw):=by
 have cm:∀{f:FuncId} {vals:List A} {og:Option (Nat×Bool)} {g:Bool} {ob:Prop},zaV6 C s.mem id f vals og g ob (λ n=>∀x,id<=x->x<id+n->s.mem x=.fresh) (λ v' mw'=>v'=v/\mw'=mw)->
   id∈mw.map (·.1)\/∀id',id<=id'->zaV6 C s.mem id' f vals og g ob (λ n=>∀x,id'<=x->x<id'+n->s.mem x=.fresh) (λ v' mw'=>v'=v/\mw'=mw):=λ{f vals og g ob} h=>by
  obtain⟨l,as,ms,k,r,ms',k',ht,hf,hvv,h5,h7,h8⟩:=h
  by_cases hk:k=k'
  .have en:∀id',newL k id' (k'-k)=[]:=λ id'=>by rw[hk,gG];rfl
   simp only[en]at hf hvv h7 h8;refine .inr λ id' hid=>⟨l,as,ms,k,r,ms',k',λ hg=>?_,?_⟩
   .obtain⟨hob,h3,h4,h6⟩:=ht hg;obtain⟨g1,g2,g3,g4,g5,g6,g7,g8⟩:=h4;exact⟨hob,h3,⟨g1,g2,g3,g4,g5,g6,λ q hq=>eG (g7 q hq) hid,g8⟩,λ x hx hx2=>by omega⟩
   .simp only[en];exact⟨hf,hvv,h5,h7,h8⟩
  .have hg:g=true:=by
    cases g with
    |true=>rfl
    |false=>exact absurd (hf rfl).1 hk
   obtain⟨hob,h3,h4,h6⟩:=ht hg;obtain⟨g1,g2,g3,g4,g5,g6,g7,g8⟩:=h4;have hkk:k<=k':=fQ g6;left;rw[<-h8,mwM,fA];refine cY _ ?_;have:=zbv7 (L:=l++newL k id (k'-k)) (ms':=ms') (ids:=ms.map (·.1)++(List.range (k'-k)).map (k+·)) (k+0) (cY _ (cI.2 ⟨0,eX.2 (by omega),rfl⟩));have e:rho (l++newL k id (k'-k)) (k+0)=id+0:=by simp only[rho,zai4,zay7];rw[zaZ3 λ q hq=>by have:=g8 q hq;omega,bX (by omega)];simp
   rw[e]at this;exact this
 unfold aopS at h⊢;cases hg:zO5 s.fr p.g with
 |none=>simp[hg]at h
 |some g=>
  simp only[hg]at h⊢;cases hp:p.po<;>simp only[hp]at h|-
  case pick=>exact .inr λ _ _=>h
  case call f=>exact .inr λ _ _=>h
  case callv=>exact .inr λ _ _=>h
  case callb=>exact .inr λ _ _=>h
  case callm f=>exact cm h
  case callvm=>
   split at h
   .exact cm h
   .exact h.elim
  all_goals
   split at h
   .rename_i ef hev;obtain⟨h1,h2,h3,h4⟩:=h;rcases zdS0 hev with g1|g1
    .exact .inl (h4▸g1)
    .exact .inr λ id' _=>by rw[g1 id'];exact⟨h1,h2,h3,h4⟩
   .rename_i hev;exact .inr λ id' _=>by rw[<-zdJ8 (id:=id) h.2.1,hev];exact h
end
section
variable {C:Cx} {E:Env}
def FSt(ps:List POp)(vs:Nat->A)(mws:Nat->List (Nat×MS))(s:S)(f:Nat->Bool):Nat->S
  |0=>s
  |n+1=>match ps[n]? with
    |some p=>if f n then⟨setF (FSt ps vs mws s f n).fr p.dst (vs n),setM (FSt ps vs mws s f n).mem (mws n)⟩else FSt ps vs mws s f n
    |none=>FSt ps vs mws s f n
theorem zY1{y:Nat}:∀{mw:List (Nat×MS)} {m:Nat->MS},y∉mw.map (·.1)->setM m mw y=m y
  |[],_,_=>rfl
  |q::mw,m,h=>by simp only[setM];rw[zY1 λ hh=>h (.tail _ hh)];refine bV λ e=>h ?_;rw[e];exact .head _
theorem zbQ3{y:Nat}:∀{mw:List (Nat×MS)} {m m2:Nat->MS},y∈mw.map (·.1)->setM m mw y=setM m2 mw y
  |q::mw,m,m2,h=>by
    simp only[setM]
    by_cases h2:y∈mw.map (·.1)
    .exact zbQ3 h2
    · rw[zY1 h2,zY1 h2]
      rcases cF.1 h with rfl|h
      .simp
      .exact absurd h h2
theorem zbU4{ps:List POp}{vs:Nat->A}{mws:Nat->List (Nat×MS)}{s:S}{f f':Nat->Bool}:∀n,(∀i,i<n->f i=f' i)->FSt ps vs mws s f n=FSt ps vs mws s f' n
  |0,_=>rfl
  |n+1,h=>by have ih:=zbU4 (ps:=ps) (vs:=vs) (mws:=mws) (s:=s) n λ i hi=>h i (by omega);simp only[FSt,ih,h n (by omega)]
theorem zbe6(f:Nat->A)(d:Option Nat)(v:A)(t:Nat):setF f d v t=if d=some t then v else f t:=rfl
theorem zcT3{ps:List POp}{vs:Nat->A}{mws:Nat->List (Nat×MS)}{s:S}{f:Nat->Bool}{j t:Nat}(h1:∀i q,i<j->ps[i]? =some q->q.dst=some t->f i=true)(h2:∀i q,j<=i->ps[i]? =some q->q.dst=some t->f i=false):
    ∀n,(FSt ps vs mws s f n).fr t=(FSt ps vs mws s (λ _=>true) (min n j)).fr t
  |0=>by simp[FSt]
  |n+1=>by
    have ih:=zcT3 (vs:=vs) (mws:=mws) (s:=s) h1 h2 n
    by_cases hn:n<j
    · rw[show min (n+1) j=n+1 by omega]
      rw[show min n j=n by omega]at ih;simp only[FSt];cases hq:ps[n]? with
      |none=>exact ih
      |some q=>
        simp only[cC]
        by_cases hd:q.dst=some t
        .rw[h1 n q hn hq hd];simp[zbe6,hd]
        · rw[zbe6,bV hd]
          split
          .simp only[zbe6,bV hd];exact ih
          .exact ih
    · rw[show min (n+1) j=j by omega]
      rw[show min n j=j by omega]at ih;simp only[FSt];cases hq:ps[n]? with
      |none=>exact ih
      |some q=>
        simp only[]
        by_cases hd:q.dst=some t
        .rw[h2 n q (by omega) hq hd];simpa using ih
        · split
          .simp only[zbe6,bV hd];exact ih
          .exact ih
theorem zcJ5{ps:List POp}{vs:Nat->A}{mws:Nat->List (Nat×MS)}{s:S}{f:Nat->Bool}{j y:Nat}(h1:∀i q,i<j->ps[i]? =some q->y∈(mws i).map (·.1)->f i=true)(h2:∀i q,j<=i->ps[i]? =some q->y∈(mws i).map (·.1)->f i=false):
    ∀n,(FSt ps vs mws s f n).mem y=(FSt ps vs mws s (λ _=>true) (min n j)).mem y
  |0=>by simp[FSt]
  |n+1=>by
    have ih:=zcJ5 (vs:=vs) (mws:=mws) (s:=s) h1 h2 n
    by_cases hn:n<j
    · rw[show min (n+1) j=n+1 by omega]
      rw[show min n j=n by omega]at ih;simp only[FSt];cases hq:ps[n]? with
      |none=>exact ih
      |some q=>
        simp only[cC]
        by_cases hd:y∈(mws n).map (·.1)
        .rw[h1 n q hn hq hd];simp only[cC];exact zbQ3 hd
        · rw[zY1 hd]
          split
          · show setM _ _ _=_
            rw[zY1 hd];exact ih
          .exact ih
    · rw[show min (n+1) j=j by omega]
      rw[show min n j=j by omega]at ih;simp only[FSt];cases hq:ps[n]? with
      |none=>exact ih
      |some q=>
        simp only[]
        by_cases hd:y∈(mws n).map (·.1)
        .rw[h2 n q (by omega) hq hd];simpa using ih
        · split
          · show setM _ _ _=_
            rw[zY1 hd];exact ih
          .exact ih
theorem zdm6{ps:List POp}{vs:Nat->A}{mws:Nat->List (Nat×MS)}{s:S}{f:Nat->Bool}{j:Nat}{p:POp}(hp:ps[j]? =some p)(hf:f j=false)(f':Nat->Bool)(hj:f' j=true)(hf':∀i,i≠j->f' i=f i)
    (hc:∀i q,j<i->ps[i]? =some q->f i=true->conf p q=false) (hm:∀i q,j<i->ps[i]? =some q->f i=true->∀y∈(mws j).map (·.1),y∉(mws i).map (·.1)):
    ∀n,(∀t,(FSt ps vs mws s f' n).fr t=if j<n/\p.dst=some t then vs j else(FSt ps vs mws s f n).fr t)/\∀y,(FSt ps vs mws s f' n).mem y=if j<n then setM (FSt ps vs mws s f n).mem (mws j) y else(FSt ps vs mws s f n).mem y
  |0=>by simp[FSt]
  |n+1=>by
    obtain⟨ih,ih2⟩:=zdm6 (vs:=vs) (mws:=mws) (s:=s) hp hf f' hj hf' hc hm n
    by_cases hn:n=j
    · subst hn
      simp only[FSt,hp,hj,hf,cC,bT,cB];refine⟨λ t=>?_,λ y=>?_⟩
      · rw[zbe6]
        by_cases hd:p.dst=some t
        .simp[hd]
        · simp only[hd,cB,and_false]
          have:=ih t
          simpa [hd]using this
      · rw[bX (eV n)]
        have e:(FSt ps vs mws s f' n).mem=(FSt ps vs mws s f n).mem:=funext λ z=>by have:=ih2 z;simpa using this
        rw[e]
    · have hlt:j<n+1↔j<n:=by omega
      simp only[FSt,hf' n hn,hlt];cases hq:ps[n]? with
      |none=>exact⟨by simpa using ih,by simpa using ih2⟩
      |some q=>
        simp only[];split
        · rename_i hfn
          refine⟨λ t=>?_,λ y=>?_⟩
          · simp only[zbe6,ih t]
            by_cases hd:q.dst=some t
            · simp only[hd,cC]
              by_cases hjn:j<n
              · have:=hc n q hjn hq hfn
                unfold conf at this
                by_cases hpd:p.dst=some t
                .simp[hpd,hd]at this
                .simp[hpd]
              .simp[hjn]
            .simp[hd]
          · by_cases hjn:j<n
            · simp only[hjn,cC]at ih2|-
              have hdj:=hm n q hjn hq hfn
              by_cases h1:y∈(mws n).map (·.1)
              · rw[zY1 (mw:=mws j) λ hh=>hdj y hh h1]
                exact zbQ3 h1
              · rw[zY1 h1,ih2 y]
                by_cases h2:y∈(mws j).map (·.1)
                .exact zbQ3 h2
                .rw[zY1 h2,zY1 h2,zY1 h1]
            · simp only[hjn,cB]at ih2|-
              have e:(FSt ps vs mws s f' n).mem=(FSt ps vs mws s f n).mem:=funext ih2;rw[e]
        .exact⟨ih,ih2⟩
theorem zaP7:∀{x y:List Nat},disj x y=true->∀z∈x,z∉y
  |a::x,y,h,z,hz=>by
    simp only[disj,bU,cP,kB,cL]at h;rcases cF.1 hz with rfl|hz
    .exact h.1
    .exact zaP7 h.2 z hz
theorem zbU5{an:List Nat}:∀{log:List (List Nat×List Nat)} {i:Nat} {r w:List Nat},zbh3 an i log r w=true->∀n q,log[n]? =some q->i+n∉an->disj q.2 r=true/\disj q.2 w=true/\disj w q.1=true
  |x::log,i,r,w,h,n,q,hq,hn=>by
    simp only[zbh3,bU,dI]at h;cases n with
    |zero=>
      simp at hq;subst hq;rcases h.1 with h1|h1
      .exact absurd (by simpa using h1) hn
      .exact⟨h1.1.1,h1.1.2,h1.2⟩
    |succ n=>exact zbU5 h.2 n q (by simpa using hq) (by rwa [show i+1+n=i+(n+1)by omega])
theorem zbU6{an:List (List Nat)}{K:St->Prop}:∀(ps:List POp) (st:St) (log:List (List Nat×List Nat)),zaB4 C an ps st log K->∃(vs:Nat->A) (mws:Nat->List (Nat×MS)) (sts:Nat->St),K (sts ps.length)/\sts 0=st/\
    ∀j p,ps[j]? =some p->sts (j+1)=(sts j).app p.dst (vs j) (mws j)/\mwOk (sts j).nx (mws j)/\aopS C p (sts j).toS (sts j).nx (λ v mw=>v=vs j/\mw=mws j)/\zaY3 (zt2 C (sts j) p.xs)=true/\
      (∀i q,i<log.length->log[i]? =some q->i∉an.getD (log.length+j) []->disj q.2 (zE8 (zt2 C (sts j) p.xs))=true/\disj q.2 ((mws j).map (·.1))=true/\disj ((mws j).map (·.1)) q.1=true)/\
      (∀i q,i<j->ps[i]? =some q->log.length+i∉an.getD (log.length+j) []->disj ((mws i).map (·.1)) (zE8 (zt2 C (sts j) p.xs))=true/\disj ((mws i).map (·.1)) ((mws j).map (·.1))=true/\disj ((mws j).map (·.1)) (zE8 (zt2 C (sts i) q.xs))=true)
  |[],st,log,h=>⟨λ _=>.any,λ _=>[],λ _=>st,h,rfl,λ j p hp=>by simp at hp⟩
  |p::ps,st,log,h=>by
    obtain⟨v,mw,⟨hmw,hi,hcap,hrest⟩,h4⟩:=zdm4 (zdB8 h);obtain⟨vs,mws,sts,h5,h6,h7⟩:=zbU6 ps _ _ hrest;refine⟨λ i=>match i with|0=>v|i+1=>vs i,λ i=>match i with|0=>mw|i+1=>mws i,λ i=>match i with|0=>st|i+1=>sts i,h5,rfl,λ j q hq=>?_⟩;cases j with
    |zero=>simp at hq;subst hq;refine⟨h6,hmw,h4,hcap,λ i q hi2 hq hn=>?_,λ i q hi2=>by omega⟩;exact zbU5 hi i q hq (by rw[dV];exact hn)
    |succ j=>
      obtain⟨g1,g2,g3,g4,g5,g6⟩:=h7 j q (by simpa using hq);simp only[cD,List.length_cons,List.length_nil,dV]at g5 g6;refine⟨g1,g2,g3,g4,λ i x hi2 hx hn=>?_,λ i x hi2 hx hn=>?_⟩
      .exact g5 i x (by omega) (by rw[dR hi2];exact hx) (by rwa [show log.length+1+j=log.length+(j+1)by omega])
      · cases i with
        |zero=>simp at hx;subst hx;have:=g5 log.length (zE8 (zt2 C st p.xs),mw.map (·.1)) (by omega) (by rw[fC (dA _)];simp) (by rw[show log.length+1+j=log.length+(j+1)by omega];exact hn);exact this
        |succ i=>exact g6 i x (by omega) (by simpa using hx) (by rw[show log.length+1+j=log.length+(j+1)by omega,show log.length+1+i=log.length+(i+1)by omega];exact hn)
theorem zbU7{st:St}(xs:List PX):zt2 C st xs=zJ5 C st.toS.fr xs:=zbl2 xs
theorem zcJ6{os:Array Oper}{ps:List POp}{s0:S}{vs:Nat->A}{mws:Nat->List (Nat×MS)}{sts:Nat->St}{K:St->Prop}{Q:Exit->Act->World->Prop}(hG:E.G=C.G)(hr:ROk C E.N os 0 ps)(hso:POp.sortOk os.toList 0=true)
    (hco:zbE4 ps (ancs [] (os.toList.map zG8))=true) (hK:K (sts ps.length))
    (hst:∀j,j<=ps.length->(sts j).toS=FSt ps vs mws s0 (λ _=>true) j)
    (hv:∀j p,ps[j]? =some p->mwOk (sts j).nx (mws j)/\aopS C p (sts j).toS (sts j).nx (λ v mw=>v=vs j/\mw=mws j)/\zaY3 (zt2 C (sts j) p.xs)=true/\
      (∀i q,i<j->ps[i]? =some q->i∉(ancs [] (os.toList.map zG8)).getD j []->disj ((mws i).map (·.1)) (zE8 (zt2 C (sts j) p.xs))=true/\disj ((mws i).map (·.1)) ((mws j).map (·.1))=true/\disj ((mws j).map (·.1)) (zE8 (zt2 C (sts i) q.xs))=true))
    (hnx:∀i j,i<=j->(sts i).nx<=(sts j).nx) (hnx0:∀y,(sts 0).nx<=y->s0.mem y=.fresh) (hkey:∀j p y,ps[j]? =some p->y∈(mws j).map (·.1)->y<(sts (j+1)).nx)
    (hQ:∀st' a' w',K st'->Sat E st'.toS a' w'->Q .normal a' w'):
    ∀(fuel:Nat) (listed:Array Bool) (a:Act) (w:World),listed.size=os.size->Sat E (FSt ps vs mws s0 (λ i=>listed.getD i false) ps.length) a w->
      (∀j o,os[j]? =some o->listed.getD j false=true->∀i∈zG8 o,listed.getD i false=true)->left (λ i=>listed.getD i false) os.size<=fuel->
      wpAny C.P .any os Q fuel listed a w:=by
  have hlen:ps.length=os.size:=by have:=hr.size;omega
  have hdone:∀(listed:Array Bool) (a:Act) (w:World),Sat E (FSt ps vs mws s0 (λ i=>listed.getD i false) ps.length) a w->(∀i,i<os.size->listed.getD i false=true)->Q .normal a w:=by intro listed a w hs hall;refine hQ _ a w hK ?_;rw[hst ps.length (dA _),zbU4 (f:=λ _=>true) (f':=λ i=>listed.getD i false) ps.length λ i hi=>(hall i (by omega)).symm];exact hs
  have hready:∀(listed:Array Bool),listed.size=os.size->Region.ready .any os listed=[]->∀i,i<os.size->listed.getD i false=true:=by
    intro listed hsz hr0 i;induction i using Nat.strongRecOn with
    |_ i ih=>
      intro hi;cases hl:listed.getD i false with
      |true=>rfl
      |false=>
        have:i∈Region.ready .any os listed:=by
          rw[mem_ready];refine⟨?_,os[i],by simp[hi],λ e he hb=>?_⟩
          · have h1:i<listed.size:=by omega
            simp only[Array.getD,h1,kN]at hl⊢;exact hl
          · have h2:e.on∈zG8 os[i]:=by
              simp only[zG8,cI,hI];exact⟨e,⟨by simpa using he,hb⟩,rfl⟩
            have h3:=zbl4 os.toList 0 hso i os[i] (by simp[hi]) e.on h2;exact ih e.on (by omega) (by omega)
        rw[hr0]at this;cases this
  intro fuel;induction fuel with
  |zero=>
    intro listed a w hsz hs hcl hle;have hall:=zbE7 (f:=λ i=>listed.getD i false) os.size (by omega);refine⟨?_,hdone listed a w hs hall⟩;cases hrd:Region.ready .any os listed with
    |nil=>rfl
    |cons i rs=>
      have:i∈Region.ready .any os listed:=by rw[hrd];simp
      rw[mem_ready]at this;obtain⟨h1,o,ho,_⟩:=this;have hi:=(cV.1 ho).1;have:=hall i hi;have h2:i<listed.size:=by omega
      simp only[Array.getD,h2,kN]at h1 this;rw[this]at h1;cases h1
  |succ fuel ih=>
    intro listed a w hsz hs hcl hle;refine⟨λ hr0=>hdone listed a w hs (hready listed hsz hr0),λ i hi=>?_⟩;rw[mem_ready]at hi;obtain⟨hl,o,ho,hed⟩:=hi;have hlt:=(cV.1 ho).1;have hlt2:i<listed.size:=by omega
    have hl:listed.getD i false=false:=by simp only[Array.getD,hlt2,kN]at hl⊢;exact hl
    obtain⟨p,hp,hpo⟩:=hr.at (j:=i) (by rw[dV];exact ho);have hedge:∀k∈zG8 o,listed.getD k false=true:=by intro k hk;simp only[zG8,cI,hI]at hk;obtain⟨e,⟨he,hb⟩,rfl⟩:=hk;exact hed e (by simpa using he) hb
    have hset:(listed.setIfInBounds i true).getD i false=true:=by simp[Array.getD,hlt2]
    have hsetne:∀k,k≠i->(listed.setIfInBounds i true).getD k false=listed.getD k false:=λ k hk=>getD_set_ne false (lA hk);have hcl':∀j o,os[j]? =some o->(listed.setIfInBounds i true).getD j false=true->∀k∈zG8 o,(listed.setIfInBounds i true).getD k false=true:=by
      intro j o' ho' hj k hk
      by_cases hji:j=i
      · subst hji
        rw[ho]at ho';cases ho';exact getD_set_true (hedge k hk)
      · rw[hsetne j hji]at hj
        exact getD_set_true (hcl j o' ho' hj k hk)
    have hanc:∀j,(listed.setIfInBounds i true).getD j false=true->∀k∈(ancs [] (os.toList.map zG8)).getD j [],(listed.setIfInBounds i true).getD k false=true:=
      zaZ8 (D:=λ j=>(listed.setIfInBounds i true).getD j false=true) _ [] (λ j e he hD=>by
        simp only[cN,cH]at he;obtain⟨o',ho',rfl⟩:=he;exact hcl' j o' (by simpa using ho') (by simpa using hD)) (λ j _ k hk=>by simp at hk)
    have hanc0:∀j,listed.getD j false=true->∀k∈(ancs [] (os.toList.map zG8)).getD j [],listed.getD k false=true:=
      zaZ8 (D:=λ j=>listed.getD j false=true) _ [] (λ j e he hD=>by
        simp only[cN,cH]at he;obtain⟨o',ho',rfl⟩:=he;exact hcl j o' (by simpa using ho') (by simpa using hD)) (λ j _ k hk=>by simp at hk)
    have hbef:∀k q,k<i->ps[k]? =some q->conf q p=true->listed.getD k false=true:=by intro k q hk hq hc;have:=hanc i hset k (zaW0 hco hk hq hp hc);rwa [hsetne k (by omega)]at this
    have haft:∀k q,i<k->ps[k]? =some q->conf p q=true->listed.getD k false=false:=by
      intro k q hk hq hc;cases hlk:listed.getD k false with
      |false=>rfl
      |true=>have:=hanc0 k hlk i (zaW0 hco hk hp hq hc);rw[hl]at this;cases this
    have hbefM:∀k,k<i->listed.getD k false=false->k∉(ancs [] (os.toList.map zG8)).getD i []:=λ k hk hlk hh=>by have:=hanc i hset k hh;rw[hsetne k (by omega),hlk]at this;cases this
    have haftM:∀k,i<k->listed.getD k false=true->i∉(ancs [] (os.toList.map zG8)).getD k []:=λ k hk hlk hh=>by have:=hanc0 k hlk i hh;rw[hl]at this;cases this
    obtain ⟨hmw,haop,hcap,hind⟩:=hv i p hp;have hil:i<ps.length:=(cE.1 hp).1;have hsi:=hst i (iY hil);have hrow:∀y,(y∈zE8 (zt2 C (sts i) p.xs)\/y∈(mws i).map (·.1))->(FSt ps vs mws s0 (λ k=>listed.getD k false) ps.length).mem y=(sts i).toS.mem y:=λ y hy=>by
      rw[hsi];have:=zcJ5 (ps:=ps) (vs:=vs) (mws:=mws) (s:=s0) (f:=λ k=>listed.getD k false) (j:=i) (y:=y) (λ k q hk hq hyk=>?_) (λ k q hk hq hyk=>?_) ps.length
      .rw[this,iL (iY hil)]
      · cases hlk:listed.getD k false with
        |true=>rfl
        |false=>
          obtain⟨g1,g2,g3⟩:=hind k q hk hq (hbefM k hk hlk);rcases hy with hy|hy
          .exact absurd hy (zaP7 g1 y hyk)
          .exact absurd hy (zaP7 g2 y hyk)
      · cases hlk:listed.getD k false with
        |false=>rfl
        |true=>
          have hki:i<k:=by
            rcases Nat.lt_or_eq_of_le hk with h|h
            .exact h
            .subst h;rw[hl]at hlk;cases hlk
          obtain⟨g0,g00,g000,gg⟩:=hv k q hq;obtain⟨g1,g2,g3⟩:=gg i p hki hp (haftM k hki hlk);rcases hy with hy|hy
          .exact absurd hy (zaP7 g3 y hyk)
          .exact absurd hyk (zaP7 g2 y hy)
    have hslot:∀t∈p.rds,(sts i).toS.fr t=(FSt ps vs mws s0 (λ k=>listed.getD k false) ps.length).fr t:=λ t ht=>by
      rw[hsi];rw[zcT3 (j:=i) (t:=t) (f:=λ k=>listed.getD k false) (λ k q hk hq hd=>hbef k q hk hq (zbe4 hd (.inl ht)).1) (λ k q hk hq hd=>?_) ps.length,iL (iY hil)]
      by_cases hki:k=i
      .subst hki;exact hl
      .exact haft k q (by omega) hq ((zbe4 hd (.inl ht)).2 ht)
    have haop2:=zcJ4 (s2:=FSt ps vs mws s0 (λ k=>listed.getD k false) ps.length) hslot (λ y hy=>(hrow y (.inl (by rw[zbU7];exact hy))).symm) (λ y hy=>(hrow y (.inr hy)).symm) (λ f caps vals _ hvals c hc=>by
      rw[zbU7,hvals]at hcap;exact zbK3 hcap c hc) haop
    have hfin:∃id,(FSt ps vs mws s0 (λ k=>listed.getD k false) ps.length).mem id=.fresh/\aopS C p (FSt ps vs mws s0 (λ k=>listed.getD k false) ps.length) id (λ v mw=>v=vs i/\mw=mws i):=by
      rcases zdB9 haop2 with h1|h1
      .exact⟨_,by rw[hrow _ (.inr h1)];exact(sts i).m_nx,haop2⟩
      · refine⟨(sts ps.length).nx,?_,h1 _ (hnx i _ (iY hil))⟩
        rw[zcJ5 (j:=0) (f:=λ k=>listed.getD k false) (λ k q hk=>by omega) (λ k q _ hq hyk=>by
          have h2:=hkey k q _ hq hyk;have h3:=hnx (k+1) ps.length (cE.1 hq).1;omega) ps.length]
        simp only[Nat.min_zero,FSt];exact hnx0 _ (hnx 0 _ (fD _))
    obtain⟨id,hid,haop3⟩:=hfin;obtain⟨W,μ,hs⟩:=hs;have key:=zbT4 hs hG hid hpo haop3 (Q:=Q) (k:=wpAny C.P .any os Q fuel (listed.setIfInBounds i true)) (λ v mw a' w' hvm hs'=>by
      obtain⟨rfl,rfl⟩:=hvm;refine ih _ a' w' (by simpa using hsz) ?_ hcl' ?_
      · obtain⟨e1,e2⟩:=zdm6 (vs:=vs) (mws:=mws) (s:=s0) (f:=λ k=>listed.getD k false) hp hl (λ k=>(listed.setIfInBounds i true).getD k false) hset hsetne (λ k q hk hq hfk=>by
          cases hc:conf p q with
          |false=>rfl
          |true=>have:=haft k q hk hq hc;exact absurd (this.symm.trans hfk) (by simp)) (λ k q hk hq hfk y hy hyk=>by
          obtain⟨g0,g00,g000,gg⟩:=hv k q hq;obtain⟨g1,g2,g3⟩:=gg i p hk hp (haftM k hk hfk);exact zaP7 g2 y hy hyk) ps.length
        have e:FSt ps vs mws s0 (λ k=>(listed.setIfInBounds i true).getD k false) ps.length=⟨setF (FSt ps vs mws s0 (λ k=>listed.getD k false) ps.length).fr p.dst (vs i),setM (FSt ps vs mws s0 (λ k=>listed.getD k false) ps.length).mem (mws i)⟩:=by
          have h1:(FSt ps vs mws s0 (λ k=>(listed.setIfInBounds i true).getD k false) ps.length).fr=setF (FSt ps vs mws s0 (λ k=>listed.getD k false) ps.length).fr p.dst (vs i):=funext λ t=>by rw[e1 t,zbe6];simp only[hil,fK]
          have h2:(FSt ps vs mws s0 (λ k=>(listed.setIfInBounds i true).getD k false) ps.length).mem=setM (FSt ps vs mws s0 (λ k=>listed.getD k false) ps.length).mem (mws i):=funext λ y=>by rw[e2 y,bX hil]
          rw[<-h1,<-h2]
        rw[e];exact hs'
      · have:=zbU1 (f:=λ k=>listed.getD k false) (f':=λ k=>(listed.setIfInBounds i true).getD k false) (j:=i) hl hset hsetne os.size
        rw[bX hlt]at this;omega)
    simp only[wpOp,ho];split at key
    .rename_i hw;rw[bX hw];exact .inl key
    .rename_i hw;rw[bV hw];exact key
theorem zbU8:∀(mw:List (Nat×MS)) (nx:Nat),nx<=nxt nx mw
  |[],nx=>dA _
  |q::mw,nx=>by simp only[nxt];refine eC ?_ (zbU8 mw _);split<;>omega
theorem zdm7:∀{mw:List (Nat×MS)} {nx:Nat},mwOk nx mw->∀y∈mw.map (·.1),y<nxt nx mw
  |q::mw,nx,h,y,hy=>by
    obtain⟨h1,h2,h3⟩:=h;simp only[nxt];rcases cF.1 hy with rfl|hy
    · refine eG ?_ (zbU8 mw _)
      show q.1<_;split<;>omega
    .exact zdm7 h3 y hy
theorem zdC0{Q:Exit->St->Prop}{st:St}{dr:List Nat}{an:List (List Nat)}{ops:List POp}(hm:C.P.follows .mixedOrders=true)(hG:E.G=C.G)(h:zaB4 C an ops st [] λ s=>Q .normal (s.drop dr)):AW C E (.regm dr an ops) Q st:=λ code hc a w hs=>by
  cases code with
  |region id os d=>
   cases d with
   |false=>simp[chkC]at hc
   |true=>
    simp only[chkC,bU,dK]at hc;obtain⟨hc1,hc2,hc3,hc4⟩:=hc;have hr:ROk C E.N os 0 ops:=by obtain⟨P,G⟩:=C;exact zbq1 os.toList ops 0 hc1 (by simp) (by simp)
    obtain⟨vs,mws,sts,hK,h0,hv⟩:=zbU6 ops st [] h;subst hc4;have hnx1:∀j,(sts j).nx<=(sts (j+1)).nx\/ops.length<=j:=λ j=>by
      by_cases hj:j<ops.length
      · obtain⟨g1,g2,_⟩:=hv j ops[j] (by simp[hj])
        left;rw[g1];exact zbU8 _ _
      .right;omega
    let sts':Nat->St:=λ j=>if j<=ops.length then sts j else sts ops.length
    have hs':∀j,j<=ops.length->sts' j=sts j:=λ j hj=>bX hj;have hs2:∀j,ops.length<=j->sts' j=sts ops.length:=λ j hj=>by
      show(if j<=ops.length then sts j else sts ops.length)=_;split
      .rw[show j=ops.length by omega]
      .rfl
    have hstep:∀j,(sts' j).nx<=(sts' (j+1)).nx:=λ j=>by
      by_cases hj:j<ops.length
      · rw[hs' j (by omega),hs' (j+1) (by omega)]
        rcases hnx1 j with h1|h1
        .exact h1
        .omega
      .rw[hs2 j (by omega),hs2 (j+1) (by omega)];exact dA _
    have hmono:∀i j,i<=j->(sts' i).nx<=(sts' j).nx:=λ i j hij=>by
      induction j with
      |zero=>rw[show i=0 by omega];exact dA _
      |succ j ih=>
        by_cases hi:i=j+1
        .rw[hi];exact dA _
        .exact eC (ih (by omega)) (hstep j)
    have hFS:∀j,j<=ops.length->(sts' j).toS=FSt ops vs mws st.toS (λ _=>true) j:=λ j hj=>by
      rw[hs' j hj];induction j with
      |zero=>rw[h0];rfl
      |succ j ih=>
        obtain⟨g1,g2,_⟩:=hv j ops[j] (by simp[show j<ops.length by omega]);have ih:=ih (by omega);rw[g1,zbP8 _ _ _ _ g2];have hq:ops[j]? =some ops[j]:=by simp[show j<ops.length by omega]
        simp only[FSt,hq,cC];rw[<-ih];rfl
    refine wp_region_any hm ?_;refine zcJ6 (s0:=st.toS) (vs:=vs) (mws:=mws) (sts:=sts') (K:=λ s=>Q .normal (s.drop dr)) hG hr hc2 hc3 (by rw[hs' _ (dA _)];exact hK) hFS (λ j p hp=>?_) hmono (λ y hy=>?_) (λ j p y hp hy=>?_) (λ st' a' w' hQ hs'=>⟨_,hQ,hs'.drop⟩) os.size _ a _ (by simp) ?_ (λ j o ho hj=>?_) ?_
    · have hj:=(cE.1 hp).1
      obtain⟨g1,g2,g3,g4,_,g6⟩:=hv j p hp;rw[hs' j (by omega)];refine⟨g2,g3,g4,λ i q hi hq hn=>?_⟩;rw[hs' i (by omega)];simp only[List.length_nil,dV]at g6;exact g6 i q hi hq hn
    · rw[hs' 0 (fD _),h0]at hy
      exact zcp0 st y hy
    · have hj:=(cE.1 hp).1
      obtain⟨g1,g2,_⟩:=hv j p hp;rw[hs' (j+1) (by omega),g1];exact zdm7 g2 y hy
    · have e:FSt ops vs mws st.toS (λ i=>(Array.replicate os.size false).getD i false) ops.length=FSt ops vs mws st.toS (λ _=>false) ops.length:=zbU4 _ λ i _=>by simp[Array.getD]
      have e2:∀n,FSt ops vs mws st.toS (λ _=>false) n=st.toS:=λ n=>by
        induction n with
        |zero=>rfl
        |succ n ih=>simp only[FSt,ih,bT,cB];split<;>rfl
      rw[e,e2];exact hs.drawn (kM _)
    .simp[Array.getD]at hj
    · have:∀n,left (λ i=>(Array.replicate os.size false).getD i false) n<=n:=λ n=>by
        induction n with
        |zero=>exact dA _
        |succ n ih=>simp only[left];split<;>omega
      exact this _
  |_=>simp[chkC]at hc
end
def memN(n:Nat):List Nat->Bool
 |[]=>false
 |m::ms=>if n=m then true else memN n ms
theorem zbU9{n:Nat}:∀{l:List Nat},memN n l=true↔n∈l
 |[]=>by simp[memN]
 |m::ms=>by
  unfold memN;split
  .rename_i h;simp[h]
  .rename_i h;rw[zbU9];simp[h]
def fzA(ids:List Nat)(m:Nat->MS):A->A
 | .own y lo n=>if memN y ids=true then frz1 m (.own y lo n)else .own y lo n
 |a=>a
def fzCs(ids:List Nat)(m:Nat->MS):List A->List A
 |[]=>[]
 |a::as=>fzA ids m a::fzCs ids m as
def fzV(ids:List Nat)(m:Nat->MS):A->A
 | .agg cs=>if zk9 cs=true then .agg cs else .agg (fzCs ids m cs)
 |a=>fzA ids m a
def fzEs(ids:List Nat)(m:Nat->MS)(es:List (List A)):List (List A):=if pureEs es=true then es else es.map (fzCs ids m)
def fzFr(ids:List Nat)(m:Nat->MS):List (Nat×A)->List (Nat×A)
 |[]=>[]
 |q::r=>(q.1,fzV ids m q.2)::fzFr ids m r
def zcy5(ids:List Nat)(m:Nat->MS):List (Nat×Row)->List (Nat×Row)
 |[]=>[]
 |q::r=>(q.1,⟨q.2.ro||memN q.1 ids,q.2.sz,q.2.z,fzEs ids m q.2.es⟩)::zcy5 ids m r
def zck0(ids:List Nat)(m:Nat->MS):A->Prop
 | .own y lo n=>if memN y ids=true then zau0 m (.own y lo n)else True
 |_=>True
def zbE8(ids:List Nat)(m:Nat->MS):List A->Prop
 |[]=>True
 |a::as=>zck0 ids m a/\zbE8 ids m as
def zcy6(ids:List Nat)(m:Nat->MS):A->Prop
 | .agg cs=>if zk9 cs=true then True else zbE8 ids m cs
 |a=>zck0 ids m a
def zbQ4(ids:List Nat)(m:Nat->MS):List (List A)->Prop
 |[]=>True
 |c::cs=>zbE8 ids m c/\zbQ4 ids m cs
def zcp3(ids:List Nat)(m:Nat->MS)(es:List (List A)):Prop:=if pureEs es=true then True else zbQ4 ids m es
def zcp4(ids:List Nat)(m:Nat->MS):List (Nat×A)->Prop
 |[]=>True
 |q::r=>zcy6 ids m q.2/\zcp4 ids m r
def zbQ5(ids:List Nat)(m:Nat->MS):List (Nat×Row)->Prop
 |[]=>True
 |q::r=>zcp3 ids m q.2.es/\zbQ5 ids m r
def St.fz(st:St)(ids:List Nat):St:=⟨fzFr ids st.m st.fr,zcy5 ids st.m st.mem,st.nx⟩
def St.fzOk(st:St)(ids:List Nat):Prop:=zcp4 ids st.m st.fr/\zbQ5 ids st.m st.mem
section
variable {C:Cx} {a:Act} {E:Env} {st:St} {w:World} {W:Nat→Prop} {μ:Nat→Loc}
theorem zcp5(ids:List Nat)(m:Nat->MS):∀(cs:List A) (i:Nat),(fzCs ids m cs)[i]? =(cs[i]?).map (fzA ids m)
 |[],i=>by simp[fzCs]
 |c::cs,i=>by
  cases i with
  |zero=>simp[fzCs]
  |succ i=>simp[fzCs,zcp5 ids m cs i]
theorem zbV0(ids:List Nat)(m:Nat->MS):∀cs:List A,(fzCs ids m cs).length=cs.length
 |[]=>rfl
 |_::cs=>by simp[fzCs,zbV0 ids m cs]
theorem zbE9{ids:List Nat}{m:Nat->MS}:∀{cs:List A},zbE8 ids m cs->∀c∈cs,zck0 ids m c
 |c::cs,h,d,hd=>by
  rcases cF.1 hd with rfl|hd
  .exact h.1
  .exact zbE9 h.2 d hd
theorem zbV1{ids:List Nat}{m:Nat->MS}:∀{cs:List (List A)},zbQ4 ids m cs->∀c∈cs,zbE8 ids m c
 |c::cs,h,d,hd=>by
  rcases cF.1 hd with rfl|hd
  .exact h.1
  .exact zbV1 h.2 d hd
theorem zck1(ids:List Nat)(m:Nat->MS)(t:Nat):∀fr:List (Nat×A),look (fzFr ids m fr) t=(look fr t).map (fzV ids m)
 |[]=>rfl
 |q::r=>by
  simp only[fzFr,look];split
  .rfl
  .exact zck1 ids m t r
theorem zbV2(ids:List Nat)(m:Nat->MS)(x:Nat):∀mem:List (Nat×Row),look (zcy5 ids m mem) x=(look mem x).map λ r=>⟨r.ro||memN x ids,r.sz,r.z,fzEs ids m r.es⟩
 |[]=>rfl
 |q::r=>by
  simp only[zcy5,look];split
  .rename_i h;subst h;rfl
  .exact zbV2 ids m x r
theorem zck2{ids:List Nat}{m:Nat->MS}:∀{fr:List (Nat×A)},zcp4 ids m fr->∀t v,look fr t=some v->zcy6 ids m v
 |q::r,h,t,v,hv=>by
  simp only[look]at hv;split at hv
  .cases hv;exact h.1
  .exact zck2 h.2 t v hv
theorem zbV3{ids:List Nat}{m:Nat->MS}:∀{mem:List (Nat×Row)},zbQ5 ids m mem->∀x r,look mem x=some r->zcp3 ids m r.es
 |q::r,h,t,v,hv=>by
  simp only[look]at hv;split at hv
  .cases hv;exact h.1
  .exact zbV3 h.2 t v hv
theorem RepK.less{v:Value}{x:A}{ids:List Nat}(h:RepK w W μ v x):RepK w (zaK1 W μ ids) μ v x:=
 h.goes (Keeps.refl (λ _=>False) w) (λ _ _ _ h=>h) (λ _ _ h1 h2=>h1 h2.1) (Old.refl μ)
theorem zcp6{s:S}(hs:SatW E s a w W μ){v:Value}{x:A}{ids:List Nat}(h:RepK w W μ v x)(hok:zck0 ids s.mem x):RepK w (zaK1 W μ ids) μ v (fzA ids s.mem x):=by
 cases x with
 |own y lo n=>
  simp only[fzA,zck0]at hok⊢;split
  .rename_i hy;rw[bX hy]at hok;exact zr3 (zbT1 hs h hok (λ z hz=>by simp[zT7]at hz;subst hz;exact zbU9.1 hy))
  .exact h.less
 |_=>exact h.less
theorem zdK7{s:S}(hs:SatW E s a w W μ){v:Value}{x:A}{ids:List Nat}(h:Rep w W μ v x)(hok:zcy6 ids s.mem x):Rep w (zaK1 W μ ids) μ v (fzV ids s.mem x):=by
 have hgo:Rep w (zaK1 W μ ids) μ v x:=h.goes (Keeps.refl (λ _=>False) w) (λ _ _ _ h=>h) (λ _ _ h1 h2=>h1 h2.1) (Old.refl μ);cases x with
 |own y lo n=>exact zp1 (zo0 (zcp6 (x:=.own y lo n) hs h hok))
 |agg cs=>
  simp only[fzV,zcy6]at hok⊢;split
  .exact hgo
  .rename_i hp;rw[bV hp]at hok;obtain⟨vs,hv,hl,hr⟩:=h;refine⟨vs,hv,by rw[zbV0];exact hl,λ i u b hu hb=>?_⟩;rw[zcp5]at hb;obtain⟨c,hc,rfl⟩:=cH.1 hb;exact zcp6 hs (hr i u c hu hc) (zbE9 hok c (cQ hc))
 |_=>exact hgo
@[go_sem] theorem zdS1(ids:List Nat)(m:Nat->MS)(s:List Nat):(s.map iE).map (fzCs ids m)=s.map iE:=by simp[iE,fzCs,fzA]
theorem zdC1{ids:List Nat}{m:Nat->MS}{y c:Nat}{seen:List Nat}:fzEs ids m ([.mp y,.int .i64 c]::seen.map iE)=[.mp y,.int .i64 c]::seen.map iE:=by unfold fzEs;rw[bV (by simp[pureEs,zk9,A.pure1]),dF,zdS1];rfl
theorem zcY7{s:S}(hs:SatW E s a w W μ)(ids:List Nat):zbk6 w (zaK1 W μ ids) E.G:=λ g cs hg=>by obtain⟨h1,h2,h3⟩:=hs.glob g cs hg;refine⟨λ hh=>h1 hh.1,h2,λ j b hj=>?_⟩;obtain⟨u,hu,hr⟩:=h3 j b hj;exact⟨u,hu,hr.less⟩
theorem St.le_fz(ids:List Nat)(h:st.fzOk ids):St.le E st (st.fz ids):=by
 intro a w ⟨W,μ,hs⟩;refine⟨zaK1 W μ ids,μ,{hs with
  fr:=λ t=>?_
  mem:=λ x=>?_
  wsub:=λ b hb=>hs.wsub b hb.1
  wsup:=λ b hb=>?_
  wlt:=λ b hb=>hs.wlt b hb.1
  glob:=zcY7 hs ids}⟩
 .show Rep w _ μ _ ((st.fz ids).slot t);have hr:Rep w W μ _ (st.slot t):=hs.fr t;simp only[St.slot,St.fz,zck1]at hr⊢;cases hl:look st.fr t with
  |none=>trivial
  |some v=>rw[hl]at hr;exact zdK7 hs hr (zck2 h.1 t v hl)
 .show zau9 w _ μ x ((st.fz ids).m x);have hm:zau9 w W μ x (st.m x):=hs.mem x;simp only[St.m,St.fz,zbV2]at hm⊢;split
  .rename_i hx;rw[bX hx]at hm;exact hm
  .rename_i hx;rw[bV hx]at hm;cases hl:look st.mem x with
   |none=>rw[hl]at hm;exact hm
   |some r=>
    rw[hl]at hm;have hok:=zbV3 h.2 x r hl;have hro':∀k,μ x=.at_ k->(r.ro=false->W k.b)->(r.ro||memN x ids)=false->zaK1 W μ ids k.b:=λ k e1 hro hr'=>by simp only[fU]at hr';refine⟨hro hr'.1,λ⟨y,ky,hy,hy2,hy3⟩=>?_⟩;have:=hs.inj y x ky k hy2 e1 hy3;subst this;rw[zbU9.2 hy]at hr';cases hr'.2
    rcases hm with⟨e1,e2,e3⟩|⟨k,e1,⟨hro,hsz,hpos,us,rest,e,h4,h5,h6⟩|gM|gI⟩
    .exact .inl ⟨e1,by show fzEs ids st.m r.es=[];rw[e2];rfl,e3⟩
    rotate_left
    .have hp:=gM.pure;obtain⟨hro,hsz,hpos,es,h4,h5,h6⟩:=gM;refine .inr ⟨k,e1,.inr (.inl ⟨λ hr=>hro' k e1 hro hr,hsz,hpos,es,h4,?_,λ i e c q1 q2=>?_⟩)⟩
     .show es.size=(fzEs ids st.m r.es).length;unfold fzEs;rw[bX hp];exact h5
     .have q3:(fzEs ids st.m r.es)[i]? =some c:=q2;unfold fzEs at q3;rw[bX hp]at q3;exact(h6 i e c q1 q3).keep (Keeps.refl (λ _=>False) w) (λ _ _ _ h=>h) (λ _ _ h h2=>h h2.1)
    .obtain⟨hro,hsz,hpos,hz,y,b,c,seen,h4,h5,h6⟩:=gI;exact .inr ⟨k,e1,.inr (.inr ⟨λ hr=>hro' k e1 hro hr,hsz,hpos,hz,y,b,c,seen,by show fzEs ids st.m r.es=_;rw[h4];exact zdC1,h5,h6⟩)⟩
    .refine .inr ⟨k,e1,.inl ⟨λ hr=>hro' k e1 hro hr,hsz,hpos,us,rest,e,h4,h5,?_⟩⟩
     .show Flat _ r.sz us (fzEs ids st.m r.es);unfold fzEs;unfold zcp3 at hok;split
      .exact h6.mono λ u b hr=>hr.less
      .rename_i hp;rw[bV hp]at hok;refine⟨by simpa using h6.hl,λ i c hc=>?_,λ i c j b hc hb=>?_⟩
       .simp only[cN,cH]at hc;obtain⟨c0,hc0,rfl⟩:=hc;rw[zbV0];exact h6.hs i c0 hc0
       .simp only[cN,cH]at hc;obtain⟨c0,hc0,rfl⟩:=hc;rw[zcp5]at hb;obtain⟨b0,hb0,rfl⟩:=cH.1 hb;obtain⟨u,hu,hr⟩:=h6.ha i c0 j b0 hc0 hb0;exact⟨u,hu,zcp6 hs hr (zbE9 (zbV1 hok c0 (cQ hc0)) b0 (cQ hb0))⟩
 .rcases hs.wsup b hb with h1|h1
  .by_cases hx:∃x k,x∈ids/\μ x=.at_ k/\k.b=b
   .obtain⟨x,k,_,hx2,hx3⟩:=hx;rcases hs.live x k hx2 with h2|h2
    .exact .inr (hx3▸h2)
    .have:=hs.winlt b hb;omega
   .exact .inl ⟨h1,hx⟩
  .exact .inr h1
def St.own0(st:St)(t sz:Nat)(z:List A):St:=⟨(t,.own st.nx 0 0)::rm t st.fr,(st.nx,⟨false,sz,z,[]⟩)::st.mem,st.nx+1⟩
theorem St.le_own0(t sz:Nat)(z:List A)(hz:0<sz)(h:st.slot t=.full []):St.le E st (st.own0 t sz z):=by
 intro a w ⟨W,μ,hs⟩;have hst:=Step.newEmpty (r:=⟨false,sz,z,[]⟩) hs.mem hs.inj hs.wlt (St.m_nx st) hz rfl (Keeps.refl _ w);have h2:=hs.step (d:=none) (v:=undef) (av:=.any) hst (λ x hx=>by cases hx) trivial;have hem:(st.own0 t sz z).m=setM st.m [(st.nx,.row ⟨false,sz,z,[]⟩)]:=by
  funext x;simp only[St.m,St.own0,setM,look]
  by_cases hx:x=st.nx
  .subst hx;rw[bV (by omega),bX rfl,bX rfl]
  .by_cases h3:st.nx<=x
   .rw[bX (show st.nx+1<=x by omega),bV hx,bX h3]
   .rw[bV (show¬st.nx+1<=x by omega),bV (show¬st.nx=x by omega),bV hx,bV h3]
 refine⟨_,_,{h2 with fr:=λ t'=>?_,mem:=?_}⟩
 .have h3:=h2.fr t';show Rep w W _ (a.tmps.getD t' undef) ((st.own0 t sz z).slot t');have h4:Rep w W (λ x=>if x=st.nx then .empty else μ x) (a.tmps.getD t' undef) (st.slot t'):=h3;simp only[St.slot,St.own0,look];split
  .rename_i ht;subst ht;rw[h]at h4;have h5:RepC w W (a.tmps.getD t undef) (.full []):=h4;generalize a.tmps.getD t undef=v at h5;cases h5 with
   |full ad n es h6=>
    cases h6 with
    |sl0=>exact zaY1 (by simp) 0
    |sl b off cap s es us _ _ hn=>simp at hn
  .rename_i ht;rw[zaI7,bV (λ e=>ht e.symm)];exact h4
 .show zaA5 w W _ (st.own0 t sz z).m;rw[hem];exact h2.mem
def zbe7(j n:Nat):List (List A)->List (List A)
 |[c]=>[upd c j [.own n 0 0]]
 |es=>es
def zbA9(x j n:Nat):List (Nat×Row)->List (Nat×Row)
 |[]=>[]
 |q::r=>if q.1=x then(q.1,⟨q.2.ro,q.2.sz,q.2.z,zbe7 j n q.2.es⟩)::r else q::zbA9 x j n r
def zdm8(j:Nat):List (List A)->Prop
 |[c]=>sub c j 1=[.full []]
 |_=>False
def St.ownb(st:St)(x j sz:Nat)(z:List A):St:=⟨st.fr,(st.nx,⟨false,sz,z,[]⟩)::zbA9 x j st.nx st.mem,st.nx+1⟩
def St.ownbOk(st:St)(x j sz:Nat):Prop:=0<sz/\match st.m x with
 | .row r=>0<r.sz/\zdm8 j r.es
 |_=>False
theorem zbB0(x j n y:Nat):∀mem:List (Nat×Row),look (zbA9 x j n mem) y=(look mem y).map λ r=>if y=x then⟨r.ro,r.sz,r.z,zbe7 j n r.es⟩else r
 |[]=>rfl
 |q::r=>by
  simp only[zbA9];split
  .rename_i h;simp only[look];split
   .rename_i h2;simp[<-h2,h]
   .rename_i h2;have:¬y=x:=λ e=>h2 (h.trans e.symm);cases look r y<;>simp[this]
  .rename_i h;simp only[look];split
   .rename_i h2;simp[<-h2,h]
   .exact zbB0 x j n y r
theorem zcy7{v:Value}{x:Nat}(hx:μ x=.empty)(h:RepK w W μ v (.full [])):RepK w W μ v (.own x 0 0):=by
 have h5:RepC w W v (.full []):=h;cases h5 with
 |full ad n es h6=>
  cases h6 with
  |sl0=>refine⟨rfl,?_⟩;rw[hx];exact⟨rfl,ad,rfl⟩
  |sl b off cap s es us _ _ hn=>simp at hn
theorem St.le_ownb(x j sz:Nat)(z:List A)(h:st.ownbOk x j sz):St.le E st (st.ownb x j sz z):=by
 obtain⟨hz,hnil⟩:=h;intro a w ⟨W,μ,hs⟩;have hst:=Step.newEmpty (r:=⟨false,sz,z,[]⟩) hs.mem hs.inj hs.wlt (St.m_nx st) hz rfl (Keeps.refl _ w);have h2:=hs.step (d:=none) (v:=undef) (av:=.any) hst (λ x hx=>by cases hx) trivial;refine⟨_,_,{h2 with fr:=λ t=>h2.fr t,mem:=λ y=>?_}⟩;have hm:=h2.mem y;have hxn:x<st.nx:=by
  cases hr:st.m x with
  |fresh=>rw[hr]at hnil;exact hnil.elim
  |dead=>rw[hr]at hnil;exact hnil.elim
  |row r=>exact St.m_row hr
 show zau9 w W _ y ((st.ownb x j sz z).m y);have hm':zau9 w W (λ x=>if x=st.nx then .empty else μ x) y (setM st.m [(st.nx,.row ⟨false,sz,z,[]⟩)] y):=hm;simp only[setM]at hm'
 by_cases hy:y=st.nx
 .subst hy;have e:(st.ownb x j sz z).m st.nx=.row ⟨false,sz,z,[]⟩:=by
   simp only[St.m,St.ownb,look];rw[bV (by omega)];simp
  rw[bX rfl]at hm';rw[e];exact hm'
 rw[bV hy]at hm';have e:(st.ownb x j sz z).m y=match st.m y with
   | .row r=>.row (if y=x then⟨r.ro,r.sz,r.z,zbe7 j st.nx r.es⟩else r)
   |q=>q:=by
  simp only[St.m,St.ownb,look,zbB0]
  by_cases h3:st.nx<=y
  .rw[bX (show st.nx+1<=y by omega),bX h3]
  .rw[bV (show¬st.nx+1<=y by omega),bV (show¬st.nx=y by omega),bV h3];cases look st.mem y<;>rfl
 rw[e];cases hr:st.m y with
 |fresh=>rw[hr]at hm';exact hm'
 |dead=>rw[hr]at hm';exact hm'
 |row r=>
  rw[hr]at hm';simp only
  by_cases hyx:y=x
  .subst hyx;rw[bX rfl];rw[hr]at hnil;obtain⟨hpz,hnil⟩:0<r.sz/\zdm8 j r.es:=hnil;rcases hm' with⟨g1,g2,g3⟩|⟨k,g1,gA⟩
   .rw[g2]at hnil;exact hnil.elim
   .obtain⟨g2,g3,g4,us,rest,e',g5,g6,g7⟩:=gA.ok (by have:=gA.wr.2;omega);refine .inr ⟨k,g1,.inl ⟨g2,g3,g4,us,rest,e',g5,g6,?_⟩⟩;show Flat _ r.sz us (zbe7 j st.nx r.es);obtain⟨ro,sz',z',es⟩:=r
    match es,hnil with
    |[c],hnil=>
     have hj:sub c j 1=[.full []]:=hnil;have hc:c.length=sz':=g7.hs 0 c rfl;have hjl:c[j]? =some (.full []):=by
      have h8:((c.drop j).take 1)[0]? =some (.full []):=by show(sub c j 1)[0]? =_;rw[hj];rfl
      simpa [dT,dZ]using h8
     have hlt:j<c.length:=(cE.1 hjl).1;have hu:upd c j [.own st.nx 0 0]=c.set j (.own st.nx 0 0):=by simp only[upd,List.length_cons,List.length_nil,dV];rw[jQ,bX hlt];simp
     refine⟨g7.hl,λ i d hd=>?_,λ i d q b hd hb=>?_⟩
     .cases i with
      |zero=>simp[zbe7]at hd;subst hd;rw[hu,eA];exact hc
      |succ i=>simp[zbe7]at hd
     .cases i with
      |zero=>
       simp[zbe7]at hd;subst hd;rw[hu,List.getElem?_set]at hb;split at hb
       .rename_i hq;subst hq;cases hb;obtain⟨u,hu1,hu2⟩:=g7.ha 0 c j _ rfl hjl;exact⟨u,hu1,zcy7 (by simp) hu2⟩
       .exact g7.ha 0 c q b rfl hb
      |succ i=>simp[zbe7]at hd
  .rw[bV hyx];exact hm'
def unfA:A->A
 | .full es=>.sl es
 |a=>a
def zat7:List A->List A
 |[]=>[]
 |a::as=>unfA a::zat7 as
def zbV4:List (Nat×Row)->List (Nat×Row)
 |[]=>[]
 |q::r=>(q.1,⟨q.2.ro,q.2.sz,q.2.z,q.2.es.map zat7⟩)::zbV4 r
def St.unf(st:St):St:=⟨st.fr,zbV4 st.mem,st.nx⟩
theorem zbB1:∀(cs:List A) (i:Nat),(zat7 cs)[i]? =(cs[i]?).map unfA
 |[],i=>by simp[zat7]
 |c::cs,i=>by
  cases i with
  |zero=>simp[zat7]
  |succ i=>simp[zat7,zbB1 cs i]
theorem zbq2:∀cs:List A,(zat7 cs).length=cs.length
 |[]=>rfl
 |_::cs=>by simp[zat7,zbq2 cs]
theorem zbL1(x:Nat):∀mem:List (Nat×Row),look (zbV4 mem) x=(look mem x).map λ r=>⟨r.ro,r.sz,r.z,r.es.map zat7⟩
 |[]=>rfl
 |q::r=>by
  simp only[zbV4,look];split
  .rfl
  .exact zbL1 x r
theorem zcT4{v:Value}{x:A}(h:RepK w W μ v x):RepK w W μ v (unfA x):=by
 cases x with
 |full es=>
  have h2:RepC w W v (.full es):=h;cases h2 with
  |full a n es h3=>exact zr3 h3
 |_=>exact h
@[go_sem] theorem zdK8(s:List Nat):(s.map iE).map zat7=s.map iE:=by simp[iE,zat7,unfA]
theorem zdG9{v:Value}{x:A}(h:RepC w W v x):RepC w W v (unfA x):=by
 cases x with
 |full es=>cases h with|full a n es h3=>exact h3
 |_=>exact h
theorem zaQ3.unf{z:List A}{i:Nat}{e:MapEntry}{c:List A}(h:zaQ3 w W z i e c):zaQ3 w W z i e (zat7 c):=by
 obtain⟨h0,k,cs,ag,rfl,h2,h3,h4,h5⟩:=h;refine⟨h0,k,zat7 cs,ag,?_,h2,h3,h4,?_⟩
 .simp only[zat7];congr 1;generalize z.headD .any=zk at h3;cases zk<;>cases k<;>first|rfl|(simp[zZ5]at h3)
 .unfold RepX at*;split
  .rename_i ha;rw[bX ha]at h5;obtain⟨vs,g1,g2,g3⟩:=h5;refine⟨vs,g1,by rw[zbq2];exact g2,λ j u b p q=>?_⟩;rw[zbB1]at q;obtain⟨b0,q0,rfl⟩:=cH.1 q;exact zdG9 (g3 j u b0 p q0)
  .rename_i ha;rw[bV ha]at h5;obtain⟨b,rfl,g⟩:=h5;exact⟨unfA b,rfl,zdG9 g⟩
theorem St.le_unf:St.le E st st.unf:=by
 intro a w ⟨W,μ,hs⟩;refine⟨W,μ,{hs with mem:=λ x=>?_}⟩;show zau9 w W μ x (st.unf.m x);have hm:zau9 w W μ x (st.m x):=hs.mem x;simp only[St.m,St.unf,zbL1]at hm⊢;split
 .rename_i hx;rw[bX hx]at hm;exact hm
 .rename_i hx;rw[bV hx]at hm;cases hl:look st.mem x with
  |none=>rw[hl]at hm;exact hm
  |some r=>
   rw[hl]at hm;rcases hm with⟨e1,e2,e3⟩|⟨k,e1,⟨hro,hsz,hpos,us,rest,e,h4,h5,h6⟩|⟨hro,hsz,hpos,es,h4,h5,h6⟩|⟨hro,hsz,hpos,hz,y,b,c,seen,h4,h5,h6⟩⟩
   .exact .inl ⟨e1,by show r.es.map zat7=[];rw[e2];rfl,e3⟩
   rotate_left
   .refine .inr ⟨k,e1,.inr (.inl ⟨hro,hsz,hpos,es,h4,by show es.size=(r.es.map zat7).length;simpa using h5,λ i e c q1 q2=>?_⟩)⟩;have q3:(r.es.map zat7)[i]? =some c:=q2;simp only[cN,cH]at q3;obtain⟨c0,hc0,rfl⟩:=q3;exact(h6 i e c0 q1 hc0).unf
   .exact .inr ⟨k,e1,.inr (.inr ⟨hro,hsz,hpos,hz,y,b,c,seen,by show r.es.map zat7=_;rw[h4,dF,zdK8];rfl,h5,h6⟩)⟩
   .refine .inr ⟨k,e1,.inl ⟨hro,hsz,hpos,us,rest,e,h4,h5,?_⟩⟩;show Flat _ r.sz us (r.es.map zat7);refine⟨by simpa using h6.hl,λ i c hc=>?_,λ i c j b hc hb=>?_⟩
    .simp only[cN,cH]at hc;obtain⟨c0,hc0,rfl⟩:=hc;rw[zbq2];exact h6.hs i c0 hc0
    .simp only[cN,cH]at hc;obtain⟨c0,hc0,rfl⟩:=hc;rw[zbB1]at hb;obtain⟨b0,hb0,rfl⟩:=cH.1 hb;obtain⟨u,hu,hr⟩:=h6.ha i c0 j b0 hc0 hb0;exact⟨u,hu,zcT4 hr⟩
def St.cast(st:St)(t:Nat)(v:A):St:=⟨(t,v)::rm t st.fr,st.mem,st.nx⟩
theorem St.le_cast(t:Nat)(v:A)(h:st.slot t=v):St.le E st (st.cast t v):=by
 have e:(st.cast t v).toS=st.toS:=by
  simp only[St.toS];congr 1;funext x;simp only[St.slot,St.cast,look];split
  .rename_i hx;subst hx;exact h.symm
  .rename_i hx;rw[zaI7,bV (λ e=>hx e.symm)]
 intro a w hs;rw[e];exact hs
def St.unfs(st:St)(t:Nat):St:=⟨(t,unfA (st.slot t))::rm t st.fr,st.mem,st.nx⟩
theorem St.le_unfs(t:Nat):St.le E st (st.unfs t):=by
 intro a w ⟨W,μ,hs⟩;refine⟨W,μ,{hs with fr:=λ t'=>?_}⟩;show Rep w W μ (a.tmps.getD t' undef) ((st.unfs t).slot t');have hr:Rep w W μ (a.tmps.getD t' undef) (st.slot t'):=hs.fr t'
 by_cases h:t=t'
 .subst h;have e:(st.unfs t).slot t=unfA (st.slot t):=by simp[St.slot,St.unfs,look]
  rw[e];generalize st.slot t=x at hr⊢;cases x with
  |full es=>have h2:RepC w W (a.tmps.getD t undef) (.full es):=hr;exact zp1 (zo0 (zr3 h2.of_full.1))
  |_=>exact hr
 .have e:(st.unfs t).slot t'=st.slot t':=by
   simp only[St.slot,St.unfs,look];rw[bV h,zaI7,bV (λ e=>h e.symm)]
  rw[e];exact hr
inductive Gh where
 |unf
 |cast (t:Nat) (v:A)
 |fz (ids:List Nat)
 |own0 (t sz:Nat) (z:List A)
 |ownb (x j sz:Nat) (z:List A)
 |unfs (t:Nat)
def St.gh(st:St):Gh->St
 | .unf=>st.unf
 | .cast t v=>st.cast t v
 | .fz ids=>st.fz ids
 | .own0 t sz z=>st.own0 t sz z
 | .ownb x j sz z=>st.ownb x j sz z
 | .unfs t=>st.unfs t
def St.ghOk(st:St):Gh->Prop
 | .unf=>True
 | .cast t v=>st.slot t=v
 | .fz ids=>st.fzOk ids
 | .own0 t sz _=>0<sz/\st.slot t=.full []
 | .ownb x j sz _=>st.ownbOk x j sz
 | .unfs _=>True
theorem St.le_gh(g:Gh)(h:st.ghOk g):St.le E st (st.gh g):=by
 cases g with
 |unf=>exact St.le_unf
 |cast t v=>exact St.le_cast t v h
 |fz ids=>exact St.le_fz ids h
 |own0 t sz z=>exact St.le_own0 t sz z h.1 h.2
 |ownb x j sz z=>exact St.le_ownb x j sz z h
 |unfs t=>exact St.le_unfs t
theorem zdS2{c:PC}{Q:Exit->St->Prop}(g:Gh)(hok:st.ghOk g)(h:AW C E c Q (st.gh g)):AW C E c Q st:=AW.weak (St.le_gh g hok) h
end
def zbt3(C:Cx)(f:FuncId)(d:Option Nat)(g:Option (Nat×Bool))(gv:Bool)(ob:Prop)(args:List A)(rw:List (Nat×MS))(ps:List POp)(st:St)(K:St->Prop):Prop:=
 ∃r,(gv=true->ob/\PFn C f args r)/\(g=none\/(if r.scal then[]else rw)=[]/\r.isVV=true)/\arun C ps (st.app d (zR5 g gv r) (if r.scal then[]else rw)) K
theorem zdm9{C:Cx}{f:FuncId}{d:Option Nat}{g:Option (Nat×Bool)}{gv:Bool}{ob:Prop}{args:List A}{rw:List (Nat×MS)}{ps:List POp}{st:St}{K:St->Prop}{r:A}
  (hf:gv=true->PFn C f args r) (h:arun C ps (st.app d (zR5 g gv r) (if r.scal then[]else rw)) K)
  (ho:gv=true->ob:=by intro;trivial) (hg:g=none\/(if r.scal then[]else rw)=[]/\r.isVV=true:=by first|exact .inl rfl|exact .inr ⟨rfl,rfl⟩):zbt3 C f d g gv ob args rw ps st K:=⟨r,λ e=>⟨ho e,hf e⟩,hg,h⟩
def zau1(C:Cx)(f:FuncId)(d:Option Nat)(g:Option (Nat×Bool))(gv:Bool)(ob:Prop)(vals:List A)(ps:List POp)(st:St)(K:St->Prop):Prop:=
 zaV6 C st.m st.nx f vals g gv ob (λ _=>True) λ v mw=>arun C ps (st.app d v mw) K
def zbl7:A->Bool
 | .cnd _ _=>false
 |_=>true
theorem zbl8{r:A}(h:zbl7 r=true):∀g c,r≠.cnd g c:=λ g c e=>by subst e;cases h
theorem zcY8{C:Cx}{f:FuncId}{d:Option Nat}{ob:Prop}{vals:List A}{ps:List POp}{st:St}{K:St->Prop}(l:List (Nat×Nat)){az:List A}{ms ms':List (Nat×Row)}{k k':Nat}{r:A}
  (hf:MFn C f az ms k r ms' k') (hok:okM st.m st.nx l vals az ms k k') (h:arun C ps (st.app d (renR (l++newL k st.nx (k'-k)) r) (mwM st.m (l++newL k st.nx (k'-k)) vals az ms ms' k k')) K)
  (ho:ob:=by trivial) (hr:zbl7 r=true:=by rfl):zau1 C f d none true ob vals ps st K:=
 ⟨l,az,ms,k,r,ms',k',λ _=>⟨ho,hf,hok,trivial⟩,(λ h=>nomatch h),.inl rfl,zbl8 hr,h⟩
theorem zcJ7{C:Cx}{f:FuncId}{d:Option Nat}{g:Option (Nat×Bool)}{gv:Bool}{ob:Prop}{vals:List A}{ps:List POp}{st:St}{K:St->Prop}(l:List (Nat×Nat)){az:List A}{ms ms':List (Nat×Row)}{k:Nat}{r:A}
  (hf:gv=true->MFn C f az ms k r ms' k) (hok:gv=true->okM st.m st.nx l vals az ms k k) (hs:gv=false->zbA5 st.m (mwM st.m l vals az ms ms' k k)) (h:arun C ps (st.app d (zR5 g gv (renR l r)) (mwM st.m l vals az ms ms' k k)) K)
  (ho:gv=true->ob) (hr:zbl7 r=true:=by rfl) (hv:(renR l r).isVV=true:=by rfl):zau1 C f d g gv ob vals ps st K:=by
 have e:l++newL k st.nx (k-k)=l:=by rw[gG];exact dX l
 refine⟨l,az,ms,k,r,ms',k,λ h=>⟨ho h,hf h,hok h,trivial⟩,?_⟩;rw[e];exact⟨λ h=>⟨rfl,hs h⟩,.inr hv,zbl8 hr,h⟩
theorem zdn0(C:Cx)(st:St)(K:St->Prop):arun C [] st K=K st:=rfl
theorem zcY9(C:Cx)(d:Option Nat)(g:Option (Nat×Bool))(po:PO)(xs:List PX)(ps:List POp)(st:St)(K:St->Prop):
  arun C (⟨d,g,po,xs⟩::ps) st K=(match po with
   | .call f=>(match zL0 st g with
    |none=>False
    |some gv=>zbt3 C f d g gv (zai2 C st xs/\zC4 st.m (zt2 C st xs)) (zJ7 st.m (zt2 C st xs)) (zR4 st.m (zE6 (zt2 C st xs))) ps st K)
   | .callv=>(match zL0 st g with
    |none=>False
    |some gv=>(match zt2 C st xs with
     | .clo f caps::vals=>zbt3 C f d g gv (zai2 C st xs/\zK9 C.P f=true/\zC4 st.m (vals++caps)) (zJ7 st.m (vals++caps)) (zR4 st.m (zE6 (vals++caps))) ps st K
     |_=>False))
   | .callb=>(match zL0 st g with
    |none=>False
    |some gv=>(match zt2 C st xs with
     | .bnd f cs::vals=>zbt3 C f d g gv (zai2 C st xs/\zK9 C.P f=true/\zC4 st.m (.agg cs::vals)) (zJ7 st.m (.agg cs::vals)) (zR4 st.m (zE6 (.agg cs::vals))) ps st K
     |_=>False))
   | .callm f=>(match zL0 st g with
    |none=>False
    |some gv=>zau1 C f d g gv (zai2 C st xs) (zt2 C st xs) ps st K)
   | .callvm=>(match zL0 st g with
    |none=>False
    |some gv=>(match zt2 C st xs with
     | .clo f caps::vals=>zau1 C f d g gv (zai2 C st xs/\zK9 C.P f=true) (vals++caps) ps st K
     |_=>False))
   | .next dd=>g=none/\zai2 C st xs/\nxtQ dd st.m (λ v mw=>arun C ps (st.app d v mw) K) (zt2 C st xs)
   | .entry dd=>g=none/\zai2 C st xs/\entQ dd st.m (λ v mw=>arun C ps (st.app d v mw) K) (zt2 C st xs)
   | .eqNil=>g=none/\zai2 C st xs/\nilQ (λ b=>arun C ps (st.app d (.bool b) []) K) (zt2 C st xs)
   |po=>aop C ⟨d,g,po,xs⟩ st λ st'=>arun C ps st' K):=by
 cases po with
 |eqNil=>rfl
 |next dd=>rfl
 |entry dd=>rfl
 |call f=>
  simp only[arun,aop,zbt3,PO.isNilQ,PO.isNext,bT,cB];cases zL0 st g with
  |none=>rfl
  |some gv=>simp only[zC8,fW]
 |callv=>
  simp only[arun,aop,PO.isNilQ,PO.isNext,bT,cB];cases zL0 st g with
  |none=>rfl
  |some gv=>
   simp only;generalize zt2 C st xs=vv;rcases vv with _|⟨x,vs⟩
   .rfl
   .cases x<;>first|rfl|(simp only[zbt3,zC8,fW])
 |callb=>
  simp only[arun,aop,PO.isNilQ,PO.isNext,bT,cB];cases zL0 st g with
  |none=>rfl
  |some gv=>
   simp only;generalize zt2 C st xs=vv;rcases vv with _|⟨x,vs⟩
   .rfl
   .cases x<;>first|rfl|(simp only[zbt3,zC8,fW])
 |callm f=>
  simp only[arun,aop,zau1,PO.isNilQ,PO.isNext,bT,cB];cases zL0 st g with
  |none=>rfl
  |some gv=>rfl
 |callvm=>
  simp only[arun,aop,PO.isNilQ,PO.isNext,bT,cB];cases zL0 st g with
  |none=>rfl
  |some gv=>
   simp only;generalize zt2 C st xs=vv;rcases vv with _|⟨x,vs⟩
   .rfl
   .cases x<;>first|rfl|(simp only[zau1])
 |_=>rfl
def zaY4(C:Cx)(f:FuncId)(d:Option Nat)(g:Option (Nat×Bool))(gv:Bool)(ob:Prop)(args:List A)(rw:List (Nat×MS))(ps:List POp)(st:St)(K:St->Prop):Prop:=
 ∃r,(gv=true->ob/\PFn C f args r)/\(g=none\/(if r.scal then[]else rw)=[]/\r.isVV=true)/\((st.app d (zR5 g gv r) (if r.scal then[]else rw)).mem=st.mem/\(st.app d (zR5 g gv r) (if r.scal then[]else rw)).nx=st.nx)/\zaZ7 C ps (st.app d (zR5 g gv r) (if r.scal then[]else rw)) K
theorem zcZ0{C:Cx}{f:FuncId}{d:Option Nat}{g:Option (Nat×Bool)}{gv:Bool}{ob:Prop}{args:List A}{rw:List (Nat×MS)}{ps:List POp}{st:St}{K:St->Prop}{r:A}
  (hf:gv=true->PFn C f args r) (h:zaZ7 C ps (st.app d (zR5 g gv r) []) K)
  (ho:gv=true->ob:=by intro;trivial) (hg:g=none\/(if r.scal then[]else rw)=[]/\r.isVV=true:=by first|exact .inl rfl|exact .inr ⟨rfl,rfl⟩) (hn:(if r.scal then[]else rw)=[]:=by rfl):zaY4 C f d g gv ob args rw ps st K:=⟨r,λ e=>⟨ho e,hf e⟩,hg,by rw[hn];exact⟨rfl,rfl⟩,by rw[hn];exact h⟩
theorem zcZ1(C:Cx)(st:St)(K:St->Prop):zaZ7 C [] st K=K st:=rfl
theorem zcJ8(C:Cx)(d:Option Nat)(g:Option (Nat×Bool))(po:PO)(xs:List PX)(ps:List POp)(st:St)(K:St->Prop):
  zaZ7 C (⟨d,g,po,xs⟩::ps) st K=(match po with
   | .call f=>(match zL0 st g with
    |none=>False
    |some gv=>zaY4 C f d g gv (zai2 C st xs/\zC4 st.m (zt2 C st xs)) (zJ7 st.m (zt2 C st xs)) (zR4 st.m (zE6 (zt2 C st xs))) ps st K)
   | .callv=>(match zL0 st g with
    |none=>False
    |some gv=>(match zt2 C st xs with
     | .clo f caps::vals=>zaY4 C f d g gv (zai2 C st xs/\zK9 C.P f=true/\zC4 st.m (vals++caps)) (zJ7 st.m (vals++caps)) (zR4 st.m (zE6 (vals++caps))) ps st K
     |_=>False))
   | .callb=>(match zL0 st g with
    |none=>False
    |some gv=>(match zt2 C st xs with
     | .bnd f cs::vals=>zaY4 C f d g gv (zai2 C st xs/\zK9 C.P f=true/\zC4 st.m (.agg cs::vals)) (zJ7 st.m (.agg cs::vals)) (zR4 st.m (zE6 (.agg cs::vals))) ps st K
     |_=>False))
   |po=>aop C ⟨d,g,po,xs⟩ st λ st'=>(st'.mem=st.mem/\st'.nx=st.nx)/\zaZ7 C ps st' K):=by
 cases po with
 |call f=>
  simp only[zaZ7,aop,zaY4];cases zL0 st g with
  |none=>rfl
  |some gv=>simp only[zC8,fW]
 |callv=>
  simp only[zaZ7,aop];cases zL0 st g with
  |none=>rfl
  |some gv=>
   simp only;generalize zt2 C st xs=vv;rcases vv with _|⟨x,vs⟩
   .rfl
   .cases x<;>first|rfl|(simp only[zaY4,zC8,fW])
 |callb=>
  simp only[zaZ7,aop];cases zL0 st g with
  |none=>rfl
  |some gv=>
   simp only;generalize zt2 C st xs=vv;rcases vv with _|⟨x,vs⟩
   .rfl
   .cases x<;>first|rfl|(simp only[zaY4,zC8,fW])
 |_=>rfl
def zaY5(C:Cx)(an:List (List Nat))(f:FuncId)(d:Option Nat)(g:Option (Nat×Bool))(gv:Bool)(ob:Prop)(args:List A)(rw:List (Nat×MS))(ids:List Nat)(cok:Bool)(ps:List POp)(st:St)(log:List (List Nat×List Nat))(K:St->Prop):Prop:=
 ∃r,(gv=true->ob/\PFn C f args r)/\(g=none\/(if r.scal then[]else rw)=[]/\r.isVV=true)/\zbh3 (an.getD log.length []) 0 log ids ((if r.scal then[]else rw).map (·.1))=true/\cok=true/\
  zaB4 C an ps (st.app d (zR5 g gv r) (if r.scal then[]else rw)) (log++[(ids,(if r.scal then[]else rw).map (·.1))]) K
theorem zcZ2{C:Cx}{an:List (List Nat)}{f:FuncId}{d:Option Nat}{g:Option (Nat×Bool)}{gv:Bool}{ob:Prop}{args:List A}{rw:List (Nat×MS)}{ids:List Nat}{cok:Bool}{ps:List POp}{st:St}{log:List (List Nat×List Nat)}{K:St->Prop}{r:A}
  (hf:gv=true->PFn C f args r) (h:zbh3 (an.getD log.length []) 0 log ids ((if r.scal then[]else rw).map (·.1))=true/\cok=true/\zaB4 C an ps (st.app d (zR5 g gv r) (if r.scal then[]else rw)) (log++[(ids,(if r.scal then[]else rw).map (·.1))]) K)
  (ho:gv=true->ob:=by intro;trivial) (hg:g=none\/(if r.scal then[]else rw)=[]/\r.isVV=true:=by first|exact .inl rfl|exact .inr ⟨rfl,rfl⟩):zaY5 C an f d g gv ob args rw ids cok ps st log K:=⟨r,λ e=>⟨ho e,hf e⟩,hg,h.1,h.2.1,h.2.2⟩
def zaO6(C:Cx)(an:List (List Nat))(f:FuncId)(d:Option Nat)(g:Option (Nat×Bool))(gv:Bool)(ob:Prop)(vals:List A)(ids:List Nat)(cok:Bool)(ps:List POp)(st:St)(log:List (List Nat×List Nat))(K:St->Prop):Prop:=
 zaV6 C st.m st.nx f vals g gv ob (λ n=>∀x,st.nx<=x->x<st.nx+n->st.m x=.fresh) λ v mw=>zbh3 (an.getD log.length []) 0 log ids (mw.map (·.1))=true/\cok=true/\zaB4 C an ps (st.app d v mw) (log++[(ids,mw.map (·.1))]) K
theorem zcJ9{C:Cx}{an:List (List Nat)}{f:FuncId}{d:Option Nat}{ob:Prop}{vals:List A}{ids:List Nat}{cok:Bool}{ps:List POp}{st:St}{log:List (List Nat×List Nat)}{K:St->Prop}(l:List (Nat×Nat)){az:List A}{ms ms':List (Nat×Row)}{k k':Nat}{r:A}
  (hf:MFn C f az ms k r ms' k') (hok:okM st.m st.nx l vals az ms k k')
  (h:zbh3 (an.getD log.length []) 0 log ids ((mwM st.m (l++newL k st.nx (k'-k)) vals az ms ms' k k').map (·.1))=true/\cok=true/\zaB4 C an ps (st.app d (renR (l++newL k st.nx (k'-k)) r) (mwM st.m (l++newL k st.nx (k'-k)) vals az ms ms' k k')) (log++[(ids,(mwM st.m (l++newL k st.nx (k'-k)) vals az ms ms' k k').map (·.1))]) K)
  (ho:ob:=by trivial) (hr:zbl7 r=true:=by rfl):zaO6 C an f d none true ob vals ids cok ps st log K:=
 ⟨l,az,ms,k,r,ms',k',λ _=>⟨ho,hf,hok,λ x hx _=>zcp0 st x hx⟩,(λ h=>nomatch h),.inl rfl,zbl8 hr,h⟩
theorem zcZ3(C:Cx)(an:List (List Nat))(st:St)(log:List (List Nat×List Nat))(K:St->Prop):zaB4 C an [] st log K=K st:=rfl
theorem zcK0(C:Cx)(an:List (List Nat))(d:Option Nat)(g:Option (Nat×Bool))(po:PO)(xs:List PX)(ps:List POp)(st:St)(log:List (List Nat×List Nat))(K:St->Prop):
  zaB4 C an (⟨d,g,po,xs⟩::ps) st log K=(match po with
   | .call f=>(match zO5 st.slot g with
    |none=>False
    |some gv=>zaY5 C an f d g gv (gdsF C st.slot xs/\zC4 st.m (zJ5 C st.slot xs)) (zJ7 st.m (zJ5 C st.slot xs)) (zR4 st.m (zE6 (zJ5 C st.slot xs))) (zE8 (zt2 C st xs)) (zaY3 (zt2 C st xs)) ps st log K)
   | .callv=>(match zO5 st.slot g with
    |none=>False
    |some gv=>(match zJ5 C st.slot xs with
     | .clo f caps::vals=>zaY5 C an f d g gv (gdsF C st.slot xs/\zK9 C.P f=true/\zC4 st.m (vals++caps)) (zJ7 st.m (vals++caps)) (zR4 st.m (zE6 (vals++caps))) (zE8 (zt2 C st xs)) (zaY3 (zt2 C st xs)) ps st log K
     |_=>False))
   | .callb=>(match zO5 st.slot g with
    |none=>False
    |some gv=>(match zJ5 C st.slot xs with
     | .bnd f cs::vals=>zaY5 C an f d g gv (gdsF C st.slot xs/\zK9 C.P f=true/\zC4 st.m (.agg cs::vals)) (zJ7 st.m (.agg cs::vals)) (zR4 st.m (zE6 (.agg cs::vals))) (zE8 (zt2 C st xs)) (zaY3 (zt2 C st xs)) ps st log K
     |_=>False))
   | .callm f=>(match zO5 st.slot g with
    |none=>False
    |some gv=>zaO6 C an f d g gv (gdsF C st.slot xs) (zJ5 C st.slot xs) (zE8 (zt2 C st xs)) (zaY3 (zt2 C st xs)) ps st log K)
   | .callvm=>(match zO5 st.slot g with
    |none=>False
    |some gv=>(match zJ5 C st.slot xs with
     | .clo f caps::vals=>zaO6 C an f d g gv (gdsF C st.slot xs/\zK9 C.P f=true) (vals++caps) (zE8 (zt2 C st xs)) (zaY3 (zt2 C st xs)) ps st log K
     |_=>False))
   |po=>aopS C ⟨d,g,po,xs⟩ st.toS st.nx λ v mw=>zbh3 (an.getD log.length []) 0 log (zE8 (zt2 C st xs)) (mw.map (·.1))=true/\zaY3 (zt2 C st xs)=true/\
     zaB4 C an ps (st.app d v mw) (log++[(zE8 (zt2 C st xs),mw.map (·.1))]) K):=by
 cases po with
 |call f=>
  simp only[zaB4,aopS,zaY5,St.toS];cases zO5 st.slot g with
  |none=>rfl
  |some gv=>simp only[zC8,fW]
 |callv=>
  simp only[zaB4,aopS,St.toS];cases zO5 st.slot g with
  |none=>rfl
  |some gv=>
   simp only;generalize zJ5 C st.slot xs=vv;rcases vv with _|⟨x,vs⟩
   .rfl
   .cases x<;>first|rfl|(simp only[zaY5,zC8,fW])
 |callb=>
  simp only[zaB4,aopS,St.toS];cases zO5 st.slot g with
  |none=>rfl
  |some gv=>
   simp only;generalize zJ5 C st.slot xs=vv;rcases vv with _|⟨x,vs⟩
   .rfl
   .cases x<;>first|rfl|(simp only[zaY5,zC8,fW])
 |callm f=>
  simp only[zaB4,aopS,zaO6,St.toS];cases zO5 st.slot g with
  |none=>rfl
  |some gv=>rfl
 |callvm=>
  simp only[zaB4,aopS,St.toS];cases zO5 st.slot g with
  |none=>rfl
  |some gv=>
   simp only;generalize zJ5 C st.slot xs=vv;rcases vv with _|⟨x,vs⟩
   .rfl
   .cases x<;>first|rfl|(simp only[zaO6])
 |_=>rfl
def mget{V:Type}(k:ByteArray):List (ByteArray×V)->Option V
 |[]=>none
 |p::l=>bif k.toList==p.1.toList then some p.2 else mget k l
def mput{V:Type}(k:ByteArray)(v:V):List (ByteArray×V)->List (ByteArray×V)
 |[]=>[(k,v)]
 |p::l=>bif k.toList==p.1.toList then(k,v)::l else p::mput k v l
def mS{V:Type}(f:V->List A)(p:ByteArray×V):List A:=.str p.1::f p.2
@[go_sem] theorem zdU3{V:Type}(f:V->List A)(k:ByteArray)(l:List (ByteArray×V)):zaA6 (.str k) (l.map (mS f))=(mget k l).map f:=by
 induction l with
 |nil=>rfl
 |cons p l ih=>
  simp only[dF,mS,zaA6,List.headD_cons,eq1,mget,List.tail_cons];cases k.toList==p.1.toList
  .exact ih
  .rfl
@[go_sem] theorem zdV0{V:Type}(f:V->List A)(k:ByteArray)(v:V)(l:List (ByteArray×V)):mins (.str k) (f v) (l.map (mS f))=(mput k v l).map (mS f):=by
 induction l with
 |nil=>rfl
 |cons p l ih=>
  simp only[dF,mS,mins,List.headD_cons,eq1,mput];cases k.toList==p.1.toList
  .simp only[cond_false,ih];rfl
  .rfl
@[go_sem] theorem zdO9{V:Type}(f:V->List A)(p:ByteArray×V):zk9 (mS f p)=zk9 (f p.2):=by simp[mS,zk9,A.pure1]
@[go_sem] theorem zdK9(y i:Nat)(k:IntKind)(c:Int)(s:List Nat):zcw4 ([.mp y,.int k c]::(s++[i]).map iE)=some (y,i):=by simp[zcw4,iE]
@[go_sem] theorem zdV1{V:Type}(kz:A)(ag:Bool)(f:V->List A)(p:ByteArray×V):mEnt [kz,.bool ag] (mS f p)=[.str p.1,zaq4 ag (f p.2)]:=rfl
@[go_sem] theorem zdV2{V:Type}(f:V->List A)(l:List (ByteArray×V))(i:Nat)(k0:ByteArray)(v0:V):(l.map (mS f)).getD i (.str k0::f v0)=mS f (l.getD i (k0,v0)):=by simp only[bW,cN];cases l[i]? <;>rfl
@[go_sem] theorem zdS3{V:Type}(ag:Bool)(f:V->List A)(z:V)(o:Option V):mval ag (f z) (o.map f)=zaq4 ag (f (o.getD z)):=by cases o<;>rfl
@[go_sem] theorem zdP0{V:Type}(ag:Bool)(z:List A):mval ag z none=zaq4 ag z:=rfl
attribute [go_sem ↓] aop aopS
@[go_sem] theorem zdn1:∀cs:List A,zbR7 cs=zk9 cs
 |[]=>rfl
 |c::cs=>by simp only[zbR7,zk9,zdn1 cs]
attribute [go_sem] zdn0 zcY9 zcZ1 zcJ8 zcZ3 zcK0 zO5 zJ5 gdsF St.toS zE8 idsA zbh2 zaW1 zaY3 zbl6 A.flatCap okM zbA4 argM A.hands zdG8 zcS0 fzM zci3 zbJ8 newL zai3 mwM entM zbA5 MS.like renR ren0 zcx2 resL zbK1 zbT9 zL0 St.slot St.m look zt2 zai2 xv A.nc A.gd ev zch4 zaF0 zaN7 zaq5 A.cells A.isV A.isK A.isStr A.isVV allV allK zA4 laid zbR6 zaq4
 zZ5 A.isAg nxtQ entQ PO.lax nilQ zR5 St.app putF putM nxt rm zci2 St.drop zC8 zJ7 zC4 frz frz1 zaB1 zau0 zaB2 zT7 zE6 zR4 A.scal A.scal1 A.scal2 zx7 zbS9 zk9 A.pure1 pureEs
 zs6 LK.fits eqA eq1 glob zM2 zcj6 allG zbh1 resA resG zcj5 Le leF leM rho ren ren1 zal8 idOk zbt1 idEs zaQ5
def SeqQ(C:Cx)(E:Env)(y:PC)(Q:Exit->St->Prop):Exit->St->Prop:=λ e s=>match e with|.normal=>AW C E y Q s|e=>Q e s
def BlkQ(id:Nat)(Q:Exit->St->Prop):Exit->St->Prop:=λ e s=>match e with|.exit i=>(if i=id then Q .normal s else Q (.exit i) s)|e=>Q e s
section
variable {C:Cx} {E:Env} {Q:Exit→St→Prop} {st:St}
theorem za3{x y:PC}(h:AW C E x (SeqQ C E y Q) st):AW C E (.seq x y) Q st:=zdK0 h
theorem zM3{id:Nat}{c:PC}(h:AW C E c (BlkQ id Q) st):AW C E (.block id c) Q st:=zbT5 h
theorem zcy8{y:PC}(s:St):SeqQ C E y Q .normal s=AW C E y Q s:=rfl
theorem zdn2{y:PC}(s:St):SeqQ C E y Q .ret s=Q .ret s:=rfl
theorem zcZ4{y:PC}(i:Nat)(s:St):SeqQ C E y Q (.exit i) s=Q (.exit i) s:=rfl
theorem zcy9(i:Nat)(s:St):BlkQ i Q .normal s=Q .normal s:=rfl
theorem zdn3(i:Nat)(s:St):BlkQ i Q .ret s=Q .ret s:=rfl
theorem zcZ5(i j:Nat)(s:St):BlkQ i Q (.exit j) s=if j=i then Q .normal s else Q (.exit j) s:=rfl
theorem zdn4(rs:List RX)(r:A)(fr:List (Nat×A))(m:List (Nat×Row))(n:Nat):Post rs r .ret ⟨fr,m,n⟩=zcj6 ⟨fr,m,n⟩ rs r:=rfl
theorem zcz0(rs:List RX)(r:A)(fr:List (Nat×A))(m:List (Nat×Row))(n:Nat):Post rs r .normal ⟨fr,m,n⟩=zcj6 ⟨fr,m,n⟩ rs r:=rfl
theorem zcZ6(k:Nat)(rs:List RX)(rl:List A)(ms':List (Nat×Row))(k':Nat)(fr:List (Nat×A))(m:List (Nat×Row))(n:Nat):zcx8 k rs rl ms' k' .ret ⟨fr,m,n⟩=zbe3 k ⟨fr,m,n⟩ rs rl ms' k':=rfl
theorem zcp7(k:Nat)(rs:List RX)(rl:List A)(ms':List (Nat×Row))(k':Nat)(fr:List (Nat×A))(m:List (Nat×Row))(n:Nat):zcx8 k rs rl ms' k' .normal ⟨fr,m,n⟩=zbe3 k ⟨fr,m,n⟩ rs rl ms' k':=rfl
attribute [go_sem] zcZ6 zcp7 St.gh St.ghOk St.fz St.fzOk St.own0 St.ownb St.ownbOk zbA9 zbe7 zdm8 St.unfs St.cast St.unf zbV4 zat7 unfA memN fzA fzCs fzV fzEs fzFr zcy5 zck0 zbE8 zcy6 zbQ4 zcp3 zcp4 zbQ5
attribute [go_sem] zcy8 zdn2 zcZ4 zcy9 zdn3 zcZ5 zdn4 zcz0
end
theorem zbV5(n:Nat):zS2 n []:=by intro c hc;cases hc
theorem zcz1(n:Nat)(a:List A)(b:List (List A)):zS2 n (a::b)↔a.length=n/\zS2 n b:=by simp only[zS2,cF];exact⟨λ h=>⟨h a (.inl rfl),λ c hc=>h c (.inr hc)⟩,λ⟨h1,h2⟩ c hc=>hc.elim (λ e=>e▸h1) (h2 c)⟩
theorem zbB2:zae7 []:=by intro c hc;cases hc
attribute [go_sem] dV Nat.add_zero kQ dA Nat.lt_add_one fD Int.toNat_zero Int.toNat_natCast Int.natCast_zero imp_self cS fK iW jA and_false or_true true_or kG iP forall_const true_implies hJ eD cC cB eq_self ne_eq kL iU cK fM eN iM cO dC Bool.not_not bT gS cond_true cond_false Bool.cond_true_left Bool.cond_true_right Bool.cond_false_left Bool.cond_false_right cA cJ Option.getD_some Option.getD_none Option.map_some Option.map_none Option.bind_some Option.isSome_some Option.isNone_none List.length_cons List.length_nil dB cD List.all_nil List.all_cons List.nil_append dX iZ dF List.set_cons_zero List.set_nil List.getD_cons_zero gN eA List.headD_cons List.contains_nil List.take_nil List.drop_nil beq_self_eq_true
attribute [simp] zbV5 zbB2
attribute [go_sem] zbV5 zcz1 zbB2
@[go_sem] theorem zdC2(l:List Int):u8s (l.map λ n=>[A.int .u8 n])=some l:=by
 induction l with
 |nil=>rfl
 |cons n l ih=>simp only[dF,u8s,ih,Option.map_some]
@[go_sem] theorem zdP1(l:List UInt8):(l.map λ b=>[A.int .u8 (b.toNat:Int)])=(l.map λ b=>(b.toNat:Int)).map (eI .u8):=by rw[lC];rfl
@[go_sem] theorem zdS4(l:List Int):u8s (l.map (eI .u8))=some l:=zdC2 l
@[go_sem] theorem zdV3(q:Nat×MS)(l r:List (Nat×MS)):q::l++r=q::(l++r):=rfl
@[go_sem] theorem zdV4:([]:List A).flatMap zT7=[]:=rfl
@[go_sem] theorem zdV5(x lo n:Nat)(cs:List A):(A.own x lo n::cs).flatMap zT7=x::cs.flatMap zT7:=rfl
@[go_sem] theorem zdV6(s:ByteArray)(cs:List A):(A.str s::cs).flatMap zT7=cs.flatMap zT7:=rfl
@[go_sem] theorem zdV7(k:IntKind)(n:Int)(cs:List A):(A.int k n::cs).flatMap zT7=cs.flatMap zT7:=rfl
@[go_sem] theorem zdU4(b:Bool)(cs:List A):(A.bool b::cs).flatMap zT7=cs.flatMap zT7:=rfl
@[go_sem] theorem zey4(l:List (List A))(cs:List A):(A.sl l::cs).flatMap zT7=cs.flatMap zT7:=rfl
attribute [go_sem] List.isEmpty_nil List.isEmpty_cons kU List.forall_mem_cons hY
@[go_sem↓] theorem zdS5(r:A):(if r.scal=true then([]:List (Nat×MS))else[])=[]:=kU _
@[go_sem] theorem zdU5(c x:A)(cs xs:List A):upd (c::cs) 0 (x::xs)=x::upd cs 0 xs:=by simp[upd,eQ]
@[go_sem] theorem zdU6(cs:List A)(n:Nat):upd cs n []=cs:=by simp[upd]
@[go_sem] theorem zdV8(c:A)(cs new:List A)(n:Nat):upd (c::cs) (n+1) new=c::upd cs n new:=by simp[upd,Nat.add_right_comm]
@[go_sem] theorem zdU7(c:A)(cs:List A)(k:Nat):sub (c::cs) 0 (k+1)=c::sub cs 0 k:=by simp[sub]
@[go_sem] theorem zdU8(cs:List A)(n:Nat):sub cs n 0=[]:=by simp[sub]
@[go_sem] theorem zdV9(c:A)(cs:List A)(n k:Nat):sub (c::cs) (n+1) k=sub cs n k:=by simp[sub]
end Ab
end Go.Proofs.YtenebhlnfjcffaaGreatDoor
