import Derived.Test.YtfmnjkfhahfhgaaGreatDoorTy
import Derived.Test.YtfmnjkfhahfhgaaGreatDoorProg
import Derived.KernelRfl
namespace Go.Proofs.YtfmnjkfhahfhgaaGreatDoor
namespace Ab
set_option linter.all false
def tJ:A->List Nat
 | .own x _ _=>[x]
 | .ptr x _ _=>[x]
 | .mp x=>[x]
 | .it x=>[x]
 |_=>[]
def vN:A->List Nat
 | .clo _ H=>H.flatMap tJ
 |a=>tJ a
def idsA:A->List Nat
 | .agg H=>if mQ H then[]else H.flatMap vN
 | .bnd _ H=>if mQ H then[]else H.flatMap vN
 |a=>vN a
def pZ:List A->List Nat
 |[]=>[]
 |x::xs=>idsA x++pZ xs
def idsP:PO->List A->List Nat
 | .mv,_=>[]
 |_,vs=>pZ vs
def disj:List Nat->List Nat->Bool
 |[],_=>true
 |x::xs,ys=>!ys.contains x&&disj xs ys
def vO(H:List Nat)(i:Nat):List (List Nat×List Nat)->List Nat->List Nat->Bool
 |[],_,_=>true
 |q::log,r,w=>(H.contains i||(disj q.2 r&&disj q.2 w&&disj w q.1))&&vO H (i+1) log r w
def A.flatCap:A->Bool
 | .agg _=>false
 | .clo _ H=>H.isEmpty
 | .bnd _ _=>false
 |_=>true
def GW:List A->Bool
 |[]=>true
 |c::cs=>c.flatCap&&GW cs
def yE:List A->Bool
 | .clo _ caps::_=>GW caps
 |_=>true
def Si:∀{H:List A},GW H=true->∀c∈H,idsA c=tJ c
 |d::ds,h,c,hc=>by
  simp only[GW,bY]at h;rcases cK.1 hc with rfl|hc
  .cases c<;>first|rfl|(simp[A.flatCap]at h;done)|skip
   rename_i f H;cases H with
   |nil=>rfl
   |cons x O=>simp[A.flatCap]at h
  .exact Si h.2 c hc
def rU(C:Cx)(O:List (List Nat)):List POp->St->List (List Nat×List Nat)->(St->Prop)->Prop
 |[],st,_,K=>K st
 |p::ps,st,log,K=>aopS C p st.toS st.nx λ v H=>vO (O.getD log.length []) 0 log (idsP p.po (nC C st p.xs)) (H.map (·.1))=true/\yE (nC C st p.xs)=true/\
   rU C O ps (st.app p.dst v H) (log++[(idsP p.po (nC C st p.xs),H.map (·.1))]) K
section
variable {C:Cx} {E:Env}
def aKp{p:POp}{s:S}{id:Nat}{K:A->List (Nat×MS)->Prop}(h:aopS C p s id K):∃v mw,K v mw/\aopS C p s id (λ v' B=>v'=v/\B=mw):=by
 unfold aopS at h⊢;cases hg:oV s.fr p.g with
 |none=>simp[hg]at h
 |some g=>
  simp only[hg]at h⊢;cases hp:p.po<;>simp only[hp]at h|-
  case pick=>
   split at h
   .split at h
    .exact⟨_,_,h.2,h.1,rfl,rfl⟩
    .exact h.elim
   .exact h.elim
  case call f=>obtain⟨r,H,O,U⟩:=h;exact⟨_,_,U,r,H,O,rfl,rfl⟩
  case callv=>
   split at h
   .obtain⟨r,H,O,U⟩:=h;exact⟨_,_,U,r,H,O,rfl,rfl⟩
   .exact h.elim
  case callb=>
   split at h
   .obtain⟨r,H,O,U⟩:=h;exact⟨_,_,U,r,H,O,rfl,rfl⟩
   .exact h.elim
  case callm f=>obtain⟨l,F,ms,k,r,Y,k',H,O,U,M,h5⟩:=h;exact⟨_,_,h5,l,F,ms,k,r,Y,k',H,O,U,M,rfl,rfl⟩
  case callvm=>
   split at h
   .obtain⟨l,F,ms,k,r,Y,k',H,O,U,M,h5⟩:=h;exact⟨_,_,h5,l,F,ms,k,r,Y,k',H,O,U,M,rfl,rfl⟩
   .exact h.elim
  all_goals
   split at h
   .exact⟨_,_,h.2.2,h.1,h.2.1,rfl,rfl⟩
   .exact⟨_,_,h.2.2,h.1,h.2.1,rfl,rfl⟩
def aKq{p:POp}{st:St}{K:A->List (Nat×MS)->Prop}(h:aopS C p st.toS st.nx K):aopS C p st.toS st.nx (λ v B=>mwOk st.nx B/\K v B):=by
 unfold aopS at h⊢;simp only[St.toS]at h⊢;cases hg:oV st.slot p.g with
 |none=>simp[hg]at h
 |some g=>
  simp only[hg]at h⊢;cases hp:p.po<;>simp only[hp]at h|-
  case pick=>
   split at h
   .split at h
    .exact⟨h.1,trivial,h.2⟩
    .exact h.elim
   .exact h.elim
  case call f=>obtain⟨r,H,O,U⟩:=h;exact⟨r,H,O,D1 st _ _,U⟩
  case callv=>
   split at h
   .obtain⟨r,H,O,U⟩:=h;exact⟨r,H,O,D1 st _ _,U⟩
   .exact h.elim
  case callb=>
   split at h
   .obtain⟨r,H,O,U⟩:=h;exact⟨r,H,O,D1 st _ _,U⟩
   .exact h.elim
  case callm f=>exact JR h
  case callvm=>
   split at h
   .exact JR h
   .exact h.elim
  all_goals
   split at h
   .rename_i F Y;obtain⟨H,O,U⟩:=h;exact⟨H,O,Rv Y,U⟩
   .exact⟨h.1,h.2.1,trivial,h.2.2⟩
def J0{m H:Nat->MS}{x:A}(h:∀y∈vN x,m y=H y):frz1 m x=frz1 H x/\(sU m x↔sU H x):=by
 cases x<;>first|exact⟨rfl,lE⟩|skip
 rename_i y lo n;have:=h y (by simp[vN,tJ]);simp only[frz1,sU,this,cW]
def Sj{x:A}:∀y∈tS x,y∈idsA x:=by
 cases x<;>intro y hy<;>first|(simp[tS,rF]at hy;done)|skip
 .rename_i z lo n;simpa [tS,rF,idsA,vN,tJ]using hy
 .rename_i U;simp only[tS,idsA]at hy⊢;split at hy
  .cases hy
  .rename_i H;rw[bX H];obtain⟨c,O,hy⟩:=fN.1 hy;refine fN.2 ⟨c,O,?_⟩;cases c<;>simp[rF]at hy;subst hy;simp[vN,tJ]
def Sk{m O:Nat->MS}{x:A}(h:∀y∈idsA x,m y=O y):frz m x=frz O x/\(rS m x↔rS O x):=by
 cases x with
 |agg B=>
  simp only[frz,rS];split
  .exact⟨rfl,lE⟩
  .rename_i F;simp only[idsA,bX F]at h;have U:∀c∈B,∀y∈vN c,m y=O y:=λ c H y hy=>h y (fN.2 ⟨c,H,hy⟩);exact⟨by rw[jI λ c H=>(J0 (U c H)).1],⟨λ Y c H=>(J0 (U c H)).2.1 (Y c H),λ Y c H=>(J0 (U c H)).2.2 (Y c H)⟩⟩
 |own x lo n=>exact J0 (x:=.own x lo n) h
 |_=>exact⟨rfl,lE⟩
def J1{m H:Nat->MS}:∀{xs:List A},(∀y∈pZ xs,m y=H y)->oZ m xs=oZ H xs/\(pS m xs↔pS H xs)
 |[],_=>⟨rfl,lE⟩
 |x::xs,h=>by obtain⟨O,U⟩:=Sk (x:=x) λ y hy=>h y (dW _ hy);obtain⟨Y,B⟩:=J1 (xs:=xs) λ y hy=>h y (dJ _ hy);simp only[oZ,pS,O,U,Y,B,cW]
def GX{m H:Nat->MS}:∀{xs:List Nat},(∀y∈xs,m y=H y)->oK m xs=oK H xs
 |[],_=>rfl
 |x::xs,h=>by simp only[oK,h x (.head _),GX λ y hy=>h y (.tail _ hy)]
def J2:∀{xs:List A},∀y∈rG xs,y∈pZ xs
 |x::xs,y,hy=>by
  rcases cX.1 hy with h|h
  .exact dW _ (Sj y h)
  .exact dJ _ (J2 y h)
def Sl:∀{vs H:List A},∀y∈fzM vs H,y∈pZ vs
 |v::vs,a::H,y,hy=>by
  rcases cX.1 hy with h|h
  .split at h
   .cases h
   .exact dW _ (Sj y h)
  .exact dJ _ (Sl y h)
 |[],[],y,hy=>by cases hy
 |_::_,[],y,hy=>by cases hy
 |[],_::_,y,hy=>by cases hy
def Sm{m Y:Nat->MS}{l:List (Nat×Nat)}{k:Nat}:∀{vs O:List A},(∀y∈pZ vs,m y=Y y)->d9 m l k vs O->d9 Y l k vs O
 |v::vs,a::O,h,h1=>by
  refine⟨?_,Sm (λ y hy=>h y (dJ _ hy)) h1.2⟩;obtain⟨B,F⟩:=Sk (x:=v) λ y hy=>h y (dW _ hy);have H:=h1.1;unfold argM at H⊢;split
  .rename_i U;rw[cA U]at H;exact H
  .rename_i U;rw[bX U]at H;exact⟨F.1 H.1,B▸H.2⟩
 |[],[],_,_=>trivial
 |_::_,[],_,h=>h.elim
 |[],_::_,_,h=>h.elim
def Sn{m H:Nat->MS}{l:List (Nat×Nat)}{k:Nat}{O:List Nat}:∀{ms:List (Nat×Row)},(∀q∈ms,m (rho l q.1)=H (rho l q.1))->D0 m l k O ms->D0 H l k O ms
 |[],_,_=>trivial
 |q::ms,h,h1=>by obtain⟨U,Y,B,F,M,h8,h7⟩:=h1;exact⟨by rw[<-h q (.head _)];exact U,Y,B,F,M,h8,Sn (λ p hp=>h p (.tail _ hp)) h7⟩
def NN{L:List (Nat×Nat)}{ms':List (Nat×Row)}:∀{ids:List Nat},∀x∈ids,rho L x∈(pU L ms' ids).map (·.1)
 |y::ids,x,h=>by
  rcases cK.1 h with rfl|h
  .exact .head _
  .exact .tail _ (NN x h)
def So{m H:Nat->MS}:∀{mw:List (Nat×MS)},(∀y∈mw.map (·.1),m y=H y)->f5 m mw->f5 H mw
 |[],_,_=>trivial
 |q::r,h,⟨h1,h3⟩=>⟨by rw[<-h q.1 (.head _)];exact h1,So (λ y hy=>h y (.tail _ hy)) h3⟩
def Sp{f:FuncId}{m B:Nat->MS}{id:Nat}{H:List A}{og:Option (Nat×Bool)}{g:Bool}{ob:Prop}{v:A}{mw:List (Nat×MS)}(h1:∀y∈pZ H,m y=B y)(h2:∀y∈mw.map (·.1),m y=B y)
  (h:tT C m id f H og g ob (λ n=>∀x,id<=x->x<id+n->m x=.fresh) (λ v' Y=>v'=v/\Y=mw)):
  tT C B id f H og g ob (λ n=>∀x,id<=x->x<id+n->B x=.fresh) (λ v' Y=>v'=v/\Y=mw):=by
 obtain⟨l,az,ms,k,r,F,k',ht,hf,h0,h5,h7,h8⟩:=h;have e0:mwM B (l++newL k id (k'-k)) H az ms F k k'=mw:=by rw[<-h8,mwM,mwM,GX λ y hy=>h1 y (Sl y hy)]
 refine⟨l,az,ms,k,r,F,k',λ hg=>?_,λ hg=>?_,h0,h5,h7,e0⟩
 case refine_2=>rw[e0];rw[h8]at hf;exact⟨(hf hg).1,So h2 (hf hg).2⟩
 obtain⟨x0,h3,h4,h6⟩:=ht hg;obtain⟨g1,g2,g3,g4,g5,g6,g7,g8⟩:=h4;have z0:k<=k':=fP g6;have M:∀x∈ms.map (·.1)++(List.range (k'-k)).map (k+·),m (rho (l++newL k id (k'-k)) x)=B (rho (l++newL k id (k'-k)) x):=λ x hx=>by refine h2 _ ?_;rw[<-h8,mwM,fL];exact dJ _ (NN x hx)
 have O:∀x,x<k->rho (l++newL k id (k'-k)) x=rho l x:=λ x hx=>by simp only[rho,Ao,Ap];rw[bX om,lJ]
 have U:∀i,i<k'-k->rho (l++newL k id (k'-k)) (k+i)=id+i:=λ i hi=>by simp only[rho,Ao,Ap];rw[GS λ q hq=>by have:=g8 q hq;omega,cA om];simp
 refine⟨x0,h3,⟨Sm h1 g1,Sn (λ q hq=>?_) g2,g3,g4,g5,g6,g7,g8⟩,λ x hx y0=>?_⟩
 .have:=M q.1 (dW _ (cR.2 ⟨q,hq,rfl⟩));rwa [O q.1 (D3 g2 q.1 q.2 hq).2.2.1]at this
 .have:=M (k+(x-id)) (dJ _ (cR.2 ⟨x-id,eH.2 om,rfl⟩));rw[U _ om,show id+(x-id)=x by omega]at this;rw[<-this];exact h6 x hx y0
def aL3(x y:List A):pZ (x++y)=pZ x++pZ y:=by
 induction x with
 |nil=>rfl
 |cons a x H=>simp only[Jm,pZ,H,cE]
def Sq{y:Nat}:∀{H:List A},(∀c∈H,idsA c=tJ c)->y∈pZ H->y∈H.flatMap tJ
 |c::cs,hc,h=>by
  rcases cX.1 h with h|h
  .exact fN.2 ⟨c,.head _,hc c (.head _)▸h⟩
  .obtain⟨d,O,U⟩:=fN.1 (Sq (λ d O=>hc d (.tail _ O)) h);exact fN.2 ⟨d,.tail _ O,U⟩
def Sr{f:FuncId}{H O:List A}{y:Nat}(h:y∈pZ (O++H))(U:∀c∈H,idsA c=tJ c):y∈pZ (.clo f H::O):=by
 rw[aL3]at h;simp only[pZ,cX];rcases cX.1 h with h|h
 .exact .inr h
 .exact .inl (Sq U h)
def aL6{id:Nat}{m F:Nat->MS}{po:PO}{H:List A}(h:∀y∈pZ H,m y=F y):ev id m po H=ev id F po H:=by
 have Y:∀{x:A} {U:List A},H=x::U->(∀y∈idsA x,m y=F y):=λ hv y hy=>h y (by rw[hv];exact dW _ hy);have e2:∀{x O:A} {U:List A},H=x::O::U->(∀y∈idsA O,m y=F y):=λ hv y hy=>h y (by rw[hv];exact dJ _ (dW _ hy));have B:∀{x:Nat} {lo n:Nat},(∀y∈idsA (.own x lo n),m y=F y)->m x=F x:=λ hh=>hh _ (by simp[idsA,vN,tJ]);have h0:∀{x:Nat} {lo n:Nat},(∀y∈idsA (.ptr x lo n),m y=F y)->m x=F x:=λ hh=>hh _ (by simp[idsA,vN,tJ]);have mp:∀{x:Nat},(∀y∈idsA (.mp x),m y=F y)->m x=F x:=λ hh=>hh _ (by simp[idsA,vN,tJ]);have x0:∀{x:A},(∀y∈idsA x,m y=F y)->sT m x=sT F x/\uI m x=uI F x:=λ{x} hh=>by
  cases x<;>first|exact⟨rfl,rfl⟩|skip
  simp only[sT,uI,B hh,cW]
 have y0:∀{x:A} {sz:Nat} {lo hi mx:Option Int},(∀y∈idsA x,m y=F y)->sB m sz x lo hi mx=sB F sz x lo hi mx:=λ{x sz lo hi mx} hh=>by cases x<;>cases mx<;>first|rfl|(simp only[sB,B hh])
 cases po
 case slc sz lo hi mx=>
  rcases H with _|⟨x,_|⟨O,_|⟨M,_|⟨x4,_|⟨x5,U⟩⟩⟩⟩⟩
  .cases lo<;>cases hi<;>cases mx<;>rfl
  .have hx:=Y rfl;have:=λ{lo hi mx}=>y0 (sz:=sz) (lo:=lo) (hi:=hi) (mx:=mx) hx;cases lo<;>cases hi<;>cases mx<;>first|rfl|(simp only[ev,this])
  .have hx:=Y rfl;have:=λ{lo hi mx}=>y0 (sz:=sz) (lo:=lo) (hi:=hi) (mx:=mx) hx;cases lo<;>cases hi<;>cases mx<;>cases O<;>first|rfl|(simp only[ev,this])
  .have hx:=Y rfl;have:=λ{lo hi mx}=>y0 (sz:=sz) (lo:=lo) (hi:=hi) (mx:=mx) hx;cases lo<;>cases hi<;>cases mx<;>cases O<;>cases M<;>first|rfl|(simp only[ev,this])
  .have hx:=Y rfl;have:=λ{lo hi mx}=>y0 (sz:=sz) (lo:=lo) (hi:=hi) (mx:=mx) hx;cases lo<;>cases hi<;>cases mx<;>first|rfl|(cases O<;>first|rfl|(cases M<;>first|rfl|(cases x4<;>first|rfl|(simp only[ev,this]))))
  .cases lo<;>cases hi<;>cases mx<;>first|rfl|(cases O<;>first|rfl|(cases M<;>first|rfl|(cases x4<;>rfl)))
 case slcS lo hi=>rcases H with _|⟨x,_|⟨O,_|⟨M,_|⟨x4,U⟩⟩⟩⟩<;>cases lo<;>cases hi<;>first|rfl|(cases x<;>first|rfl|(cases O<;>first|rfl|(cases M<;>rfl)))
 case cvS=>
  rcases H with _|⟨x,_|⟨O,U⟩⟩<;>first|rfl|skip
  obtain⟨g1,g2⟩:=x0 (Y rfl);simp only[ev,g1,g2]
 case append sz bytes z=>
  rcases H with _|⟨x,_|⟨O,_|⟨M,U⟩⟩⟩<;>first|rfl|skip
  have hx:=Y rfl;obtain⟨g1,g2⟩:=x0 (e2 rfl);simp only[ev,g1,g2];cases x<;>first|rfl|skip
  have e:=B hx;simp only[e]
 case appc sz bytes=>
  rcases H with _|⟨x,_|⟨O,_|⟨M,U⟩⟩⟩<;>first|rfl|skip
  have hx:=Y rfl;obtain⟨g1,g2⟩:=x0 (e2 rfl);simp only[ev,g1,g2];cases x<;>first|rfl|skip
  have e:=B hx;simp only[e]
 case clear sz z=>
  rcases H with _|⟨x,_|⟨O,U⟩⟩<;>first|rfl|skip
  have hx:=Y rfl;simp only[ev];cases x<;>first|rfl|skip
  have e:=B hx;simp only[e]
 case copy sz=>
  rcases H with _|⟨x,_|⟨O,_|⟨M,U⟩⟩⟩<;>first|rfl|skip
  have hx:=Y rfl;obtain⟨g1,g2⟩:=x0 (e2 rfl);simp only[ev,g1,g2];cases x<;>first|rfl|skip
  have e:=B hx;simp only[e]
 case load n ag=>
  rcases H with _|⟨x,_|⟨O,U⟩⟩<;>first|rfl|skip
  have hx:=Y rfl;cases x<;>first|rfl|skip
  have e:=h0 hx;simp only[ev,e]
 case store n=>
  rcases H with _|⟨x,_|⟨O,_|⟨M,U⟩⟩⟩<;>first|rfl|skip
  have hx:=Y rfl;cases x<;>first|rfl|skip
  have e:=h0 hx;simp only[ev,e]
 case faddr off=>
  rcases H with _|⟨x,_|⟨O,U⟩⟩<;>first|rfl|skip
  have hx:=Y rfl;cases x<;>first|rfl|skip
  have e:=h0 hx;simp only[ev,e]
 case nilck=>
  rcases H with _|⟨x,_|⟨O,U⟩⟩<;>first|rfl|skip
  have hx:=Y rfl;cases x<;>first|rfl|skip
  have e:=h0 hx;simp only[ev,e]
 case len=>
  rcases H with _|⟨x,_|⟨O,U⟩⟩<;>first|rfl|skip
  have hx:=Y rfl;cases x<;>first|rfl|skip
  have e:=B hx;simp only[ev,e]
 case lkp ok ag kz z=>
  rcases H with _|⟨x,_|⟨O,_|⟨M,U⟩⟩⟩<;>first|rfl|(cases x<;>rfl)|skip
  have hx:=Y rfl;cases x<;>first|rfl|skip
  have e:=mp hx;simp only[ev,e]
 case mupd kz ag n=>
  rcases H with _|⟨x,_|⟨O,_|⟨M,_|⟨x4,U⟩⟩⟩⟩<;>first|rfl|(cases x<;>rfl)|skip
  have hx:=Y rfl;cases x<;>first|rfl|skip
  have e:=mp hx;simp only[ev,e]
 case rng=>
  rcases H with _|⟨x,_|⟨O,U⟩⟩<;>first|rfl|(cases x<;>rfl)|skip
  have hx:=Y rfl;cases x<;>first|rfl|skip
  have e:=mp hx;simp only[ev,e]
 case lenM=>
  rcases H with _|⟨x,_|⟨O,U⟩⟩<;>first|rfl|(cases x<;>rfl)|skip
  have hx:=Y rfl;cases x<;>first|rfl|skip
  have e:=mp hx;simp only[ev,e]
 case iaA n sz=>
  rcases H with _|⟨x,_|⟨O,_|⟨M,U⟩⟩⟩<;>first|rfl|(cases O<;>rfl)|skip
  have hx:=Y rfl;cases O<;>first|rfl|skip
  cases x<;>first|rfl|skip
  have e:=h0 hx;simp only[ev,e]
 case iaS sz z=>
  rcases H with _|⟨x,_|⟨O,_|⟨M,U⟩⟩⟩<;>first|rfl|(cases O<;>rfl)|skip
  have hx:=Y rfl;cases O<;>first|rfl|skip
  cases x<;>first|rfl|skip
  have e:=B hx;simp only[ev,e]
 all_goals first
  |rfl
  |(rcases H with _|⟨x,_|⟨O,_|⟨M,U⟩⟩⟩<;>first|rfl|(cases x<;>first|rfl|(cases O<;>rfl)))
def NO{fr H:Nat->A}:∀(xs:List PX),(∀t∈rdsX xs,fr t=H t)->nW C fr xs=nW C H xs/\(gdsF C fr xs↔gdsF C H xs)
 |[],_=>⟨rfl,lE⟩
 |x::xs,h=>by have O:=Ar (x:=x) C.G (f:=fr) (g:=H) λ t ht=>h t ((tV x xs t).2 (.inl ht));obtain⟨U,Y⟩:=NO xs λ t ht=>h t ((tV x xs t).2 (.inr ht));simp only[nW,gdsF,O,U,Y,cW]
def aL8{p:POp}{s s2:S}{id:Nat}{v:A}{mw:List (Nat×MS)}(hr:∀t∈p.rds,s.fr t=s2.fr t)(hm:∀y∈pZ (nW C s.fr p.xs),s.mem y=s2.mem y)(hw:∀y∈mw.map (·.1),s.mem y=s2.mem y)
  (F:∀f U H,(p.po=.callv\/p.po=.callvm)->nW C s.fr p.xs=.clo f U::H->∀c∈U,idsA c=tJ c)
  (h:aopS C p s id (λ v' M=>v'=v/\M=mw)):aopS C p s2 id (λ v' M=>v'=v/\M=mw):=by
 have hx:∀t∈rdsX p.xs,s.fr t=s2.fr t:=λ t ht=>hr t (dJ _ ht);obtain⟨hv,x0⟩:=NO (C:=C) p.xs hx;have y0:oV s2.fr p.g=oV s.fr p.g:=by
  cases hg:p.g with
  |none=>rfl
  |some q=>simp only[oV];rw[hr q.1 (dW _ (by simp[hg]))]
 obtain⟨z0,u0⟩:=J1 hm;have h0:∀r,oE s.mem (nW C s.fr p.xs) r=oE s2.mem (nW C s.fr p.xs) r:=λ r=>by simp only[oE,GX λ y hy=>hm y (J2 y hy)]
 unfold aopS at h⊢;rw[y0,<-hv,<-x0];cases hg:oV s.fr p.g with
 |none=>simp[hg]at h
 |some g=>
  simp only[hg]at h⊢;cases hp:p.po<;>simp only[hp]at h|-
  case pick=>
   split at h
   .rename_i c x y p0;simp only[p0]at hx⊢;have e1:=Ar (x:=c) C.G (f:=s.fr) (g:=s2.fr) λ t ht=>hx t ((tV _ _ _).2 (.inl ht));have e2:=Ar (x:=x) C.G (f:=s.fr) (g:=s2.fr) λ t ht=>hx t ((tV _ _ _).2 (.inr ((tV _ _ _).2 (.inl ht))));have e3:=Ar (x:=y) C.G (f:=s.fr) (g:=s2.fr) λ t ht=>hx t ((tV _ _ _).2 (.inr ((tV _ _ _).2 (.inr ht))));rw[<-e1,<-e2,<-e3];exact h
   .exact h.elim
  case call f=>rw[<-z0,<-u0];obtain⟨r,h1,h2,h3⟩:=h;exact⟨r,h1,by rw[<-h0];exact h2,by rw[<-h0];exact h3⟩
  case callv=>
   split at h
   .rename_i f U H O;have hc:=F f U H (.inl hp) O;have B:∀y∈pZ (H++U),s.mem y=s2.mem y:=λ y hy=>hm y (by rw[O];exact Sr hy hc);obtain⟨g1,g2⟩:=J1 B;have Y:∀r,oE s.mem (H++U) r=oE s2.mem (H++U) r:=λ r=>by
     simp only[oE,GX λ y hy=>B y (J2 y hy)]
    obtain⟨r,h1,h2,h3⟩:=h;rw[<-g1,<-g2];exact⟨r,h1,by rw[<-Y];exact h2,by rw[<-Y];exact h3⟩
   .exact h.elim
  case callb=>
   split at h
   .rename_i f cs H O;have B:∀y∈pZ (.agg cs::H),s.mem y=s2.mem y:=λ y hy=>hm y (by rw[O];exact hy);obtain⟨g1,g2⟩:=J1 B;have Y:∀r,oE s.mem (.agg cs::H) r=oE s2.mem (.agg cs::H) r:=λ r=>by
     simp only[oE,GX λ y hy=>B y (J2 y hy)]
    obtain⟨r,h1,h2,h3⟩:=h;rw[<-g1,<-g2];exact⟨r,h1,by rw[<-Y];exact h2,by rw[<-Y];exact h3⟩
   .exact h.elim
  case callm f=>exact Sp hm hw h
  case callvm=>
   split at h
   .rename_i f U H O;have hc:=F f U H (.inr hp) O;exact Sp (λ y hy=>hm y (by rw[O];exact Sr hy hc)) hw h
   .exact h.elim
  all_goals
   rw[<-aL6 (id:=id) hm];exact h
def aL9{p:POp}{s s2:S}{id:Nat}{v:A}{mw:List (Nat×MS)}(B:∀t∈p.rds,s.fr t=s2.fr t)(hm:∀y∈idsP p.po (nW C s.fr p.xs),s.mem y=s2.mem y)(hw:∀y∈mw.map (·.1),s.mem y=s2.mem y)
  (Y:∀f O H,(p.po=.callv\/p.po=.callvm)->nW C s.fr p.xs=.clo f O::H->∀c∈O,idsA c=tJ c)
  (h:aopS C p s id (λ F U=>F=v/\U=mw)):aopS C p s2 id (λ F U=>F=v/\U=mw):=by
 cases hpo:p.po with
 |mv=>
  have hx:∀t∈rdsX p.xs,s.fr t=s2.fr t:=λ t ht=>B t (dJ _ ht);obtain⟨hv,M⟩:=NO (C:=C) p.xs hx;have h0:oV s2.fr p.g=oV s.fr p.g:=by
   cases hg:p.g with
   |none=>rfl
   |some q=>simp only[oV];rw[B q.1 (dW _ (by simp[hg]))]
  unfold aopS at h⊢;rw[h0,<-hv,<-M];cases hg:oV s.fr p.g with
  |none=>simp[hg]at h
  |some g=>
   simp only[hg,hpo]at h⊢;have e:∀H,ev id s.mem .mv H=ev id s2.mem .mv H:=λ H=>by rcases H with _|⟨x,_|⟨x2,xs⟩⟩<;>rfl
   rw[<-e];exact h
 |_=>exact aL8 B (λ y hy=>hm y (by rw[hpo];exact hy)) hw Y h
set_option maxHeartbeats 1000000 in
def aLa{id:Nat}{m:Nat->MS}{M:PO}{H:List A}{ef:Ef}(h:ev id m M H=some ef):id∈ef.mw.map (·.1)\/∀U,ev U m M H=some ef:=by
 cases M
 case nilown sz z=>rcases H with _|⟨x,_|⟨O,Y⟩⟩<;>cases h;exact .inl (by simp)
 case box n=>rcases H with _|⟨x,_|⟨O,Y⟩⟩<;>cases h;exact .inl (by simp)
 case alloc n z=>rcases H with _|⟨x,Y⟩<;>cases h;exact .inl (by simp)
 case bown sz z=>simp only[ev,cY]at h;subst h;exact .inl (by simp)
 case mkmap z=>rcases H with _|⟨x,Y⟩<;>cases h;exact .inl (by simp)
 case rng=>
  rcases H with _|⟨x,_|⟨O,Y⟩⟩<;>first|(cases h;done)|(cases x<;>cases h;done)|skip
  cases x<;>simp only[ev]at h<;>first|(cases h;done)|skip
  split at h
  .cases h;exact .inl (by simp)
  .cases h
 case next d=>exact .inr λ U=>by rw[<-h];rfl
 case entry d=>exact .inr λ U=>by rw[<-h];rfl
 case lkp ok ag kz z=>exact .inr λ U=>by rw[<-h];rcases H with _|⟨x,_|⟨O,_|⟨B,Y⟩⟩⟩<;>first|rfl|(cases x<;>rfl)
 case mupd kz ag n=>exact .inr λ U=>by rw[<-h];rcases H with _|⟨x,_|⟨O,_|⟨B,_|⟨x4,Y⟩⟩⟩⟩<;>first|rfl|(cases x<;>rfl)
 case lenM=>exact .inr λ U=>by rw[<-h];rcases H with _|⟨x,_|⟨O,Y⟩⟩<;>first|rfl|(cases x<;>rfl)
 case mk sz b z=>
  rcases H with _|⟨x,_|⟨O,_|⟨B,Y⟩⟩⟩<;>first|(cases h;done)|(cases x<;>cases h;done)|skip
  .cases x<;>cases O<;>cases h;exact .inl (by simp)
  .cases x<;>cases O<;>cases h
 case append sz b z=>
  rcases H with _|⟨x,_|⟨O,_|⟨B,Y⟩⟩⟩<;>first|(cases h;done)|skip
  simp only[ev,gX]at h;obtain⟨new,F,h⟩:=h;cases x<;>simp only[]at h<;>first|(cases h;done)|skip
  .cases h;exact .inl (by simp)
  .split at h
   .cases h;exact .inl (by simp)
   .cases h
 case appc sz b=>
  rcases H with _|⟨x,_|⟨O,_|⟨B,Y⟩⟩⟩<;>first|(cases h;done)|skip
  simp only[ev,gX]at h;obtain⟨new,F,h⟩:=h;cases x<;>simp only[]at h<;>first|(cases h;done)|skip
  split at h
  .cases h;exact .inl (by simp)
  .cases h
 all_goals
  refine .inr λ U=>?_;rw[<-h]
  first
   |rfl
   |(rename_i lo hi mx;cases lo<;>cases hi<;>cases mx<;>rcases H with _|⟨x,_|⟨O,_|⟨B,_|⟨x4,_|⟨x5,Y⟩⟩⟩⟩⟩<;>first|rfl|(cases O<;>first|rfl|(cases B<;>first|rfl|(cases x4<;>rfl))))
   |(rename_i lo hi;cases lo<;>cases hi<;>rcases H with _|⟨x,_|⟨O,_|⟨B,_|⟨x4,Y⟩⟩⟩⟩<;>first|rfl|(cases x<;>first|rfl|(cases O<;>first|rfl|(cases B<;>rfl))))
   |(rcases H with _|⟨x,_|⟨O,_|⟨B,Y⟩⟩⟩<;>first|rfl|(cases x<;>first|rfl|(cases O<;>rfl))|(cases O<;>rfl))
def aLb{p:POp}{s:S}{id:Nat}{v:A}{mw:List (Nat×MS)}(h:aopS C p s id (λ Y O=>Y=v/\O=mw)):id∈mw.map (·.1)\/∀H,id<=H->aopS C p s H (λ Y O=>Y=v/\O=mw):=by
 have cm:∀{f:FuncId} {U:List A} {og:Option (Nat×Bool)} {g:Bool} {ob:Prop},tT C s.mem id f U og g ob (λ n=>∀x,id<=x->x<id+n->s.mem x=.fresh) (λ Y O=>Y=v/\O=mw)->
   id∈mw.map (·.1)\/∀H,id<=H->tT C s.mem H f U og g ob (λ n=>∀x,H<=x->x<H+n->s.mem x=.fresh) (λ Y O=>Y=v/\O=mw):=λ{f U og g ob} h=>by
  obtain⟨l,az,ms,k,r,ms',k',ht,hf,M,h5,h7,h8⟩:=h
  by_cases hk:k=k'
  .have en:∀H,newL k H (k'-k)=[]:=λ H=>by rw[hk,hJ];rfl
   simp only[en]at hf M h7 h8;refine .inr λ H x0=>⟨l,az,ms,k,r,ms',k',λ hg=>?_,?_⟩
   .obtain⟨h0,h3,F,h6⟩:=ht hg;obtain⟨g1,g2,g3,g4,g5,g6,g7,g8⟩:=F;exact⟨h0,h3,⟨g1,g2,g3,g4,g5,g6,λ q hq=>eK (g7 q hq) x0,g8⟩,λ x hx y0=>om⟩
   .simp only[en];exact⟨hf,M,h5,h7,h8⟩
  .have hg:g=true:=by
    cases g with
    |true=>rfl
    |false=>exact absurd (hf rfl).1 hk
   obtain⟨h0,h3,F,h6⟩:=ht hg;obtain⟨g1,g2,g3,g4,g5,g6,g7,g8⟩:=F;have z0:k<=k':=fP g6;left;rw[<-h8,mwM,fL];refine dJ _ ?_;have:=NN (L:=l++newL k id (k'-k)) (ms':=ms') (ids:=ms.map (·.1)++(List.range (k'-k)).map (k+·)) (k+0) (dJ _ (cR.2 ⟨0,eH.2 om,rfl⟩));have e:rho (l++newL k id (k'-k)) (k+0)=id+0:=by simp only[rho,Ao,Ap];rw[GS λ q hq=>by have:=g8 q hq;omega,cA om];simp
   rw[e]at this;exact this
 unfold aopS at h⊢;cases hg:oV s.fr p.g with
 |none=>simp[hg]at h
 |some g=>
  simp only[hg]at h⊢;cases hp:p.po<;>simp only[hp]at h|-
  case pick=>exact .inr λ _ _=>h
  case call f=>exact .inr λ _ _=>h
  case callv=>exact .inr λ _ _=>h
  case callb=>exact .inr λ _ _=>h
  case callm f=>exact cm h
  case callvm=>
   split at h
   .exact cm h
   .exact h.elim
  all_goals
   split at h
   .rename_i ef B;obtain⟨h1,h2,h3,F⟩:=h;rcases aLa B with g1|g1
    .exact .inl (F▸g1)
    .exact .inr λ H _=>by rw[g1 H];exact⟨h1,h2,h3,F⟩
   .rename_i B;exact .inr λ H _=>by rw[<-ZM (id:=id) h.2.1,B];exact h
end
section
variable {C:Cx} {E:Env}
def FSt(ps:List POp)(vs:Nat->A)(mws:Nat->List (Nat×MS))(s:S)(f:Nat->Bool):Nat->S
  |0=>s
  |n+1=>match ps[n]? with
    |some p=>if f n then⟨setF (FSt ps vs mws s f n).fr p.dst (vs n),setM (FSt ps vs mws s f n).mem (mws n)⟩else FSt ps vs mws s f n
    |none=>FSt ps vs mws s f n
def wT{y:Nat}:∀{mw:List (Nat×MS)} {m:Nat->MS},y∉mw.map (·.1)->setM m mw y=m y
  |[],_,_=>rfl
  |q::mw,m,h=>by simp only[setM];rw[wT λ H=>h (.tail _ H)];refine bX λ e=>h ?_;rw[e];exact .head _
def J3{y:Nat}:∀{mw:List (Nat×MS)} {m O:Nat->MS},y∈mw.map (·.1)->setM m mw y=setM O mw y
  |q::mw,m,O,h=>by
    simp only[setM]
    by_cases H:y∈mw.map (·.1)
    .exact J3 H
    · rw[wT H,wT H]
      rcases cK.1 h with rfl|h
      .simp
      .exact absurd h H
def NP{ps:List POp}{vs:Nat->A}{mws:Nat->List (Nat×MS)}{s:S}{f f':Nat->Bool}:∀n,(∀i,i<n->f i=f' i)->FSt ps vs mws s f n=FSt ps vs mws s f' n
  |0,_=>rfl
  |n+1,h=>by have H:=NP (ps:=ps) (vs:=vs) (mws:=mws) (s:=s) n λ i hi=>h i om;simp only[FSt,H,h n om]
def BY(f:Nat->A)(d:Option Nat)(v:A)(t:Nat):setF f d v t=if d=some t then v else f t:=rfl
def Ss{ps:List POp}{vs:Nat->A}{mws:Nat->List (Nat×MS)}{s:S}{f:Nat->Bool}{j t:Nat}(U:∀i q,i<j->ps[i]? =some q->q.dst=some t->f i=true)(Y:∀i q,j<=i->ps[i]? =some q->q.dst=some t->f i=false):
    ∀n,(FSt ps vs mws s f n).fr t=(FSt ps vs mws s (λ _=>true) (min n j)).fr t
  |0=>by simp[FSt]
  |n+1=>by
    have H:=Ss (vs:=vs) (mws:=mws) (s:=s) U Y n
    by_cases B:n<j
    · rw[show min (n+1) j=n+1 by omega]
      rw[show min n j=n by omega]at H;simp only[FSt];cases hq:ps[n]? with
      |none=>exact H
      |some q=>
        simp only[cH]
        by_cases O:q.dst=some t
        .rw[U n q B hq O];simp[BY,O]
        · rw[BY,bX O]
          split
          .simp only[BY,bX O];exact H
          .exact H
    · rw[show min (n+1) j=j by omega]
      rw[show min n j=j by omega]at H;simp only[FSt];cases hq:ps[n]? with
      |none=>exact H
      |some q=>
        simp only[]
        by_cases O:q.dst=some t
        .rw[Y n q om hq O];simpa using H
        · split
          .simp only[BY,bX O];exact H
          .exact H
def NQ{ps:List POp}{vs:Nat->A}{mws:Nat->List (Nat×MS)}{s:S}{f:Nat->Bool}{j y:Nat}(U:∀i q,i<j->ps[i]? =some q->y∈(mws i).map (·.1)->f i=true)(Y:∀i q,j<=i->ps[i]? =some q->y∈(mws i).map (·.1)->f i=false):
    ∀n,(FSt ps vs mws s f n).mem y=(FSt ps vs mws s (λ _=>true) (min n j)).mem y
  |0=>by simp[FSt]
  |n+1=>by
    have H:=NQ (vs:=vs) (mws:=mws) (s:=s) U Y n
    by_cases B:n<j
    · rw[show min (n+1) j=n+1 by omega]
      rw[show min n j=n by omega]at H;simp only[FSt];cases hq:ps[n]? with
      |none=>exact H
      |some q=>
        simp only[cH]
        by_cases O:y∈(mws n).map (·.1)
        .rw[U n q B hq O];simp only[cH];exact J3 O
        · rw[wT O]
          split
          · show setM _ _ _=_
            rw[wT O];exact H
          .exact H
    · rw[show min (n+1) j=j by omega]
      rw[show min n j=j by omega]at H;simp only[FSt];cases hq:ps[n]? with
      |none=>exact H
      |some q=>
        simp only[]
        by_cases O:y∈(mws n).map (·.1)
        .rw[Y n q om hq O];simpa using H
        · split
          · show setM _ _ _=_
            rw[wT O];exact H
          .exact H
def Su{ps:List POp}{vs:Nat->A}{mws:Nat->List (Nat×MS)}{s:S}{f:Nat->Bool}{j:Nat}{p:POp}(hp:ps[j]? =some p)(hf:f j=false)(f':Nat->Bool)(hj:f' j=true)(Y:∀i,i≠j->f' i=f i)
    (hc:∀i q,j<i->ps[i]? =some q->f i=true->conf p q=false) (hm:∀i q,j<i->ps[i]? =some q->f i=true->∀y∈(mws j).map (·.1),y∉(mws i).map (·.1)):
    ∀n,(∀t,(FSt ps vs mws s f' n).fr t=if j<n/\p.dst=some t then vs j else(FSt ps vs mws s f n).fr t)/\∀y,(FSt ps vs mws s f' n).mem y=if j<n then setM (FSt ps vs mws s f n).mem (mws j) y else(FSt ps vs mws s f n).mem y
  |0=>by simp[FSt]
  |n+1=>by
    obtain⟨M,H⟩:=Su (vs:=vs) (mws:=mws) (s:=s) hp hf f' hj Y hc hm n
    by_cases hn:n=j
    · subst hn
      simp only[FSt,hp,hj,hf,cH,bZ,cI];refine⟨λ t=>?_,λ y=>?_⟩
      · rw[BY]
        by_cases U:p.dst=some t
        .simp[U]
        · simp only[U,cI,and_false]
          have:=M t
          simpa [U]using this
      · rw[cA (eQ n)]
        have e:(FSt ps vs mws s f' n).mem=(FSt ps vs mws s f n).mem:=funext λ z=>by have:=H z;simpa using this
        rw[e]
    · have hlt:j<n+1↔j<n:=om
      simp only[FSt,Y n hn,hlt];cases hq:ps[n]? with
      |none=>exact⟨by simpa using M,by simpa using H⟩
      |some q=>
        simp only[];split
        · rename_i B
          refine⟨λ t=>?_,λ y=>?_⟩
          · simp only[BY,M t]
            by_cases U:q.dst=some t
            · simp only[U,cH]
              by_cases O:j<n
              · have:=hc n q O hq B
                unfold conf at this
                by_cases F:p.dst=some t
                .simp[F,U]at this
                .simp[F]
              .simp[O]
            .simp[U]
          · by_cases O:j<n
            · simp only[O,cH]at H|-
              have h0:=hm n q O hq B
              by_cases h1:y∈(mws n).map (·.1)
              · rw[wT (mw:=mws j) λ hh=>h0 y hh h1]
                exact J3 h1
              · rw[wT h1,H y]
                by_cases h2:y∈(mws j).map (·.1)
                .exact J3 h2
                .rw[wT h2,wT h2,wT h1]
            · simp only[O,cI]at H|-
              have e:(FSt ps vs mws s f' n).mem=(FSt ps vs mws s f n).mem:=funext H;rw[e]
        .exact⟨M,H⟩
def Ed:∀{x y:List Nat},disj x y=true->∀z∈x,z∉y
  |a::x,y,h,z,hz=>by
    simp only[disj,bY,dB,kD,dE]at h;rcases cK.1 hz with rfl|hz
    .exact h.1
    .exact Ed h.2 z hz
def Sv{O:List Nat}:∀{H:List (List Nat×List Nat)} {i:Nat} {r w:List Nat},vO O i H r w=true->∀n q,H[n]? =some q->i+n∉O->disj q.2 r=true/\disj q.2 w=true/\disj w q.1=true
  |x::H,i,r,w,h,n,q,hq,hn=>by
    simp only[vO,bY,dU]at h;cases n with
    |zero=>
      simp at hq;subst hq;rcases h.1 with h1|h1
      .exact absurd (by simpa using h1) hn
      .exact⟨h1.1.1,h1.1.2,h1.2⟩
    |succ n=>exact Sv h.2 n q (by simpa using hq) (by rwa [show i+1+n=i+(n+1)by omega])
def Sw{an:List (List Nat)}{K:St->Prop}:∀(ps:List POp) (st:St) (H:List (List Nat×List Nat)),rU C an ps st H K->∃(vs:Nat->A) (mws:Nat->List (Nat×MS)) (sts:Nat->St),K (sts ps.length)/\sts 0=st/\
    ∀j p,ps[j]? =some p->sts (j+1)=(sts j).app p.dst (vs j) (mws j)/\mwOk (sts j).nx (mws j)/\aopS C p (sts j).toS (sts j).nx (λ v M=>v=vs j/\M=mws j)/\yE (nC C (sts j) p.xs)=true/\
      (∀i q,i<H.length->H[i]? =some q->i∉an.getD (H.length+j) []->disj q.2 (idsP p.po (nC C (sts j) p.xs))=true/\disj q.2 ((mws j).map (·.1))=true/\disj ((mws j).map (·.1)) q.1=true)/\
      (∀i q,i<j->ps[i]? =some q->H.length+i∉an.getD (H.length+j) []->disj ((mws i).map (·.1)) (idsP p.po (nC C (sts j) p.xs))=true/\disj ((mws i).map (·.1)) ((mws j).map (·.1))=true/\disj ((mws j).map (·.1)) (idsP q.po (nC C (sts i) q.xs))=true)
  |[],st,H,h=>⟨λ _=>.any,λ _=>[],λ _=>st,h,rfl,λ j p hp=>by simp at hp⟩
  |p::ps,st,H,h=>by
    obtain⟨v,M,⟨h0,hi,Y,U⟩,h4⟩:=aKp (aKq h);obtain⟨vs,mws,sts,h5,h6,h7⟩:=Sw ps _ _ U;refine⟨λ i=>match i with|0=>v|i+1=>vs i,λ i=>match i with|0=>M|i+1=>mws i,λ i=>match i with|0=>st|i+1=>sts i,h5,rfl,λ j q B=>?_⟩;cases j with
    |zero=>simp at B;subst B;refine⟨h6,h0,h4,Y,λ i q O B F=>?_,λ i q O=>om⟩;exact Sv hi i q B (by rw[eC];exact F)
    |succ j=>
      obtain⟨g1,g2,g3,g4,g5,g6⟩:=h7 j q (by simpa using B);simp only[cC,ym,Ym,eC]at g5 g6;refine⟨g1,g2,g3,g4,λ i x O hx F=>?_,λ i x O hx F=>?_⟩
      .exact g5 i x om (by rw[dX O];exact hx) (by rwa [show H.length+1+j=H.length+(j+1)by omega])
      · cases i with
        |zero=>simp at hx;subst hx;have:=g5 H.length (idsP p.po (nC C st p.xs),M.map (·.1)) om (by rw[fE (dC _)];simp) (by rw[show H.length+1+j=H.length+(j+1)by omega];exact F);exact this
        |succ i=>exact g6 i x om (by simpa using hx) (by rw[show H.length+1+j=H.length+(j+1)by omega,show H.length+1+i=H.length+(i+1)by omega];exact F)
def Sx{st:St}(xs:List PX):nC C st xs=nW C st.toS.fr xs:=GR xs
def aLn{Y:Array Oper}{ps:List POp}{s0:S}{vs:Nat->A}{mws:Nat->List (Nat×MS)}{sts:Nat->St}{K:St->Prop}{Q:Exit->Act->World->Prop}(hG:E.G=C.G)(hr:ROk C E.N Y 0 ps)(w1:POp.sortOk Y.toList 0=true)
    (t1:D5 ps (ancs [] (Y.toList.map pV))=true) (hK:K (sts ps.length))
    (c1:∀j,j<=ps.length->(sts j).toS=FSt ps vs mws s0 (λ _=>true) j)
    (hv:∀j p,ps[j]? =some p->mwOk (sts j).nx (mws j)/\aopS C p (sts j).toS (sts j).nx (λ v mw=>v=vs j/\mw=mws j)/\yE (nC C (sts j) p.xs)=true/\
      (∀i q,i<j->ps[i]? =some q->i∉(ancs [] (Y.toList.map pV)).getD j []->disj ((mws i).map (·.1)) (idsP p.po (nC C (sts j) p.xs))=true/\disj ((mws i).map (·.1)) ((mws j).map (·.1))=true/\disj ((mws j).map (·.1)) (idsP q.po (nC C (sts i) q.xs))=true))
    (b0:∀i j,i<=j->(sts i).nx<=(sts j).nx) (d1:∀y,(sts 0).nx<=y->s0.mem y=.fresh) (f1:∀j p y,ps[j]? =some p->y∈(mws j).map (·.1)->y<(sts (j+1)).nx)
    (hQ:∀st' a' w',K st'->Sat E st'.toS a' w'->Q .normal a' w'):
    ∀(F:Nat) (H:Array Bool) (a:Act) (w:World),H.size=Y.size->Sat E (FSt ps vs mws s0 (λ i=>H.getD i false) ps.length) a w->
      (∀j o,Y[j]? =some o->H.getD j false=true->∀i∈pV o,H.getD i false=true)->left (λ i=>H.getD i false) Y.size<=F->
      wpAny C.P .any Y Q F H a w:=by
  have hlen:ps.length=Y.size:=by have:=hr.size;omega
  have u0:∀(H:Array Bool) (a:Act) (w:World),Sat E (FSt ps vs mws s0 (λ i=>H.getD i false) ps.length) a w->(∀i,i<Y.size->H.getD i false=true)->Q .normal a w:=by intro H a w hs x0;refine hQ _ a w hK ?_;rw[c1 ps.length (dC _),NP (f:=λ _=>true) (f':=λ i=>H.getD i false) ps.length λ i hi=>(x0 i om).symm];exact hs
  have c0:∀(H:Array Bool),H.size=Y.size->Region.ready .any Y H=[]->∀i,i<Y.size->H.getD i false=true:=by
    intro H d0 a0 i;induction i using Nat.strongRecOn with
    |_ i ih=>
      intro hi;cases hl:H.getD i false with
      |true=>rfl
      |false=>
        have:i∈Region.ready .any Y H:=by
          rw[mem_ready];refine⟨?_,Y[i],by simp[hi],λ e he hb=>?_⟩
          · have h1:i<H.size:=om
            simp only[Array.getD,h1,kR]at hl⊢;exact hl
          · have h2:e.on∈pV Y[i]:=by
              simp only[pV,cR,gY];exact⟨e,⟨by simpa using he,hb⟩,rfl⟩
            have h3:=NI Y.toList 0 w1 i Y[i] (by simp[hi]) e.on h2;exact ih e.on om om
        rw[a0]at this;cases this
  intro F;induction F with
  |zero=>
    intro H a w d0 hs x1 x2;have x0:=NK (f:=λ i=>H.getD i false) Y.size om;refine⟨?_,u0 H a w hs x0⟩;cases hrd:Region.ready .any Y H with
    |nil=>rfl
    |cons i rs=>
      have:i∈Region.ready .any Y H:=by rw[hrd];simp
      rw[mem_ready]at this;obtain⟨h1,o,ho,_⟩:=this;have hi:=(cS.1 ho).1;have:=x0 i hi;have h2:i<H.size:=om
      simp only[Array.getD,h2,kR]at h1 this;rw[this]at h1;cases h1
  |succ F ih=>
    intro H a w d0 hs x1 x2;refine⟨λ a0=>u0 H a w hs (c0 H d0 a0),λ i hi=>?_⟩;rw[mem_ready]at hi;obtain⟨hl,o,ho,y2⟩:=hi;have hlt:=(cS.1 ho).1;have f0:i<H.size:=om
    have hl:H.getD i false=false:=by simp only[Array.getD,f0,kR]at hl⊢;exact hl
    obtain⟨p,hp,z2⟩:=hr.at (j:=i) (by rw[eC];exact ho);have y1:∀k∈pV o,H.getD k false=true:=by intro k O;simp only[pV,cR,gY]at O;obtain⟨e,⟨he,hb⟩,rfl⟩:=O;exact y2 e (by simpa using he) hb
    have y0:(H.setIfInBounds i true).getD i false=true:=by simp[Array.getD,f0]
    have U:∀k,k≠i->(H.setIfInBounds i true).getD k false=H.getD k false:=λ k O=>getD_set_ne false (lD O);have l0:∀j o,Y[j]? =some o->(H.setIfInBounds i true).getD j false=true->∀k∈pV o,(H.setIfInBounds i true).getD k false=true:=by
      intro j o' h0 hj k O
      by_cases k1:j=i
      · subst k1
        rw[ho]at h0;cases h0;exact getD_set_true (y1 k O)
      · rw[U j k1]at hj
        exact getD_set_true (x1 j o' h0 hj k O)
    have m0:∀j,(H.setIfInBounds i true).getD j false=true->∀k∈(ancs [] (Y.toList.map pV)).getD j [],(H.setIfInBounds i true).getD k false=true:=
      GV (D:=λ j=>(H.setIfInBounds i true).getD j false=true) _ [] (λ j e he hD=>by
        simp only[cV,cN]at he;obtain⟨o',h0,rfl⟩:=he;exact l0 j o' (by simpa using h0) (by simpa using hD)) (λ j _ k O=>by simp at O)
    have p0:∀j,H.getD j false=true->∀k∈(ancs [] (Y.toList.map pV)).getD j [],H.getD k false=true:=
      GV (D:=λ j=>H.getD j false=true) _ [] (λ j e he hD=>by
        simp only[cV,cN]at he;obtain⟨o',h0,rfl⟩:=he;exact x1 j o' (by simpa using h0) (by simpa using hD)) (λ j _ k O=>by simp at O)
    have l1:∀k q,k<i->ps[k]? =some q->conf q p=true->H.getD k false=true:=by intro k q O hq hc;have:=m0 i y0 k (JX t1 O hq hp hc);rwa [U k om]at this
    have j0:∀k q,i<k->ps[k]? =some q->conf p q=true->H.getD k false=false:=by
      intro k q O hq hc;cases B:H.getD k false with
      |false=>rfl
      |true=>have:=p0 k B i (JX t1 O hp hq hc);rw[hl]at this;cases this
    have z1:∀k,k<i->H.getD k false=false->k∉(ancs [] (Y.toList.map pV)).getD i []:=λ k O B hh=>by have:=m0 i y0 k hh;rw[U k om,B]at this;cases this
    have q0:∀k,i<k->H.getD k false=true->i∉(ancs [] (Y.toList.map pV)).getD k []:=λ k O B hh=>by have:=p0 k B i hh;rw[hl]at this;cases this
    obtain ⟨d2,m1,o0,i1⟩:=hv i p hp;have z0:i<ps.length:=(cJ.1 hp).1;have o1:=c1 i (jF z0);have r0:∀y,(y∈idsP p.po (nC C (sts i) p.xs)\/y∈(mws i).map (·.1))->(FSt ps vs mws s0 (λ k=>H.getD k false) ps.length).mem y=(sts i).toS.mem y:=λ y hy=>by
      rw[o1];have:=NQ (ps:=ps) (vs:=vs) (mws:=mws) (s:=s0) (f:=λ k=>H.getD k false) (j:=i) (y:=y) (λ k q O hq M=>?_) (λ k q O hq M=>?_) ps.length
      .rw[this,jW (jF z0)]
      · cases B:H.getD k false with
        |true=>rfl
        |false=>
          obtain⟨g1,g2,g3⟩:=i1 k q O hq (z1 k O B);rcases hy with hy|hy
          .exact absurd hy (Ed g1 y M)
          .exact absurd hy (Ed g2 y M)
      · cases B:H.getD k false with
        |false=>rfl
        |true=>
          have e0:i<k:=by
            rcases Nat.lt_or_eq_of_le O with h|h
            .exact h
            .subst h;rw[hl]at B;cases B
          obtain⟨g0,u2,b1,gg⟩:=hv k q hq;obtain⟨g1,g2,g3⟩:=gg i p e0 hp (q0 k e0 B);rcases hy with hy|hy
          .exact absurd hy (Ed g3 y M)
          .exact absurd M (Ed g2 y hy)
    have u1:∀t∈p.rds,(sts i).toS.fr t=(FSt ps vs mws s0 (λ k=>H.getD k false) ps.length).fr t:=λ t ht=>by
      rw[o1];rw[Ss (j:=i) (t:=t) (f:=λ k=>H.getD k false) (λ k q O hq hd=>l1 k q O hq (JY hd (.inl ht)).1) (λ k q O hq hd=>?_) ps.length,jW (jF z0)]
      by_cases e0:k=i
      .subst e0;exact hl
      .exact j0 k q om hq ((JY hd (.inl ht)).2 ht)
    have t0:=aL9 (s2:=FSt ps vs mws s0 (λ k=>H.getD k false) ps.length) u1 (λ y hy=>(r0 y (.inl (by rw[Sx];exact hy))).symm) (λ y hy=>(r0 y (.inr hy)).symm) (λ f r2 t2 _ p1 c hc=>by
      rw[Sx,p1]at o0;exact Si o0 c hc) m1
    have a1:∃id,(FSt ps vs mws s0 (λ k=>H.getD k false) ps.length).mem id=.fresh/\aopS C p (FSt ps vs mws s0 (λ k=>H.getD k false) ps.length) id (λ v mw=>v=vs i/\mw=mws i):=by
      rcases aLb t0 with h1|h1
      .exact⟨_,by rw[r0 _ (.inr h1)];exact(sts i).m_nx,t0⟩
      · refine⟨(sts ps.length).nx,?_,h1 _ (b0 i _ (jF z0))⟩
        rw[NQ (j:=0) (f:=λ k=>H.getD k false) (λ k q O=>om) (λ k q _ hq M=>by
          have h2:=f1 k q _ hq M;have h3:=b0 (k+1) ps.length (cJ.1 hq).1;omega) ps.length]
        simp only[Nat.min_zero,FSt];exact d1 _ (b0 0 _ (fS _))
    obtain⟨id,p2,q1⟩:=a1;obtain⟨W,μ,hs⟩:=hs;have r1:=RO hs hG p2 z2 q1 (Q:=Q) (k:=wpAny C.P .any Y Q F (H.setIfInBounds i true)) (λ v mw a' w' q2 hs'=>by
      obtain⟨rfl,rfl⟩:=q2;refine ih _ a' w' (by simpa using d0) ?_ l0 ?_
      · obtain⟨e1,e2⟩:=Su (vs:=vs) (mws:=mws) (s:=s0) (f:=λ k=>H.getD k false) hp hl (λ k=>(H.setIfInBounds i true).getD k false) y0 U (λ k q O hq s1=>by
          cases hc:conf p q with
          |false=>rfl
          |true=>have:=j0 k q O hq hc;exact absurd (this.symm.trans s1) (by simp)) (λ k q O hq s1 y hy M=>by
          obtain⟨g0,u2,b1,gg⟩:=hv k q hq;obtain⟨g1,g2,g3⟩:=gg i p O hp (q0 k O s1);exact Ed g2 y hy M) ps.length
        have e:FSt ps vs mws s0 (λ k=>(H.setIfInBounds i true).getD k false) ps.length=⟨setF (FSt ps vs mws s0 (λ k=>H.getD k false) ps.length).fr p.dst (vs i),setM (FSt ps vs mws s0 (λ k=>H.getD k false) ps.length).mem (mws i)⟩:=by
          have h1:(FSt ps vs mws s0 (λ k=>(H.setIfInBounds i true).getD k false) ps.length).fr=setF (FSt ps vs mws s0 (λ k=>H.getD k false) ps.length).fr p.dst (vs i):=funext λ t=>by rw[e1 t,BY];simp only[z0,gG]
          have h2:(FSt ps vs mws s0 (λ k=>(H.setIfInBounds i true).getD k false) ps.length).mem=setM (FSt ps vs mws s0 (λ k=>H.getD k false) ps.length).mem (mws i):=funext λ y=>by rw[e2 y,cA z0]
          rw[<-h1,<-h2]
        rw[e];exact hs'
      · have:=NJ (f:=λ k=>H.getD k false) (f':=λ k=>(H.setIfInBounds i true).getD k false) (j:=i) hl y0 U Y.size
        rw[cA hlt]at this;omega)
    simp only[wpOp,ho];split at r1
    .rename_i hw;rw[cA hw];exact .inl r1
    .rename_i hw;rw[bX hw];exact r1
def NR:∀(mw:List (Nat×MS)) (nx:Nat),nx<=nxt nx mw
  |[],nx=>dC _
  |q::mw,nx=>by simp only[nxt];refine dG ?_ (NR mw _);split<;>omega
def Sy:∀{mw:List (Nat×MS)} {nx:Nat},mwOk nx mw->∀y∈mw.map (·.1),y<nxt nx mw
  |q::mw,nx,h,y,hy=>by
    obtain⟨O,U,H⟩:=h;simp only[nxt];rcases cK.1 hy with rfl|hy
    · refine eK ?_ (NR mw _)
      show q.1<_;split<;>omega
    .exact Sy H y hy
def aLq{Q:Exit->St->Prop}{st:St}{dr:List Nat}{an:List (List Nat)}{H:List POp}(hm:C.P.follows .mixedOrders=true)(hG:E.G=C.G)(h:rU C an H st [] λ s=>Q .normal (s.drop dr)):AW C E (.regm dr an H) Q st:=λ x0 hc a w hs=>by
  cases x0 with
  |region id os d=>
   cases d with
   |false=>simp[chkC]at hc
   |true=>
    simp only[chkC,bY,dL]at hc;obtain⟨u0,p0,q0,r0⟩:=hc;have hr:ROk C E.N os 0 H:=by obtain⟨P,G⟩:=C;exact JV os.toList H 0 u0 (by simp) (by simp)
    obtain⟨vs,mws,sts,hK,h0,hv⟩:=Sw H st [] h;subst r0;have y0:∀j,(sts j).nx<=(sts (j+1)).nx\/H.length<=j:=λ j=>by
      by_cases U:j<H.length
      · obtain⟨M,g2,_⟩:=hv j H[j] (by simp[U])
        left;rw[M];exact NR _ _
      .right;omega
    let O:Nat->St:=λ j=>if j<=H.length then sts j else sts H.length
    have hs':∀j,j<=H.length->O j=sts j:=λ j U=>cA U;have z0:∀j,H.length<=j->O j=sts H.length:=λ j U=>by
      show(if j<=H.length then sts j else sts H.length)=_;split
      .rw[show j=H.length by omega]
      .rfl
    have B:∀j,(O j).nx<=(O (j+1)).nx:=λ j=>by
      by_cases U:j<H.length
      · rw[hs' j om,hs' (j+1) om]
        rcases y0 j with h1|h1
        .exact h1
        .omega
      .rw[z0 j om,z0 (j+1) om];exact dC _
    have F:∀i j,i<=j->(O i).nx<=(O j).nx:=λ i j c0=>by
      induction j with
      |zero=>rw[show i=0 by omega];exact dC _
      |succ j Y=>
        by_cases hi:i=j+1
        .rw[hi];exact dC _
        .exact dG (Y om) (B j)
    have t0:∀j,j<=H.length->(O j).toS=FSt H vs mws st.toS (λ _=>true) j:=λ j U=>by
      rw[hs' j U];induction j with
      |zero=>rw[h0];rfl
      |succ j Y=>
        obtain⟨M,g2,_⟩:=hv j H[j] (by simp[show j<H.length by omega]);have Y:=Y om;rw[M,JO _ _ _ _ g2];have hq:H[j]? =some H[j]:=by simp[show j<H.length by omega]
        simp only[FSt,hq,cH];rw[<-Y];rfl
    refine wp_region_any hm ?_;refine aLn (s0:=st.toS) (vs:=vs) (mws:=mws) (sts:=O) (K:=λ s=>Q .normal (s.drop dr)) hG hr p0 q0 (by rw[hs' _ (dC _)];exact hK) t0 (λ j p hp=>?_) F (λ y hy=>?_) (λ j p y hp hy=>?_) (λ st' a' w' hQ hs'=>⟨_,hQ,hs'.drop⟩) os.size _ a _ (by simp) ?_ (λ j o ho U=>?_) ?_
    · have U:=(cJ.1 hp).1
      obtain⟨M,g2,g3,g4,_,g6⟩:=hv j p hp;rw[hs' j om];refine⟨g2,g3,g4,λ i q hi hq hn=>?_⟩;rw[hs' i om];simp only[Ym,eC]at g6;exact g6 i q hi hq hn
    · rw[hs' 0 (fS _),h0]at hy
      exact NE st y hy
    · have U:=(cJ.1 hp).1
      obtain⟨M,g2,_⟩:=hv j p hp;rw[hs' (j+1) om,M];exact Sy g2 y hy
    · have e:FSt H vs mws st.toS (λ i=>(Array.replicate os.size false).getD i false) H.length=FSt H vs mws st.toS (λ _=>false) H.length:=NP _ λ i _=>by simp[Array.getD]
      have e2:∀n,FSt H vs mws st.toS (λ _=>false) n=st.toS:=λ n=>by
        induction n with
        |zero=>rfl
        |succ n Y=>simp only[FSt,Y,bZ,cI];split<;>rfl
      rw[e,e2];exact hs.drawn (kQ _)
    .simp[Array.getD]at U
    · have:∀n,left (λ i=>(Array.replicate os.size false).getD i false) n<=n:=λ n=>by
        induction n with
        |zero=>exact dC _
        |succ n Y=>simp only[left];split<;>omega
      exact this _
  |_=>simp[chkC]at hc
end
def memN(n:Nat):List Nat->Bool
 |[]=>false
 |m::ms=>if n=m then true else memN n ms
def NS{n:Nat}:∀{l:List Nat},memN n l=true↔n∈l
 |[]=>by simp[memN]
 |m::ms=>by
  unfold memN;split
  .rename_i h;simp[h]
  .rename_i h;rw[NS];simp[h]
def fzA(ids:List Nat)(m:Nat->MS):A->A
 | .own y lo n=>if memN y ids=true then frz1 m (.own y lo n)else .own y lo n
 |a=>a
def fzCs(ids:List Nat)(m:Nat->MS):List A->List A
 |[]=>[]
 |a::az=>fzA ids m a::fzCs ids m az
def fzV(ids:List Nat)(m:Nat->MS):A->A
 | .agg H=>if mQ H=true then .agg H else .agg (fzCs ids m H)
 |a=>fzA ids m a
def fzEs(ids:List Nat)(m:Nat->MS)(es:List (List A)):List (List A):=if pureEs es=true then es else es.map (fzCs ids m)
def fzFr(ids:List Nat)(m:Nat->MS):List (Nat×A)->List (Nat×A)
 |[]=>[]
 |q::r=>(q.1,fzV ids m q.2)::fzFr ids m r
def GY(ids:List Nat)(m:Nat->MS):List (Nat×Row)->List (Nat×Row)
 |[]=>[]
 |q::r=>(q.1,⟨q.2.ro||memN q.1 ids,q.2.sz,q.2.z,fzEs ids m q.2.es⟩)::GY ids m r
def Ee(ids:List Nat)(m:Nat->MS):A->Prop
 | .own y lo n=>if memN y ids=true then sU m (.own y lo n)else True
 |_=>True
def Eg(ids:List Nat)(m:Nat->MS):List A->Prop
 |[]=>True
 |a::az=>Ee ids m a/\Eg ids m az
def GZ(ids:List Nat)(m:Nat->MS):A->Prop
 | .agg H=>if mQ H=true then True else Eg ids m H
 |a=>Ee ids m a
def J4(ids:List Nat)(m:Nat->MS):List (List A)->Prop
 |[]=>True
 |c::cs=>Eg ids m c/\J4 ids m cs
def J5(ids:List Nat)(m:Nat->MS)(es:List (List A)):Prop:=if pureEs es=true then True else J4 ids m es
def J6(ids:List Nat)(m:Nat->MS):List (Nat×A)->Prop
 |[]=>True
 |q::r=>GZ ids m q.2/\J6 ids m r
def J7(ids:List Nat)(m:Nat->MS):List (Nat×Row)->Prop
 |[]=>True
 |q::r=>J5 ids m q.2.es/\J7 ids m r
def St.fz(st:St)(ids:List Nat):St:=⟨fzFr ids st.m st.fr,GY ids st.m st.mem,st.nx⟩
def St.fzOk(st:St)(ids:List Nat):Prop:=J6 ids st.m st.fr/\J7 ids st.m st.mem
section
variable {C:Cx} {a:Act} {E:Env} {st:St} {w:World} {W:Nat→Prop} {μ:Nat→Loc}
def NT(ids:List Nat)(m:Nat->MS):∀(H:List A) (i:Nat),(fzCs ids m H)[i]? =(H[i]?).map (fzA ids m)
 |[],i=>by simp[fzCs]
 |c::H,i=>by
  cases i with
  |zero=>simp[fzCs]
  |succ i=>simp[fzCs,NT ids m H i]
def NU(ids:List Nat)(m:Nat->MS):∀H:List A,(fzCs ids m H).length=H.length
 |[]=>rfl
 |_::H=>by simp[fzCs,NU ids m H]
def NV{ids:List Nat}{m:Nat->MS}:∀{H:List A},Eg ids m H->∀c∈H,Ee ids m c
 |c::H,h,d,hd=>by
  rcases cK.1 hd with rfl|hd
  .exact h.1
  .exact NV h.2 d hd
def Sz{ids:List Nat}{m:Nat->MS}:∀{H:List (List A)},J4 ids m H->∀c∈H,Eg ids m c
 |c::H,h,d,hd=>by
  rcases cK.1 hd with rfl|hd
  .exact h.1
  .exact Sz h.2 d hd
def SA(ids:List Nat)(m:Nat->MS)(t:Nat):∀fr:List (Nat×A),look (fzFr ids m fr) t=(look fr t).map (fzV ids m)
 |[]=>rfl
 |q::r=>by
  simp only[fzFr,look];split
  .rfl
  .exact SA ids m t r
def SB(ids:List Nat)(m:Nat->MS)(x:Nat):∀mem:List (Nat×Row),look (GY ids m mem) x=(look mem x).map λ r=>⟨r.ro||memN x ids,r.sz,r.z,fzEs ids m r.es⟩
 |[]=>rfl
 |q::r=>by
  simp only[GY,look];split
  .rename_i h;subst h;rfl
  .exact SB ids m x r
def SC{ids:List Nat}{m:Nat->MS}:∀{fr:List (Nat×A)},J6 ids m fr->∀t v,look fr t=some v->GZ ids m v
 |q::r,h,t,v,hv=>by
  simp only[look]at hv;split at hv
  .cases hv;exact h.1
  .exact SC h.2 t v hv
def SD{ids:List Nat}{m:Nat->MS}:∀{mem:List (Nat×Row)},J7 ids m mem->∀x r,look mem x=some r->J5 ids m r.es
 |q::r,h,t,v,hv=>by
  simp only[look]at hv;split at hv
  .cases hv;exact h.1
  .exact SD h.2 t v hv
def RepK.less{v:Value}{x:A}{ids:List Nat}(h:RepK w W μ v x):RepK w (sJ W μ ids) μ v x:=
 h.goes (Keeps.refl (λ _=>False) w) (λ _ _ _ h=>h) (λ _ _ H O=>H O.1) (Old.refl μ)
def NW{s:S}(U:SatW E s a w W μ){v:Value}{x:A}{ids:List Nat}(h:RepK w W μ v x)(H:Ee ids s.mem x):RepK w (sJ W μ ids) μ v (fzA ids s.mem x):=by
 cases x with
 |own y lo n=>
  simp only[fzA,Ee]at H⊢;split
  .rename_i hy;rw[cA hy]at H;exact nV (Nx U h H (λ z O=>by simp[rF]at O;subst O;exact NS.1 hy))
  .exact h.less
 |_=>exact h.less
def aM9{s:S}(U:SatW E s a w W μ){v:Value}{x:A}{ids:List Nat}(h:Rep w W μ v x)(H:GZ ids s.mem x):Rep w (sJ W μ ids) μ v (fzV ids s.mem x):=by
 have O:Rep w (sJ W μ ids) μ v x:=h.goes (Keeps.refl (λ _=>False) w) (λ _ _ _ h=>h) (λ _ _ B F=>B F.1) (Old.refl μ);cases x with
 |own y lo n=>exact nN (nT (NW (x:=.own y lo n) U h H))
 |agg cs=>
  simp only[fzV,GZ]at H⊢;split
  .exact O
  .rename_i M;rw[bX M]at H;obtain⟨vs,hv,hl,hr⟩:=h;refine⟨vs,hv,by rw[NU];exact hl,λ i u b hu hb=>?_⟩;rw[NT]at hb;obtain⟨c,Y,rfl⟩:=cN.1 hb;exact NW U (hr i u c hu Y) (NV H c (cU Y))
 |_=>exact O
@[go_sem] theorem aMa(ids:List Nat)(m:Nat->MS)(s:List Nat):(s.map iE).map (fzCs ids m)=s.map iE:=by simp[iE,fzCs,fzA]
def aMb{ids:List Nat}{m:Nat->MS}{y c:Nat}{H:List Nat}:fzEs ids m ([.mp y,.int .i64 c]::H.map iE)=[.mp y,.int .i64 c]::H.map iE:=by unfold fzEs;rw[bX (by simp[pureEs,mQ,A.pure1]),dN,aMa];rfl
def aMc{s:S}(H:SatW E s a w W μ)(ids:List Nat):zX w (sJ W μ ids) E.G:=λ g O hg=>by obtain⟨U,Y,B⟩:=H.glob g O hg;refine⟨λ F=>U F.1,Y,λ j b M=>?_⟩;obtain⟨u,hu,hr⟩:=B j b M;exact⟨u,hu,hr.less⟩
def St.le_fz(ids:List Nat)(h:st.fzOk ids):St.le E st (st.fz ids):=by
 intro a w ⟨W,μ,hs⟩;refine⟨sJ W μ ids,μ,{hs with
  fr:=λ t=>?_
  mem:=λ x=>?_
  wsub:=λ b hb=>hs.wsub b hb.1
  wsup:=λ b hb=>?_
  wlt:=λ b hb=>hs.wlt b hb.1
  glob:=aMc hs ids}⟩
 .show Rep w _ μ _ ((st.fz ids).slot t);have U:Rep w W μ _ (st.slot t):=hs.fr t;simp only[St.slot,St.fz,SA]at U⊢;cases hl:look st.fr t with
  |none=>trivial
  |some v=>rw[hl]at U;exact aM9 hs U (SC h.1 t v hl)
 .show qU w _ μ x ((st.fz ids).m x);have hm:qU w W μ x (st.m x):=hs.mem x;simp only[St.m,St.fz,SB]at hm⊢;split
  .rename_i hx;rw[cA hx]at hm;exact hm
  .rename_i hx;rw[bX hx]at hm;cases hl:look st.mem x with
   |none=>rw[hl]at hm;exact hm
   |some r=>
    rw[hl]at hm;have x0:=SD h.2 x r hl;have Y:∀k,μ x=.at_ k->(r.ro=false->W k.b)->(r.ro||memN x ids)=false->sJ W μ ids k.b:=λ k F O M=>by simp only[jD]at M;refine⟨O M.1,λ⟨y,ky,hy,p0,q0⟩=>?_⟩;have:=hs.inj y x ky k p0 F q0;subst this;rw[NS.2 hy]at M;cases M.2
    rcases hm with⟨F,e2,e3⟩|⟨k,F,⟨O,B,H,us,y0,e,h4,h5,h6⟩|gM|gI⟩
    .exact .inl ⟨F,by show fzEs ids st.m r.es=[];rw[e2];rfl,e3⟩
    rotate_left
    .have hp:=gM.pure;obtain⟨O,B,H,es,h4,h5,h6⟩:=gM;refine .inr ⟨k,F,.inr (.inl ⟨λ U=>Y k F O U,B,H,es,h4,?_,λ i e c q1 q2=>?_⟩)⟩
     .show es.size=(fzEs ids st.m r.es).length;unfold fzEs;rw[cA hp];exact h5
     .have q3:(fzEs ids st.m r.es)[i]? =some c:=q2;unfold fzEs at q3;rw[cA hp]at q3;exact(h6 i e c q1 q3).keep (Keeps.refl (λ _=>False) w) (λ _ _ _ h=>h) (λ _ _ h h2=>h h2.1)
    .obtain⟨O,B,H,hz,y,b,c,z0,h4,h5,h6⟩:=gI;exact .inr ⟨k,F,.inr (.inr ⟨λ U=>Y k F O U,B,H,hz,y,b,c,z0,by show fzEs ids st.m r.es=_;rw[h4];exact aMb,h5,h6⟩)⟩
    .refine .inr ⟨k,F,.inl ⟨λ U=>Y k F O U,B,H,us,y0,e,h4,h5,?_⟩⟩
     .show Flat _ r.sz us (fzEs ids st.m r.es);unfold fzEs;unfold J5 at x0;split
      .exact h6.mono λ u b U=>U.less
      .rename_i hp;rw[bX hp]at x0;refine⟨by simpa using h6.hl,λ i c hc=>?_,λ i c j b hc hb=>?_⟩
       .simp only[cV,cN]at hc;obtain⟨c0,h0,rfl⟩:=hc;rw[NU];exact h6.hs i c0 h0
       .simp only[cV,cN]at hc;obtain⟨c0,h0,rfl⟩:=hc;rw[NT]at hb;obtain⟨b0,u0,rfl⟩:=cN.1 hb;obtain⟨u,hu,U⟩:=h6.ha i c0 j b0 h0 u0;exact⟨u,hu,NW hs U (NV (Sz x0 c0 (cU h0)) b0 (cU u0))⟩
 .rcases hs.wsup b hb with h1|h1
  .by_cases hx:∃x k,x∈ids/\μ x=.at_ k/\k.b=b
   .obtain⟨x,k,_,r0,s0⟩:=hx;rcases hs.live x k r0 with h2|h2
    .exact .inr (s0▸h2)
    .have:=hs.winlt b hb;omega
   .exact .inl ⟨h1,hx⟩
  .exact .inr h1
def St.own0(st:St)(t sz:Nat)(z:List A):St:=⟨(t,.own st.nx 0 0)::rm t st.fr,(st.nx,⟨false,sz,z,[]⟩)::st.mem,st.nx+1⟩
def St.le_own0(t sz:Nat)(z:List A)(hz:0<sz)(h:st.slot t=.full []):St.le E st (st.own0 t sz z):=by
 intro a w ⟨W,μ,hs⟩;have U:=Step.newEmpty (r:=⟨false,sz,z,[]⟩) hs.mem hs.inj hs.wlt (St.m_nx st) hz rfl (Keeps.refl _ w);have Y:=hs.step (d:=none) (v:=undef) (av:=.any) U (λ x hx=>by cases hx) trivial;have B:(st.own0 t sz z).m=setM st.m [(st.nx,.row ⟨false,sz,z,[]⟩)]:=by
  funext x;simp only[St.m,St.own0,setM,look]
  by_cases hx:x=st.nx
  .subst hx;rw[bX om,cA rfl,cA rfl]
  .by_cases O:st.nx<=x
   .rw[cA (show st.nx+1<=x by omega),bX hx,cA O]
   .rw[bX (show¬st.nx+1<=x by omega),bX (show¬st.nx=x by omega),bX hx,bX O]
 refine⟨_,_,{Y with fr:=λ H=>?_,mem:=?_}⟩
 .have O:=Y.fr H;show Rep w W _ (a.tmps.getD H undef) ((st.own0 t sz z).slot H);have F:Rep w W (λ x=>if x=st.nx then .empty else μ x) (a.tmps.getD H undef) (st.slot H):=O;simp only[St.slot,St.own0,look];split
  .rename_i ht;subst ht;rw[h]at F;have M:RepC w W (a.tmps.getD t undef) (.full []):=F;generalize a.tmps.getD t undef=v at M;cases M with
   |full ad n es h6=>
    cases h6 with
    |sl0=>exact Nf (by simp) 0
    |sl b h0 x0 s es us _ _ hn=>simp at hn
  .rename_i ht;rw[yC,bX (λ e=>ht e.symm)];exact F
 .show rQ w W _ (st.own0 t sz z).m;rw[B];exact Y.mem
def i7(j n:Nat):List (List A)->List (List A)
 |[c]=>[upd c j [.own n 0 0]]
 |es=>es
def G0(x j n:Nat):List (Nat×Row)->List (Nat×Row)
 |[]=>[]
 |q::r=>if q.1=x then(q.1,⟨q.2.ro,q.2.sz,q.2.z,i7 j n q.2.es⟩)::r else q::G0 x j n r
def NX(j:Nat):List (List A)->Prop
 |[c]=>sub c j 1=[.full []]
 |_=>False
def St.ownb(st:St)(x j sz:Nat)(z:List A):St:=⟨st.fr,(st.nx,⟨false,sz,z,[]⟩)::G0 x j st.nx st.mem,st.nx+1⟩
def St.ownbOk(st:St)(x j sz:Nat):Prop:=0<sz/\match st.m x with
 | .row r=>0<r.sz/\NX j r.es
 |_=>False
def SE(x j n y:Nat):∀mem:List (Nat×Row),look (G0 x j n mem) y=(look mem y).map λ r=>if y=x then⟨r.ro,r.sz,r.z,i7 j n r.es⟩else r
 |[]=>rfl
 |q::r=>by
  simp only[G0];split
  .rename_i h;simp only[look];split
   .rename_i H;simp[<-H,h]
   .rename_i H;have:¬y=x:=λ e=>H (h.trans e.symm);cases look r y<;>simp[this]
  .rename_i h;simp only[look];split
   .rename_i H;simp[<-H,h]
   .exact SE x j n y r
def aMh{v:Value}{x:Nat}(hx:μ x=.empty)(h:RepK w W μ v (.full [])):RepK w W μ v (.own x 0 0):=by
 have H:RepC w W v (.full []):=h;cases H with
 |full O n es U=>
  cases U with
  |sl0=>refine⟨rfl,?_⟩;rw[hx];exact⟨rfl,O,rfl⟩
  |sl b Y B s es us _ _ F=>simp at F
def St.le_ownb(x j sz:Nat)(z:List A)(h:st.ownbOk x j sz):St.le E st (st.ownb x j sz z):=by
 obtain⟨hz,H⟩:=h;intro a w ⟨W,μ,hs⟩;have h0:=Step.newEmpty (r:=⟨false,sz,z,[]⟩) hs.mem hs.inj hs.wlt (St.m_nx st) hz rfl (Keeps.refl _ w);have h2:=hs.step (d:=none) (v:=undef) (av:=.any) h0 (λ x hx=>by cases hx) trivial;refine⟨_,_,{h2 with fr:=λ t=>h2.fr t,mem:=λ y=>?_}⟩;have hm:=h2.mem y;have u0:x<st.nx:=by
  cases hr:st.m x with
  |fresh=>rw[hr]at H;exact H.elim
  |dead=>rw[hr]at H;exact H.elim
  |row r=>exact St.m_row hr
 show qU w W _ y ((st.ownb x j sz z).m y);have O:qU w W (λ x=>if x=st.nx then .empty else μ x) y (setM st.m [(st.nx,.row ⟨false,sz,z,[]⟩)] y):=hm;simp only[setM]at O
 by_cases hy:y=st.nx
 .subst hy;have e:(st.ownb x j sz z).m st.nx=.row ⟨false,sz,z,[]⟩:=by
   simp only[St.m,St.ownb,look];rw[bX om];simp
  rw[cA rfl]at O;rw[e];exact O
 rw[bX hy]at O;have e:(st.ownb x j sz z).m y=match st.m y with
   | .row r=>.row (if y=x then⟨r.ro,r.sz,r.z,i7 j st.nx r.es⟩else r)
   |q=>q:=by
  simp only[St.m,St.ownb,look,SE]
  by_cases h3:st.nx<=y
  .rw[cA (show st.nx+1<=y by omega),cA h3]
  .rw[bX (show¬st.nx+1<=y by omega),bX (show¬st.nx=y by omega),bX h3];cases look st.mem y<;>rfl
 rw[e];cases hr:st.m y with
 |fresh=>rw[hr]at O;exact O
 |dead=>rw[hr]at O;exact O
 |row r=>
  rw[hr]at O;simp only
  by_cases Y:y=x
  .subst Y;rw[cA rfl];rw[hr]at H;obtain⟨p0,H⟩:0<r.sz/\NX j r.es:=H;rcases O with⟨g1,g2,g3⟩|⟨k,g1,gA⟩
   .rw[g2]at H;exact H.elim
   .obtain⟨g2,g3,g4,us,B,e',g5,g6,M⟩:=gA.ok (by have:=gA.wr.2;omega);refine .inr ⟨k,g1,.inl ⟨g2,g3,g4,us,B,e',g5,g6,?_⟩⟩;show Flat _ r.sz us (i7 j st.nx r.es);obtain⟨ro,x0,z',es⟩:=r
    match es,H with
    |[c],H=>
     have hj:sub c j 1=[.full []]:=H;have hc:c.length=x0:=M.hs 0 c rfl;have F:c[j]? =some (.full []):=by
      have h8:((c.drop j).take 1)[0]? =some (.full []):=by show(sub c j 1)[0]? =_;rw[hj];rfl
      simpa [eA,eG]using h8
     have hlt:j<c.length:=(cJ.1 F).1;have hu:upd c j [.own st.nx 0 0]=c.set j (.own st.nx 0 0):=by simp only[upd,ym,Ym,eC];rw[jM,cA hlt];simp
     refine⟨M.hl,λ i d U=>?_,λ i d q b U hb=>?_⟩
     .cases i with
      |zero=>simp[i7]at U;subst U;rw[hu,dV];exact hc
      |succ i=>simp[i7]at U
     .cases i with
      |zero=>
       simp[i7]at U;subst U;rw[hu,List.getElem?_set]at hb;split at hb
       .rename_i hq;subst hq;cases hb;obtain⟨u,y0,z0⟩:=M.ha 0 c j _ rfl F;exact⟨u,y0,aMh (by simp) z0⟩
       .exact M.ha 0 c q b rfl hb
      |succ i=>simp[i7]at U
  .rw[bX Y];exact O
def unfA:A->A
 | .full es=>.sl es
 |a=>a
def rH:List A->List A
 |[]=>[]
 |a::az=>unfA a::rH az
def G1:List (Nat×Row)->List (Nat×Row)
 |[]=>[]
 |q::r=>(q.1,⟨q.2.ro,q.2.sz,q.2.z,q.2.es.map rH⟩)::G1 r
def St.unf(st:St):St:=⟨st.fr,G1 st.mem,st.nx⟩
def NY:∀(H:List A) (i:Nat),(rH H)[i]? =(H[i]?).map unfA
 |[],i=>by simp[rH]
 |c::H,i=>by
  cases i with
  |zero=>simp[rH]
  |succ i=>simp[rH,NY H i]
def NZ:∀H:List A,(rH H).length=H.length
 |[]=>rfl
 |_::H=>by simp[rH,NZ H]
def SF(x:Nat):∀mem:List (Nat×Row),look (G1 mem) x=(look mem x).map λ r=>⟨r.ro,r.sz,r.z,r.es.map rH⟩
 |[]=>rfl
 |q::r=>by
  simp only[G1,look];split
  .rfl
  .exact SF x r
def aMn{v:Value}{x:A}(h:RepK w W μ v x):RepK w W μ v (unfA x):=by
 cases x with
 |full es=>
  have H:RepC w W v (.full es):=h;cases H with
  |full a n es O=>exact nV O
 |_=>exact h
@[go_sem] theorem aMo(s:List Nat):(s.map iE).map rH=s.map iE:=by simp[iE,rH,unfA]
def SG{v:Value}{x:A}(h:RepC w W v x):RepC w W v (unfA x):=by
 cases x with
 |full es=>cases h with|full a n es H=>exact H
 |_=>exact h
def tH.unf{z:List A}{i:Nat}{e:MapEntry}{c:List A}(h:tH w W z i e c):tH w W z i e (rH c):=by
 obtain⟨U,k,Y,B,rfl,F,O,M,H⟩:=h;refine⟨U,k,rH Y,B,?_,F,O,M,?_⟩
 .simp only[rH];congr 1;generalize z.headD .any=zk at O;cases zk<;>cases k<;>first|rfl|(simp[qD,key1]at O)
 .unfold RepX at*;split
  .rename_i ha;rw[cA ha]at H;obtain⟨vs,g1,g2,g3⟩:=H;refine⟨vs,g1,by rw[NZ];exact g2,λ j u b p q=>?_⟩;rw[NY]at q;obtain⟨b0,q0,rfl⟩:=cN.1 q;exact SG (g3 j u b0 p q0)
  .rename_i ha;rw[bX ha]at H;obtain⟨b,rfl,g⟩:=H;exact⟨unfA b,rfl,SG g⟩
def St.le_unf:St.le E st st.unf:=by
 intro a w ⟨W,μ,hs⟩;refine⟨W,μ,{hs with mem:=λ x=>?_}⟩;show qU w W μ x (st.unf.m x);have hm:qU w W μ x (st.m x):=hs.mem x;simp only[St.m,St.unf,SF]at hm⊢;split
 .rename_i hx;rw[cA hx]at hm;exact hm
 .rename_i hx;rw[bX hx]at hm;cases hl:look st.mem x with
  |none=>rw[hl]at hm;exact hm
  |some r=>
   rw[hl]at hm;rcases hm with⟨F,e2,e3⟩|⟨k,F,⟨O,U,H,us,M,e,h4,h5,B⟩|⟨O,U,H,es,h4,h5,B⟩|⟨O,U,H,hz,y,b,c,h0,h4,h5,B⟩⟩
   .exact .inl ⟨F,by show r.es.map rH=[];rw[e2];rfl,e3⟩
   rotate_left
   .refine .inr ⟨k,F,.inr (.inl ⟨O,U,H,es,h4,by show es.size=(r.es.map rH).length;simpa using h5,λ i e c q1 q2=>?_⟩)⟩;have q3:(r.es.map rH)[i]? =some c:=q2;simp only[cV,cN]at q3;obtain⟨c0,Y,rfl⟩:=q3;exact(B i e c0 q1 Y).unf
   .exact .inr ⟨k,F,.inr (.inr ⟨O,U,H,hz,y,b,c,h0,by show r.es.map rH=_;rw[h4,dN,aMo];rfl,h5,B⟩)⟩
   .refine .inr ⟨k,F,.inl ⟨O,U,H,us,M,e,h4,h5,?_⟩⟩;show Flat _ r.sz us (r.es.map rH);refine⟨by simpa using B.hl,λ i c hc=>?_,λ i c j b hc hb=>?_⟩
    .simp only[cV,cN]at hc;obtain⟨c0,Y,rfl⟩:=hc;rw[NZ];exact B.hs i c0 Y
    .simp only[cV,cN]at hc;obtain⟨c0,Y,rfl⟩:=hc;rw[NY]at hb;obtain⟨b0,x0,rfl⟩:=cN.1 hb;obtain⟨u,hu,hr⟩:=B.ha i c0 j b0 Y x0;exact⟨u,hu,aMn hr⟩
def St.cast(st:St)(t:Nat)(v:A):St:=⟨(t,v)::rm t st.fr,st.mem,st.nx⟩
def St.le_cast(t:Nat)(v:A)(h:st.slot t=v):St.le E st (st.cast t v):=by
 have e:(st.cast t v).toS=st.toS:=by
  simp only[St.toS];congr 1;funext x;simp only[St.slot,St.cast,look];split
  .rename_i hx;subst hx;exact h.symm
  .rename_i hx;rw[yC,bX (λ e=>hx e.symm)]
 intro a w H;rw[e];exact H
def St.unfs(st:St)(t:Nat):St:=⟨(t,unfA (st.slot t))::rm t st.fr,st.mem,st.nx⟩
def St.le_unfs(t:Nat):St.le E st (st.unfs t):=by
 intro a w ⟨W,μ,hs⟩;refine⟨W,μ,{hs with fr:=λ H=>?_}⟩;show Rep w W μ (a.tmps.getD H undef) ((st.unfs t).slot H);have O:Rep w W μ (a.tmps.getD H undef) (st.slot H):=hs.fr H
 by_cases h:t=H
 .subst h;have e:(st.unfs t).slot t=unfA (st.slot t):=by simp[St.slot,St.unfs,look]
  rw[e];generalize st.slot t=x at O⊢;cases x with
  |full es=>have U:RepC w W (a.tmps.getD t undef) (.full es):=O;exact nN (nT (nV U.of_full.1))
  |_=>exact O
 .have e:(st.unfs t).slot H=st.slot H:=by
   simp only[St.slot,St.unfs,look];rw[bX h,yC,bX (λ e=>h e.symm)]
  rw[e];exact O
inductive Gh where
 |unf
 |cast (t:Nat) (v:A)
 |fz (ids:List Nat)
 |own0 (t sz:Nat) (z:List A)
 |ownb (x j sz:Nat) (z:List A)
 |unfs (t:Nat)
def St.gh(st:St):Gh->St
 | .unf=>st.unf
 | .cast t v=>st.cast t v
 | .fz H=>st.fz H
 | .own0 t O z=>st.own0 t O z
 | .ownb x j O z=>st.ownb x j O z
 | .unfs t=>st.unfs t
def St.ghOk(st:St):Gh->Prop
 | .unf=>True
 | .cast t v=>st.slot t=v
 | .fz H=>st.fzOk H
 | .own0 t O _=>0<O/\st.slot t=.full []
 | .ownb x j O _=>st.ownbOk x j O
 | .unfs _=>True
def St.le_gh(g:Gh)(h:st.ghOk g):St.le E st (st.gh g):=by
 cases g with
 |unf=>exact St.le_unf
 |cast t v=>exact St.le_cast t v h
 |fz H=>exact St.le_fz H h
 |own0 t O z=>exact St.le_own0 t O z h.1 h.2
 |ownb x j O z=>exact St.le_ownb x j O z h
 |unfs t=>exact St.le_unfs t
def aMq{c:PC}{Q:Exit->St->Prop}(g:Gh)(H:st.ghOk g)(h:AW C E c Q (st.gh g)):AW C E c Q st:=AW.weak (St.le_gh g H) h
end
def yF(C:Cx)(f:FuncId)(d:Option Nat)(g:Option (Nat×Bool))(H:Bool)(O:Prop)(args:List A)(rw:List (Nat×MS))(ps:List POp)(st:St)(K:St->Prop):Prop:=
 ∃r,(H=true->O/\PFn C f args r)/\(g=none\/(if r.scal then[]else rw)=[]/\r.isVV=true)/\arun C ps (st.app d (oL g H r) (if r.scal then[]else rw)) K
def aMs{C:Cx}{f:FuncId}{d:Option Nat}{g:Option (Nat×Bool)}{H:Bool}{O:Prop}{args:List A}{rw:List (Nat×MS)}{ps:List POp}{st:St}{K:St->Prop}{r:A}
  (U:H=true->PFn C f args r) (h:arun C ps (st.app d (oL g H r) (if r.scal then[]else rw)) K)
  (ho:H=true->O:=by intro;trivial) (hg:g=none\/(if r.scal then[]else rw)=[]/\r.isVV=true:=by first|exact .inl rfl|exact .inr ⟨rfl,rfl⟩):yF C f d g H O args rw ps st K:=⟨r,λ e=>⟨ho e,U e⟩,hg,h⟩
def sW(C:Cx)(f:FuncId)(d:Option Nat)(g:Option (Nat×Bool))(O:Bool)(U:Prop)(H:List A)(ps:List POp)(st:St)(K:St->Prop):Prop:=
 tT C st.m st.nx f H g O U (λ _=>True) λ v Y=>arun C ps (st.app d v Y) K
def wU:A->Bool
 | .cnd _ _=>false
 |_=>true
def G2{r:A}(h:wU r=true):∀g c,r≠.cnd g c:=λ g c e=>by subst e;cases h
def aMw{C:Cx}{f:FuncId}{d:Option Nat}{Y:Prop}{H:List A}{ps:List POp}{st:St}{K:St->Prop}(l:List (Nat×Nat)){O:List A}{ms ms':List (Nat×Row)}{k k':Nat}{r:A}
  (B:MFn C f O ms k r ms' k') (U:okM st.m st.nx l H O ms k k') (h:arun C ps (st.app d (renR (l++newL k st.nx (k'-k)) r) (mwM st.m (l++newL k st.nx (k'-k)) H O ms ms' k k')) K)
  (ho:Y:=by trivial) (F:wU r=true:=by rfl):sW C f d none true Y H ps st K:=
 ⟨l,O,ms,k,r,ms',k',λ _=>⟨ho,B,U,trivial⟩,(λ h=>nomatch h),.inl rfl,G2 F,h⟩
def aMx{C:Cx}{f:FuncId}{d:Option Nat}{g:Option (Nat×Bool)}{O:Bool}{B:Prop}{H:List A}{ps:List POp}{st:St}{K:St->Prop}(l:List (Nat×Nat)){U:List A}{ms ms':List (Nat×Row)}{k:Nat}{r:A}
  (F:O=true->MFn C f U ms k r ms' k) (Y:O=true->okM st.m st.nx l H U ms k k) (M:O=false->f5 st.m (mwM st.m l H U ms ms' k k)) (h:arun C ps (st.app d (oL g O (renR l r)) (mwM st.m l H U ms ms' k k)) K)
  (ho:O=true->B) (hr:wU r=true:=by rfl) (hv:(renR l r).isVV=true:=by rfl):sW C f d g O B H ps st K:=by
 have e:l++newL k st.nx (k-k)=l:=by rw[hJ];exact dY l
 refine⟨l,U,ms,k,r,ms',k,λ h=>⟨ho h,F h,Y h,trivial⟩,?_⟩;rw[e];exact⟨λ h=>⟨rfl,M h⟩,.inr hv,G2 hr,h⟩
def aMy(C:Cx)(st:St)(K:St->Prop):arun C [] st K=K st:=rfl
def aMz(C:Cx)(d:Option Nat)(g:Option (Nat×Bool))(po:PO)(xs:List PX)(ps:List POp)(st:St)(K:St->Prop):
  arun C (⟨d,g,po,xs⟩::ps) st K=(match po with
   | .call f=>(match qE st g with
    |none=>False
    |some H=>yF C f d g H (pT C st xs/\pS st.m (nC C st xs)) (oZ st.m (nC C st xs)) (oK st.m (rG (nC C st xs))) ps st K)
   | .callv=>(match qE st g with
    |none=>False
    |some H=>(match nC C st xs with
     | .clo f caps::vals=>yF C f d g H (pT C st xs/\pM C.P f=true/\pS st.m (vals++caps)) (oZ st.m (vals++caps)) (oK st.m (rG (vals++caps))) ps st K
     |_=>False))
   | .callb=>(match qE st g with
    |none=>False
    |some H=>(match nC C st xs with
     | .bnd f cs::vals=>yF C f d g H (pT C st xs/\pM C.P f=true/\pS st.m (.agg cs::vals)) (oZ st.m (.agg cs::vals)) (oK st.m (rG (.agg cs::vals))) ps st K
     |_=>False))
   | .callm f=>(match qE st g with
    |none=>False
    |some H=>sW C f d g H (pT C st xs) (nC C st xs) ps st K)
   | .callvm=>(match qE st g with
    |none=>False
    |some H=>(match nC C st xs with
     | .clo f caps::vals=>sW C f d g H (pT C st xs/\pM C.P f=true) (vals++caps) ps st K
     |_=>False))
   | .next O=>g=none/\pT C st xs/\nxtQ O st.m (λ v U=>arun C ps (st.app d v U) K) (nC C st xs)
   | .entry O=>g=none/\pT C st xs/\entQ O st.m (λ v U=>arun C ps (st.app d v U) K) (nC C st xs)
   | .eqNil=>g=none/\pT C st xs/\nilQ (λ b=>arun C ps (st.app d (.bool b) []) K) (nC C st xs)
   |po=>aop C ⟨d,g,po,xs⟩ st λ st'=>arun C ps st' K):=by
 cases po with
 |eqNil=>rfl
 |next O=>rfl
 |entry O=>rfl
 |call f=>
  simp only[arun,aop,yF,PO.isNilQ,PO.isNext,bZ,cI];cases qE st g with
  |none=>rfl
  |some H=>simp only[oE,fU]
 |callv=>
  simp only[arun,aop,PO.isNilQ,PO.isNext,bZ,cI];cases qE st g with
  |none=>rfl
  |some H=>
   simp only;generalize nC C st xs=vv;rcases vv with _|⟨x,vs⟩
   .rfl
   .cases x<;>first|rfl|(simp only[yF,oE,fU])
 |callb=>
  simp only[arun,aop,PO.isNilQ,PO.isNext,bZ,cI];cases qE st g with
  |none=>rfl
  |some H=>
   simp only;generalize nC C st xs=vv;rcases vv with _|⟨x,vs⟩
   .rfl
   .cases x<;>first|rfl|(simp only[yF,oE,fU])
 |callm f=>
  simp only[arun,aop,sW,PO.isNilQ,PO.isNext,bZ,cI];cases qE st g with
  |none=>rfl
  |some H=>rfl
 |callvm=>
  simp only[arun,aop,PO.isNilQ,PO.isNext,bZ,cI];cases qE st g with
  |none=>rfl
  |some H=>
   simp only;generalize nC C st xs=vv;rcases vv with _|⟨x,vs⟩
   .rfl
   .cases x<;>first|rfl|(simp only[sW])
 |_=>rfl
def yG(C:Cx)(f:FuncId)(d:Option Nat)(g:Option (Nat×Bool))(H:Bool)(O:Prop)(args:List A)(rw:List (Nat×MS))(ps:List POp)(st:St)(K:St->Prop):Prop:=
 ∃r,(H=true->O/\PFn C f args r)/\(g=none\/(if r.scal then[]else rw)=[]/\r.isVV=true)/\((st.app d (oL g H r) (if r.scal then[]else rw)).mem=st.mem/\(st.app d (oL g H r) (if r.scal then[]else rw)).nx=st.nx)/\uL C ps (st.app d (oL g H r) (if r.scal then[]else rw)) K
def aN1{C:Cx}{f:FuncId}{d:Option Nat}{g:Option (Nat×Bool)}{H:Bool}{O:Prop}{args:List A}{rw:List (Nat×MS)}{ps:List POp}{st:St}{K:St->Prop}{r:A}
  (Y:H=true->PFn C f args r) (h:uL C ps (st.app d (oL g H r) []) K)
  (ho:H=true->O:=by intro;trivial) (hg:g=none\/(if r.scal then[]else rw)=[]/\r.isVV=true:=by first|exact .inl rfl|exact .inr ⟨rfl,rfl⟩) (U:(if r.scal then[]else rw)=[]:=by rfl):yG C f d g H O args rw ps st K:=⟨r,λ e=>⟨ho e,Y e⟩,hg,by rw[U];exact⟨rfl,rfl⟩,by rw[U];exact h⟩
def aN2(C:Cx)(st:St)(K:St->Prop):uL C [] st K=K st:=rfl
def aN3(C:Cx)(d:Option Nat)(g:Option (Nat×Bool))(po:PO)(xs:List PX)(ps:List POp)(st:St)(K:St->Prop):
  uL C (⟨d,g,po,xs⟩::ps) st K=(match po with
   | .call f=>(match qE st g with
    |none=>False
    |some H=>yG C f d g H (pT C st xs/\pS st.m (nC C st xs)) (oZ st.m (nC C st xs)) (oK st.m (rG (nC C st xs))) ps st K)
   | .callv=>(match qE st g with
    |none=>False
    |some H=>(match nC C st xs with
     | .clo f caps::vals=>yG C f d g H (pT C st xs/\pM C.P f=true/\pS st.m (vals++caps)) (oZ st.m (vals++caps)) (oK st.m (rG (vals++caps))) ps st K
     |_=>False))
   | .callb=>(match qE st g with
    |none=>False
    |some H=>(match nC C st xs with
     | .bnd f cs::vals=>yG C f d g H (pT C st xs/\pM C.P f=true/\pS st.m (.agg cs::vals)) (oZ st.m (.agg cs::vals)) (oK st.m (rG (.agg cs::vals))) ps st K
     |_=>False))
   |po=>aop C ⟨d,g,po,xs⟩ st λ st'=>(st'.mem=st.mem/\st'.nx=st.nx)/\uL C ps st' K):=by
 cases po with
 |call f=>
  simp only[uL,aop,yG];cases qE st g with
  |none=>rfl
  |some H=>simp only[oE,fU]
 |callv=>
  simp only[uL,aop];cases qE st g with
  |none=>rfl
  |some H=>
   simp only;generalize nC C st xs=vv;rcases vv with _|⟨x,vs⟩
   .rfl
   .cases x<;>first|rfl|(simp only[yG,oE,fU])
 |callb=>
  simp only[uL,aop];cases qE st g with
  |none=>rfl
  |some H=>
   simp only;generalize nC C st xs=vv;rcases vv with _|⟨x,vs⟩
   .rfl
   .cases x<;>first|rfl|(simp only[yG,oE,fU])
 |_=>rfl
def yH(C:Cx)(U:List (List Nat))(f:FuncId)(d:Option Nat)(g:Option (Nat×Bool))(Y:Bool)(B:Prop)(args:List A)(rw:List (Nat×MS))(ids:List Nat)(O:Bool)(ps:List POp)(st:St)(H:List (List Nat×List Nat))(K:St->Prop):Prop:=
 ∃r,(Y=true->B/\PFn C f args r)/\(g=none\/(if r.scal then[]else rw)=[]/\r.isVV=true)/\vO (U.getD H.length []) 0 H ids ((if r.scal then[]else rw).map (·.1))=true/\O=true/\
  rU C U ps (st.app d (oL g Y r) (if r.scal then[]else rw)) (H++[(ids,(if r.scal then[]else rw).map (·.1))]) K
def aN5{C:Cx}{Y:List (List Nat)}{f:FuncId}{d:Option Nat}{g:Option (Nat×Bool)}{U:Bool}{B:Prop}{args:List A}{rw:List (Nat×MS)}{ids:List Nat}{O:Bool}{ps:List POp}{st:St}{H:List (List Nat×List Nat)}{K:St->Prop}{r:A}
  (F:U=true->PFn C f args r) (h:vO (Y.getD H.length []) 0 H ids ((if r.scal then[]else rw).map (·.1))=true/\O=true/\rU C Y ps (st.app d (oL g U r) (if r.scal then[]else rw)) (H++[(ids,(if r.scal then[]else rw).map (·.1))]) K)
  (ho:U=true->B:=by intro;trivial) (hg:g=none\/(if r.scal then[]else rw)=[]/\r.isVV=true:=by first|exact .inl rfl|exact .inr ⟨rfl,rfl⟩):yH C Y f d g U B args rw ids O ps st H K:=⟨r,λ e=>⟨ho e,F e⟩,hg,h.1,h.2.1,h.2.2⟩
def i8(C:Cx)(B:List (List Nat))(f:FuncId)(d:Option Nat)(g:Option (Nat×Bool))(F:Bool)(M:Prop)(O:List A)(ids:List Nat)(U:Bool)(ps:List POp)(st:St)(H:List (List Nat×List Nat))(K:St->Prop):Prop:=
 tT C st.m st.nx f O g F M (λ n=>∀x,st.nx<=x->x<st.nx+n->st.m x=.fresh) λ v Y=>vO (B.getD H.length []) 0 H ids (Y.map (·.1))=true/\U=true/\rU C B ps (st.app d v Y) (H++[(ids,Y.map (·.1))]) K
def aN7{C:Cx}{B:List (List Nat)}{f:FuncId}{d:Option Nat}{M:Prop}{H:List A}{ids:List Nat}{Y:Bool}{ps:List POp}{st:St}{O:List (List Nat×List Nat)}{K:St->Prop}(l:List (Nat×Nat)){U:List A}{ms ms':List (Nat×Row)}{k k':Nat}{r:A}
  (hf:MFn C f U ms k r ms' k') (F:okM st.m st.nx l H U ms k k')
  (h:vO (B.getD O.length []) 0 O ids ((mwM st.m (l++newL k st.nx (k'-k)) H U ms ms' k k').map (·.1))=true/\Y=true/\rU C B ps (st.app d (renR (l++newL k st.nx (k'-k)) r) (mwM st.m (l++newL k st.nx (k'-k)) H U ms ms' k k')) (O++[(ids,(mwM st.m (l++newL k st.nx (k'-k)) H U ms ms' k k').map (·.1))]) K)
  (ho:M:=by trivial) (hr:wU r=true:=by rfl):i8 C B f d none true M H ids Y ps st O K:=
 ⟨l,U,ms,k,r,ms',k',λ _=>⟨ho,hf,F,λ x hx _=>NE st x hx⟩,(λ h=>nomatch h),.inl rfl,G2 hr,h⟩
def aN8(C:Cx)(O:List (List Nat))(st:St)(H:List (List Nat×List Nat))(K:St->Prop):rU C O [] st H K=K st:=rfl
def aN9(C:Cx)(U:List (List Nat))(d:Option Nat)(g:Option (Nat×Bool))(po:PO)(xs:List PX)(ps:List POp)(st:St)(H:List (List Nat×List Nat))(K:St->Prop):
  rU C U (⟨d,g,po,xs⟩::ps) st H K=(match po with
   | .call f=>(match oV st.slot g with
    |none=>False
    |some O=>yH C U f d g O (gdsF C st.slot xs/\pS st.m (nW C st.slot xs)) (oZ st.m (nW C st.slot xs)) (oK st.m (rG (nW C st.slot xs))) (pZ (nC C st xs)) (yE (nC C st xs)) ps st H K)
   | .callv=>(match oV st.slot g with
    |none=>False
    |some O=>(match nW C st.slot xs with
     | .clo f caps::vals=>yH C U f d g O (gdsF C st.slot xs/\pM C.P f=true/\pS st.m (vals++caps)) (oZ st.m (vals++caps)) (oK st.m (rG (vals++caps))) (pZ (nC C st xs)) (yE (nC C st xs)) ps st H K
     |_=>False))
   | .callb=>(match oV st.slot g with
    |none=>False
    |some O=>(match nW C st.slot xs with
     | .bnd f cs::vals=>yH C U f d g O (gdsF C st.slot xs/\pM C.P f=true/\pS st.m (.agg cs::vals)) (oZ st.m (.agg cs::vals)) (oK st.m (rG (.agg cs::vals))) (pZ (nC C st xs)) (yE (nC C st xs)) ps st H K
     |_=>False))
   | .callm f=>(match oV st.slot g with
    |none=>False
    |some O=>i8 C U f d g O (gdsF C st.slot xs) (nW C st.slot xs) (pZ (nC C st xs)) (yE (nC C st xs)) ps st H K)
   | .callvm=>(match oV st.slot g with
    |none=>False
    |some O=>(match nW C st.slot xs with
     | .clo f caps::vals=>i8 C U f d g O (gdsF C st.slot xs/\pM C.P f=true) (vals++caps) (pZ (nC C st xs)) (yE (nC C st xs)) ps st H K
     |_=>False))
   |po=>aopS C ⟨d,g,po,xs⟩ st.toS st.nx λ v Y=>vO (U.getD H.length []) 0 H (idsP po (nC C st xs)) (Y.map (·.1))=true/\yE (nC C st xs)=true/\
     rU C U ps (st.app d v Y) (H++[(idsP po (nC C st xs),Y.map (·.1))]) K):=by
 cases po with
 |call f=>
  simp only[rU,aopS,yH,St.toS,idsP];cases oV st.slot g with
  |none=>rfl
  |some O=>simp only[oE,fU]
 |callv=>
  simp only[rU,aopS,St.toS,idsP];cases oV st.slot g with
  |none=>rfl
  |some O=>
   simp only;generalize nW C st.slot xs=vv;rcases vv with _|⟨x,vs⟩
   .rfl
   .cases x<;>first|rfl|(simp only[yH,oE,fU])
 |callb=>
  simp only[rU,aopS,St.toS,idsP];cases oV st.slot g with
  |none=>rfl
  |some O=>
   simp only;generalize nW C st.slot xs=vv;rcases vv with _|⟨x,vs⟩
   .rfl
   .cases x<;>first|rfl|(simp only[yH,oE,fU])
 |callm f=>
  simp only[rU,aopS,i8,St.toS,idsP];cases oV st.slot g with
  |none=>rfl
  |some O=>rfl
 |callvm=>
  simp only[rU,aopS,St.toS,idsP];cases oV st.slot g with
  |none=>rfl
  |some O=>
   simp only;generalize nW C st.slot xs=vv;rcases vv with _|⟨x,vs⟩
   .rfl
   .cases x<;>first|rfl|(simp only[i8])
 |_=>rfl
def oF{V:Type}(k:Int):List (Int×V)->Option V
 |[]=>none
 |p::l=>bif k==p.1 then some p.2 else oF k l
def Av{V:Type}(k:Int)(v:V):List (Int×V)->List (Int×V)
 |[]=>[(k,v)]
 |p::l=>bif k==p.1 then(k,v)::l else p::Av k v l
def mI{V:Type}(q:IntKind)(f:V->List A)(p:Int×V):List A:=.int q p.1::f p.2
@[go_sem] theorem aNb{V:Type}(q:IntKind)(f:V->List A)(k:Int)(l:List (Int×V)):rR (.int q k) (l.map (mI q f))=(oF k l).map f:=by
 induction l with
 |nil=>rfl
 |cons p l H=>
  simp only[dN,mI,rR,List.headD_cons,eqK,eq1,oF,List.tail_cons];cases k==p.1
  .exact H
  .rfl
@[go_sem] theorem aNc{V:Type}(q:IntKind)(f:V->List A)(p:Int×V):mQ (mI q f p)=mQ (f p.2):=by simp[mI,mQ,A.pure1]
@[go_sem] theorem aNd{V:Type}(kz:A)(H:Bool)(q:IntKind)(f:V->List A)(p:Int×V):mEnt [kz,.bool H] (mI q f p)=[.int q p.1,uH H (f p.2)]:=rfl
@[go_sem] theorem aNe{V:Type}(q:IntKind)(f:V->List A)(l:List (Int×V))(i:Nat)(H:Int)(O:V):(l.map (mI q f)).getD i (.int q H::f O)=mI q f (l.getD i (H,O)):=by simp only[cD,cV];cases l[i]? <;>rfl
@[go_sem] theorem aNf(s:List Nat)(P:A->Prop):(∀x∈s.map iE,∀a∈x,P a)=(∀i∈s,P (.int .i64 (i:Nat))):=propext ⟨λ h i hi=>h _ (cR.2 ⟨i,hi,rfl⟩) _ (.head _),λ h x hx a ha=>by
 obtain⟨i,hi,rfl⟩:=cR.1 hx;obtain rfl:a=.int .i64 (i:Nat):=by simpa [iE]using ha
 exact h i hi⟩
@[go_sem] theorem aNg(y i:Nat)(k:IntKind)(c:Int)(s:List Nat):GJ ([.mp y,.int k c]::(s++[i]).map iE)=some (y,i):=by simp[GJ,iE]
@[go_sem] theorem aNh{V:Type}(H:Bool)(f:V->List A)(z:V)(o:Option V):mval H (f z) (o.map f)=uH H (f (o.getD z)):=by cases o<;>rfl
@[go_sem] theorem aNi{V:Type}(H:Bool)(z:List A):mval H z none=uH H z:=rfl
@[go_sem] theorem aNj{V W:Type}(f:V->W)(o:Option V):(o.map f).isSome=o.isSome:=by cases o<;>rfl
attribute [go_sem ↓] aop aopS
attribute [go_sem] aMy aMz aN2 aN3 aN8 aN9 oV nW gdsF St.toS idsP pZ idsA vN tJ yE GW A.flatCap okM d9 argM A.hands Rs JL fzM D0 An newL pU mwM entM f5 MS.like renR ren0 GP resL Aq BX qE St.slot St.m look nC pT xv A.nc A.gd ev DR sB sT uI A.cells A.isV A.isK A.isStr A.isVV allV allK pH laid GI uH
 qD key1 keyL A.isAg nxtQ entQ PO.lax nilQ oL St.app putF putM nxt rm DZ St.drop oE oZ pS frz frz1 rS sU tS rF rG oK A.scal A.scal1 A.scal2 nJ GO mQ A.pure1 pureEs
 nB LK.fits eqA eq1 glob pE D8 allG vM resA resG D7 Le leF leM rho ren ren1 qF idOk yB idEs BU
def SeqQ(C:Cx)(E:Env)(y:PC)(Q:Exit->St->Prop):Exit->St->Prop:=λ e s=>match e with|.normal=>AW C E y Q s|e=>Q e s
def BlkQ(id:Nat)(Q:Exit->St->Prop):Exit->St->Prop:=λ e s=>match e with|.exit i=>(if i=id then Q .normal s else Q (.exit i) s)|e=>Q e s
section
variable {C:Cx} {E:Env} {Q:Exit→St→Prop} {st:St}
def mD{x y:PC}(h:AW C E x (SeqQ C E y Q) st):AW C E (.seq x y) Q st:=Z6 h
def oM{id:Nat}{c:PC}(h:AW C E c (BlkQ id Q) st):AW C E (.block id c) Q st:=NF h
def aNk{y:PC}(s:St):SeqQ C E y Q .normal s=AW C E y Q s:=rfl
def aNl{y:PC}(s:St):SeqQ C E y Q .ret s=Q .ret s:=rfl
def aNm{y:PC}(i:Nat)(s:St):SeqQ C E y Q (.exit i) s=Q (.exit i) s:=rfl
def aNn(i:Nat)(s:St):BlkQ i Q .normal s=Q .normal s:=rfl
def aNo(i:Nat)(s:St):BlkQ i Q .ret s=Q .ret s:=rfl
def aNp(i j:Nat)(s:St):BlkQ i Q (.exit j) s=if j=i then Q .normal s else Q (.exit j) s:=rfl
def aNq(rs:List RX)(r:A)(fr:List (Nat×A))(m:List (Nat×Row))(n:Nat):Post rs r .ret ⟨fr,m,n⟩=D8 ⟨fr,m,n⟩ rs r:=rfl
def aNr(rs:List RX)(r:A)(fr:List (Nat×A))(m:List (Nat×Row))(n:Nat):Post rs r .normal ⟨fr,m,n⟩=D8 ⟨fr,m,n⟩ rs r:=rfl
def aNs(k:Nat)(rs:List RX)(rl:List A)(ms':List (Nat×Row))(k':Nat)(fr:List (Nat×A))(m:List (Nat×Row))(n:Nat):GT k rs rl ms' k' .ret ⟨fr,m,n⟩=i5 k ⟨fr,m,n⟩ rs rl ms' k':=rfl
def aNt(k:Nat)(rs:List RX)(rl:List A)(ms':List (Nat×Row))(k':Nat)(fr:List (Nat×A))(m:List (Nat×Row))(n:Nat):GT k rs rl ms' k' .normal ⟨fr,m,n⟩=i5 k ⟨fr,m,n⟩ rs rl ms' k':=rfl
attribute [go_sem] aNs aNt St.gh St.ghOk St.fz St.fzOk St.own0 St.ownb St.ownbOk G0 i7 NX St.unfs St.cast St.unf G1 rH unfA memN fzA fzCs fzV fzEs fzFr GY Ee Eg GZ J4 J5 J6 J7
attribute [go_sem] aNk aNl aNm aNn aNo aNp aNq aNr
end
def SH(n:Nat):pL n []:=by intro c H;cases H
def aNv(n:Nat)(a:List A)(b:List (List A)):pL n (a::b)↔a.length=n/\pL n b:=by simp only[pL,cK];exact⟨λ h=>⟨h a (.inl rfl),λ c H=>h c (.inr H)⟩,λ⟨O,U⟩ c H=>H.elim (λ e=>e▸O) (U c)⟩
def SI:uJ []:=by intro c H;cases H
attribute [go_sem] eC Nat.add_zero kV dC Nat.lt_add_one fS Int.toNat_zero Int.toNat_natCast Int.natCast_zero imp_self cW gG jK iZ and_false or_true true_or gT jO forall_const true_implies kB fD cH cI eq_self ne_eq kP iN cL fG eY iD cQ dO Bool.not_not bZ gP cond_true cond_false Bool.cond_true_left Bool.cond_true_right Bool.cond_false_left Bool.cond_false_right cG cO Option.getD_some Option.getD_none Option.map_some Option.map_none Option.bind_some Option.isSome_some Option.isNone_none List.length_cons List.length_nil dK cC List.all_nil List.all_cons List.nil_append dY iU dN List.set_cons_zero List.set_nil List.getD_cons_zero hI dV List.headD_cons List.contains_nil List.take_nil List.drop_nil kX
attribute [simp] SH SI
attribute [go_sem] SH aNv SI
@[go_sem] theorem aNx(l:List Int):u8s (l.map λ n=>[A.int .u8 n])=some l:=by
 induction l with
 |nil=>rfl
 |cons n l H=>simp only[dN,u8s,H,xm]
@[go_sem] theorem aNy(l:List UInt8):(l.map λ b=>[A.int .u8 (b.toNat:Int)])=(l.map λ b=>(b.toNat:Int)).map (eI .u8):=by rw[jP];rfl
@[go_sem] theorem aNz(l:List Int):u8s (l.map (eI .u8))=some l:=aNx l
@[go_sem] theorem aO0(q:Nat×MS)(l r:List (Nat×MS)):q::l++r=q::(l++r):=rfl
@[go_sem] theorem aO1:([]:List A).flatMap rF=[]:=rfl
@[go_sem] theorem aO2(x lo n:Nat)(H:List A):(A.own x lo n::H).flatMap rF=x::H.flatMap rF:=rfl
@[go_sem] theorem aO3(s:ByteArray)(H:List A):(A.str s::H).flatMap rF=H.flatMap rF:=rfl
@[go_sem] theorem aO4(k:IntKind)(n:Int)(H:List A):(A.int k n::H).flatMap rF=H.flatMap rF:=rfl
@[go_sem] theorem aO5(b:Bool)(H:List A):(A.bool b::H).flatMap rF=H.flatMap rF:=rfl
@[go_sem] theorem aO6(l:List (List A))(H:List A):(A.sl l::H).flatMap rF=H.flatMap rF:=rfl
attribute [go_sem] List.isEmpty_nil List.isEmpty_cons kY List.forall_mem_cons eP
@[go_sem↓] theorem aO7(r:A):(if r.scal=true then([]:List (Nat×MS))else[])=[]:=kY _
@[go_sem] theorem aO8(c x:A)(H xs:List A):upd (c::H) 0 (x::xs)=x::upd H 0 xs:=by simp[upd,eN]
@[go_sem] theorem aO9(H:List A)(n:Nat):upd H n []=H:=by simp[upd]
@[go_sem] theorem aOa(c:A)(H new:List A)(n:Nat):upd (c::H) (n+1) new=c::upd H n new:=by simp[upd,Nat.add_right_comm]
@[go_sem] theorem aOb(c:A)(H:List A)(k:Nat):sub (c::H) 0 (k+1)=c::sub H 0 k:=by simp[sub]
@[go_sem] theorem aOc(H:List A)(n:Nat):sub H n 0=[]:=by simp[sub]
@[go_sem] theorem aOd(c:A)(H:List A)(n k:Nat):sub (c::H) (n+1) k=sub H n k:=by simp[sub]
def gd{α:Type}(p:Prop)[Decidable p](k:Option α):Option α:=if p then k else none
def mM{α:Type}{p:Prop}[Decidable p]{k:Option α}{r:α}(h:gd p k=some r):p/\k=some r:=by
 unfold gd at h;split at h
 .exact⟨by assumption,h⟩
 .cases h
def mL{α:Type}{p:Prop}[Decidable p]{k:Option α}(h:p):gd p k=k:=cA h
def mG{α β:Type}{m:Option α}{f:α->Option β}{r:β}(h:m.bind f=some r):∃v,m=some v/\f v=some r:=by
 cases m with
 |none=>cases h
 |some v=>exact⟨v,rfl,h⟩
def uM{α:Type}{c:Bool}{x y r:α}(hb:c=true)(h:(if c=true then x else y)=r):x=r:=by rw[cA hb]at h;exact h
def SJ{α:Type}{c:Bool}{x y r:α}(hb:c=false)(h:(if c=true then x else y)=r):y=r:=by subst hb;exact h
def iter{G X:Type}(body:G->Option (G⊕X)):Nat->G->Option X
 |0,_=>none
 |n+1,g=>match body g with
  |none=>none
  |some (.inl g')=>iter body n g'
  |some (.inr x)=>some x
def N0{G X:Type}{body:G->Option (G⊕X)}{x:X}:∀{n m:Nat} {g:G},iter body n g=some x->n<=m->iter body m g=some x
 |0,_,_,h,_=>by cases h
 |n+1,0,_,_,hm=>om
 |n+1,m+1,g,h,hm=>by
  simp only[iter]at h⊢;cases hb:body g with
  |none=>rw[hb]at h;cases h
  |some y=>
   rw[hb]at h;cases y with
   |inl H=>exact N0 (n:=n) (m:=m) h om
   |inr O=>exact h
open Classical in
noncomputable def mF{G X:Type}(body:G->Option (G⊕X))(g:G):Option X:=
 match iter body 1000 g with
 |some x=>some x
 |none=>if h:∃n x,iter body n g=some x then some (Classical.choose (fB h))else none
def yI{G X:Type}{body:G->Option (G⊕X)}{g:G}{x:X}:mF body g=some x↔∃n,iter body n g=some x:=by
 have H:∀{n m:Nat} {x y:X},iter body n g=some x->iter body m g=some y->some x=some y:=λ{n m x y} h1 h2=>by rw[<-N0 h1 (Nat.le_add_right n m),<-N0 h2 (Nat.le_add_left m n)]
 unfold mF;cases h0:iter body 1000 g with
 |some y=>exact⟨λ h=>⟨1000,by rw[h0];exact h⟩,λ⟨n,O⟩=>H h0 O⟩
 |none=>
  constructor
  .intro h;simp only at h;split at h
   .rename_i U;cases h;exact⟨_,fB (fB U)⟩
   .cases h
  .rintro⟨n,O⟩;have U:∃n x,iter body n g=some x:=⟨n,x,O⟩;simp only;rw[kR U];exact H (fB (fB U)) O
def mP{G X:Type}(body:G->Option (G⊕X))(g:G):mF body g=match body g with
  |none=>none
  |some (.inl O)=>mF body O
  |some (.inr x)=>some x:=by
 cases hb:body g with
 |none=>
  simp only;cases h:mF body g with
  |none=>rfl
  |some x=>
   obtain⟨n,H⟩:=yI.1 h;cases n with
   |zero=>cases H
   |succ n=>simp only[iter,hb]at H;cases H
 |some y=>
  cases y with
  |inr x=>exact yI.2 ⟨1,by simp[iter,hb]⟩
  |inl O=>
   simp only;cases h:mF body O with
   |some x=>obtain⟨n,H⟩:=yI.1 h;exact yI.2 ⟨n+1,by simp only[iter,hb];exact H⟩
   |none=>
    cases h2:mF body g with
    |none=>rfl
    |some x=>
     obtain⟨n,H⟩:=yI.1 h2;cases n with
     |zero=>cases H
     |succ n=>simp only[iter,hb]at H;rw[yI.2 ⟨n,H⟩]at h;cases h
def uN(E:Env){V:Type}(J:V->St)(P:V->Prop)(s:St):Prop:=∃v,P v/\St.le E s (J v)
def SK{E:Env}{V:Type}{J:V->St}{P:V->Prop}{s:St}{k:Nat}(hK:E.k0=k)(v:V)(h:P v)(l:List (Nat×Nat))(hl:Le l s (J v)/\rT k l (J v).nx=true):uN E J P s:=⟨v,h,St.le_of l hl.1 (by rw[hK];exact hl.2)⟩
def yJ(E:Env){V:Type}(J:V->St)(P:V->Prop)(Q:Exit->St->Prop):Exit->St->Prop:=λ e s=>match e with|.normal=>uN E J P s|e=>Q e s
def BlkJ(E:Env){V:Type}(id:Nat)(J:V->St)(P:V->Prop)(Q:Exit->St->Prop):Exit->St->Prop:=λ e s=>match e with
 | .normal=>uN E J P s
 | .exit i=>if i=id then uN E J P s else Q (.exit i) s
 |e=>Q e s
def G3(E:Env){G X:Type}(I:G->St)(y:G⊕X)(s:St):Prop:=∃H,y=.inl H/\St.le E s (I H)
def SM{E:Env}{G X:Type}{I:G->St}{H:G}{s:St}{k:Nat}(hK:E.k0=k)(l:List (Nat×Nat))(hl:Le l s (I H)/\rT k l (I H).nx=true):G3 (X:=X) E I (.inl H) s:=⟨H,rfl,St.le_of l hl.1 (by rw[hK];exact hl.2)⟩
def Aw(E:Env){G X:Type}(I:G->St)(y:G⊕X)(Q:Exit->St->Prop):Exit->St->Prop:=λ e s=>match e with|.normal=>G3 E I y s|e=>Q e s
section
variable {C:Cx} {E:Env} {Q:Exit→St→Prop} {st:St}
def AW.join{V:Type}{J:V->St}{c:PC}{U:Exit->St->Prop}(h:AW C E c U st)
  (Y:∀e s,U e s->Q e s\/∃v,St.le E s (J v)/\Q e (J v)):AW C E c Q st:=
 λ H B a w F=>wp_mono (h H B a w F) λ e M w' ⟨st',h1,h2⟩=>by
  rcases Y e st' h1 with O|⟨v,O,h4⟩
  .exact⟨st',O,h2⟩
  .exact⟨J v,h4,O M w' h2⟩
def aOo{x:PX}{p q:PC}{V:Type}(J:V->St)(P:V->Prop){b:Bool}(hx:xv C.G st.slot x=.bool b)(hG:E.G=C.G)(O:∀v,P v->Q .normal (J v))
  (ht:b=true->AW C E p (yJ E J P Q) st) (U:b=false->AW C E q (yJ E J P Q) st):AW C E (.cond x p q) Q st:=by
 have H:∀c,AW C E c (yJ E J P Q) st->AW C E c Q st:=λ c h=>h.join (J:=J) λ e s h=>by
  cases e with
  |normal=>obtain⟨v,Y,B⟩:=h;exact .inr ⟨v,B,O v Y⟩
  |_=>exact .inl h
 exact JU hx hG (λ h=>H _ (ht h)) (λ h=>H _ (U h))
def qA{id:Nat}{c:PC}{V:Type}(J:V->St)(P:V->Prop)(U:∀v,P v->Q .normal (J v))(h:AW C E c (BlkJ E id J P Q) st):AW C E (.block id c) Q st:=by
 refine NF (h.join (J:=J) λ e s h=>?_);cases e with
 |normal=>obtain⟨v,H,O⟩:=h;exact .inr ⟨v,O,U v H⟩
 |exit i=>
  simp only[BlkJ]at h⊢;split at h
  .obtain⟨v,H,O⟩:=h;rename_i hi;exact .inr ⟨v,O,by rw[cA hi];exact U v H⟩
  .rename_i hi;exact .inl (by rw[bX hi];exact h)
 |_=>exact .inl h
def G4(E:Env){V:Type}(id:Nat)(J:V->St)(P:V->Prop)(Q:Exit->St->Prop):Exit->St->Prop:=λ e s=>match e with
 | .normal=>uN E J P s\/Q .normal s
 | .exit i=>if i=id then(uN E J P s\/Q .normal s)else Q (.exit i) s
 |e=>Q e s
def SN{id:Nat}{c:PC}{V:Type}(J:V->St)(P:V->Prop)(U:∀v,P v->Q .normal (J v))(h:AW C E c (G4 E id J P Q) st):AW C E (.block id c) Q st:=by
 refine NF (h.join (J:=J) λ e s h=>?_);cases e with
 |normal=>
  rcases h with⟨v,H,O⟩|h
  .exact .inr ⟨v,O,U v H⟩
  .exact .inl h
 |exit i=>
  simp only[G4]at h⊢;split at h
  .rename_i hi;rcases h with⟨v,H,O⟩|h
   .exact .inr ⟨v,O,by rw[cA hi];exact U v H⟩
   .exact .inl (by rw[cA hi];exact h)
  .rename_i hi;exact .inl (by rw[bX hi];exact h)
 |_=>exact .inl h
def N1{c:PC}{G X:Type}{body:G->Option (G⊕X)}{O:G}{x:X}(I:G->St){k:Nat}(hK:E.k0=k)(l:List (Nat×Nat))(hx:mF body O=some x)(H:Le l st (I O)/\rT k l (I O).nx=true)
  (h:∀g y,body g=some y->(∀U,y=.inr U->U=x)->AW C E c (Aw E I y Q) (I g)):AW C E (.loop c) Q st:=by
 obtain⟨n,B⟩:=yI.1 hx;refine RT (G:={p:Nat×G//iter body p.1 p.2=some x}) (λ p=>I p.1.2) (λ _=>True) (λ p=>p.1.1) ⟨(n,O),B⟩ trivial (St.le_of l H.1 (by rw[hK];exact H.2)) λ⟨⟨m,g⟩,hm⟩ _=>?_;cases m with
 |zero=>cases hm
 |succ m=>
  simp only[iter]at hm;cases hb:body g with
  |none=>rw[hb]at hm;cases hm
  |some y=>
   rw[hb]at hm;refine(h g y hb λ U e=>by subst e;exact dH hm).mono λ e s Y=>?_;cases e with
   |normal=>obtain⟨F,rfl,M⟩:=Y;exact⟨⟨(m,F),hm⟩,trivial,M,eQ m⟩
   |_=>exact Y
def N2(E:Env){G X β:Type}(I:G->St)(body:G->Option (G⊕X))(kk:X->Option β)(R:Option β)(s:St):Prop:=∃H,(mF body H).bind kk=R/\St.le E s (I H)
def J8(E:Env){G X β:Type}(I:G->St)(body:G->Option (G⊕X))(kk:X->Option β)(R:Option β)(Q:Exit->St->Prop):Exit->St->Prop:=λ e s=>match e with|.normal=>N2 E I body kk R s|e=>Q e s
def aOu{G X β:Type}(I:G->St)(body:G->Option (G⊕X))(kk:X->Option β)(R:Option β)(s:St):J8 E I body kk R Q .normal s=N2 E I body kk R s:=rfl
def aOv{G X β:Type}(I:G->St)(body:G->Option (G⊕X))(kk:X->Option β)(R:Option β)(s:St):J8 E I body kk R Q .ret s=Q .ret s:=rfl
def aOw{G X β:Type}(I:G->St)(body:G->Option (G⊕X))(kk:X->Option β)(R:Option β)(i:Nat)(s:St):J8 E I body kk R Q (.exit i) s=Q (.exit i) s:=rfl
def SO{c:PC}{G X β:Type}{body:G->Option (G⊕X)}{kk:X->Option β}{r:β}(I:G->St){k:Nat}(hK:E.k0=k)(B:AW C E c (J8 E I body kk (some r) Q) st)
  (h:∀x,kk x=some r->∀g y,body g=some y->(∀O,y=.inr O->O=x)->AW C E c (Aw E I y Q) (I g)):AW C E (.loop c) Q st:=by
 refine Z9 (G:={p:Nat×G//∃x,iter body p.1 p.2=some x/\kk x=some r}) (λ p=>I p.1.2) (λ _=>True) (λ p=>p.1.1) (λ⟨⟨m,g⟩,x,hm,hx⟩ _=>?_) (B.mono λ e s H=>?_)
 .cases m with
  |zero=>cases hm
  |succ m=>
   simp only[iter]at hm;cases hb:body g with
   |none=>rw[hb]at hm;cases hm
   |some y=>
    rw[hb]at hm;refine(h x hx g y hb λ O e=>by subst e;exact dH hm).mono λ e s H=>?_;cases e with
    |normal=>obtain⟨U,rfl,Y⟩:=H;exact⟨⟨(m,U),x,hm,hx⟩,trivial,Y,eQ m⟩
    |_=>exact H
 .cases e with
  |normal=>obtain⟨U,Y,F⟩:=H;obtain⟨x,M,h5⟩:=mG Y;obtain⟨n,hn⟩:=yI.1 M;exact⟨⟨(n,U),x,hn,h5⟩,trivial,F⟩
  |_=>exact H
def aOy{V:Type}(J:V->St)(P:V->Prop)(s:St):yJ E J P Q .normal s=uN E J P s:=rfl
def aOz{V:Type}(J:V->St)(P:V->Prop)(s:St):yJ E J P Q .ret s=Q .ret s:=rfl
def aP0{V:Type}(J:V->St)(P:V->Prop)(i:Nat)(s:St):yJ E J P Q (.exit i) s=Q (.exit i) s:=rfl
def aP1{V:Type}(id:Nat)(J:V->St)(P:V->Prop)(s:St):BlkJ E id J P Q .normal s=uN E J P s:=rfl
def aP2{V:Type}(id:Nat)(J:V->St)(P:V->Prop)(s:St):BlkJ E id J P Q .ret s=Q .ret s:=rfl
def aP3{V:Type}(id:Nat)(J:V->St)(P:V->Prop)(i:Nat)(s:St):BlkJ E id J P Q (.exit i) s=if i=id then uN E J P s else Q (.exit i) s:=rfl
def aP4{G X:Type}(I:G->St)(y:G⊕X)(s:St):Aw E I y Q .normal s=G3 E I y s:=rfl
def aP5{G X:Type}(I:G->St)(y:G⊕X)(s:St):Aw E I y Q .ret s=Q .ret s:=rfl
def aP6{G X:Type}(I:G->St)(y:G⊕X)(i:Nat)(s:St):Aw E I y Q (.exit i) s=Q (.exit i) s:=rfl
def aP7{V:Type}(id:Nat)(J:V->St)(P:V->Prop)(s:St):G4 E id J P Q .normal s=(uN E J P s\/Q .normal s):=rfl
def aP8{V:Type}(id:Nat)(J:V->St)(P:V->Prop)(s:St):G4 E id J P Q .ret s=Q .ret s:=rfl
def aP9{V:Type}(id:Nat)(J:V->St)(P:V->Prop)(i:Nat)(s:St):G4 E id J P Q (.exit i) s=if i=id then(uN E J P s\/Q .normal s)else Q (.exit i) s:=rfl
attribute [go_sem] aP7 aP8 aP9 aOu aOv aOw aOy aOz aP0 aP1 aP2 aP3 aP4 aP5 aP6
end
def vP{V G X:Type}(body:V->G->Option (G⊕X))(H:G->X):List V->G->Option X
 |[],g=>some (H g)
 |e::p,g=>match body e g with
  |none=>none
  |some (.inl g')=>vP body H p g'
  |some (.inr x)=>some x
noncomputable def rngO{V G X β:Type}(m:List V)(d:V)(body:V->G->Option (G⊕X))(H:G->X)(O:G)(kk:X->Option β):Option β:=
 open Classical in if h:∃r,∀q:List Nat,q.Perm (List.range m.length)->(vP body H (q.map (m.getD · d)) O).bind kk=some r then some (Classical.choose h)else none
def aPb{V G X β:Type}{m:List V}{d:V}{body:V->G->Option (G⊕X)}{H:G->X}{O:G}{kk:X->Option β}{r:β}(h:rngO m d body H O kk=some r):
  ∀q:List Nat,q.Perm (List.range m.length)->(vP body H (q.map (m.getD · d)) O).bind kk=some r:=by
 unfold rngO at h;split at h
 .rename_i U;cases h;exact fB U
 .cases h
def SP{V G X β:Type}{m:List V}{d:V}{body:V->G->Option (G⊕X)}{H:G->X}{O:G}{kk:X->Option β}{r:β}
  (h:∀q:List Nat,q.Perm (List.range m.length)->(vP body H (q.map (m.getD · d)) O).bind kk=some r):rngO m d body H O kk=some r:=by
 unfold rngO;have U:∃r,∀q:List Nat,q.Perm (List.range m.length)->(vP body H (q.map (m.getD · d)) O).bind kk=some r:=⟨r,h⟩;rw[kR U];have Y:=fB U _ (jE _);rw[h _ (jE _)]at Y;exact Y.symm
structure RngP {V G X β:Type} (m:List V) (d:V) (body:V->G->Option (G⊕X)) (fin:G->X) (kk:X->Option β) (r:β) (s:List Nat) (g:G):Prop where
 nd:s.Nodup
 lt:∀i∈s,i<m.length
 ok:∀q,(s++q).Perm (List.range m.length)->(vP body fin (q.map (m.getD · d)) g).bind kk=some r
def aPd{n:Nat}{s:List Nat}(H:s.Nodup)(O:∀i∈s,i<n):∃q,(s++q).Perm (List.range n):=by
 refine⟨(List.range n).filter (λ i=>!s.contains i),(kK ?_ jY).2 λ i=>?_⟩
 .rw[jQ];exact⟨H,jJ.nodup jY,λ a ha b hb e=>by subst e;simp at hb;exact hb.2 ha⟩
 .simp only[cX,gY,eH,dB,kD,dE];constructor
  .rintro(h|h)
   .exact O i h
   .exact h.1
  .intro h
   by_cases c:i∈s
   .exact .inl c
   .exact .inr ⟨h,c⟩
def SQ{V G X β:Type}{m:List V}{d:V}{body:V->G->Option (G⊕X)}{O:G->X}{kk:X->Option β}{r:β}{s:List Nat}{g:G}{i:Nat}(h:RngP m d body O kk r s g)(hi:i<m.length)(F:iE i∉s.map iE):
  ∃y,body (m.getD i d) g=some y/\(∀Y,y=.inl Y->RngP m d body O kk r (s++[i]) Y)/\∀x,y=.inr x->kk x=some r:=by
 have hs':i∉s:=λ M=>F (cR.2 ⟨i,M,rfl⟩);have nd:(s++[i]).Nodup:=by rw[jQ];exact⟨h.nd,by simp,λ a ha b hb e=>by simp at hb;subst hb;subst e;exact hs' ha⟩
 have B:∀j∈s++[i],j<m.length:=λ j hj=>by
  rcases cX.1 hj with hj|hj
  .exact h.lt j hj
  .simp at hj;subst hj;exact hi
 obtain⟨q,U⟩:=aPd nd B;have H:=h.ok (i::q) (by rw[cE]at U;exact U);simp only[dN,vP]at H;cases hb:body (m.getD i d) g with
 |none=>rw[hb]at H;cases H
 |some y=>
  refine⟨y,rfl,λ Y e=>⟨nd,B,λ q U=>?_⟩,λ x e=>?_⟩
  .have:=h.ok (i::q) (by rw[cE]at U;exact U);simp only[dN,vP,hb,e]at this;exact this
  .rw[hb,e]at H;exact H
def SR{V G X β:Type}{m:List V}{d:V}{body:V->G->Option (G⊕X)}{H:G->X}{kk:X->Option β}{r:β}{s:List Nat}{g:G}(h:RngP m d body H kk r s g)(ha:∀i,i<m.length->iE i∈s.map iE):kk (H g)=some r:=by
 have:=h.ok [] (by
  rw[dY];refine(kK h.nd jY).2 λ i=>?_;rw[eH];refine⟨h.lt i,λ hi=>?_⟩;obtain⟨j,O,e⟩:=cR.1 (ha i hi);simp only[iE,gL,A.int.injEq,gG,jK]at e;have:j=i:=om
  exact this▸O)
 exact this
def RngN{V G X β:Type}(E:Env)(I:List Nat->G->St)(m:List V)(d:V)(body:V->G->Option (G⊕X))(H:G->X)(kk:X->Option β)(r:β)(s:List Nat)(w:St):Prop:=
 ∃i O,RngP m d body H kk r (s++[i]) O/\St.le E w (I (s++[i]) O)
def RngQ{V G X β:Type}(E:Env)(I:List Nat->G->St)(m:List V)(d:V)(body:V->G->Option (G⊕X))(H:G->X)(kk:X->Option β)(r:β)(s:List Nat)(Q:Exit->St->Prop):Exit->St->Prop:=λ e w=>match e with|.normal=>RngN E I m d body H kk r s w|e=>Q e w
section
variable {C:Cx} {E:Env} {Q:Exit→St→Prop} {st:St}
def aPg{c:PC}{V G X β:Type}{m:List V}{d:V}{body:V->G->Option (G⊕X)}{H:G->X}{O:G}{kk:X->Option β}{r:β}(I:List Nat->G->St)(h:rngO m d body H O kk=some r)(Y:St.le E st (I [] O))
  (hb:∀s g,RngP m d body H kk r s g->AW C E c (RngQ E I m d body H kk r s Q) (I s g)):AW C E (.loop c) Q st:=by
 refine RT (G:=List Nat×G) (λ p=>I p.1 p.2) (λ p=>RngP m d body H kk r p.1 p.2) (λ p=>m.length-p.1.length) ([],O) ⟨List.nodup_nil,(λ i hi=>nomatch hi),λ q B=>aPb h q B⟩ Y λ p F=>?_;refine(hb p.1 p.2 F).mono λ e w hw=>?_;cases e with
 |normal=>
  obtain⟨i,M,U,h2⟩:=hw;refine⟨(p.1++[i],M),U,h2,?_⟩;have:(p.1++[i]).length<=m.length:=by
   have:=eT U.nd (l₂:=List.range m.length) λ j hj=>eH.2 (U.lt j hj)
   simpa using this
  simp only[cC,ym,Ym]at this⊢;omega
 |_=>exact hw
def aPh{V G X β:Type}(I:List Nat->G->St)(m:List V)(d:V)(body:V->G->Option (G⊕X))(H:G->X)(kk:X->Option β)(r:β)(s:List Nat)(w:St):RngQ E I m d body H kk r s Q .normal w=RngN E I m d body H kk r s w:=rfl
def aPi{V G X β:Type}(I:List Nat->G->St)(m:List V)(d:V)(body:V->G->Option (G⊕X))(H:G->X)(kk:X->Option β)(r:β)(s:List Nat)(w:St):RngQ E I m d body H kk r s Q .ret w=Q .ret w:=rfl
def aPj{V G X β:Type}(I:List Nat->G->St)(m:List V)(d:V)(body:V->G->Option (G⊕X))(H:G->X)(kk:X->Option β)(r:β)(s:List Nat)(i:Nat)(w:St):RngQ E I m d body H kk r s Q (.exit i) w=Q (.exit i) w:=rfl
attribute [go_sem] aPh aPi aPj
end
def unfull:A->A
 | .full es=>.sl es
 |a=>a
def PFn.unfull{C:Cx}{f:FuncId}{H:List A}{r:A}(h:PFn C f (H.map unfull) r):PFn C f H r:=by
 intro w W vs hg O hl ha;refine h w W vs hg O (by simpa using hl) λ i v a hv hx=>?_;rw[cV]at hx;cases hy:H[i]? with
 |none=>rw[hy]at hx;cases hx
 |some b=>
  rw[hy]at hx;cases hx;have:=ha i v b hv hy;cases b with
  |full es=>
   have U:RepC w W v (.full es):=this;cases U with
   |full a n es h=>exact h
  |_=>exact this
@[go_sem] theorem aPk(a b:Nat):Nat.min a b=min a b:=rfl
attribute [go_sem] Ab.unfull rT fixL
attribute [go_sem] Int.cast_ofNat_Int eU fF gB Nat.min_self
def Imp(q p:Prop):Prop:=q->p
def Imp.and{q a b:Prop}(ha:a)(h:Imp q b):Imp q (a/\b):=λ H=>⟨ha,h H⟩
def Imp.refl{q:Prop}:Imp q q:=λ h=>h
def im{q p:Prop}(w:Imp q p:=by(simp only[go_sem,↓reduceIte,reduceCtorEq,Nat.reduceEqDiff,Nat.reduceAdd,Nat.reduceSub,Nat.reduceMul,Nat.reduceLeDiff,Nat.reduceLT,Int.reduceLE,Int.reduceLT,Int.reduceToNat,Int.reduceNeg];(repeat((with_reducible apply Imp.and);focus (first|assumption|omega|rfl|(simp;done)|(simp;omega)|(intros;simp_all;done)|grind)));exact Imp.refl)):Imp q p:=w
def i0{q p:Prop}(w:Imp q p:=by(simp only[go_sem,↓reduceIte,reduceCtorEq,Nat.reduceEqDiff,Nat.reduceAdd,Nat.reduceSub,Nat.reduceMul,Nat.reduceLeDiff,Nat.reduceLT,Int.reduceLE,Int.reduceLT,Int.reduceToNat,Int.reduceNeg];exact Imp.refl)):Imp q p:=w
def lw{p:Prop}(w:p:=by(simp only[go_sem,↓reduceIte,reduceCtorEq,Nat.reduceEqDiff,Nat.reduceAdd,Nat.reduceSub,Nat.reduceMul,Nat.reduceLeDiff,Nat.reduceLT,Int.reduceLE,Int.reduceLT,Int.reduceToNat,Int.reduceNeg];first|(done)|trivial|(simp;done)|(repeat'(first|rfl|trivial|omega|(simp;done)|(simp;omega)|(congr 1;omega)|(congr 1;simp only[cC,dD,dS,iH];omega)|apply And.intro)))):p:=w
section
variable {C:Cx} {E:Env} {Q:Exit→St→Prop} {st:St} {q:Prop}
def g_st{p:Prop}(h:q)(e:Imp q p:=by exact i0):p:=e h
def mN(h:q)(e:Imp q (Q .normal st):=by exact i0):AW C E .skip Q st:=Z3 (e h)
def aPl(h:q)(e:Imp q (Q .normal st):=by exact i0):AW C E .label Q st:=Z4 (e h)
def oO{id:Nat}(h:q)(e:Imp q (Q (.exit id) st):=by exact i0):AW C E (.exit id) Q st:=Z7 (e h)
def mO(h:q)(e:Imp q (Q .ret st):=by exact i0):AW C E .ret Q st:=Z8 (e h)
def mE{O:List Nat}{H:List POp}(hG:E.G=C.G)(h:q)
  (e:Imp q (arun C H st λ s=>Q .normal (s.drop O)):=by exact im):AW C E (.reg O H) Q st:=aI7 hG (e h)
def zq{O:List Nat}{H:List POp}{y:PC}(h:q)(e:Imp q (arun C H st λ s=>SeqQ C E y Q .normal (s.drop O)):=by exact im)(hG:E.G=C.G:=by assumption):AW C E (.seq (.reg O H) y) Q st:=mD (mE hG h e)
def i9{O:List Nat}{H:List POp}(hm:C.P.follows .mixedOrders=true)(hG:E.G=C.G)(h:q)
  (e:Imp q (uL C H st λ s=>Q .normal (s.drop O)):=by exact im):AW C E (.regd O H) Q st:=aJp hm hG (e h)
def qJ{O:List Nat}{U:List (List Nat)}{H:List POp}(hm:C.P.follows .mixedOrders=true)(hG:E.G=C.G)(h:q)
  (e:Imp q (rU C U H st [] λ s=>Q .normal (s.drop O)):=by exact im):AW C E (.regm O U H) Q st:=aLq hm hG (e h)
def nK{f:FuncId}{d:Option Nat}{g:Option (Nat×Bool)}{H:Bool}{O:Prop}{args:List A}{rw:List (Nat×MS)}{ps:List POp}{st:St}{K:St->Prop}{r:A}
  (U:H=true->PFn C f args r) (h:q)
  (e:Imp q (arun C ps (st.app d (oL g H r) (if r.scal then[]else rw)) K):=by exact im)
  (Y:H=true->O:=by intro;trivial) (hg:g=none\/(if r.scal then[]else rw)=[]/\r.isVV=true:=by first|exact .inl rfl|exact .inr ⟨rfl,rfl⟩|exact .inr ⟨kY _,rfl⟩):yF C f d g H O args rw ps st K:=aMs U (e h) Y hg
def wV{f:FuncId}{d:Option Nat}{g:Option (Nat×Bool)}{H:Bool}{O:Prop}{args:List A}{rw:List (Nat×MS)}{ps:List POp}{st:St}{K:St->Prop}{r:A}
  (U:H=true->PFn C f args r) (h:q)
  (e:Imp q (uL C ps (st.app d (oL g H r) []) K):=by exact im)
  (Y:H=true->O:=by intro;trivial) (hg:g=none\/(if r.scal then[]else rw)=[]/\r.isVV=true:=by first|exact .inl rfl|exact .inr ⟨rfl,rfl⟩|exact .inr ⟨kY _,rfl⟩) (B:(if r.scal then[]else rw)=[]:=by first|rfl|exact kY _):yG C f d g H O args rw ps st K:=aN1 U (e h) Y hg B
def sK{Y:List (List Nat)}{f:FuncId}{d:Option Nat}{g:Option (Nat×Bool)}{U:Bool}{B:Prop}{args:List A}{rw:List (Nat×MS)}{ids:List Nat}{O:Bool}{ps:List POp}{st:St}{H:List (List Nat×List Nat)}{K:St->Prop}{r:A}
  (F:U=true->PFn C f args r) (h:q)
  (e:Imp q (vO (Y.getD H.length []) 0 H ids ((if r.scal then[]else rw).map (·.1))=true/\O=true/\rU C Y ps (st.app d (oL g U r) (if r.scal then[]else rw)) (H++[(ids,(if r.scal then[]else rw).map (·.1))]) K):=by exact im)
  (M:U=true->B:=by intro;trivial) (hg:g=none\/(if r.scal then[]else rw)=[]/\r.isVV=true:=by first|exact .inl rfl|exact .inr ⟨rfl,rfl⟩|exact .inr ⟨kY _,rfl⟩):yH C Y f d g U B args rw ids O ps st H K:=aN5 F (e h) M hg
def mJ{α:Type}{x:PX}{p q:PC}{b c:Bool}{X Y r:α}(hx:xv C.G st.slot x=.bool b)(hG:E.G=C.G)(h:(if c=true then X else Y)=r)
  (ht:b=true->X=r->AW C E p Q st) (H:b=false->Y=r->AW C E q Q st) (e:b=c:=by first|rfl|(simp;done)|grind):AW C E (.cond x p q) Q st:=by
 subst e;exact JU hx hG (λ hb=>ht hb (by rw[cA hb]at h;exact h)) (λ hb=>H hb (by rw[hb]at h;simpa using h))
def rV{α:Type}{x:PX}{p q:PC}{V:Type}(J:V->St)(P:V->Prop){b c:Bool}{X Y r:α}(hx:xv C.G st.slot x=.bool b)(hG:E.G=C.G)(h:(if c=true then X else Y)=r)(H:∀v,P v->Q .normal (J v))
  (ht:b=true->X=r->AW C E p (yJ E J P Q) st) (O:b=false->Y=r->AW C E q (yJ E J P Q) st) (e:b=c:=by first|rfl|(simp;done)|grind):AW C E (.cond x p q) Q st:=by
 subst e;exact aOo J P hx hG H (λ hb=>ht hb (by rw[cA hb]at h;exact h)) (λ hb=>O hb (by rw[hb]at h;simpa using h))
def nU{α:Type}{x r:α}{p:Prop}(h:some x=some r)(e:x=r->p:=by(intro e;subst e;first|done|rfl|trivial|(simp;done)|(repeat'(first|rfl|trivial|omega|(simp;done)|(simp;omega)|(refine dZ A.sl (dZ (List.map _) ?_);exact eJ (by first|omega|(simp;omega)))|apply And.intro)))):p:=e (dH h)
def uO{α:Type}{x r:α}{p:Prop}(h:x=r)(e:x=r->p:=by(intro e;subst e;first|done|rfl|trivial|(simp;done)|(repeat'(first|rfl|trivial|omega|(simp;done)|(simp;omega)|(refine dZ A.sl (dZ (List.map _) ?_);exact eJ (by first|omega|(simp;omega)))|apply And.intro)))):p:=e h
def nA{V:Type}{J:V->St}{P:V->Prop}{s:St}{k:Nat}(hK:E.k0=k)(l:List (Nat×Nat))(v:V)(h:P v)
  (hl:Le l s (J v)/\rT k l (J v).nx=true:=by exact lw):uN E J P s:=SK hK v h l hl
def pA{G X:Type}{I:G->St}{H:G}{y:G⊕X}{s:St}{k:Nat}(hK:E.k0=k)(l:List (Nat×Nat))(h:some (.inl H)=some y)
  (hl:Le l s (I H)/\rT k l (I H).nx=true:=by exact lw):G3 E I y s:=by
 cases h;exact SM hK l hl
def SS{G X β:Type}{I:G->St}{body:G->Option (G⊕X)}{kk:X->Option β}{R:Option β}{H:G}{s:St}{k:Nat}(hK:E.k0=k)(l:List (Nat×Nat))(h:(mF body H).bind kk=R)
  (hl:Le l s (I H)/\rT k l (I H).nx=true:=by exact lw):N2 E I body kk R s:=
 ⟨H,h,St.le_of l hl.1 (by rw[hK];exact hl.2)⟩
def qO{c:PC}{G X β:Type}{body:G->Option (G⊕X)}{H:G}{kk:X->Option β}{r:β}(I:G->St){k:Nat}(hK:E.k0=k)(l:List (Nat×Nat))(h:(mF body H).bind kk=some r)
  (hb:∀x,kk x=some r->∀g y,body g=some y->(∀U,y=.inr U->U=x)->AW C E c (Aw E I y Q) (I g))
  (O:Le l st (I H)/\rT k l (I H).nx=true:=by exact lw):AW C E (.loop c) Q st:=by
 obtain⟨x,hx,Y⟩:=mG h;exact N1 I hK l hx O (hb x Y)
def ST{c:PC}{V G X β:Type}{m:List V}{d:V}{body:V->G->Option (G⊕X)}{H:G->X}{U:G}{kk:X->Option β}{r:β}(I:List Nat->G->St){k:Nat}(hK:E.k0=k)(l:List (Nat×Nat))(h:rngO m d body H U kk=some r)
  (hb:∀s g,RngP m d body H kk r s g->AW C E c (RngQ E I m d body H kk r s Q) (I s g))
  (O:Le l st (I [] U)/\rT k l (I [] U).nx=true:=by exact lw):AW C E (.loop c) Q st:=
 aPg I h (St.le_of l O.1 (by rw[hK];exact O.2)) hb
def SU{V G X β:Type}{m:List V}{d:V}{body:V->G->Option (G⊕X)}{O:G->X}{kk:X->Option β}{r:β}{I:List Nat->G->St}{H:G}{y:G⊕X}{s:List Nat}{i:Nat}{w:St}{k:Nat}(hK:E.k0=k)(l:List (Nat×Nat))(h:some (.inl H)=some y)
  (U:∀H,y=.inl H->RngP m d body O kk r (s++[i]) H) (hl:Le l w (I (s++[i]) H)/\rT k l (I (s++[i]) H).nx=true:=by exact lw):RngN E I m d body O kk r s w:=by
 cases h;exact⟨i,H,U H rfl,St.le_of l hl.1 (by rw[hK];exact hl.2)⟩
def aPw{α:Type}{r:α}(h:none=some r):AW C E .dead Q st:=by cases h
def BZ{x:PX}{p r:PC}(hx:xv C.G st.slot x=.bool true)(hG:E.G=C.G)(h:AW C E p Q st):AW C E (.cond x p r) Q st:=JU hx hG (λ _=>h) (λ h=>by cases h)
def J9{x:PX}{p r:PC}(hx:xv C.G st.slot x=.bool false)(hG:E.G=C.G)(h:AW C E r Q st):AW C E (.cond x p r) Q st:=JU hx hG (λ h=>by cases h) (λ _=>h)
def g_gh{c:PC}(g:Gh)(h:q)(e:Imp q (AW C E c Q (st.gh g)):=by exact i0)(H:st.ghOk g:=by exact lw):AW C E c Q st:=aMq g H (e h)
def nD{α:Type}{x r:α}{k:Nat}{st:St}{rs:List RX}{rl:List A}{ms':List (Nat×Row)}{k':Nat}(l:List (Nat×Nat))(h:some x=some r)
  (e:x=r->Aq st rs/\BX rl=true/\Le l ⟨pE 0 (resL st rs),st.mem,st.nx⟩ ⟨pE 0 rl,ms',k'⟩/\rT k l k'=true:=by(intro e;subst e;exact lw)):i5 k st rs rl ms' k':=by
 obtain⟨H,O,U,Y⟩:=e (dH h);exact⟨H,O,l,U,Y⟩
@[go_sem] theorem aPz{α:Type}(a:Nat×α)(l m:List (Nat×α))(n:Nat):look ((a::l)++m) n=if a.1=n then some a.2 else look (l++m) n:=rfl
@[go_sem] theorem aQ0(m:Nat->MS)(v:A)(vs H:List A):oZ m ((v::vs)++H)=frz m v::oZ m (vs++H):=rfl
@[go_sem] theorem aQ1(m:Nat->MS)(v:A)(vs H:List A):pS m ((v::vs)++H)=(rS m v/\pS m (vs++H)):=rfl
@[go_sem] theorem aQ2(v:A)(vs H:List A):rG ((v::vs)++H)=tS v++rG (vs++H):=rfl
@[go_sem] theorem aQ3(m:Nat->MS)(l:List (Nat×Nat))(k:Nat)(v a:A)(vs H O:List A):d9 m l k ((v::vs)++H) (a::O)=(argM m l k v a/\d9 m l k (vs++H) O):=rfl
@[go_sem] theorem aQ4(v a:A)(vs H O:List A):fzM ((v::vs)++H) (a::O)=(if a.hands then[]else tS v)++fzM (vs++H) O:=rfl
@[go_sem] theorem aQ5(q:Nat×MS)(r m:List (Nat×MS))(n:Nat):nxt n ((q::r)++m)=nxt (if q.1=n then n+1 else n) (r++m):=rfl
@[go_sem] theorem aQ6{α:Type}(m:List (Nat×α))(n:Nat):look ([]++m) n=look m n:=rfl
def mU{f:FuncId}{d:Option Nat}{M:Prop}{H:List A}{ps:List POp}{st:St}{K:St->Prop}(l U:List (Nat×Nat))(ids:List Nat){Y:List A}{ms ms':List (Nat×Row)}{k k':Nat}{r:A}
  (hf:MFn C f Y ms k r ms' k') (B:newL k st.nx (k'-k)=U) (O:ms.map (·.1)++(List.range (k'-k)).map (k+·)=ids) (h:q)
  (e:Imp q (arun C ps (st.app d (renR (l++U) r) (oK st.m (fzM H Y)++pU (l++U) ms' ids)) K):=by exact im)
  (F:okM st.m st.nx l H Y ms k k':=by exact lw)
  (ho:M:=by trivial) (hr:wU r=true:=by rfl):sW C f d none true M H ps st K:=by
 subst B;subst O;exact aMw l hf F (e h) ho hr
def SV(ms:List (Nat×Row))(k:Nat):ms.map (·.1)++(List.range (k-k)).map (k+·)=ms.map (·.1):=by rw[hJ];exact dY _
def G5{α:Type}{X:Option α}{M v:α}{c:Bool}{f:FuncId}{d:Option Nat}{g:Option (Nat×Bool)}{U:Bool}{ob:Prop}{H:List A}{ps:List POp}{st:St}{K:St->Prop}(l:List (Nat×Nat))(ids:List Nat){Y:List A}{ms ms':List (Nat×Row)}{k:Nat}{r:A}
  (hv:(if c=true then X else some M)=some v) (hf:X=some v->MFn C f Y ms k r ms' k) (O:ms.map (·.1)=ids) (h:q)
  (ec:U=c:=by first|rfl|(simp;done)|grind) (hs:M=v->f5 st.m (oK st.m (fzM H Y)++pU l ms' ids):=by(intro e;subst e;simp only[go_sem,↓reduceIte,reduceCtorEq,Nat.reduceEqDiff,Nat.reduceAdd,Nat.reduceSub,Nat.reduceMul,Nat.reduceLeDiff,Nat.reduceLT,Int.reduceLE,Int.reduceLT,Int.reduceToNat,Int.reduceNeg];first|(done)|trivial|(simp;done)|(repeat'(first|rfl|trivial|(simp;done)|apply And.intro))))
  (e:Imp q (arun C ps (st.app d (oL g U (renR l r)) (oK st.m (fzM H Y)++pU l ms' ids)) K):=by exact im)
  (B:okM st.m st.nx l H Y ms k k:=by exact lw)
  (ho:U=true->ob:=by first|(intro;trivial)|(intro;simp_all;done)) (hr:wU r=true:=by rfl) (F:(renR l r).isVV=true:=by rfl):sW C f d g U ob H ps st K:=by
 subst O;subst ec;refine aMx l (λ hg=>hf (uM hg hv)) (λ _=>B) ?_ ?_ ho hr F
 .intro hg;unfold mwM;rw[SV];exact hs (dH (SJ hg hv))
 .unfold mwM;rw[SV];exact e h
def vQ{M:List (List Nat)}{f:FuncId}{d:Option Nat}{ob:Prop}{H:List A}{vi:List Nat}{U:Bool}{ps:List POp}{st:St}{O:List (List Nat×List Nat)}{K:St->Prop}(l Y:List (Nat×Nat))(ids:List Nat){B:List A}{ms ms':List (Nat×Row)}{k k':Nat}{r:A}
  (hf:MFn C f B ms k r ms' k') (h0:newL k st.nx (k'-k)=Y) (F:ms.map (·.1)++(List.range (k'-k)).map (k+·)=ids) (h:q)
  (e:Imp q (vO (M.getD O.length []) 0 O vi ((oK st.m (fzM H B)++pU (l++Y) ms' ids).map (·.1))=true/\U=true/\rU C M ps (st.app d (renR (l++Y) r) (oK st.m (fzM H B)++pU (l++Y) ms' ids)) (O++[(vi,(oK st.m (fzM H B)++pU (l++Y) ms' ids).map (·.1))]) K):=by exact im)
  (x0:okM st.m st.nx l H B ms k k':=by exact lw)
  (ho:ob:=by trivial) (hr:wU r=true:=by rfl):i8 C M f d none true ob H vi U ps st O K:=by
 subst h0;subst F;exact aN7 l hf x0 (e h) ho hr
def N3{α β:Type}{x r:α}(h:some (Sum.inl x:α⊕β)=some (.inl r)):some x=some r:=by cases h;rfl
def Eh{α β:Type}{x r:β}(h:some (Sum.inr x:α⊕β)=some (.inr r)):some x=some r:=by cases h;rfl
def SW{α:Type}{c O:Bool}{X Y r:α}{f:FuncId}{d:Option Nat}{g:Option (Nat×Bool)}{U:Prop}{H:List A}{ps:List POp}{st:St}{K:St->Prop}(h:(if c=true then X else Y)=r)
  (ht:O=true->X=r->sW C f d g O U H ps st K) (B:O=false->Y=r->sW C f d g O U H ps st K) (F:O=c:=by first|rfl|(simp;done)|grind):sW C f d g O U H ps st K:=by
 subst F;cases hg:O with
 |true=>rw[hg]at ht;exact ht rfl (uM hg h)
 |false=>rw[hg]at B;exact B rfl (SJ hg h)
def SX{gv:Bool}{f:FuncId}{d:Option Nat}{g:Option (Nat×Bool)}{ob:Prop}{H:List A}{ps:List POp}{st:St}{K:St->Prop}(hc:gv=true)(l U:List (Nat×Nat))(ids:List Nat){Y:List A}{ms ms':List (Nat×Row)}{k k':Nat}{r:A}
  (hf:MFn C f Y ms k r ms' k') (B:newL k st.nx (k'-k)=U) (O:ms.map (·.1)++(List.range (k'-k)).map (k+·)=ids) (h:q)
  (e:Imp q (arun C ps (st.app d (oL g true (renR (l++U) r)) (oK st.m (fzM H Y)++pU (l++U) ms' ids)) K):=by exact im)
  (F:okM st.m st.nx l H Y ms k k':=by exact lw)
  (ho:ob:=by first|trivial|(simp_all;done)) (hr:wU r=true:=by rfl) (M:(renR (l++U) r).isVV=true:=by rfl):sW C f d g gv ob H ps st K:=by
 subst B;subst O;subst hc;exact⟨l,Y,ms,k,r,ms',k',λ _=>⟨ho,hf,F,trivial⟩,(λ h=>nomatch h),.inr M,G2 hr,e h⟩
def SY(m:Nat->MS)(nx:Nat)(H:List A):mwM m ([]++newL 0 nx (0-0)) H [] [] [] 0 0=[]:=by cases H<;>rfl
def SZ{B:Bool}{f:FuncId}{d:Option Nat}{g:Option (Nat×Bool)}{F:Prop}{O:List A}{ps:List POp}{st:St}{K:St->Prop}(M:B=false)(H:A)(h:q)
  (e:Imp q (arun C ps (st.app d (oL g false H) []) K):=by exact im)
  (hd:renR [] H=H:=by rfl) (hn:wU H=true:=by rfl) (Y:H.isVV=true:=by rfl):sW C f d g B F O ps st K:=by
 subst M;have U:renR ([]++newL 0 st.nx (0-0)) H=H:=hd;refine⟨[],[],[],0,H,[],0,(λ h=>nomatch h),λ _=>⟨rfl,?_⟩,.inr ?_,G2 hn,?_⟩
 .rw[SY];trivial
 .rw[U];exact Y
 .rw[SY,U];exact e h
end
inductive TK where
 |b
 |i (k:IntKind)
 |s
 |st (fs:List (Nat×Nat))
 |ar (n e:Nat)
 |sl (e:Nat)
 |mp (k e:Nat)
 |o
structure TI where
 k:TK
 n:Nat
 y:Nat
def lk{α:Type}:List (Nat×α)->Nat->α->α
 |[],_,d=>d
 |q::r,n,d=>bif Nat.beq q.1 n then q.2 else lk r n d
structure TC where
 t:List (Nat×TI)
 m:List (Nat×Option Unit)
 z:Nat->Nat->List A
 k:{o:Operand}->Nat->PX
def TC.ty(c:TC)(t:Nat):TI:=lk c.t t ⟨.o,1,0⟩
def TC.el(c:TC)(t:Nat):Nat:=match(c.ty t).k with|.sl e=>e|.ar _ e=>e|_=>0
def TC.ag(c:TC)(t:Nat):Bool:=match(c.ty t).k with|.st _=>true|.ar _ _=>true|_=>false
def TC.kz(c:TC)(t:Nat):A:=match(c.ty t).k with|.mp k _=>bif c.ag k then .agg (c.z 0 k)else(c.z 0 k).headD .any|_=>.any
def TC.me(c:TC)(t:Nat):Nat:=match(c.ty t).k with|.mp _ e=>e|_=>0
def TC.mt(c:TC)(t:Nat):Nat:=match(c.ty t).k with|.mp k _=>k|_=>0
def TC.md(c:TC)(t:Nat):List A:=c.kz t::c.z 0 (c.me t)
def TC.lf(c:TC):Nat->Nat->List LK
 |0,_=>[]
 |d+1,t=>match(c.ty t).k with
  | .b=>[.b]
  | .i k=>[.i k]
  | .s=>[.s]
  | .st H=>H.flatMap λ q=>c.lf d q.2
  |_=>[]
def TC.x(c:TC)(t:Nat)(o:Operand):PX:=match o with
 | .tmp n=>.t n
 | .const _=>c.k (o:=o) t
 | .global g=>.g g
 | .func f=>.f f
def N4:Operand->Bool
 | .const (.slice _ _ _)=>true
 |_=>false
def TC.bo(c:TC)(H:BinOp)(t:Nat)(x y:Operand):PO×List PX:=match(c.ty t).k with
 | .sl _=>(.eqNil,[c.x t x])
 | .b=>(.eqb (match H with|.neq=>true|_=>false),[c.x t x,c.x t y])
 | .st _=>(.eqa (match H with|.neq=>true|_=>false) (c.lf 9 t),[c.x t x,c.x t y])
 | .ar _ _=>(.eqa (match H with|.neq=>true|_=>false) (c.lf 9 t),[c.x t x,c.x t y])
 |_=>(.bin H,[c.x t x,c.x t y])
def TC.args(c:TC):List Operand->List Nat->List PX
 |x::xs,t::ts=>c.x t x::c.args xs ts
 |x::xs,[]=>c.x 0 x::c.args xs []
 |[],_=>[]
def TC.op(c:TC)(h ty:Nat):Op->PO×List PX
 | .move x=>bif N4 x then(bif Nat.beq h 0 then(.mv,[.c (A.sl [])])else(.nilown (c.ty (c.el ty)).n (c.z 0 (c.el ty)),[.c (A.full [])]))else(.mv,[c.x ty x])
 | .assign x=>bif N4 x then(bif Nat.beq h 0 then(.mv,[.c (A.sl [])])else(.nilown (c.ty (c.el ty)).n (c.z 0 (c.el ty)),[.c (A.full [])]))else(.mv,[c.x ty x])
 | .pick a x y=>(.pick,[c.x 0 a,c.x 0 x,c.x 0 y])
 | .box t x=>(.box (c.ty t).n,[c.x t x])
 | .alloc t=>(.alloc (c.ty t).n (c.z h t),[])
 | .build t O=>(.build (c.z h t) (O.toList.map λ p=>match(c.ty t).k with
   | .st H=>((H.getD p.1 (0,0)).1,(c.ty (H.getD p.1 (0,0)).2).n)
   |_=>(p.1*(c.ty (c.el t)).n,(c.ty (c.el t)).n)),O.toList.map λ p=>match(c.ty t).k with
   | .st H=>c.x (H.getD p.1 (0,0)).2 p.2
   |_=>c.x (c.el t) p.2)
 | .buildSlice t _ O=>(bif Nat.beq h 0 then .bslice (c.ty (c.el t)).n (c.z 0 (c.el t))else .bown (c.ty (c.el t)).n (c.z 0 (c.el t)),O.toList.map λ p=>c.x (c.el t) p.2)
 | .load t x=>(.load (c.ty t).n (c.ag t),[c.x 0 x])
 | .store t x y=>(.store (c.ty t).n,[c.x 0 x,bif N4 y then .c (A.sl [])else c.x t y])
 | .binOp U t x y _=>c.bo U t x y
 | .unOp .neg _ x=>(.neg,[c.x 0 x])
 | .unOp _ _ x=>(.not,[c.x 0 x])
 | .convert t u x=>(match(c.ty t).k,(c.ty u).k with
  | .sl _,.s=>.cvS
  | .s,.sl _=>.cvB
  |_,.i k=>.conv k
  |_,_=>.mv,[c.x 0 x])
 | .field t x i=>(match(c.ty t).k with
  | .st H=>.field (H.getD i (0,0)).1 (c.ty (H.getD i (0,0)).2).n (c.ag (H.getD i (0,0)).2)
  |_=>.mv,[c.x 0 x])
 | .fieldAddr t x i=>(match(c.ty t).k with
  | .st H=>.faddr (H.getD i (0,0)).1
  |_=>.mv,[c.x 0 x])
 | .indexAddr t x i=>(match(c.ty t).k with
  | .ar n e=>.iaA n (c.ty e).n
  |_=>.iaS (c.ty (c.el t)).n (c.z 0 (c.el t)),[c.x 0 x,c.x 0 i])
 | .index t x i=>(match(c.ty t).k with
  | .ar n e=>.idxA n (c.ty e).n (c.ag e)
  |_=>.idxS,[c.x t x,c.x 0 i])
 | .slice t x l u m=>(match(c.ty t).k with
  | .s=>.slcS l.isSome u.isSome
  |_=>.slc (c.ty (c.el t)).n l.isSome u.isSome m.isSome,c.x 0 x::(l.toList++u.toList++m.toList).map (c.x 0))
 | .extract x i=>(.ext i,[c.x 0 x])
 | .nilCheck x=>(.nilck,[c.x 0 x])
 | .range t x=>(.rng,[c.x 0 x])
 | .next x _=>(.next (c.md h),[c.x 0 x])
 | .entry x=>(.entry (c.md h),[c.x 0 x])
 | .makeMap t _=>(.mkmap [c.kz t,.bool (c.ag (c.me t))],[])
 | .lookup t x i ok=>(.lkp ok (c.ag (c.me t)) (c.kz t) (c.z 0 (c.me t)),[c.x 0 x,c.x (c.mt t) i])
 | .insert t x i y=>(.mupd (c.kz t) (c.ag (c.me t)) (c.ty (c.me t)).n,[c.x 0 x,c.x (c.mt t) i,c.x (c.me t) y])
 | .mapUpdate t x i y=>(.mupd (c.kz t) (c.ag (c.me t)) (c.ty (c.me t)).n,[c.x 0 x,c.x (c.mt t) i,c.x (c.me t) y])
 | .makeSlice t x y=>(.mk (c.ty (c.el t)).n (c.ty (c.el t)).y (c.z 0 (c.el t)),[c.x 0 x,c.x 0 y])
 | .makeFunc (.func f) bs xs=>(match bs.toList with|[]=>(.mkf f,xs.toList.map (c.x 0))|b::_=>(.mkb f,[c.x 0 b]))
 | .call ⟨.builtin b,xs,ts⟩=>(match b,ts.toList with
  | .len,[t]=>(match(c.ty t).k with|.s=>.lenS|.mp _ _=>.lenM|_=>.len)
  | .append,t::_=>(match h with
   |0=>.append (c.ty (c.el t)).n (c.ty (c.el t)).y (c.z 0 (c.el t))
   |1=>.appc (c.ty (c.el t)).n (c.ty (c.el t)).y
   |_=>.apl (c.ty (c.el t)).n (c.ty (c.el t)).y)
  | .copy,t::_=>.copy (c.ty (c.el t)).n
  | .clear,t::_=>.clear (c.ty (c.el t)).n (c.z 0 (c.el t))
  | .min,_=>.min
  | .max,_=>.max
  |_,_=>.mv,xs.toList.map (c.x 0))
 | .call ⟨.value (.func f),xs,ts⟩=>(match lk c.m f none,h with
  |none,0=>.call f
  |none,_=>.callm f
  |some _,0=>.callm f
  |some _,_=>.call f,c.args xs.toList ts.toList)
 | .call ⟨.value x,xs,_⟩=>(match h with|0=>.callv|2=>.callb|_=>.callvm,c.x 0 x::xs.toList.map (c.x 0))
 |_=>(.mv,[])
def opTs:List Operand->List Nat
 |[]=>[]
 | .tmp n::r=>n::opTs r
 |_::r=>opTs r
def gTs(H:List Oper):Option (Nat×Bool)->List Nat
 |none=>[]
 |some q=>match(H[q.1]?).bind (·.dst)with
  |some d=>[d]
  |none=>[]
def N5(H:List Oper):List Oper->List Nat
 |[]=>[]
 |o::r=>opTs o.op.operands.toList++gTs H o.guard++N5 H r
def bits:List Nat->Nat
 |[]=>0
 |t::r=>Nat.lor (Nat.shiftLeft 1 t) (bits r)
def S0(m:Nat)(a:Nat×Nat):Nat×Nat:=match a with
 |(s,u)=>(Nat.lor s m,Nat.lor u (Nat.land s m))
def Ax:Code->Nat×Nat->Nat×Nat
 | .region _ ops _,a=>S0 (bits (N5 ops.toList ops.toList)) a
 | .seq x y,a=>Ax y (Ax x a)
 | .cond x y z,a=>Ax z (Ax y (S0 (bits (opTs [x])) a))
 | .block _ x,a=>Ax x a
 | .loop x,a=>Ax x a
 | .scope x,a=>Ax x a
 |_,a=>a
def resU:List ResultVar->List Nat
 |[]=>[]
 | .tmp t::r=>t::resU r
 | .cell t _::r=>t::resU r
def G6(f:Func):Nat×Nat:=match f.body with
 |some b=>Ax b (0,bits (resU f.results.toList))
 |none=>(0,0)
def has(m t:Nat):Bool:=Nat.beq (Nat.land (Nat.shiftRight m t) 1) 1
def Ei(s u m:Nat):List Oper->List Nat
 |[]=>[]
 |o::r=>match o.dst with
  |none=>Ei s u m r
  |some t=>bif has u t then Ei s u m r else bif has m t then t::Ei s u m r else bif has s t then Ei s u m r else t::Ei s u m r
def N6(s u:Nat)(H:List Oper):List Nat:=Ei s u (bits (N5 H H)) H
def PO.wr:PO->Bool
 | .nilown _ _|.box _|.alloc _ _|.bown _ _|.store _|.append _ _ _|.appc _ _|.copy _| .clear _ _|.mkmap _|.mupd _ _ _|.rng|.next _|.entry _|.mk _ _ _|.callm _|.callvm=>true
 |_=>false
def S1:List Oper->Bool
 |[]=>false
 |o::r=>match o.op with
  | .panic _=>true
  |_=>S1 r
def gOf(H:List Oper):Option (Nat×Bool)->Option (Nat×Bool)
 |none=>none
 |some q=>some (((H[q.1]?).bind (·.dst)).getD 0,q.2)
def TC.ops(c:TC)(H:List (Nat×Nat))(all:List Oper):List Oper->List POp
 |[]=>[]
 |o::r=>(match c.op (match o.dst with|some d=>lk H d 0|none=>0) o.type o.op with
  |(p,xs)=>⟨o.dst,gOf all o.guard,p,xs⟩)::c.ops H all r
def wrs:List POp->Bool
 |[]=>false
 |p::r=>bif p.po.wr then true else wrs r
def TC.code(c:TC)(O:List (Nat×Nat))(s u:Nat):Code->PC
 | .skip=>.skip
 | .region id H d=>bif S1 H.toList then .dead else
   match d with
   |false=>.reg (N6 s u H.toList) (c.ops O H.toList H.toList)
   |true=>bif wrs (c.ops O H.toList H.toList)||(Nat.beq (lk O (1000+id) 0) 1)then .regm (N6 s u H.toList) (ancs [] (H.toList.map pV)) (c.ops O H.toList H.toList)else .regd (N6 s u H.toList) (c.ops O H.toList H.toList)
 | .seq a b=>.seq (c.code O s u a) (c.code O s u b)
 | .cond x a b=>.cond (c.x 0 x) (c.code O s u a) (c.code O s u b)
 | .block i a=>.block i (c.code O s u a)
 | .loop a=>.loop (c.code O s u a)
 | .exit i=>.exit i
 | .scope a=>.scope (c.code O s u a)
 | .label _=>.label
 | .ret=>.ret
 |_=>.skip
def TC.rx(c:TC):List ResultVar->List RX
 |[]=>[]
 | .tmp t::r=>.t t::c.rx r
 | .cell t y::r=>.c t (c.ty y).n (c.ag y)::c.rx r
def TC.tr(c:TC)(H:List (Nat×Nat))(s u:Nat)(f:Func):PC×Nat×List RX×Nat:=
 (match f.body with
  |some b=>c.code H s u b
  |none=>.skip,f.ntmps,c.rx f.results.toList,Nat.add f.params.size f.nfree)
def cst(z:Nat->Nat->List A)(t:Nat):Value->A
 | .bool b=>.bool b
 | .int k n=>.int k n
 | .string s=>.str s
 | .slice _ _ _=>.full []
 | .agg _=>.agg (z 0 t)
 |_=>.any
def kon(z:Nat->Nat->List A){o:Operand}(t:Nat):PX:=match o with
 | .const v=>.c (cst z t v)
 |_=>.c .any
attribute [go_sem] kon cst
def nL:Arr ByteArray 16:=⟨[⟨#[]⟩,⟨#[80,71,65,89]⟩,⟨#[80,71,97]⟩,⟨#[80,71,97,68]⟩,⟨#[80,71,65]⟩,⟨#[83,73]⟩,⟨#[82]⟩,⟨#[82,78,79]⟩,⟨#[82]⟩,⟨#[82,76]⟩,⟨#[82,69,80,71,66]⟩,⟨#[82,80,68]⟩,⟨#[69,83]⟩,⟨#[69]⟩,⟨#[69]⟩,⟨#[69]⟩],rfl⟩
def Ka:Arr (Arr Bool 5) 5:=⟨[⟨[true,true,true,true,false],rfl⟩,⟨[true,true,false,false,false],rfl⟩,⟨[true,false,true,false,false],rfl⟩,⟨[true,false,false,false,false],rfl⟩,⟨[false,false,false,false,false],rfl⟩],rfl⟩
noncomputable def C:Cx:=⟨Tryz.prog,[(0,Arr.enc eS nL),(1,Arr.enc (Arr.enc eB) Ka)]⟩
@[go_sem] theorem C_G:C.G=[(0,Arr.enc eS nL),(1,Arr.enc (Arr.enc eB) Ka)]:=rfl
def oS:C.P.follows .mixedOrders=true:=by kernel_rfl
def cT:List (Nat×TI):=[(0,⟨.o,1,0⟩),(3,⟨.i .i64,1,8⟩),(4,⟨.b,1,1⟩),(5,⟨.i .u8,1,1⟩),(9,⟨.s,1,16⟩),(20,⟨.o,1,16⟩),(22,⟨.sl 3,1,24⟩),(23,⟨.sl 5,1,24⟩),(27,⟨.st [(0,3),(1,3),(2,3)],3,24⟩),(29,⟨.st [(0,3),(1,3)],2,16⟩),(31,⟨.st [(0,9),(1,29)],3,32⟩),(32,⟨.sl 147,1,24⟩),(33,⟨.sl 118,1,24⟩),(35,⟨.st [(0,32),(1,33)],2,48⟩),(36,⟨.sl 96,1,24⟩),(38,⟨.st [(0,3),(1,27),(4,3),(5,31),(8,3),(9,3),(10,3),(11,3),(12,3),(13,3),(14,4),(15,35),(17,36)],18,200⟩),(40,⟨.o,1,8⟩),(42,⟨.st [(0,22),(1,3)],2,32⟩),(43,⟨.i .i64,1,8⟩),(44,⟨.o,1,0⟩),(47,⟨.o,1,0⟩),(54,⟨.sl 59,1,24⟩),(55,⟨.sl 105,1,24⟩),(56,⟨.o,1,0⟩),(59,⟨.st [(0,9),(1,3),(2,3),(3,3)],4,40⟩),(63,⟨.sl 116,1,24⟩),(65,⟨.st [(0,3),(1,32),(2,63)],3,56⟩),(74,⟨.o,1,8⟩),(76,⟨.st [(0,23),(1,43)],2,32⟩),(78,⟨.i .u64,1,8⟩),(80,⟨.mp 5 85,1,8⟩),(82,⟨.ar 16 9,16,256⟩),(83,⟨.o,1,8⟩),(85,⟨.st [(0,83),(1,3),(2,3),(3,3)],4,32⟩),(86,⟨.o,1,0⟩),(88,⟨.o,1,8⟩),(89,⟨.o,1,8⟩),(94,⟨.sl 31,1,24⟩),(96,⟨.st [(0,27),(3,3),(4,3),(5,94)],6,64⟩),(97,⟨.o,1,8⟩),(99,⟨.sl 101,1,24⟩),(101,⟨.st [(0,3),(1,31),(4,99)],5,64⟩),(103,⟨.st [(0,101),(5,3),(6,3)],7,80⟩),(105,⟨.st [(0,3),(1,27),(4,103),(11,9),(12,3)],13,136⟩),(107,⟨.o,1,0⟩),(111,⟨.sl 217,1,24⟩),(112,⟨.sl 169,1,24⟩),(114,⟨.st [(0,111),(1,112)],2,48⟩),(116,⟨.st [(0,27),(3,3),(4,114),(6,4),(7,103),(14,3),(15,3)],16,184⟩),(118,⟨.st [(0,27),(3,101),(8,3)],9,96⟩),(119,⟨.sl 27,1,24⟩),(120,⟨.o,1,0⟩),(134,⟨.o,1,0⟩),(141,⟨.o,1,8⟩),(144,⟨.sl 177,1,24⟩),(145,⟨.sl 179,1,24⟩),(147,⟨.st [(0,59),(4,144),(5,145),(6,145),(7,3)],8,120⟩),(148,⟨.o,1,8⟩),(150,⟨.sl 9,1,24⟩),(152,⟨.o,1,0⟩),(154,⟨.sl 313,1,24⟩),(155,⟨.o,1,0⟩),(161,⟨.o,1,8⟩),(166,⟨.o,1,0⟩),(169,⟨.st [(0,3),(1,3)],2,16⟩),(171,⟨.i .u64,1,8⟩),(177,⟨.st [(0,27),(3,29)],5,40⟩),(179,⟨.st [(0,27),(3,29),(5,3),(6,3)],7,56⟩),(181,⟨.o,1,0⟩),(183,⟨.o,1,0⟩),(185,⟨.o,1,0⟩),(187,⟨.o,1,0⟩),(189,⟨.o,1,8⟩),(193,⟨.o,1,8⟩),(196,⟨.st [(0,65),(3,154)],4,80⟩),(208,⟨.sl 4,1,24⟩),(214,⟨.o,1,0⟩),(217,⟨.st [(0,9),(1,29),(3,29)],5,48⟩),(223,⟨.ar 3 3,3,24⟩),(228,⟨.o,1,0⟩),(230,⟨.o,1,8⟩),(232,⟨.st [(0,23),(1,43)],2,32⟩),(234,⟨.st [(0,232)],2,32⟩),(237,⟨.o,1,8⟩),(239,⟨.st [(0,23),(1,3),(2,43)],3,40⟩),(244,⟨.o,1,8⟩),(254,⟨.o,1,0⟩),(260,⟨.o,1,0⟩),(266,⟨.o,1,0⟩),(271,⟨.o,1,0⟩),(277,⟨.o,1,8⟩),(280,⟨.o,1,8⟩),(283,⟨.o,1,0⟩),(290,⟨.o,1,0⟩),(292,⟨.o,1,0⟩),(296,⟨.o,1,0⟩),(299,⟨.o,1,0⟩),(303,⟨.o,1,0⟩),(306,⟨.o,1,0⟩),(313,⟨.st [(0,3),(1,27),(4,9),(5,29)],7,64⟩),(320,⟨.sl 29,1,24⟩),(325,⟨.o,1,0⟩),(339,⟨.ar 6 4,6,6⟩),(346,⟨.ar 5 4,5,5⟩),(347,⟨.ar 5 346,25,25⟩),(349,⟨.sl 145,1,24⟩)]
@[irreducible] def cZ:Nat->Nat->List A
 |0,3=>[A.int .i64 0]
 |0,4=>[A.bool false]
 |0,5=>[A.int .u8 0]
 |0,9=>[A.str ⟨#[]⟩]
 |0,22=>[A.sl []]
 |0,23=>[A.sl []]
 |0,27=>aK.enc aK.zero
 |0,29=>aC.enc aC.zero
 |0,31=>aO.enc aO.zero
 |0,32=>[A.sl []]
 |0,33=>[A.sl []]
 |0,35=>aH.enc aH.zero
 |0,36=>[A.sl []]
 |0,38=>aL.enc aL.zero
 |0,42=>bM.enc bM.zero
 |0,43=>[A.int .i64 0]
 |0,54=>[A.sl []]
 |0,55=>[A.sl []]
 |0,59=>aJ.enc aJ.zero
 |0,63=>[A.sl []]
 |0,65=>bF.enc bF.zero
 |0,76=>aT.enc aT.zero
 |0,78=>[A.int .u64 0]
 |0,85=>bL.enc bL.zero
 |0,94=>[A.sl []]
 |0,96=>aP.enc aP.zero
 |0,99=>[A.sl []]
 |0,101=>aR.enc aR.zero
 |0,103=>bP.enc bP.zero
 |0,105=>bQ.enc bQ.zero
 |0,111=>[A.sl []]
 |0,112=>[A.sl []]
 |0,114=>bB.enc bB.zero
 |0,116=>aG.enc aG.zero
 |0,118=>bR.enc bR.zero
 |0,119=>[A.sl []]
 |0,144=>[A.sl []]
 |0,145=>[A.sl []]
 |0,147=>aA.enc aA.zero
 |0,150=>[A.sl []]
 |0,154=>[A.sl []]
 |0,169=>bV.enc bV.zero
 |0,171=>[A.int .u64 0]
 |0,177=>bA.enc bA.zero
 |0,179=>aV.enc aV.zero
 |0,196=>bD.enc bD.zero
 |0,208=>[A.sl []]
 |0,217=>bO.enc bO.zero
 |0,223=>Arr.enc (eI .i64) (Arr.rep 3 0)
 |0,232=>bT.enc bT.zero
 |0,234=>aX.enc aX.zero
 |0,239=>bW.enc bW.zero
 |0,313=>bN.enc bN.zero
 |0,320=>[A.sl []]
 |0,339=>Arr.enc eB (Arr.rep 6 false)
 |0,346=>Arr.enc eB (Arr.rep 5 false)
 |0,349=>[A.sl []]
 |2,114=>[.sl [],.sl []]
 |3,94=>[.full []]
 |4,35=>[.sl [],.full []]
 |5,35=>[.full [],.full []]
 |5,114=>[.full [],.full []]
 |14,196=>[.int .i64 0,.sl [],.full [],.full []]
 |18,101=>[.int .i64 0,.str ⟨#[]⟩,.int .i64 0,.int .i64 0,.full []]
 |34,96=>[.int .i64 0,.int .i64 0,.int .i64 0,.int .i64 0,.int .i64 0,.full []]
 |114,147=>[.str ⟨#[]⟩,.int .i64 0,.int .i64 0,.int .i64 0,.full [],.full [],.full [],.int .i64 0]
 |_,_=>[A.any]
attribute [go_sem] cZ
def cM:List (Nat×Option Unit):=[(8,some ()),(17,some ()),(29,some ()),(31,some ()),(32,some ()),(33,some ()),(36,some ()),(40,some ()),(41,some ()),(42,some ()),(49,some ()),(50,some ()),(58,some ()),(62,some ()),(71,some ()),(72,some ()),(73,some ()),(74,some ()),(75,some ()),(80,some ()),(82,some ()),(85,some ()),(87,some ()),(105,some ()),(130,some ()),(132,some ()),(133,some ()),(160,some ()),(163,some ()),(164,some ()),(165,some ()),(166,some ()),(167,some ()),(168,some ()),(169,some ()),(170,some ()),(174,some ()),(176,some ()),(184,some ()),(186,some ()),(187,some ()),(188,some ()),(189,some ()),(190,some ()),(191,some ()),(192,some ()),(194,some ()),(195,some ()),(196,some ()),(216,some ()),(217,some ()),(218,some ()),(219,some ()),(222,some ()),(226,some ()),(227,some ()),(229,some ()),(230,some ()),(231,some ()),(233,some ()),(254,some ()),(256,some ()),(258,some ()),(259,some ()),(275,some ()),(312,some ())]
class OkP {α:Type} (m:Option α) (f:outParam FuncId) (av:outParam (List A)) (R:outParam (α->A)):Prop where
  ok:∀r,m=some r->PFn C f av (R r)
class OkM {α:Type} (m:Option α) (f:outParam FuncId) (av:outParam (List A)) (ms:outParam (List (Nat×Row))) (k:outParam Nat) (R:outParam (α->A)) (ms':outParam (α->List (Nat×Row))) (k':outParam Nat):Prop where
  ok:∀r,m=some r->MFn C f av ms k (R r) (ms' r) k'
class OkT (f:FuncId) (av:List A) (r:outParam A):Prop where
  ok:PFn C f av r
class OkL {α β:Type} (m:Option (α⊕β)) (f:outParam FuncId) (av:outParam (List A)) (ms:outParam (List (Nat×Row))) (k:outParam Nat) (R:outParam (α->A)) (ms':outParam (α->List (Nat×Row))) (k':outParam Nat):Prop where
  ok:∀r,m=some (.inl r)->MFn C f av ms k (R r) (ms' r) k'
class OkR {α β:Type} (m:Option (α⊕β)) (f:outParam FuncId) (av:outParam (List A)) (ms:outParam (List (Nat×Row))) (k:outParam Nat) (R:outParam (β->A)) (ms':outParam (β->List (Nat×Row))) (k':outParam Nat):Prop where
  ok:∀r,m=some (.inr r)->MFn C f av ms k (R r) (ms' r) k'
def Ay{T:Type}{P:T->Prop}{fr:Nat->T}(H:P (fr 0))(O:∀n,P (fr n)->P (fr (n+1))):∀n,P (fr n)
  |0=>H
  |n+1=>O n (Ay H O n)
def Mk{α:Type}(x:α):Prop:=True
def mkP{α β:Type}{x:α}(hm:Mk x)(v:β):Mk (x,v):=trivial
class JS {α:Type} (x:α) (id:Nat) {γ:outParam Type} {V:outParam Type} (k k':outParam (V->γ)) (J:outParam (V->St)):Prop where
  e:∀v,k v=k' v
class LS {α G X:Type} (x:α) (b:G->Option (G⊕X)) (b':outParam (G->Option (G⊕X))) (I:outParam (G->St)):Prop where
  e:∀v,b v=b' v
theorem mkJ{α:Type}(x:α)(id:Nat){γ V:Type}{k k':V->γ}(e:∀v,k v=k' v)(J:V->St):JS x id k k' J:=⟨e⟩
theorem mkL{α G X:Type}(x:α){b H:G->Option (G⊕X)}(e:∀v,b v=H v)(I:G->St):LS x b H I:=⟨e⟩
def MFn.unfull1{f:FuncId}{es:List (List A)}{H:List A}{ms:List (Nat×Row)}{k:Nat}{r:A}{ms':List (Nat×Row)}{k':Nat}(h:MFn C f (.sl es::H) ms k r ms' k'):MFn C f (.full es::H) ms k r ms' k':=by
  intro w W μ vs hg hW hl ha hm hi;refine h w W μ vs hg hW hl (λ i v a hv hx=>?_) hm hi;cases i with
  |succ i=>exact ha (i+1) v a hv hx
  |zero=>
    simp only[List.getElem?_cons_zero,cY]at hx;subst hx;have O:RepC w W v (.full es):=ha 0 v (.full es) hv rfl;cases O with
    |full a n es U=>exact U
def prA:A->A->List (Nat×Nat)
  | .ptr x _ _,.ptr y _ _=>[(y,x)]
  | .own x _ _,.own y _ _=>[(y,x)]
  |_,_=>[]
def prC:List A->List A->List (Nat×Nat)
  |a::r,b::s=>prA a b++prC r s
  |_,_=>[]
def prE:List (List A)->List (List A)->List (Nat×Nat)
  |a::r,b::s=>prC a b++prE r s
  |_,_=>[]
def prS(s:List (Nat×A)):List (Nat×A)->List (Nat×Nat)
  |[]=>[]
  |q::r=>(match look s q.1 with|some b=>prA b q.2|none=>[])++prS s r
def prM(m:List (Nat×Row))(l:List (Nat×Nat)):List (Nat×Row)->List (Nat×Nat)
  |[]=>[]
  |q::r=>(match look l q.1 with|some x=>(match look m x with|some w=>prE w.es q.2.es|none=>[])|none=>[])++prM m l r
def ptS(s:List (Nat×A)):List (Nat×A)->List (Nat×Nat)
  |[]=>[]
  |q::r=>(match q.2,look s q.1 with|.ptr y _ _,some (.ptr x _ _)=>[(y,x)]|_,_=>[])++ptS s r
def idL:Nat->List (Nat×Nat)
  |0=>[]
  |n+1=>idL n++[(n,n)]
def rl(k:Nat)(b:Bool)(s J:St):List (Nat×Nat):=idL k++prS s.fr J.fr++if b then prM s.mem (idL k++ptS s.fr J.fr) J.mem else[]
def ptC:List A->List A->List (Nat×Nat)
  | .ptr x _ _::r,.ptr y _ _::s=>(y,x)::ptC r s
  |_::r,_::s=>ptC r s
  |_,_=>[]
def cl(b:Bool)(H av:List A)(m ms:List (Nat×Row)):List (Nat×Nat):=prC H av++if b then prM m (ptC H av) ms else[]
def lv{p:Prop}(w:p:=by
  (simp only[go_sem,↓reduceIte,reduceCtorEq,Nat.reduceEqDiff,Nat.reduceAdd,Nat.reduceSub,Nat.reduceMul,Nat.reduceLeDiff,Nat.reduceLT,Int.reduceLE,Int.reduceLT,Int.reduceToNat,Int.reduceNeg]
   first
   |(done)
   |trivial
   |(simp;done)
   |((repeat'(first|rfl|trivial|omega|(simp;done)|(simp;omega)|(congr 1;omega)|(congr 1;simp only[cC,dD,dS,iH];omega)|apply And.intro))<;>fail))):p:=w
section
variable {E:Env} {Q:Exit→St→Prop} {st:St} {q:Prop}
def isAW{c:PC}(h:AW C E c Q st):AW C E c Q st:=h
def S2{f:FuncId}{d:Option Nat}{g:Option (Nat×Bool)}{H:Bool}{O:Prop}{args:List A}{rw:List (Nat×MS)}{ps:List POp}{st:St}{K:St->Prop}(h:yF C f d g H O args rw ps st K):yF C f d g H O args rw ps st K:=h
def S3{f:FuncId}{d:Option Nat}{g:Option (Nat×Bool)}{H:Bool}{O:Prop}{args:List A}{rw:List (Nat×MS)}{ps:List POp}{st:St}{K:St->Prop}(h:yG C f d g H O args rw ps st K):yG C f d g H O args rw ps st K:=h
def yK{α γ V:Type}{x:α}{id:Nat}{k k':V->γ}{J:V->St}{R:γ}{c:PC}{m:γ}(hm:Mk x)(h:m=R)[i:JS x id k k' J]
    (H:∀v,Mk (k v)->k' v=R->Q .normal (J v)) (hb:AW C E c (BlkJ E id J (λ v=>k v=R) Q) st):AW C E (.block id c) Q st:=
  qA J _ (λ v e=>H v trivial (by rw[<-i.e];exact e)) hb
def S4{α γ V:Type}{z:α}{k k':V->γ}{J:V->St}{x:PX}{p q:PC}{b c:Bool}{X Y r:γ}(hm:Mk z)(hx:xv C.G st.slot x=.bool b)(hG:E.G=C.G)(h:(if c=true then X else Y)=r)[i:JS z 999 k k' J]
    (H:∀v,Mk (k v)->k' v=r->Q .normal (J v)) (ht:b=true->X=r->AW C E p (yJ E J (λ v=>k v=r) Q) st) (O:b=false->Y=r->AW C E q (yJ E J (λ v=>k v=r) Q) st) (e:b=c:=by first|rfl|(simp;done)|grind):AW C E (.cond x p q) Q st:=
  rV J _ hx hG h (λ v e=>H v trivial (by rw[<-i.e];exact e)) ht O e
def S5{α:Type}{x:α}{c:PC}{G X β:Type}{body H:G->Option (G⊕X)}{I:G->St}{O:G}{kk:X->Option β}{r:β}{k:Nat}{l:List (Nat×Nat)}(hm:Mk x)(hK:E.k0=k)(h:(mF body O).bind kk=some r)[i:LS x body H I]
    (hb:∀g y,Mk (body g)->(∀U,y=.inr U->Mk x/\kk U=some r)->H g=some y->AW C E c (Aw E I y Q) (I g))
    (b:Bool) (hl:rl k b st (I O)=l:=by((conv=>lhs;reduce)<;>exact rfl))
    (Y:Le l st (I O)/\rT k l (I O).nx=true:=by exact lv):AW C E (.loop c) Q st:=by
  obtain⟨x,hx,B⟩:=mG h;refine N1 I hK _ hx Y λ g y hy F=>hb g y trivial (λ U e=>⟨hm,?_⟩) (by rw[<-i.e];exact hy);rw[F U e];exact B
def S6{α:Type}{x:α}{c:PC}{G X β:Type}{body H:G->Option (G⊕X)}{I:G->St}{U:G}{kk:X->Option β}{r:β}{k:Nat}(hm:Mk x)(hK:E.k0=k)(l:List (Nat×Nat))(h:(mF body U).bind kk=some r)[i:LS x body H I]
    (hb:∀g y,Mk (body g)->(∀O,y=.inr O->Mk x/\kk O=some r)->H g=some y->AW C E c (Aw E I y Q) (I g))
    (Y:Le l st (I U)/\rT k l (I U).nx=true:=by exact lv):AW C E (.loop c) Q st:=by
  obtain⟨x,hx,B⟩:=mG h;refine N1 I hK l hx Y λ g y hy F=>hb g y trivial (λ O e=>⟨hm,?_⟩) (by rw[<-i.e];exact hy);rw[F O e];exact B
def S7{V γ:Type}{J:V->St}{k:V->γ}{R:γ}{s:St}{n:Nat}{v:V}{l:List (Nat×Nat)}(hK:E.k0=n)(h:k v=R)
    (b:Bool) (hl:rl n b s (J v)=l:=by((conv=>lhs;reduce)<;>exact rfl))
    (H:Le l s (J v)/\rT n l (J v).nx=true:=by exact lv):uN E J (λ v=>k v=R) s:=SK hK v h _ H
def S8{G X:Type}{I:G->St}{H:G}{y:G⊕X}{s:St}{k:Nat}{l:List (Nat×Nat)}(hK:E.k0=k)(h:some (.inl H)=some y)
    (b:Bool) (hl:rl k b s (I H)=l:=by((conv=>lhs;reduce)<;>exact rfl))
    (O:Le l s (I H)/\rT k l (I H).nx=true:=by exact lv):G3 E I y s:=by
  cases h;exact SM hK _ O
def S9{G X β:Type}{M:Prop}{y:G⊕X}{x:X}{kk:X->Option β}{R:Option β}(kx:∀H,y=.inr H->M/\kk H=R)(h:some (.inr x)=some y):M/\kk x=R:=kx x (dH h).symm
def Kb{α:Type}{x r:α}{k:Nat}{st:St}{rs:List RX}{H:List A}{ms':List (Nat×Row)}{k':Nat}{l:List (Nat×Nat)}(b:Bool)(h:some x=some r)
    (hl:rl k b ⟨pE 0 (resL st rs),st.mem,st.nx⟩ ⟨pE 0 H,ms',k'⟩=l:=by((conv=>lhs;reduce)<;>exact rfl))
    (e:x=r->Aq st rs/\BX H=true/\Le l ⟨pE 0 (resL st rs),st.mem,st.nx⟩ ⟨pE 0 H,ms',k'⟩/\rT k l k'=true:=by(intro e;subst e;exact lv)):i5 k st rs H ms' k':=by
  obtain⟨O,U,Y,B⟩:=e (dH h);exact⟨O,U,l,Y,B⟩
def Ta{k:Nat}{st:St}{rs:List RX}{H:List A}{ms':List (Nat×Row)}{k':Nat}(h:i5 k st rs H ms' k'):i5 k st rs H ms' k':=h
def Tb{U:List (List Nat)}{f:FuncId}{d:Option Nat}{g:Option (Nat×Bool)}{Y:Bool}{B:Prop}{args:List A}{rw:List (Nat×MS)}{ids:List Nat}{H:Bool}{ps:List POp}{st:St}{O:List (List Nat×List Nat)}{K:St->Prop}(h:yH C U f d g Y B args rw ids H ps st O K):yH C U f d g Y B args rw ids H ps st O K:=h
def Tc{f:FuncId}{d:Option Nat}{g:Option (Nat×Bool)}{O:Bool}{U:Prop}{H:List A}{ps:List POp}{st:St}{K:St->Prop}(h:sW C f d g O U H ps st K):sW C f d g O U H ps st K:=h
def Td{Y:List (List Nat)}{f:FuncId}{d:Option Nat}{g:Option (Nat×Bool)}{B:Bool}{F:Prop}{H:List A}{M:List Nat}{O:Bool}{ps:List POp}{st:St}{U:List (List Nat×List Nat)}{K:St->Prop}(h:i8 C Y f d g B F H M O ps st U K):i8 C Y f d g B F H M O ps st U K:=h
def uP{f:FuncId}{d:Option Nat}{F:Prop}{H:List A}{ps:List POp}{st:St}{K:St->Prop}{l U:List (Nat×Nat)}{ids:List Nat}{av:List A}{ms ms':List (Nat×Row)}{k k':Nat}{r:A}(b:Bool)
    (M:MFn C f av ms k r ms' k') (h:q) (hl:cl b H av st.mem ms=l:=by((conv=>lhs;reduce)<;>exact rfl)) (Y:newL k st.nx (k'-k)=U:=by((conv=>lhs;reduce)<;>exact rfl)) (O:ms.map (·.1)++(List.range (k'-k)).map (k+·)=ids:=by((conv=>lhs;reduce)<;>exact rfl))
    (e:Imp q (arun C ps (st.app d (renR (l++U) r) (oK st.m (fzM H av)++pU (l++U) ms' ids)) K):=by exact im)
    (B:okM st.m st.nx l H av ms k k':=by exact lv) (ho:F:=by trivial) (hr:wU r=true:=by rfl):sW C f d none true F H ps st K:=
  mU l U ids M Y O h e B ho hr
def wW{F:List (List Nat)}{f:FuncId}{d:Option Nat}{ob:Prop}{H:List A}{M:List Nat}{Y:Bool}{ps:List POp}{st:St}{O:List (List Nat×List Nat)}{K:St->Prop}{l U:List (Nat×Nat)}{ids:List Nat}{av:List A}{ms ms':List (Nat×Row)}{k k':Nat}{r:A}(b:Bool)
    (hf:MFn C f av ms k r ms' k') (h:q) (hl:cl b H av st.mem ms=l:=by((conv=>lhs;reduce)<;>exact rfl)) (h0:newL k st.nx (k'-k)=U:=by((conv=>lhs;reduce)<;>exact rfl)) (B:ms.map (·.1)++(List.range (k'-k)).map (k+·)=ids:=by((conv=>lhs;reduce)<;>exact rfl))
    (e:Imp q (vO (F.getD O.length []) 0 O M ((oK st.m (fzM H av)++pU (l++U) ms' ids).map (·.1))=true/\Y=true/\rU C F ps (st.app d (renR (l++U) r) (oK st.m (fzM H av)++pU (l++U) ms' ids)) (O++[(M,(oK st.m (fzM H av)++pU (l++U) ms' ids).map (·.1))]) K):=by exact im)
    (x0:okM st.m st.nx l H av ms k k':=by exact lv) (ho:ob:=by trivial) (hr:wU r=true:=by rfl):i8 C F f d none true ob H M Y ps st O K:=
  vQ l U ids hf h0 B h e x0 ho hr
def gogo{p:Prop}(w:p:=by
      (skip
       repeat' first
        | (with_reducible refine isAW ?_
           first
           |(with_reducible obtain⟨_,h⟩:=mM h)
           | (with_reducible obtain⟨hm,h⟩:=S9 kx h
              clear kx
              try dsimp only at h)
           |refine mD ?_
           |refine mN ?_
           |refine oO ?_
           |refine mO ?_
           |refine mE hG ?_
           |refine i9 oS hG ?_
           |refine qJ oS hG ?_
           | (refine S4 hm rfl hG h (λ v hm h=>?_) (λ _ h=>?_) (λ _ h=>?_)
              focus (try refine g_st ?_))
           |(refine mJ rfl hG h (λ _ h=>?_) (λ _ h=>?_))
           |refine BZ rfl hG ?_
           |refine J9 rfl hG ?_
           | (refine yK hm h (λ v hm h=>?_) ?_
              focus (try refine g_st ?_))
           |refine oM ?_
           |(refine S5 hm hK h (λ g y hm kx h=>?_) false;try refine g_st ?_)
           |(refine S5 hm hK h (λ g y hm kx h=>?_) true;try refine g_st ?_))
        | (with_reducible refine S2 ?_
           first
           |(refine nK (λ _=>OkT.ok) ?_)
           | (obtain⟨v,hv,h⟩:=mG h;have hm:=mkP hm v
              repeat(with_reducible obtain⟨_,h⟩:=mM h)
              first
              |refine nK (λ _=>OkP.ok _ hv) ?_
              |refine nK (λ hg=>OkP.ok _ (uM hg hv)) ?_
              |refine nK (λ _=>PFn.unfull (OkP.ok _ hv)) ?_
              |refine nK (λ _=>hrc _ _ hv) ?_
              |refine nK (λ _=>hrc _ _ _ hv) ?_
              |refine nK (λ _=>hrc _ _ _ _ hv) ?_
              |refine nK (λ _=>hrc _ _ _ _ _ hv) ?_))
        | (with_reducible refine S3 ?_
           first
           |(refine wV (λ _=>OkT.ok) ?_)
           | (obtain⟨v,hv,h⟩:=mG h;have hm:=mkP hm v
              repeat(with_reducible obtain⟨_,h⟩:=mM h)
              first
              |refine wV (λ _=>OkP.ok _ hv) ?_
              |refine wV (λ hg=>OkP.ok _ (uM hg hv)) ?_
              |refine wV (λ _=>PFn.unfull (OkP.ok _ hv)) ?_
              |refine wV (λ _=>hrc _ _ hv) ?_
              |refine wV (λ _=>hrc _ _ _ hv) ?_
              |refine wV (λ _=>hrc _ _ _ _ hv) ?_
              |refine wV (λ _=>hrc _ _ _ _ _ hv) ?_))
        | (with_reducible refine Tb ?_
           first
           |(refine sK (λ _=>OkT.ok) ?_)
           | (obtain⟨v,hv,h⟩:=mG h;have hm:=mkP hm v
              repeat(with_reducible obtain⟨_,h⟩:=mM h)
              first
              |refine sK (λ _=>OkP.ok _ hv) ?_
              |refine sK (λ hg=>OkP.ok _ (uM hg hv)) ?_
              |refine sK (λ _=>hrc _ _ hv) ?_
              |refine sK (λ _=>hrc _ _ _ hv) ?_
              |refine sK (λ _=>hrc _ _ _ _ hv) ?_
              |refine sK (λ _=>hrc _ _ _ _ _ hv) ?_))
        | (with_reducible refine Tc ?_
           obtain⟨v,hv,h⟩:=mG h;have hm:=mkP hm v
           repeat(with_reducible obtain⟨_,h⟩:=mM h)
           first
           |refine uP false (OkM.ok _ hv) ?_
           |refine uP true (OkM.ok _ hv) ?_
           |refine uP false (MFn.unfull1 (OkM.ok _ hv)) ?_
           |refine uP false (hrc _ _ hv) ?_
           |refine uP true (hrc _ _ hv) ?_
           |refine uP false (hrc _ _ _ hv) ?_
           |refine uP true (hrc _ _ _ hv) ?_
           |refine uP false (hrc _ _ _ _ hv) ?_
           |refine uP true (hrc _ _ _ _ hv) ?_
           |refine uP false (hrc _ _ _ _ _ hv) ?_
           |refine uP true (hrc _ _ _ _ _ hv) ?_
           | (rcases v with v|v
              all_goals dsimp only at h
              all_goals first
              |refine uP false (OkL.ok _ hv) ?_
              |refine uP false (OkR.ok _ hv) ?_))
        | (with_reducible refine Td ?_
           obtain⟨v,hv,h⟩:=mG h;have hm:=mkP hm v
           repeat(with_reducible obtain⟨_,h⟩:=mM h)
           first
           |refine wW false (OkM.ok _ hv) ?_
           |refine wW true (OkM.ok _ hv) ?_
           |refine wW false (MFn.unfull1 (OkM.ok _ hv)) ?_
           |refine wW false (hrc _ _ hv) ?_
           |refine wW true (hrc _ _ hv) ?_
           |refine wW false (hrc _ _ _ hv) ?_
           |refine wW true (hrc _ _ _ hv) ?_
           |refine wW false (hrc _ _ _ _ hv) ?_
           |refine wW true (hrc _ _ _ _ hv) ?_
           |refine wW false (hrc _ _ _ _ _ hv) ?_
           |refine wW true (hrc _ _ _ _ _ hv) ?_)
        | (with_reducible refine Ta ?_
           first
           |exact Kb false h
           |exact Kb true h
           |exact Kb false (N3 h)
           |exact Kb false (Eh h)
           |(cases h;done))
        |exact S8 hK h false
        |exact S7 hK h false
        |exact S8 hK h true
        |exact S7 hK h true
        | (fail_if_success (with_reducible refine isAW ?_)
           fail_if_success (with_reducible refine S2 ?_)
           fail_if_success (with_reducible refine S3 ?_)
           fail_if_success (with_reducible refine Tb ?_)
           fail_if_success (with_reducible refine Tc ?_)
           fail_if_success (with_reducible refine Td ?_)
           fail_if_success (with_reducible refine Ta ?_)
           fail_if_success (with_reducible refine isJoin ?_)
           fail_if_success (with_reducible refine isNext ?_)
           first
           |exact nU h
           |exact uO h))):p:=w
def oT(F:Func)(M:List (Nat×Nat)){f:FuncId}{av:List A}{r:A}{O:(Nat->Nat->List A)->({o:Operand}->Nat->PX)->PC}{N U:Nat}{rs:List RX}
    (h:∀E:Env,E.G=C.G->E.N=N->E.k0=0->AW C E (O cZ (@kon cZ)) (Post rs r) ⟨pE 0 av,[],0⟩)
    {us B:Nat} (hu:G6 F=(us,B):=by((conv=>lhs;reduce)<;>exact rfl)) (hp:∀(Z:Nat->Nat->List A) (K:{o:Operand}->Nat->PX),TC.tr ⟨cT,cM,Z,@K⟩ M us B F=(O Z @K,N,rs,U):=by(intro Z K;((conv=>lhs;reduce)<;>exact rfl))) (H:chkF C.P f (O cZ (@kon cZ)) N rs U=true:=by kernel_rfl) (Y:av.length=U:=by rfl):PFn C f av r:=NH H Y h
def pF(F:Func)(hs:List (Nat×Nat)){f:FuncId}{av:List A}{ms ms':List (Nat×Row)}{k k':Nat}(rl:List A){U:(Nat->Nat->List A)->({o:Operand}->Nat->PX)->PC}{N Y:Nat}{rs:List RX}
    (h:∀E:Env,E.G=C.G->E.N=N->E.k0=k->AW C E (U cZ (@kon cZ)) (GT k rs rl ms' k') ⟨pE 0 av,ms,k⟩)
    {us ut:Nat} (hu:G6 F=(us,ut):=by((conv=>lhs;reduce)<;>exact rfl)) (hp:∀(Z:Nat->Nat->List A) (K:{o:Operand}->Nat->PX),TC.tr ⟨cT,cM,Z,@K⟩ hs us ut F=(U Z @K,N,rs,Y):=by(intro Z K;((conv=>lhs;reduce)<;>exact rfl))) (H:chkF C.P f (U cZ (@kon cZ)) N rs Y=true:=by kernel_rfl)
    (B:av.length=Y:=by rfl) (M:D9 ms=true:=by rfl) (O:An ms k=true:=by rfl) (h0:rl.length=rs.length:=by rfl):MFn C f av ms k (D7 rl) ms' k':=R8 H B M O h0 h
theorem ok1{α:Type}{m m':Option α}(u:m=m')(F:Func)(M:List (Nat×Nat)){f:FuncId}{av:List A}{R:α->A}{O:(Nat->Nat->List A)->({o:Operand}->Nat->PX)->PC}{N U:Nat}{rs:List RX}{us B:Nat}(hu:G6 F=(us,B):=by((conv=>lhs;reduce)<;>exact rfl))(hp:∀(Z:Nat->Nat->List A) (K:{o:Operand}->Nat->PX),TC.tr ⟨cT,cM,Z,@K⟩ M us B F=(O Z @K,N,rs,U):=by(intro Z K;((conv=>lhs;reduce)<;>exact rfl)))(H:chkF C.P f (O cZ (@kon cZ)) N rs U=true:=by kernel_rfl)
    (w:∀E:Env,∀r,E.G=C.G->E.k0=0->Mk m->m'=some r->AW C E (O cZ (@kon cZ)) (Post rs (R r)) ⟨pE 0 av,[],0⟩:=by
      (intro E r hG hK hm h;exact gogo)) (Y:av.length=U:=by rfl):OkP m f av R:=
  ⟨λ r h=>NH H Y λ E hG _ hK=>w E r hG hK trivial (u▸h)⟩
theorem ok2{α:Type}(R:α->A){m m':α}(u:m=m')(F:Func)(M:List (Nat×Nat)){f:FuncId}{av:List A}{O:(Nat->Nat->List A)->({o:Operand}->Nat->PX)->PC}{N U:Nat}{rs:List RX}{us B:Nat}(hu:G6 F=(us,B):=by((conv=>lhs;reduce)<;>exact rfl))(hp:∀(Z:Nat->Nat->List A) (K:{o:Operand}->Nat->PX),TC.tr ⟨cT,cM,Z,@K⟩ M us B F=(O Z @K,N,rs,U):=by(intro Z K;((conv=>lhs;reduce)<;>exact rfl)))(H:chkF C.P f (O cZ (@kon cZ)) N rs U=true:=by kernel_rfl)
    (w:∀E:Env,∀r,E.G=C.G->E.k0=0->Mk m->m'=r->AW C E (O cZ (@kon cZ)) (Post rs (R r)) ⟨pE 0 av,[],0⟩:=by
      (intro E r hG hK hm h;exact gogo)) (Y:av.length=U:=by rfl):OkT f av (R m):=
  ⟨NH H Y λ E hG _ hK=>w E m hG hK trivial u.symm⟩
theorem okm{α:Type}{m m':Option α}(u:m=m'){f:FuncId}{av:List A}{ms:List (Nat×Row)}{k k':Nat}(U:α->List A){ms':α->List (Nat×Row)}(F:Func)(hs:List (Nat×Nat)){Y:(Nat->Nat->List A)->({o:Operand}->Nat->PX)->PC}{N B:Nat}{rs:List RX}{us ut:Nat}(hu:G6 F=(us,ut):=by((conv=>lhs;reduce)<;>exact rfl))(hp:∀(Z:Nat->Nat->List A) (K:{o:Operand}->Nat->PX),TC.tr ⟨cT,cM,Z,@K⟩ hs us ut F=(Y Z @K,N,rs,B):=by(intro Z K;((conv=>lhs;reduce)<;>exact rfl)))(H:chkF C.P f (Y cZ (@kon cZ)) N rs B=true:=by kernel_rfl)
    (w:∀E:Env,∀r,E.G=C.G->E.k0=k->Mk m->m'=some r->AW C E (Y cZ (@kon cZ)) (GT k rs (U r) (ms' r) k') ⟨pE 0 av,ms,k⟩:=by
      (intro E r hG hK hm h;exact gogo))
    (M:av.length=B:=by rfl) (h0:D9 ms=true:=by rfl) (O:An ms k=true:=by rfl) (x0:∀r,(U r).length=rs.length:=by(intro r;rfl)):OkM m f av ms k (λ r=>D7 (U r)) ms' k':=
  ⟨λ r h=>R8 (rl:=U r) H M h0 O (x0 r) λ E hG _ hK=>w E r hG hK trivial (u▸h)⟩
end
end Ab
end Go.Proofs.YtfmnjkfhahfhgaaGreatDoor
