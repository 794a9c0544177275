import Derived.Test.YtfmnjkfhahfhgaaGreatDoorTy
namespace Go.Proofs.YtfmnjkfhahfhgaaGreatDoor
namespace Ab
set_option linter.defProp false
set_option linter.unusedSimpArgs false
set_option linter.unusedVariables false
def sX:A->List Nat
 | .own x _ _=>[x]
 | .ptr x _ _=>[x]
 | .mp x=>[x]
 | .it x=>[x]
 |_=>[]
def uZ:A->List Nat
 | .clo _ H=>H.flatMap sX
 |a=>sX a
def idsA:A->List Nat
 | .agg H=>if mK H then[]else H.flatMap uZ
 | .bnd _ H=>if mK H then[]else H.flatMap uZ
 |a=>uZ a
def pT:List A->List Nat
 |[]=>[]
 |x::xs=>idsA x++pT xs
def idsP:PO->List A->List Nat
 | .mv,_=>[]
 |_,vs=>pT vs
def disj:List Nat->List Nat->Bool
 |[],_=>true
 |x::xs,ys=>!ys.contains x&&disj xs ys
def vA(H:List Nat)(i:Nat):List (List Nat×List Nat)->List Nat->List Nat->Bool
 |[],_,_=>true
 |q::log,r,w=>(H.contains i||(disj q.2 r&&disj q.2 w&&disj w q.1))&&vA H (i+1) log r w
def A.flatCap:A->Bool
 | .agg _=>false
 | .clo _ H=>H.isEmpty
 | .bnd _ _=>false
 |_=>true
def FN:List A->Bool
 |[]=>true
 |c::cs=>c.flatCap&&FN cs
def xI:List A->Bool
 | .clo _ caps::_=>FN caps
 |_=>true
def Rh:∀{H:List A},FN H=true->∀c∈H,idsA c=sX c
 |d::ds,h,c,hc=>by
  simp only[FN,bY]at h;rcases cL.1 hc with rfl|hc
  .cases c<;>first|rfl|(simp[A.flatCap]at h;done)|skip
   rename_i f H;cases H with
   |nil=>rfl
   |cons x O=>simp[A.flatCap]at h
  .exact Rh h.2 c hc
def rM(C:Cx)(O:List (List Nat)):List POp->St->List (List Nat×List Nat)->(St->Prop)->Prop
 |[],st,_,K=>K st
 |p::ps,st,log,K=>aopS C p st.toS st.nx λ v H=>vA (O.getD log.length []) 0 log (idsP p.po (mV C st p.xs)) (H.map (·.1))=true/\xI (mV C st p.xs)=true/\
   rM C O ps (st.app p.dst v H) (log++[(idsP p.po (mV C st p.xs),H.map (·.1))]) K
section
variable {C:Cx} {E:Env}
def Zo{p:POp}{s:S}{id:Nat}{K:A->List (Nat×MS)->Prop}(h:aopS C p s id K):∃v mw,K v mw/\aopS C p s id (λ v' B=>v'=v/\B=mw):=by
 unfold aopS at h⊢;cases hg:oP s.fr p.g with
 |none=>simp[hg]at h
 |some g=>
  simp only[hg]at h⊢;cases hp:p.po<;>simp only[hp]at h|-
  case pick=>
   split at h
   .split at h
    .exact⟨_,_,h.2,h.1,rfl,rfl⟩
    .exact h.elim
   .exact h.elim
  case call f=>obtain⟨r,H,O,U⟩:=h;exact⟨_,_,U,r,H,O,rfl,rfl⟩
  case callv=>
   split at h
   .obtain⟨r,H,O,U⟩:=h;exact⟨_,_,U,r,H,O,rfl,rfl⟩
   .exact h.elim
  case callb=>
   split at h
   .obtain⟨r,H,O,U⟩:=h;exact⟨_,_,U,r,H,O,rfl,rfl⟩
   .exact h.elim
  case callm f=>obtain⟨l,as,ms,k,r,Y,k',H,O,U,F,M⟩:=h;exact⟨_,_,M,l,as,ms,k,r,Y,k',H,O,U,F,rfl,rfl⟩
  case callvm=>
   split at h
   .obtain⟨l,as,ms,k,r,Y,k',H,O,U,F,M⟩:=h;exact⟨_,_,M,l,as,ms,k,r,Y,k',H,O,U,F,rfl,rfl⟩
   .exact h.elim
  all_goals
   split at h
   .exact⟨_,_,h.2.2,h.1,h.2.1,rfl,rfl⟩
   .exact⟨_,_,h.2.2,h.1,h.2.1,rfl,rfl⟩
def Zp{p:POp}{st:St}{K:A->List (Nat×MS)->Prop}(h:aopS C p st.toS st.nx K):aopS C p st.toS st.nx (λ v B=>mwOk st.nx B/\K v B):=by
 unfold aopS at h⊢;simp only[St.toS]at h⊢;cases hg:oP st.slot p.g with
 |none=>simp[hg]at h
 |some g=>
  simp only[hg]at h⊢;cases hp:p.po<;>simp only[hp]at h|-
  case pick=>
   split at h
   .split at h
    .exact⟨h.1,trivial,h.2⟩
    .exact h.elim
   .exact h.elim
  case call f=>obtain⟨r,H,O,U⟩:=h;exact⟨r,H,O,C0 st _ _,U⟩
  case callv=>
   split at h
   .obtain⟨r,H,O,U⟩:=h;exact⟨r,H,O,C0 st _ _,U⟩
   .exact h.elim
  case callb=>
   split at h
   .obtain⟨r,H,O,U⟩:=h;exact⟨r,H,O,C0 st _ _,U⟩
   .exact h.elim
  case callm f=>exact IQ h
  case callvm=>
   split at h
   .exact IQ h
   .exact h.elim
  all_goals
   split at h
   .rename_i F Y;obtain⟨H,O,U⟩:=h;exact⟨H,O,Qv Y,U⟩
   .exact⟨h.1,h.2.1,trivial,h.2.2⟩
def IZ{m H:Nat->MS}{x:A}(h:∀y∈uZ x,m y=H y):frz1 m x=frz1 H x/\(sM m x↔sM H x):=by
 cases x<;>first|exact⟨rfl,kZ⟩|skip
 rename_i y lo n;have:=h y (by simp[uZ,sX]);simp only[frz1,sM,this,cX]
def Ri{x:A}:∀y∈tH x,y∈idsA x:=by
 cases x<;>intro y hy<;>first|(simp[tH,qY]at hy;done)|skip
 .rename_i z lo n;simpa [tH,qY,idsA,uZ,sX]using hy
 .rename_i U;simp only[tH,idsA]at hy⊢;split at hy
  .cases hy
  .rename_i H;rw[bX H];obtain⟨c,O,hy⟩:=fM.1 hy;refine fM.2 ⟨c,O,?_⟩;cases c<;>simp[qY]at hy;subst hy;simp[uZ,sX]
def Rj{m O:Nat->MS}{x:A}(h:∀y∈idsA x,m y=O y):frz m x=frz O x/\(rK m x↔rK O x):=by
 cases x with
 |agg B=>
  simp only[frz,rK];split
  .exact⟨rfl,kZ⟩
  .rename_i F;simp only[idsA,bX F]at h;have U:∀c∈B,∀y∈uZ c,m y=O y:=λ c H y hy=>h y (fM.2 ⟨c,H,hy⟩);exact⟨by rw[List.map_congr_left λ c H=>(IZ (U c H)).1],⟨λ Y c H=>(IZ (U c H)).2.1 (Y c H),λ Y c H=>(IZ (U c H)).2.2 (Y c H)⟩⟩
 |own x lo n=>exact IZ (x:=.own x lo n) h
 |_=>exact⟨rfl,kZ⟩
def I0{m H:Nat->MS}:∀{xs:List A},(∀y∈pT xs,m y=H y)->oT m xs=oT H xs/\(pM m xs↔pM H xs)
 |[],_=>⟨rfl,kZ⟩
 |x::xs,h=>by obtain⟨O,U⟩:=Rj (x:=x) λ y hy=>h y (dV _ hy);obtain⟨Y,B⟩:=I0 (xs:=xs) λ y hy=>h y (dK _ hy);simp only[oT,pM,O,U,Y,B,cX]
def FO{m H:Nat->MS}:∀{xs:List Nat},(∀y∈xs,m y=H y)->oE m xs=oE H xs
 |[],_=>rfl
 |x::xs,h=>by simp only[oE,h x (.head _),FO λ y hy=>h y (.tail _ hy)]
def I1:∀{xs:List A},∀y∈qZ xs,y∈pT xs
 |x::xs,y,hy=>by
  rcases cY.1 hy with h|h
  .exact dV _ (Ri y h)
  .exact dK _ (I1 y h)
def Rk:∀{vs as:List A},∀y∈fzM vs as,y∈pT vs
 |v::vs,a::as,y,hy=>by
  rcases cY.1 hy with h|h
  .split at h
   .cases h
   .exact dV _ (Ri y h)
  .exact dK _ (Rk y h)
 |[],[],y,hy=>by cases hy
 |_::_,[],y,hy=>by cases hy
 |[],_::_,y,hy=>by cases hy
def Rl{m U:Nat->MS}{l:List (Nat×Nat)}{k:Nat}:∀{vs as:List A},(∀y∈pT vs,m y=U y)->zH m l k vs as->zH U l k vs as
 |v::vs,a::as,h,h1=>by
  refine⟨?_,Rl (λ y hy=>h y (dK _ hy)) h1.2⟩;obtain⟨Y,B⟩:=Rj (x:=v) λ y hy=>h y (dV _ hy);have H:=h1.1;unfold argM at H⊢;split
  .rename_i O;rw[cB O]at H;exact H
  .rename_i O;rw[bX O]at H;exact⟨B.1 H.1,Y▸H.2⟩
 |[],[],_,_=>trivial
 |_::_,[],_,h=>h.elim
 |[],_::_,_,h=>h.elim
def Rm{m H:Nat->MS}{l:List (Nat×Nat)}{k:Nat}{O:List Nat}:∀{ms:List (Nat×Row)},(∀q∈ms,m (rho l q.1)=H (rho l q.1))->CZ m l k O ms->CZ H l k O ms
 |[],_,_=>trivial
 |q::ms,h,h1=>by obtain⟨U,Y,B,F,M,h8,h7⟩:=h1;exact⟨by rw[<-h q (.head _)];exact U,Y,B,F,M,h8,Rm (λ p hp=>h p (.tail _ hp)) h7⟩
def MN{L:List (Nat×Nat)}{ms':List (Nat×Row)}:∀{ids:List Nat},∀x∈ids,rho L x∈(pO L ms' ids).map (·.1)
 |y::ids,x,h=>by
  rcases cL.1 h with rfl|h
  .exact .head _
  .exact .tail _ (MN x h)
def Rn{m H:Nat->MS}:∀{mw:List (Nat×MS)},(∀y∈mw.map (·.1),m y=H y)->zI m mw->zI H mw
 |[],_,_=>trivial
 |q::r,h,⟨h1,h3⟩=>⟨by rw[<-h q.1 (.head _)];exact h1,Rn (λ y hy=>h y (.tail _ hy)) h3⟩
def Ro{f:FuncId}{m B:Nat->MS}{id:Nat}{H:List A}{og:Option (Nat×Bool)}{g:Bool}{ob:Prop}{v:A}{mw:List (Nat×MS)}(h1:∀y∈pT H,m y=B y)(h2:∀y∈mw.map (·.1),m y=B y)
  (h:tI C m id f H og g ob (λ n=>∀x,id<=x->x<id+n->m x=.fresh) (λ v' Y=>v'=v/\Y=mw)):
  tI C B id f H og g ob (λ n=>∀x,id<=x->x<id+n->B x=.fresh) (λ v' Y=>v'=v/\Y=mw):=by
 obtain⟨l,as,ms,k,r,F,k',ht,hf,h0,h5,h7,h8⟩:=h;have e0:mwM B (l++newL k id (k'-k)) H as ms F k k'=mw:=by rw[<-h8,mwM,mwM,FO λ y hy=>h1 y (Rk y hy)]
 refine⟨l,as,ms,k,r,F,k',λ hg=>?_,λ hg=>?_,h0,h5,h7,e0⟩
 case refine_2=>rw[e0];rw[h8]at hf;exact⟨(hf hg).1,Rn h2 (hf hg).2⟩
 obtain⟨x0,h3,h4,h6⟩:=ht hg;obtain⟨g1,g2,g3,g4,g5,g6,g7,g8⟩:=h4;have z0:k<=k':=fP g6;have M:∀x∈ms.map (·.1)++(List.range (k'-k)).map (k+·),m (rho (l++newL k id (k'-k)) x)=B (rho (l++newL k id (k'-k)) x):=λ x hx=>by refine h2 _ ?_;rw[<-h8,mwM,fL];exact dK _ (MN x hx)
 have O:∀x,x<k->rho (l++newL k id (k'-k)) x=rho l x:=λ x hx=>by simp only[rho,q5,q6];rw[bX om,lD]
 have U:∀i,i<k'-k->rho (l++newL k id (k'-k)) (k+i)=id+i:=λ i hi=>by simp only[rho,q5,q6];rw[FJ λ q hq=>by have:=g8 q hq;omega,cB om];simp
 refine⟨x0,h3,⟨Rl h1 g1,Rm (λ q hq=>?_) g2,g3,g4,g5,g6,g7,g8⟩,λ x hx y0=>?_⟩
 .have:=M q.1 (dV _ (cS.2 ⟨q,hq,rfl⟩));rwa [O q.1 (C2 g2 q.1 q.2 hq).2.2.1]at this
 .have:=M (k+(x-id)) (dK _ (cS.2 ⟨x-id,eH.2 om,rfl⟩));rw[U _ om,show id+(x-id)=x by omega]at this;rw[<-this];exact h6 x hx y0
def Zq(x y:List A):pT (x++y)=pT x++pT y:=by
 induction x with
 |nil=>rfl
 |cons a x H=>simp only[Jm,pT,H,cG]
def Rp{y:Nat}:∀{H:List A},(∀c∈H,idsA c=sX c)->y∈pT H->y∈H.flatMap sX
 |c::cs,hc,h=>by
  rcases cY.1 h with h|h
  .exact fM.2 ⟨c,.head _,hc c (.head _)▸h⟩
  .obtain⟨d,O,U⟩:=fM.1 (Rp (λ d O=>hc d (.tail _ O)) h);exact fM.2 ⟨d,.tail _ O,U⟩
def Rq{f:FuncId}{H O:List A}{y:Nat}(h:y∈pT (O++H))(U:∀c∈H,idsA c=sX c):y∈pT (.clo f H::O):=by
 rw[Zq]at h;simp only[pT,cY];rcases cY.1 h with h|h
 .exact .inr h
 .exact .inl (Rp U h)
def Zr{id:Nat}{m F:Nat->MS}{po:PO}{H:List A}(h:∀y∈pT H,m y=F y):ev id m po H=ev id F po H:=by
 have Y:∀{x:A} {U:List A},H=x::U->(∀y∈idsA x,m y=F y):=λ hv y hy=>h y (by rw[hv];exact dV _ hy);have e2:∀{x O:A} {U:List A},H=x::O::U->(∀y∈idsA O,m y=F y):=λ hv y hy=>h y (by rw[hv];exact dK _ (dV _ hy));have B:∀{x:Nat} {lo n:Nat},(∀y∈idsA (.own x lo n),m y=F y)->m x=F x:=λ hh=>hh _ (by simp[idsA,uZ,sX]);have h0:∀{x:Nat} {lo n:Nat},(∀y∈idsA (.ptr x lo n),m y=F y)->m x=F x:=λ hh=>hh _ (by simp[idsA,uZ,sX]);have mp:∀{x:Nat},(∀y∈idsA (.mp x),m y=F y)->m x=F x:=λ hh=>hh _ (by simp[idsA,uZ,sX]);have x0:∀{x:A},(∀y∈idsA x,m y=F y)->sL m x=sL F x/\tW m x=tW F x:=λ{x} hh=>by
  cases x<;>first|exact⟨rfl,rfl⟩|skip
  simp only[sL,tW,B hh,cX]
 have y0:∀{x:A} {sz:Nat} {lo hi mx:Option Int},(∀y∈idsA x,m y=F y)->rU m sz x lo hi mx=rU F sz x lo hi mx:=λ{x sz lo hi mx} hh=>by cases x<;>cases mx<;>first|rfl|(simp only[rU,B hh])
 cases po
 case slc sz lo hi mx=>
  rcases H with _|⟨x,_|⟨O,_|⟨M,_|⟨x4,_|⟨x5,U⟩⟩⟩⟩⟩
  .cases lo<;>cases hi<;>cases mx<;>rfl
  .have hx:=Y rfl;have:=λ{lo hi mx}=>y0 (sz:=sz) (lo:=lo) (hi:=hi) (mx:=mx) hx;cases lo<;>cases hi<;>cases mx<;>first|rfl|(simp only[ev,this])
  .have hx:=Y rfl;have:=λ{lo hi mx}=>y0 (sz:=sz) (lo:=lo) (hi:=hi) (mx:=mx) hx;cases lo<;>cases hi<;>cases mx<;>cases O<;>first|rfl|(simp only[ev,this])
  .have hx:=Y rfl;have:=λ{lo hi mx}=>y0 (sz:=sz) (lo:=lo) (hi:=hi) (mx:=mx) hx;cases lo<;>cases hi<;>cases mx<;>cases O<;>cases M<;>first|rfl|(simp only[ev,this])
  .have hx:=Y rfl;have:=λ{lo hi mx}=>y0 (sz:=sz) (lo:=lo) (hi:=hi) (mx:=mx) hx;cases lo<;>cases hi<;>cases mx<;>first|rfl|(cases O<;>first|rfl|(cases M<;>first|rfl|(cases x4<;>first|rfl|(simp only[ev,this]))))
  .cases lo<;>cases hi<;>cases mx<;>first|rfl|(cases O<;>first|rfl|(cases M<;>first|rfl|(cases x4<;>rfl)))
 case slcS lo hi=>rcases H with _|⟨x,_|⟨O,_|⟨M,_|⟨x4,U⟩⟩⟩⟩<;>cases lo<;>cases hi<;>first|rfl|(cases x<;>first|rfl|(cases O<;>first|rfl|(cases M<;>rfl)))
 case cvS=>
  rcases H with _|⟨x,_|⟨O,U⟩⟩<;>first|rfl|skip
  obtain⟨g1,g2⟩:=x0 (Y rfl);simp only[ev,g1,g2]
 case append sz bytes z=>
  rcases H with _|⟨x,_|⟨O,_|⟨M,U⟩⟩⟩<;>first|rfl|skip
  have hx:=Y rfl;obtain⟨g1,g2⟩:=x0 (e2 rfl);simp only[ev,g1,g2];cases x<;>first|rfl|skip
  have e:=B hx;simp only[e]
 case appc sz bytes=>
  rcases H with _|⟨x,_|⟨O,_|⟨M,U⟩⟩⟩<;>first|rfl|skip
  have hx:=Y rfl;obtain⟨g1,g2⟩:=x0 (e2 rfl);simp only[ev,g1,g2];cases x<;>first|rfl|skip
  have e:=B hx;simp only[e]
 case clear sz z=>
  rcases H with _|⟨x,_|⟨O,U⟩⟩<;>first|rfl|skip
  have hx:=Y rfl;simp only[ev];cases x<;>first|rfl|skip
  have e:=B hx;simp only[e]
 case copy sz=>
  rcases H with _|⟨x,_|⟨O,_|⟨M,U⟩⟩⟩<;>first|rfl|skip
  have hx:=Y rfl;obtain⟨g1,g2⟩:=x0 (e2 rfl);simp only[ev,g1,g2];cases x<;>first|rfl|skip
  have e:=B hx;simp only[e]
 case load n ag=>
  rcases H with _|⟨x,_|⟨O,U⟩⟩<;>first|rfl|skip
  have hx:=Y rfl;cases x<;>first|rfl|skip
  have e:=h0 hx;simp only[ev,e]
 case store n=>
  rcases H with _|⟨x,_|⟨O,_|⟨M,U⟩⟩⟩<;>first|rfl|skip
  have hx:=Y rfl;cases x<;>first|rfl|skip
  have e:=h0 hx;simp only[ev,e]
 case faddr off=>
  rcases H with _|⟨x,_|⟨O,U⟩⟩<;>first|rfl|skip
  have hx:=Y rfl;cases x<;>first|rfl|skip
  have e:=h0 hx;simp only[ev,e]
 case nilck=>
  rcases H with _|⟨x,_|⟨O,U⟩⟩<;>first|rfl|skip
  have hx:=Y rfl;cases x<;>first|rfl|skip
  have e:=h0 hx;simp only[ev,e]
 case len=>
  rcases H with _|⟨x,_|⟨O,U⟩⟩<;>first|rfl|skip
  have hx:=Y rfl;cases x<;>first|rfl|skip
  have e:=B hx;simp only[ev,e]
 case lkp ok ag kz z=>
  rcases H with _|⟨x,_|⟨O,_|⟨M,U⟩⟩⟩<;>first|rfl|(cases x<;>rfl)|skip
  have hx:=Y rfl;cases x<;>first|rfl|skip
  have e:=mp hx;simp only[ev,e]
 case mupd kz ag n=>
  rcases H with _|⟨x,_|⟨O,_|⟨M,_|⟨x4,U⟩⟩⟩⟩<;>first|rfl|(cases x<;>rfl)|skip
  have hx:=Y rfl;cases x<;>first|rfl|skip
  have e:=mp hx;simp only[ev,e]
 case rng=>
  rcases H with _|⟨x,_|⟨O,U⟩⟩<;>first|rfl|(cases x<;>rfl)|skip
  have hx:=Y rfl;cases x<;>first|rfl|skip
  have e:=mp hx;simp only[ev,e]
 case lenM=>
  rcases H with _|⟨x,_|⟨O,U⟩⟩<;>first|rfl|(cases x<;>rfl)|skip
  have hx:=Y rfl;cases x<;>first|rfl|skip
  have e:=mp hx;simp only[ev,e]
 case iaA n sz=>
  rcases H with _|⟨x,_|⟨O,_|⟨M,U⟩⟩⟩<;>first|rfl|(cases O<;>rfl)|skip
  have hx:=Y rfl;cases O<;>first|rfl|skip
  cases x<;>first|rfl|skip
  have e:=h0 hx;simp only[ev,e]
 case iaS sz z=>
  rcases H with _|⟨x,_|⟨O,_|⟨M,U⟩⟩⟩<;>first|rfl|(cases O<;>rfl)|skip
  have hx:=Y rfl;cases O<;>first|rfl|skip
  cases x<;>first|rfl|skip
  have e:=B hx;simp only[ev,e]
 all_goals first
  |rfl
  |(rcases H with _|⟨x,_|⟨O,_|⟨M,U⟩⟩⟩<;>first|rfl|(cases x<;>first|rfl|(cases O<;>rfl)))
def MO{fr H:Nat->A}:∀(xs:List PX),(∀t∈rdsX xs,fr t=H t)->nO C fr xs=nO C H xs/\(gdsF C fr xs↔gdsF C H xs)
 |[],_=>⟨rfl,kZ⟩
 |x::xs,h=>by have O:=q8 (x:=x) C.G (f:=fr) (g:=H) λ t ht=>h t ((tK x xs t).2 (.inl ht));obtain⟨U,Y⟩:=MO xs λ t ht=>h t ((tK x xs t).2 (.inr ht));simp only[nO,gdsF,O,U,Y,cX]
def Zs{p:POp}{s s2:S}{id:Nat}{v:A}{mw:List (Nat×MS)}(hr:∀t∈p.rds,s.fr t=s2.fr t)(hm:∀y∈pT (nO C s.fr p.xs),s.mem y=s2.mem y)(hw:∀y∈mw.map (·.1),s.mem y=s2.mem y)
  (F:∀f U H,(p.po=.callv\/p.po=.callvm)->nO C s.fr p.xs=.clo f U::H->∀c∈U,idsA c=sX c)
  (h:aopS C p s id (λ v' M=>v'=v/\M=mw)):aopS C p s2 id (λ v' M=>v'=v/\M=mw):=by
 have hx:∀t∈rdsX p.xs,s.fr t=s2.fr t:=λ t ht=>hr t (dK _ ht);obtain⟨hv,x0⟩:=MO (C:=C) p.xs hx;have y0:oP s2.fr p.g=oP s.fr p.g:=by
  cases hg:p.g with
  |none=>rfl
  |some q=>simp only[oP];rw[hr q.1 (dV _ (by simp[hg]))]
 obtain⟨z0,u0⟩:=I0 hm;have h0:∀r,nW s.mem (nO C s.fr p.xs) r=nW s2.mem (nO C s.fr p.xs) r:=λ r=>by simp only[nW,FO λ y hy=>hm y (I1 y hy)]
 unfold aopS at h⊢;rw[y0,<-hv,<-x0];cases hg:oP s.fr p.g with
 |none=>simp[hg]at h
 |some g=>
  simp only[hg]at h⊢;cases hp:p.po<;>simp only[hp]at h|-
  case pick=>
   split at h
   .rename_i c x y v0;simp only[v0]at hx⊢;have e1:=q8 (x:=c) C.G (f:=s.fr) (g:=s2.fr) λ t ht=>hx t ((tK _ _ _).2 (.inl ht));have e2:=q8 (x:=x) C.G (f:=s.fr) (g:=s2.fr) λ t ht=>hx t ((tK _ _ _).2 (.inr ((tK _ _ _).2 (.inl ht))));have e3:=q8 (x:=y) C.G (f:=s.fr) (g:=s2.fr) λ t ht=>hx t ((tK _ _ _).2 (.inr ((tK _ _ _).2 (.inr ht))));rw[<-e1,<-e2,<-e3];exact h
   .exact h.elim
  case call f=>rw[<-z0,<-u0];obtain⟨r,h1,h2,h3⟩:=h;exact⟨r,h1,by rw[<-h0];exact h2,by rw[<-h0];exact h3⟩
  case callv=>
   split at h
   .rename_i f U H O;have hc:=F f U H (.inl hp) O;have B:∀y∈pT (H++U),s.mem y=s2.mem y:=λ y hy=>hm y (by rw[O];exact Rq hy hc);obtain⟨g1,g2⟩:=I0 B;have Y:∀r,nW s.mem (H++U) r=nW s2.mem (H++U) r:=λ r=>by
     simp only[nW,FO λ y hy=>B y (I1 y hy)]
    obtain⟨r,h1,h2,h3⟩:=h;rw[<-g1,<-g2];exact⟨r,h1,by rw[<-Y];exact h2,by rw[<-Y];exact h3⟩
   .exact h.elim
  case callb=>
   split at h
   .rename_i f cs H O;have B:∀y∈pT (.agg cs::H),s.mem y=s2.mem y:=λ y hy=>hm y (by rw[O];exact hy);obtain⟨g1,g2⟩:=I0 B;have Y:∀r,nW s.mem (.agg cs::H) r=nW s2.mem (.agg cs::H) r:=λ r=>by
     simp only[nW,FO λ y hy=>B y (I1 y hy)]
    obtain⟨r,h1,h2,h3⟩:=h;rw[<-g1,<-g2];exact⟨r,h1,by rw[<-Y];exact h2,by rw[<-Y];exact h3⟩
   .exact h.elim
  case callm f=>exact Ro hm hw h
  case callvm=>
   split at h
   .rename_i f U H O;have hc:=F f U H (.inr hp) O;exact Ro (λ y hy=>hm y (by rw[O];exact Rq hy hc)) hw h
   .exact h.elim
  all_goals
   rw[<-Zr (id:=id) hm];exact h
def Zt{p:POp}{s s2:S}{id:Nat}{v:A}{mw:List (Nat×MS)}(B:∀t∈p.rds,s.fr t=s2.fr t)(hm:∀y∈idsP p.po (nO C s.fr p.xs),s.mem y=s2.mem y)(hw:∀y∈mw.map (·.1),s.mem y=s2.mem y)
  (Y:∀f O H,(p.po=.callv\/p.po=.callvm)->nO C s.fr p.xs=.clo f O::H->∀c∈O,idsA c=sX c)
  (h:aopS C p s id (λ F U=>F=v/\U=mw)):aopS C p s2 id (λ F U=>F=v/\U=mw):=by
 cases hpo:p.po with
 |mv=>
  have hx:∀t∈rdsX p.xs,s.fr t=s2.fr t:=λ t ht=>B t (dK _ ht);obtain⟨hv,M⟩:=MO (C:=C) p.xs hx;have h0:oP s2.fr p.g=oP s.fr p.g:=by
   cases hg:p.g with
   |none=>rfl
   |some q=>simp only[oP];rw[B q.1 (dV _ (by simp[hg]))]
  unfold aopS at h⊢;rw[h0,<-hv,<-M];cases hg:oP s.fr p.g with
  |none=>simp[hg]at h
  |some g=>
   simp only[hg,hpo]at h⊢;have e:∀H,ev id s.mem .mv H=ev id s2.mem .mv H:=λ H=>by rcases H with _|⟨x,_|⟨x2,xs⟩⟩<;>rfl
   rw[<-e];exact h
 |_=>exact Zs B (λ y hy=>hm y (by rw[hpo];exact hy)) hw Y h
set_option maxHeartbeats 1000000 in
def Zu{id:Nat}{m:Nat->MS}{M:PO}{H:List A}{ef:Ef}(h:ev id m M H=some ef):id∈ef.mw.map (·.1)\/∀U,ev U m M H=some ef:=by
 cases M
 case nilown sz z=>rcases H with _|⟨x,_|⟨O,Y⟩⟩<;>cases h;exact .inl (by simp)
 case box n=>rcases H with _|⟨x,_|⟨O,Y⟩⟩<;>cases h;exact .inl (by simp)
 case alloc n z=>rcases H with _|⟨x,Y⟩<;>cases h;exact .inl (by simp)
 case bown sz z=>simp only[ev,cJ]at h;subst h;exact .inl (by simp)
 case mkmap z=>rcases H with _|⟨x,Y⟩<;>cases h;exact .inl (by simp)
 case rng=>
  rcases H with _|⟨x,_|⟨O,Y⟩⟩<;>first|(cases h;done)|(cases x<;>cases h;done)|skip
  cases x<;>simp only[ev]at h<;>first|(cases h;done)|skip
  split at h
  .cases h;exact .inl (by simp)
  .cases h
 case next d=>exact .inr λ U=>by rw[<-h];rfl
 case entry d=>exact .inr λ U=>by rw[<-h];rfl
 case lkp ok ag kz z=>exact .inr λ U=>by rw[<-h];rcases H with _|⟨x,_|⟨O,_|⟨B,Y⟩⟩⟩<;>first|rfl|(cases x<;>rfl)
 case mupd kz ag n=>exact .inr λ U=>by rw[<-h];rcases H with _|⟨x,_|⟨O,_|⟨B,_|⟨x4,Y⟩⟩⟩⟩<;>first|rfl|(cases x<;>rfl)
 case lenM=>exact .inr λ U=>by rw[<-h];rcases H with _|⟨x,_|⟨O,Y⟩⟩<;>first|rfl|(cases x<;>rfl)
 case mk sz b z=>
  rcases H with _|⟨x,_|⟨O,_|⟨B,Y⟩⟩⟩<;>first|(cases h;done)|(cases x<;>cases h;done)|skip
  .cases x<;>cases O<;>cases h;exact .inl (by simp)
  .cases x<;>cases O<;>cases h
 case append sz b z=>
  rcases H with _|⟨x,_|⟨O,_|⟨B,Y⟩⟩⟩<;>first|(cases h;done)|skip
  simp only[ev,gT]at h;obtain⟨new,F,h⟩:=h;cases x<;>simp only[]at h<;>first|(cases h;done)|skip
  .cases h;exact .inl (by simp)
  .split at h
   .cases h;exact .inl (by simp)
   .cases h
 case appc sz b=>
  rcases H with _|⟨x,_|⟨O,_|⟨B,Y⟩⟩⟩<;>first|(cases h;done)|skip
  simp only[ev,gT]at h;obtain⟨new,F,h⟩:=h;cases x<;>simp only[]at h<;>first|(cases h;done)|skip
  split at h
  .cases h;exact .inl (by simp)
  .cases h
 all_goals
  refine .inr λ U=>?_;rw[<-h]
  first
   |rfl
   |(rename_i lo hi mx;cases lo<;>cases hi<;>cases mx<;>rcases H with _|⟨x,_|⟨O,_|⟨B,_|⟨x4,_|⟨x5,Y⟩⟩⟩⟩⟩<;>first|rfl|(cases O<;>first|rfl|(cases B<;>first|rfl|(cases x4<;>rfl))))
   |(rename_i lo hi;cases lo<;>cases hi<;>rcases H with _|⟨x,_|⟨O,_|⟨B,_|⟨x4,Y⟩⟩⟩⟩<;>first|rfl|(cases x<;>first|rfl|(cases O<;>first|rfl|(cases B<;>rfl))))
   |(rcases H with _|⟨x,_|⟨O,_|⟨B,Y⟩⟩⟩<;>first|rfl|(cases x<;>first|rfl|(cases O<;>rfl))|(cases O<;>rfl))
def Zv{p:POp}{s:S}{id:Nat}{v:A}{mw:List (Nat×MS)}(h:aopS C p s id (λ Y O=>Y=v/\O=mw)):id∈mw.map (·.1)\/∀H,id<=H->aopS C p s H (λ Y O=>Y=v/\O=mw):=by
 have cm:∀{f:FuncId} {U:List A} {og:Option (Nat×Bool)} {g:Bool} {ob:Prop},tI C s.mem id f U og g ob (λ n=>∀x,id<=x->x<id+n->s.mem x=.fresh) (λ Y O=>Y=v/\O=mw)->
   id∈mw.map (·.1)\/∀H,id<=H->tI C s.mem H f U og g ob (λ n=>∀x,H<=x->x<H+n->s.mem x=.fresh) (λ Y O=>Y=v/\O=mw):=λ{f U og g ob} h=>by
  obtain⟨l,as,ms,k,r,ms',k',ht,hf,M,h5,h7,h8⟩:=h
  by_cases hk:k=k'
  .have en:∀H,newL k H (k'-k)=[]:=λ H=>by rw[hk,gY];rfl
   simp only[en]at hf M h7 h8;refine .inr λ H x0=>⟨l,as,ms,k,r,ms',k',λ hg=>?_,?_⟩
   .obtain⟨h0,h3,F,h6⟩:=ht hg;obtain⟨g1,g2,g3,g4,g5,g6,g7,g8⟩:=F;exact⟨h0,h3,⟨g1,g2,g3,g4,g5,g6,λ q hq=>eK (g7 q hq) x0,g8⟩,λ x hx y0=>om⟩
   .simp only[en];exact⟨hf,M,h5,h7,h8⟩
  .have hg:g=true:=by
    cases g with
    |true=>rfl
    |false=>exact absurd (hf rfl).1 hk
   obtain⟨h0,h3,F,h6⟩:=ht hg;obtain⟨g1,g2,g3,g4,g5,g6,g7,g8⟩:=F;have z0:k<=k':=fP g6;left;rw[<-h8,mwM,fL];refine dK _ ?_;have:=MN (L:=l++newL k id (k'-k)) (ms':=ms') (ids:=ms.map (·.1)++(List.range (k'-k)).map (k+·)) (k+0) (dK _ (cS.2 ⟨0,eH.2 om,rfl⟩));have e:rho (l++newL k id (k'-k)) (k+0)=id+0:=by simp only[rho,q5,q6];rw[FJ λ q hq=>by have:=g8 q hq;omega,cB om];simp
   rw[e]at this;exact this
 unfold aopS at h⊢;cases hg:oP s.fr p.g with
 |none=>simp[hg]at h
 |some g=>
  simp only[hg]at h⊢;cases hp:p.po<;>simp only[hp]at h|-
  case pick=>exact .inr λ _ _=>h
  case call f=>exact .inr λ _ _=>h
  case callv=>exact .inr λ _ _=>h
  case callb=>exact .inr λ _ _=>h
  case callm f=>exact cm h
  case callvm=>
   split at h
   .exact cm h
   .exact h.elim
  all_goals
   split at h
   .rename_i ef B;obtain⟨h1,h2,h3,F⟩:=h;rcases Zu B with g1|g1
    .exact .inl (F▸g1)
    .exact .inr λ H _=>by rw[g1 H];exact⟨h1,h2,h3,F⟩
   .rename_i B;exact .inr λ H _=>by rw[<-YQ (id:=id) h.2.1,B];exact h
end
section
variable {C:Cx} {E:Env}
def FSt(ps:List POp)(vs:Nat->A)(mws:Nat->List (Nat×MS))(s:S)(f:Nat->Bool):Nat->S
  |0=>s
  |n+1=>match ps[n]? with
    |some p=>if f n then⟨setF (FSt ps vs mws s f n).fr p.dst (vs n),setM (FSt ps vs mws s f n).mem (mws n)⟩else FSt ps vs mws s f n
    |none=>FSt ps vs mws s f n
def wB{y:Nat}:∀{mw:List (Nat×MS)} {m:Nat->MS},y∉mw.map (·.1)->setM m mw y=m y
  |[],_,_=>rfl
  |q::mw,m,h=>by simp only[setM];rw[wB λ H=>h (.tail _ H)];refine bX λ e=>h ?_;rw[e];exact .head _
def I2{y:Nat}:∀{mw:List (Nat×MS)} {m O:Nat->MS},y∈mw.map (·.1)->setM m mw y=setM O mw y
  |q::mw,m,O,h=>by
    simp only[setM]
    by_cases H:y∈mw.map (·.1)
    .exact I2 H
    · rw[wB H,wB H]
      rcases cL.1 h with rfl|h
      .simp
      .exact absurd h H
def MP{ps:List POp}{vs:Nat->A}{mws:Nat->List (Nat×MS)}{s:S}{f f':Nat->Bool}:∀n,(∀i,i<n->f i=f' i)->FSt ps vs mws s f n=FSt ps vs mws s f' n
  |0,_=>rfl
  |n+1,h=>by have H:=MP (ps:=ps) (vs:=vs) (mws:=mws) (s:=s) n λ i hi=>h i om;simp only[FSt,H,h n om]
def AX(f:Nat->A)(d:Option Nat)(v:A)(t:Nat):setF f d v t=if d=some t then v else f t:=rfl
def Rr{ps:List POp}{vs:Nat->A}{mws:Nat->List (Nat×MS)}{s:S}{f:Nat->Bool}{j t:Nat}(U:∀i q,i<j->ps[i]? =some q->q.dst=some t->f i=true)(Y:∀i q,j<=i->ps[i]? =some q->q.dst=some t->f i=false):
    ∀n,(FSt ps vs mws s f n).fr t=(FSt ps vs mws s (λ _=>true) (min n j)).fr t
  |0=>by simp[FSt]
  |n+1=>by
    have H:=Rr (vs:=vs) (mws:=mws) (s:=s) U Y n
    by_cases B:n<j
    · rw[show min (n+1) j=n+1 by omega]
      rw[show min n j=n by omega]at H;simp only[FSt];cases hq:ps[n]? with
      |none=>exact H
      |some q=>
        simp only[cH]
        by_cases O:q.dst=some t
        .rw[U n q B hq O];simp[AX,O]
        · rw[AX,bX O]
          split
          .simp only[AX,bX O];exact H
          .exact H
    · rw[show min (n+1) j=j by omega]
      rw[show min n j=j by omega]at H;simp only[FSt];cases hq:ps[n]? with
      |none=>exact H
      |some q=>
        simp only[]
        by_cases O:q.dst=some t
        .rw[Y n q om hq O];simpa using H
        · split
          .simp only[AX,bX O];exact H
          .exact H
def MQ{ps:List POp}{vs:Nat->A}{mws:Nat->List (Nat×MS)}{s:S}{f:Nat->Bool}{j y:Nat}(U:∀i q,i<j->ps[i]? =some q->y∈(mws i).map (·.1)->f i=true)(Y:∀i q,j<=i->ps[i]? =some q->y∈(mws i).map (·.1)->f i=false):
    ∀n,(FSt ps vs mws s f n).mem y=(FSt ps vs mws s (λ _=>true) (min n j)).mem y
  |0=>by simp[FSt]
  |n+1=>by
    have H:=MQ (vs:=vs) (mws:=mws) (s:=s) U Y n
    by_cases B:n<j
    · rw[show min (n+1) j=n+1 by omega]
      rw[show min n j=n by omega]at H;simp only[FSt];cases hq:ps[n]? with
      |none=>exact H
      |some q=>
        simp only[cH]
        by_cases O:y∈(mws n).map (·.1)
        .rw[U n q B hq O];simp only[cH];exact I2 O
        · rw[wB O]
          split
          · show setM _ _ _=_
            rw[wB O];exact H
          .exact H
    · rw[show min (n+1) j=j by omega]
      rw[show min n j=j by omega]at H;simp only[FSt];cases hq:ps[n]? with
      |none=>exact H
      |some q=>
        simp only[]
        by_cases O:y∈(mws n).map (·.1)
        .rw[Y n q om hq O];simpa using H
        · split
          · show setM _ _ _=_
            rw[wB O];exact H
          .exact H
def Rs{ps:List POp}{vs:Nat->A}{mws:Nat->List (Nat×MS)}{s:S}{f:Nat->Bool}{j:Nat}{p:POp}(hp:ps[j]? =some p)(hf:f j=false)(f':Nat->Bool)(hj:f' j=true)(Y:∀i,i≠j->f' i=f i)
    (hc:∀i q,j<i->ps[i]? =some q->f i=true->conf p q=false) (hm:∀i q,j<i->ps[i]? =some q->f i=true->∀y∈(mws j).map (·.1),y∉(mws i).map (·.1)):
    ∀n,(∀t,(FSt ps vs mws s f' n).fr t=if j<n/\p.dst=some t then vs j else(FSt ps vs mws s f n).fr t)/\∀y,(FSt ps vs mws s f' n).mem y=if j<n then setM (FSt ps vs mws s f n).mem (mws j) y else(FSt ps vs mws s f n).mem y
  |0=>by simp[FSt]
  |n+1=>by
    obtain⟨M,H⟩:=Rs (vs:=vs) (mws:=mws) (s:=s) hp hf f' hj Y hc hm n
    by_cases hn:n=j
    · subst hn
      simp only[FSt,hp,hj,hf,cH,bZ,cI];refine⟨λ t=>?_,λ y=>?_⟩
      · rw[AX]
        by_cases U:p.dst=some t
        .simp[U]
        · simp only[U,cI,and_false]
          have:=M t
          simpa [U]using this
      · rw[cB (eT n)]
        have e:(FSt ps vs mws s f' n).mem=(FSt ps vs mws s f n).mem:=funext λ z=>by have:=H z;simpa using this
        rw[e]
    · have hlt:j<n+1↔j<n:=om
      simp only[FSt,Y n hn,hlt];cases hq:ps[n]? with
      |none=>exact⟨by simpa using M,by simpa using H⟩
      |some q=>
        simp only[];split
        · rename_i B
          refine⟨λ t=>?_,λ y=>?_⟩
          · simp only[AX,M t]
            by_cases U:q.dst=some t
            · simp only[U,cH]
              by_cases O:j<n
              · have:=hc n q O hq B
                unfold conf at this
                by_cases F:p.dst=some t
                .simp[F,U]at this
                .simp[F]
              .simp[O]
            .simp[U]
          · by_cases O:j<n
            · simp only[O,cH]at H|-
              have h0:=hm n q O hq B
              by_cases h1:y∈(mws n).map (·.1)
              · rw[wB (mw:=mws j) λ hh=>h0 y hh h1]
                exact I2 h1
              · rw[wB h1,H y]
                by_cases h2:y∈(mws j).map (·.1)
                .exact I2 h2
                .rw[wB h2,wB h2,wB h1]
            · simp only[O,cI]at H|-
              have e:(FSt ps vs mws s f' n).mem=(FSt ps vs mws s f n).mem:=funext H;rw[e]
        .exact⟨M,H⟩
def Dc:∀{x y:List Nat},disj x y=true->∀z∈x,z∉y
  |a::x,y,h,z,hz=>by
    simp only[disj,bY,dA,jY,dF]at h;rcases cL.1 hz with rfl|hz
    .exact h.1
    .exact Dc h.2 z hz
def Rt{O:List Nat}:∀{H:List (List Nat×List Nat)} {i:Nat} {r w:List Nat},vA O i H r w=true->∀n q,H[n]? =some q->i+n∉O->disj q.2 r=true/\disj q.2 w=true/\disj w q.1=true
  |x::H,i,r,w,h,n,q,hq,hn=>by
    simp only[vA,bY,dS]at h;cases n with
    |zero=>
      simp at hq;subst hq;rcases h.1 with h1|h1
      .exact absurd (by simpa using h1) hn
      .exact⟨h1.1.1,h1.1.2,h1.2⟩
    |succ n=>exact Rt h.2 n q (by simpa using hq) (by rwa [show i+1+n=i+(n+1)by omega])
def Ru{an:List (List Nat)}{K:St->Prop}:∀(ps:List POp) (st:St) (H:List (List Nat×List Nat)),rM C an ps st H K->∃(vs:Nat->A) (mws:Nat->List (Nat×MS)) (sts:Nat->St),K (sts ps.length)/\sts 0=st/\
    ∀j p,ps[j]? =some p->sts (j+1)=(sts j).app p.dst (vs j) (mws j)/\mwOk (sts j).nx (mws j)/\aopS C p (sts j).toS (sts j).nx (λ v M=>v=vs j/\M=mws j)/\xI (mV C (sts j) p.xs)=true/\
      (∀i q,i<H.length->H[i]? =some q->i∉an.getD (H.length+j) []->disj q.2 (idsP p.po (mV C (sts j) p.xs))=true/\disj q.2 ((mws j).map (·.1))=true/\disj ((mws j).map (·.1)) q.1=true)/\
      (∀i q,i<j->ps[i]? =some q->H.length+i∉an.getD (H.length+j) []->disj ((mws i).map (·.1)) (idsP p.po (mV C (sts j) p.xs))=true/\disj ((mws i).map (·.1)) ((mws j).map (·.1))=true/\disj ((mws j).map (·.1)) (idsP q.po (mV C (sts i) q.xs))=true)
  |[],st,H,h=>⟨λ _=>.any,λ _=>[],λ _=>st,h,rfl,λ j p hp=>by simp at hp⟩
  |p::ps,st,H,h=>by
    obtain⟨v,M,⟨h0,hi,Y,U⟩,h4⟩:=Zo (Zp h);obtain⟨vs,mws,sts,h5,h6,h7⟩:=Ru ps _ _ U;refine⟨λ i=>match i with|0=>v|i+1=>vs i,λ i=>match i with|0=>M|i+1=>mws i,λ i=>match i with|0=>st|i+1=>sts i,h5,rfl,λ j q B=>?_⟩;cases j with
    |zero=>simp at B;subst B;refine⟨h6,h0,h4,Y,λ i q O B F=>?_,λ i q O=>om⟩;exact Rt hi i q B (by rw[eC];exact F)
    |succ j=>
      obtain⟨g1,g2,g3,g4,g5,g6⟩:=h7 j q (by simpa using B);simp only[cA,ym,Ym,eC]at g5 g6;refine⟨g1,g2,g3,g4,λ i x O hx F=>?_,λ i x O hx F=>?_⟩
      .exact g5 i x om (by rw[dX O];exact hx) (by rwa [show H.length+1+j=H.length+(j+1)by omega])
      · cases i with
        |zero=>simp at hx;subst hx;have:=g5 H.length (idsP p.po (mV C st p.xs),M.map (·.1)) om (by rw[fH (dG _)];simp) (by rw[show H.length+1+j=H.length+(j+1)by omega];exact F);exact this
        |succ i=>exact g6 i x om (by simpa using hx) (by rw[show H.length+1+j=H.length+(j+1)by omega,show H.length+1+i=H.length+(i+1)by omega];exact F)
def Rv{st:St}(xs:List PX):mV C st xs=nO C st.toS.fr xs:=FI xs
def Zw{Y:Array Oper}{ps:List POp}{s0:S}{vs:Nat->A}{mws:Nat->List (Nat×MS)}{sts:Nat->St}{K:St->Prop}{Q:Exit->Act->World->Prop}(hG:E.G=C.G)(hr:ROk C E.N Y 0 ps)(o1:POp.sortOk Y.toList 0=true)
    (r1:C4 ps (ancs [] (Y.toList.map pP))=true) (hK:K (sts ps.length))
    (s1:∀j,j<=ps.length->(sts j).toS=FSt ps vs mws s0 (λ _=>true) j)
    (hv:∀j p,ps[j]? =some p->mwOk (sts j).nx (mws j)/\aopS C p (sts j).toS (sts j).nx (λ v mw=>v=vs j/\mw=mws j)/\xI (mV C (sts j) p.xs)=true/\
      (∀i q,i<j->ps[i]? =some q->i∉(ancs [] (Y.toList.map pP)).getD j []->disj ((mws i).map (·.1)) (idsP p.po (mV C (sts j) p.xs))=true/\disj ((mws i).map (·.1)) ((mws j).map (·.1))=true/\disj ((mws j).map (·.1)) (idsP q.po (mV C (sts i) q.xs))=true))
    (j0:∀i j,i<=j->(sts i).nx<=(sts j).nx) (t1:∀y,(sts 0).nx<=y->s0.mem y=.fresh) (c1:∀j p y,ps[j]? =some p->y∈(mws j).map (·.1)->y<(sts (j+1)).nx)
    (hQ:∀st' a' w',K st'->Sat E st'.toS a' w'->Q .normal a' w'):
    ∀(F:Nat) (H:Array Bool) (a:Act) (w:World),H.size=Y.size->Sat E (FSt ps vs mws s0 (λ i=>H.getD i false) ps.length) a w->
      (∀j o,Y[j]? =some o->H.getD j false=true->∀i∈pP o,H.getD i false=true)->left (λ i=>H.getD i false) Y.size<=F->
      wpAny C.P .any Y Q F H a w:=by
  have hlen:ps.length=Y.size:=by have:=hr.size;omega
  have u0:∀(H:Array Bool) (a:Act) (w:World),Sat E (FSt ps vs mws s0 (λ i=>H.getD i false) ps.length) a w->(∀i,i<Y.size->H.getD i false=true)->Q .normal a w:=by intro H a w hs x0;refine hQ _ a w hK ?_;rw[s1 ps.length (dG _),MP (f:=λ _=>true) (f':=λ i=>H.getD i false) ps.length λ i hi=>(x0 i om).symm];exact hs
  have t0:∀(H:Array Bool),H.size=Y.size->Region.ready .any Y H=[]->∀i,i<Y.size->H.getD i false=true:=by
    intro H c0 o0 i;induction i using Nat.strongRecOn with
    |_ i ih=>
      intro hi;cases hl:H.getD i false with
      |true=>rfl
      |false=>
        have:i∈Region.ready .any Y H:=by
          rw[mem_ready];refine⟨?_,Y[i],by simp[hi],λ e he hb=>?_⟩
          · have h1:i<H.size:=om
            simp only[Array.getD,h1,kL]at hl⊢;exact hl
          · have h2:e.on∈pP Y[i]:=by
              simp only[pP,cS,gV];exact⟨e,⟨by simpa using he,hb⟩,rfl⟩
            have h3:=MI Y.toList 0 o1 i Y[i] (by simp[hi]) e.on h2;exact ih e.on om om
        rw[o0]at this;cases this
  intro F;induction F with
  |zero=>
    intro H a w c0 hs b0 b1;have x0:=MK (f:=λ i=>H.getD i false) Y.size om;refine⟨?_,u0 H a w hs x0⟩;cases hrd:Region.ready .any Y H with
    |nil=>rfl
    |cons i rs=>
      have:i∈Region.ready .any Y H:=by rw[hrd];simp
      rw[mem_ready]at this;obtain⟨h1,o,ho,_⟩:=this;have hi:=(cU.1 ho).1;have:=x0 i hi;have h2:i<H.size:=om
      simp only[Array.getD,h2,kL]at h1 this;rw[this]at h1;cases h1
  |succ F ih=>
    intro H a w c0 hs b0 b1;refine⟨λ o0=>u0 H a w hs (t0 H c0 o0),λ i hi=>?_⟩;rw[mem_ready]at hi;obtain⟨hl,o,ho,a1⟩:=hi;have hlt:=(cU.1 ho).1;have e0:i<H.size:=om
    have hl:H.getD i false=false:=by simp only[Array.getD,e0,kL]at hl⊢;exact hl
    obtain⟨p,hp,w1⟩:=hr.at (j:=i) (by rw[eC];exact ho);have a0:∀k∈pP o,H.getD k false=true:=by intro k O;simp only[pP,cS,gV]at O;obtain⟨e,⟨he,hb⟩,rfl⟩:=O;exact a1 e (by simpa using he) hb
    have y0:(H.setIfInBounds i true).getD i false=true:=by simp[Array.getD,e0]
    have U:∀k,k≠i->(H.setIfInBounds i true).getD k false=H.getD k false:=λ k O=>getD_set_ne false (kY O);have f0:∀j o,Y[j]? =some o->(H.setIfInBounds i true).getD j false=true->∀k∈pP o,(H.setIfInBounds i true).getD k false=true:=by
      intro j o' h0 hj k O
      by_cases d1:j=i
      · subst d1
        rw[ho]at h0;cases h0;exact getD_set_true (a0 k O)
      · rw[U j d1]at hj
        exact getD_set_true (b0 j o' h0 hj k O)
    have l0:∀j,(H.setIfInBounds i true).getD j false=true->∀k∈(ancs [] (Y.toList.map pP)).getD j [],(H.setIfInBounds i true).getD k false=true:=
      FM (D:=λ j=>(H.setIfInBounds i true).getD j false=true) _ [] (λ j e he hD=>by
        simp only[cW,cO]at he;obtain⟨o',h0,rfl⟩:=he;exact f0 j o' (by simpa using h0) (by simpa using hD)) (λ j _ k O=>by simp at O)
    have v0:∀j,H.getD j false=true->∀k∈(ancs [] (Y.toList.map pP)).getD j [],H.getD k false=true:=
      FM (D:=λ j=>H.getD j false=true) _ [] (λ j e he hD=>by
        simp only[cW,cO]at he;obtain⟨o',h0,rfl⟩:=he;exact b0 j o' (by simpa using h0) (by simpa using hD)) (λ j _ k O=>by simp at O)
    have f1:∀k q,k<i->ps[k]? =some q->conf q p=true->H.getD k false=true:=by intro k q O hq hc;have:=l0 i y0 k (IV r1 O hq hp hc);rwa [U k om]at this
    have m0:∀k q,i<k->ps[k]? =some q->conf p q=true->H.getD k false=false:=by
      intro k q O hq hc;cases B:H.getD k false with
      |false=>rfl
      |true=>have:=v0 k B i (IV r1 O hp hq hc);rw[hl]at this;cases this
    have x1:∀k,k<i->H.getD k false=false->k∉(ancs [] (Y.toList.map pP)).getD i []:=λ k O B hh=>by have:=l0 i y0 k hh;rw[U k om,B]at this;cases this
    have p0:∀k,i<k->H.getD k false=true->i∉(ancs [] (Y.toList.map pP)).getD k []:=λ k O B hh=>by have:=v0 k B i hh;rw[hl]at this;cases this
    obtain ⟨q2,k1,n0,l1⟩:=hv i p hp;have z0:i<ps.length:=(cK.1 hp).1;have m1:=s1 i (jA z0);have q0:∀y,(y∈idsP p.po (mV C (sts i) p.xs)\/y∈(mws i).map (·.1))->(FSt ps vs mws s0 (λ k=>H.getD k false) ps.length).mem y=(sts i).toS.mem y:=λ y hy=>by
      rw[m1];have:=MQ (ps:=ps) (vs:=vs) (mws:=mws) (s:=s0) (f:=λ k=>H.getD k false) (j:=i) (y:=y) (λ k q O hq M=>?_) (λ k q O hq M=>?_) ps.length
      .rw[this,jT (jA z0)]
      · cases B:H.getD k false with
        |true=>rfl
        |false=>
          obtain⟨g1,g2,g3⟩:=l1 k q O hq (x1 k O B);rcases hy with hy|hy
          .exact absurd hy (Dc g1 y M)
          .exact absurd hy (Dc g2 y M)
      · cases B:H.getD k false with
        |false=>rfl
        |true=>
          have d0:i<k:=by
            rcases Nat.lt_or_eq_of_le O with h|h
            .exact h
            .subst h;rw[hl]at B;cases B
          obtain⟨g0,x2,n1,gg⟩:=hv k q hq;obtain⟨g1,g2,g3⟩:=gg i p d0 hp (p0 k d0 B);rcases hy with hy|hy
          .exact absurd hy (Dc g3 y M)
          .exact absurd M (Dc g2 y hy)
    have y1:∀t∈p.rds,(sts i).toS.fr t=(FSt ps vs mws s0 (λ k=>H.getD k false) ps.length).fr t:=λ t ht=>by
      rw[m1];rw[Rr (j:=i) (t:=t) (f:=λ k=>H.getD k false) (λ k q O hq hd=>f1 k q O hq (IW hd (.inl ht)).1) (λ k q O hq hd=>?_) ps.length,jT (jA z0)]
      by_cases d0:k=i
      .subst d0;exact hl
      .exact m0 k q om hq ((IW hd (.inl ht)).2 ht)
    have r0:=Zt (s2:=FSt ps vs mws s0 (λ k=>H.getD k false) ps.length) y1 (λ y hy=>(q0 y (.inl (by rw[Rv];exact hy))).symm) (λ y hy=>(q0 y (.inr hy)).symm) (λ f u2 p2 _ z1 c hc=>by
      rw[Rv,z1]at n0;exact Rh n0 c hc) k1
    have i1:∃id,(FSt ps vs mws s0 (λ k=>H.getD k false) ps.length).mem id=.fresh/\aopS C p (FSt ps vs mws s0 (λ k=>H.getD k false) ps.length) id (λ v mw=>v=vs i/\mw=mws i):=by
      rcases Zv r0 with h1|h1
      .exact⟨_,by rw[q0 _ (.inr h1)];exact(sts i).m_nx,r0⟩
      · refine⟨(sts ps.length).nx,?_,h1 _ (j0 i _ (jA z0))⟩
        rw[MQ (j:=0) (f:=λ k=>H.getD k false) (λ k q O=>om) (λ k q _ hq M=>by
          have h2:=c1 k q _ hq M;have h3:=j0 (k+1) ps.length (cK.1 hq).1;omega) ps.length]
        simp only[Nat.min_zero,FSt];exact t1 _ (j0 0 _ (fS _))
    obtain⟨id,y2,u1⟩:=i1;obtain⟨W,μ,hs⟩:=hs;have p1:=QO hs hG y2 w1 u1 (Q:=Q) (k:=wpAny C.P .any Y Q F (H.setIfInBounds i true)) (λ v mw a' w' z2 hs'=>by
      obtain⟨rfl,rfl⟩:=z2;refine ih _ a' w' (by simpa using c0) ?_ f0 ?_
      · obtain⟨e1,e2⟩:=Rs (vs:=vs) (mws:=mws) (s:=s0) (f:=λ k=>H.getD k false) hp hl (λ k=>(H.setIfInBounds i true).getD k false) y0 U (λ k q O hq q1=>by
          cases hc:conf p q with
          |false=>rfl
          |true=>have:=m0 k q O hq hc;exact absurd (this.symm.trans q1) (by simp)) (λ k q O hq q1 y hy M=>by
          obtain⟨g0,x2,n1,gg⟩:=hv k q hq;obtain⟨g1,g2,g3⟩:=gg i p O hp (p0 k O q1);exact Dc g2 y hy M) ps.length
        have e:FSt ps vs mws s0 (λ k=>(H.setIfInBounds i true).getD k false) ps.length=⟨setF (FSt ps vs mws s0 (λ k=>H.getD k false) ps.length).fr p.dst (vs i),setM (FSt ps vs mws s0 (λ k=>H.getD k false) ps.length).mem (mws i)⟩:=by
          have h1:(FSt ps vs mws s0 (λ k=>(H.setIfInBounds i true).getD k false) ps.length).fr=setF (FSt ps vs mws s0 (λ k=>H.getD k false) ps.length).fr p.dst (vs i):=funext λ t=>by rw[e1 t,AX];simp only[z0,gG]
          have h2:(FSt ps vs mws s0 (λ k=>(H.setIfInBounds i true).getD k false) ps.length).mem=setM (FSt ps vs mws s0 (λ k=>H.getD k false) ps.length).mem (mws i):=funext λ y=>by rw[e2 y,cB z0]
          rw[<-h1,<-h2]
        rw[e];exact hs'
      · have:=MJ (f:=λ k=>H.getD k false) (f':=λ k=>(H.setIfInBounds i true).getD k false) (j:=i) hl y0 U Y.size
        rw[cB hlt]at this;omega)
    simp only[wpOp,ho];split at p1
    .rename_i hw;rw[cB hw];exact .inl p1
    .rename_i hw;rw[bX hw];exact p1
def MR:∀(mw:List (Nat×MS)) (nx:Nat),nx<=nxt nx mw
  |[],nx=>dG _
  |q::mw,nx=>by simp only[nxt];refine dI ?_ (MR mw _);split<;>omega
def Rw:∀{mw:List (Nat×MS)} {nx:Nat},mwOk nx mw->∀y∈mw.map (·.1),y<nxt nx mw
  |q::mw,nx,h,y,hy=>by
    obtain⟨O,U,H⟩:=h;simp only[nxt];rcases cL.1 hy with rfl|hy
    · refine eK ?_ (MR mw _)
      show q.1<_;split<;>omega
    .exact Rw H y hy
def Zx{Q:Exit->St->Prop}{st:St}{dr:List Nat}{an:List (List Nat)}{H:List POp}(hm:C.P.follows .mixedOrders=true)(hG:E.G=C.G)(h:rM C an H st [] λ s=>Q .normal (s.drop dr)):AW C E (.regm dr an H) Q st:=λ x0 hc a w hs=>by
  cases x0 with
  |region id os d=>
   cases d with
   |false=>simp[chkC]at hc
   |true=>
    simp only[chkC,bY,dN]at hc;obtain⟨u0,v0,p0,q0⟩:=hc;have hr:ROk C E.N os 0 H:=by obtain⟨P,G⟩:=C;exact IT os.toList H 0 u0 (by simp) (by simp)
    obtain⟨vs,mws,sts,hK,h0,hv⟩:=Ru H st [] h;subst q0;have y0:∀j,(sts j).nx<=(sts (j+1)).nx\/H.length<=j:=λ j=>by
      by_cases U:j<H.length
      · obtain⟨M,g2,_⟩:=hv j H[j] (by simp[U])
        left;rw[M];exact MR _ _
      .right;omega
    let O:Nat->St:=λ j=>if j<=H.length then sts j else sts H.length
    have hs':∀j,j<=H.length->O j=sts j:=λ j U=>cB U;have z0:∀j,H.length<=j->O j=sts H.length:=λ j U=>by
      show(if j<=H.length then sts j else sts H.length)=_;split
      .rw[show j=H.length by omega]
      .rfl
    have B:∀j,(O j).nx<=(O (j+1)).nx:=λ j=>by
      by_cases U:j<H.length
      · rw[hs' j om,hs' (j+1) om]
        rcases y0 j with h1|h1
        .exact h1
        .omega
      .rw[z0 j om,z0 (j+1) om];exact dG _
    have F:∀i j,i<=j->(O i).nx<=(O j).nx:=λ i j t0=>by
      induction j with
      |zero=>rw[show i=0 by omega];exact dG _
      |succ j Y=>
        by_cases hi:i=j+1
        .rw[hi];exact dG _
        .exact dI (Y om) (B j)
    have r0:∀j,j<=H.length->(O j).toS=FSt H vs mws st.toS (λ _=>true) j:=λ j U=>by
      rw[hs' j U];induction j with
      |zero=>rw[h0];rfl
      |succ j Y=>
        obtain⟨M,g2,_⟩:=hv j H[j] (by simp[show j<H.length by omega]);have Y:=Y om;rw[M,IM _ _ _ _ g2];have hq:H[j]? =some H[j]:=by simp[show j<H.length by omega]
        simp only[FSt,hq,cH];rw[<-Y];rfl
    refine wp_region_any hm ?_;refine Zw (s0:=st.toS) (vs:=vs) (mws:=mws) (sts:=O) (K:=λ s=>Q .normal (s.drop dr)) hG hr v0 p0 (by rw[hs' _ (dG _)];exact hK) r0 (λ j p hp=>?_) F (λ y hy=>?_) (λ j p y hp hy=>?_) (λ st' a' w' hQ hs'=>⟨_,hQ,hs'.drop⟩) os.size _ a _ (by simp) ?_ (λ j o ho U=>?_) ?_
    · have U:=(cK.1 hp).1
      obtain⟨M,g2,g3,g4,_,g6⟩:=hv j p hp;rw[hs' j om];refine⟨g2,g3,g4,λ i q hi hq hn=>?_⟩;rw[hs' i om];simp only[Ym,eC]at g6;exact g6 i q hi hq hn
    · rw[hs' 0 (fS _),h0]at hy
      exact ME st y hy
    · have U:=(cK.1 hp).1
      obtain⟨M,g2,_⟩:=hv j p hp;rw[hs' (j+1) om,M];exact Rw g2 y hy
    · have e:FSt H vs mws st.toS (λ i=>(Array.replicate os.size false).getD i false) H.length=FSt H vs mws st.toS (λ _=>false) H.length:=MP _ λ i _=>by simp[Array.getD]
      have e2:∀n,FSt H vs mws st.toS (λ _=>false) n=st.toS:=λ n=>by
        induction n with
        |zero=>rfl
        |succ n Y=>simp only[FSt,Y,bZ,cI];split<;>rfl
      rw[e,e2];exact hs.drawn (kK _)
    .simp[Array.getD]at U
    · have:∀n,left (λ i=>(Array.replicate os.size false).getD i false) n<=n:=λ n=>by
        induction n with
        |zero=>exact dG _
        |succ n Y=>simp only[left];split<;>omega
      exact this _
  |_=>simp[chkC]at hc
end
def memN(n:Nat):List Nat->Bool
 |[]=>false
 |m::ms=>if n=m then true else memN n ms
def MT{n:Nat}:∀{l:List Nat},memN n l=true↔n∈l
 |[]=>by simp[memN]
 |m::ms=>by
  unfold memN;split
  .rename_i h;simp[h]
  .rename_i h;rw[MT];simp[h]
def fzA(ids:List Nat)(m:Nat->MS):A->A
 | .own y lo n=>if memN y ids=true then frz1 m (.own y lo n)else .own y lo n
 |a=>a
def fzCs(ids:List Nat)(m:Nat->MS):List A->List A
 |[]=>[]
 |a::as=>fzA ids m a::fzCs ids m as
def fzV(ids:List Nat)(m:Nat->MS):A->A
 | .agg H=>if mK H=true then .agg H else .agg (fzCs ids m H)
 |a=>fzA ids m a
def fzEs(ids:List Nat)(m:Nat->MS)(es:List (List A)):List (List A):=if pureEs es=true then es else es.map (fzCs ids m)
def fzFr(ids:List Nat)(m:Nat->MS):List (Nat×A)->List (Nat×A)
 |[]=>[]
 |q::r=>(q.1,fzV ids m q.2)::fzFr ids m r
def FP(ids:List Nat)(m:Nat->MS):List (Nat×Row)->List (Nat×Row)
 |[]=>[]
 |q::r=>(q.1,⟨q.2.ro||memN q.1 ids,q.2.sz,q.2.z,fzEs ids m q.2.es⟩)::FP ids m r
def Dd(ids:List Nat)(m:Nat->MS):A->Prop
 | .own y lo n=>if memN y ids=true then sM m (.own y lo n)else True
 |_=>True
def De(ids:List Nat)(m:Nat->MS):List A->Prop
 |[]=>True
 |a::as=>Dd ids m a/\De ids m as
def FQ(ids:List Nat)(m:Nat->MS):A->Prop
 | .agg H=>if mK H=true then True else De ids m H
 |a=>Dd ids m a
def I3(ids:List Nat)(m:Nat->MS):List (List A)->Prop
 |[]=>True
 |c::cs=>De ids m c/\I3 ids m cs
def I4(ids:List Nat)(m:Nat->MS)(es:List (List A)):Prop:=if pureEs es=true then True else I3 ids m es
def I5(ids:List Nat)(m:Nat->MS):List (Nat×A)->Prop
 |[]=>True
 |q::r=>FQ ids m q.2/\I5 ids m r
def I6(ids:List Nat)(m:Nat->MS):List (Nat×Row)->Prop
 |[]=>True
 |q::r=>I4 ids m q.2.es/\I6 ids m r
def St.fz(st:St)(ids:List Nat):St:=⟨fzFr ids st.m st.fr,FP ids st.m st.mem,st.nx⟩
def St.fzOk(st:St)(ids:List Nat):Prop:=I5 ids st.m st.fr/\I6 ids st.m st.mem
section
variable {C:Cx} {a:Act} {E:Env} {st:St} {w:World} {W:Nat→Prop} {μ:Nat→Loc}
def MU(ids:List Nat)(m:Nat->MS):∀(H:List A) (i:Nat),(fzCs ids m H)[i]? =(H[i]?).map (fzA ids m)
 |[],i=>by simp[fzCs]
 |c::H,i=>by
  cases i with
  |zero=>simp[fzCs]
  |succ i=>simp[fzCs,MU ids m H i]
def MV(ids:List Nat)(m:Nat->MS):∀H:List A,(fzCs ids m H).length=H.length
 |[]=>rfl
 |_::H=>by simp[fzCs,MV ids m H]
def MW{ids:List Nat}{m:Nat->MS}:∀{H:List A},De ids m H->∀c∈H,Dd ids m c
 |c::H,h,d,hd=>by
  rcases cL.1 hd with rfl|hd
  .exact h.1
  .exact MW h.2 d hd
def Rx{ids:List Nat}{m:Nat->MS}:∀{H:List (List A)},I3 ids m H->∀c∈H,De ids m c
 |c::H,h,d,hd=>by
  rcases cL.1 hd with rfl|hd
  .exact h.1
  .exact Rx h.2 d hd
def Ry(ids:List Nat)(m:Nat->MS)(t:Nat):∀fr:List (Nat×A),look (fzFr ids m fr) t=(look fr t).map (fzV ids m)
 |[]=>rfl
 |q::r=>by
  simp only[fzFr,look];split
  .rfl
  .exact Ry ids m t r
def Rz(ids:List Nat)(m:Nat->MS)(x:Nat):∀mem:List (Nat×Row),look (FP ids m mem) x=(look mem x).map λ r=>⟨r.ro||memN x ids,r.sz,r.z,fzEs ids m r.es⟩
 |[]=>rfl
 |q::r=>by
  simp only[FP,look];split
  .rename_i h;subst h;rfl
  .exact Rz ids m x r
def RA{ids:List Nat}{m:Nat->MS}:∀{fr:List (Nat×A)},I5 ids m fr->∀t v,look fr t=some v->FQ ids m v
 |q::r,h,t,v,hv=>by
  simp only[look]at hv;split at hv
  .cases hv;exact h.1
  .exact RA h.2 t v hv
def RB{ids:List Nat}{m:Nat->MS}:∀{mem:List (Nat×Row)},I6 ids m mem->∀x r,look mem x=some r->I4 ids m r.es
 |q::r,h,t,v,hv=>by
  simp only[look]at hv;split at hv
  .cases hv;exact h.1
  .exact RB h.2 t v hv
def RepK.less{v:Value}{x:A}{ids:List Nat}(h:RepK w W μ v x):RepK w (sC W μ ids) μ v x:=
 h.goes (Keeps.refl (λ _=>False) w) (λ _ _ _ h=>h) (λ _ _ H O=>H O.1) (Old.refl μ)
def MX{s:S}(U:SatW E s a w W μ){v:Value}{x:A}{ids:List Nat}(h:RepK w W μ v x)(H:Dd ids s.mem x):RepK w (sC W μ ids) μ v (fzA ids s.mem x):=by
 cases x with
 |own y lo n=>
  simp only[fzA,Dd]at H⊢;split
  .rename_i hy;rw[cB hy]at H;exact nN (Mx U h H (λ z O=>by simp[qY]at O;subst O;exact MT.1 hy))
  .exact h.less
 |_=>exact h.less
def Zy{s:S}(U:SatW E s a w W μ){v:Value}{x:A}{ids:List Nat}(h:Rep w W μ v x)(H:FQ ids s.mem x):Rep w (sC W μ ids) μ v (fzV ids s.mem x):=by
 have O:Rep w (sC W μ ids) μ v x:=h.goes (Keeps.refl (λ _=>False) w) (λ _ _ _ h=>h) (λ _ _ B F=>B F.1) (Old.refl μ);cases x with
 |own y lo n=>exact nG (nL (MX (x:=.own y lo n) U h H))
 |agg cs=>
  simp only[fzV,FQ]at H⊢;split
  .exact O
  .rename_i M;rw[bX M]at H;obtain⟨vs,hv,hl,hr⟩:=h;refine⟨vs,hv,by rw[MV];exact hl,λ i u b hu hb=>?_⟩;rw[MU]at hb;obtain⟨c,Y,rfl⟩:=cO.1 hb;exact MX U (hr i u c hu Y) (MW H c (cV Y))
 |_=>exact O
@[go_sem] theorem Zz(ids:List Nat)(m:Nat->MS)(s:List Nat):(s.map iE).map (fzCs ids m)=s.map iE:=by simp[iE,fzCs,fzA]
def ZA{ids:List Nat}{m:Nat->MS}{y c:Nat}{H:List Nat}:fzEs ids m ([.mp y,.int .i64 c]::H.map iE)=[.mp y,.int .i64 c]::H.map iE:=by unfold fzEs;rw[bX (by simp[pureEs,mK,A.pure1]),dO,Zz];rfl
def ZB{s:S}(H:SatW E s a w W μ)(ids:List Nat):zB w (sC W μ ids) E.G:=λ g O hg=>by obtain⟨U,Y,B⟩:=H.glob g O hg;refine⟨λ F=>U F.1,Y,λ j b M=>?_⟩;obtain⟨u,hu,hr⟩:=B j b M;exact⟨u,hu,hr.less⟩
def St.le_fz(ids:List Nat)(h:st.fzOk ids):St.le E st (st.fz ids):=by
 intro a w ⟨W,μ,hs⟩;refine⟨sC W μ ids,μ,{hs with
  fr:=λ t=>?_
  mem:=λ x=>?_
  wsub:=λ b hb=>hs.wsub b hb.1
  wsup:=λ b hb=>?_
  wlt:=λ b hb=>hs.wlt b hb.1
  glob:=ZB hs ids}⟩
 .show Rep w _ μ _ ((st.fz ids).slot t);have U:Rep w W μ _ (st.slot t):=hs.fr t;simp only[St.slot,St.fz,Ry]at U⊢;cases hl:look st.fr t with
  |none=>trivial
  |some v=>rw[hl]at U;exact Zy hs U (RA h.1 t v hl)
 .show qN w _ μ x ((st.fz ids).m x);have hm:qN w W μ x (st.m x):=hs.mem x;simp only[St.m,St.fz,Rz]at hm⊢;split
  .rename_i hx;rw[cB hx]at hm;exact hm
  .rename_i hx;rw[bX hx]at hm;cases hl:look st.mem x with
   |none=>rw[hl]at hm;exact hm
   |some r=>
    rw[hl]at hm;have x0:=RB h.2 x r hl;have Y:∀k,μ x=.at_ k->(r.ro=false->W k.b)->(r.ro||memN x ids)=false->sC W μ ids k.b:=λ k F O M=>by simp only[iX]at M;refine⟨O M.1,λ⟨y,ky,hy,v0,p0⟩=>?_⟩;have:=hs.inj y x ky k v0 F p0;subst this;rw[MT.2 hy]at M;cases M.2
    rcases hm with⟨F,e2,e3⟩|⟨k,F,⟨O,B,H,us,y0,e,h4,h5,h6⟩|gM|gI⟩
    .exact .inl ⟨F,by show fzEs ids st.m r.es=[];rw[e2];rfl,e3⟩
    rotate_left
    .have hp:=gM.pure;obtain⟨O,B,H,es,h4,h5,h6⟩:=gM;refine .inr ⟨k,F,.inr (.inl ⟨λ U=>Y k F O U,B,H,es,h4,?_,λ i e c q1 q2=>?_⟩)⟩
     .show es.size=(fzEs ids st.m r.es).length;unfold fzEs;rw[cB hp];exact h5
     .have q3:(fzEs ids st.m r.es)[i]? =some c:=q2;unfold fzEs at q3;rw[cB hp]at q3;exact(h6 i e c q1 q3).keep (Keeps.refl (λ _=>False) w) (λ _ _ _ h=>h) (λ _ _ h h2=>h h2.1)
    .obtain⟨O,B,H,hz,y,b,c,z0,h4,h5,h6⟩:=gI;exact .inr ⟨k,F,.inr (.inr ⟨λ U=>Y k F O U,B,H,hz,y,b,c,z0,by show fzEs ids st.m r.es=_;rw[h4];exact ZA,h5,h6⟩)⟩
    .refine .inr ⟨k,F,.inl ⟨λ U=>Y k F O U,B,H,us,y0,e,h4,h5,?_⟩⟩
     .show Flat _ r.sz us (fzEs ids st.m r.es);unfold fzEs;unfold I4 at x0;split
      .exact h6.mono λ u b U=>U.less
      .rename_i hp;rw[bX hp]at x0;refine⟨by simpa using h6.hl,λ i c hc=>?_,λ i c j b hc hb=>?_⟩
       .simp only[cW,cO]at hc;obtain⟨c0,h0,rfl⟩:=hc;rw[MV];exact h6.hs i c0 h0
       .simp only[cW,cO]at hc;obtain⟨c0,h0,rfl⟩:=hc;rw[MU]at hb;obtain⟨b0,u0,rfl⟩:=cO.1 hb;obtain⟨u,hu,U⟩:=h6.ha i c0 j b0 h0 u0;exact⟨u,hu,MX hs U (MW (Rx x0 c0 (cV h0)) b0 (cV u0))⟩
 .rcases hs.wsup b hb with h1|h1
  .by_cases hx:∃x k,x∈ids/\μ x=.at_ k/\k.b=b
   .obtain⟨x,k,_,q0,r0⟩:=hx;rcases hs.live x k q0 with h2|h2
    .exact .inr (r0▸h2)
    .have:=hs.winlt b hb;omega
   .exact .inl ⟨h1,hx⟩
  .exact .inr h1
def St.own0(st:St)(t sz:Nat)(z:List A):St:=⟨(t,.own st.nx 0 0)::rm t st.fr,(st.nx,⟨false,sz,z,[]⟩)::st.mem,st.nx+1⟩
def St.le_own0(t sz:Nat)(z:List A)(hz:0<sz)(h:st.slot t=.full []):St.le E st (st.own0 t sz z):=by
 intro a w ⟨W,μ,hs⟩;have U:=Step.newEmpty (r:=⟨false,sz,z,[]⟩) hs.mem hs.inj hs.wlt (St.m_nx st) hz rfl (Keeps.refl _ w);have Y:=hs.step (d:=none) (v:=undef) (av:=.any) U (λ x hx=>by cases hx) trivial;have B:(st.own0 t sz z).m=setM st.m [(st.nx,.row ⟨false,sz,z,[]⟩)]:=by
  funext x;simp only[St.m,St.own0,setM,look]
  by_cases hx:x=st.nx
  .subst hx;rw[bX om,cB rfl,cB rfl]
  .by_cases O:st.nx<=x
   .rw[cB (show st.nx+1<=x by omega),bX hx,cB O]
   .rw[bX (show¬st.nx+1<=x by omega),bX (show¬st.nx=x by omega),bX hx,bX O]
 refine⟨_,_,{Y with fr:=λ H=>?_,mem:=?_}⟩
 .have O:=Y.fr H;show Rep w W _ (a.tmps.getD H undef) ((st.own0 t sz z).slot H);have F:Rep w W (λ x=>if x=st.nx then .empty else μ x) (a.tmps.getD H undef) (st.slot H):=O;simp only[St.slot,St.own0,look];split
  .rename_i ht;subst ht;rw[h]at F;have M:RepC w W (a.tmps.getD t undef) (.full []):=F;generalize a.tmps.getD t undef=v at M;cases M with
   |full ad n es h6=>
    cases h6 with
    |sl0=>exact Me (by simp) 0
    |sl b h0 x0 s es us _ _ hn=>simp at hn
  .rename_i ht;rw[xG,bX (λ e=>ht e.symm)];exact F
 .show rI w W _ (st.own0 t sz z).m;rw[B];exact Y.mem
def zM(j n:Nat):List (List A)->List (List A)
 |[c]=>[upd c j [.own n 0 0]]
 |es=>es
def FR(x j n:Nat):List (Nat×Row)->List (Nat×Row)
 |[]=>[]
 |q::r=>if q.1=x then(q.1,⟨q.2.ro,q.2.sz,q.2.z,zM j n q.2.es⟩)::r else q::FR x j n r
def MY(j:Nat):List (List A)->Prop
 |[c]=>sub c j 1=[.full []]
 |_=>False
def St.ownb(st:St)(x j sz:Nat)(z:List A):St:=⟨st.fr,(st.nx,⟨false,sz,z,[]⟩)::FR x j st.nx st.mem,st.nx+1⟩
def St.ownbOk(st:St)(x j sz:Nat):Prop:=0<sz/\match st.m x with
 | .row r=>0<r.sz/\MY j r.es
 |_=>False
def RC(x j n y:Nat):∀mem:List (Nat×Row),look (FR x j n mem) y=(look mem y).map λ r=>if y=x then⟨r.ro,r.sz,r.z,zM j n r.es⟩else r
 |[]=>rfl
 |q::r=>by
  simp only[FR];split
  .rename_i h;simp only[look];split
   .rename_i H;simp[<-H,h]
   .rename_i H;have:¬y=x:=λ e=>H (h.trans e.symm);cases look r y<;>simp[this]
  .rename_i h;simp only[look];split
   .rename_i H;simp[<-H,h]
   .exact RC x j n y r
def ZC{v:Value}{x:Nat}(hx:μ x=.empty)(h:RepK w W μ v (.full [])):RepK w W μ v (.own x 0 0):=by
 have H:RepC w W v (.full []):=h;cases H with
 |full O n es U=>
  cases U with
  |sl0=>refine⟨rfl,?_⟩;rw[hx];exact⟨rfl,O,rfl⟩
  |sl b Y B s es us _ _ F=>simp at F
def St.le_ownb(x j sz:Nat)(z:List A)(h:st.ownbOk x j sz):St.le E st (st.ownb x j sz z):=by
 obtain⟨hz,H⟩:=h;intro a w ⟨W,μ,hs⟩;have h0:=Step.newEmpty (r:=⟨false,sz,z,[]⟩) hs.mem hs.inj hs.wlt (St.m_nx st) hz rfl (Keeps.refl _ w);have h2:=hs.step (d:=none) (v:=undef) (av:=.any) h0 (λ x hx=>by cases hx) trivial;refine⟨_,_,{h2 with fr:=λ t=>h2.fr t,mem:=λ y=>?_}⟩;have hm:=h2.mem y;have u0:x<st.nx:=by
  cases hr:st.m x with
  |fresh=>rw[hr]at H;exact H.elim
  |dead=>rw[hr]at H;exact H.elim
  |row r=>exact St.m_row hr
 show qN w W _ y ((st.ownb x j sz z).m y);have O:qN w W (λ x=>if x=st.nx then .empty else μ x) y (setM st.m [(st.nx,.row ⟨false,sz,z,[]⟩)] y):=hm;simp only[setM]at O
 by_cases hy:y=st.nx
 .subst hy;have e:(st.ownb x j sz z).m st.nx=.row ⟨false,sz,z,[]⟩:=by
   simp only[St.m,St.ownb,look];rw[bX om];simp
  rw[cB rfl]at O;rw[e];exact O
 rw[bX hy]at O;have e:(st.ownb x j sz z).m y=match st.m y with
   | .row r=>.row (if y=x then⟨r.ro,r.sz,r.z,zM j st.nx r.es⟩else r)
   |q=>q:=by
  simp only[St.m,St.ownb,look,RC]
  by_cases h3:st.nx<=y
  .rw[cB (show st.nx+1<=y by omega),cB h3]
  .rw[bX (show¬st.nx+1<=y by omega),bX (show¬st.nx=y by omega),bX h3];cases look st.mem y<;>rfl
 rw[e];cases hr:st.m y with
 |fresh=>rw[hr]at O;exact O
 |dead=>rw[hr]at O;exact O
 |row r=>
  rw[hr]at O;simp only
  by_cases Y:y=x
  .subst Y;rw[cB rfl];rw[hr]at H;obtain⟨v0,H⟩:0<r.sz/\MY j r.es:=H;rcases O with⟨g1,g2,g3⟩|⟨k,g1,gA⟩
   .rw[g2]at H;exact H.elim
   .obtain⟨g2,g3,g4,us,B,e',g5,g6,M⟩:=gA.ok (by have:=gA.wr.2;omega);refine .inr ⟨k,g1,.inl ⟨g2,g3,g4,us,B,e',g5,g6,?_⟩⟩;show Flat _ r.sz us (zM j st.nx r.es);obtain⟨ro,x0,z',es⟩:=r
    match es,H with
    |[c],H=>
     have hj:sub c j 1=[.full []]:=H;have hc:c.length=x0:=M.hs 0 c rfl;have F:c[j]? =some (.full []):=by
      have h8:((c.drop j).take 1)[0]? =some (.full []):=by show(sub c j 1)[0]? =_;rw[hj];rfl
      simpa [eA,eG]using h8
     have hlt:j<c.length:=(cK.1 F).1;have hu:upd c j [.own st.nx 0 0]=c.set j (.own st.nx 0 0):=by simp only[upd,ym,Ym,eC];rw[jK,cB hlt];simp
     refine⟨M.hl,λ i d U=>?_,λ i d q b U hb=>?_⟩
     .cases i with
      |zero=>simp[zM]at U;subst U;rw[hu,dW];exact hc
      |succ i=>simp[zM]at U
     .cases i with
      |zero=>
       simp[zM]at U;subst U;rw[hu,List.getElem?_set]at hb;split at hb
       .rename_i hq;subst hq;cases hb;obtain⟨u,y0,z0⟩:=M.ha 0 c j _ rfl F;exact⟨u,y0,ZC (by simp) z0⟩
       .exact M.ha 0 c q b rfl hb
      |succ i=>simp[zM]at U
  .rw[bX Y];exact O
def unfA:A->A
 | .full es=>.sl es
 |a=>a
def rA:List A->List A
 |[]=>[]
 |a::as=>unfA a::rA as
def FS:List (Nat×Row)->List (Nat×Row)
 |[]=>[]
 |q::r=>(q.1,⟨q.2.ro,q.2.sz,q.2.z,q.2.es.map rA⟩)::FS r
def St.unf(st:St):St:=⟨st.fr,FS st.mem,st.nx⟩
def MZ:∀(H:List A) (i:Nat),(rA H)[i]? =(H[i]?).map unfA
 |[],i=>by simp[rA]
 |c::H,i=>by
  cases i with
  |zero=>simp[rA]
  |succ i=>simp[rA,MZ H i]
def M0:∀H:List A,(rA H).length=H.length
 |[]=>rfl
 |_::H=>by simp[rA,M0 H]
def RD(x:Nat):∀mem:List (Nat×Row),look (FS mem) x=(look mem x).map λ r=>⟨r.ro,r.sz,r.z,r.es.map rA⟩
 |[]=>rfl
 |q::r=>by
  simp only[FS,look];split
  .rfl
  .exact RD x r
def ZD{v:Value}{x:A}(h:RepK w W μ v x):RepK w W μ v (unfA x):=by
 cases x with
 |full es=>
  have H:RepC w W v (.full es):=h;cases H with
  |full a n es O=>exact nN O
 |_=>exact h
@[go_sem] theorem ZE(s:List Nat):(s.map iE).map rA=s.map iE:=by simp[iE,rA,unfA]
def RE{v:Value}{x:A}(h:RepC w W v x):RepC w W v (unfA x):=by
 cases x with
 |full es=>cases h with|full a n es H=>exact H
 |_=>exact h
def sV.unf{z:List A}{i:Nat}{e:MapEntry}{c:List A}(h:sV w W z i e c):sV w W z i e (rA c):=by
 obtain⟨U,k,Y,B,rfl,F,O,M,H⟩:=h;refine⟨U,k,rA Y,B,?_,F,O,M,?_⟩
 .simp only[rA];congr 1;generalize z.headD .any=zk at O;cases zk<;>cases k<;>first|rfl|(simp[pW,key1]at O)
 .unfold RepX at*;split
  .rename_i ha;rw[cB ha]at H;obtain⟨vs,g1,g2,g3⟩:=H;refine⟨vs,g1,by rw[M0];exact g2,λ j u b p q=>?_⟩;rw[MZ]at q;obtain⟨b0,q0,rfl⟩:=cO.1 q;exact RE (g3 j u b0 p q0)
  .rename_i ha;rw[bX ha]at H;obtain⟨b,rfl,g⟩:=H;exact⟨unfA b,rfl,RE g⟩
def St.le_unf:St.le E st st.unf:=by
 intro a w ⟨W,μ,hs⟩;refine⟨W,μ,{hs with mem:=λ x=>?_}⟩;show qN w W μ x (st.unf.m x);have hm:qN w W μ x (st.m x):=hs.mem x;simp only[St.m,St.unf,RD]at hm⊢;split
 .rename_i hx;rw[cB hx]at hm;exact hm
 .rename_i hx;rw[bX hx]at hm;cases hl:look st.mem x with
  |none=>rw[hl]at hm;exact hm
  |some r=>
   rw[hl]at hm;rcases hm with⟨F,e2,e3⟩|⟨k,F,⟨O,U,H,us,M,e,h4,h5,B⟩|⟨O,U,H,es,h4,h5,B⟩|⟨O,U,H,hz,y,b,c,h0,h4,h5,B⟩⟩
   .exact .inl ⟨F,by show r.es.map rA=[];rw[e2];rfl,e3⟩
   rotate_left
   .refine .inr ⟨k,F,.inr (.inl ⟨O,U,H,es,h4,by show es.size=(r.es.map rA).length;simpa using h5,λ i e c q1 q2=>?_⟩)⟩;have q3:(r.es.map rA)[i]? =some c:=q2;simp only[cW,cO]at q3;obtain⟨c0,Y,rfl⟩:=q3;exact(B i e c0 q1 Y).unf
   .exact .inr ⟨k,F,.inr (.inr ⟨O,U,H,hz,y,b,c,h0,by show r.es.map rA=_;rw[h4,dO,ZE];rfl,h5,B⟩)⟩
   .refine .inr ⟨k,F,.inl ⟨O,U,H,us,M,e,h4,h5,?_⟩⟩;show Flat _ r.sz us (r.es.map rA);refine⟨by simpa using B.hl,λ i c hc=>?_,λ i c j b hc hb=>?_⟩
    .simp only[cW,cO]at hc;obtain⟨c0,Y,rfl⟩:=hc;rw[M0];exact B.hs i c0 Y
    .simp only[cW,cO]at hc;obtain⟨c0,Y,rfl⟩:=hc;rw[MZ]at hb;obtain⟨b0,x0,rfl⟩:=cO.1 hb;obtain⟨u,hu,hr⟩:=B.ha i c0 j b0 Y x0;exact⟨u,hu,ZD hr⟩
def St.cast(st:St)(t:Nat)(v:A):St:=⟨(t,v)::rm t st.fr,st.mem,st.nx⟩
def St.le_cast(t:Nat)(v:A)(h:st.slot t=v):St.le E st (st.cast t v):=by
 have e:(st.cast t v).toS=st.toS:=by
  simp only[St.toS];congr 1;funext x;simp only[St.slot,St.cast,look];split
  .rename_i hx;subst hx;exact h.symm
  .rename_i hx;rw[xG,bX (λ e=>hx e.symm)]
 intro a w H;rw[e];exact H
def St.unfs(st:St)(t:Nat):St:=⟨(t,unfA (st.slot t))::rm t st.fr,st.mem,st.nx⟩
def St.le_unfs(t:Nat):St.le E st (st.unfs t):=by
 intro a w ⟨W,μ,hs⟩;refine⟨W,μ,{hs with fr:=λ H=>?_}⟩;show Rep w W μ (a.tmps.getD H undef) ((st.unfs t).slot H);have O:Rep w W μ (a.tmps.getD H undef) (st.slot H):=hs.fr H
 by_cases h:t=H
 .subst h;have e:(st.unfs t).slot t=unfA (st.slot t):=by simp[St.slot,St.unfs,look]
  rw[e];generalize st.slot t=x at O⊢;cases x with
  |full es=>have U:RepC w W (a.tmps.getD t undef) (.full es):=O;exact nG (nL (nN U.of_full.1))
  |_=>exact O
 .have e:(st.unfs t).slot H=st.slot H:=by
   simp only[St.slot,St.unfs,look];rw[bX h,xG,bX (λ e=>h e.symm)]
  rw[e];exact O
inductive Gh where
 |unf
 |cast (t:Nat) (v:A)
 |fz (ids:List Nat)
 |own0 (t sz:Nat) (z:List A)
 |ownb (x j sz:Nat) (z:List A)
 |unfs (t:Nat)
def St.gh(st:St):Gh->St
 | .unf=>st.unf
 | .cast t v=>st.cast t v
 | .fz H=>st.fz H
 | .own0 t O z=>st.own0 t O z
 | .ownb x j O z=>st.ownb x j O z
 | .unfs t=>st.unfs t
def St.ghOk(st:St):Gh->Prop
 | .unf=>True
 | .cast t v=>st.slot t=v
 | .fz H=>st.fzOk H
 | .own0 t O _=>0<O/\st.slot t=.full []
 | .ownb x j O _=>st.ownbOk x j O
 | .unfs _=>True
def St.le_gh(g:Gh)(h:st.ghOk g):St.le E st (st.gh g):=by
 cases g with
 |unf=>exact St.le_unf
 |cast t v=>exact St.le_cast t v h
 |fz H=>exact St.le_fz H h
 |own0 t O z=>exact St.le_own0 t O z h.1 h.2
 |ownb x j O z=>exact St.le_ownb x j O z h
 |unfs t=>exact St.le_unfs t
def ZF{c:PC}{Q:Exit->St->Prop}(g:Gh)(H:st.ghOk g)(h:AW C E c Q (st.gh g)):AW C E c Q st:=AW.weak (St.le_gh g H) h
end
def xJ(C:Cx)(f:FuncId)(d:Option Nat)(g:Option (Nat×Bool))(H:Bool)(O:Prop)(args:List A)(rw:List (Nat×MS))(ps:List POp)(st:St)(K:St->Prop):Prop:=
 ∃r,(H=true->O/\PFn C f args r)/\(g=none\/(if r.scal then[]else rw)=[]/\r.isVV=true)/\arun C ps (st.app d (oF g H r) (if r.scal then[]else rw)) K
def ZG{C:Cx}{f:FuncId}{d:Option Nat}{g:Option (Nat×Bool)}{H:Bool}{O:Prop}{args:List A}{rw:List (Nat×MS)}{ps:List POp}{st:St}{K:St->Prop}{r:A}
  (U:H=true->PFn C f args r) (h:arun C ps (st.app d (oF g H r) (if r.scal then[]else rw)) K)
  (ho:H=true->O:=by intro;trivial) (hg:g=none\/(if r.scal then[]else rw)=[]/\r.isVV=true:=by first|exact .inl rfl|exact .inr ⟨rfl,rfl⟩):xJ C f d g H O args rw ps st K:=⟨r,λ e=>⟨ho e,U e⟩,hg,h⟩
def sO(C:Cx)(f:FuncId)(d:Option Nat)(g:Option (Nat×Bool))(O:Bool)(U:Prop)(H:List A)(ps:List POp)(st:St)(K:St->Prop):Prop:=
 tI C st.m st.nx f H g O U (λ _=>True) λ v Y=>arun C ps (st.app d v Y) K
def wC:A->Bool
 | .cnd _ _=>false
 |_=>true
def FT{r:A}(h:wC r=true):∀g c,r≠.cnd g c:=λ g c e=>by subst e;cases h
def ZH{C:Cx}{f:FuncId}{d:Option Nat}{Y:Prop}{H:List A}{ps:List POp}{st:St}{K:St->Prop}(l:List (Nat×Nat)){O:List A}{ms ms':List (Nat×Row)}{k k':Nat}{r:A}
  (B:MFn C f O ms k r ms' k') (U:okM st.m st.nx l H O ms k k') (h:arun C ps (st.app d (renR (l++newL k st.nx (k'-k)) r) (mwM st.m (l++newL k st.nx (k'-k)) H O ms ms' k k')) K)
  (ho:Y:=by trivial) (F:wC r=true:=by rfl):sO C f d none true Y H ps st K:=
 ⟨l,O,ms,k,r,ms',k',λ _=>⟨ho,B,U,trivial⟩,(λ h=>nomatch h),.inl rfl,FT F,h⟩
def ZI{C:Cx}{f:FuncId}{d:Option Nat}{g:Option (Nat×Bool)}{O:Bool}{B:Prop}{H:List A}{ps:List POp}{st:St}{K:St->Prop}(l:List (Nat×Nat)){U:List A}{ms ms':List (Nat×Row)}{k:Nat}{r:A}
  (F:O=true->MFn C f U ms k r ms' k) (Y:O=true->okM st.m st.nx l H U ms k k) (M:O=false->zI st.m (mwM st.m l H U ms ms' k k)) (h:arun C ps (st.app d (oF g O (renR l r)) (mwM st.m l H U ms ms' k k)) K)
  (ho:O=true->B) (hr:wC r=true:=by rfl) (hv:(renR l r).isVV=true:=by rfl):sO C f d g O B H ps st K:=by
 have e:l++newL k st.nx (k-k)=l:=by rw[gY];exact eE l
 refine⟨l,U,ms,k,r,ms',k,λ h=>⟨ho h,F h,Y h,trivial⟩,?_⟩;rw[e];exact⟨λ h=>⟨rfl,M h⟩,.inr hv,FT hr,h⟩
def ZJ(C:Cx)(st:St)(K:St->Prop):arun C [] st K=K st:=rfl
def ZK(C:Cx)(d:Option Nat)(g:Option (Nat×Bool))(po:PO)(xs:List PX)(ps:List POp)(st:St)(K:St->Prop):
  arun C (⟨d,g,po,xs⟩::ps) st K=(match po with
   | .call f=>(match pX st g with
    |none=>False
    |some H=>xJ C f d g H (pN C st xs/\pM st.m (mV C st xs)) (oT st.m (mV C st xs)) (oE st.m (qZ (mV C st xs))) ps st K)
   | .callv=>(match pX st g with
    |none=>False
    |some H=>(match mV C st xs with
     | .clo f caps::vals=>xJ C f d g H (pN C st xs/\pG C.P f=true/\pM st.m (vals++caps)) (oT st.m (vals++caps)) (oE st.m (qZ (vals++caps))) ps st K
     |_=>False))
   | .callb=>(match pX st g with
    |none=>False
    |some H=>(match mV C st xs with
     | .bnd f cs::vals=>xJ C f d g H (pN C st xs/\pG C.P f=true/\pM st.m (.agg cs::vals)) (oT st.m (.agg cs::vals)) (oE st.m (qZ (.agg cs::vals))) ps st K
     |_=>False))
   | .callm f=>(match pX st g with
    |none=>False
    |some H=>sO C f d g H (pN C st xs) (mV C st xs) ps st K)
   | .callvm=>(match pX st g with
    |none=>False
    |some H=>(match mV C st xs with
     | .clo f caps::vals=>sO C f d g H (pN C st xs/\pG C.P f=true) (vals++caps) ps st K
     |_=>False))
   | .next O=>g=none/\pN C st xs/\nxtQ O st.m (λ v U=>arun C ps (st.app d v U) K) (mV C st xs)
   | .entry O=>g=none/\pN C st xs/\entQ O st.m (λ v U=>arun C ps (st.app d v U) K) (mV C st xs)
   | .eqNil=>g=none/\pN C st xs/\nilQ (λ b=>arun C ps (st.app d (.bool b) []) K) (mV C st xs)
   |po=>aop C ⟨d,g,po,xs⟩ st λ st'=>arun C ps st' K):=by
 cases po with
 |eqNil=>rfl
 |next O=>rfl
 |entry O=>rfl
 |call f=>
  simp only[arun,aop,xJ,PO.isNilQ,PO.isNext,bZ,cI];cases pX st g with
  |none=>rfl
  |some H=>simp only[nW,fV]
 |callv=>
  simp only[arun,aop,PO.isNilQ,PO.isNext,bZ,cI];cases pX st g with
  |none=>rfl
  |some H=>
   simp only;generalize mV C st xs=vv;rcases vv with _|⟨x,vs⟩
   .rfl
   .cases x<;>first|rfl|(simp only[xJ,nW,fV])
 |callb=>
  simp only[arun,aop,PO.isNilQ,PO.isNext,bZ,cI];cases pX st g with
  |none=>rfl
  |some H=>
   simp only;generalize mV C st xs=vv;rcases vv with _|⟨x,vs⟩
   .rfl
   .cases x<;>first|rfl|(simp only[xJ,nW,fV])
 |callm f=>
  simp only[arun,aop,sO,PO.isNilQ,PO.isNext,bZ,cI];cases pX st g with
  |none=>rfl
  |some H=>rfl
 |callvm=>
  simp only[arun,aop,PO.isNilQ,PO.isNext,bZ,cI];cases pX st g with
  |none=>rfl
  |some H=>
   simp only;generalize mV C st xs=vv;rcases vv with _|⟨x,vs⟩
   .rfl
   .cases x<;>first|rfl|(simp only[sO])
 |_=>rfl
def xK(C:Cx)(f:FuncId)(d:Option Nat)(g:Option (Nat×Bool))(H:Bool)(O:Prop)(args:List A)(rw:List (Nat×MS))(ps:List POp)(st:St)(K:St->Prop):Prop:=
 ∃r,(H=true->O/\PFn C f args r)/\(g=none\/(if r.scal then[]else rw)=[]/\r.isVV=true)/\((st.app d (oF g H r) (if r.scal then[]else rw)).mem=st.mem/\(st.app d (oF g H r) (if r.scal then[]else rw)).nx=st.nx)/\uA C ps (st.app d (oF g H r) (if r.scal then[]else rw)) K
def ZL{C:Cx}{f:FuncId}{d:Option Nat}{g:Option (Nat×Bool)}{H:Bool}{O:Prop}{args:List A}{rw:List (Nat×MS)}{ps:List POp}{st:St}{K:St->Prop}{r:A}
  (Y:H=true->PFn C f args r) (h:uA C ps (st.app d (oF g H r) []) K)
  (ho:H=true->O:=by intro;trivial) (hg:g=none\/(if r.scal then[]else rw)=[]/\r.isVV=true:=by first|exact .inl rfl|exact .inr ⟨rfl,rfl⟩) (U:(if r.scal then[]else rw)=[]:=by rfl):xK C f d g H O args rw ps st K:=⟨r,λ e=>⟨ho e,Y e⟩,hg,by rw[U];exact⟨rfl,rfl⟩,by rw[U];exact h⟩
def ZM(C:Cx)(st:St)(K:St->Prop):uA C [] st K=K st:=rfl
def ZN(C:Cx)(d:Option Nat)(g:Option (Nat×Bool))(po:PO)(xs:List PX)(ps:List POp)(st:St)(K:St->Prop):
  uA C (⟨d,g,po,xs⟩::ps) st K=(match po with
   | .call f=>(match pX st g with
    |none=>False
    |some H=>xK C f d g H (pN C st xs/\pM st.m (mV C st xs)) (oT st.m (mV C st xs)) (oE st.m (qZ (mV C st xs))) ps st K)
   | .callv=>(match pX st g with
    |none=>False
    |some H=>(match mV C st xs with
     | .clo f caps::vals=>xK C f d g H (pN C st xs/\pG C.P f=true/\pM st.m (vals++caps)) (oT st.m (vals++caps)) (oE st.m (qZ (vals++caps))) ps st K
     |_=>False))
   | .callb=>(match pX st g with
    |none=>False
    |some H=>(match mV C st xs with
     | .bnd f cs::vals=>xK C f d g H (pN C st xs/\pG C.P f=true/\pM st.m (.agg cs::vals)) (oT st.m (.agg cs::vals)) (oE st.m (qZ (.agg cs::vals))) ps st K
     |_=>False))
   |po=>aop C ⟨d,g,po,xs⟩ st λ st'=>(st'.mem=st.mem/\st'.nx=st.nx)/\uA C ps st' K):=by
 cases po with
 |call f=>
  simp only[uA,aop,xK];cases pX st g with
  |none=>rfl
  |some H=>simp only[nW,fV]
 |callv=>
  simp only[uA,aop];cases pX st g with
  |none=>rfl
  |some H=>
   simp only;generalize mV C st xs=vv;rcases vv with _|⟨x,vs⟩
   .rfl
   .cases x<;>first|rfl|(simp only[xK,nW,fV])
 |callb=>
  simp only[uA,aop];cases pX st g with
  |none=>rfl
  |some H=>
   simp only;generalize mV C st xs=vv;rcases vv with _|⟨x,vs⟩
   .rfl
   .cases x<;>first|rfl|(simp only[xK,nW,fV])
 |_=>rfl
def xL(C:Cx)(U:List (List Nat))(f:FuncId)(d:Option Nat)(g:Option (Nat×Bool))(Y:Bool)(B:Prop)(args:List A)(rw:List (Nat×MS))(ids:List Nat)(O:Bool)(ps:List POp)(st:St)(H:List (List Nat×List Nat))(K:St->Prop):Prop:=
 ∃r,(Y=true->B/\PFn C f args r)/\(g=none\/(if r.scal then[]else rw)=[]/\r.isVV=true)/\vA (U.getD H.length []) 0 H ids ((if r.scal then[]else rw).map (·.1))=true/\O=true/\
  rM C U ps (st.app d (oF g Y r) (if r.scal then[]else rw)) (H++[(ids,(if r.scal then[]else rw).map (·.1))]) K
def ZO{C:Cx}{Y:List (List Nat)}{f:FuncId}{d:Option Nat}{g:Option (Nat×Bool)}{U:Bool}{B:Prop}{args:List A}{rw:List (Nat×MS)}{ids:List Nat}{O:Bool}{ps:List POp}{st:St}{H:List (List Nat×List Nat)}{K:St->Prop}{r:A}
  (F:U=true->PFn C f args r) (h:vA (Y.getD H.length []) 0 H ids ((if r.scal then[]else rw).map (·.1))=true/\O=true/\rM C Y ps (st.app d (oF g U r) (if r.scal then[]else rw)) (H++[(ids,(if r.scal then[]else rw).map (·.1))]) K)
  (ho:U=true->B:=by intro;trivial) (hg:g=none\/(if r.scal then[]else rw)=[]/\r.isVV=true:=by first|exact .inl rfl|exact .inr ⟨rfl,rfl⟩):xL C Y f d g U B args rw ids O ps st H K:=⟨r,λ e=>⟨ho e,F e⟩,hg,h.1,h.2.1,h.2.2⟩
def zN(C:Cx)(B:List (List Nat))(f:FuncId)(d:Option Nat)(g:Option (Nat×Bool))(F:Bool)(M:Prop)(O:List A)(ids:List Nat)(U:Bool)(ps:List POp)(st:St)(H:List (List Nat×List Nat))(K:St->Prop):Prop:=
 tI C st.m st.nx f O g F M (λ n=>∀x,st.nx<=x->x<st.nx+n->st.m x=.fresh) λ v Y=>vA (B.getD H.length []) 0 H ids (Y.map (·.1))=true/\U=true/\rM C B ps (st.app d v Y) (H++[(ids,Y.map (·.1))]) K
def ZP{C:Cx}{B:List (List Nat)}{f:FuncId}{d:Option Nat}{M:Prop}{H:List A}{ids:List Nat}{Y:Bool}{ps:List POp}{st:St}{O:List (List Nat×List Nat)}{K:St->Prop}(l:List (Nat×Nat)){U:List A}{ms ms':List (Nat×Row)}{k k':Nat}{r:A}
  (hf:MFn C f U ms k r ms' k') (F:okM st.m st.nx l H U ms k k')
  (h:vA (B.getD O.length []) 0 O ids ((mwM st.m (l++newL k st.nx (k'-k)) H U ms ms' k k').map (·.1))=true/\Y=true/\rM C B ps (st.app d (renR (l++newL k st.nx (k'-k)) r) (mwM st.m (l++newL k st.nx (k'-k)) H U ms ms' k k')) (O++[(ids,(mwM st.m (l++newL k st.nx (k'-k)) H U ms ms' k k').map (·.1))]) K)
  (ho:M:=by trivial) (hr:wC r=true:=by rfl):zN C B f d none true M H ids Y ps st O K:=
 ⟨l,U,ms,k,r,ms',k',λ _=>⟨ho,hf,F,λ x hx _=>ME st x hx⟩,(λ h=>nomatch h),.inl rfl,FT hr,h⟩
def ZQ(C:Cx)(O:List (List Nat))(st:St)(H:List (List Nat×List Nat))(K:St->Prop):rM C O [] st H K=K st:=rfl
def ZR(C:Cx)(U:List (List Nat))(d:Option Nat)(g:Option (Nat×Bool))(po:PO)(xs:List PX)(ps:List POp)(st:St)(H:List (List Nat×List Nat))(K:St->Prop):
  rM C U (⟨d,g,po,xs⟩::ps) st H K=(match po with
   | .call f=>(match oP st.slot g with
    |none=>False
    |some O=>xL C U f d g O (gdsF C st.slot xs/\pM st.m (nO C st.slot xs)) (oT st.m (nO C st.slot xs)) (oE st.m (qZ (nO C st.slot xs))) (pT (mV C st xs)) (xI (mV C st xs)) ps st H K)
   | .callv=>(match oP st.slot g with
    |none=>False
    |some O=>(match nO C st.slot xs with
     | .clo f caps::vals=>xL C U f d g O (gdsF C st.slot xs/\pG C.P f=true/\pM st.m (vals++caps)) (oT st.m (vals++caps)) (oE st.m (qZ (vals++caps))) (pT (mV C st xs)) (xI (mV C st xs)) ps st H K
     |_=>False))
   | .callb=>(match oP st.slot g with
    |none=>False
    |some O=>(match nO C st.slot xs with
     | .bnd f cs::vals=>xL C U f d g O (gdsF C st.slot xs/\pG C.P f=true/\pM st.m (.agg cs::vals)) (oT st.m (.agg cs::vals)) (oE st.m (qZ (.agg cs::vals))) (pT (mV C st xs)) (xI (mV C st xs)) ps st H K
     |_=>False))
   | .callm f=>(match oP st.slot g with
    |none=>False
    |some O=>zN C U f d g O (gdsF C st.slot xs) (nO C st.slot xs) (pT (mV C st xs)) (xI (mV C st xs)) ps st H K)
   | .callvm=>(match oP st.slot g with
    |none=>False
    |some O=>(match nO C st.slot xs with
     | .clo f caps::vals=>zN C U f d g O (gdsF C st.slot xs/\pG C.P f=true) (vals++caps) (pT (mV C st xs)) (xI (mV C st xs)) ps st H K
     |_=>False))
   |po=>aopS C ⟨d,g,po,xs⟩ st.toS st.nx λ v Y=>vA (U.getD H.length []) 0 H (idsP po (mV C st xs)) (Y.map (·.1))=true/\xI (mV C st xs)=true/\
     rM C U ps (st.app d v Y) (H++[(idsP po (mV C st xs),Y.map (·.1))]) K):=by
 cases po with
 |call f=>
  simp only[rM,aopS,xL,St.toS,idsP];cases oP st.slot g with
  |none=>rfl
  |some O=>simp only[nW,fV]
 |callv=>
  simp only[rM,aopS,St.toS,idsP];cases oP st.slot g with
  |none=>rfl
  |some O=>
   simp only;generalize nO C st.slot xs=vv;rcases vv with _|⟨x,vs⟩
   .rfl
   .cases x<;>first|rfl|(simp only[xL,nW,fV])
 |callb=>
  simp only[rM,aopS,St.toS,idsP];cases oP st.slot g with
  |none=>rfl
  |some O=>
   simp only;generalize nO C st.slot xs=vv;rcases vv with _|⟨x,vs⟩
   .rfl
   .cases x<;>first|rfl|(simp only[xL,nW,fV])
 |callm f=>
  simp only[rM,aopS,zN,St.toS,idsP];cases oP st.slot g with
  |none=>rfl
  |some O=>rfl
 |callvm=>
  simp only[rM,aopS,St.toS,idsP];cases oP st.slot g with
  |none=>rfl
  |some O=>
   simp only;generalize nO C st.slot xs=vv;rcases vv with _|⟨x,vs⟩
   .rfl
   .cases x<;>first|rfl|(simp only[zN])
 |_=>rfl
def oA{V:Type}(k:Int):List (Int×V)->Option V
 |[]=>none
 |p::l=>bif k==p.1 then some p.2 else oA k l
def r8{V:Type}(k:Int)(v:V):List (Int×V)->List (Int×V)
 |[]=>[(k,v)]
 |p::l=>bif k==p.1 then(k,v)::l else p::r8 k v l
def mI{V:Type}(q:IntKind)(f:V->List A)(p:Int×V):List A:=.int q p.1::f p.2
@[go_sem] theorem aN9{V:Type}(q:IntKind)(f:V->List A)(k:Int)(l:List (Int×V)):rJ (.int q k) (l.map (mI q f))=(oA k l).map f:=by
 induction l with
 |nil=>rfl
 |cons p l H=>
  simp only[dO,mI,rJ,List.headD_cons,eqK,eq1,oA,List.tail_cons];cases k==p.1
  .exact H
  .rfl
@[go_sem] theorem aNa{V:Type}(q:IntKind)(f:V->List A)(p:Int×V):mK (mI q f p)=mK (f p.2):=by simp[mI,mK,A.pure1]
@[go_sem] theorem aNb{V:Type}(kz:A)(H:Bool)(q:IntKind)(f:V->List A)(p:Int×V):mEnt [kz,.bool H] (mI q f p)=[.int q p.1,tV H (f p.2)]:=rfl
@[go_sem] theorem aNc{V:Type}(q:IntKind)(f:V->List A)(l:List (Int×V))(i:Nat)(H:Int)(O:V):(l.map (mI q f)).getD i (.int q H::f O)=mI q f (l.getD i (H,O)):=by simp only[cD,cW];cases l[i]? <;>rfl
@[go_sem] theorem aNd(s:List Nat)(P:A->Prop):(∀x∈s.map iE,∀a∈x,P a)=(∀i∈s,P (.int .i64 (i:Nat))):=propext ⟨λ h i hi=>h _ (cS.2 ⟨i,hi,rfl⟩) _ (.head _),λ h x hx a ha=>by
 obtain⟨i,hi,rfl⟩:=cS.1 hx;obtain rfl:a=.int .i64 (i:Nat):=by simpa [iE]using ha
 exact h i hi⟩
@[go_sem] theorem aNe(y i:Nat)(k:IntKind)(c:Int)(s:List Nat):FA ([.mp y,.int k c]::(s++[i]).map iE)=some (y,i):=by simp[FA,iE]
@[go_sem] theorem aNf{V:Type}(H:Bool)(f:V->List A)(z:V)(o:Option V):mval H (f z) (o.map f)=tV H (f (o.getD z)):=by cases o<;>rfl
@[go_sem] theorem aNg{V:Type}(H:Bool)(z:List A):mval H z none=tV H z:=rfl
@[go_sem] theorem aNh{V W:Type}(f:V->W)(o:Option V):(o.map f).isSome=o.isSome:=by cases o<;>rfl
attribute [go_sem ↓] aop aopS
attribute [go_sem] ZJ ZK ZM ZN ZQ ZR oP nO gdsF St.toS idsP pT idsA uZ sX xI FN A.flatCap okM zH argM A.hands Qs IJ fzM CZ p9 newL pO mwM entM zI MS.like renR ren0 FG resL q7 AV pX St.slot St.m look mV pN xv A.nc A.gd ev CQ rU sL tW A.cells A.isV A.isK A.isStr A.isVV allV allK pB laid Fz tV
 pW key1 keyL A.isAg nxtQ entQ PO.lax nilQ oF St.app putF putM nxt rm CY St.drop nW oT pM frz frz1 rK sM tH qY qZ oE A.scal A.scal1 A.scal2 nB FF mK A.pure1 pureEs
 mU LK.fits eqA eq1 glob oY C7 allG uY resA resG C6 Le leF leM rho ren ren1 pY idOk xF idEs AS
def SeqQ(C:Cx)(E:Env)(y:PC)(Q:Exit->St->Prop):Exit->St->Prop:=λ e s=>match e with|.normal=>AW C E y Q s|e=>Q e s
def BlkQ(id:Nat)(Q:Exit->St->Prop):Exit->St->Prop:=λ e s=>match e with|.exit i=>(if i=id then Q .normal s else Q (.exit i) s)|e=>Q e s
section
variable {C:Cx} {E:Env} {Q:Exit→St→Prop} {st:St}
def lW{x y:PC}(h:AW C E x (SeqQ C E y Q) st):AW C E (.seq x y) Q st:=Za h
def oG{id:Nat}{c:PC}(h:AW C E c (BlkQ id Q) st):AW C E (.block id c) Q st:=MF h
def ZS{y:PC}(s:St):SeqQ C E y Q .normal s=AW C E y Q s:=rfl
def ZT{y:PC}(s:St):SeqQ C E y Q .ret s=Q .ret s:=rfl
def ZU{y:PC}(i:Nat)(s:St):SeqQ C E y Q (.exit i) s=Q (.exit i) s:=rfl
def ZV(i:Nat)(s:St):BlkQ i Q .normal s=Q .normal s:=rfl
def ZW(i:Nat)(s:St):BlkQ i Q .ret s=Q .ret s:=rfl
def ZX(i j:Nat)(s:St):BlkQ i Q (.exit j) s=if j=i then Q .normal s else Q (.exit j) s:=rfl
def ZY(rs:List RX)(r:A)(fr:List (Nat×A))(m:List (Nat×Row))(n:Nat):Post rs r .ret ⟨fr,m,n⟩=C7 ⟨fr,m,n⟩ rs r:=rfl
def ZZ(rs:List RX)(r:A)(fr:List (Nat×A))(m:List (Nat×Row))(n:Nat):Post rs r .normal ⟨fr,m,n⟩=C7 ⟨fr,m,n⟩ rs r:=rfl
def Z0(k:Nat)(rs:List RX)(rl:List A)(ms':List (Nat×Row))(k':Nat)(fr:List (Nat×A))(m:List (Nat×Row))(n:Nat):FK k rs rl ms' k' .ret ⟨fr,m,n⟩=zK k ⟨fr,m,n⟩ rs rl ms' k':=rfl
def Z1(k:Nat)(rs:List RX)(rl:List A)(ms':List (Nat×Row))(k':Nat)(fr:List (Nat×A))(m:List (Nat×Row))(n:Nat):FK k rs rl ms' k' .normal ⟨fr,m,n⟩=zK k ⟨fr,m,n⟩ rs rl ms' k':=rfl
attribute [go_sem] Z0 Z1 St.gh St.ghOk St.fz St.fzOk St.own0 St.ownb St.ownbOk FR zM MY St.unfs St.cast St.unf FS rA unfA memN fzA fzCs fzV fzEs fzFr FP Dd De FQ I3 I4 I5 I6
attribute [go_sem] ZS ZT ZU ZV ZW ZX ZY ZZ
end
def RF(n:Nat):pF n []:=by intro c H;cases H
def Z2(n:Nat)(a:List A)(b:List (List A)):pF n (a::b)↔a.length=n/\pF n b:=by simp only[pF,cL];exact⟨λ h=>⟨h a (.inl rfl),λ c H=>h c (.inr H)⟩,λ⟨O,U⟩ c H=>H.elim (λ e=>e▸O) (U c)⟩
def RG:tX []:=by intro c H;cases H
attribute [go_sem] eC Nat.add_zero kR dG Nat.lt_add_one fS Int.toNat_zero Int.toNat_natCast Int.natCast_zero imp_self cX gG jF iT and_false or_true true_or iI jL forall_const true_implies jX fD cH cI eq_self ne_eq kJ iH cN fI fA hY cR dL Bool.not_not bZ gN cond_true cond_false Bool.cond_true_left Bool.cond_true_right Bool.cond_false_left Bool.cond_false_right cF cP Option.getD_some Option.getD_none Option.map_some Option.map_none Option.bind_some Option.isSome_some Option.isNone_none List.length_cons List.length_nil dM cA List.all_nil List.all_cons List.nil_append eE iQ dO List.set_cons_zero List.set_nil List.getD_cons_zero gX dW List.headD_cons List.contains_nil List.take_nil List.drop_nil kS
attribute [simp] RF RG
attribute [go_sem] RF Z2 RG
@[go_sem] theorem Z3(l:List Int):u8s (l.map λ n=>[A.int .u8 n])=some l:=by
 induction l with
 |nil=>rfl
 |cons n l H=>simp only[dO,u8s,H,xm]
@[go_sem] theorem aNw(l:List UInt8):(l.map λ b=>[A.int .u8 (b.toNat:Int)])=(l.map λ b=>(b.toNat:Int)).map (eI .u8):=by rw[kC];rfl
@[go_sem] theorem aNx(l:List Int):u8s (l.map (eI .u8))=some l:=Z3 l
@[go_sem] theorem aNy(q:Nat×MS)(l r:List (Nat×MS)):q::l++r=q::(l++r):=rfl
@[go_sem] theorem aNz:([]:List A).flatMap qY=[]:=rfl
@[go_sem] theorem aO0(x lo n:Nat)(H:List A):(A.own x lo n::H).flatMap qY=x::H.flatMap qY:=rfl
@[go_sem] theorem aO1(s:ByteArray)(H:List A):(A.str s::H).flatMap qY=H.flatMap qY:=rfl
@[go_sem] theorem aO2(k:IntKind)(n:Int)(H:List A):(A.int k n::H).flatMap qY=H.flatMap qY:=rfl
@[go_sem] theorem aO3(b:Bool)(H:List A):(A.bool b::H).flatMap qY=H.flatMap qY:=rfl
@[go_sem] theorem aO4(l:List (List A))(H:List A):(A.sl l::H).flatMap qY=H.flatMap qY:=rfl
attribute [go_sem] List.isEmpty_nil List.isEmpty_cons kU List.forall_mem_cons eX
@[go_sem↓] theorem aO5(r:A):(if r.scal=true then([]:List (Nat×MS))else[])=[]:=kU _
@[go_sem] theorem aO6(c x:A)(H xs:List A):upd (c::H) 0 (x::xs)=x::upd H 0 xs:=by simp[upd,eN]
@[go_sem] theorem aO7(H:List A)(n:Nat):upd H n []=H:=by simp[upd]
@[go_sem] theorem aO8(c:A)(H new:List A)(n:Nat):upd (c::H) (n+1) new=c::upd H n new:=by simp[upd,Nat.add_right_comm]
@[go_sem] theorem aO9(c:A)(H:List A)(k:Nat):sub (c::H) 0 (k+1)=c::sub H 0 k:=by simp[sub]
@[go_sem] theorem aOa(H:List A)(n:Nat):sub H n 0=[]:=by simp[sub]
@[go_sem] theorem aOb(c:A)(H:List A)(n k:Nat):sub (c::H) (n+1) k=sub H n k:=by simp[sub]
end Ab
end Go.Proofs.YtfmnjkfhahfhgaaGreatDoor
