import Derived.Test.YtfmnjkfhahfhgaaGreatDoorSim
import Derived.Test.YtfmnjkfhahfhgaaGreatDoorProg
import Derived.KernelRfl
namespace Go.Proofs.YtfmnjkfhahfhgaaGreatDoor
namespace Ab
set_option linter.defProp false
set_option linter.unusedSimpArgs false
set_option linter.unusedVariables false
def gd{α:Type}(p:Prop)[Decidable p](k:Option α):Option α:=if p then k else none
def mH{α:Type}{p:Prop}[Decidable p]{k:Option α}{r:α}(h:gd p k=some r):p/\k=some r:=by
 unfold gd at h;split at h
 .exact⟨by assumption,h⟩
 .cases h
def mD{α:Type}{p:Prop}[Decidable p]{k:Option α}(h:p):gd p k=k:=cB h
def lZ{α β:Type}{m:Option α}{f:α->Option β}{r:β}(h:m.bind f=some r):∃v,m=some v/\f v=some r:=by
 cases m with
 |none=>cases h
 |some v=>exact⟨v,rfl,h⟩
def uB{α:Type}{c:Bool}{x y r:α}(hb:c=true)(h:(if c=true then x else y)=r):x=r:=by rw[cB hb]at h;exact h
def RH{α:Type}{c:Bool}{x y r:α}(hb:c=false)(h:(if c=true then x else y)=r):y=r:=by subst hb;exact h
def iter{G X:Type}(body:G->Option (G⊕X)):Nat->G->Option X
 |0,_=>none
 |n+1,g=>match body g with
  |none=>none
  |some (.inl g')=>iter body n g'
  |some (.inr x)=>some x
def M1{G X:Type}{body:G->Option (G⊕X)}{x:X}:∀{n m:Nat} {g:G},iter body n g=some x->n<=m->iter body m g=some x
 |0,_,_,h,_=>by cases h
 |n+1,0,_,_,hm=>om
 |n+1,m+1,g,h,hm=>by
  simp only[iter]at h⊢;cases hb:body g with
  |none=>rw[hb]at h;cases h
  |some y=>
   rw[hb]at h;cases y with
   |inl H=>exact M1 (n:=n) (m:=m) h om
   |inr O=>exact h
open Classical in
noncomputable def lY{G X:Type}(body:G->Option (G⊕X))(g:G):Option X:=
 match iter body 1000 g with
 |some x=>some x
 |none=>if h:∃n x,iter body n g=some x then some (Classical.choose (fF h))else none
def tL{G X:Type}{body:G->Option (G⊕X)}{g:G}{x:X}:lY body g=some x↔∃n,iter body n g=some x:=by
 have H:∀{n m:Nat} {x y:X},iter body n g=some x->iter body m g=some y->some x=some y:=λ{n m x y} h1 h2=>by rw[<-M1 h1 (Nat.le_add_right n m),<-M1 h2 (Nat.le_add_left m n)]
 unfold lY;cases h0:iter body 1000 g with
 |some y=>exact⟨λ h=>⟨1000,by rw[h0];exact h⟩,λ⟨n,O⟩=>H h0 O⟩
 |none=>
  constructor
  .intro h;simp only at h;split at h
   .rename_i U;cases h;exact⟨_,fF (fF U)⟩
   .cases h
  .rintro⟨n,O⟩;have U:∃n x,iter body n g=some x:=⟨n,x,O⟩;simp only;rw[kL U];exact H (fF (fF U)) O
def mJ{G X:Type}(body:G->Option (G⊕X))(g:G):lY body g=match body g with
  |none=>none
  |some (.inl O)=>lY body O
  |some (.inr x)=>some x:=by
 cases hb:body g with
 |none=>
  simp only;cases h:lY body g with
  |none=>rfl
  |some x=>
   obtain⟨n,H⟩:=tL.1 h;cases n with
   |zero=>cases H
   |succ n=>simp only[iter,hb]at H;cases H
 |some y=>
  cases y with
  |inr x=>exact tL.2 ⟨1,by simp[iter,hb]⟩
  |inl O=>
   simp only;cases h:lY body O with
   |some x=>obtain⟨n,H⟩:=tL.1 h;exact tL.2 ⟨n+1,by simp only[iter,hb];exact H⟩
   |none=>
    cases h2:lY body g with
    |none=>rfl
    |some x=>
     obtain⟨n,H⟩:=tL.1 h2;cases n with
     |zero=>cases H
     |succ n=>simp only[iter,hb]at H;rw[tL.2 ⟨n,H⟩]at h;cases h
def uC(E:Env){V:Type}(J:V->St)(P:V->Prop)(s:St):Prop:=∃v,P v/\St.le E s (J v)
def RI{E:Env}{V:Type}{J:V->St}{P:V->Prop}{s:St}{k:Nat}(hK:E.k0=k)(v:V)(h:P v)(l:List (Nat×Nat))(hl:Le l s (J v)/\rL k l (J v).nx=true):uC E J P s:=⟨v,h,St.le_of l hl.1 (by rw[hK];exact hl.2)⟩
def xM(E:Env){V:Type}(J:V->St)(P:V->Prop)(Q:Exit->St->Prop):Exit->St->Prop:=λ e s=>match e with|.normal=>uC E J P s|e=>Q e s
def BlkJ(E:Env){V:Type}(id:Nat)(J:V->St)(P:V->Prop)(Q:Exit->St->Prop):Exit->St->Prop:=λ e s=>match e with
 | .normal=>uC E J P s
 | .exit i=>if i=id then uC E J P s else Q (.exit i) s
 |e=>Q e s
def FU(E:Env){G X:Type}(I:G->St)(y:G⊕X)(s:St):Prop:=∃H,y=.inl H/\St.le E s (I H)
def RJ{E:Env}{G X:Type}{I:G->St}{H:G}{s:St}{k:Nat}(hK:E.k0=k)(l:List (Nat×Nat))(hl:Le l s (I H)/\rL k l (I H).nx=true):FU (X:=X) E I (.inl H) s:=⟨H,rfl,St.le_of l hl.1 (by rw[hK];exact hl.2)⟩
def r9(E:Env){G X:Type}(I:G->St)(y:G⊕X)(Q:Exit->St->Prop):Exit->St->Prop:=λ e s=>match e with|.normal=>FU E I y s|e=>Q e s
section
variable {C:Cx} {E:Env} {Q:Exit→St→Prop} {st:St}
def AW.join{V:Type}{J:V->St}{c:PC}{U:Exit->St->Prop}(h:AW C E c U st)
  (Y:∀e s,U e s->Q e s\/∃v,St.le E s (J v)/\Q e (J v)):AW C E c Q st:=
 λ H B a w F=>wp_mono (h H B a w F) λ e M w' ⟨st',h1,h2⟩=>by
  rcases Y e st' h1 with O|⟨v,O,h4⟩
  .exact⟨st',O,h2⟩
  .exact⟨J v,h4,O M w' h2⟩
def Z4{x:PX}{p q:PC}{V:Type}(J:V->St)(P:V->Prop){b:Bool}(hx:xv C.G st.slot x=.bool b)(hG:E.G=C.G)(O:∀v,P v->Q .normal (J v))
  (ht:b=true->AW C E p (xM E J P Q) st) (U:b=false->AW C E q (xM E J P Q) st):AW C E (.cond x p q) Q st:=by
 have H:∀c,AW C E c (xM E J P Q) st->AW C E c Q st:=λ c h=>h.join (J:=J) λ e s h=>by
  cases e with
  |normal=>obtain⟨v,Y,B⟩:=h;exact .inr ⟨v,B,O v Y⟩
  |_=>exact .inl h
 exact IS hx hG (λ h=>H _ (ht h)) (λ h=>H _ (U h))
def pU{id:Nat}{c:PC}{V:Type}(J:V->St)(P:V->Prop)(U:∀v,P v->Q .normal (J v))(h:AW C E c (BlkJ E id J P Q) st):AW C E (.block id c) Q st:=by
 refine MF (h.join (J:=J) λ e s h=>?_);cases e with
 |normal=>obtain⟨v,H,O⟩:=h;exact .inr ⟨v,O,U v H⟩
 |exit i=>
  simp only[BlkJ]at h⊢;split at h
  .obtain⟨v,H,O⟩:=h;rename_i hi;exact .inr ⟨v,O,by rw[cB hi];exact U v H⟩
  .rename_i hi;exact .inl (by rw[bX hi];exact h)
 |_=>exact .inl h
def FV(E:Env){V:Type}(id:Nat)(J:V->St)(P:V->Prop)(Q:Exit->St->Prop):Exit->St->Prop:=λ e s=>match e with
 | .normal=>uC E J P s\/Q .normal s
 | .exit i=>if i=id then(uC E J P s\/Q .normal s)else Q (.exit i) s
 |e=>Q e s
def RK{id:Nat}{c:PC}{V:Type}(J:V->St)(P:V->Prop)(U:∀v,P v->Q .normal (J v))(h:AW C E c (FV E id J P Q) st):AW C E (.block id c) Q st:=by
 refine MF (h.join (J:=J) λ e s h=>?_);cases e with
 |normal=>
  rcases h with⟨v,H,O⟩|h
  .exact .inr ⟨v,O,U v H⟩
  .exact .inl h
 |exit i=>
  simp only[FV]at h⊢;split at h
  .rename_i hi;rcases h with⟨v,H,O⟩|h
   .exact .inr ⟨v,O,by rw[cB hi];exact U v H⟩
   .exact .inl (by rw[cB hi];exact h)
  .rename_i hi;exact .inl (by rw[bX hi];exact h)
 |_=>exact .inl h
def M2{c:PC}{G X:Type}{body:G->Option (G⊕X)}{O:G}{x:X}(I:G->St){k:Nat}(hK:E.k0=k)(l:List (Nat×Nat))(hx:lY body O=some x)(H:Le l st (I O)/\rL k l (I O).nx=true)
  (h:∀g y,body g=some y->(∀U,y=.inr U->U=x)->AW C E c (r9 E I y Q) (I g)):AW C E (.loop c) Q st:=by
 obtain⟨n,B⟩:=tL.1 hx;refine QT (G:={p:Nat×G//iter body p.1 p.2=some x}) (λ p=>I p.1.2) (λ _=>True) (λ p=>p.1.1) ⟨(n,O),B⟩ trivial (St.le_of l H.1 (by rw[hK];exact H.2)) λ⟨⟨m,g⟩,hm⟩ _=>?_;cases m with
 |zero=>cases hm
 |succ m=>
  simp only[iter]at hm;cases hb:body g with
  |none=>rw[hb]at hm;cases hm
  |some y=>
   rw[hb]at hm;refine(h g y hb λ U e=>by subst e;exact dY hm).mono λ e s Y=>?_;cases e with
   |normal=>obtain⟨F,rfl,M⟩:=Y;exact⟨⟨(m,F),hm⟩,trivial,M,eT m⟩
   |_=>exact Y
def M3(E:Env){G X β:Type}(I:G->St)(body:G->Option (G⊕X))(kk:X->Option β)(R:Option β)(s:St):Prop:=∃H,(lY body H).bind kk=R/\St.le E s (I H)
def I7(E:Env){G X β:Type}(I:G->St)(body:G->Option (G⊕X))(kk:X->Option β)(R:Option β)(Q:Exit->St->Prop):Exit->St->Prop:=λ e s=>match e with|.normal=>M3 E I body kk R s|e=>Q e s
def Z5{G X β:Type}(I:G->St)(body:G->Option (G⊕X))(kk:X->Option β)(R:Option β)(s:St):I7 E I body kk R Q .normal s=M3 E I body kk R s:=rfl
def Z6{G X β:Type}(I:G->St)(body:G->Option (G⊕X))(kk:X->Option β)(R:Option β)(s:St):I7 E I body kk R Q .ret s=Q .ret s:=rfl
def Z7{G X β:Type}(I:G->St)(body:G->Option (G⊕X))(kk:X->Option β)(R:Option β)(i:Nat)(s:St):I7 E I body kk R Q (.exit i) s=Q (.exit i) s:=rfl
def RL{c:PC}{G X β:Type}{body:G->Option (G⊕X)}{kk:X->Option β}{r:β}(I:G->St){k:Nat}(hK:E.k0=k)(B:AW C E c (I7 E I body kk (some r) Q) st)
  (h:∀x,kk x=some r->∀g y,body g=some y->(∀O,y=.inr O->O=x)->AW C E c (r9 E I y Q) (I g)):AW C E (.loop c) Q st:=by
 refine Zd (G:={p:Nat×G//∃x,iter body p.1 p.2=some x/\kk x=some r}) (λ p=>I p.1.2) (λ _=>True) (λ p=>p.1.1) (λ⟨⟨m,g⟩,x,hm,hx⟩ _=>?_) (B.mono λ e s H=>?_)
 .cases m with
  |zero=>cases hm
  |succ m=>
   simp only[iter]at hm;cases hb:body g with
   |none=>rw[hb]at hm;cases hm
   |some y=>
    rw[hb]at hm;refine(h x hx g y hb λ O e=>by subst e;exact dY hm).mono λ e s H=>?_;cases e with
    |normal=>obtain⟨U,rfl,Y⟩:=H;exact⟨⟨(m,U),x,hm,hx⟩,trivial,Y,eT m⟩
    |_=>exact H
 .cases e with
  |normal=>obtain⟨U,Y,F⟩:=H;obtain⟨x,M,h5⟩:=lZ Y;obtain⟨n,hn⟩:=tL.1 M;exact⟨⟨(n,U),x,hn,h5⟩,trivial,F⟩
  |_=>exact H
def Z8{V:Type}(J:V->St)(P:V->Prop)(s:St):xM E J P Q .normal s=uC E J P s:=rfl
def Z9{V:Type}(J:V->St)(P:V->Prop)(s:St):xM E J P Q .ret s=Q .ret s:=rfl
def aOx{V:Type}(J:V->St)(P:V->Prop)(i:Nat)(s:St):xM E J P Q (.exit i) s=Q (.exit i) s:=rfl
def aOy{V:Type}(id:Nat)(J:V->St)(P:V->Prop)(s:St):BlkJ E id J P Q .normal s=uC E J P s:=rfl
def aOz{V:Type}(id:Nat)(J:V->St)(P:V->Prop)(s:St):BlkJ E id J P Q .ret s=Q .ret s:=rfl
def aP0{V:Type}(id:Nat)(J:V->St)(P:V->Prop)(i:Nat)(s:St):BlkJ E id J P Q (.exit i) s=if i=id then uC E J P s else Q (.exit i) s:=rfl
def aP1{G X:Type}(I:G->St)(y:G⊕X)(s:St):r9 E I y Q .normal s=FU E I y s:=rfl
def aP2{G X:Type}(I:G->St)(y:G⊕X)(s:St):r9 E I y Q .ret s=Q .ret s:=rfl
def aP3{G X:Type}(I:G->St)(y:G⊕X)(i:Nat)(s:St):r9 E I y Q (.exit i) s=Q (.exit i) s:=rfl
def aP4{V:Type}(id:Nat)(J:V->St)(P:V->Prop)(s:St):FV E id J P Q .normal s=(uC E J P s\/Q .normal s):=rfl
def aP5{V:Type}(id:Nat)(J:V->St)(P:V->Prop)(s:St):FV E id J P Q .ret s=Q .ret s:=rfl
def aP6{V:Type}(id:Nat)(J:V->St)(P:V->Prop)(i:Nat)(s:St):FV E id J P Q (.exit i) s=if i=id then(uC E J P s\/Q .normal s)else Q (.exit i) s:=rfl
attribute [go_sem] aP4 aP5 aP6 Z5 Z6 Z7 Z8 Z9 aOx aOy aOz aP0 aP1 aP2 aP3
end
def vB{V G X:Type}(body:V->G->Option (G⊕X))(H:G->X):List V->G->Option X
 |[],g=>some (H g)
 |e::p,g=>match body e g with
  |none=>none
  |some (.inl g')=>vB body H p g'
  |some (.inr x)=>some x
noncomputable def rngO{V G X β:Type}(m:List V)(d:V)(body:V->G->Option (G⊕X))(H:G->X)(O:G)(kk:X->Option β):Option β:=
 open Classical in if h:∃r,∀q:List Nat,q.Perm (List.range m.length)->(vB body H (q.map (m.getD · d)) O).bind kk=some r then some (Classical.choose h)else none
def aP8{V G X β:Type}{m:List V}{d:V}{body:V->G->Option (G⊕X)}{H:G->X}{O:G}{kk:X->Option β}{r:β}(h:rngO m d body H O kk=some r):
  ∀q:List Nat,q.Perm (List.range m.length)->(vB body H (q.map (m.getD · d)) O).bind kk=some r:=by
 unfold rngO at h;split at h
 .rename_i U;cases h;exact fF U
 .cases h
def RM{V G X β:Type}{m:List V}{d:V}{body:V->G->Option (G⊕X)}{H:G->X}{O:G}{kk:X->Option β}{r:β}
  (h:∀q:List Nat,q.Perm (List.range m.length)->(vB body H (q.map (m.getD · d)) O).bind kk=some r):rngO m d body H O kk=some r:=by
 unfold rngO;have U:∃r,∀q:List Nat,q.Perm (List.range m.length)->(vB body H (q.map (m.getD · d)) O).bind kk=some r:=⟨r,h⟩;rw[kL U];have Y:=fF U _ (iY _);rw[h _ (iY _)]at Y;exact Y.symm
structure RngP {V G X β:Type} (m:List V) (d:V) (body:V->G->Option (G⊕X)) (fin:G->X) (kk:X->Option β) (r:β) (s:List Nat) (g:G):Prop where
 nd:s.Nodup
 lt:∀i∈s,i<m.length
 ok:∀q,(s++q).Perm (List.range m.length)->(vB body fin (q.map (m.getD · d)) g).bind kk=some r
def aPa{n:Nat}{s:List Nat}(H:s.Nodup)(O:∀i∈s,i<n):∃q,(s++q).Perm (List.range n):=by
 refine⟨(List.range n).filter (λ i=>!s.contains i),(kE ?_ jU).2 λ i=>?_⟩
 .rw[jM];exact⟨H,jD.nodup jU,λ a ha b hb e=>by subst e;simp at hb;exact hb.2 ha⟩
 .simp only[cY,gV,eH,dA,jY,dF];constructor
  .rintro(h|h)
   .exact O i h
   .exact h.1
  .intro h
   by_cases c:i∈s
   .exact .inl c
   .exact .inr ⟨h,c⟩
def RN{V G X β:Type}{m:List V}{d:V}{body:V->G->Option (G⊕X)}{O:G->X}{kk:X->Option β}{r:β}{s:List Nat}{g:G}{i:Nat}(h:RngP m d body O kk r s g)(hi:i<m.length)(F:iE i∉s.map iE):
  ∃y,body (m.getD i d) g=some y/\(∀Y,y=.inl Y->RngP m d body O kk r (s++[i]) Y)/\∀x,y=.inr x->kk x=some r:=by
 have hs':i∉s:=λ M=>F (cS.2 ⟨i,M,rfl⟩);have nd:(s++[i]).Nodup:=by rw[jM];exact⟨h.nd,by simp,λ a ha b hb e=>by simp at hb;subst hb;subst e;exact hs' ha⟩
 have B:∀j∈s++[i],j<m.length:=λ j hj=>by
  rcases cY.1 hj with hj|hj
  .exact h.lt j hj
  .simp at hj;subst hj;exact hi
 obtain⟨q,U⟩:=aPa nd B;have H:=h.ok (i::q) (by rw[cG]at U;exact U);simp only[dO,vB]at H;cases hb:body (m.getD i d) g with
 |none=>rw[hb]at H;cases H
 |some y=>
  refine⟨y,rfl,λ Y e=>⟨nd,B,λ q U=>?_⟩,λ x e=>?_⟩
  .have:=h.ok (i::q) (by rw[cG]at U;exact U);simp only[dO,vB,hb,e]at this;exact this
  .rw[hb,e]at H;exact H
def RO{V G X β:Type}{m:List V}{d:V}{body:V->G->Option (G⊕X)}{H:G->X}{kk:X->Option β}{r:β}{s:List Nat}{g:G}(h:RngP m d body H kk r s g)(ha:∀i,i<m.length->iE i∈s.map iE):kk (H g)=some r:=by
 have:=h.ok [] (by
  rw[eE];refine(kE h.nd jU).2 λ i=>?_;rw[eH];refine⟨h.lt i,λ hi=>?_⟩;obtain⟨j,O,e⟩:=cS.1 (ha i hi);simp only[iE,gK,A.int.injEq,gG,jF]at e;have:j=i:=om
  exact this▸O)
 exact this
def RngN{V G X β:Type}(E:Env)(I:List Nat->G->St)(m:List V)(d:V)(body:V->G->Option (G⊕X))(H:G->X)(kk:X->Option β)(r:β)(s:List Nat)(w:St):Prop:=
 ∃i O,RngP m d body H kk r (s++[i]) O/\St.le E w (I (s++[i]) O)
def RngQ{V G X β:Type}(E:Env)(I:List Nat->G->St)(m:List V)(d:V)(body:V->G->Option (G⊕X))(H:G->X)(kk:X->Option β)(r:β)(s:List Nat)(Q:Exit->St->Prop):Exit->St->Prop:=λ e w=>match e with|.normal=>RngN E I m d body H kk r s w|e=>Q e w
section
variable {C:Cx} {E:Env} {Q:Exit→St→Prop} {st:St}
def aPd{c:PC}{V G X β:Type}{m:List V}{d:V}{body:V->G->Option (G⊕X)}{H:G->X}{O:G}{kk:X->Option β}{r:β}(I:List Nat->G->St)(h:rngO m d body H O kk=some r)(Y:St.le E st (I [] O))
  (hb:∀s g,RngP m d body H kk r s g->AW C E c (RngQ E I m d body H kk r s Q) (I s g)):AW C E (.loop c) Q st:=by
 refine QT (G:=List Nat×G) (λ p=>I p.1 p.2) (λ p=>RngP m d body H kk r p.1 p.2) (λ p=>m.length-p.1.length) ([],O) ⟨List.nodup_nil,(λ i hi=>nomatch hi),λ q B=>aP8 h q B⟩ Y λ p F=>?_;refine(hb p.1 p.2 F).mono λ e w hw=>?_;cases e with
 |normal=>
  obtain⟨i,M,U,h2⟩:=hw;refine⟨(p.1++[i],M),U,h2,?_⟩;have:(p.1++[i]).length<=m.length:=by
   have:=eP U.nd (l₂:=List.range m.length) λ j hj=>eH.2 (U.lt j hj)
   simpa using this
  simp only[cA,ym,Ym]at this⊢;omega
 |_=>exact hw
def aPe{V G X β:Type}(I:List Nat->G->St)(m:List V)(d:V)(body:V->G->Option (G⊕X))(H:G->X)(kk:X->Option β)(r:β)(s:List Nat)(w:St):RngQ E I m d body H kk r s Q .normal w=RngN E I m d body H kk r s w:=rfl
def aPf{V G X β:Type}(I:List Nat->G->St)(m:List V)(d:V)(body:V->G->Option (G⊕X))(H:G->X)(kk:X->Option β)(r:β)(s:List Nat)(w:St):RngQ E I m d body H kk r s Q .ret w=Q .ret w:=rfl
def aPg{V G X β:Type}(I:List Nat->G->St)(m:List V)(d:V)(body:V->G->Option (G⊕X))(H:G->X)(kk:X->Option β)(r:β)(s:List Nat)(i:Nat)(w:St):RngQ E I m d body H kk r s Q (.exit i) w=Q (.exit i) w:=rfl
attribute [go_sem] aPe aPf aPg
end
def unfull:A->A
 | .full es=>.sl es
 |a=>a
def PFn.unfull{C:Cx}{f:FuncId}{H:List A}{r:A}(h:PFn C f (H.map unfull) r):PFn C f H r:=by
 intro w W vs hg O hl ha;refine h w W vs hg O (by simpa using hl) λ i v a hv hx=>?_;rw[cW]at hx;cases hy:H[i]? with
 |none=>rw[hy]at hx;cases hx
 |some b=>
  rw[hy]at hx;cases hx;have:=ha i v b hv hy;cases b with
  |full es=>
   have U:RepC w W v (.full es):=this;cases U with
   |full a n es h=>exact h
  |_=>exact this
@[go_sem] theorem aPh(a b:Nat):Nat.min a b=min a b:=rfl
attribute [go_sem] Ab.unfull rL fixL
attribute [go_sem] Int.cast_ofNat_Int eV fT gC Nat.min_self
def Imp(q p:Prop):Prop:=q->p
def Imp.and{q a b:Prop}(ha:a)(h:Imp q b):Imp q (a/\b):=λ H=>⟨ha,h H⟩
def Imp.refl{q:Prop}:Imp q q:=λ h=>h
def im{q p:Prop}(w:Imp q p:=by(simp only[go_sem,↓reduceIte,reduceCtorEq,Nat.reduceEqDiff,Nat.reduceAdd,Nat.reduceSub,Nat.reduceMul,Nat.reduceLeDiff,Nat.reduceLT,Int.reduceLE,Int.reduceLT,Int.reduceToNat,Int.reduceNeg];(repeat((with_reducible apply Imp.and);focus (first|assumption|omega|rfl|(simp;done)|(simp;omega)|(intros;simp_all;done)|grind)));exact Imp.refl)):Imp q p:=w
def i0{q p:Prop}(w:Imp q p:=by(simp only[go_sem,↓reduceIte,reduceCtorEq,Nat.reduceEqDiff,Nat.reduceAdd,Nat.reduceSub,Nat.reduceMul,Nat.reduceLeDiff,Nat.reduceLT,Int.reduceLE,Int.reduceLT,Int.reduceToNat,Int.reduceNeg];exact Imp.refl)):Imp q p:=w
def lw{p:Prop}(w:p:=by(simp only[go_sem,↓reduceIte,reduceCtorEq,Nat.reduceEqDiff,Nat.reduceAdd,Nat.reduceSub,Nat.reduceMul,Nat.reduceLeDiff,Nat.reduceLT,Int.reduceLE,Int.reduceLT,Int.reduceToNat,Int.reduceNeg];first|(done)|trivial|(simp;done)|(repeat'(first|rfl|trivial|omega|(simp;done)|(simp;omega)|(congr 1;omega)|(congr 1;simp only[cA,dE,dC,iA];omega)|apply And.intro)))):p:=w
section
variable {C:Cx} {E:Env} {Q:Exit→St→Prop} {st:St} {q:Prop}
def g_st{p:Prop}(h:q)(e:Imp q p:=by exact i0):p:=e h
def mE(h:q)(e:Imp q (Q .normal st):=by exact i0):AW C E .skip Q st:=Y7 (e h)
def aPi(h:q)(e:Imp q (Q .normal st):=by exact i0):AW C E .label Q st:=Y8 (e h)
def oI{id:Nat}(h:q)(e:Imp q (Q (.exit id) st):=by exact i0):AW C E (.exit id) Q st:=Zb (e h)
def mG(h:q)(e:Imp q (Q .ret st):=by exact i0):AW C E .ret Q st:=Zc (e h)
def lX{O:List Nat}{H:List POp}(hG:E.G=C.G)(h:q)
  (e:Imp q (arun C H st λ s=>Q .normal (s.drop O)):=by exact im):AW C E (.reg O H) Q st:=Zf hG (e h)
def zO{O:List Nat}{H:List POp}(hm:C.P.follows .mixedOrders=true)(hG:E.G=C.G)(h:q)
  (e:Imp q (uA C H st λ s=>Q .normal (s.drop O)):=by exact im):AW C E (.regd O H) Q st:=Zn hm hG (e h)
def qD{O:List Nat}{U:List (List Nat)}{H:List POp}(hm:C.P.follows .mixedOrders=true)(hG:E.G=C.G)(h:q)
  (e:Imp q (rM C U H st [] λ s=>Q .normal (s.drop O)):=by exact im):AW C E (.regm O U H) Q st:=Zx hm hG (e h)
def nC{f:FuncId}{d:Option Nat}{g:Option (Nat×Bool)}{H:Bool}{O:Prop}{args:List A}{rw:List (Nat×MS)}{ps:List POp}{st:St}{K:St->Prop}{r:A}
  (U:H=true->PFn C f args r) (h:q)
  (e:Imp q (arun C ps (st.app d (oF g H r) (if r.scal then[]else rw)) K):=by exact im)
  (Y:H=true->O:=by intro;trivial) (hg:g=none\/(if r.scal then[]else rw)=[]/\r.isVV=true:=by first|exact .inl rfl|exact .inr ⟨rfl,rfl⟩|exact .inr ⟨kU _,rfl⟩):xJ C f d g H O args rw ps st K:=ZG U (e h) Y hg
def wD{f:FuncId}{d:Option Nat}{g:Option (Nat×Bool)}{H:Bool}{O:Prop}{args:List A}{rw:List (Nat×MS)}{ps:List POp}{st:St}{K:St->Prop}{r:A}
  (U:H=true->PFn C f args r) (h:q)
  (e:Imp q (uA C ps (st.app d (oF g H r) []) K):=by exact im)
  (Y:H=true->O:=by intro;trivial) (hg:g=none\/(if r.scal then[]else rw)=[]/\r.isVV=true:=by first|exact .inl rfl|exact .inr ⟨rfl,rfl⟩|exact .inr ⟨kU _,rfl⟩) (B:(if r.scal then[]else rw)=[]:=by first|rfl|exact kU _):xK C f d g H O args rw ps st K:=ZL U (e h) Y hg B
def sD{Y:List (List Nat)}{f:FuncId}{d:Option Nat}{g:Option (Nat×Bool)}{U:Bool}{B:Prop}{args:List A}{rw:List (Nat×MS)}{ids:List Nat}{O:Bool}{ps:List POp}{st:St}{H:List (List Nat×List Nat)}{K:St->Prop}{r:A}
  (F:U=true->PFn C f args r) (h:q)
  (e:Imp q (vA (Y.getD H.length []) 0 H ids ((if r.scal then[]else rw).map (·.1))=true/\O=true/\rM C Y ps (st.app d (oF g U r) (if r.scal then[]else rw)) (H++[(ids,(if r.scal then[]else rw).map (·.1))]) K):=by exact im)
  (M:U=true->B:=by intro;trivial) (hg:g=none\/(if r.scal then[]else rw)=[]/\r.isVV=true:=by first|exact .inl rfl|exact .inr ⟨rfl,rfl⟩|exact .inr ⟨kU _,rfl⟩):xL C Y f d g U B args rw ids O ps st H K:=ZO F (e h) M hg
def mA{α:Type}{x:PX}{p q:PC}{b c:Bool}{X Y r:α}(hx:xv C.G st.slot x=.bool b)(hG:E.G=C.G)(h:(if c=true then X else Y)=r)
  (ht:b=true->X=r->AW C E p Q st) (H:b=false->Y=r->AW C E q Q st) (e:b=c:=by first|rfl|(simp;done)|grind):AW C E (.cond x p q) Q st:=by
 subst e;exact IS hx hG (λ hb=>ht hb (by rw[cB hb]at h;exact h)) (λ hb=>H hb (by rw[hb]at h;simpa using h))
def rN{α:Type}{x:PX}{p q:PC}{V:Type}(J:V->St)(P:V->Prop){b c:Bool}{X Y r:α}(hx:xv C.G st.slot x=.bool b)(hG:E.G=C.G)(h:(if c=true then X else Y)=r)(H:∀v,P v->Q .normal (J v))
  (ht:b=true->X=r->AW C E p (xM E J P Q) st) (O:b=false->Y=r->AW C E q (xM E J P Q) st) (e:b=c:=by first|rfl|(simp;done)|grind):AW C E (.cond x p q) Q st:=by
 subst e;exact Z4 J P hx hG H (λ hb=>ht hb (by rw[cB hb]at h;exact h)) (λ hb=>O hb (by rw[hb]at h;simpa using h))
def nM{α:Type}{x r:α}{p:Prop}(h:some x=some r)(e:x=r->p:=by(intro e;subst e;first|done|rfl|trivial|(simp;done)|(repeat'(first|rfl|trivial|omega|(simp;done)|(simp;omega)|(refine dZ A.sl (dZ (List.map _) ?_);exact eJ (by first|omega|(simp;omega)))|apply And.intro)))):p:=e (dY h)
def uD{α:Type}{x r:α}{p:Prop}(h:x=r)(e:x=r->p:=by(intro e;subst e;first|done|rfl|trivial|(simp;done)|(repeat'(first|rfl|trivial|omega|(simp;done)|(simp;omega)|(refine dZ A.sl (dZ (List.map _) ?_);exact eJ (by first|omega|(simp;omega)))|apply And.intro)))):p:=e h
def mT{V:Type}{J:V->St}{P:V->Prop}{s:St}{k:Nat}(hK:E.k0=k)(l:List (Nat×Nat))(v:V)(h:P v)
  (hl:Le l s (J v)/\rL k l (J v).nx=true:=by exact lw):uC E J P s:=RI hK v h l hl
def oU{G X:Type}{I:G->St}{H:G}{y:G⊕X}{s:St}{k:Nat}(hK:E.k0=k)(l:List (Nat×Nat))(h:some (.inl H)=some y)
  (hl:Le l s (I H)/\rL k l (I H).nx=true:=by exact lw):FU E I y s:=by
 cases h;exact RJ hK l hl
def RP{G X β:Type}{I:G->St}{body:G->Option (G⊕X)}{kk:X->Option β}{R:Option β}{H:G}{s:St}{k:Nat}(hK:E.k0=k)(l:List (Nat×Nat))(h:(lY body H).bind kk=R)
  (hl:Le l s (I H)/\rL k l (I H).nx=true:=by exact lw):M3 E I body kk R s:=
 ⟨H,h,St.le_of l hl.1 (by rw[hK];exact hl.2)⟩
def qH{c:PC}{G X β:Type}{body:G->Option (G⊕X)}{H:G}{kk:X->Option β}{r:β}(I:G->St){k:Nat}(hK:E.k0=k)(l:List (Nat×Nat))(h:(lY body H).bind kk=some r)
  (hb:∀x,kk x=some r->∀g y,body g=some y->(∀U,y=.inr U->U=x)->AW C E c (r9 E I y Q) (I g))
  (O:Le l st (I H)/\rL k l (I H).nx=true:=by exact lw):AW C E (.loop c) Q st:=by
 obtain⟨x,hx,Y⟩:=lZ h;exact M2 I hK l hx O (hb x Y)
def RQ{c:PC}{V G X β:Type}{m:List V}{d:V}{body:V->G->Option (G⊕X)}{H:G->X}{U:G}{kk:X->Option β}{r:β}(I:List Nat->G->St){k:Nat}(hK:E.k0=k)(l:List (Nat×Nat))(h:rngO m d body H U kk=some r)
  (hb:∀s g,RngP m d body H kk r s g->AW C E c (RngQ E I m d body H kk r s Q) (I s g))
  (O:Le l st (I [] U)/\rL k l (I [] U).nx=true:=by exact lw):AW C E (.loop c) Q st:=
 aPd I h (St.le_of l O.1 (by rw[hK];exact O.2)) hb
def RR{V G X β:Type}{m:List V}{d:V}{body:V->G->Option (G⊕X)}{O:G->X}{kk:X->Option β}{r:β}{I:List Nat->G->St}{H:G}{y:G⊕X}{s:List Nat}{i:Nat}{w:St}{k:Nat}(hK:E.k0=k)(l:List (Nat×Nat))(h:some (.inl H)=some y)
  (U:∀H,y=.inl H->RngP m d body O kk r (s++[i]) H) (hl:Le l w (I (s++[i]) H)/\rL k l (I (s++[i]) H).nx=true:=by exact lw):RngN E I m d body O kk r s w:=by
 cases h;exact⟨i,H,U H rfl,St.le_of l hl.1 (by rw[hK];exact hl.2)⟩
def aPt{α:Type}{r:α}(h:none=some r):AW C E .dead Q st:=by cases h
def AY{x:PX}{p r:PC}(hx:xv C.G st.slot x=.bool true)(hG:E.G=C.G)(h:AW C E p Q st):AW C E (.cond x p r) Q st:=IS hx hG (λ _=>h) (λ h=>by cases h)
def I8{x:PX}{p r:PC}(hx:xv C.G st.slot x=.bool false)(hG:E.G=C.G)(h:AW C E r Q st):AW C E (.cond x p r) Q st:=IS hx hG (λ h=>by cases h) (λ _=>h)
def g_gh{c:PC}(g:Gh)(h:q)(e:Imp q (AW C E c Q (st.gh g)):=by exact i0)(H:st.ghOk g:=by exact lw):AW C E c Q st:=ZF g H (e h)
def mW{α:Type}{x r:α}{k:Nat}{st:St}{rs:List RX}{rl:List A}{ms':List (Nat×Row)}{k':Nat}(l:List (Nat×Nat))(h:some x=some r)
  (e:x=r->q7 st rs/\AV rl=true/\Le l ⟨oY 0 (resL st rs),st.mem,st.nx⟩ ⟨oY 0 rl,ms',k'⟩/\rL k l k'=true:=by(intro e;subst e;exact lw)):zK k st rs rl ms' k':=by
 obtain⟨H,O,U,Y⟩:=e (dY h);exact⟨H,O,l,U,Y⟩
@[go_sem] theorem aPw{α:Type}(a:Nat×α)(l m:List (Nat×α))(n:Nat):look ((a::l)++m) n=if a.1=n then some a.2 else look (l++m) n:=rfl
@[go_sem] theorem aPx(m:Nat->MS)(v:A)(vs H:List A):oT m ((v::vs)++H)=frz m v::oT m (vs++H):=rfl
@[go_sem] theorem aPy(m:Nat->MS)(v:A)(vs H:List A):pM m ((v::vs)++H)=(rK m v/\pM m (vs++H)):=rfl
@[go_sem] theorem aPz(v:A)(vs H:List A):qZ ((v::vs)++H)=tH v++qZ (vs++H):=rfl
@[go_sem] theorem aQ0(m:Nat->MS)(l:List (Nat×Nat))(k:Nat)(v a:A)(vs H O:List A):zH m l k ((v::vs)++H) (a::O)=(argM m l k v a/\zH m l k (vs++H) O):=rfl
@[go_sem] theorem aQ1(v a:A)(vs H O:List A):fzM ((v::vs)++H) (a::O)=(if a.hands then[]else tH v)++fzM (vs++H) O:=rfl
@[go_sem] theorem aQ2(q:Nat×MS)(r m:List (Nat×MS))(n:Nat):nxt n ((q::r)++m)=nxt (if q.1=n then n+1 else n) (r++m):=rfl
@[go_sem] theorem aQ3{α:Type}(m:List (Nat×α))(n:Nat):look ([]++m) n=look m n:=rfl
def mO{f:FuncId}{d:Option Nat}{M:Prop}{H:List A}{ps:List POp}{st:St}{K:St->Prop}(l U:List (Nat×Nat))(ids:List Nat){Y:List A}{ms ms':List (Nat×Row)}{k k':Nat}{r:A}
  (hf:MFn C f Y ms k r ms' k') (B:newL k st.nx (k'-k)=U) (O:ms.map (·.1)++(List.range (k'-k)).map (k+·)=ids) (h:q)
  (e:Imp q (arun C ps (st.app d (renR (l++U) r) (oE st.m (fzM H Y)++pO (l++U) ms' ids)) K):=by exact im)
  (F:okM st.m st.nx l H Y ms k k':=by exact lw)
  (ho:M:=by trivial) (hr:wC r=true:=by rfl):sO C f d none true M H ps st K:=by
 subst B;subst O;exact ZH l hf F (e h) ho hr
def RS(ms:List (Nat×Row))(k:Nat):ms.map (·.1)++(List.range (k-k)).map (k+·)=ms.map (·.1):=by rw[gY];exact eE _
def FW{α:Type}{X:Option α}{M v:α}{c:Bool}{f:FuncId}{d:Option Nat}{g:Option (Nat×Bool)}{U:Bool}{ob:Prop}{H:List A}{ps:List POp}{st:St}{K:St->Prop}(l:List (Nat×Nat))(ids:List Nat){Y:List A}{ms ms':List (Nat×Row)}{k:Nat}{r:A}
  (hv:(if c=true then X else some M)=some v) (hf:X=some v->MFn C f Y ms k r ms' k) (O:ms.map (·.1)=ids) (h:q)
  (ec:U=c:=by first|rfl|(simp;done)|grind) (hs:M=v->zI st.m (oE st.m (fzM H Y)++pO l ms' ids):=by(intro e;subst e;simp only[go_sem,↓reduceIte,reduceCtorEq,Nat.reduceEqDiff,Nat.reduceAdd,Nat.reduceSub,Nat.reduceMul,Nat.reduceLeDiff,Nat.reduceLT,Int.reduceLE,Int.reduceLT,Int.reduceToNat,Int.reduceNeg];first|(done)|trivial|(simp;done)|(repeat'(first|rfl|trivial|(simp;done)|apply And.intro))))
  (e:Imp q (arun C ps (st.app d (oF g U (renR l r)) (oE st.m (fzM H Y)++pO l ms' ids)) K):=by exact im)
  (B:okM st.m st.nx l H Y ms k k:=by exact lw)
  (ho:U=true->ob:=by first|(intro;trivial)|(intro;simp_all;done)) (hr:wC r=true:=by rfl) (F:(renR l r).isVV=true:=by rfl):sO C f d g U ob H ps st K:=by
 subst O;subst ec;refine ZI l (λ hg=>hf (uB hg hv)) (λ _=>B) ?_ ?_ ho hr F
 .intro hg;unfold mwM;rw[RS];exact hs (dY (RH hg hv))
 .unfold mwM;rw[RS];exact e h
def vC{M:List (List Nat)}{f:FuncId}{d:Option Nat}{ob:Prop}{H:List A}{vi:List Nat}{U:Bool}{ps:List POp}{st:St}{O:List (List Nat×List Nat)}{K:St->Prop}(l Y:List (Nat×Nat))(ids:List Nat){B:List A}{ms ms':List (Nat×Row)}{k k':Nat}{r:A}
  (hf:MFn C f B ms k r ms' k') (h0:newL k st.nx (k'-k)=Y) (F:ms.map (·.1)++(List.range (k'-k)).map (k+·)=ids) (h:q)
  (e:Imp q (vA (M.getD O.length []) 0 O vi ((oE st.m (fzM H B)++pO (l++Y) ms' ids).map (·.1))=true/\U=true/\rM C M ps (st.app d (renR (l++Y) r) (oE st.m (fzM H B)++pO (l++Y) ms' ids)) (O++[(vi,(oE st.m (fzM H B)++pO (l++Y) ms' ids).map (·.1))]) K):=by exact im)
  (x0:okM st.m st.nx l H B ms k k':=by exact lw)
  (ho:ob:=by trivial) (hr:wC r=true:=by rfl):zN C M f d none true ob H vi U ps st O K:=by
 subst h0;subst F;exact ZP l hf x0 (e h) ho hr
def M4{α β:Type}{x r:α}(h:some (Sum.inl x:α⊕β)=some (.inl r)):some x=some r:=by cases h;rfl
def Df{α β:Type}{x r:β}(h:some (Sum.inr x:α⊕β)=some (.inr r)):some x=some r:=by cases h;rfl
def RT{α:Type}{c O:Bool}{X Y r:α}{f:FuncId}{d:Option Nat}{g:Option (Nat×Bool)}{U:Prop}{H:List A}{ps:List POp}{st:St}{K:St->Prop}(h:(if c=true then X else Y)=r)
  (ht:O=true->X=r->sO C f d g O U H ps st K) (B:O=false->Y=r->sO C f d g O U H ps st K) (F:O=c:=by first|rfl|(simp;done)|grind):sO C f d g O U H ps st K:=by
 subst F;cases hg:O with
 |true=>rw[hg]at ht;exact ht rfl (uB hg h)
 |false=>rw[hg]at B;exact B rfl (RH hg h)
def RU{gv:Bool}{f:FuncId}{d:Option Nat}{g:Option (Nat×Bool)}{ob:Prop}{H:List A}{ps:List POp}{st:St}{K:St->Prop}(hc:gv=true)(l U:List (Nat×Nat))(ids:List Nat){Y:List A}{ms ms':List (Nat×Row)}{k k':Nat}{r:A}
  (hf:MFn C f Y ms k r ms' k') (B:newL k st.nx (k'-k)=U) (O:ms.map (·.1)++(List.range (k'-k)).map (k+·)=ids) (h:q)
  (e:Imp q (arun C ps (st.app d (oF g true (renR (l++U) r)) (oE st.m (fzM H Y)++pO (l++U) ms' ids)) K):=by exact im)
  (F:okM st.m st.nx l H Y ms k k':=by exact lw)
  (ho:ob:=by first|trivial|(simp_all;done)) (hr:wC r=true:=by rfl) (M:(renR (l++U) r).isVV=true:=by rfl):sO C f d g gv ob H ps st K:=by
 subst B;subst O;subst hc;exact⟨l,Y,ms,k,r,ms',k',λ _=>⟨ho,hf,F,trivial⟩,(λ h=>nomatch h),.inr M,FT hr,e h⟩
def RV(m:Nat->MS)(nx:Nat)(H:List A):mwM m ([]++newL 0 nx (0-0)) H [] [] [] 0 0=[]:=by cases H<;>rfl
def RW{B:Bool}{f:FuncId}{d:Option Nat}{g:Option (Nat×Bool)}{F:Prop}{O:List A}{ps:List POp}{st:St}{K:St->Prop}(M:B=false)(H:A)(h:q)
  (e:Imp q (arun C ps (st.app d (oF g false H) []) K):=by exact im)
  (hd:renR [] H=H:=by rfl) (hn:wC H=true:=by rfl) (Y:H.isVV=true:=by rfl):sO C f d g B F O ps st K:=by
 subst M;have U:renR ([]++newL 0 st.nx (0-0)) H=H:=hd;refine⟨[],[],[],0,H,[],0,(λ h=>nomatch h),λ _=>⟨rfl,?_⟩,.inr ?_,FT hn,?_⟩
 .rw[RV];trivial
 .rw[U];exact Y
 .rw[RV,U];exact e h
end
inductive TK where
 |b
 |i (k:IntKind)
 |s
 |st (fs:List (Nat×Nat))
 |ar (n e:Nat)
 |sl (e:Nat)
 |mp (k e:Nat)
 |o
structure TI where
 k:TK
 n:Nat
 y:Nat
def lk{α:Type}:List (Nat×α)->Nat->α->α
 |[],_,d=>d
 |q::r,n,d=>bif Nat.beq q.1 n then q.2 else lk r n d
structure TC where
 t:List (Nat×TI)
 m:List (Nat×Option Unit)
 z:Nat->Nat->List A
 k:{o:Operand}->Nat->PX
def TC.ty(c:TC)(t:Nat):TI:=lk c.t t ⟨.o,1,0⟩
def TC.el(c:TC)(t:Nat):Nat:=match(c.ty t).k with|.sl e=>e|.ar _ e=>e|_=>0
def TC.ag(c:TC)(t:Nat):Bool:=match(c.ty t).k with|.st _=>true|.ar _ _=>true|_=>false
def TC.kz(c:TC)(t:Nat):A:=match(c.ty t).k with|.mp k _=>bif c.ag k then .agg (c.z 0 k)else(c.z 0 k).headD .any|_=>.any
def TC.me(c:TC)(t:Nat):Nat:=match(c.ty t).k with|.mp _ e=>e|_=>0
def TC.mt(c:TC)(t:Nat):Nat:=match(c.ty t).k with|.mp k _=>k|_=>0
def TC.md(c:TC)(t:Nat):List A:=c.kz t::c.z 0 (c.me t)
def TC.lf(c:TC):Nat->Nat->List LK
 |0,_=>[]
 |d+1,t=>match(c.ty t).k with
  | .b=>[.b]
  | .i k=>[.i k]
  | .s=>[.s]
  | .st H=>H.flatMap λ q=>c.lf d q.2
  |_=>[]
def TC.x(c:TC)(t:Nat)(o:Operand):PX:=match o with
 | .tmp n=>.t n
 | .const _=>c.k (o:=o) t
 | .global g=>.g g
 | .func f=>.f f
def M5:Operand->Bool
 | .const (.slice _ _ _)=>true
 |_=>false
def TC.bo(c:TC)(H:BinOp)(t:Nat)(x y:Operand):PO×List PX:=match(c.ty t).k with
 | .sl _=>(.eqNil,[c.x t x])
 | .b=>(.eqb (match H with|.neq=>true|_=>false),[c.x t x,c.x t y])
 | .st _=>(.eqa (match H with|.neq=>true|_=>false) (c.lf 9 t),[c.x t x,c.x t y])
 | .ar _ _=>(.eqa (match H with|.neq=>true|_=>false) (c.lf 9 t),[c.x t x,c.x t y])
 |_=>(.bin H,[c.x t x,c.x t y])
def TC.args(c:TC):List Operand->List Nat->List PX
 |x::xs,t::ts=>c.x t x::c.args xs ts
 |x::xs,[]=>c.x 0 x::c.args xs []
 |[],_=>[]
def TC.op(c:TC)(h ty:Nat):Op->PO×List PX
 | .move x=>bif M5 x then(bif Nat.beq h 0 then(.mv,[.c (A.sl [])])else(.nilown (c.ty (c.el ty)).n (c.z 0 (c.el ty)),[.c (A.full [])]))else(.mv,[c.x ty x])
 | .assign x=>bif M5 x then(bif Nat.beq h 0 then(.mv,[.c (A.sl [])])else(.nilown (c.ty (c.el ty)).n (c.z 0 (c.el ty)),[.c (A.full [])]))else(.mv,[c.x ty x])
 | .pick a x y=>(.pick,[c.x 0 a,c.x 0 x,c.x 0 y])
 | .box t x=>(.box (c.ty t).n,[c.x t x])
 | .alloc t=>(.alloc (c.ty t).n (c.z h t),[])
 | .build t O=>(.build (c.z h t) (O.toList.map λ p=>match(c.ty t).k with
   | .st H=>((H.getD p.1 (0,0)).1,(c.ty (H.getD p.1 (0,0)).2).n)
   |_=>(p.1*(c.ty (c.el t)).n,(c.ty (c.el t)).n)),O.toList.map λ p=>match(c.ty t).k with
   | .st H=>c.x (H.getD p.1 (0,0)).2 p.2
   |_=>c.x (c.el t) p.2)
 | .buildSlice t _ O=>(bif Nat.beq h 0 then .bslice (c.ty (c.el t)).n (c.z 0 (c.el t))else .bown (c.ty (c.el t)).n (c.z 0 (c.el t)),O.toList.map λ p=>c.x (c.el t) p.2)
 | .load t x=>(.load (c.ty t).n (c.ag t),[c.x 0 x])
 | .store t x y=>(.store (c.ty t).n,[c.x 0 x,bif M5 y then .c (A.sl [])else c.x t y])
 | .binOp U t x y _=>c.bo U t x y
 | .unOp .neg _ x=>(.neg,[c.x 0 x])
 | .unOp _ _ x=>(.not,[c.x 0 x])
 | .convert t u x=>(match(c.ty t).k,(c.ty u).k with
  | .sl _,.s=>.cvS
  | .s,.sl _=>.cvB
  |_,.i k=>.conv k
  |_,_=>.mv,[c.x 0 x])
 | .field t x i=>(match(c.ty t).k with
  | .st H=>.field (H.getD i (0,0)).1 (c.ty (H.getD i (0,0)).2).n (c.ag (H.getD i (0,0)).2)
  |_=>.mv,[c.x 0 x])
 | .fieldAddr t x i=>(match(c.ty t).k with
  | .st H=>.faddr (H.getD i (0,0)).1
  |_=>.mv,[c.x 0 x])
 | .indexAddr t x i=>(match(c.ty t).k with
  | .ar n e=>.iaA n (c.ty e).n
  |_=>.iaS (c.ty (c.el t)).n (c.z 0 (c.el t)),[c.x 0 x,c.x 0 i])
 | .index t x i=>(match(c.ty t).k with
  | .ar n e=>.idxA n (c.ty e).n (c.ag e)
  |_=>.idxS,[c.x t x,c.x 0 i])
 | .slice t x l u m=>(match(c.ty t).k with
  | .s=>.slcS l.isSome u.isSome
  |_=>.slc (c.ty (c.el t)).n l.isSome u.isSome m.isSome,c.x 0 x::(l.toList++u.toList++m.toList).map (c.x 0))
 | .extract x i=>(.ext i,[c.x 0 x])
 | .nilCheck x=>(.nilck,[c.x 0 x])
 | .range t x=>(.rng,[c.x 0 x])
 | .next x _=>(.next (c.md h),[c.x 0 x])
 | .entry x=>(.entry (c.md h),[c.x 0 x])
 | .makeMap t _=>(.mkmap [c.kz t,.bool (c.ag (c.me t))],[])
 | .lookup t x i ok=>(.lkp ok (c.ag (c.me t)) (c.kz t) (c.z 0 (c.me t)),[c.x 0 x,c.x (c.mt t) i])
 | .insert t x i y=>(.mupd (c.kz t) (c.ag (c.me t)) (c.ty (c.me t)).n,[c.x 0 x,c.x (c.mt t) i,c.x (c.me t) y])
 | .mapUpdate t x i y=>(.mupd (c.kz t) (c.ag (c.me t)) (c.ty (c.me t)).n,[c.x 0 x,c.x (c.mt t) i,c.x (c.me t) y])
 | .makeSlice t x y=>(.mk (c.ty (c.el t)).n (c.ty (c.el t)).y (c.z 0 (c.el t)),[c.x 0 x,c.x 0 y])
 | .makeFunc (.func f) bs xs=>(match bs.toList with|[]=>(.mkf f,xs.toList.map (c.x 0))|b::_=>(.mkb f,[c.x 0 b]))
 | .call ⟨.builtin b,xs,ts⟩=>(match b,ts.toList with
  | .len,[t]=>(match(c.ty t).k with|.s=>.lenS|.mp _ _=>.lenM|_=>.len)
  | .append,t::_=>(match h with
   |0=>.append (c.ty (c.el t)).n (c.ty (c.el t)).y (c.z 0 (c.el t))
   |1=>.appc (c.ty (c.el t)).n (c.ty (c.el t)).y
   |_=>.apl (c.ty (c.el t)).n (c.ty (c.el t)).y)
  | .copy,t::_=>.copy (c.ty (c.el t)).n
  | .clear,t::_=>.clear (c.ty (c.el t)).n (c.z 0 (c.el t))
  | .min,_=>.min
  | .max,_=>.max
  |_,_=>.mv,xs.toList.map (c.x 0))
 | .call ⟨.value (.func f),xs,ts⟩=>(match lk c.m f none,h with
  |none,0=>.call f
  |none,_=>.callm f
  |some _,0=>.callm f
  |some _,_=>.call f,c.args xs.toList ts.toList)
 | .call ⟨.value x,xs,_⟩=>(match h with|0=>.callv|2=>.callb|_=>.callvm,c.x 0 x::xs.toList.map (c.x 0))
 |_=>(.mv,[])
def opTs:List Operand->List Nat
 |[]=>[]
 | .tmp n::r=>n::opTs r
 |_::r=>opTs r
def gTs(H:List Oper):Option (Nat×Bool)->List Nat
 |none=>[]
 |some q=>match(H[q.1]?).bind (·.dst)with
  |some d=>[d]
  |none=>[]
def M6(H:List Oper):List Oper->List Nat
 |[]=>[]
 |o::r=>opTs o.op.operands.toList++gTs H o.guard++M6 H r
def bits:List Nat->Nat
 |[]=>0
 |t::r=>Nat.lor (Nat.shiftLeft 1 t) (bits r)
def RY(m:Nat)(a:Nat×Nat):Nat×Nat:=match a with
 |(s,u)=>(Nat.lor s m,Nat.lor u (Nat.land s m))
def s5:Code->Nat×Nat->Nat×Nat
 | .region _ ops _,a=>RY (bits (M6 ops.toList ops.toList)) a
 | .seq x y,a=>s5 y (s5 x a)
 | .cond x y z,a=>s5 z (s5 y (RY (bits (opTs [x])) a))
 | .block _ x,a=>s5 x a
 | .loop x,a=>s5 x a
 | .scope x,a=>s5 x a
 |_,a=>a
def resU:List ResultVar->List Nat
 |[]=>[]
 | .tmp t::r=>t::resU r
 | .cell t _::r=>t::resU r
def FX(f:Func):Nat×Nat:=match f.body with
 |some b=>s5 b (0,bits (resU f.results.toList))
 |none=>(0,0)
def has(m t:Nat):Bool:=Nat.beq (Nat.land (Nat.shiftRight m t) 1) 1
def Dg(s u m:Nat):List Oper->List Nat
 |[]=>[]
 |o::r=>match o.dst with
  |none=>Dg s u m r
  |some t=>bif has u t then Dg s u m r else bif has m t then t::Dg s u m r else bif has s t then Dg s u m r else t::Dg s u m r
def M7(s u:Nat)(H:List Oper):List Nat:=Dg s u (bits (M6 H H)) H
def PO.wr:PO->Bool
 | .nilown _ _|.box _|.alloc _ _|.bown _ _|.store _|.append _ _ _|.appc _ _|.copy _| .clear _ _|.mkmap _|.mupd _ _ _|.rng|.next _|.entry _|.mk _ _ _|.callm _|.callvm=>true
 |_=>false
def RZ:List Oper->Bool
 |[]=>false
 |o::r=>match o.op with
  | .panic _=>true
  |_=>RZ r
def gOf(H:List Oper):Option (Nat×Bool)->Option (Nat×Bool)
 |none=>none
 |some q=>some (((H[q.1]?).bind (·.dst)).getD 0,q.2)
def TC.ops(c:TC)(H:List (Nat×Nat))(all:List Oper):List Oper->List POp
 |[]=>[]
 |o::r=>(match c.op (match o.dst with|some d=>lk H d 0|none=>0) o.type o.op with
  |(p,xs)=>⟨o.dst,gOf all o.guard,p,xs⟩)::c.ops H all r
def wrs:List POp->Bool
 |[]=>false
 |p::r=>bif p.po.wr then true else wrs r
def TC.code(c:TC)(O:List (Nat×Nat))(s u:Nat):Code->PC
 | .skip=>.skip
 | .region id H d=>bif RZ H.toList then .dead else
   match d with
   |false=>.reg (M7 s u H.toList) (c.ops O H.toList H.toList)
   |true=>bif wrs (c.ops O H.toList H.toList)||(Nat.beq (lk O (1000+id) 0) 1)then .regm (M7 s u H.toList) (ancs [] (H.toList.map pP)) (c.ops O H.toList H.toList)else .regd (M7 s u H.toList) (c.ops O H.toList H.toList)
 | .seq a b=>.seq (c.code O s u a) (c.code O s u b)
 | .cond x a b=>.cond (c.x 0 x) (c.code O s u a) (c.code O s u b)
 | .block i a=>.block i (c.code O s u a)
 | .loop a=>.loop (c.code O s u a)
 | .exit i=>.exit i
 | .scope a=>.scope (c.code O s u a)
 | .label _=>.label
 | .ret=>.ret
 |_=>.skip
def TC.rx(c:TC):List ResultVar->List RX
 |[]=>[]
 | .tmp t::r=>.t t::c.rx r
 | .cell t y::r=>.c t (c.ty y).n (c.ag y)::c.rx r
def TC.tr(c:TC)(H:List (Nat×Nat))(s u:Nat)(f:Func):PC×Nat×List RX×Nat:=
 (match f.body with
  |some b=>c.code H s u b
  |none=>.skip,f.ntmps,c.rx f.results.toList,Nat.add f.params.size f.nfree)
def cst(z:Nat->Nat->List A)(t:Nat):Value->A
 | .bool b=>.bool b
 | .int k n=>.int k n
 | .string s=>.str s
 | .slice _ _ _=>.full []
 | .agg _=>.agg (z 0 t)
 |_=>.any
def kon(z:Nat->Nat->List A){o:Operand}(t:Nat):PX:=match o with
 | .const v=>.c (cst z t v)
 |_=>.c .any
attribute [go_sem] kon cst
def nD:Arr ByteArray 16:=⟨[⟨#[]⟩,⟨#[80,71,65,89]⟩,⟨#[80,71,97]⟩,⟨#[80,71,97,68]⟩,⟨#[80,71,65]⟩,⟨#[83,73]⟩,⟨#[82]⟩,⟨#[82,78,79]⟩,⟨#[82]⟩,⟨#[82,76]⟩,⟨#[82,69,80,71,66]⟩,⟨#[82,80,68]⟩,⟨#[69,83]⟩,⟨#[69]⟩,⟨#[69]⟩,⟨#[69]⟩],rfl⟩
def I9:Arr (Arr Bool 5) 5:=⟨[⟨[true,true,true,true,false],rfl⟩,⟨[true,true,false,false,false],rfl⟩,⟨[true,false,true,false,false],rfl⟩,⟨[true,false,false,false,false],rfl⟩,⟨[false,false,false,false,false],rfl⟩],rfl⟩
noncomputable def C:Cx:=⟨Tryz.prog,[(0,Arr.enc eS nD),(1,Arr.enc (Arr.enc eB) I9)]⟩
@[go_sem] theorem C_G:C.G=[(0,Arr.enc eS nD),(1,Arr.enc (Arr.enc eB) I9)]:=rfl
def oL:C.P.follows .mixedOrders=true:=by kernel_rfl
def cT:List (Nat×TI):=[(0,⟨.o,1,0⟩),(3,⟨.i .i64,1,8⟩),(4,⟨.b,1,1⟩),(5,⟨.i .u8,1,1⟩),(9,⟨.s,1,16⟩),(20,⟨.o,1,16⟩),(22,⟨.sl 3,1,24⟩),(23,⟨.sl 5,1,24⟩),(27,⟨.st [(0,3),(1,3),(2,3)],3,24⟩),(29,⟨.st [(0,3),(1,3)],2,16⟩),(31,⟨.st [(0,9),(1,29)],3,32⟩),(32,⟨.sl 147,1,24⟩),(33,⟨.sl 118,1,24⟩),(35,⟨.st [(0,32),(1,33)],2,48⟩),(36,⟨.sl 96,1,24⟩),(38,⟨.st [(0,3),(1,27),(4,3),(5,31),(8,3),(9,3),(10,3),(11,3),(12,3),(13,3),(14,4),(15,35),(17,36)],18,200⟩),(40,⟨.o,1,8⟩),(42,⟨.st [(0,22),(1,3)],2,32⟩),(43,⟨.i .i64,1,8⟩),(44,⟨.o,1,0⟩),(47,⟨.o,1,0⟩),(54,⟨.sl 59,1,24⟩),(55,⟨.sl 105,1,24⟩),(56,⟨.o,1,0⟩),(59,⟨.st [(0,9),(1,3),(2,3),(3,3)],4,40⟩),(63,⟨.sl 116,1,24⟩),(65,⟨.st [(0,3),(1,32),(2,63)],3,56⟩),(74,⟨.o,1,8⟩),(76,⟨.st [(0,23),(1,43)],2,32⟩),(78,⟨.i .u64,1,8⟩),(80,⟨.mp 5 85,1,8⟩),(82,⟨.ar 16 9,16,256⟩),(83,⟨.o,1,8⟩),(85,⟨.st [(0,83),(1,3),(2,3),(3,3)],4,32⟩),(86,⟨.o,1,0⟩),(88,⟨.o,1,8⟩),(89,⟨.o,1,8⟩),(94,⟨.sl 31,1,24⟩),(96,⟨.st [(0,27),(3,3),(4,3),(5,94)],6,64⟩),(97,⟨.o,1,8⟩),(99,⟨.sl 101,1,24⟩),(101,⟨.st [(0,3),(1,31),(4,99)],5,64⟩),(103,⟨.st [(0,101),(5,3),(6,3)],7,80⟩),(105,⟨.st [(0,3),(1,27),(4,103),(11,9),(12,3)],13,136⟩),(107,⟨.o,1,0⟩),(111,⟨.sl 217,1,24⟩),(112,⟨.sl 169,1,24⟩),(114,⟨.st [(0,111),(1,112)],2,48⟩),(116,⟨.st [(0,27),(3,3),(4,114),(6,4),(7,103),(14,3),(15,3)],16,184⟩),(118,⟨.st [(0,27),(3,101),(8,3)],9,96⟩),(119,⟨.sl 27,1,24⟩),(120,⟨.o,1,0⟩),(134,⟨.o,1,0⟩),(141,⟨.o,1,8⟩),(144,⟨.sl 177,1,24⟩),(145,⟨.sl 179,1,24⟩),(147,⟨.st [(0,59),(4,144),(5,145),(6,145),(7,3)],8,120⟩),(148,⟨.o,1,8⟩),(150,⟨.sl 9,1,24⟩),(152,⟨.o,1,0⟩),(154,⟨.sl 313,1,24⟩),(155,⟨.o,1,0⟩),(161,⟨.o,1,8⟩),(166,⟨.o,1,0⟩),(169,⟨.st [(0,3),(1,3)],2,16⟩),(171,⟨.i .u64,1,8⟩),(177,⟨.st [(0,27),(3,29)],5,40⟩),(179,⟨.st [(0,27),(3,29),(5,3),(6,3)],7,56⟩),(181,⟨.o,1,0⟩),(183,⟨.o,1,0⟩),(185,⟨.o,1,0⟩),(187,⟨.o,1,0⟩),(189,⟨.o,1,8⟩),(193,⟨.o,1,8⟩),(196,⟨.st [(0,65),(3,154)],4,80⟩),(208,⟨.sl 4,1,24⟩),(214,⟨.o,1,0⟩),(217,⟨.st [(0,9),(1,29),(3,29)],5,48⟩),(223,⟨.ar 3 3,3,24⟩),(228,⟨.o,1,0⟩),(230,⟨.o,1,8⟩),(232,⟨.st [(0,23),(1,43)],2,32⟩),(234,⟨.st [(0,232)],2,32⟩),(237,⟨.o,1,8⟩),(239,⟨.st [(0,23),(1,3),(2,43)],3,40⟩),(244,⟨.o,1,8⟩),(254,⟨.o,1,0⟩),(260,⟨.o,1,0⟩),(266,⟨.o,1,0⟩),(271,⟨.o,1,0⟩),(277,⟨.o,1,8⟩),(280,⟨.o,1,8⟩),(283,⟨.o,1,0⟩),(290,⟨.o,1,0⟩),(292,⟨.o,1,0⟩),(296,⟨.o,1,0⟩),(299,⟨.o,1,0⟩),(303,⟨.o,1,0⟩),(306,⟨.o,1,0⟩),(313,⟨.st [(0,3),(1,27),(4,9),(5,29)],7,64⟩),(320,⟨.sl 29,1,24⟩),(325,⟨.o,1,0⟩),(339,⟨.ar 6 4,6,6⟩),(346,⟨.ar 5 4,5,5⟩),(347,⟨.ar 5 346,25,25⟩),(349,⟨.sl 145,1,24⟩)]
@[irreducible] def cZ:Nat->Nat->List A
 |0,3=>[A.int .i64 0]
 |0,4=>[A.bool false]
 |0,5=>[A.int .u8 0]
 |0,9=>[A.str ⟨#[]⟩]
 |0,22=>[A.sl []]
 |0,23=>[A.sl []]
 |0,27=>aK.enc aK.zero
 |0,29=>aC.enc aC.zero
 |0,31=>aO.enc aO.zero
 |0,32=>[A.sl []]
 |0,33=>[A.sl []]
 |0,35=>aH.enc aH.zero
 |0,36=>[A.sl []]
 |0,38=>aL.enc aL.zero
 |0,42=>bK.enc bK.zero
 |0,43=>[A.int .i64 0]
 |0,54=>[A.sl []]
 |0,55=>[A.sl []]
 |0,59=>aI.enc aI.zero
 |0,63=>[A.sl []]
 |0,65=>bD.enc bD.zero
 |0,76=>aR.enc aR.zero
 |0,78=>[A.int .u64 0]
 |0,85=>bM.enc bM.zero
 |0,94=>[A.sl []]
 |0,96=>aP.enc aP.zero
 |0,99=>[A.sl []]
 |0,101=>aS.enc aS.zero
 |0,103=>bO.enc bO.zero
 |0,105=>bP.enc bP.zero
 |0,111=>[A.sl []]
 |0,112=>[A.sl []]
 |0,114=>bA.enc bA.zero
 |0,116=>aG.enc aG.zero
 |0,118=>bQ.enc bQ.zero
 |0,119=>[A.sl []]
 |0,144=>[A.sl []]
 |0,145=>[A.sl []]
 |0,147=>aA.enc aA.zero
 |0,150=>[A.sl []]
 |0,154=>[A.sl []]
 |0,169=>bW.enc bW.zero
 |0,171=>[A.int .u64 0]
 |0,177=>aX.enc aX.zero
 |0,179=>aV.enc aV.zero
 |0,196=>bB.enc bB.zero
 |0,208=>[A.sl []]
 |0,217=>bN.enc bN.zero
 |0,223=>Arr.enc (eI .i64) (Arr.rep 3 0)
 |0,232=>bT.enc bT.zero
 |0,234=>bE.enc bE.zero
 |0,239=>bV.enc bV.zero
 |0,313=>bL.enc bL.zero
 |0,320=>[A.sl []]
 |0,339=>Arr.enc eB (Arr.rep 6 false)
 |0,346=>Arr.enc eB (Arr.rep 5 false)
 |0,349=>[A.sl []]
 |2,114=>[.sl [],.sl []]
 |3,94=>[.full []]
 |4,35=>[.sl [],.full []]
 |5,35=>[.full [],.full []]
 |5,114=>[.full [],.full []]
 |14,196=>[.int .i64 0,.sl [],.full [],.full []]
 |18,101=>[.int .i64 0,.str ⟨#[]⟩,.int .i64 0,.int .i64 0,.full []]
 |34,96=>[.int .i64 0,.int .i64 0,.int .i64 0,.int .i64 0,.int .i64 0,.full []]
 |114,147=>[.str ⟨#[]⟩,.int .i64 0,.int .i64 0,.int .i64 0,.full [],.full [],.full [],.int .i64 0]
 |_,_=>[A.any]
attribute [go_sem] cZ
def cM:List (Nat×Option Unit):=[(8,some ()),(17,some ()),(29,some ()),(31,some ()),(32,some ()),(33,some ()),(36,some ()),(40,some ()),(41,some ()),(42,some ()),(49,some ()),(50,some ()),(58,some ()),(62,some ()),(71,some ()),(72,some ()),(73,some ()),(74,some ()),(75,some ()),(80,some ()),(82,some ()),(85,some ()),(87,some ()),(105,some ()),(130,some ()),(132,some ()),(133,some ()),(160,some ()),(163,some ()),(164,some ()),(165,some ()),(166,some ()),(167,some ()),(168,some ()),(169,some ()),(170,some ()),(174,some ()),(176,some ()),(184,some ()),(186,some ()),(187,some ()),(188,some ()),(189,some ()),(190,some ()),(191,some ()),(192,some ()),(194,some ()),(195,some ()),(196,some ()),(216,some ()),(217,some ()),(218,some ()),(219,some ()),(222,some ()),(226,some ()),(227,some ()),(229,some ()),(230,some ()),(231,some ()),(233,some ()),(254,some ()),(256,some ()),(258,some ()),(259,some ()),(275,some ()),(312,some ())]
class OkP {α:Type} (m:Option α) (f:outParam FuncId) (av:outParam (List A)) (R:outParam (α->A)):Prop where
  ok:∀r,m=some r->PFn C f av (R r)
class OkM {α:Type} (m:Option α) (f:outParam FuncId) (av:outParam (List A)) (ms:outParam (List (Nat×Row))) (k:outParam Nat) (R:outParam (α->A)) (ms':outParam (α->List (Nat×Row))) (k':outParam Nat):Prop where
  ok:∀r,m=some r->MFn C f av ms k (R r) (ms' r) k'
class OkT (f:FuncId) (av:List A) (r:outParam A):Prop where
  ok:PFn C f av r
class OkL {α β:Type} (m:Option (α⊕β)) (f:outParam FuncId) (av:outParam (List A)) (ms:outParam (List (Nat×Row))) (k:outParam Nat) (R:outParam (α->A)) (ms':outParam (α->List (Nat×Row))) (k':outParam Nat):Prop where
  ok:∀r,m=some (.inl r)->MFn C f av ms k (R r) (ms' r) k'
class OkR {α β:Type} (m:Option (α⊕β)) (f:outParam FuncId) (av:outParam (List A)) (ms:outParam (List (Nat×Row))) (k:outParam Nat) (R:outParam (β->A)) (ms':outParam (β->List (Nat×Row))) (k':outParam Nat):Prop where
  ok:∀r,m=some (.inr r)->MFn C f av ms k (R r) (ms' r) k'
def s6{T:Type}{P:T->Prop}{fr:Nat->T}(H:P (fr 0))(O:∀n,P (fr n)->P (fr (n+1))):∀n,P (fr n)
  |0=>H
  |n+1=>O n (s6 H O n)
def Mk{α:Type}(x:α):Prop:=True
def mkP{α β:Type}{x:α}(hm:Mk x)(v:β):Mk (x,v):=trivial
class JS {α:Type} (x:α) (id:Nat) {γ:outParam Type} {V:outParam Type} (k k':outParam (V->γ)) (J:outParam (V->St)):Prop where
  e:∀v,k v=k' v
class LS {α G X:Type} (x:α) (b:G->Option (G⊕X)) (b':outParam (G->Option (G⊕X))) (I:outParam (G->St)):Prop where
  e:∀v,b v=b' v
theorem mkJ{α:Type}(x:α)(id:Nat){γ V:Type}{k k':V->γ}(e:∀v,k v=k' v)(J:V->St):JS x id k k' J:=⟨e⟩
theorem mkL{α G X:Type}(x:α){b H:G->Option (G⊕X)}(e:∀v,b v=H v)(I:G->St):LS x b H I:=⟨e⟩
def MFn.unfull1{f:FuncId}{es:List (List A)}{H:List A}{ms:List (Nat×Row)}{k:Nat}{r:A}{ms':List (Nat×Row)}{k':Nat}(h:MFn C f (.sl es::H) ms k r ms' k'):MFn C f (.full es::H) ms k r ms' k':=by
  intro w W μ vs hg hW hl ha hm hi;refine h w W μ vs hg hW hl (λ i v a hv hx=>?_) hm hi;cases i with
  |succ i=>exact ha (i+1) v a hv hx
  |zero=>
    simp only[List.getElem?_cons_zero,cJ]at hx;subst hx;have O:RepC w W v (.full es):=ha 0 v (.full es) hv rfl;cases O with
    |full a n es U=>exact U
def prA:A->A->List (Nat×Nat)
  | .ptr x _ _,.ptr y _ _=>[(y,x)]
  | .own x _ _,.own y _ _=>[(y,x)]
  |_,_=>[]
def prC:List A->List A->List (Nat×Nat)
  |a::r,b::s=>prA a b++prC r s
  |_,_=>[]
def prE:List (List A)->List (List A)->List (Nat×Nat)
  |a::r,b::s=>prC a b++prE r s
  |_,_=>[]
def prS(s:List (Nat×A)):List (Nat×A)->List (Nat×Nat)
  |[]=>[]
  |q::r=>(match look s q.1 with|some b=>prA b q.2|none=>[])++prS s r
def prM(m:List (Nat×Row))(l:List (Nat×Nat)):List (Nat×Row)->List (Nat×Nat)
  |[]=>[]
  |q::r=>(match look l q.1 with|some x=>(match look m x with|some w=>prE w.es q.2.es|none=>[])|none=>[])++prM m l r
def ptS(s:List (Nat×A)):List (Nat×A)->List (Nat×Nat)
  |[]=>[]
  |q::r=>(match q.2,look s q.1 with|.ptr y _ _,some (.ptr x _ _)=>[(y,x)]|_,_=>[])++ptS s r
def idL:Nat->List (Nat×Nat)
  |0=>[]
  |n+1=>idL n++[(n,n)]
def rl(k:Nat)(b:Bool)(s J:St):List (Nat×Nat):=idL k++prS s.fr J.fr++if b then prM s.mem (idL k++ptS s.fr J.fr) J.mem else[]
def ptC:List A->List A->List (Nat×Nat)
  | .ptr x _ _::r,.ptr y _ _::s=>(y,x)::ptC r s
  |_::r,_::s=>ptC r s
  |_,_=>[]
def cl(b:Bool)(H av:List A)(m ms:List (Nat×Row)):List (Nat×Nat):=prC H av++if b then prM m (ptC H av) ms else[]
def lv{p:Prop}(w:p:=by
  (simp only[go_sem,↓reduceIte,reduceCtorEq,Nat.reduceEqDiff,Nat.reduceAdd,Nat.reduceSub,Nat.reduceMul,Nat.reduceLeDiff,Nat.reduceLT,Int.reduceLE,Int.reduceLT,Int.reduceToNat,Int.reduceNeg]
   first
   |(done)
   |trivial
   |(simp;done)
   |((repeat'(first|rfl|trivial|omega|(simp;done)|(simp;omega)|(congr 1;omega)|(congr 1;simp only[cA,dE,dC,iA];omega)|apply And.intro))<;>fail))):p:=w
section
variable {E:Env} {Q:Exit→St→Prop} {st:St} {q:Prop}
def isAW{c:PC}(h:AW C E c Q st):AW C E c Q st:=h
def R0{f:FuncId}{d:Option Nat}{g:Option (Nat×Bool)}{H:Bool}{O:Prop}{args:List A}{rw:List (Nat×MS)}{ps:List POp}{st:St}{K:St->Prop}(h:xJ C f d g H O args rw ps st K):xJ C f d g H O args rw ps st K:=h
def R1{f:FuncId}{d:Option Nat}{g:Option (Nat×Bool)}{H:Bool}{O:Prop}{args:List A}{rw:List (Nat×MS)}{ps:List POp}{st:St}{K:St->Prop}(h:xK C f d g H O args rw ps st K):xK C f d g H O args rw ps st K:=h
def xN{α γ V:Type}{x:α}{id:Nat}{k k':V->γ}{J:V->St}{R:γ}{c:PC}{m:γ}(hm:Mk x)(h:m=R)[i:JS x id k k' J]
    (H:∀v,Mk (k v)->k' v=R->Q .normal (J v)) (hb:AW C E c (BlkJ E id J (λ v=>k v=R) Q) st):AW C E (.block id c) Q st:=
  pU J _ (λ v e=>H v trivial (by rw[<-i.e];exact e)) hb
def R2{α γ V:Type}{z:α}{k k':V->γ}{J:V->St}{x:PX}{p q:PC}{b c:Bool}{X Y r:γ}(hm:Mk z)(hx:xv C.G st.slot x=.bool b)(hG:E.G=C.G)(h:(if c=true then X else Y)=r)[i:JS z 999 k k' J]
    (H:∀v,Mk (k v)->k' v=r->Q .normal (J v)) (ht:b=true->X=r->AW C E p (xM E J (λ v=>k v=r) Q) st) (O:b=false->Y=r->AW C E q (xM E J (λ v=>k v=r) Q) st) (e:b=c:=by first|rfl|(simp;done)|grind):AW C E (.cond x p q) Q st:=
  rN J _ hx hG h (λ v e=>H v trivial (by rw[<-i.e];exact e)) ht O e
def R3{α:Type}{x:α}{c:PC}{G X β:Type}{body H:G->Option (G⊕X)}{I:G->St}{O:G}{kk:X->Option β}{r:β}{k:Nat}{l:List (Nat×Nat)}(hm:Mk x)(hK:E.k0=k)(h:(lY body O).bind kk=some r)[i:LS x body H I]
    (hb:∀g y,Mk (body g)->(∀U,y=.inr U->Mk x/\kk U=some r)->H g=some y->AW C E c (r9 E I y Q) (I g))
    (b:Bool) (hl:rl k b st (I O)=l:=by((conv=>lhs;reduce)<;>exact rfl))
    (Y:Le l st (I O)/\rL k l (I O).nx=true:=by exact lv):AW C E (.loop c) Q st:=by
  obtain⟨x,hx,B⟩:=lZ h;refine M2 I hK _ hx Y λ g y hy F=>hb g y trivial (λ U e=>⟨hm,?_⟩) (by rw[<-i.e];exact hy);rw[F U e];exact B
def R4{α:Type}{x:α}{c:PC}{G X β:Type}{body H:G->Option (G⊕X)}{I:G->St}{U:G}{kk:X->Option β}{r:β}{k:Nat}(hm:Mk x)(hK:E.k0=k)(l:List (Nat×Nat))(h:(lY body U).bind kk=some r)[i:LS x body H I]
    (hb:∀g y,Mk (body g)->(∀O,y=.inr O->Mk x/\kk O=some r)->H g=some y->AW C E c (r9 E I y Q) (I g))
    (Y:Le l st (I U)/\rL k l (I U).nx=true:=by exact lv):AW C E (.loop c) Q st:=by
  obtain⟨x,hx,B⟩:=lZ h;refine M2 I hK l hx Y λ g y hy F=>hb g y trivial (λ O e=>⟨hm,?_⟩) (by rw[<-i.e];exact hy);rw[F O e];exact B
def R5{V γ:Type}{J:V->St}{k:V->γ}{R:γ}{s:St}{n:Nat}{v:V}{l:List (Nat×Nat)}(hK:E.k0=n)(h:k v=R)
    (b:Bool) (hl:rl n b s (J v)=l:=by((conv=>lhs;reduce)<;>exact rfl))
    (H:Le l s (J v)/\rL n l (J v).nx=true:=by exact lv):uC E J (λ v=>k v=R) s:=RI hK v h _ H
def R6{G X:Type}{I:G->St}{H:G}{y:G⊕X}{s:St}{k:Nat}{l:List (Nat×Nat)}(hK:E.k0=k)(h:some (.inl H)=some y)
    (b:Bool) (hl:rl k b s (I H)=l:=by((conv=>lhs;reduce)<;>exact rfl))
    (O:Le l s (I H)/\rL k l (I H).nx=true:=by exact lv):FU E I y s:=by
  cases h;exact RJ hK _ O
def R7{G X β:Type}{M:Prop}{y:G⊕X}{x:X}{kk:X->Option β}{R:Option β}(kx:∀H,y=.inr H->M/\kk H=R)(h:some (.inr x)=some y):M/\kk x=R:=kx x (dY h).symm
def Ja{α:Type}{x r:α}{k:Nat}{st:St}{rs:List RX}{H:List A}{ms':List (Nat×Row)}{k':Nat}{l:List (Nat×Nat)}(b:Bool)(h:some x=some r)
    (hl:rl k b ⟨oY 0 (resL st rs),st.mem,st.nx⟩ ⟨oY 0 H,ms',k'⟩=l:=by((conv=>lhs;reduce)<;>exact rfl))
    (e:x=r->q7 st rs/\AV H=true/\Le l ⟨oY 0 (resL st rs),st.mem,st.nx⟩ ⟨oY 0 H,ms',k'⟩/\rL k l k'=true:=by(intro e;subst e;exact lv)):zK k st rs H ms' k':=by
  obtain⟨O,U,Y,B⟩:=e (dY h);exact⟨O,U,l,Y,B⟩
def R8{k:Nat}{st:St}{rs:List RX}{H:List A}{ms':List (Nat×Row)}{k':Nat}(h:zK k st rs H ms' k'):zK k st rs H ms' k':=h
def R9{U:List (List Nat)}{f:FuncId}{d:Option Nat}{g:Option (Nat×Bool)}{Y:Bool}{B:Prop}{args:List A}{rw:List (Nat×MS)}{ids:List Nat}{H:Bool}{ps:List POp}{st:St}{O:List (List Nat×List Nat)}{K:St->Prop}(h:xL C U f d g Y B args rw ids H ps st O K):xL C U f d g Y B args rw ids H ps st O K:=h
def Sa{f:FuncId}{d:Option Nat}{g:Option (Nat×Bool)}{O:Bool}{U:Prop}{H:List A}{ps:List POp}{st:St}{K:St->Prop}(h:sO C f d g O U H ps st K):sO C f d g O U H ps st K:=h
def Sb{Y:List (List Nat)}{f:FuncId}{d:Option Nat}{g:Option (Nat×Bool)}{B:Bool}{F:Prop}{H:List A}{M:List Nat}{O:Bool}{ps:List POp}{st:St}{U:List (List Nat×List Nat)}{K:St->Prop}(h:zN C Y f d g B F H M O ps st U K):zN C Y f d g B F H M O ps st U K:=h
def uE{f:FuncId}{d:Option Nat}{F:Prop}{H:List A}{ps:List POp}{st:St}{K:St->Prop}{l U:List (Nat×Nat)}{ids:List Nat}{av:List A}{ms ms':List (Nat×Row)}{k k':Nat}{r:A}(b:Bool)
    (M:MFn C f av ms k r ms' k') (h:q) (hl:cl b H av st.mem ms=l:=by((conv=>lhs;reduce)<;>exact rfl)) (Y:newL k st.nx (k'-k)=U:=by((conv=>lhs;reduce)<;>exact rfl)) (O:ms.map (·.1)++(List.range (k'-k)).map (k+·)=ids:=by((conv=>lhs;reduce)<;>exact rfl))
    (e:Imp q (arun C ps (st.app d (renR (l++U) r) (oE st.m (fzM H av)++pO (l++U) ms' ids)) K):=by exact im)
    (B:okM st.m st.nx l H av ms k k':=by exact lv) (ho:F:=by trivial) (hr:wC r=true:=by rfl):sO C f d none true F H ps st K:=
  mO l U ids M Y O h e B ho hr
def wE{F:List (List Nat)}{f:FuncId}{d:Option Nat}{ob:Prop}{H:List A}{M:List Nat}{Y:Bool}{ps:List POp}{st:St}{O:List (List Nat×List Nat)}{K:St->Prop}{l U:List (Nat×Nat)}{ids:List Nat}{av:List A}{ms ms':List (Nat×Row)}{k k':Nat}{r:A}(b:Bool)
    (hf:MFn C f av ms k r ms' k') (h:q) (hl:cl b H av st.mem ms=l:=by((conv=>lhs;reduce)<;>exact rfl)) (h0:newL k st.nx (k'-k)=U:=by((conv=>lhs;reduce)<;>exact rfl)) (B:ms.map (·.1)++(List.range (k'-k)).map (k+·)=ids:=by((conv=>lhs;reduce)<;>exact rfl))
    (e:Imp q (vA (F.getD O.length []) 0 O M ((oE st.m (fzM H av)++pO (l++U) ms' ids).map (·.1))=true/\Y=true/\rM C F ps (st.app d (renR (l++U) r) (oE st.m (fzM H av)++pO (l++U) ms' ids)) (O++[(M,(oE st.m (fzM H av)++pO (l++U) ms' ids).map (·.1))]) K):=by exact im)
    (x0:okM st.m st.nx l H av ms k k':=by exact lv) (ho:ob:=by trivial) (hr:wC r=true:=by rfl):zN C F f d none true ob H M Y ps st O K:=
  vC l U ids hf h0 B h e x0 ho hr
def gogo{p:Prop}(w:p:=by
      (skip
       repeat' first
        | (with_reducible refine isAW ?_
           first
           |(with_reducible obtain⟨_,h⟩:=mH h)
           | (with_reducible obtain⟨hm,h⟩:=R7 kx h
              clear kx
              try dsimp only at h)
           |refine lW ?_
           |refine mE ?_
           |refine oI ?_
           |refine mG ?_
           |refine lX hG ?_
           |refine zO oL hG ?_
           |refine qD oL hG ?_
           | (refine R2 hm rfl hG h (λ v hm h=>?_) (λ _ h=>?_) (λ _ h=>?_)
              focus (try refine g_st ?_))
           |(refine mA rfl hG h (λ _ h=>?_) (λ _ h=>?_))
           |refine AY rfl hG ?_
           |refine I8 rfl hG ?_
           | (refine xN hm h (λ v hm h=>?_) ?_
              focus (try refine g_st ?_))
           |refine oG ?_
           |(refine R3 hm hK h (λ g y hm kx h=>?_) false;try refine g_st ?_)
           |(refine R3 hm hK h (λ g y hm kx h=>?_) true;try refine g_st ?_))
        | (with_reducible refine R0 ?_
           first
           |(refine nC (λ _=>OkT.ok) ?_)
           | (obtain⟨v,hv,h⟩:=lZ h;have hm:=mkP hm v
              repeat(with_reducible obtain⟨_,h⟩:=mH h)
              first
              |refine nC (λ _=>OkP.ok _ hv) ?_
              |refine nC (λ hg=>OkP.ok _ (uB hg hv)) ?_
              |refine nC (λ _=>PFn.unfull (OkP.ok _ hv)) ?_
              |refine nC (λ _=>hrc _ _ hv) ?_
              |refine nC (λ _=>hrc _ _ _ hv) ?_
              |refine nC (λ _=>hrc _ _ _ _ hv) ?_
              |refine nC (λ _=>hrc _ _ _ _ _ hv) ?_))
        | (with_reducible refine R1 ?_
           first
           |(refine wD (λ _=>OkT.ok) ?_)
           | (obtain⟨v,hv,h⟩:=lZ h;have hm:=mkP hm v
              repeat(with_reducible obtain⟨_,h⟩:=mH h)
              first
              |refine wD (λ _=>OkP.ok _ hv) ?_
              |refine wD (λ hg=>OkP.ok _ (uB hg hv)) ?_
              |refine wD (λ _=>PFn.unfull (OkP.ok _ hv)) ?_
              |refine wD (λ _=>hrc _ _ hv) ?_
              |refine wD (λ _=>hrc _ _ _ hv) ?_
              |refine wD (λ _=>hrc _ _ _ _ hv) ?_
              |refine wD (λ _=>hrc _ _ _ _ _ hv) ?_))
        | (with_reducible refine R9 ?_
           first
           |(refine sD (λ _=>OkT.ok) ?_)
           | (obtain⟨v,hv,h⟩:=lZ h;have hm:=mkP hm v
              repeat(with_reducible obtain⟨_,h⟩:=mH h)
              first
              |refine sD (λ _=>OkP.ok _ hv) ?_
              |refine sD (λ hg=>OkP.ok _ (uB hg hv)) ?_
              |refine sD (λ _=>hrc _ _ hv) ?_
              |refine sD (λ _=>hrc _ _ _ hv) ?_
              |refine sD (λ _=>hrc _ _ _ _ hv) ?_
              |refine sD (λ _=>hrc _ _ _ _ _ hv) ?_))
        | (with_reducible refine Sa ?_
           obtain⟨v,hv,h⟩:=lZ h;have hm:=mkP hm v
           repeat(with_reducible obtain⟨_,h⟩:=mH h)
           first
           |refine uE false (OkM.ok _ hv) ?_
           |refine uE true (OkM.ok _ hv) ?_
           |refine uE false (MFn.unfull1 (OkM.ok _ hv)) ?_
           |refine uE false (hrc _ _ hv) ?_
           |refine uE true (hrc _ _ hv) ?_
           |refine uE false (hrc _ _ _ hv) ?_
           |refine uE true (hrc _ _ _ hv) ?_
           |refine uE false (hrc _ _ _ _ hv) ?_
           |refine uE true (hrc _ _ _ _ hv) ?_
           |refine uE false (hrc _ _ _ _ _ hv) ?_
           |refine uE true (hrc _ _ _ _ _ hv) ?_
           | (rcases v with v|v
              all_goals dsimp only at h
              all_goals first
              |refine uE false (OkL.ok _ hv) ?_
              |refine uE false (OkR.ok _ hv) ?_))
        | (with_reducible refine Sb ?_
           obtain⟨v,hv,h⟩:=lZ h;have hm:=mkP hm v
           repeat(with_reducible obtain⟨_,h⟩:=mH h)
           first
           |refine wE false (OkM.ok _ hv) ?_
           |refine wE true (OkM.ok _ hv) ?_
           |refine wE false (MFn.unfull1 (OkM.ok _ hv)) ?_
           |refine wE false (hrc _ _ hv) ?_
           |refine wE true (hrc _ _ hv) ?_
           |refine wE false (hrc _ _ _ hv) ?_
           |refine wE true (hrc _ _ _ hv) ?_
           |refine wE false (hrc _ _ _ _ hv) ?_
           |refine wE true (hrc _ _ _ _ hv) ?_
           |refine wE false (hrc _ _ _ _ _ hv) ?_
           |refine wE true (hrc _ _ _ _ _ hv) ?_)
        | (with_reducible refine R8 ?_
           first
           |exact Ja false h
           |exact Ja true h
           |exact Ja false (M4 h)
           |exact Ja false (Df h)
           |(cases h;done))
        |exact R6 hK h false
        |exact R5 hK h false
        |exact R6 hK h true
        |exact R5 hK h true
        | (fail_if_success (with_reducible refine isAW ?_)
           fail_if_success (with_reducible refine R0 ?_)
           fail_if_success (with_reducible refine R1 ?_)
           fail_if_success (with_reducible refine R9 ?_)
           fail_if_success (with_reducible refine Sa ?_)
           fail_if_success (with_reducible refine Sb ?_)
           fail_if_success (with_reducible refine R8 ?_)
           fail_if_success (with_reducible refine isJoin ?_)
           fail_if_success (with_reducible refine isNext ?_)
           first
           |exact nM h
           |exact uD h))):p:=w
def oN(F:Func)(M:List (Nat×Nat)){f:FuncId}{av:List A}{r:A}{O:(Nat->Nat->List A)->({o:Operand}->Nat->PX)->PC}{N U:Nat}{rs:List RX}
    (h:∀E:Env,E.G=C.G->E.N=N->E.k0=0->AW C E (O cZ (@kon cZ)) (Post rs r) ⟨oY 0 av,[],0⟩)
    {us B:Nat} (hu:FX F=(us,B):=by((conv=>lhs;reduce)<;>exact rfl)) (hp:∀(Z:Nat->Nat->List A) (K:{o:Operand}->Nat->PX),TC.tr ⟨cT,cM,Z,@K⟩ M us B F=(O Z @K,N,rs,U):=by(intro Z K;((conv=>lhs;reduce)<;>exact rfl))) (H:chkF C.P f (O cZ (@kon cZ)) N rs U=true:=by kernel_rfl) (Y:av.length=U:=by rfl):PFn C f av r:=MH H Y h
def oZ(F:Func)(hs:List (Nat×Nat)){f:FuncId}{av:List A}{ms ms':List (Nat×Row)}{k k':Nat}(rl:List A){U:(Nat->Nat->List A)->({o:Operand}->Nat->PX)->PC}{N Y:Nat}{rs:List RX}
    (h:∀E:Env,E.G=C.G->E.N=N->E.k0=k->AW C E (U cZ (@kon cZ)) (FK k rs rl ms' k') ⟨oY 0 av,ms,k⟩)
    {us ut:Nat} (hu:FX F=(us,ut):=by((conv=>lhs;reduce)<;>exact rfl)) (hp:∀(Z:Nat->Nat->List A) (K:{o:Operand}->Nat->PX),TC.tr ⟨cT,cM,Z,@K⟩ hs us ut F=(U Z @K,N,rs,Y):=by(intro Z K;((conv=>lhs;reduce)<;>exact rfl))) (H:chkF C.P f (U cZ (@kon cZ)) N rs Y=true:=by kernel_rfl)
    (B:av.length=Y:=by rfl) (M:C8 ms=true:=by rfl) (O:p9 ms k=true:=by rfl) (h0:rl.length=rs.length:=by rfl):MFn C f av ms k (C6 rl) ms' k':=Q7 H B M O h0 h
theorem ok1{α:Type}{m m':Option α}(u:m=m')(F:Func)(M:List (Nat×Nat)){f:FuncId}{av:List A}{R:α->A}{O:(Nat->Nat->List A)->({o:Operand}->Nat->PX)->PC}{N U:Nat}{rs:List RX}{us B:Nat}(hu:FX F=(us,B):=by((conv=>lhs;reduce)<;>exact rfl))(hp:∀(Z:Nat->Nat->List A) (K:{o:Operand}->Nat->PX),TC.tr ⟨cT,cM,Z,@K⟩ M us B F=(O Z @K,N,rs,U):=by(intro Z K;((conv=>lhs;reduce)<;>exact rfl)))(H:chkF C.P f (O cZ (@kon cZ)) N rs U=true:=by kernel_rfl)
    (w:∀E:Env,∀r,E.G=C.G->E.k0=0->Mk m->m'=some r->AW C E (O cZ (@kon cZ)) (Post rs (R r)) ⟨oY 0 av,[],0⟩:=by
      (intro E r hG hK hm h;exact gogo)) (Y:av.length=U:=by rfl):OkP m f av R:=
  ⟨λ r h=>MH H Y λ E hG _ hK=>w E r hG hK trivial (u▸h)⟩
theorem ok2{α:Type}(R:α->A){m m':α}(u:m=m')(F:Func)(M:List (Nat×Nat)){f:FuncId}{av:List A}{O:(Nat->Nat->List A)->({o:Operand}->Nat->PX)->PC}{N U:Nat}{rs:List RX}{us B:Nat}(hu:FX F=(us,B):=by((conv=>lhs;reduce)<;>exact rfl))(hp:∀(Z:Nat->Nat->List A) (K:{o:Operand}->Nat->PX),TC.tr ⟨cT,cM,Z,@K⟩ M us B F=(O Z @K,N,rs,U):=by(intro Z K;((conv=>lhs;reduce)<;>exact rfl)))(H:chkF C.P f (O cZ (@kon cZ)) N rs U=true:=by kernel_rfl)
    (w:∀E:Env,∀r,E.G=C.G->E.k0=0->Mk m->m'=r->AW C E (O cZ (@kon cZ)) (Post rs (R r)) ⟨oY 0 av,[],0⟩:=by
      (intro E r hG hK hm h;exact gogo)) (Y:av.length=U:=by rfl):OkT f av (R m):=
  ⟨MH H Y λ E hG _ hK=>w E m hG hK trivial u.symm⟩
theorem okm{α:Type}{m m':Option α}(u:m=m'){f:FuncId}{av:List A}{ms:List (Nat×Row)}{k k':Nat}(U:α->List A){ms':α->List (Nat×Row)}(F:Func)(hs:List (Nat×Nat)){Y:(Nat->Nat->List A)->({o:Operand}->Nat->PX)->PC}{N B:Nat}{rs:List RX}{us ut:Nat}(hu:FX F=(us,ut):=by((conv=>lhs;reduce)<;>exact rfl))(hp:∀(Z:Nat->Nat->List A) (K:{o:Operand}->Nat->PX),TC.tr ⟨cT,cM,Z,@K⟩ hs us ut F=(Y Z @K,N,rs,B):=by(intro Z K;((conv=>lhs;reduce)<;>exact rfl)))(H:chkF C.P f (Y cZ (@kon cZ)) N rs B=true:=by kernel_rfl)
    (w:∀E:Env,∀r,E.G=C.G->E.k0=k->Mk m->m'=some r->AW C E (Y cZ (@kon cZ)) (FK k rs (U r) (ms' r) k') ⟨oY 0 av,ms,k⟩:=by
      (intro E r hG hK hm h;exact gogo))
    (M:av.length=B:=by rfl) (h0:C8 ms=true:=by rfl) (O:p9 ms k=true:=by rfl) (x0:∀r,(U r).length=rs.length:=by(intro r;rfl)):OkM m f av ms k (λ r=>C6 (U r)) ms' k':=
  ⟨λ r h=>Q7 (rl:=U r) H M h0 O (x0 r) λ E hG _ hK=>w E r hG hK trivial (u▸h)⟩
end
end Ab
end Go.Proofs.YtfmnjkfhahfhgaaGreatDoor
