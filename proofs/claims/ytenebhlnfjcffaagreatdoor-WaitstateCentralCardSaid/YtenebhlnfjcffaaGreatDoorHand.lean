import Derived.Test.YtenebhlnfjcffaaGreatDoorSim
import Derived.Test.YtenebhlnfjcffaaGreatDoorProg
import Derived.KernelRfl
import Derived.Test.YtenebhlnfjcffaaGreatDoorAb16
import Derived.Shelf.Spec.SlicesGrow
namespace Go.Proofs.YtenebhlnfjcffaaGreatDoor
namespace Ab
set_option linter.unusedSimpArgs false
set_option linter.unusedVariables false
def gd{α:Type}(p:Prop)[Decidable p](k:Option α):Option α:=if p then k else none
theorem zg8{α:Type}{p:Prop}[Decidable p]{k:Option α}{r:α}(h:gd p k=some r):p/\k=some r:=by
 unfold gd at h;split at h
 .exact⟨by assumption,h⟩
 .cases h
theorem zh3{α:Type}{p:Prop}[Decidable p]{k:Option α}(h:p):gd p k=k:=bX h
theorem zf3{α β:Type}{m:Option α}{f:α->Option β}{r:β}(h:m.bind f=some r):∃v,m=some v/\f v=some r:=by
 cases m with
 |none=>cases h
 |some v=>exact⟨v,rfl,h⟩
theorem zaZ9{α:Type}{c:Bool}{x y r:α}(hb:c=true)(h:(if c=true then x else y)=r):x=r:=by rw[bX hb]at h;exact h
theorem zdH0{α:Type}{c:Bool}{x y r:α}(hb:c=false)(h:(if c=true then x else y)=r):y=r:=by subst hb;exact h
def iter{G X:Type}(body:G->Option (G⊕X)):Nat->G->Option X
 |0,_=>none
 |n+1,g=>match body g with
  |none=>none
  |some (.inl g')=>iter body n g'
  |some (.inr x)=>some x
theorem zbF0{G X:Type}{body:G->Option (G⊕X)}{x:X}:∀{n m:Nat} {g:G},iter body n g=some x->n<=m->iter body m g=some x
 |0,_,_,h,_=>by cases h
 |n+1,0,_,_,hm=>by omega
 |n+1,m+1,g,h,hm=>by
  simp only[iter]at h⊢;cases hb:body g with
  |none=>rw[hb]at h;cases h
  |some y=>
   rw[hb]at h;cases y with
   |inl g'=>exact zbF0 (n:=n) (m:=m) h (by omega)
   |inr x'=>exact h
open Classical in
noncomputable def zc2{G X:Type}(body:G->Option (G⊕X))(g:G):Option X:=
 match iter body 1000 g with
 |some x=>some x
 |none=>if h:∃n x,iter body n g=some x then some (Classical.choose (fF h))else none
theorem zay8{G X:Type}{body:G->Option (G⊕X)}{g:G}{x:X}:zc2 body g=some x↔∃n,iter body n g=some x:=by
 have both:∀{n m:Nat} {x y:X},iter body n g=some x->iter body m g=some y->some x=some y:=λ{n m x y} h1 h2=>by rw[<-zbF0 h1 (Nat.le_add_right n m),<-zbF0 h2 (Nat.le_add_left m n)]
 unfold zc2;cases h0:iter body 1000 g with
 |some y=>exact⟨λ h=>⟨1000,by rw[h0];exact h⟩,λ⟨n,hn⟩=>both h0 hn⟩
 |none=>
  constructor
  .intro h;simp only at h;split at h
   .rename_i hh;cases h;exact⟨_,fF (fF hh)⟩
   .cases h
  .rintro⟨n,hn⟩;have hh:∃n x,iter body n g=some x:=⟨n,x,hn⟩;simp only;rw[kN hh];exact both (fF (fF hh)) hn
theorem zq3{G X:Type}(body:G->Option (G⊕X))(g:G):zc2 body g=match body g with
  |none=>none
  |some (.inl g')=>zc2 body g'
  |some (.inr x)=>some x:=by
 cases hb:body g with
 |none=>
  simp only;cases h:zc2 body g with
  |none=>rfl
  |some x=>
   obtain⟨n,hn⟩:=zay8.1 h;cases n with
   |zero=>cases hn
   |succ n=>simp only[iter,hb]at hn;cases hn
 |some y=>
  cases y with
  |inr x=>exact zay8.2 ⟨1,by simp[iter,hb]⟩
  |inl g'=>
   simp only;cases h:zc2 body g' with
   |some x=>obtain⟨n,hn⟩:=zay8.1 h;exact zay8.2 ⟨n+1,by simp only[iter,hb];exact hn⟩
   |none=>
    cases h2:zc2 body g with
    |none=>rfl
    |some x=>
     obtain⟨n,hn⟩:=zay8.1 h2;cases n with
     |zero=>cases hn
     |succ n=>simp only[iter,hb]at hn;rw[zay8.2 ⟨n,hn⟩]at h;cases h
def zba0(E:Env){V:Type}(J:V->St)(P:V->Prop)(s:St):Prop:=∃v,P v/\St.le E s (J v)
theorem zcz2{E:Env}{V:Type}{J:V->St}{P:V->Prop}{s:St}{k:Nat}(hK:E.k0=k)(v:V)(h:P v)(l:List (Nat×Nat))(hl:Le l s (J v)/\zaB3 k l (J v).nx=true):zba0 E J P s:=⟨v,h,St.le_of l hl.1 (by rw[hK];exact hl.2)⟩
def zbt4(E:Env){V:Type}(J:V->St)(P:V->Prop)(Q:Exit->St->Prop):Exit->St->Prop:=λ e s=>match e with|.normal=>zba0 E J P s|e=>Q e s
def BlkJ(E:Env){V:Type}(id:Nat)(J:V->St)(P:V->Prop)(Q:Exit->St->Prop):Exit->St->Prop:=λ e s=>match e with
 | .normal=>zba0 E J P s
 | .exit i=>if i=id then zba0 E J P s else Q (.exit i) s
 |e=>Q e s
def zcz3(E:Env){G X:Type}(I:G->St)(y:G⊕X)(s:St):Prop:=∃g',y=.inl g'/\St.le E s (I g')
theorem zcz4{E:Env}{G X:Type}{I:G->St}{g':G}{s:St}{k:Nat}(hK:E.k0=k)(l:List (Nat×Nat))(hl:Le l s (I g')/\zaB3 k l (I g').nx=true):zcz3 (X:=X) E I (.inl g') s:=⟨g',rfl,St.le_of l hl.1 (by rw[hK];exact hl.2)⟩
def zbL2(E:Env){G X:Type}(I:G->St)(y:G⊕X)(Q:Exit->St->Prop):Exit->St->Prop:=λ e s=>match e with|.normal=>zcz3 E I y s|e=>Q e s
section
variable {C:Cx} {E:Env} {Q:Exit→St→Prop} {st:St}
theorem AW.join{V:Type}{J:V->St}{c:PC}{Q':Exit->St->Prop}(h:AW C E c Q' st)
  (hq:∀e s,Q' e s->Q e s\/∃v,St.le E s (J v)/\Q e (J v)):AW C E c Q st:=
 λ code hc a w hs=>wp_mono (h code hc a w hs) λ e a' w' ⟨st',h1,h2⟩=>by
  rcases hq e st' h1 with h3|⟨v,h3,h4⟩
  .exact⟨st',h3,h2⟩
  .exact⟨J v,h4,h3 a' w' h2⟩
theorem zdC3{x:PX}{p q:PC}{V:Type}(J:V->St)(P:V->Prop){b:Bool}(hx:xv C.G st.slot x=.bool b)(hG:E.G=C.G)(hk:∀v,P v->Q .normal (J v))
  (ht:b=true->AW C E p (zbt4 E J P Q) st) (hf:b=false->AW C E q (zbt4 E J P Q) st):AW C E (.cond x p q) Q st:=by
 have key:∀c,AW C E c (zbt4 E J P Q) st->AW C E c Q st:=λ c h=>h.join (J:=J) λ e s h=>by
  cases e with
  |normal=>obtain⟨v,h1,h2⟩:=h;exact .inr ⟨v,h2,hk v h1⟩
  |_=>exact .inl h
 exact zbQ2 hx hG (λ h=>key _ (ht h)) (λ h=>key _ (hf h))
theorem zO8{id:Nat}{c:PC}{V:Type}(J:V->St)(P:V->Prop)(hk:∀v,P v->Q .normal (J v))(h:AW C E c (BlkJ E id J P Q) st):AW C E (.block id c) Q st:=by
 refine zbT5 (h.join (J:=J) λ e s h=>?_);cases e with
 |normal=>obtain⟨v,h1,h2⟩:=h;exact .inr ⟨v,h2,hk v h1⟩
 |exit i=>
  simp only[BlkJ]at h⊢;split at h
  .obtain⟨v,h1,h2⟩:=h;rename_i hi;exact .inr ⟨v,h2,by rw[bX hi];exact hk v h1⟩
  .rename_i hi;exact .inl (by rw[bV hi];exact h)
 |_=>exact .inl h
def zcz5(E:Env){V:Type}(id:Nat)(J:V->St)(P:V->Prop)(Q:Exit->St->Prop):Exit->St->Prop:=λ e s=>match e with
 | .normal=>zba0 E J P s\/Q .normal s
 | .exit i=>if i=id then(zba0 E J P s\/Q .normal s)else Q (.exit i) s
 |e=>Q e s
theorem zck3{id:Nat}{c:PC}{V:Type}(J:V->St)(P:V->Prop)(hk:∀v,P v->Q .normal (J v))(h:AW C E c (zcz5 E id J P Q) st):AW C E (.block id c) Q st:=by
 refine zbT5 (h.join (J:=J) λ e s h=>?_);cases e with
 |normal=>
  rcases h with⟨v,h1,h2⟩|h
  .exact .inr ⟨v,h2,hk v h1⟩
  .exact .inl h
 |exit i=>
  simp only[zcz5]at h⊢;split at h
  .rename_i hi;rcases h with⟨v,h1,h2⟩|h
   .exact .inr ⟨v,h2,by rw[bX hi];exact hk v h1⟩
   .exact .inl (by rw[bX hi];exact h)
  .rename_i hi;exact .inl (by rw[bV hi];exact h)
 |_=>exact .inl h
theorem zcp8{c:PC}{G X:Type}{body:G->Option (G⊕X)}{g0:G}{x:X}(I:G->St){k:Nat}(hK:E.k0=k)(l:List (Nat×Nat))(hx:zc2 body g0=some x)(hle:Le l st (I g0)/\zaB3 k l (I g0).nx=true)
  (h:∀g y,body g=some y->(∀x',y=.inr x'->x'=x)->AW C E c (zbL2 E I y Q) (I g)):AW C E (.loop c) Q st:=by
 obtain⟨n,hn⟩:=zay8.1 hx;refine zcS5 (G:={p:Nat×G//iter body p.1 p.2=some x}) (λ p=>I p.1.2) (λ _=>True) (λ p=>p.1.1) ⟨(n,g0),hn⟩ trivial (St.le_of l hle.1 (by rw[hK];exact hle.2)) λ⟨⟨m,g⟩,hm⟩ _=>?_;cases m with
 |zero=>cases hm
 |succ m=>
  simp only[iter]at hm;cases hb:body g with
  |none=>rw[hb]at hm;cases hm
  |some y=>
   rw[hb]at hm;refine(h g y hb λ x' e=>by subst e;exact dS hm).mono λ e s hs=>?_;cases e with
   |normal=>obtain⟨g',rfl,h2⟩:=hs;exact⟨⟨(m,g'),hm⟩,trivial,h2,eV m⟩
   |_=>exact hs
def zdn5(E:Env){G X β:Type}(I:G->St)(body:G->Option (G⊕X))(kk:X->Option β)(R:Option β)(s:St):Prop:=∃g',(zc2 body g').bind kk=R/\St.le E s (I g')
def zcT5(E:Env){G X β:Type}(I:G->St)(body:G->Option (G⊕X))(kk:X->Option β)(R:Option β)(Q:Exit->St->Prop):Exit->St->Prop:=λ e s=>match e with|.normal=>zdn5 E I body kk R s|e=>Q e s
theorem zcp9{G X β:Type}(I:G->St)(body:G->Option (G⊕X))(kk:X->Option β)(R:Option β)(s:St):zcT5 E I body kk R Q .normal s=zdn5 E I body kk R s:=rfl
theorem zcZ7{G X β:Type}(I:G->St)(body:G->Option (G⊕X))(kk:X->Option β)(R:Option β)(s:St):zcT5 E I body kk R Q .ret s=Q .ret s:=rfl
theorem zcK1{G X β:Type}(I:G->St)(body:G->Option (G⊕X))(kk:X->Option β)(R:Option β)(i:Nat)(s:St):zcT5 E I body kk R Q (.exit i) s=Q (.exit i) s:=rfl
theorem zdn6{c:PC}{G X β:Type}{body:G->Option (G⊕X)}{kk:X->Option β}{r:β}(I:G->St){k:Nat}(hK:E.k0=k)(h1:AW C E c (zcT5 E I body kk (some r) Q) st)
  (h:∀x,kk x=some r->∀g y,body g=some y->(∀x',y=.inr x'->x'=x)->AW C E c (zbL2 E I y Q) (I g)):AW C E (.loop c) Q st:=by
 refine zdB4 (G:={p:Nat×G//∃x,iter body p.1 p.2=some x/\kk x=some r}) (λ p=>I p.1.2) (λ _=>True) (λ p=>p.1.1) (λ⟨⟨m,g⟩,x,hm,hx⟩ _=>?_) (h1.mono λ e s hs=>?_)
 .cases m with
  |zero=>cases hm
  |succ m=>
   simp only[iter]at hm;cases hb:body g with
   |none=>rw[hb]at hm;cases hm
   |some y=>
    rw[hb]at hm;refine(h x hx g y hb λ x' e=>by subst e;exact dS hm).mono λ e s hs=>?_;cases e with
    |normal=>obtain⟨g',rfl,h2⟩:=hs;exact⟨⟨(m,g'),x,hm,hx⟩,trivial,h2,eV m⟩
    |_=>exact hs
 .cases e with
  |normal=>obtain⟨g',h2,h3⟩:=hs;obtain⟨x,h4,h5⟩:=zf3 h2;obtain⟨n,hn⟩:=zay8.1 h4;exact⟨⟨(n,g'),x,hn,h5⟩,trivial,h3⟩
  |_=>exact hs
theorem zcq0{V:Type}(J:V->St)(P:V->Prop)(s:St):zbt4 E J P Q .normal s=zba0 E J P s:=rfl
theorem zcZ8{V:Type}(J:V->St)(P:V->Prop)(s:St):zbt4 E J P Q .ret s=Q .ret s:=rfl
theorem zcK2{V:Type}(J:V->St)(P:V->Prop)(i:Nat)(s:St):zbt4 E J P Q (.exit i) s=Q (.exit i) s:=rfl
theorem zcz6{V:Type}(id:Nat)(J:V->St)(P:V->Prop)(s:St):BlkJ E id J P Q .normal s=zba0 E J P s:=rfl
theorem zdn7{V:Type}(id:Nat)(J:V->St)(P:V->Prop)(s:St):BlkJ E id J P Q .ret s=Q .ret s:=rfl
theorem zcZ9{V:Type}(id:Nat)(J:V->St)(P:V->Prop)(i:Nat)(s:St):BlkJ E id J P Q (.exit i) s=if i=id then zba0 E J P s else Q (.exit i) s:=rfl
theorem zcq1{G X:Type}(I:G->St)(y:G⊕X)(s:St):zbL2 E I y Q .normal s=zcz3 E I y s:=rfl
theorem zda0{G X:Type}(I:G->St)(y:G⊕X)(s:St):zbL2 E I y Q .ret s=Q .ret s:=rfl
theorem zcK3{G X:Type}(I:G->St)(y:G⊕X)(i:Nat)(s:St):zbL2 E I y Q (.exit i) s=Q (.exit i) s:=rfl
theorem zcq2{V:Type}(id:Nat)(J:V->St)(P:V->Prop)(s:St):zcz5 E id J P Q .normal s=(zba0 E J P s\/Q .normal s):=rfl
theorem zda1{V:Type}(id:Nat)(J:V->St)(P:V->Prop)(s:St):zcz5 E id J P Q .ret s=Q .ret s:=rfl
theorem zcK4{V:Type}(id:Nat)(J:V->St)(P:V->Prop)(i:Nat)(s:St):zcz5 E id J P Q (.exit i) s=if i=id then(zba0 E J P s\/Q .normal s)else Q (.exit i) s:=rfl
attribute [go_sem] zcq2 zda1 zcK4 zcp9 zcZ7 zcK1 zcq0 zcZ8 zcK2 zcz6 zdn7 zcZ9 zcq1 zda0 zcK3
end
def zbh4{V G X:Type}(body:V->G->Option (G⊕X))(fin:G->X):List V->G->Option X
 |[],g=>some (fin g)
 |e::p,g=>match body e g with
  |none=>none
  |some (.inl g')=>zbh4 body fin p g'
  |some (.inr x)=>some x
noncomputable def rngO{V G X β:Type}(m:List V)(d:V)(body:V->G->Option (G⊕X))(fin:G->X)(g0:G)(kk:X->Option β):Option β:=
 open Classical in if h:∃r,∀q:List Nat,q.Perm (List.range m.length)->(zbh4 body fin (q.map (m.getD · d)) g0).bind kk=some r then some (Classical.choose h)else none
theorem zda2{V G X β:Type}{m:List V}{d:V}{body:V->G->Option (G⊕X)}{fin:G->X}{g0:G}{kk:X->Option β}{r:β}(h:rngO m d body fin g0 kk=some r):
  ∀q:List Nat,q.Perm (List.range m.length)->(zbh4 body fin (q.map (m.getD · d)) g0).bind kk=some r:=by
 unfold rngO at h;split at h
 .rename_i hh;cases h;exact fF hh
 .cases h
theorem zdC4{V G X β:Type}{m:List V}{d:V}{body:V->G->Option (G⊕X)}{fin:G->X}{g0:G}{kk:X->Option β}{r:β}
  (h:∀q:List Nat,q.Perm (List.range m.length)->(zbh4 body fin (q.map (m.getD · d)) g0).bind kk=some r):rngO m d body fin g0 kk=some r:=by
 unfold rngO;have hh:∃r,∀q:List Nat,q.Perm (List.range m.length)->(zbh4 body fin (q.map (m.getD · d)) g0).bind kk=some r:=⟨r,h⟩;rw[kN hh];have h1:=fF hh _ (jR _);rw[h _ (jR _)]at h1;exact h1.symm
structure RngP {V G X β:Type} (m:List V) (d:V) (body:V->G->Option (G⊕X)) (fin:G->X) (kk:X->Option β) (r:β) (s:List Nat) (g:G):Prop where
 nd:s.Nodup
 lt:∀i∈s,i<m.length
 ok:∀q,(s++q).Perm (List.range m.length)->(zbh4 body fin (q.map (m.getD · d)) g).bind kk=some r
theorem zdC5{n:Nat}{s:List Nat}(h1:s.Nodup)(h2:∀i∈s,i<n):∃q,(s++q).Perm (List.range n):=by
 refine⟨(List.range n).filter (λ i=>!s.contains i),(iA ?_ jZ).2 λ i=>?_⟩
 .rw[iH];exact⟨h1,iK.nodup jZ,λ a ha b hb e=>by subst e;simp at hb;exact hb.2 ha⟩
 .simp only[cR,hI,eX,cP,kB,cL];constructor
  .rintro(h|h)
   .exact h2 i h
   .exact h.1
  .intro h
   by_cases c:i∈s
   .exact .inl c
   .exact .inr ⟨h,c⟩
theorem zdn8{V G X β:Type}{m:List V}{d:V}{body:V->G->Option (G⊕X)}{fin:G->X}{kk:X->Option β}{r:β}{s:List Nat}{g:G}{i:Nat}(h:RngP m d body fin kk r s g)(hi:i<m.length)(hs:iE i∉s.map iE):
  ∃y,body (m.getD i d) g=some y/\(∀g',y=.inl g'->RngP m d body fin kk r (s++[i]) g')/\∀x,y=.inr x->kk x=some r:=by
 have hs':i∉s:=λ hh=>hs (cI.2 ⟨i,hh,rfl⟩);have nd:(s++[i]).Nodup:=by rw[iH];exact⟨h.nd,by simp,λ a ha b hb e=>by simp at hb;subst hb;subst e;exact hs' ha⟩
 have lt:∀j∈s++[i],j<m.length:=λ j hj=>by
  rcases cR.1 hj with hj|hj
  .exact h.lt j hj
  .simp at hj;subst hj;exact hi
 obtain⟨q,hq⟩:=zdC5 nd lt;have hq0:=h.ok (i::q) (by rw[dD]at hq;exact hq);simp only[dF,zbh4]at hq0;cases hb:body (m.getD i d) g with
 |none=>rw[hb]at hq0;cases hq0
 |some y=>
  refine⟨y,rfl,λ g' e=>⟨nd,lt,λ q hq=>?_⟩,λ x e=>?_⟩
  .have:=h.ok (i::q) (by rw[dD]at hq;exact hq);simp only[dF,zbh4,hb,e]at this;exact this
  .rw[hb,e]at hq0;exact hq0
theorem zdC6{V G X β:Type}{m:List V}{d:V}{body:V->G->Option (G⊕X)}{fin:G->X}{kk:X->Option β}{r:β}{s:List Nat}{g:G}(h:RngP m d body fin kk r s g)(ha:∀i,i<m.length->iE i∈s.map iE):kk (fin g)=some r:=by
 have:=h.ok [] (by
  rw[dX];refine(iA h.nd jZ).2 λ i=>?_;rw[eX];refine⟨h.lt i,λ hi=>?_⟩;obtain⟨j,hj,e⟩:=cI.1 (ha i hi);simp only[iE,gO,A.int.injEq,fK,iW]at e;have:j=i:=by omega
  exact this▸hj)
 exact this
def RngN{V G X β:Type}(E:Env)(I:List Nat->G->St)(m:List V)(d:V)(body:V->G->Option (G⊕X))(fin:G->X)(kk:X->Option β)(r:β)(s:List Nat)(w:St):Prop:=
 ∃i g',RngP m d body fin kk r (s++[i]) g'/\St.le E w (I (s++[i]) g')
def RngQ{V G X β:Type}(E:Env)(I:List Nat->G->St)(m:List V)(d:V)(body:V->G->Option (G⊕X))(fin:G->X)(kk:X->Option β)(r:β)(s:List Nat)(Q:Exit->St->Prop):Exit->St->Prop:=λ e w=>match e with|.normal=>RngN E I m d body fin kk r s w|e=>Q e w
section
variable {C:Cx} {E:Env} {Q:Exit→St→Prop} {st:St}
theorem zdS6{c:PC}{V G X β:Type}{m:List V}{d:V}{body:V->G->Option (G⊕X)}{fin:G->X}{g0:G}{kk:X->Option β}{r:β}(I:List Nat->G->St)(h:rngO m d body fin g0 kk=some r)(h0:St.le E st (I [] g0))
  (hb:∀s g,RngP m d body fin kk r s g->AW C E c (RngQ E I m d body fin kk r s Q) (I s g)):AW C E (.loop c) Q st:=by
 refine zcS5 (G:=List Nat×G) (λ p=>I p.1 p.2) (λ p=>RngP m d body fin kk r p.1 p.2) (λ p=>m.length-p.1.length) ([],g0) ⟨List.nodup_nil,(λ i hi=>nomatch hi),λ q hq=>zda2 h q hq⟩ h0 λ p hp=>?_;refine(hb p.1 p.2 hp).mono λ e w hw=>?_;cases e with
 |normal=>
  obtain⟨i,g',h1,h2⟩:=hw;refine⟨(p.1++[i],g'),h1,h2,?_⟩;have:(p.1++[i]).length<=m.length:=by
   have:=dL h1.nd (l₂:=List.range m.length) λ j hj=>eX.2 (h1.lt j hj)
   simpa using this
  simp only[cD,List.length_cons,List.length_nil]at this⊢;omega
 |_=>exact hw
theorem zcz7{V G X β:Type}(I:List Nat->G->St)(m:List V)(d:V)(body:V->G->Option (G⊕X))(fin:G->X)(kk:X->Option β)(r:β)(s:List Nat)(w:St):RngQ E I m d body fin kk r s Q .normal w=RngN E I m d body fin kk r s w:=rfl
theorem zdn9{V G X β:Type}(I:List Nat->G->St)(m:List V)(d:V)(body:V->G->Option (G⊕X))(fin:G->X)(kk:X->Option β)(r:β)(s:List Nat)(w:St):RngQ E I m d body fin kk r s Q .ret w=Q .ret w:=rfl
theorem zda3{V G X β:Type}(I:List Nat->G->St)(m:List V)(d:V)(body:V->G->Option (G⊕X))(fin:G->X)(kk:X->Option β)(r:β)(s:List Nat)(i:Nat)(w:St):RngQ E I m d body fin kk r s Q (.exit i) w=Q (.exit i) w:=rfl
attribute [go_sem] zcz7 zdn9 zda3
end
def unfull:A->A
 | .full es=>.sl es
 |a=>a
theorem PFn.unfull{C:Cx}{f:FuncId}{az:List A}{r:A}(h:PFn C f (az.map unfull) r):PFn C f az r:=by
 intro w W vs hg hW hl ha;refine h w W vs hg hW (by simpa using hl) λ i v a hv hx=>?_;rw[cN]at hx;cases hy:az[i]? with
 |none=>rw[hy]at hx;cases hx
 |some b=>
  rw[hy]at hx;cases hx;have:=ha i v b hv hy;cases b with
  |full es=>
   have h2:RepC w W v (.full es):=this;cases h2 with
   |full a n es h=>exact h
  |_=>exact this
def unfullA:A->A
 | .full es=>.sl es
 | .agg cs=>.agg (zat7 cs)
 |a=>a
theorem PFn.unfullA{C:Cx}{f:FuncId}{az az':List A}{r:A}(h:PFn C f az' r)(e:az.map Ab.unfullA=az':=by first|rfl|(simp[Ab.unfullA,zat7,unfA];done)):PFn C f az r:=by
 subst e;intro w W vs hg hW hl ha;refine h w W vs hg hW (by simpa using hl) λ i v a hv hx=>?_;rw[cN]at hx;cases hy:az[i]? with
 |none=>rw[hy]at hx;cases hx
 |some b=>
  rw[hy]at hx;cases hx;have:=ha i v b hv hy;cases b with
  |full es=>have h2:RepC w W v (.full es):=this;exact h2.of_full.1
  |agg cs=>obtain⟨us,hu,hl2,hr⟩:=this;refine⟨us,hu,by rw[zbq2];exact hl2,λ i u c hu' hc=>?_⟩;rw[zbB1]at hc;obtain⟨c0,hc0,rfl⟩:=cH.1 hc;exact zcT4 (hr i u c0 hu' hc0)
  |_=>exact this
@[go_sem] theorem zdW0(a b:Nat):Nat.min a b=min a b:=rfl
attribute [go_sem] Ab.unfull zaB3 fixL
attribute [go_sem] Int.cast_ofNat_Int dH gW gU Nat.min_self
def Imp(q p:Prop):Prop:=q->p
theorem Imp.and{q a b:Prop}(ha:a)(h:Imp q b):Imp q (a/\b):=λ hq=>⟨ha,h hq⟩
theorem Imp.refl{q:Prop}:Imp q q:=λ h=>h
theorem im{q p:Prop}(w:Imp q p:=by(simp only[go_sem,↓reduceIte,reduceCtorEq,Nat.reduceEqDiff,Nat.reduceAdd,Nat.reduceSub,Nat.reduceMul,Nat.reduceLeDiff,Nat.reduceLT,Int.reduceLE,Int.reduceLT,Int.reduceToNat,Int.reduceNeg];(repeat((with_reducible apply Imp.and);focus (first|assumption|omega|rfl|(simp;done)|(simp;omega)|(intros;simp_all;done)|grind)));exact Imp.refl)):Imp q p:=w
theorem i0{q p:Prop}(w:Imp q p:=by(simp only[go_sem,↓reduceIte,reduceCtorEq,Nat.reduceEqDiff,Nat.reduceAdd,Nat.reduceSub,Nat.reduceMul,Nat.reduceLeDiff,Nat.reduceLT,Int.reduceLE,Int.reduceLT,Int.reduceToNat,Int.reduceNeg];exact Imp.refl)):Imp q p:=w
theorem lw{p:Prop}(w:p:=by(simp only[go_sem,↓reduceIte,reduceCtorEq,Nat.reduceEqDiff,Nat.reduceAdd,Nat.reduceSub,Nat.reduceMul,Nat.reduceLeDiff,Nat.reduceLT,Int.reduceLE,Int.reduceLT,Int.reduceToNat,Int.reduceNeg];first|(done)|trivial|(simp;done)|(repeat'(first|rfl|trivial|omega|(simp;done)|(simp;omega)|(congr 1;omega)|(congr 1;simp only[cD,cU,eK,gQ];omega)|apply And.intro)))):p:=w
section
variable {C:Cx} {E:Env} {Q:Exit→St→Prop} {st:St} {q:Prop}
theorem g_st{p:Prop}(h:q)(e:Imp q p:=by exact i0):p:=e h
theorem zo1(h:q)(e:Imp q (Q .normal st):=by exact i0):AW C E .skip Q st:=zdB2 (e h)
theorem zdC7(h:q)(e:Imp q (Q .normal st):=by exact i0):AW C E .label Q st:=zdl8 (e h)
theorem zS4{id:Nat}(h:q)(e:Imp q (Q (.exit id) st):=by exact i0):AW C E (.exit id) Q st:=zdB3 (e h)
theorem zx6(h:q)(e:Imp q (Q .ret st):=by exact i0):AW C E .ret Q st:=zdK1 (e h)
theorem za8{dr:List Nat}{ops:List POp}(hG:E.G=C.G)(h:q)
  (e:Imp q (arun C ops st λ s=>Q .normal (s.drop dr)):=by exact im):AW C E (.reg dr ops) Q st:=zdK2 hG (e h)
theorem zbv8{dr:List Nat}{ops:List POp}(hm:C.P.follows .mixedOrders=true)(hG:E.G=C.G)(h:q)
  (e:Imp q (zaZ7 C ops st λ s=>Q .normal (s.drop dr)):=by exact im):AW C E (.regd dr ops) Q st:=zdB6 hm hG (e h)
theorem zaM5{dr:List Nat}{an:List (List Nat)}{ops:List POp}(hm:C.P.follows .mixedOrders=true)(hG:E.G=C.G)(h:q)
  (e:Imp q (zaB4 C an ops st [] λ s=>Q .normal (s.drop dr)):=by exact im):AW C E (.regm dr an ops) Q st:=zdC0 hm hG (e h)
theorem zw9{f:FuncId}{d:Option Nat}{g:Option (Nat×Bool)}{gv:Bool}{ob:Prop}{args:List A}{rw:List (Nat×MS)}{ps:List POp}{st:St}{K:St->Prop}{r:A}
  (hf:gv=true->PFn C f args r) (h:q)
  (e:Imp q (arun C ps (st.app d (zR5 g gv r) (if r.scal then[]else rw)) K):=by exact im)
  (ho:gv=true->ob:=by intro;trivial) (hg:g=none\/(if r.scal then[]else rw)=[]/\r.isVV=true:=by first|exact .inl rfl|exact .inr ⟨rfl,rfl⟩|exact .inr ⟨kU _,rfl⟩):zbt3 C f d g gv ob args rw ps st K:=zdm9 hf (e h) ho hg
theorem zaB5{f:FuncId}{d:Option Nat}{g:Option (Nat×Bool)}{gv:Bool}{ob:Prop}{args:List A}{rw:List (Nat×MS)}{ps:List POp}{st:St}{K:St->Prop}{r:A}
  (hf:gv=true->PFn C f args r) (h:q)
  (e:Imp q (zaZ7 C ps (st.app d (zR5 g gv r) []) K):=by exact im)
  (ho:gv=true->ob:=by intro;trivial) (hg:g=none\/(if r.scal then[]else rw)=[]/\r.isVV=true:=by first|exact .inl rfl|exact .inr ⟨rfl,rfl⟩|exact .inr ⟨kU _,rfl⟩) (hn:(if r.scal then[]else rw)=[]:=by first|rfl|exact kU _):zaY4 C f d g gv ob args rw ps st K:=zcZ0 hf (e h) ho hg hn
theorem zaq9{an:List (List Nat)}{f:FuncId}{d:Option Nat}{g:Option (Nat×Bool)}{gv:Bool}{ob:Prop}{args:List A}{rw:List (Nat×MS)}{ids:List Nat}{cok:Bool}{ps:List POp}{st:St}{log:List (List Nat×List Nat)}{K:St->Prop}{r:A}
  (hf:gv=true->PFn C f args r) (h:q)
  (e:Imp q (zbh3 (an.getD log.length []) 0 log ids ((if r.scal then[]else rw).map (·.1))=true/\cok=true/\zaB4 C an ps (st.app d (zR5 g gv r) (if r.scal then[]else rw)) (log++[(ids,(if r.scal then[]else rw).map (·.1))]) K):=by exact im)
  (ho:gv=true->ob:=by intro;trivial) (hg:g=none\/(if r.scal then[]else rw)=[]/\r.isVV=true:=by first|exact .inl rfl|exact .inr ⟨rfl,rfl⟩|exact .inr ⟨kU _,rfl⟩):zaY5 C an f d g gv ob args rw ids cok ps st log K:=zcZ2 hf (e h) ho hg
theorem zq4{α:Type}{x:PX}{p q:PC}{b c:Bool}{X Y r:α}(hx:xv C.G st.slot x=.bool b)(hG:E.G=C.G)(h:(if c=true then X else Y)=r)
  (ht:b=true->X=r->AW C E p Q st) (hf:b=false->Y=r->AW C E q Q st) (e:b=c:=by first|rfl|(simp;done)|grind):AW C E (.cond x p q) Q st:=by
 subst e;exact zbQ2 hx hG (λ hb=>ht hb (by rw[bX hb]at h;exact h)) (λ hb=>hf hb (by rw[hb]at h;simpa using h))
theorem zbq3{α:Type}{x:PX}{p q:PC}{V:Type}(J:V->St)(P:V->Prop){b c:Bool}{X Y r:α}(hx:xv C.G st.slot x=.bool b)(hG:E.G=C.G)(h:(if c=true then X else Y)=r)(hk:∀v,P v->Q .normal (J v))
  (ht:b=true->X=r->AW C E p (zbt4 E J P Q) st) (hf:b=false->Y=r->AW C E q (zbt4 E J P Q) st) (e:b=c:=by first|rfl|(simp;done)|grind):AW C E (.cond x p q) Q st:=by
 subst e;exact zdC3 J P hx hG hk (λ hb=>ht hb (by rw[bX hb]at h;exact h)) (λ hb=>hf hb (by rw[hb]at h;simpa using h))
theorem zS5{α:Type}{x r:α}{p:Prop}(h:some x=some r)(e:x=r->p:=by(intro e;subst e;first|done|rfl|trivial|(simp;done)|(repeat'(first|rfl|trivial|omega|(simp;done)|(simp;omega)|(refine dG A.sl (dG (List.map _) ?_);exact dO (by first|omega|(simp;omega)))|apply And.intro)))):p:=e (dS h)
theorem zdL0{α:Type}{x r:α}{p:Prop}(h:x=r)(e:x=r->p:=by(intro e;subst e;first|done|rfl|trivial|(simp;done)|(repeat'(first|rfl|trivial|omega|(simp;done)|(simp;omega)|(refine dG A.sl (dG (List.map _) ?_);exact dO (by first|omega|(simp;omega)))|apply And.intro)))):p:=e h
theorem zJ8{V:Type}{J:V->St}{P:V->Prop}{s:St}{k:Nat}(hK:E.k0=k)(l:List (Nat×Nat))(v:V)(h:P v)
  (hl:Le l s (J v)/\zaB3 k l (J v).nx=true:=by exact lw):zba0 E J P s:=zcz2 hK v h l hl
theorem zZ9{G X:Type}{I:G->St}{g':G}{y:G⊕X}{s:St}{k:Nat}(hK:E.k0=k)(l:List (Nat×Nat))(h:some (.inl g')=some y)
  (hl:Le l s (I g')/\zaB3 k l (I g').nx=true:=by exact lw):zcz3 E I y s:=by
 cases h;exact zcz4 hK l hl
theorem zcT6{G X β:Type}{I:G->St}{body:G->Option (G⊕X)}{kk:X->Option β}{R:Option β}{g':G}{s:St}{k:Nat}(hK:E.k0=k)(l:List (Nat×Nat))(h:(zc2 body g').bind kk=R)
  (hl:Le l s (I g')/\zaB3 k l (I g').nx=true:=by exact lw):zdn5 E I body kk R s:=
 ⟨g',h,St.le_of l hl.1 (by rw[hK];exact hl.2)⟩
theorem zau2{c:PC}{G X β:Type}{body:G->Option (G⊕X)}{g0:G}{kk:X->Option β}{r:β}(I:G->St){k:Nat}(hK:E.k0=k)(l:List (Nat×Nat))(h:(zc2 body g0).bind kk=some r)
  (hb:∀x,kk x=some r->∀g y,body g=some y->(∀x',y=.inr x'->x'=x)->AW C E c (zbL2 E I y Q) (I g))
  (hle:Le l st (I g0)/\zaB3 k l (I g0).nx=true:=by exact lw):AW C E (.loop c) Q st:=by
 obtain⟨x,hx,hk⟩:=zf3 h;exact zcp8 I hK l hx hle (hb x hk)
theorem zdS7{c:PC}{V G X β:Type}{m:List V}{d:V}{body:V->G->Option (G⊕X)}{fin:G->X}{g0:G}{kk:X->Option β}{r:β}(I:List Nat->G->St){k:Nat}(hK:E.k0=k)(l:List (Nat×Nat))(h:rngO m d body fin g0 kk=some r)
  (hb:∀s g,RngP m d body fin kk r s g->AW C E c (RngQ E I m d body fin kk r s Q) (I s g))
  (hle:Le l st (I [] g0)/\zaB3 k l (I [] g0).nx=true:=by exact lw):AW C E (.loop c) Q st:=
 zdS6 I h (St.le_of l hle.1 (by rw[hK];exact hle.2)) hb
theorem zcT7{V G X β:Type}{m:List V}{d:V}{body:V->G->Option (G⊕X)}{fin:G->X}{kk:X->Option β}{r:β}{I:List Nat->G->St}{g':G}{y:G⊕X}{s:List Nat}{i:Nat}{w:St}{k:Nat}(hK:E.k0=k)(l:List (Nat×Nat))(h:some (.inl g')=some y)
  (hP:∀g',y=.inl g'->RngP m d body fin kk r (s++[i]) g') (hl:Le l w (I (s++[i]) g')/\zaB3 k l (I (s++[i]) g').nx=true:=by exact lw):RngN E I m d body fin kk r s w:=by
 cases h;exact⟨i,g',hP g' rfl,St.le_of l hl.1 (by rw[hK];exact hl.2)⟩
theorem zdL1{α:Type}{r:α}(h:none=some r):AW C E .dead Q st:=by cases h
theorem zbe8{x:PX}{p r:PC}(hx:xv C.G st.slot x=.bool true)(hG:E.G=C.G)(h:AW C E p Q st):AW C E (.cond x p r) Q st:=zbQ2 hx hG (λ _=>h) (λ h=>by cases h)
theorem zbQ6{x:PX}{p r:PC}(hx:xv C.G st.slot x=.bool false)(hG:E.G=C.G)(h:AW C E r Q st):AW C E (.cond x p r) Q st:=zbQ2 hx hG (λ h=>by cases h) (λ _=>h)
theorem g_gh{c:PC}(g:Gh)(h:q)(e:Imp q (AW C E c Q (st.gh g)):=by exact i0)(hok:st.ghOk g:=by exact lw):AW C E c Q st:=zdS2 g hok (e h)
theorem zV5{α:Type}{x r:α}{k:Nat}{st:St}{rs:List RX}{rl:List A}{ms':List (Nat×Row)}{k':Nat}(l:List (Nat×Nat))(h:some x=some r)
  (e:x=r->zbK1 st rs/\zbT9 rl=true/\Le l ⟨zM2 0 (resL st rs),st.mem,st.nx⟩ ⟨zM2 0 rl,ms',k'⟩/\zaB3 k l k'=true:=by(intro e;subst e;exact lw)):zbe3 k st rs rl ms' k':=by
 obtain⟨h1,h2,h3,h4⟩:=e (dS h);exact⟨h1,h2,l,h3,h4⟩
@[go_sem] theorem zdx6{α:Type}(a:Nat×α)(l m:List (Nat×α))(n:Nat):look ((a::l)++m) n=if a.1=n then some a.2 else look (l++m) n:=rfl
@[go_sem] theorem zdL2(m:Nat->MS)(v:A)(vs ws:List A):zJ7 m ((v::vs)++ws)=frz m v::zJ7 m (vs++ws):=rfl
@[go_sem] theorem zdC8(m:Nat->MS)(v:A)(vs ws:List A):zC4 m ((v::vs)++ws)=(zaB1 m v/\zC4 m (vs++ws)):=rfl
@[go_sem] theorem zdx7(v:A)(vs ws:List A):zE6 ((v::vs)++ws)=zaB2 v++zE6 (vs++ws):=rfl
@[go_sem] theorem zdP2(m:Nat->MS)(l:List (Nat×Nat))(k:Nat)(v a:A)(vs ws az:List A):zbA4 m l k ((v::vs)++ws) (a::az)=(argM m l k v a/\zbA4 m l k (vs++ws) az):=rfl
@[go_sem] theorem zdU9(v a:A)(vs ws az:List A):fzM ((v::vs)++ws) (a::az)=(if a.hands then[]else zaB2 v)++fzM (vs++ws) az:=rfl
@[go_sem] theorem zdC9(q:Nat×MS)(r m:List (Nat×MS))(n:Nat):nxt n ((q::r)++m)=nxt (if q.1=n then n+1 else n) (r++m):=rfl
@[go_sem] theorem zdD0{α:Type}(m:List (Nat×α))(n:Nat):look ([]++m) n=look m n:=rfl
theorem zv5{f:FuncId}{d:Option Nat}{ob:Prop}{vals:List A}{ps:List POp}{st:St}{K:St->Prop}(l nl:List (Nat×Nat))(ids:List Nat){az:List A}{ms ms':List (Nat×Row)}{k k':Nat}{r:A}
  (hf:MFn C f az ms k r ms' k') (hnl:newL k st.nx (k'-k)=nl) (hids:ms.map (·.1)++(List.range (k'-k)).map (k+·)=ids) (h:q)
  (e:Imp q (arun C ps (st.app d (renR (l++nl) r) (zR4 st.m (fzM vals az)++zai3 (l++nl) ms' ids)) K):=by exact im)
  (hok:okM st.m st.nx l vals az ms k k':=by exact lw)
  (ho:ob:=by trivial) (hr:zbl7 r=true:=by rfl):zau1 C f d none true ob vals ps st K:=by
 subst hnl;subst hids;exact zcY8 l hf hok (e h) ho hr
theorem zdo0(ms:List (Nat×Row))(k:Nat):ms.map (·.1)++(List.range (k-k)).map (k+·)=ms.map (·.1):=by rw[gG];exact dX _
theorem zbB3{α:Type}{X:Option α}{dv v:α}{c:Bool}{f:FuncId}{d:Option Nat}{g:Option (Nat×Bool)}{gv:Bool}{ob:Prop}{vals:List A}{ps:List POp}{st:St}{K:St->Prop}(l:List (Nat×Nat))(ids:List Nat){az:List A}{ms ms':List (Nat×Row)}{k:Nat}{r:A}
  (hv:(if c=true then X else some dv)=some v) (hf:X=some v->MFn C f az ms k r ms' k) (hids:ms.map (·.1)=ids) (h:q)
  (ec:gv=c:=by first|rfl|(simp;done)|grind) (hs:dv=v->zbA5 st.m (zR4 st.m (fzM vals az)++zai3 l ms' ids):=by(intro e;subst e;simp only[go_sem,↓reduceIte,reduceCtorEq,Nat.reduceEqDiff,Nat.reduceAdd,Nat.reduceSub,Nat.reduceMul,Nat.reduceLeDiff,Nat.reduceLT,Int.reduceLE,Int.reduceLT,Int.reduceToNat,Int.reduceNeg];first|(done)|trivial|(simp;done)|(repeat'(first|rfl|trivial|(simp;done)|apply And.intro))))
  (e:Imp q (arun C ps (st.app d (zR5 g gv (renR l r)) (zR4 st.m (fzM vals az)++zai3 l ms' ids)) K):=by exact im)
  (hok:okM st.m st.nx l vals az ms k k:=by exact lw)
  (ho:gv=true->ob:=by first|(intro;trivial)|(intro;simp_all;done)) (hr:zbl7 r=true:=by rfl) (hvv:(renR l r).isVV=true:=by rfl):zau1 C f d g gv ob vals ps st K:=by
 subst hids;subst ec;refine zcJ7 l (λ hg=>hf (zaZ9 hg hv)) (λ _=>hok) ?_ ?_ ho hr hvv
 .intro hg;unfold mwM;rw[zdo0];exact hs (dS (zdH0 hg hv))
 .unfold mwM;rw[zdo0];exact e h
theorem zbV6{an:List (List Nat)}{f:FuncId}{d:Option Nat}{ob:Prop}{vals:List A}{vi:List Nat}{cok:Bool}{ps:List POp}{st:St}{log:List (List Nat×List Nat)}{K:St->Prop}(l nl:List (Nat×Nat))(ids:List Nat){az:List A}{ms ms':List (Nat×Row)}{k k':Nat}{r:A}
  (hf:MFn C f az ms k r ms' k') (hnl:newL k st.nx (k'-k)=nl) (hids:ms.map (·.1)++(List.range (k'-k)).map (k+·)=ids) (h:q)
  (e:Imp q (zbh3 (an.getD log.length []) 0 log vi ((zR4 st.m (fzM vals az)++zai3 (l++nl) ms' ids).map (·.1))=true/\cok=true/\zaB4 C an ps (st.app d (renR (l++nl) r) (zR4 st.m (fzM vals az)++zai3 (l++nl) ms' ids)) (log++[(vi,(zR4 st.m (fzM vals az)++zai3 (l++nl) ms' ids).map (·.1))]) K):=by exact im)
  (hok:okM st.m st.nx l vals az ms k k':=by exact lw)
  (ho:ob:=by trivial) (hr:zbl7 r=true:=by rfl):zaO6 C an f d none true ob vals vi cok ps st log K:=by
 subst hnl;subst hids;exact zcJ9 l hf hok (e h) ho hr
theorem zcq3{α β:Type}{x r:α}(h:some (Sum.inl x:α⊕β)=some (.inl r)):some x=some r:=by cases h;rfl
theorem zbq4{α β:Type}{x r:β}(h:some (Sum.inr x:α⊕β)=some (.inr r)):some x=some r:=by cases h;rfl
theorem zcT8{α:Type}{c gv:Bool}{X Y r:α}{f:FuncId}{d:Option Nat}{g:Option (Nat×Bool)}{ob:Prop}{vals:List A}{ps:List POp}{st:St}{K:St->Prop}(h:(if c=true then X else Y)=r)
  (ht:gv=true->X=r->zau1 C f d g gv ob vals ps st K) (hf:gv=false->Y=r->zau1 C f d g gv ob vals ps st K) (ec:gv=c:=by first|rfl|(simp;done)|grind):zau1 C f d g gv ob vals ps st K:=by
 subst ec;cases hg:gv with
 |true=>rw[hg]at ht;exact ht rfl (zaZ9 hg h)
 |false=>rw[hg]at hf;exact hf rfl (zdH0 hg h)
theorem zcz8{gv:Bool}{f:FuncId}{d:Option Nat}{g:Option (Nat×Bool)}{ob:Prop}{vals:List A}{ps:List POp}{st:St}{K:St->Prop}(hc:gv=true)(l nl:List (Nat×Nat))(ids:List Nat){az:List A}{ms ms':List (Nat×Row)}{k k':Nat}{r:A}
  (hf:MFn C f az ms k r ms' k') (hnl:newL k st.nx (k'-k)=nl) (hids:ms.map (·.1)++(List.range (k'-k)).map (k+·)=ids) (h:q)
  (e:Imp q (arun C ps (st.app d (zR5 g true (renR (l++nl) r)) (zR4 st.m (fzM vals az)++zai3 (l++nl) ms' ids)) K):=by exact im)
  (hok:okM st.m st.nx l vals az ms k k':=by exact lw)
  (ho:ob:=by first|trivial|(simp_all;done)) (hr:zbl7 r=true:=by rfl) (hvv:(renR (l++nl) r).isVV=true:=by rfl):zau1 C f d g gv ob vals ps st K:=by
 subst hnl;subst hids;subst hc;exact⟨l,az,ms,k,r,ms',k',λ _=>⟨ho,hf,hok,trivial⟩,(λ h=>nomatch h),.inr hvv,zbl8 hr,e h⟩
theorem zcT9(m:Nat->MS)(nx:Nat)(vals:List A):mwM m ([]++newL 0 nx (0-0)) vals [] [] [] 0 0=[]:=by cases vals<;>rfl
theorem zcz9{gv:Bool}{f:FuncId}{d:Option Nat}{g:Option (Nat×Bool)}{ob:Prop}{vals:List A}{ps:List POp}{st:St}{K:St->Prop}(hc:gv=false)(dv:A)(h:q)
  (e:Imp q (arun C ps (st.app d (zR5 g false dv) []) K):=by exact im)
  (hd:renR [] dv=dv:=by rfl) (hn:zbl7 dv=true:=by rfl) (hvv:dv.isVV=true:=by rfl):zau1 C f d g gv ob vals ps st K:=by
 subst hc;have hd':renR ([]++newL 0 st.nx (0-0)) dv=dv:=hd;refine⟨[],[],[],0,dv,[],0,(λ h=>nomatch h),λ _=>⟨rfl,?_⟩,.inr ?_,zbl8 hn,?_⟩
 .rw[zcT9];trivial
 .rw[hd'];exact hvv
 .rw[zcT9,hd'];exact e h
end
inductive TK where
 |b
 |i (k:IntKind)
 |s
 |st (fs:List (Nat×Nat))
 |ar (n e:Nat)
 |sl (e:Nat)
 |mp (k e:Nat)
 |o
structure TI where
 k:TK
 n:Nat
 y:Nat
def lk{α:Type}:List (Nat×α)->Nat->α->α
 |[],_,d=>d
 |q::r,n,d=>bif Nat.beq q.1 n then q.2 else lk r n d
structure TC where
 t:List (Nat×TI)
 m:List (Nat×Option Unit)
 z:Nat->Nat->List A
 k:{o:Operand}->Nat->PX
def TC.ty(c:TC)(t:Nat):TI:=lk c.t t ⟨.o,1,0⟩
def TC.el(c:TC)(t:Nat):Nat:=match(c.ty t).k with|.sl e=>e|.ar _ e=>e|_=>0
def TC.ag(c:TC)(t:Nat):Bool:=match(c.ty t).k with|.st _=>true|.ar _ _=>true|_=>false
def TC.kz(c:TC)(t:Nat):A:=match(c.ty t).k with|.mp k _=>(c.z 0 k).headD .any|_=>.any
def TC.me(c:TC)(t:Nat):Nat:=match(c.ty t).k with|.mp _ e=>e|_=>0
def TC.mt(c:TC)(t:Nat):Nat:=match(c.ty t).k with|.mp k _=>k|_=>0
def TC.md(c:TC)(t:Nat):List A:=c.kz t::c.z 0 (c.me t)
def TC.lf(c:TC):Nat->Nat->List LK
 |0,_=>[]
 |d+1,t=>match(c.ty t).k with
  | .b=>[.b]
  | .i k=>[.i k]
  | .s=>[.s]
  | .st fs=>fs.flatMap λ q=>c.lf d q.2
  |_=>[]
def TC.x(c:TC)(t:Nat)(o:Operand):PX:=match o with
 | .tmp n=>.t n
 | .const _=>c.k (o:=o) t
 | .global g=>.g g
 | .func f=>.f f
def zdH1:Operand->Bool
 | .const (.slice _ _ _)=>true
 |_=>false
def TC.bo(c:TC)(op:BinOp)(t:Nat)(x y:Operand):PO×List PX:=match(c.ty t).k with
 | .sl _=>(.eqNil,[c.x t x])
 | .b=>(.eqb (match op with|.neq=>true|_=>false),[c.x t x,c.x t y])
 | .st _=>(.eqa (match op with|.neq=>true|_=>false) (c.lf 9 t),[c.x t x,c.x t y])
 | .ar _ _=>(.eqa (match op with|.neq=>true|_=>false) (c.lf 9 t),[c.x t x,c.x t y])
 |_=>(.bin op,[c.x t x,c.x t y])
def TC.args(c:TC):List Operand->List Nat->List PX
 |x::xs,t::ts=>c.x t x::c.args xs ts
 |x::xs,[]=>c.x 0 x::c.args xs []
 |[],_=>[]
def TC.op(c:TC)(h ty:Nat):Op->PO×List PX
 | .move x=>bif zdH1 x then(bif Nat.beq h 0 then(.mv,[.c (A.sl [])])else(.nilown (c.ty (c.el ty)).n (c.z 0 (c.el ty)),[.c (A.full [])]))else(.mv,[c.x ty x])
 | .assign x=>bif zdH1 x then(bif Nat.beq h 0 then(.mv,[.c (A.sl [])])else(.nilown (c.ty (c.el ty)).n (c.z 0 (c.el ty)),[.c (A.full [])]))else(.mv,[c.x ty x])
 | .pick a x y=>(.pick,[c.x 0 a,c.x 0 x,c.x 0 y])
 | .box t x=>(.box (c.ty t).n,[c.x t x])
 | .alloc t=>(.alloc (c.ty t).n (c.z h t),[])
 | .build t ps=>(.build (c.z h t) (ps.toList.map λ p=>match(c.ty t).k with
   | .st fs=>((fs.getD p.1 (0,0)).1,(c.ty (fs.getD p.1 (0,0)).2).n)
   |_=>(p.1*(c.ty (c.el t)).n,(c.ty (c.el t)).n)),ps.toList.map λ p=>match(c.ty t).k with
   | .st fs=>c.x (fs.getD p.1 (0,0)).2 p.2
   |_=>c.x (c.el t) p.2)
 | .buildSlice t _ ps=>(bif Nat.beq h 0 then .bslice (c.ty (c.el t)).n (c.z 0 (c.el t))else .bown (c.ty (c.el t)).n (c.z 0 (c.el t)),ps.toList.map λ p=>c.x (c.el t) p.2)
 | .load t x=>(.load (c.ty t).n (c.ag t),[c.x 0 x])
 | .store t x y=>(.store (c.ty t).n,[c.x 0 x,c.x t y])
 | .binOp op t x y _=>c.bo op t x y
 | .unOp .neg _ x=>(.neg,[c.x 0 x])
 | .unOp _ _ x=>(.not,[c.x 0 x])
 | .convert t u x=>(match(c.ty t).k,(c.ty u).k with
  | .sl _,.s=>.cvS
  | .s,.sl _=>.cvB
  |_,.i k=>.conv k
  |_,_=>.mv,[c.x 0 x])
 | .field t x i=>(match(c.ty t).k with
  | .st fs=>.field (fs.getD i (0,0)).1 (c.ty (fs.getD i (0,0)).2).n (c.ag (fs.getD i (0,0)).2)
  |_=>.mv,[c.x 0 x])
 | .fieldAddr t x i=>(match(c.ty t).k with
  | .st fs=>.faddr (fs.getD i (0,0)).1
  |_=>.mv,[c.x 0 x])
 | .indexAddr t x i=>(match(c.ty t).k with
  | .ar n e=>.iaA n (c.ty e).n
  |_=>.iaS (c.ty (c.el t)).n (c.z 0 (c.el t)),[c.x 0 x,c.x 0 i])
 | .index t x i=>(match(c.ty t).k with
  | .ar n e=>.idxA n (c.ty e).n (c.ag e)
  |_=>.idxS,[c.x t x,c.x 0 i])
 | .slice t x l u m=>(match(c.ty t).k with
  | .s=>.slcS l.isSome u.isSome
  |_=>.slc (c.ty (c.el t)).n l.isSome u.isSome m.isSome,c.x 0 x::(l.toList++u.toList++m.toList).map (c.x 0))
 | .extract x i=>(.ext i,[c.x 0 x])
 | .nilCheck x=>(.nilck,[c.x 0 x])
 | .range t x=>(.rng,[c.x 0 x])
 | .next x _=>(.next (c.md h),[c.x 0 x])
 | .entry x=>(.entry (c.md h),[c.x 0 x])
 | .makeMap t _=>(.mkmap [c.kz t,.bool (c.ag (c.me t))],[])
 | .lookup t x i ok=>(.lkp ok (c.ag (c.me t)) (c.kz t) (c.z 0 (c.me t)),[c.x 0 x,c.x (c.mt t) i])
 | .mapUpdate t x i y=>(.mupd (c.kz t) (c.ag (c.me t)) (c.ty (c.me t)).n,[c.x 0 x,c.x (c.mt t) i,c.x (c.me t) y])
 | .makeSlice t x y=>(.mk (c.ty (c.el t)).n (c.ty (c.el t)).y (c.z 0 (c.el t)),[c.x 0 x,c.x 0 y])
 | .makeFunc (.func f) bs xs=>(match bs.toList with|[]=>(.mkf f,xs.toList.map (c.x 0))|b::_=>(.mkb f,[c.x 0 b]))
 | .call ⟨.builtin b,xs,ts⟩=>(match b,ts.toList with
  | .len,[t]=>(match(c.ty t).k with|.s=>.lenS|.mp _ _=>.lenM|_=>.len)
  | .append,t::_=>(match h with
   |0=>.append (c.ty (c.el t)).n (c.ty (c.el t)).y (c.z 0 (c.el t))
   |1=>.appc (c.ty (c.el t)).n (c.ty (c.el t)).y
   |_=>.apl (c.ty (c.el t)).n (c.ty (c.el t)).y)
  | .copy,t::_=>.copy (c.ty (c.el t)).n
  | .clear,t::_=>.clear (c.ty (c.el t)).n (c.z 0 (c.el t))
  | .min,_=>.min
  | .max,_=>.max
  |_,_=>.mv,xs.toList.map (c.x 0))
 | .call ⟨.value (.func f),xs,ts⟩=>(match lk c.m f none,h with
  |none,0=>.call f
  |none,_=>.callm f
  |some _,0=>.callm f
  |some _,_=>.call f,c.args xs.toList ts.toList)
 | .call ⟨.value x,xs,_⟩=>(match h with|0=>.callv|2=>.callb|_=>.callvm,c.x 0 x::xs.toList.map (c.x 0))
 |_=>(.mv,[])
def opTs:List Operand->List Nat
 |[]=>[]
 | .tmp n::r=>n::opTs r
 |_::r=>opTs r
def gTs(ops:List Oper):Option (Nat×Bool)->List Nat
 |none=>[]
 |some q=>match(ops[q.1]?).bind (·.dst)with
  |some d=>[d]
  |none=>[]
def zcK5(ops:List Oper):List Oper->List Nat
 |[]=>[]
 |o::r=>opTs o.op.operands.toList++gTs ops o.guard++zcK5 ops r
def bits:List Nat->Nat
 |[]=>0
 |t::r=>Nat.lor (Nat.shiftLeft 1 t) (bits r)
def zdH2(m:Nat)(a:Nat×Nat):Nat×Nat:=match a with
 |(s,u)=>(Nat.lor s m,Nat.lor u (Nat.land s m))
def zbL3:Code->Nat×Nat->Nat×Nat
 | .region _ ops _,a=>zdH2 (bits (zcK5 ops.toList ops.toList)) a
 | .seq x y,a=>zbL3 y (zbL3 x a)
 | .cond x y z,a=>zbL3 z (zbL3 y (zdH2 (bits (opTs [x])) a))
 | .block _ x,a=>zbL3 x a
 | .loop x,a=>zbL3 x a
 | .scope x,a=>zbL3 x a
 |_,a=>a
def resU:List ResultVar->List Nat
 |[]=>[]
 | .tmp t::r=>t::resU r
 | .cell t _::r=>t::resU r
def zcA0(f:Func):Nat×Nat:=match f.body with
 |some b=>zbL3 b (0,bits (resU f.results.toList))
 |none=>(0,0)
def has(m t:Nat):Bool:=Nat.beq (Nat.land (Nat.shiftRight m t) 1) 1
def zbq5(s u m:Nat):List Oper->List Nat
 |[]=>[]
 |o::r=>match o.dst with
  |none=>zbq5 s u m r
  |some t=>bif has u t then zbq5 s u m r else bif has m t then t::zbq5 s u m r else bif has s t then zbq5 s u m r else t::zbq5 s u m r
def zcK6(s u:Nat)(ops:List Oper):List Nat:=zbq5 s u (bits (zcK5 ops ops)) ops
def PO.wr:PO->Bool
 | .nilown _ _|.box _|.alloc _ _|.bown _ _|.store _|.append _ _ _|.appc _ _|.copy _| .clear _ _|.mkmap _|.mupd _ _ _|.rng|.next _|.entry _|.mk _ _ _|.callm _|.callvm=>true
 |_=>false
def zdH3:List Oper->Bool
 |[]=>false
 |o::r=>match o.op with
  | .panic _=>true
  |_=>zdH3 r
def gOf(ops:List Oper):Option (Nat×Bool)->Option (Nat×Bool)
 |none=>none
 |some q=>some (((ops[q.1]?).bind (·.dst)).getD 0,q.2)
def TC.ops(c:TC)(hs:List (Nat×Nat))(all:List Oper):List Oper->List POp
 |[]=>[]
 |o::r=>(match c.op (match o.dst with|some d=>lk hs d 0|none=>0) o.type o.op with
  |(p,xs)=>⟨o.dst,gOf all o.guard,p,xs⟩)::c.ops hs all r
def wrs:List POp->Bool
 |[]=>false
 |p::r=>bif p.po.wr then true else wrs r
def TC.code(c:TC)(hs:List (Nat×Nat))(s u:Nat):Code->PC
 | .skip=>.skip
 | .region id ops d=>bif zdH3 ops.toList then .dead else
   match d with
   |false=>.reg (zcK6 s u ops.toList) (c.ops hs ops.toList ops.toList)
   |true=>bif wrs (c.ops hs ops.toList ops.toList)||(Nat.beq (lk hs (1000+id) 0) 1)then .regm (zcK6 s u ops.toList) (ancs [] (ops.toList.map zG8)) (c.ops hs ops.toList ops.toList)else .regd (zcK6 s u ops.toList) (c.ops hs ops.toList ops.toList)
 | .seq a b=>.seq (c.code hs s u a) (c.code hs s u b)
 | .cond x a b=>.cond (c.x 0 x) (c.code hs s u a) (c.code hs s u b)
 | .block i a=>.block i (c.code hs s u a)
 | .loop a=>.loop (c.code hs s u a)
 | .exit i=>.exit i
 | .scope a=>.scope (c.code hs s u a)
 | .label _=>.label
 | .ret=>.ret
 |_=>.skip
def TC.rx(c:TC):List ResultVar->List RX
 |[]=>[]
 | .tmp t::r=>.t t::c.rx r
 | .cell t y::r=>.c t (c.ty y).n (c.ag y)::c.rx r
def TC.tr(c:TC)(hs:List (Nat×Nat))(s u:Nat)(f:Func):PC×Nat×List RX×Nat:=
 (match f.body with
  |some b=>c.code hs s u b
  |none=>.skip,f.ntmps,c.rx f.results.toList,Nat.add f.params.size f.nfree)
def cst(z:Nat->Nat->List A)(t:Nat):Value->A
 | .bool b=>.bool b
 | .int k n=>.int k n
 | .string s=>.str s
 | .slice _ _ _=>.full []
 | .agg _=>.agg (z 0 t)
 |_=>.any
def kon(z:Nat->Nat->List A){o:Operand}(t:Nat):PX:=match o with
 | .const v=>.c (cst z t v)
 |_=>.c .any
attribute [go_sem] kon cst
def zcq4:Arr (Arr Bool 5) 5:=⟨[⟨[true,true,true,true,false],rfl⟩,⟨[true,true,false,false,false],rfl⟩,⟨[true,false,true,false,false],rfl⟩,⟨[true,false,false,false,false],rfl⟩,⟨[false,false,false,false,false],rfl⟩],rfl⟩
noncomputable def C:Cx:=⟨Tryz.prog,[(1,Arr.enc (Arr.enc eB) zcq4)]⟩
@[go_sem] theorem C_G:C.G=[(1,Arr.enc (Arr.enc eB) zcq4)]:=rfl
theorem zM4:C.P.follows .mixedOrders=true:=by kernel_rfl
def cT:List (Nat×TI):=[(0,⟨.o,1,0⟩),(3,⟨.i .i64,1,8⟩),(4,⟨.b,1,1⟩),(5,⟨.i .u8,1,1⟩),(9,⟨.s,1,16⟩),(20,⟨.o,1,16⟩),(22,⟨.sl 79,1,24⟩),(23,⟨.sl 53,1,24⟩),(25,⟨.st [(0,3),(1,22),(2,23)],3,56⟩),(28,⟨.sl 55,1,24⟩),(30,⟨.st [(0,22),(1,28)],2,48⟩),(33,⟨.sl 3,1,24⟩),(38,⟨.st [(0,3),(1,3),(2,3)],3,24⟩),(39,⟨.sl 222,1,24⟩),(40,⟨.sl 235,1,24⟩),(42,⟨.st [(0,39),(1,40)],2,48⟩),(44,⟨.st [(0,3),(1,3)],2,16⟩),(46,⟨.st [(0,9),(1,44)],3,32⟩),(47,⟨.sl 49,1,24⟩),(49,⟨.st [(0,3),(1,46),(4,47)],5,64⟩),(51,⟨.st [(0,49),(5,3),(6,3)],7,80⟩),(53,⟨.st [(0,38),(3,3),(4,42),(6,4),(7,51),(14,3),(15,3)],16,184⟩),(55,⟨.st [(0,38),(3,49),(8,3)],9,96⟩),(56,⟨.o,1,0⟩),(59,⟨.sl 4,1,24⟩),(64,⟨.sl 5,1,24⟩),(65,⟨.i .i64,1,8⟩),(66,⟨.o,1,0⟩),(68,⟨.o,1,0⟩),(70,⟨.sl 38,1,24⟩),(73,⟨.o,1,8⟩),(75,⟨.st [(0,9),(1,3),(2,3),(3,3)],4,40⟩),(76,⟨.sl 131,1,24⟩),(77,⟨.sl 134,1,24⟩),(79,⟨.st [(0,75),(4,76),(5,77),(6,77),(7,3)],8,120⟩),(82,⟨.sl 75,1,24⟩),(83,⟨.sl 141,1,24⟩),(84,⟨.o,1,0⟩),(86,⟨.o,1,0⟩),(92,⟨.o,1,8⟩),(94,⟨.sl 46,1,24⟩),(97,⟨.o,1,0⟩),(99,⟨.o,1,0⟩),(102,⟨.o,1,0⟩),(110,⟨.o,1,8⟩),(112,⟨.st [(0,64),(1,65)],2,32⟩),(114,⟨.st [(0,112)],2,32⟩),(121,⟨.o,1,8⟩),(125,⟨.o,1,8⟩),(131,⟨.st [(0,38),(3,44)],5,40⟩),(134,⟨.st [(0,38),(3,44),(5,3),(6,3)],7,56⟩),(136,⟨.o,1,8⟩),(138,⟨.st [(0,33),(1,3)],2,32⟩),(141,⟨.st [(0,3),(1,38),(4,51),(11,9),(12,3)],13,136⟩),(143,⟨.o,1,0⟩),(145,⟨.sl 308,1,24⟩),(146,⟨.o,1,0⟩),(151,⟨.o,1,8⟩),(153,⟨.ar 3 3,3,24⟩),(155,⟨.o,1,8⟩),(162,⟨.i .u64,1,8⟩),(164,⟨.o,1,8⟩),(168,⟨.o,1,0⟩),(178,⟨.o,1,8⟩),(186,⟨.sl 9,1,24⟩),(189,⟨.o,1,8⟩),(192,⟨.st [(0,25),(3,145)],4,80⟩),(194,⟨.o,1,0⟩),(198,⟨.o,1,8⟩),(199,⟨.o,1,8⟩),(206,⟨.o,1,0⟩),(209,⟨.i .u64,1,8⟩),(210,⟨.o,1,0⟩),(212,⟨.o,1,0⟩),(215,⟨.o,1,8⟩),(220,⟨.mp 9 44,1,8⟩),(222,⟨.st [(0,9),(1,44),(3,44)],5,48⟩),(227,⟨.o,1,8⟩),(229,⟨.o,1,8⟩),(235,⟨.st [(0,3),(1,3)],2,16⟩),(245,⟨.o,1,0⟩),(251,⟨.sl 77,1,24⟩),(260,⟨.o,1,0⟩),(270,⟨.o,1,0⟩),(275,⟨.o,1,0⟩),(282,⟨.o,1,0⟩),(284,⟨.o,1,0⟩),(286,⟨.o,1,0⟩),(288,⟨.sl 44,1,24⟩),(296,⟨.ar 6 4,6,6⟩),(305,⟨.st [(0,94),(1,59)],2,48⟩),(308,⟨.st [(0,3),(1,38),(4,9),(5,44)],7,64⟩),(309,⟨.o,1,0⟩),(325,⟨.o,1,0⟩),(327,⟨.o,1,0⟩),(329,⟨.ar 5 4,5,5⟩),(330,⟨.ar 5 329,25,25⟩),(332,⟨.o,1,0⟩)]
@[irreducible] def cZ:Nat->Nat->List A
 |0,3=>[A.int .i64 0]
 |0,4=>[A.bool false]
 |0,5=>[A.int .u8 0]
 |0,9=>[A.str ⟨#[]⟩]
 |0,22=>[A.sl []]
 |0,23=>[A.sl []]
 |0,25=>aV.enc aV.zero
 |0,28=>[A.sl []]
 |0,30=>aQ.enc aQ.zero
 |0,33=>[A.sl []]
 |0,38=>aL.enc aL.zero
 |0,39=>[A.sl []]
 |0,40=>[A.sl []]
 |0,42=>aW.enc aW.zero
 |0,44=>aC.enc aC.zero
 |0,46=>aJ.enc aJ.zero
 |0,47=>[A.sl []]
 |0,49=>aO.enc aO.zero
 |0,51=>bH.enc bH.zero
 |0,53=>aF.enc aF.zero
 |0,55=>bP.enc bP.zero
 |0,59=>[A.sl []]
 |0,64=>[A.sl []]
 |0,65=>[A.int .i64 0]
 |0,70=>[A.sl []]
 |0,75=>aH.enc aH.zero
 |0,76=>[A.sl []]
 |0,77=>[A.sl []]
 |0,79=>aB.enc aB.zero
 |0,82=>[A.sl []]
 |0,83=>[A.sl []]
 |0,94=>[A.sl []]
 |0,112=>bQ.enc bQ.zero
 |0,114=>bD.enc bD.zero
 |0,131=>bA.enc bA.zero
 |0,134=>aU.enc aU.zero
 |0,138=>bL.enc bL.zero
 |0,141=>bM.enc bM.zero
 |0,145=>[A.sl []]
 |0,153=>Arr.enc (eI .i64) (Arr.rep 3 0)
 |0,162=>[A.int .u64 0]
 |0,186=>[A.sl []]
 |0,192=>bB.enc bB.zero
 |0,209=>[A.int .u64 0]
 |0,222=>bC.enc bC.zero
 |0,235=>bK.enc bK.zero
 |0,251=>[A.sl []]
 |0,288=>[A.sl []]
 |0,296=>Arr.enc eB (Arr.rep 6 false)
 |0,305=>bS.enc bS.zero
 |0,308=>bJ.enc bJ.zero
 |0,329=>Arr.enc eB (Arr.rep 5 false)
 |2,30=>[.sl [],.sl []]
 |2,42=>[.sl [],.sl []]
 |3,94=>[.full []]
 |4,30=>[.sl [],.full []]
 |5,30=>[.full [],.full []]
 |5,42=>[.full [],.full []]
 |14,192=>[.int .i64 0,.sl [],.full [],.full []]
 |18,49=>[.int .i64 0,.str ⟨#[]⟩,.int .i64 0,.int .i64 0,.full []]
 |114,79=>[.str ⟨#[]⟩,.int .i64 0,.int .i64 0,.int .i64 0,.full [],.full [],.full [],.int .i64 0]
 |_,_=>[A.any]
attribute [go_sem] cZ
def cM:List (Nat×Option Unit):=[(48,some ()),(49,some ()),(50,some ()),(51,some ()),(52,some ()),(53,some ()),(55,some ()),(72,some ()),(73,some ()),(74,some ()),(75,some ()),(81,some ()),(83,some ()),(85,some ()),(92,some ()),(95,some ()),(96,some ()),(97,some ()),(103,some ()),(104,some ()),(112,some ()),(130,some ()),(132,some ()),(133,some ()),(137,some ()),(139,some ()),(152,some ()),(154,some ()),(155,some ()),(162,some ()),(163,some ()),(178,some ()),(191,some ()),(193,some ()),(194,some ()),(195,some ()),(196,some ()),(197,some ()),(198,some ()),(199,some ()),(201,some ()),(202,some ()),(210,some ()),(235,some ()),(244,some ()),(245,some ()),(246,some ()),(248,some ()),(249,some ()),(250,some ()),(252,some ()),(281,some ()),(304,some ())]
class OkP {α:Type} (m:Option α) (f:outParam FuncId) (av:outParam (List A)) (R:outParam (α->A)):Prop where
  ok:∀r,m=some r->PFn C f av (R r)
class OkM {α:Type} (m:Option α) (f:outParam FuncId) (av:outParam (List A)) (ms:outParam (List (Nat×Row))) (k:outParam Nat) (R:outParam (α->A)) (ms':outParam (α->List (Nat×Row))) (k':outParam Nat):Prop where
  ok:∀r,m=some r->MFn C f av ms k (R r) (ms' r) k'
class OkT (f:FuncId) (av:List A) (r:outParam A):Prop where
  ok:PFn C f av r
class OkL {α β:Type} (m:Option (α⊕β)) (f:outParam FuncId) (av:outParam (List A)) (ms:outParam (List (Nat×Row))) (k:outParam Nat) (R:outParam (α->A)) (ms':outParam (α->List (Nat×Row))) (k':outParam Nat):Prop where
  ok:∀r,m=some (.inl r)->MFn C f av ms k (R r) (ms' r) k'
class OkR {α β:Type} (m:Option (α⊕β)) (f:outParam FuncId) (av:outParam (List A)) (ms:outParam (List (Nat×Row))) (k:outParam Nat) (R:outParam (β->A)) (ms':outParam (β->List (Nat×Row))) (k':outParam Nat):Prop where
  ok:∀r,m=some (.inr r)->MFn C f av ms k (R r) (ms' r) k'
theorem zaQ7{T:Type}{P:T->Prop}{fr:Nat->T}(h0:P (fr 0))(hs:∀n,P (fr n)->P (fr (n+1))):∀n,P (fr n)
  |0=>h0
  |n+1=>hs n (zaQ7 h0 hs n)
def Mk{α:Type}(x:α):Prop:=True
theorem mkP{α β:Type}{x:α}(hm:Mk x)(v:β):Mk (x,v):=trivial
class JS {α:Type} (x:α) (id:Nat) {γ:outParam Type} {V:outParam Type} (k k':outParam (V->γ)) (J:outParam (V->St)):Prop where
  e:∀v,k v=k' v
class LS {α G X:Type} (x:α) (b:G->Option (G⊕X)) (b':outParam (G->Option (G⊕X))) (I:outParam (G->St)):Prop where
  e:∀v,b v=b' v
theorem mkJ{α:Type}(x:α)(id:Nat){γ V:Type}{k k':V->γ}(e:∀v,k v=k' v)(J:V->St):JS x id k k' J:=⟨e⟩
theorem mkL{α G X:Type}(x:α){b b':G->Option (G⊕X)}(e:∀v,b v=b' v)(I:G->St):LS x b b' I:=⟨e⟩
def prA:A->A->List (Nat×Nat)
  | .ptr x _ _,.ptr y _ _=>[(y,x)]
  | .own x _ _,.own y _ _=>[(y,x)]
  |_,_=>[]
def prC:List A->List A->List (Nat×Nat)
  |a::r,b::s=>prA a b++prC r s
  |_,_=>[]
def prE:List (List A)->List (List A)->List (Nat×Nat)
  |a::r,b::s=>prC a b++prE r s
  |_,_=>[]
def prS(s:List (Nat×A)):List (Nat×A)->List (Nat×Nat)
  |[]=>[]
  |q::r=>(match look s q.1 with|some b=>prA b q.2|none=>[])++prS s r
def prM(m:List (Nat×Row))(l:List (Nat×Nat)):List (Nat×Row)->List (Nat×Nat)
  |[]=>[]
  |q::r=>(match look l q.1 with|some x=>(match look m x with|some w=>prE w.es q.2.es|none=>[])|none=>[])++prM m l r
def ptS(s:List (Nat×A)):List (Nat×A)->List (Nat×Nat)
  |[]=>[]
  |q::r=>(match q.2,look s q.1 with|.ptr y _ _,some (.ptr x _ _)=>[(y,x)]|_,_=>[])++ptS s r
def idL:Nat->List (Nat×Nat)
  |0=>[]
  |n+1=>idL n++[(n,n)]
def rl(k:Nat)(b:Bool)(s J:St):List (Nat×Nat):=idL k++prS s.fr J.fr++if b then prM s.mem (idL k++ptS s.fr J.fr) J.mem else[]
def ptC:List A->List A->List (Nat×Nat)
  | .ptr x _ _::r,.ptr y _ _::s=>(y,x)::ptC r s
  |_::r,_::s=>ptC r s
  |_,_=>[]
def cl(b:Bool)(vals av:List A)(m ms:List (Nat×Row)):List (Nat×Nat):=prC vals av++if b then prM m (ptC vals av) ms else[]
theorem lv{p:Prop}(w:p:=by
  (simp only[go_sem,↓reduceIte,reduceCtorEq,Nat.reduceEqDiff,Nat.reduceAdd,Nat.reduceSub,Nat.reduceMul,Nat.reduceLeDiff,Nat.reduceLT,Int.reduceLE,Int.reduceLT,Int.reduceToNat,Int.reduceNeg]
   first
   |(done)
   |trivial
   |(simp;done)
   |((repeat'(first|rfl|trivial|omega|(simp;done)|(simp;omega)|(congr 1;omega)|(congr 1;simp only[cD,cU,eK,gQ];omega)|apply And.intro))<;>fail))):p:=w
section
variable {E:Env} {Q:Exit→St→Prop} {st:St} {q:Prop}
theorem isAW{c:PC}(h:AW C E c Q st):AW C E c Q st:=h
theorem zdo1{f:FuncId}{d:Option Nat}{g:Option (Nat×Bool)}{gv:Bool}{ob:Prop}{args:List A}{rw:List (Nat×MS)}{ps:List POp}{st:St}{K:St->Prop}(h:zbt3 C f d g gv ob args rw ps st K):zbt3 C f d g gv ob args rw ps st K:=h
theorem zcU0{f:FuncId}{d:Option Nat}{g:Option (Nat×Bool)}{gv:Bool}{ob:Prop}{args:List A}{rw:List (Nat×MS)}{ps:List POp}{st:St}{K:St->Prop}(h:zaY4 C f d g gv ob args rw ps st K):zaY4 C f d g gv ob args rw ps st K:=h
theorem zaB6{α γ V:Type}{x:α}{id:Nat}{k k':V->γ}{J:V->St}{R:γ}{c:PC}{m:γ}(hm:Mk x)(h:m=R)[i:JS x id k k' J]
    (hk:∀v,Mk (k v)->k' v=R->Q .normal (J v)) (hb:AW C E c (BlkJ E id J (λ v=>k v=R) Q) st):AW C E (.block id c) Q st:=
  zO8 J _ (λ v e=>hk v trivial (by rw[<-i.e];exact e)) hb
theorem zdD1{α γ V:Type}{z:α}{k k':V->γ}{J:V->St}{x:PX}{p q:PC}{b c:Bool}{X Y r:γ}(hm:Mk z)(hx:xv C.G st.slot x=.bool b)(hG:E.G=C.G)(h:(if c=true then X else Y)=r)[i:JS z 999 k k' J]
    (hk:∀v,Mk (k v)->k' v=r->Q .normal (J v)) (ht:b=true->X=r->AW C E p (zbt4 E J (λ v=>k v=r) Q) st) (hf:b=false->Y=r->AW C E q (zbt4 E J (λ v=>k v=r) Q) st) (e:b=c:=by first|rfl|(simp;done)|grind):AW C E (.cond x p q) Q st:=
  zbq3 J _ hx hG h (λ v e=>hk v trivial (by rw[<-i.e];exact e)) ht hf e
theorem zdo2{α:Type}{x:α}{c:PC}{G X β:Type}{body body':G->Option (G⊕X)}{I:G->St}{g0:G}{kk:X->Option β}{r:β}{k:Nat}{l:List (Nat×Nat)}(hm:Mk x)(hK:E.k0=k)(h:(zc2 body g0).bind kk=some r)[i:LS x body body' I]
    (hb:∀g y,Mk (body g)->(∀x',y=.inr x'->Mk x/\kk x'=some r)->body' g=some y->AW C E c (zbL2 E I y Q) (I g))
    (b:Bool) (hl:rl k b st (I g0)=l:=by((conv=>lhs;reduce)<;>exact rfl))
    (hle:Le l st (I g0)/\zaB3 k l (I g0).nx=true:=by exact lv):AW C E (.loop c) Q st:=by
  obtain⟨x,hx,hk⟩:=zf3 h;refine zcp8 I hK _ hx hle λ g y hy hz=>hb g y trivial (λ x' e=>⟨hm,?_⟩) (by rw[<-i.e];exact hy);rw[hz x' e];exact hk
theorem zdD2{α:Type}{x:α}{c:PC}{G X β:Type}{body body':G->Option (G⊕X)}{I:G->St}{g0:G}{kk:X->Option β}{r:β}{k:Nat}(hm:Mk x)(hK:E.k0=k)(l:List (Nat×Nat))(h:(zc2 body g0).bind kk=some r)[i:LS x body body' I]
    (hb:∀g y,Mk (body g)->(∀x',y=.inr x'->Mk x/\kk x'=some r)->body' g=some y->AW C E c (zbL2 E I y Q) (I g))
    (hle:Le l st (I g0)/\zaB3 k l (I g0).nx=true:=by exact lv):AW C E (.loop c) Q st:=by
  obtain⟨x,hx,hk⟩:=zf3 h;refine zcp8 I hK l hx hle λ g y hy hz=>hb g y trivial (λ x' e=>⟨hm,?_⟩) (by rw[<-i.e];exact hy);rw[hz x' e];exact hk
theorem zdo3{V γ:Type}{J:V->St}{k:V->γ}{R:γ}{s:St}{n:Nat}{v:V}{l:List (Nat×Nat)}(hK:E.k0=n)(h:k v=R)
    (b:Bool) (hl:rl n b s (J v)=l:=by((conv=>lhs;reduce)<;>exact rfl))
    (hle:Le l s (J v)/\zaB3 n l (J v).nx=true:=by exact lv):zba0 E J (λ v=>k v=R) s:=zcz2 hK v h _ hle
theorem zdo4{G X:Type}{I:G->St}{g':G}{y:G⊕X}{s:St}{k:Nat}{l:List (Nat×Nat)}(hK:E.k0=k)(h:some (.inl g')=some y)
    (b:Bool) (hl:rl k b s (I g')=l:=by((conv=>lhs;reduce)<;>exact rfl))
    (hle:Le l s (I g')/\zaB3 k l (I g').nx=true:=by exact lv):zcz3 E I y s:=by
  cases h;exact zcz4 hK _ hle
theorem zdS8{G X β:Type}{M:Prop}{y:G⊕X}{x:X}{kk:X->Option β}{R:Option β}(kx:∀x',y=.inr x'->M/\kk x'=R)(h:some (.inr x)=some y):M/\kk x=R:=kx x (dS h).symm
theorem zcq5{α:Type}{x r:α}{k:Nat}{st:St}{rs:List RX}{rv:List A}{ms':List (Nat×Row)}{k':Nat}{l:List (Nat×Nat)}(b:Bool)(h:some x=some r)
    (hl:rl k b ⟨zM2 0 (resL st rs),st.mem,st.nx⟩ ⟨zM2 0 rv,ms',k'⟩=l:=by((conv=>lhs;reduce)<;>exact rfl))
    (e:x=r->zbK1 st rs/\zbT9 rv=true/\Le l ⟨zM2 0 (resL st rs),st.mem,st.nx⟩ ⟨zM2 0 rv,ms',k'⟩/\zaB3 k l k'=true:=by(intro e;subst e;exact lv)):zbe3 k st rs rv ms' k':=by
  obtain⟨h1,h2,h3,h4⟩:=e (dS h);exact⟨h1,h2,l,h3,h4⟩
theorem zdo5{k:Nat}{st:St}{rs:List RX}{rv:List A}{ms':List (Nat×Row)}{k':Nat}(h:zbe3 k st rs rv ms' k'):zbe3 k st rs rv ms' k':=h
theorem zcU1{an:List (List Nat)}{f:FuncId}{d:Option Nat}{g:Option (Nat×Bool)}{gv:Bool}{ob:Prop}{args:List A}{rw:List (Nat×MS)}{ids:List Nat}{cok:Bool}{ps:List POp}{st:St}{log:List (List Nat×List Nat)}{K:St->Prop}(h:zaY5 C an f d g gv ob args rw ids cok ps st log K):zaY5 C an f d g gv ob args rw ids cok ps st log K:=h
theorem zcU2{f:FuncId}{d:Option Nat}{g:Option (Nat×Bool)}{gv:Bool}{ob:Prop}{vals:List A}{ps:List POp}{st:St}{K:St->Prop}(h:zau1 C f d g gv ob vals ps st K):zau1 C f d g gv ob vals ps st K:=h
theorem zcA1{an:List (List Nat)}{f:FuncId}{d:Option Nat}{g:Option (Nat×Bool)}{gv:Bool}{ob:Prop}{vals:List A}{vi:List Nat}{cok:Bool}{ps:List POp}{st:St}{log:List (List Nat×List Nat)}{K:St->Prop}(h:zaO6 C an f d g gv ob vals vi cok ps st log K):zaO6 C an f d g gv ob vals vi cok ps st log K:=h
theorem zaw3{f:FuncId}{d:Option Nat}{ob:Prop}{vals:List A}{ps:List POp}{st:St}{K:St->Prop}{l nl:List (Nat×Nat)}{ids:List Nat}{av:List A}{ms ms':List (Nat×Row)}{k k':Nat}{r:A}(b:Bool)
    (hf:MFn C f av ms k r ms' k') (h:q) (hl:cl b vals av st.mem ms=l:=by((conv=>lhs;reduce)<;>exact rfl)) (hnl:newL k st.nx (k'-k)=nl:=by((conv=>lhs;reduce)<;>exact rfl)) (hids:ms.map (·.1)++(List.range (k'-k)).map (k+·)=ids:=by((conv=>lhs;reduce)<;>exact rfl))
    (e:Imp q (arun C ps (st.app d (renR (l++nl) r) (zR4 st.m (fzM vals av)++zai3 (l++nl) ms' ids)) K):=by exact im)
    (hok:okM st.m st.nx l vals av ms k k':=by exact lv) (ho:ob:=by trivial) (hr:zbl7 r=true:=by rfl):zau1 C f d none true ob vals ps st K:=
  zv5 l nl ids hf hnl hids h e hok ho hr
theorem zav0{an:List (List Nat)}{f:FuncId}{d:Option Nat}{ob:Prop}{vals:List A}{vi:List Nat}{cok:Bool}{ps:List POp}{st:St}{log:List (List Nat×List Nat)}{K:St->Prop}{l nl:List (Nat×Nat)}{ids:List Nat}{av:List A}{ms ms':List (Nat×Row)}{k k':Nat}{r:A}(b:Bool)
    (hf:MFn C f av ms k r ms' k') (h:q) (hl:cl b vals av st.mem ms=l:=by((conv=>lhs;reduce)<;>exact rfl)) (hnl:newL k st.nx (k'-k)=nl:=by((conv=>lhs;reduce)<;>exact rfl)) (hids:ms.map (·.1)++(List.range (k'-k)).map (k+·)=ids:=by((conv=>lhs;reduce)<;>exact rfl))
    (e:Imp q (zbh3 (an.getD log.length []) 0 log vi ((zR4 st.m (fzM vals av)++zai3 (l++nl) ms' ids).map (·.1))=true/\cok=true/\zaB4 C an ps (st.app d (renR (l++nl) r) (zR4 st.m (fzM vals av)++zai3 (l++nl) ms' ids)) (log++[(vi,(zR4 st.m (fzM vals av)++zai3 (l++nl) ms' ids).map (·.1))]) K):=by exact im)
    (hok:okM st.m st.nx l vals av ms k k':=by exact lv) (ho:ob:=by trivial) (hr:zbl7 r=true:=by rfl):zaO6 C an f d none true ob vals vi cok ps st log K:=
  zbV6 l nl ids hf hnl hids h e hok ho hr
theorem gogo{p:Prop}(w:p:=by
      (skip
       repeat' first
        | (with_reducible refine isAW ?_
           first
           |(with_reducible obtain⟨_,h⟩:=zg8 h)
           | (with_reducible obtain⟨hm,h⟩:=zdS8 kx h
              clear kx
              try dsimp only at h)
           |refine za3 ?_
           |refine zo1 ?_
           |refine zS4 ?_
           |refine zx6 ?_
           |refine za8 hG ?_
           |refine zbv8 zM4 hG ?_
           |refine zaM5 zM4 hG ?_
           | (refine zdD1 hm rfl hG h (λ v hm h=>?_) (λ _ h=>?_) (λ _ h=>?_)
              focus (try refine g_st ?_))
           |(refine zq4 rfl hG h (λ _ h=>?_) (λ _ h=>?_))
           |refine zbe8 rfl hG ?_
           |refine zbQ6 rfl hG ?_
           | (refine zaB6 hm h (λ v hm h=>?_) ?_
              focus (try refine g_st ?_))
           |refine zM3 ?_
           |(refine zdo2 hm hK h (λ g y hm kx h=>?_) false;try refine g_st ?_)
           |(refine zdo2 hm hK h (λ g y hm kx h=>?_) true;try refine g_st ?_))
        | (with_reducible refine zdo1 ?_
           first
           |(refine zw9 (λ _=>OkT.ok) ?_)
           | (obtain⟨v,hv,h⟩:=zf3 h;have hm:=mkP hm v
              repeat(with_reducible obtain⟨_,h⟩:=zg8 h)
              first
              |refine zw9 (λ _=>OkP.ok _ hv) ?_
              |refine zw9 (λ hg=>OkP.ok _ (zaZ9 hg hv)) ?_
              |refine zw9 (λ _=>PFn.unfull (OkP.ok _ hv)) ?_
              |refine zw9 (λ _=>hrc _ _ hv) ?_
              |refine zw9 (λ _=>hrc _ _ _ hv) ?_
              |refine zw9 (λ _=>hrc _ _ _ _ hv) ?_
              |refine zw9 (λ _=>hrc _ _ _ _ _ hv) ?_))
        | (with_reducible refine zcU0 ?_
           first
           |(refine zaB5 (λ _=>OkT.ok) ?_)
           | (obtain⟨v,hv,h⟩:=zf3 h;have hm:=mkP hm v
              repeat(with_reducible obtain⟨_,h⟩:=zg8 h)
              first
              |refine zaB5 (λ _=>OkP.ok _ hv) ?_
              |refine zaB5 (λ hg=>OkP.ok _ (zaZ9 hg hv)) ?_
              |refine zaB5 (λ _=>PFn.unfull (OkP.ok _ hv)) ?_
              |refine zaB5 (λ _=>hrc _ _ hv) ?_
              |refine zaB5 (λ _=>hrc _ _ _ hv) ?_
              |refine zaB5 (λ _=>hrc _ _ _ _ hv) ?_
              |refine zaB5 (λ _=>hrc _ _ _ _ _ hv) ?_))
        | (with_reducible refine zcU1 ?_
           first
           |(refine zaq9 (λ _=>OkT.ok) ?_)
           | (obtain⟨v,hv,h⟩:=zf3 h;have hm:=mkP hm v
              repeat(with_reducible obtain⟨_,h⟩:=zg8 h)
              first
              |refine zaq9 (λ _=>OkP.ok _ hv) ?_
              |refine zaq9 (λ hg=>OkP.ok _ (zaZ9 hg hv)) ?_
              |refine zaq9 (λ _=>hrc _ _ hv) ?_
              |refine zaq9 (λ _=>hrc _ _ _ hv) ?_
              |refine zaq9 (λ _=>hrc _ _ _ _ hv) ?_
              |refine zaq9 (λ _=>hrc _ _ _ _ _ hv) ?_))
        | (with_reducible refine zcU2 ?_
           obtain⟨v,hv,h⟩:=zf3 h;have hm:=mkP hm v
           repeat(with_reducible obtain⟨_,h⟩:=zg8 h)
           first
           |refine zaw3 false (OkM.ok _ hv) ?_
           |refine zaw3 true (OkM.ok _ hv) ?_
           |refine zaw3 false (hrc _ _ hv) ?_
           |refine zaw3 true (hrc _ _ hv) ?_
           |refine zaw3 false (hrc _ _ _ hv) ?_
           |refine zaw3 true (hrc _ _ _ hv) ?_
           |refine zaw3 false (hrc _ _ _ _ hv) ?_
           |refine zaw3 true (hrc _ _ _ _ hv) ?_
           |refine zaw3 false (hrc _ _ _ _ _ hv) ?_
           |refine zaw3 true (hrc _ _ _ _ _ hv) ?_
           | (rcases v with v|v
              all_goals dsimp only at h
              all_goals first
              |refine zaw3 false (OkL.ok _ hv) ?_
              |refine zaw3 false (OkR.ok _ hv) ?_))
        | (with_reducible refine zcA1 ?_
           obtain⟨v,hv,h⟩:=zf3 h;have hm:=mkP hm v
           repeat(with_reducible obtain⟨_,h⟩:=zg8 h)
           first
           |refine zav0 false (OkM.ok _ hv) ?_
           |refine zav0 true (OkM.ok _ hv) ?_
           |refine zav0 false (hrc _ _ hv) ?_
           |refine zav0 true (hrc _ _ hv) ?_
           |refine zav0 false (hrc _ _ _ hv) ?_
           |refine zav0 true (hrc _ _ _ hv) ?_
           |refine zav0 false (hrc _ _ _ _ hv) ?_
           |refine zav0 true (hrc _ _ _ _ hv) ?_
           |refine zav0 false (hrc _ _ _ _ _ hv) ?_
           |refine zav0 true (hrc _ _ _ _ _ hv) ?_)
        | (with_reducible refine zdo5 ?_
           first
           |exact zcq5 false h
           |exact zcq5 true h
           |exact zcq5 false (zcq3 h)
           |exact zcq5 false (zbq4 h)
           |(cases h;done))
        |exact zdo4 hK h false
        |exact zdo3 hK h false
        |exact zdo4 hK h true
        |exact zdo3 hK h true
        | (fail_if_success (with_reducible refine isAW ?_)
           fail_if_success (with_reducible refine zdo1 ?_)
           fail_if_success (with_reducible refine zcU0 ?_)
           fail_if_success (with_reducible refine zcU1 ?_)
           fail_if_success (with_reducible refine zcU2 ?_)
           fail_if_success (with_reducible refine zcA1 ?_)
           fail_if_success (with_reducible refine zdo5 ?_)
           fail_if_success (with_reducible refine isJoin ?_)
           fail_if_success (with_reducible refine isNext ?_)
           first
           |exact zS5 h
           |exact zdL0 h))):p:=w
theorem zae9(F:Func)(hs:List (Nat×Nat)){f:FuncId}{av:List A}{r:A}{pc:(Nat->Nat->List A)->({o:Operand}->Nat->PX)->PC}{N np:Nat}{rs:List RX}
    (h:∀E:Env,E.G=C.G->E.N=N->E.k0=0->AW C E (pc cZ (@kon cZ)) (Post rs r) ⟨zM2 0 av,[],0⟩)
    {us ut:Nat} (hu:zcA0 F=(us,ut):=by((conv=>lhs;reduce)<;>exact rfl)) (hp:∀(Z:Nat->Nat->List A) (K:{o:Operand}->Nat->PX),TC.tr ⟨cT,cM,Z,@K⟩ hs us ut F=(pc Z @K,N,rs,np):=by(intro Z K;((conv=>lhs;reduce)<;>exact rfl))) (hchk:chkF C.P f (pc cZ (@kon cZ)) N rs np=true:=by kernel_rfl) (hnp:av.length=np:=by rfl):PFn C f av r:=zbE6 hchk hnp h
theorem zaK6(F:Func)(hs:List (Nat×Nat)){f:FuncId}{av:List A}{ms ms':List (Nat×Row)}{k k':Nat}(rl:List A){pc:(Nat->Nat->List A)->({o:Operand}->Nat->PX)->PC}{N np:Nat}{rs:List RX}
    (h:∀E:Env,E.G=C.G->E.N=N->E.k0=k->AW C E (pc cZ (@kon cZ)) (zcx8 k rs rl ms' k') ⟨zM2 0 av,ms,k⟩)
    {us ut:Nat} (hu:zcA0 F=(us,ut):=by((conv=>lhs;reduce)<;>exact rfl)) (hp:∀(Z:Nat->Nat->List A) (K:{o:Operand}->Nat->PX),TC.tr ⟨cT,cM,Z,@K⟩ hs us ut F=(pc Z @K,N,rs,np):=by(intro Z K;((conv=>lhs;reduce)<;>exact rfl))) (hchk:chkF C.P f (pc cZ (@kon cZ)) N rs np=true:=by kernel_rfl)
    (hnp:av.length=np:=by rfl) (hms:zcj7 ms=true:=by rfl) (hall:zbJ8 ms k=true:=by rfl) (hrl:rl.length=rs.length:=by rfl):MFn C f av ms k (zcj5 rl) ms' k':=zcj8 hchk hnp hms hall hrl h
theorem ok1{α:Type}{m m':Option α}(u:m=m')(F:Func)(hs:List (Nat×Nat)){f:FuncId}{av:List A}{R:α->A}{pc:(Nat->Nat->List A)->({o:Operand}->Nat->PX)->PC}{N np:Nat}{rs:List RX}{us ut:Nat}(hu:zcA0 F=(us,ut):=by((conv=>lhs;reduce)<;>exact rfl))(hp:∀(Z:Nat->Nat->List A) (K:{o:Operand}->Nat->PX),TC.tr ⟨cT,cM,Z,@K⟩ hs us ut F=(pc Z @K,N,rs,np):=by(intro Z K;((conv=>lhs;reduce)<;>exact rfl)))(hchk:chkF C.P f (pc cZ (@kon cZ)) N rs np=true:=by kernel_rfl)
    (w:∀E:Env,∀r,E.G=C.G->E.k0=0->Mk m->m'=some r->AW C E (pc cZ (@kon cZ)) (Post rs (R r)) ⟨zM2 0 av,[],0⟩:=by
      (intro E r hG hK hm h;exact gogo)) (hnp:av.length=np:=by rfl):OkP m f av R:=
  ⟨λ r h=>zbE6 hchk hnp λ E hG _ hK=>w E r hG hK trivial (u▸h)⟩
theorem ok2{α:Type}(R:α->A){m m':α}(u:m=m')(F:Func)(hs:List (Nat×Nat)){f:FuncId}{av:List A}{pc:(Nat->Nat->List A)->({o:Operand}->Nat->PX)->PC}{N np:Nat}{rs:List RX}{us ut:Nat}(hu:zcA0 F=(us,ut):=by((conv=>lhs;reduce)<;>exact rfl))(hp:∀(Z:Nat->Nat->List A) (K:{o:Operand}->Nat->PX),TC.tr ⟨cT,cM,Z,@K⟩ hs us ut F=(pc Z @K,N,rs,np):=by(intro Z K;((conv=>lhs;reduce)<;>exact rfl)))(hchk:chkF C.P f (pc cZ (@kon cZ)) N rs np=true:=by kernel_rfl)
    (w:∀E:Env,∀r,E.G=C.G->E.k0=0->Mk m->m'=r->AW C E (pc cZ (@kon cZ)) (Post rs (R r)) ⟨zM2 0 av,[],0⟩:=by
      (intro E r hG hK hm h;exact gogo)) (hnp:av.length=np:=by rfl):OkT f av (R m):=
  ⟨zbE6 hchk hnp λ E hG _ hK=>w E m hG hK trivial u.symm⟩
theorem okm{α:Type}{m m':Option α}(u:m=m'){f:FuncId}{av:List A}{ms:List (Nat×Row)}{k k':Nat}(rv:α->List A){ms':α->List (Nat×Row)}(F:Func)(hs:List (Nat×Nat)){pc:(Nat->Nat->List A)->({o:Operand}->Nat->PX)->PC}{N np:Nat}{rs:List RX}{us ut:Nat}(hu:zcA0 F=(us,ut):=by((conv=>lhs;reduce)<;>exact rfl))(hp:∀(Z:Nat->Nat->List A) (K:{o:Operand}->Nat->PX),TC.tr ⟨cT,cM,Z,@K⟩ hs us ut F=(pc Z @K,N,rs,np):=by(intro Z K;((conv=>lhs;reduce)<;>exact rfl)))(hchk:chkF C.P f (pc cZ (@kon cZ)) N rs np=true:=by kernel_rfl)
    (w:∀E:Env,∀r,E.G=C.G->E.k0=k->Mk m->m'=some r->AW C E (pc cZ (@kon cZ)) (zcx8 k rs (rv r) (ms' r) k') ⟨zM2 0 av,ms,k⟩:=by
      (intro E r hG hK hm h;exact gogo))
    (hnp:av.length=np:=by rfl) (hms:zcj7 ms=true:=by rfl) (hall:zbJ8 ms k=true:=by rfl) (hrl:∀r,(rv r).length=rs.length:=by(intro r;rfl)):OkM m f av ms k (λ r=>zcj5 (rv r)) ms' k':=
  ⟨λ r h=>zcj8 (rl:=rv r) hchk hnp hms hall (hrl r) λ E hG _ hK=>w E r hG hK trivial (u▸h)⟩
end
open Go.Shelf
theorem zdS9(r:Row):(⟨[],[(0,r)],1⟩:St).m=setM (⟨[],[],0⟩:St).m [(0,.row r)]:=by
 funext x
 by_cases h:x=0
 .subst h;simp[St.m,setM,look]
 .simp[St.m,setM,look,h,Nat.one_le_iff_ne_zero]
theorem zdo6{w:World}{W:Nat->Prop}{μ:Nat->Loc}{v:Value}(h:RepV w W μ v (.full [])):∃a,v=.slice a 0 0:=by
 have h':RepC w W v (.full []):=h;cases h' with
 |full a n es h1=>
  cases h1 with
  |sl0=>exact⟨_,rfl⟩
  |sl b off cap sz es us hb hlt hn=>simp at hn
def zdo7(P:Program)(t:TypeId)(sz:Nat):Bool:=
 match P.info? t with
 |some i=>i.size==sz&&decide (0<sz)&&(match i.zero with|some z=>z.cells.size==sz|none=>false)&&decide (4294967296*i.bytes<=140737488355328)
 |none=>false
theorem zdo8{C:Cx}{ρ:Ren}(L:Lays8.n4 C.P ρ){sz:Nat}(hok:zdo7 C.P (ρ.t 25) sz=true)
  {f:FuncId} (hf:ρ.f 4=f) (zz:List A) (a0:Int) (h0:0<=a0) (h1:a0<=4294967296):MFn C f [.full [],.int .i64 a0] [] 0 (.own 0 0 0) [(0,⟨false,sz,zz,[]⟩)] 1:=by
 subst hf;obtain⟨i0,z,hi0,hz0,hsz,hpos,hzs,hby⟩:∃i0 z,C.P.info? (ρ.t 25)=some i0/\i0.zero=some z/\i0.size=sz/\0<sz/\z.cells.size=sz/\4294967296*i0.bytes<=140737488355328:=by
  unfold zdo7 at hok;split at hok
  .rename_i i hi;split at hok
   .rename_i z hz;simp only[bU,dK,bY]at hok;obtain⟨⟨⟨h1,h2⟩,h3⟩,h4⟩:=hok;exact⟨i,z,hi,hz,h1,h2,h3,h4⟩
   .simp at hok
  .simp at hok
 subst hsz;intro w W μ vs hG hW hl hv hm hi;obtain⟨v0,v1,rfl⟩:∃v0 v1,vs=[v0,v1]:=by
  match vs,hl with
  |[a,b],_=>exact⟨a,b,rfl⟩
 obtain⟨ad,rfl⟩:=zdo6 (hv 0 v0 (.full []) rfl rfl);have r1:RepC w W v1 (.int .i64 a0):=hv 1 v1 (.int .i64 a0) rfl rfl;cases r1;obtain⟨n,rfl⟩:∃n:Nat,a0=n:=⟨a0.toNat,by omega⟩;have hid:(⟨[],[],0⟩:St).m 0=.fresh:=by simp[St.m]
 rw[zdS9]
 by_cases hn:n=0
 .subst hn;refine(Any8.slices_Grow_room L ad 0 0 0 w (dA _) (by omega) (by omega) (by omega)).mono λ e w' ⟨he,hw⟩=>?_;subst hw;exact⟨_,W,_,he,Step.newEmpty hm hi hW hid hpos rfl (Keeps.refl _ _),zaY1 (by simp) 0⟩
 .refine(Any8.slices_Grow_grow L i0 z hi0 hz0 hpos ad 0 0 n [] w (dA _) (by omega) ?_ (by omega) (by simp) (λ _=>rfl) (λ a _ j v h=>by simp at h)).mono λ e w' ⟨he,hw⟩=>?_
  .simp only[dV];exact eC (dQ _ (by omega)) hby
  have hc1:grownCap w (0+n) 0 (ρ.t 25)<=maxLen:=grownCap_le_maxLen w (0+n) 0 (ρ.t 25) (by simp only[maxLen];omega);generalize hc:grownCap w (0+n) 0 (ρ.t 25)=c at*;have hc0:0+n<=c:=by rw[<-hc];exact grownCap_ge _ _ _ _
  obtain⟨R,hR⟩:∃R:List Value,(([]:List Value).toArray++Builtin.zeroCells z.cells (0+n-0)++Builtin.zeroCells z.cells (c-(0+n)))=R.toArray:=⟨_,Array.toArray_toList.symm⟩;have hRl:R.length=c*i0.size:=by
   have:(R.toArray).size=c*i0.size:=by rw[<-hR];simp only[Array.size_append,size_zeroCells,hzs,dV,iT,List.length_nil];rw[<-dY];congr 1;omega
   simpa using this
  rw[hR]at hw;subst hw;have hst:=Step.new (w':=w.drew.alloc (.cells (([]:List Value)++R).toArray (ρ.t 25))) hm hi hW hid (r:=⟨false,i0.size,zz,[]⟩) (us:=[]) (rest:=R) (e:=ρ.t 25) hpos (zae8 _ _)
   ⟨by simp,λ i c h=>by simp at h,λ i c j a h=>by simp at h⟩ (by simpa using heap_alloc_new w.drew _)
  refine⟨_,_,_,he,hst,?_⟩;have:=zax1 (w:=w.drew.alloc (.cells (([]:List Value)++R).toArray (ρ.t 25))) (W:=λ b=>W b\/b=w.heap.size)
   (μ:=λ x=>if x=0 then Loc.at_ ⟨w.heap.size,i0.size,([]:List Value).length+R.length⟩else μ x) (x:=0) (lo:=0) (n:=0) (cap:=c)
   (k:=⟨w.heap.size,i0.size,([]:List Value).length+R.length⟩) (by simp) (by simp[hRl]) (fD _) (by omega)
  simpa using this
end Ab
end Go.Proofs.YtenebhlnfjcffaaGreatDoor
