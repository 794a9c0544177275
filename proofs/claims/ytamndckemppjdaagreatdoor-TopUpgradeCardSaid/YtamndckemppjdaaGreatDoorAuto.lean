import Derived.Test.YtamndckemppjdaaGreatDoorSim
import Derived.Test.YtamndckemppjdaaGreatDoorProg
import Derived.KernelRfl
namespace Go.Proofs.YtamndckemppjdaaGreatDoor
namespace Ab
set_option linter.unusedSimpArgs false
set_option linter.unusedVariables false
def gd{α:Type}(p:Prop)[Decidable p](k:Option α):Option α:=if p then k else none
theorem ze5{α:Type}{p:Prop}[Decidable p]{k:Option α}{r:α}(h:gd p k=some r):p/\k=some r:=by
 unfold gd at h;split at h
 .exact⟨by assumption,h⟩
 .cases h
theorem zw6{α:Type}{p:Prop}[Decidable p]{k:Option α}(h:p):gd p k=k:=cQ h
theorem zd2{α β:Type}{m:Option α}{f:α->Option β}{r:β}(h:m.bind f=some r):∃v,m=some v/\f v=some r:=by
 cases m with
 |none=>cases h
 |some v=>exact⟨v,rfl,h⟩
theorem zar3{α:Type}{c:Bool}{x y r:α}(hb:c=true)(h:(if c=true then x else y)=r):x=r:=by rw[cQ hb]at h;exact h
theorem zcm9{α:Type}{c:Bool}{x y r:α}(hb:c=false)(h:(if c=true then x else y)=r):y=r:=by subst hb;exact h
def iter{G X:Type}(body:G->Option (G⊕X)):Nat->G->Option X
 |0,_=>none
 |n+1,g=>match body g with
  |none=>none
  |some (.inl g')=>iter body n g'
  |some (.inr x)=>some x
theorem zaZ0{G X:Type}{body:G->Option (G⊕X)}{x:X}:∀{n m:Nat} {g:G},iter body n g=some x->n<=m->iter body m g=some x
 |0,_,_,h,_=>by cases h
 |n+1,0,_,_,hm=>by omega
 |n+1,m+1,g,h,hm=>by
  simp only[iter]at h⊢;cases hb:body g with
  |none=>rw[hb]at h;cases h
  |some y=>
   rw[hb]at h;cases y with
   |inl g'=>exact zaZ0 (n:=n) (m:=m) h (by omega)
   |inr x'=>exact h
open Classical in
noncomputable def zg8{G X:Type}(body:G->Option (G⊕X))(g:G):Option X:=
 match iter body 1000 g with
 |some x=>some x
 |none=>if h:∃n x,iter body n g=some x then some (Classical.choose (eH h))else none
theorem zaj4{G X:Type}{body:G->Option (G⊕X)}{g:G}{x:X}:zg8 body g=some x↔∃n,iter body n g=some x:=by
 have both:∀{n m:Nat} {x y:X},iter body n g=some x->iter body m g=some y->some x=some y:=λ{n m x y} h1 h2=>by rw[<-zaZ0 h1 (Nat.le_add_right n m),<-zaZ0 h2 (Nat.le_add_left m n)]
 unfold zg8;cases h0:iter body 1000 g with
 |some y=>exact⟨λ h=>⟨1000,by rw[h0];exact h⟩,λ⟨n,hn⟩=>both h0 hn⟩
 |none=>
  constructor
  .intro h;simp only at h;split at h
   .rename_i hh;cases h;exact⟨_,eH (eH hh)⟩
   .cases h
  .rintro⟨n,hn⟩;have hh:∃n x,iter body n g=some x:=⟨n,x,hn⟩;simp only;rw[iU hh];exact both (eH (eH hh)) hn
theorem zt6{G X:Type}(body:G->Option (G⊕X))(g:G):zg8 body g=match body g with
  |none=>none
  |some (.inl g')=>zg8 body g'
  |some (.inr x)=>some x:=by
 cases hb:body g with
 |none=>
  simp only;cases h:zg8 body g with
  |none=>rfl
  |some x=>
   obtain⟨n,hn⟩:=zaj4.1 h;cases n with
   |zero=>cases hn
   |succ n=>simp only[iter,hb]at hn;cases hn
 |some y=>
  cases y with
  |inr x=>exact zaj4.2 ⟨1,by simp[iter,hb]⟩
  |inl g'=>
   simp only;cases h:zg8 body g' with
   |some x=>obtain⟨n,hn⟩:=zaj4.1 h;exact zaj4.2 ⟨n+1,by simp only[iter,hb];exact hn⟩
   |none=>
    cases h2:zg8 body g with
    |none=>rfl
    |some x=>
     obtain⟨n,hn⟩:=zaj4.1 h2;cases n with
     |zero=>cases hn
     |succ n=>simp only[iter,hb]at hn;rw[zaj4.2 ⟨n,hn⟩]at h;cases h
def zaV5(E:Env){V:Type}(J:V->St)(P:V->Prop)(s:St):Prop:=∃v,P v/\St.le E s (J v)
theorem zbA8{E:Env}{V:Type}{J:V->St}{P:V->Prop}{s:St}{k:Nat}(hK:E.k0=k)(v:V)(h:P v)(l:List (Nat×Nat))(hl:Le l s (J v)/\zai0 k l (J v).nx=true):zaV5 E J P s:=⟨v,h,St.le_of l hl.1 (by rw[hK];exact hl.2)⟩
def zaP1(E:Env){V:Type}(J:V->St)(P:V->Prop)(Q:Exit->St->Prop):Exit->St->Prop:=λ e s=>match e with|.normal=>zaV5 E J P s|e=>Q e s
def BlkJ(E:Env){V:Type}(id:Nat)(J:V->St)(P:V->Prop)(Q:Exit->St->Prop):Exit->St->Prop:=λ e s=>match e with
 | .normal=>zaV5 E J P s
 | .exit i=>if i=id then zaV5 E J P s else Q (.exit i) s
 |e=>Q e s
def zbA9(E:Env){G X:Type}(I:G->St)(y:G⊕X)(s:St):Prop:=∃g',y=.inl g'/\St.le E s (I g')
theorem zbB0{E:Env}{G X:Type}{I:G->St}{g':G}{s:St}{k:Nat}(hK:E.k0=k)(l:List (Nat×Nat))(hl:Le l s (I g')/\zai0 k l (I g').nx=true):zbA9 (X:=X) E I (.inl g') s:=⟨g',rfl,St.le_of l hl.1 (by rw[hK];exact hl.2)⟩
def zbk1(E:Env){G X:Type}(I:G->St)(y:G⊕X)(Q:Exit->St->Prop):Exit->St->Prop:=λ e s=>match e with|.normal=>zbA9 E I y s|e=>Q e s
section
variable {C:Cx} {E:Env} {Q:Exit→St→Prop} {st:St}
theorem AW.join{V:Type}{J:V->St}{c:PC}{Q':Exit->St->Prop}(h:AW C E c Q' st)
  (hq:∀e s,Q' e s->Q e s\/∃v,St.le E s (J v)/\Q e (J v)):AW C E c Q st:=
 λ code hc a w hs=>wp_mono (h code hc a w hs) λ e a' w' ⟨st',h1,h2⟩=>by
  rcases hq e st' h1 with h3|⟨v,h3,h4⟩
  .exact⟨st',h3,h2⟩
  .exact⟨J v,h4,h3 a' w' h2⟩
theorem zcg4{x:PX}{p q:PC}{V:Type}(J:V->St)(P:V->Prop){b:Bool}(hx:xv C.G st.slot x=.bool b)(hG:E.G=C.G)(hk:∀v,P v->Q .normal (J v))
  (ht:b=true->AW C E p (zaP1 E J P Q) st) (hf:b=false->AW C E q (zaP1 E J P Q) st):AW C E (.cond x p q) Q st:=by
 have key:∀c,AW C E c (zaP1 E J P Q) st->AW C E c Q st:=λ c h=>h.join (J:=J) λ e s h=>by
  cases e with
  |normal=>obtain⟨v,h1,h2⟩:=h;exact .inr ⟨v,h2,hk v h1⟩
  |_=>exact .inl h
 exact zbe7 hx hG (λ h=>key _ (ht h)) (λ h=>key _ (hf h))
theorem zs5{id:Nat}{c:PC}{V:Type}(J:V->St)(P:V->Prop)(hk:∀v,P v->Q .normal (J v))(h:AW C E c (BlkJ E id J P Q) st):AW C E (.block id c) Q st:=by
 refine zbz1 (h.join (J:=J) λ e s h=>?_);cases e with
 |normal=>obtain⟨v,h1,h2⟩:=h;exact .inr ⟨v,h2,hk v h1⟩
 |exit i=>
  simp only[BlkJ]at h⊢;split at h
  .obtain⟨v,h1,h2⟩:=h;rename_i hi;exact .inr ⟨v,h2,by rw[cQ hi];exact hk v h1⟩
  .rename_i hi;exact .inl (by rw[cL hi];exact h)
 |_=>exact .inl h
theorem zbu0{c:PC}{G X:Type}{body:G->Option (G⊕X)}{g0:G}{x:X}(I:G->St){k:Nat}(hK:E.k0=k)(l:List (Nat×Nat))(hx:zg8 body g0=some x)(hle:Le l st (I g0)/\zai0 k l (I g0).nx=true)
  (h:∀g y,body g=some y->(∀x',y=.inr x'->x'=x)->AW C E c (zbk1 E I y Q) (I g)):AW C E (.loop c) Q st:=by
 obtain⟨n,hn⟩:=zaj4.1 hx;refine zbt1 (G:={p:Nat×G//iter body p.1 p.2=some x}) (λ p=>I p.1.2) (λ _=>True) (λ p=>p.1.1) ⟨(n,g0),hn⟩ trivial (St.le_of l hle.1 (by rw[hK];exact hle.2)) λ⟨⟨m,g⟩,hm⟩ _=>?_;cases m with
 |zero=>cases hm
 |succ m=>
  simp only[iter]at hm;cases hb:body g with
  |none=>rw[hb]at hm;cases hm
  |some y=>
   rw[hb]at hm;refine(h g y hb λ x' e=>by subst e;exact dP hm).mono λ e s hs=>?_;cases e with
   |normal=>obtain⟨g',rfl,h2⟩:=hs;exact⟨⟨(m,g'),hm⟩,trivial,h2,iS m⟩
   |_=>exact hs
theorem zbu1{V:Type}(J:V->St)(P:V->Prop)(s:St):zaP1 E J P Q .normal s=zaV5 E J P s:=rfl
theorem zbQ5{V:Type}(J:V->St)(P:V->Prop)(s:St):zaP1 E J P Q .ret s=Q .ret s:=rfl
theorem zbG7{V:Type}(J:V->St)(P:V->Prop)(i:Nat)(s:St):zaP1 E J P Q (.exit i) s=Q (.exit i) s:=rfl
theorem zbB1{V:Type}(id:Nat)(J:V->St)(P:V->Prop)(s:St):BlkJ E id J P Q .normal s=zaV5 E J P s:=rfl
theorem zbY0{V:Type}(id:Nat)(J:V->St)(P:V->Prop)(s:St):BlkJ E id J P Q .ret s=Q .ret s:=rfl
theorem zbQ6{V:Type}(id:Nat)(J:V->St)(P:V->Prop)(i:Nat)(s:St):BlkJ E id J P Q (.exit i) s=if i=id then zaV5 E J P s else Q (.exit i) s:=rfl
theorem zbu2{G X:Type}(I:G->St)(y:G⊕X)(s:St):zbk1 E I y Q .normal s=zbA9 E I y s:=rfl
theorem zbQ7{G X:Type}(I:G->St)(y:G⊕X)(s:St):zbk1 E I y Q .ret s=Q .ret s:=rfl
theorem zbG8{G X:Type}(I:G->St)(y:G⊕X)(i:Nat)(s:St):zbk1 E I y Q (.exit i) s=Q (.exit i) s:=rfl
attribute [go_sem] zbu1 zbQ5 zbG7 zbB1 zbY0 zbQ6 zbu2 zbQ7 zbG8
end
def zbk2{V G X:Type}(body:V->G->Option (G⊕X))(fin:G->X):List V->G->Option X
 |[],g=>some (fin g)
 |e::p,g=>match body e g with
  |none=>none
  |some (.inl g')=>zbk2 body fin p g'
  |some (.inr x)=>some x
def mrg{α:Type}(le:α->α->Bool):Nat->List α->List α->List α
 |0,xs,ys=>List.merge xs ys le
 |_+1,[],ys=>ys
 |_+1,x::xs,[]=>x::xs
 |n+1,x::xs,y::ys=>bif le x y then x::mrg le n xs (y::ys)else y::mrg le n (x::xs) ys
theorem zbG9{α:Type}(le:α->α->Bool):∀n xs ys,mrg le n xs ys=List.merge xs ys le
 |0,_,_=>rfl
 |_+1,[],ys=>(List.nil_merge ys).symm
 |_+1,x::xs,[]=>(List.merge_right _).symm
 |n+1,x::xs,y::ys=>by rw[mrg,List.merge,zbG9 le n,zbG9 le n];cases le x y<;>rfl
def msrt{α:Type}(le:α->α->Bool):Nat->List α->List α
 |0,l=>List.mergeSort l le
 |_+1,[]=>[]
 |_+1,[a]=>[a]
 |n+1,a::b::l=>mrg le (l.length+2) (msrt le n ((a::b::l).take ((l.length+3)/2))) (msrt le n ((a::b::l).drop ((l.length+3)/2)))
theorem zbu3{α:Type}(le:α->α->Bool):∀n l,msrt le n l=List.mergeSort l le
 |0,_=>rfl
 |_+1,[]=>List.mergeSort_nil.symm
 |_+1,[a]=>(List.mergeSort_singleton a).symm
 |n+1,a::b::l=>by rw[msrt,zbG9,zbu3 le n,zbu3 le n,List.mergeSort];simp only[List.MergeSort.Internal.splitInTwo,List.splitAt_eq];rfl
def zbY1{α:Type}(l:List α)(le:α->α->Bool):List α:=msrt le l.length l
theorem zaV6{α:Type}(l:List α)(le:α->α->Bool):zbY1 l le=List.mergeSort l le:=zbu3 le _ l
noncomputable def rngO{V G X β:Type}(m:List V)(d:V)(body:V->G->Option (G⊕X))(fin:G->X)(g0:G)(kk:X->Option β):Option β:=
 bif Nat.ble m.length 1 then(zbk2 body fin ((List.range m.length).map (m.getD · d)) g0).bind kk else
 open Classical in if h:∃r,∀q:List Nat,q.Perm (List.range m.length)->(zbk2 body fin (q.map (m.getD · d)) g0).bind kk=some r then some (Classical.choose h)else none
theorem zbY2{n:Nat}(h:Nat.ble n 1=true){q:List Nat}(hq:q.Perm (List.range n)):q=List.range n:=by
 match n,h with
 |0,_=>exact List.perm_nil.1 hq
 |1,_=>exact List.perm_singleton.1 hq
theorem zbQ8{V G X β:Type}{m:List V}{d:V}{body:V->G->Option (G⊕X)}{fin:G->X}{g0:G}{kk:X->Option β}{r:β}(h:rngO m d body fin g0 kk=some r):
  ∀q:List Nat,q.Perm (List.range m.length)->(zbk2 body fin (q.map (m.getD · d)) g0).bind kk=some r:=by
 unfold rngO at h;cases e:Nat.ble m.length 1
 .rw[e,cond_false]at h;split at h
  .rename_i hh;cases h;exact eH hh
  .cases h
 .rw[e,cond_true]at h;intro q hq;rw[zbY2 e hq,h]
structure RngP {V G X β:Type} (m:List V) (d:V) (body:V->G->Option (G⊕X)) (fin:G->X) (kk:X->Option β) (r:β) (s:List Nat) (g:G):Prop where
 nd:s.Nodup
 lt:∀i∈s,i<m.length
 ok:∀q,(s++q).Perm (List.range m.length)->(zbk2 body fin (q.map (m.getD · d)) g).bind kk=some r
theorem zcg5{n:Nat}{s:List Nat}(h1:s.Nodup)(h2:∀i∈s,i<n):∃q,(s++q).Perm (List.range n):=by
 refine⟨(List.range n).filter (λ i=>!s.contains i),(iK ?_ gD).2 λ i=>?_⟩
 .rw[List.nodup_append];exact⟨h1,List.filter_sublist.nodup gD,λ a ha b hb e=>by subst e;simp at hb;exact hb.2 ha⟩
 .simp only[dV,fS,dT,dQ,iB,eD];constructor
  .rintro(h|h)
   .exact h2 i h
   .exact h.1
  .intro h
   by_cases c:i∈s
   .exact .inl c
   .exact .inr ⟨h,c⟩
theorem zbY3{V G X β:Type}{m:List V}{d:V}{body:V->G->Option (G⊕X)}{fin:G->X}{kk:X->Option β}{r:β}{s:List Nat}{g:G}{i:Nat}(h:RngP m d body fin kk r s g)(hi:i<m.length)(hs:iE i∉s.map iE):
  ∃y,body (m.getD i d) g=some y/\(∀g',y=.inl g'->RngP m d body fin kk r (s++[i]) g')/\∀x,y=.inr x->kk x=some r:=by
 have hs':i∉s:=λ hh=>hs (cS.2 ⟨i,hh,rfl⟩);have nd:(s++[i]).Nodup:=by rw[List.nodup_append];exact⟨h.nd,by simp,λ a ha b hb e=>by simp at hb;subst hb;subst e;exact hs' ha⟩
 have lt:∀j∈s++[i],j<m.length:=λ j hj=>by
  rcases dV.1 hj with hj|hj
  .exact h.lt j hj
  .simp at hj;subst hj;exact hi
 obtain⟨q,hq⟩:=zcg5 nd lt;have hq0:=h.ok (i::q) (by rw[dW]at hq;exact hq);simp only[dI,zbk2]at hq0;cases hb:body (m.getD i d) g with
 |none=>rw[hb]at hq0;cases hq0
 |some y=>
  refine⟨y,rfl,λ g' e=>⟨nd,lt,λ q hq=>?_⟩,λ x e=>?_⟩
  .have:=h.ok (i::q) (by rw[dW]at hq;exact hq);simp only[dI,zbk2,hb,e]at this;exact this
  .rw[hb,e]at hq0;exact hq0
theorem zcg6{V G X β:Type}{m:List V}{d:V}{body:V->G->Option (G⊕X)}{fin:G->X}{kk:X->Option β}{r:β}{s:List Nat}{g:G}(h:RngP m d body fin kk r s g)(ha:∀i,i<m.length->iE i∈s.map iE):kk (fin g)=some r:=by
 have:=h.ok [] (by
  rw[eN];refine(iK h.nd gD).2 λ i=>?_;rw[dT];refine⟨h.lt i,λ hi=>?_⟩;obtain⟨j,hj,e⟩:=cS.1 (ha i hi);simp only[iE,eY,A.int.injEq,hZ,iA]at e;have:j=i:=by omega
  exact this▸hj)
 exact this
def RngN{V G X β:Type}(E:Env)(I:List Nat->G->St)(m:List V)(d:V)(body:V->G->Option (G⊕X))(fin:G->X)(kk:X->Option β)(r:β)(s:List Nat)(w:St):Prop:=
 ∃i g',RngP m d body fin kk r (s++[i]) g'/\St.le E w (I (s++[i]) g')
def RngQ{V G X β:Type}(E:Env)(I:List Nat->G->St)(m:List V)(d:V)(body:V->G->Option (G⊕X))(fin:G->X)(kk:X->Option β)(r:β)(s:List Nat)(Q:Exit->St->Prop):Exit->St->Prop:=λ e w=>match e with|.normal=>RngN E I m d body fin kk r s w|e=>Q e w
section
variable {C:Cx} {E:Env} {Q:Exit→St→Prop} {st:St}
theorem zcQ8{c:PC}{V G X β:Type}{m:List V}{d:V}{body:V->G->Option (G⊕X)}{fin:G->X}{g0:G}{kk:X->Option β}{r:β}(I:List Nat->G->St)(h:rngO m d body fin g0 kk=some r)(h0:St.le E st (I [] g0))
  (hb:∀s g,RngP m d body fin kk r s g->AW C E c (RngQ E I m d body fin kk r s Q) (I s g)):AW C E (.loop c) Q st:=by
 refine zbt1 (G:=List Nat×G) (λ p=>I p.1 p.2) (λ p=>RngP m d body fin kk r p.1 p.2) (λ p=>m.length-p.1.length) ([],g0) ⟨List.nodup_nil,(λ i hi=>nomatch hi),λ q hq=>zbQ8 h q hq⟩ h0 λ p hp=>?_;refine(hb p.1 p.2 hp).mono λ e w hw=>?_;cases e with
 |normal=>
  obtain⟨i,g',h1,h2⟩:=hw;refine⟨(p.1++[i],g'),h1,h2,?_⟩;have:(p.1++[i]).length<=m.length:=by
   have:=List.Nodup.length_le_of_subset h1.nd (l₂:=List.range m.length) λ j hj=>dT.2 (h1.lt j hj)
   simpa using this
  simp only[cX,List.length_cons,List.length_nil]at this⊢;omega
 |_=>exact hw
theorem zbB2{V G X β:Type}(I:List Nat->G->St)(m:List V)(d:V)(body:V->G->Option (G⊕X))(fin:G->X)(kk:X->Option β)(r:β)(s:List Nat)(w:St):RngQ E I m d body fin kk r s Q .normal w=RngN E I m d body fin kk r s w:=rfl
theorem zbY4{V G X β:Type}(I:List Nat->G->St)(m:List V)(d:V)(body:V->G->Option (G⊕X))(fin:G->X)(kk:X->Option β)(r:β)(s:List Nat)(w:St):RngQ E I m d body fin kk r s Q .ret w=Q .ret w:=rfl
theorem zbQ9{V G X β:Type}(I:List Nat->G->St)(m:List V)(d:V)(body:V->G->Option (G⊕X))(fin:G->X)(kk:X->Option β)(r:β)(s:List Nat)(i:Nat)(w:St):RngQ E I m d body fin kk r s Q (.exit i) w=Q (.exit i) w:=rfl
attribute [go_sem] zbB2 zbY4 zbQ9
end
def unfull:A->A
 | .full es=>.sl es
 |a=>a
theorem PFn.unfull{C:Cx}{f:FuncId}{az:List A}{r:A}(h:PFn C f (az.map unfull) r):PFn C f az r:=by
 intro w W vs hg hW hl ha;refine h w W vs hg hW (by simpa using hl) λ i v a hv hx=>?_;rw[cP]at hx;cases hy:az[i]? with
 |none=>rw[hy]at hx;cases hx
 |some b=>
  rw[hy]at hx;cases hx;have:=ha i v b hv hy;cases b with
  |full es=>
   have h2:RepC w W v (.full es):=this;cases h2 with
   |full a n es h=>exact h
  |_=>exact this
@[go_sem] theorem zdp5(a b:Nat):Nat.min a b=min a b:=rfl
attribute [go_sem] Ab.unfull zai0 fixL St.trim St.trimOk zaN0
attribute [go_sem] Int.cast_ofNat_Int fN iI eP Nat.min_self
theorem zbY5{C:Cx}{f:FuncId}{az az':List A}{r:A}(e:az'=az)(h:PFn C f az r):PFn C f az' r:=e▸h
def Imp(q p:Prop):Prop:=q->p
theorem Imp.and{q a b:Prop}(ha:a)(h:Imp q b):Imp q (a/\b):=λ hq=>⟨ha,h hq⟩
theorem Imp.refl{q:Prop}:Imp q q:=λ h=>h
theorem zcQ9{x:Int}{k:Nat}(h:Nat.ble 256 k=true:=by kernel_rfl):IntKind.u8.wrap x<(k:Int):=by
 have h1:=dZ h;have:IntKind.u8.wrap x<256:=by simp only[IntKind.wrap,IntKind.signed,IntKind.bits];omega
 omega
theorem im{q p:Prop}(w:Imp q p:=by(simp only[go_sem,↓reduceIte,reduceCtorEq,Nat.reduceEqDiff,Nat.reduceAdd,Nat.reduceSub,Nat.reduceMul,Nat.reduceLeDiff,Nat.reduceLT,Int.reduceLE,Int.reduceLT,Int.reduceToNat,Int.reduceNeg];(repeat((with_reducible apply Imp.and);focus (first|assumption|omega|rfl|exact zcQ9|(simp;done)|(simp;omega)|(intros;simp_all;done)|grind)));exact Imp.refl)):Imp q p:=w
theorem i0{q p:Prop}(w:Imp q p:=by first|(simp only[go_sem,↓reduceIte,reduceCtorEq,Nat.reduceEqDiff,Nat.reduceAdd,Nat.reduceSub,Nat.reduceMul,Nat.reduceLeDiff,Nat.reduceLT,Int.reduceLE,Int.reduceLT,Int.reduceToNat,Int.reduceNeg];exact Imp.refl)|exact Imp.refl):Imp q p:=w
theorem lw{p:Prop}(w:p:=by(simp only[go_sem,↓reduceIte,reduceCtorEq,Nat.reduceEqDiff,Nat.reduceAdd,Nat.reduceSub,Nat.reduceMul,Nat.reduceLeDiff,Nat.reduceLT,Int.reduceLE,Int.reduceLT,Int.reduceToNat,Int.reduceNeg];first|(done)|trivial|(simp;done)|(repeat'(first|rfl|trivial|omega|(simp;done)|(simp;omega)|(congr 1;omega)|(congr 1;simp only[cX,dR,eG,fG];omega)|apply And.intro)))):p:=w
section
variable {C:Cx} {E:Env} {Q:Exit→St→Prop} {st:St} {q:Prop}
theorem g_st{p:Prop}(h:q)(e:Imp q p:=by exact i0):p:=e h
theorem zh0(h:q)(e:Imp q (Q .normal st):=by exact i0):AW C E .skip Q st:=zcf4 (e h)
theorem zbu4(h:q)(e:Imp q (Q .normal st):=by exact i0):AW C E .label Q st:=zbW2 (e h)
theorem zv7{id:Nat}(h:q)(e:Imp q (Q (.exit id) st):=by exact i0):AW C E (.exit id) Q st:=zcf5 (e h)
theorem zo3(h:q)(e:Imp q (Q .ret st):=by exact i0):AW C E .ret Q st:=zcq2 (e h)
theorem za3{dr:List Nat}{ops:List POp}(hG:E.G=C.G)(h:q)
  (e:Imp q (arun C ops st λ s=>Q .normal (s.drop dr)):=by exact im):AW C E (.reg dr ops) Q st:=zcq3 hG (e h)
theorem zaj5{dr:List Nat}{ops:List POp}(hm:C.P.follows .mixedOrders=true)(hG:E.G=C.G)(h:q)
  (e:Imp q (zaz6 C ops st λ s=>Q .normal (s.drop dr)):=by exact im):AW C E (.regd dr ops) Q st:=zcf7 hm hG (e h)
theorem zP1{dr:List Nat}{an:List (List Nat)}{ops:List POp}(hm:C.P.follows .mixedOrders=true)(hG:E.G=C.G)(h:q)
  (e:Imp q (zaf0 C an ops st [] λ s=>Q .normal (s.drop dr)):=by exact im):AW C E (.regm dr an ops) Q st:=zcg1 hm hG (e h)
theorem zn1{f:FuncId}{d:Option Nat}{g:Option (Nat×Bool)}{gv:Bool}{ob:Prop}{args:List A}{rw:List (Nat×MS)}{ps:List POp}{st:St}{K:St->Prop}{r:A}
  (hf:gv=true->PFn C f args r) (h:q)
  (e:Imp q (arun C ps (st.app d (zH1 g gv r) (if r.scal then[]else rw)) K):=by exact im)
  (ho:gv=true->ob:=by intro;trivial) (hg:g=none\/(if r.scal then[]else rw)=[]/\r.isVV=true:=by first|exact .inl rfl|exact .inr ⟨rfl,rfl⟩|exact .inr ⟨jC _,rfl⟩):zaO9 C f d g gv ob args rw ps st K:=zbX4 hf (e h) ho hg
theorem zD0{f:FuncId}{d:Option Nat}{g:Option (Nat×Bool)}{gv:Bool}{ob:Prop}{args:List A}{rw:List (Nat×MS)}{ps:List POp}{st:St}{K:St->Prop}{r:A}
  (hf:gv=true->PFn C f args r) (h:q)
  (e:Imp q (zaz6 C ps (st.app d (zH1 g gv r) []) K):=by exact im)
  (ho:gv=true->ob:=by intro;trivial) (hg:g=none\/(if r.scal then[]else rw)=[]/\r.isVV=true:=by first|exact .inl rfl|exact .inr ⟨rfl,rfl⟩|exact .inr ⟨jC _,rfl⟩) (hn:(if r.scal then[]else rw)=[]:=by first|rfl|exact jC _):zay5 C f d g gv ob args rw ps st K:=zbP8 hf (e h) ho hg hn
theorem zx8{an:List (List Nat)}{f:FuncId}{d:Option Nat}{g:Option (Nat×Bool)}{gv:Bool}{ob:Prop}{args:List A}{rw:List (Nat×MS)}{ids:List Nat}{cok:Bool}{ps:List POp}{st:St}{log:List (List Nat×List Nat)}{K:St->Prop}{r:A}
  (hf:gv=true->PFn C f args r) (h:q)
  (e:Imp q (zaG0 (an.getD log.length []) 0 log ids ((if r.scal then[]else rw).map (·.1))=true/\cok=true/\zaf0 C an ps (st.app d (zH1 g gv r) (if r.scal then[]else rw)) (log++[(ids,(if r.scal then[]else rw).map (·.1))]) K):=by exact im)
  (ho:gv=true->ob:=by intro;trivial) (hg:g=none\/(if r.scal then[]else rw)=[]/\r.isVV=true:=by first|exact .inl rfl|exact .inr ⟨rfl,rfl⟩|exact .inr ⟨jC _,rfl⟩):zay6 C an f d g gv ob args rw ids cok ps st log K:=zbQ0 hf (e h) ho hg
theorem zh3{α:Type}{x:PX}{p q:PC}{b c:Bool}{X Y r:α}(hx:xv C.G st.slot x=.bool b)(hG:E.G=C.G)(h:(if c=true then X else Y)=r)
  (ht:b=true->X=r->AW C E p Q st) (hf:b=false->Y=r->AW C E q Q st) (e:b=c:=by first|rfl|(simp;done)|grind):AW C E (.cond x p q) Q st:=by
 subst e;exact zbe7 hx hG (λ hb=>ht hb (by rw[cQ hb]at h;exact h)) (λ hb=>hf hb (by rw[hb]at h;simpa using h))
theorem zaE6{α:Type}{x:PX}{p q:PC}{V:Type}(J:V->St)(P:V->Prop){b c:Bool}{X Y r:α}(hx:xv C.G st.slot x=.bool b)(hG:E.G=C.G)(h:(if c=true then X else Y)=r)(hk:∀v,P v->Q .normal (J v))
  (ht:b=true->X=r->AW C E p (zaP1 E J P Q) st) (hf:b=false->Y=r->AW C E q (zaP1 E J P Q) st) (e:b=c:=by first|rfl|(simp;done)|grind):AW C E (.cond x p q) Q st:=by
 subst e;exact zcg4 J P hx hG hk (λ hb=>ht hb (by rw[cQ hb]at h;exact h)) (λ hb=>hf hb (by rw[hb]at h;simpa using h))
theorem zt5{α:Type}{x r:α}{p:Prop}(h:some x=some r)(e:x=r->p:=by(intro e;subst e;first|done|rfl|trivial|(simp;done)|(repeat'(first|rfl|trivial|omega|(simp;done)|(simp;omega)|(refine dA A.sl (dA (List.map _) ?_);exact eK (by first|omega|(simp;omega)))|apply And.intro)))):p:=e (dP h)
theorem zaZ1{α:Type}{x r:α}{p:Prop}(h:x=r)(e:x=r->p:=by(intro e;subst e;first|done|rfl|trivial|(simp;done)|(repeat'(first|rfl|trivial|omega|(simp;done)|(simp;omega)|(refine dA A.sl (dA (List.map _) ?_);exact eK (by first|omega|(simp;omega)))|apply And.intro)))):p:=e h
theorem zs8{V:Type}{J:V->St}{P:V->Prop}{s:St}{k:Nat}(hK:E.k0=k)(l:List (Nat×Nat))(v:V)(h:P v)
  (hl:Le l s (J v)/\zai0 k l (J v).nx=true:=by exact lw):zaV5 E J P s:=zbA8 hK v h l hl
theorem zy5{G X:Type}{I:G->St}{g':G}{y:G⊕X}{s:St}{k:Nat}(hK:E.k0=k)(l:List (Nat×Nat))(h:some (.inl g')=some y)
  (hl:Le l s (I g')/\zai0 k l (I g').nx=true:=by exact lw):zbA9 E I y s:=by
 cases h;exact zbB0 hK l hl
theorem zz0{c:PC}{G X β:Type}{body:G->Option (G⊕X)}{g0:G}{kk:X->Option β}{r:β}(I:G->St){k:Nat}(hK:E.k0=k)(l:List (Nat×Nat))(h:(zg8 body g0).bind kk=some r)
  (hb:∀x,kk x=some r->∀g y,body g=some y->(∀x',y=.inr x'->x'=x)->AW C E c (zbk1 E I y Q) (I g))
  (hle:Le l st (I g0)/\zai0 k l (I g0).nx=true:=by exact lw):AW C E (.loop c) Q st:=by
 obtain⟨x,hx,hk⟩:=zd2 h;exact zbu0 I hK l hx hle (hb x hk)
theorem zcR0{c:PC}{V G X β:Type}{m:List V}{d:V}{body:V->G->Option (G⊕X)}{fin:G->X}{g0:G}{kk:X->Option β}{r:β}(I:List Nat->G->St){k:Nat}(hK:E.k0=k)(l:List (Nat×Nat))(h:rngO m d body fin g0 kk=some r)
  (hb:∀s g,RngP m d body fin kk r s g->AW C E c (RngQ E I m d body fin kk r s Q) (I s g))
  (hle:Le l st (I [] g0)/\zai0 k l (I [] g0).nx=true:=by exact lw):AW C E (.loop c) Q st:=
 zcQ8 I h (St.le_of l hle.1 (by rw[hK];exact hle.2)) hb
theorem zbL3{V G X β:Type}{m:List V}{d:V}{body:V->G->Option (G⊕X)}{fin:G->X}{kk:X->Option β}{r:β}{I:List Nat->G->St}{g':G}{y:G⊕X}{s:List Nat}{i:Nat}{w:St}{k:Nat}(hK:E.k0=k)(l:List (Nat×Nat))(h:some (.inl g')=some y)
  (hP:∀g',y=.inl g'->RngP m d body fin kk r (s++[i]) g') (hl:Le l w (I (s++[i]) g')/\zai0 k l (I (s++[i]) g').nx=true:=by exact lw):RngN E I m d body fin kk r s w:=by
 cases h;exact⟨i,g',hP g' rfl,St.le_of l hl.1 (by rw[hK];exact hl.2)⟩
theorem zV9{α:Type}{r:α}(h:none=some r):AW C E .dead Q st:=by cases h
theorem zU6{x:PX}{p r:PC}(hx:xv C.G st.slot x=.bool true)(hG:E.G=C.G)(h:AW C E p Q st):AW C E (.cond x p r) Q st:=zbe7 hx hG (λ _=>h) (λ h=>by cases h)
theorem zaf1{x:PX}{p r:PC}(hx:xv C.G st.slot x=.bool false)(hG:E.G=C.G)(h:AW C E r Q st):AW C E (.cond x p r) Q st:=zbe7 hx hG (λ h=>by cases h) (λ _=>h)
theorem g_gh{c:PC}(g:Gh)(h:q)(e:Imp q (AW C E c Q (st.gh g)):=by exact i0)(hok:st.ghOk g:=by exact lw):AW C E c Q st:=zcQ3 g hok (e h)
theorem zw8{α:Type}{x r:α}{k:Nat}{st:St}{rs:List RX}{rl:List A}{ms':List (Nat×Row)}{k':Nat}(l:List (Nat×Nat))(h:some x=some r)
  (e:x=r->zbb2 st rs/\zbi3 rl=true/\Le l ⟨zz9 0 (resL st rs),st.mem,st.nx⟩ ⟨zz9 0 rl,ms',k'⟩/\zai0 k l k'=true:=by(intro e;subst e;exact lw)):zaD9 k st rs rl ms' k':=by
 obtain⟨h1,h2,h3,h4⟩:=e (dP h);exact⟨h1,h2,l,h3,h4⟩
@[go_sem] theorem zcc8{α:Type}(a:Nat×α)(l m:List (Nat×α))(n:Nat):look ((a::l)++m) n=if a.1=n then some a.2 else look (l++m) n:=rfl
@[go_sem] theorem zcr4(m:Nat->MS)(v:A)(vs ws:List A):zC0 m ((v::vs)++ws)=frz m v::zC0 m (vs++ws):=rfl
@[go_sem] theorem zcg7(m:Nat->MS)(v:A)(vs ws:List A):zx2 m ((v::vs)++ws)=(zac7 m v/\zx2 m (vs++ws)):=rfl
@[go_sem] theorem zcc9(v:A)(vs ws:List A):zz2 ((v::vs)++ws)=zae8 v++zz2 (vs++ws):=rfl
@[go_sem] theorem zcM9(m:Nat->MS)(l:List (Nat×Nat))(k:Nat)(v a:A)(vs ws az:List A):zaU1 m l k ((v::vs)++ws) (a::az)=(argM m l k v a/\zaU1 m l k (vs++ws) az):=rfl
@[go_sem] theorem zdn8(v a:A)(vs ws az:List A):fzM ((v::vs)++ws) (a::az)=(if a.hands then[]else zae8 v)++fzM (vs++ws) az:=rfl
@[go_sem] theorem zcg8(q:Nat×MS)(r m:List (Nat×MS))(n:Nat):nxt n ((q::r)++m)=nxt (if q.1=n then n+1 else n) (r++m):=rfl
@[go_sem] theorem zcg9{α:Type}(m:List (Nat×α))(n:Nat):look ([]++m) n=look m n:=rfl
theorem zs2{f:FuncId}{d:Option Nat}{ob:Prop}{vals:List A}{ps:List POp}{st:St}{K:St->Prop}(l nl:List (Nat×Nat))(ids:List Nat){az:List A}{ms ms':List (Nat×Row)}{k k':Nat}{r:A}
  (hf:MFn C f az ms k r ms' k') (hnl:newL k st.nx (k'-k)=nl) (hids:ms.map (·.1)++(List.range (k'-k)).map (k+·)=ids) (h:q)
  (e:Imp q (arun C ps (st.app d (renR (l++nl) r) (zG1 st.m (fzM vals az)++zQ6 (l++nl) ms' ids)) K):=by exact im)
  (hok:okM st.m st.nx l vals az ms k k':=by exact lw)
  (ho:ob:=by trivial) (hr:zaG2 r=true:=by rfl):zU0 C f d none true ob vals ps st K:=by
 subst hnl;subst hids;exact zbP6 l hf hok (e h) ho hr
theorem zbY6(ms:List (Nat×Row))(k:Nat):ms.map (·.1)++(List.range (k-k)).map (k+·)=ms.map (·.1):=by rw[gQ];exact eN _
theorem zbB3{α:Type}{X:Option α}{dv v:α}{c:Bool}{f:FuncId}{d:Option Nat}{g:Option (Nat×Bool)}{gv:Bool}{ob:Prop}{vals:List A}{ps:List POp}{st:St}{K:St->Prop}(l:List (Nat×Nat))(ids:List Nat){az:List A}{ms ms':List (Nat×Row)}{k:Nat}{r:A}
  (hv:(if c=true then X else some dv)=some v) (hf:X=some v->MFn C f az ms k r ms' k) (hids:ms.map (·.1)=ids) (h:q)
  (ec:gv=c:=by first|rfl|(simp;done)|grind) (hs:dv=v->zaU2 st.m (zG1 st.m (fzM vals az)++zQ6 l ms' ids):=by(intro e;subst e;simp only[go_sem,↓reduceIte,reduceCtorEq,Nat.reduceEqDiff,Nat.reduceAdd,Nat.reduceSub,Nat.reduceMul,Nat.reduceLeDiff,Nat.reduceLT,Int.reduceLE,Int.reduceLT,Int.reduceToNat,Int.reduceNeg];first|(done)|trivial|(simp;done)|(repeat'(first|rfl|trivial|(simp;done)|apply And.intro))))
  (e:Imp q (arun C ps (st.app d (zH1 g gv (renR l r)) (zG1 st.m (fzM vals az)++zQ6 l ms' ids)) K):=by exact im)
  (hok:okM st.m st.nx l vals az ms k k:=by exact lw)
  (ho:gv=true->ob:=by first|(intro;trivial)|(intro;simp_all;done)) (hr:zaG2 r=true:=by rfl) (hvv:(renR l r).isVV=true:=by rfl):zU0 C f d g gv ob vals ps st K:=by
 subst hids;subst ec;refine zbG3 l (λ hg=>hf (zar3 hg hv)) (λ _=>hok) ?_ ?_ ho hr hvv
 .intro hg;unfold mwM;rw[zbY6];exact hs (dP (zcm9 hg hv))
 .unfold mwM;rw[zbY6];exact e h
theorem zar4{an:List (List Nat)}{f:FuncId}{d:Option Nat}{ob:Prop}{vals:List A}{vi:List Nat}{cok:Bool}{ps:List POp}{st:St}{log:List (List Nat×List Nat)}{K:St->Prop}(l nl:List (Nat×Nat))(ids:List Nat){az:List A}{ms ms':List (Nat×Row)}{k k':Nat}{r:A}
  (hf:MFn C f az ms k r ms' k') (hnl:newL k st.nx (k'-k)=nl) (hids:ms.map (·.1)++(List.range (k'-k)).map (k+·)=ids) (h:q)
  (e:Imp q (zaG0 (an.getD log.length []) 0 log vi ((zG1 st.m (fzM vals az)++zQ6 (l++nl) ms' ids).map (·.1))=true/\cok=true/\zaf0 C an ps (st.app d (renR (l++nl) r) (zG1 st.m (fzM vals az)++zQ6 (l++nl) ms' ids)) (log++[(vi,(zG1 st.m (fzM vals az)++zQ6 (l++nl) ms' ids).map (·.1))]) K):=by exact im)
  (hok:okM st.m st.nx l vals az ms k k':=by exact lw)
  (ho:ob:=by trivial) (hr:zaG2 r=true:=by rfl):zap9 C an f d none true ob vals vi cok ps st log K:=by
 subst hnl;subst hids;exact zbG5 l hf hok (e h) ho hr
theorem g_rf{x:PX}{f:FuncId}{caps:List A}(hdf:E.df=true)(hG:E.G=C.G)(l nl:List (Nat×Nat))(ids:List Nat){az:List A}{ms ms':List (Nat×Row)}{k k':Nat}{r:A}
  (hf:YFn C f az ms k r ms' k') (hnl:newL k st.nx (k'-k)=nl) (hids:ms.map (·.1)++(List.range (k'-k)).map (k+·)=ids) (h:q)
  (e:Imp q (Q .normal (st.app none .any (zG1 st.m (fzM caps az)++zQ6 (l++nl) ms' ids))):=by exact im) (hx:xv C.G st.slot x=.clo f caps:=by rfl)
  (hok:okM st.m st.nx l caps az ms k k':=by exact lw) (hb:zx1 C.P f=true:=by kernel_rfl) (hr:zaG2 r=true:=by rfl):AW C E (.rf x) Q st:=by
 subst hnl;subst hids;exact zcQ4 hdf hG hx hb l hf hok (zaz9 hr) (e h)
theorem zbL4{α:Type}{c gv:Bool}{X Y r:α}{f:FuncId}{d:Option Nat}{g:Option (Nat×Bool)}{ob:Prop}{vals:List A}{ps:List POp}{st:St}{K:St->Prop}(h:(if c=true then X else Y)=r)
  (ht:gv=true->X=r->zU0 C f d g gv ob vals ps st K) (hf:gv=false->Y=r->zU0 C f d g gv ob vals ps st K) (ec:gv=c:=by first|rfl|(simp;done)|grind):zU0 C f d g gv ob vals ps st K:=by
 subst ec;cases hg:gv with
 |true=>rw[hg]at ht;exact ht rfl (zar3 hg h)
 |false=>rw[hg]at hf;exact hf rfl (zcm9 hg h)
theorem zbB4{gv:Bool}{f:FuncId}{d:Option Nat}{g:Option (Nat×Bool)}{ob:Prop}{vals:List A}{ps:List POp}{st:St}{K:St->Prop}(hc:gv=true)(l nl:List (Nat×Nat))(ids:List Nat){az:List A}{ms ms':List (Nat×Row)}{k k':Nat}{r:A}
  (hf:MFn C f az ms k r ms' k') (hnl:newL k st.nx (k'-k)=nl) (hids:ms.map (·.1)++(List.range (k'-k)).map (k+·)=ids) (h:q)
  (e:Imp q (arun C ps (st.app d (zH1 g true (renR (l++nl) r)) (zG1 st.m (fzM vals az)++zQ6 (l++nl) ms' ids)) K):=by exact im)
  (hok:okM st.m st.nx l vals az ms k k':=by exact lw)
  (ho:ob:=by first|trivial|(simp_all;done)) (hr:zaG2 r=true:=by rfl) (hvv:(renR (l++nl) r).isVV=true:=by rfl):zU0 C f d g gv ob vals ps st K:=by
 subst hnl;subst hids;subst hc;exact⟨l,az,ms,k,r,ms',k',λ _=>⟨ho,hf,hok,trivial⟩,(λ h=>nomatch h),.inr hvv,zaz9 hr,e h⟩
theorem zbL5(m:Nat->MS)(nx:Nat)(vals:List A):mwM m ([]++newL 0 nx (0-0)) vals [] [] [] 0 0=[]:=by cases vals<;>rfl
theorem zbB5{gv:Bool}{f:FuncId}{d:Option Nat}{g:Option (Nat×Bool)}{ob:Prop}{vals:List A}{ps:List POp}{st:St}{K:St->Prop}(hc:gv=false)(dv:A)(h:q)
  (e:Imp q (arun C ps (st.app d (zH1 g false dv) []) K):=by exact im)
  (hd:renR [] dv=dv:=by rfl) (hn:zaG2 dv=true:=by rfl) (hvv:dv.isVV=true:=by rfl):zU0 C f d g gv ob vals ps st K:=by
 subst hc;have hd':renR ([]++newL 0 st.nx (0-0)) dv=dv:=hd;refine⟨[],[],[],0,dv,[],0,(λ h=>nomatch h),λ _=>⟨rfl,?_⟩,.inr ?_,zaz9 hn,?_⟩
 .rw[zbL5];trivial
 .rw[hd'];exact hvv
 .rw[zbL5,hd'];exact e h
end
inductive TK where
 |b
 |i (k:IntKind)
 |s
 |st (fs:List (Nat×Nat))
 |ar (n e:Nat)
 |sl (e:Nat)
 |mp (k e:Nat)
 |o
structure TI where
 k:TK
 n:Nat
 y:Nat
def lk{α:Type}:List (Nat×α)->Nat->α->α
 |[],_,d=>d
 |q::r,n,d=>bif Nat.beq q.1 n then q.2 else lk r n d
structure TC where
 t:List (Nat×TI)
 m:List (Nat×Option Unit)
 z:Nat->Nat->List A
 k:{o:Operand}->Nat->PX
def TC.ty(c:TC)(t:Nat):TI:=lk c.t t ⟨.o,1,0⟩
def TC.el(c:TC)(t:Nat):Nat:=match(c.ty t).k with|.sl e=>e|.ar _ e=>e|_=>0
def TC.ag(c:TC)(t:Nat):Bool:=match(c.ty t).k with|.st _=>true|.ar _ _=>true|_=>false
@[irreducible] def hdA(l:List A):A:=l.headD .any
@[go_sem] theorem zcR1(a:A)(l:List A):hdA (a::l)=a:=by unfold hdA;rfl
def TC.kz(c:TC)(t:Nat):A:=match(c.ty t).k with|.mp k _=>bif c.ag k then .agg (c.z 0 k)else hdA (c.z 0 k)|_=>.any
def TC.me(c:TC)(t:Nat):Nat:=match(c.ty t).k with|.mp _ e=>e|_=>0
def TC.mt(c:TC)(t:Nat):Nat:=match(c.ty t).k with|.mp k _=>k|_=>0
def TC.md(c:TC)(t:Nat):List A:=c.kz t::c.z 0 (c.me t)
def TC.lf(c:TC):Nat->Nat->List LK
 |0,_=>[]
 |d+1,t=>match(c.ty t).k with
  | .b=>[.b]
  | .i k=>[.i k]
  | .s=>[.s]
  | .st fs=>fs.flatMap λ q=>c.lf d q.2
  |_=>[]
def TC.x(c:TC)(t:Nat)(o:Operand):PX:=match o with
 | .tmp n=>.t n
 | .const _=>c.k (o:=o) t
 | .global g=>.g g
 | .func f=>.f f
def zbY7:Operand->Bool
 | .const (.slice _ _ _)=>true
 |_=>false
def TC.bo(c:TC)(op:BinOp)(t:Nat)(x y:Operand):PO×List PX:=match(c.ty t).k with
 | .sl _=>(.eqNil,[c.x t x])
 | .b=>(.eqb (match op with|.neq=>true|_=>false),[c.x t x,c.x t y])
 | .st _=>(.eqa (match op with|.neq=>true|_=>false) (c.lf 9 t),[c.x t x,c.x t y])
 | .ar _ _=>(.eqa (match op with|.neq=>true|_=>false) (c.lf 9 t),[c.x t x,c.x t y])
 |_=>(.bin op,[c.x t x,c.x t y])
def TC.args(c:TC):List Operand->List Nat->List PX
 |x::xs,t::ts=>c.x t x::c.args xs ts
 |x::xs,[]=>c.x 0 x::c.args xs []
 |[],_=>[]
def TC.op(c:TC)(h ty:Nat):Op->PO×List PX
 | .move x=>bif zbY7 x then(bif Nat.beq h 0 then(.mv,[.c (A.sl [])])else(.nilown (c.ty (c.el ty)).n (c.z 0 (c.el ty)),[.c (A.full [])]))else(.mv,[c.x ty x])
 | .assign x=>bif zbY7 x then(bif Nat.beq h 0 then(.mv,[.c (A.sl [])])else(.nilown (c.ty (c.el ty)).n (c.z 0 (c.el ty)),[.c (A.full [])]))else(.mv,[c.x ty x])
 | .pick a x y=>(.pick,[c.x 0 a,c.x 0 x,c.x 0 y])
 | .box t x=>(.box (c.ty t).n,[c.x t x])
 | .alloc t=>(.alloc (c.ty t).n (c.z h t),[])
 | .build t ps=>(.build (c.z h t) (ps.toList.map λ p=>match(c.ty t).k with
   | .st fs=>((fs.getD p.1 (0,0)).1,(c.ty (fs.getD p.1 (0,0)).2).n)
   |_=>(p.1*(c.ty (c.el t)).n,(c.ty (c.el t)).n)),ps.toList.map λ p=>match(c.ty t).k with
   | .st fs=>c.x (fs.getD p.1 (0,0)).2 p.2
   |_=>c.x (c.el t) p.2)
 | .buildSlice t _ ps=>(bif Nat.beq h 0 then .bslice (c.ty (c.el t)).n (c.z 0 (c.el t))else .bown (c.ty (c.el t)).n (c.z 0 (c.el t)),ps.toList.map λ p=>c.x (c.el t) p.2)
 | .load t x=>(.load (c.ty t).n (c.ag t),[c.x 0 x])
 | .store t x y=>(.store (c.ty t).n,[c.x 0 x,bif zbY7 y then .c (A.sl [])else c.x t y])
 | .binOp op t x y _=>c.bo op t x y
 | .unOp .neg _ x=>(.neg,[c.x 0 x])
 | .unOp _ _ x=>(.not,[c.x 0 x])
 | .convert t u x=>(match(c.ty t).k,(c.ty u).k with
  | .sl _,.s=>.cvS
  | .s,.sl _=>.cvB
  |_,.i k=>.conv k
  |_,_=>.mv,[c.x 0 x])
 | .field t x i=>(match(c.ty t).k with
  | .st fs=>.field (fs.getD i (0,0)).1 (c.ty (fs.getD i (0,0)).2).n (c.ag (fs.getD i (0,0)).2)
  |_=>.mv,[c.x 0 x])
 | .fieldAddr t x i=>(match(c.ty t).k with
  | .st fs=>.faddr (fs.getD i (0,0)).1
  |_=>.mv,[c.x 0 x])
 | .indexAddr t x i=>(match(c.ty t).k with
  | .ar n e=>.iaA n (c.ty e).n
  |_=>.iaS (c.ty (c.el t)).n (c.z 0 (c.el t)),[c.x 0 x,c.x 0 i])
 | .index t x i=>(match(c.ty t).k with
  | .ar n e=>.idxA n (c.ty e).n (c.ag e)
  |_=>.idxS,[c.x t x,c.x 0 i])
 | .slice t x l u m=>(match(c.ty t).k with
  | .s=>.slcS l.isSome u.isSome
  |_=>.slc (c.ty (c.el t)).n l.isSome u.isSome m.isSome,c.x 0 x::(l.toList++u.toList++m.toList).map (c.x 0))
 | .extract x i=>(.ext i,[c.x 0 x])
 | .nilCheck x=>(.nilck,[c.x 0 x])
 | .range t x=>(.rng,[c.x 0 x])
 | .next x _=>(.next (c.md h),[c.x 0 x])
 | .entry x=>(.entry (c.md h),[c.x 0 x])
 | .makeMap t _=>(.mkmap [c.kz t,.bool (c.ag (c.me t))],[])
 | .lookup t x i ok=>(.lkp ok (c.ag (c.me t)) (c.kz t) (c.z 0 (c.me t)),[c.x 0 x,c.x (c.mt t) i])
 | .insert t x i y=>(.mupd (c.kz t) (c.ag (c.me t)) (c.ty (c.me t)).n,[c.x 0 x,c.x (c.mt t) i,c.x (c.me t) y])
 | .mapUpdate t x i y=>(.mupd (c.kz t) (c.ag (c.me t)) (c.ty (c.me t)).n,[c.x 0 x,c.x (c.mt t) i,c.x (c.me t) y])
 | .makeSlice t x y=>(.mk (c.ty (c.el t)).n (c.ty (c.el t)).y (c.z 0 (c.el t)),[c.x 0 x,c.x 0 y])
 | .makeInterface t x=>(.mki t,[c.x t x])
 | .typeAssert x _ t _=>(.tas t,[c.x 0 x])
 | .makeFunc (.func f) bs xs=>(match bs.toList with|[]=>(.mkf f,xs.toList.map (c.x 0))|b::_=>(.mkb f,[c.x 0 b]))
 | .call ⟨.builtin b,xs,ts⟩=>(match b,ts.toList with
  | .len,[t]=>(match(c.ty t).k with|.s=>.lenS|.mp _ _=>.lenM|_=>.len)
  | .append,t::_=>(match h with
   |0=>.append (c.ty (c.el t)).n (c.ty (c.el t)).y (c.z 0 (c.el t))
   |1=>.appc (c.ty (c.el t)).n (c.ty (c.el t)).y
   |_=>.apl (c.ty (c.el t)).n (c.ty (c.el t)).y)
  | .copy,t::_=>.copy (c.ty (c.el t)).n
  | .clear,t::_=>.clear (c.ty (c.el t)).n (c.z 0 (c.el t))
  | .min,_=>.min
  | .max,_=>.max
  |_,_=>.mv,xs.toList.map (c.x 0))
 | .call ⟨.value (.func f),xs,ts⟩=>(match lk c.m f none,h with
  |none,0=>.call f
  |none,_=>.callm f
  |some _,0=>.callm f
  |some _,_=>.call f,c.args xs.toList ts.toList)
 | .call ⟨.invoke x nm,xs,ts⟩=>(.inv (Nat.div h 200000) nm (Nat.mod (Nat.div h 2) 100000) (Nat.beq (Nat.mod h 2) 1),c.x 0 x::c.args xs.toList ts.toList)
 | .call ⟨.value x,xs,_⟩=>(match h with|0=>.callv|2=>.callb|_=>.callvm,c.x 0 x::xs.toList.map (c.x 0))
 |_=>(.mv,[])
def opTs:List Operand->List Nat
 |[]=>[]
 | .tmp n::r=>n::opTs r
 |_::r=>opTs r
def gTs(ops:List Oper):Option (Nat×Bool)->List Nat
 |none=>[]
 |some q=>match(ops[q.1]?).bind (·.dst)with
  |some d=>[d]
  |none=>[]
def zbH0(ops:List Oper):List Oper->List Nat
 |[]=>[]
 |o::r=>opTs o.op.operands.toList++gTs ops o.guard++zbH0 ops r
def bits:List Nat->Nat
 |[]=>0
 |t::r=>Nat.lor (Nat.shiftLeft 1 t) (bits r)
def zbY8(m:Nat)(a:Nat×Nat):Nat×Nat:=match a with
 |(s,u)=>(Nat.lor s m,Nat.lor u (Nat.land s m))
def zbc3:Code->Nat×Nat->Nat×Nat
 | .region _ ops _,a=>zbY8 (bits (zbH0 ops.toList ops.toList)) a
 | .seq x y,a=>zbc3 y (zbc3 x a)
 | .cond x y z,a=>zbc3 z (zbc3 y (zbY8 (bits (opTs [x])) a))
 | .block _ x,a=>zbc3 x a
 | .loop x,a=>zbc3 x a
 | .scope x,a=>zbc3 x a
 | .rangeFunc g _ _ _,a=>zbY8 (bits (opTs [g])) a
 |_,a=>a
def resU:List ResultVar->List Nat
 |[]=>[]
 | .tmp t::r=>t::resU r
 | .cell t _::r=>t::resU r
def zbk3(f:Func):Nat×Nat:=match f.body with
 |some b=>zbc3 b (0,bits (resU f.results.toList))
 |none=>(0,0)
def has(m t:Nat):Bool:=Nat.beq (Nat.land (Nat.shiftRight m t) 1) 1
def zaN1(s u m:Nat):List Oper->List Nat
 |[]=>[]
 |o::r=>match o.dst with
  |none=>zaN1 s u m r
  |some t=>bif has u t then zaN1 s u m r else bif has m t then t::zaN1 s u m r else bif has s t then zaN1 s u m r else t::zaN1 s u m r
def zbH1(s u:Nat)(ops:List Oper):List Nat:=zaN1 s u (bits (zbH0 ops ops)) ops
def PO.wr:PO->Bool
 | .nilown _ _|.box _|.alloc _ _|.bown _ _|.store _|.append _ _ _|.appc _ _|.copy _| .clear _ _|.mkmap _|.mupd _ _ _|.rng|.next _|.entry _|.mk _ _ _|.callm _|.callvm|.inv _ _ _ _=>true
 |_=>false
def zcn0:List Oper->Bool
 |[]=>false
 |o::r=>match o.op with
  | .panic _=>true
  |_=>zcn0 r
def gOf(ops:List Oper):Option (Nat×Bool)->Option (Nat×Bool)
 |none=>none
 |some q=>some (((ops[q.1]?).bind (·.dst)).getD 0,q.2)
def TC.ops(c:TC)(hs:List (Nat×Nat))(all:List Oper):List Oper->List POp
 |[]=>[]
 |o::r=>(match c.op (match o.dst with|some d=>lk hs d 0|none=>0) o.type o.op with
  |(p,xs)=>⟨o.dst,gOf all o.guard,p,xs⟩)::c.ops hs all r
def wrs:List POp->Bool
 |[]=>false
 |p::r=>bif p.po.wr then true else wrs r
def TC.code(c:TC)(hs:List (Nat×Nat))(s u:Nat):Code->PC
 | .skip=>.skip
 | .region id ops d=>bif zcn0 ops.toList||Nat.beq (lk hs (2000+id) 0) 1 then .dead else
   match d with
   |false=>.reg (zbH1 s u ops.toList) (c.ops hs ops.toList ops.toList)
   |true=>bif wrs (c.ops hs ops.toList ops.toList)||(Nat.beq (lk hs (1000+id) 0) 1)then .regm (zbH1 s u ops.toList) (ancs [] (ops.toList.map zB1)) (c.ops hs ops.toList ops.toList)else .regd (zbH1 s u ops.toList) (c.ops hs ops.toList ops.toList)
 | .seq a b=>match c.code hs s u a with
  | .dead=>.dead
  |x=>.seq x (c.code hs s u b)
 | .cond x a b=>.cond (c.x 0 x) (c.code hs s u a) (c.code hs s u b)
 | .block i a=>.block i (c.code hs s u a)
 | .loop a=>.loop (c.code hs s u a)
 | .exit i=>.exit i
 | .scope a=>.scope (c.code hs s u a)
 | .label _=>.label
 | .rangeFunc g _ _ _=>.rf (c.x 0 g)
 | .ret=>.ret
 |_=>.skip
def TC.rx(c:TC):List ResultVar->List RX
 |[]=>[]
 | .tmp t::r=>.t t::c.rx r
 | .cell t y::r=>.c t (c.ty y).n (c.ag y)::c.rx r
def TC.tr(c:TC)(hs:List (Nat×Nat))(s u:Nat)(f:Func):PC×Nat×List RX×Nat:=
 (match f.body with
  |some b=>c.code hs s u b
  |none=>.skip,f.ntmps,c.rx f.results.toList,Nat.add f.params.size f.nfree)
def cst(z:Nat->Nat->List A)(t:Nat):Value->A
 | .bool b=>.bool b
 | .int k n=>.int k n
 | .string s=>.str s
 | .slice _ _ _=>.full []
 | .agg _=>.agg (z 0 t)
 | .nilFunc=>.clo zF2 []
 |_=>.any
def kon(z:Nat->Nat->List A){o:Operand}(t:Nat):PX:=match o with
 | .const v=>.c (cst z t v)
 |_=>.c .any
attribute [go_sem] kon cst
def zbk4:Arr Int 64:=⟨[0,1,56,2,57,49,28,3,61,58,42,50,38,29,17,4,62,47,59,36,45,43,51,22,53,39,33,30,24,18,12,5,63,55,48,27,60,41,37,16,46,35,44,21,52,32,23,11,54,26,40,15,34,20,31,10,25,14,19,9,13,8,7,6],rfl⟩
def zbk5:Arr (Arr Bool 5) 5:=⟨[⟨[true,true,true,true,false],rfl⟩,⟨[true,true,false,false,false],rfl⟩,⟨[true,false,true,false,false],rfl⟩,⟨[true,false,false,false,false],rfl⟩,⟨[false,false,false,false,false],rfl⟩],rfl⟩
noncomputable def C:Cx:=⟨Tryz.prog,[(0,Arr.enc (eI .u8) zbk4),(2,Arr.enc (Arr.enc eB) zbk5)]⟩
@[go_sem] theorem C_G:C.G=[(0,Arr.enc (eI .u8) zbk4),(2,Arr.enc (Arr.enc eB) zbk5)]:=rfl
theorem zv9:C.P.follows .mixedOrders=true:=by kernel_rfl
def cT:List (Nat×TI):=[(0,⟨.o,1,0⟩),(1,⟨.o,1,8⟩),(3,⟨.i .i64,1,8⟩),(4,⟨.b,1,1⟩),(5,⟨.i .u8,1,1⟩),(9,⟨.s,1,16⟩),(20,⟨.o,1,16⟩),(22,⟨.sl 3,1,24⟩),(24,⟨.sl 108,1,24⟩),(25,⟨.sl 115,1,24⟩),(27,⟨.st [(0,3),(1,24),(2,25)],3,56⟩),(28,⟨.o,1,0⟩),(30,⟨.sl 78,1,24⟩),(32,⟨.sl 45,1,24⟩),(34,⟨.st [(0,3),(1,3),(2,3)],3,24⟩),(36,⟨.st [(0,3),(1,3)],2,16⟩),(38,⟨.st [(0,9),(1,36)],3,32⟩),(39,⟨.sl 41,1,24⟩),(41,⟨.st [(0,3),(1,38),(4,39)],5,64⟩),(43,⟨.st [(0,41),(5,3),(6,3)],7,80⟩),(45,⟨.st [(0,3),(1,34),(4,43),(11,9),(12,3)],13,136⟩),(51,⟨.st [(0,22),(1,3)],2,32⟩),(52,⟨.i .i64,1,8⟩),(53,⟨.o,1,0⟩),(55,⟨.sl 117,1,24⟩),(57,⟨.st [(0,24),(1,55)],2,48⟩),(59,⟨.sl 100,1,24⟩),(61,⟨.sl 34,1,24⟩),(65,⟨.o,1,0⟩),(68,⟨.sl 152,1,24⟩),(69,⟨.sl 210,1,24⟩),(71,⟨.st [(0,30),(1,68),(2,69)],3,72⟩),(72,⟨.o,1,0⟩),(75,⟨.o,1,0⟩),(78,⟨.st [(0,9),(1,3),(2,3),(3,3)],4,40⟩),(79,⟨.sl 337,1,24⟩),(80,⟨.o,1,0⟩),(84,⟨.o,1,0⟩),(86,⟨.o,1,8⟩),(88,⟨.o,1,8⟩),(89,⟨.i .u64,1,8⟩),(91,⟨.st [(0,3),(1,89)],2,16⟩),(93,⟨.sl 91,1,24⟩),(98,⟨.sl 38,1,24⟩),(100,⟨.st [(0,34),(3,3),(4,3),(5,98)],6,64⟩),(105,⟨.sl 188,1,24⟩),(106,⟨.sl 191,1,24⟩),(108,⟨.st [(0,78),(4,105),(5,106),(6,106),(7,3)],8,120⟩),(109,⟨.o,1,8⟩),(110,⟨.sl 254,1,24⟩),(111,⟨.sl 202,1,24⟩),(113,⟨.st [(0,110),(1,111)],2,48⟩),(115,⟨.st [(0,34),(3,3),(4,113),(6,4),(7,43),(14,3),(15,3)],16,184⟩),(117,⟨.st [(0,34),(3,41),(8,3)],9,96⟩),(119,⟨.o,1,0⟩),(122,⟨.sl 5,1,24⟩),(126,⟨.o,1,8⟩),(130,⟨.sl 439,1,24⟩),(132,⟨.st [(0,24),(1,130)],2,48⟩),(133,⟨.sl 212,1,24⟩),(135,⟨.st [(0,3),(1,132),(3,133),(4,3),(5,3)],6,96⟩),(136,⟨.sl 156,1,24⟩),(138,⟨.st [(0,3),(1,3),(2,3),(3,3),(4,136)],5,56⟩),(139,⟨.sl 4,1,24⟩),(141,⟨.st [(0,4),(1,4),(2,4),(3,3),(4,3)],5,24⟩),(143,⟨.st [(0,3),(1,4),(2,4),(3,139),(4,141)],9,64⟩),(144,⟨.sl 441,1,24⟩),(146,⟨.st [(0,57),(2,61),(3,144)],4,96⟩),(148,⟨.st [(0,3),(1,3),(2,139),(3,57),(5,59),(6,55),(7,146),(11,61)],12,256⟩),(150,⟨.st [(0,143),(9,148),(21,3),(22,3)],23,336⟩),(152,⟨.st [(0,3),(1,3),(2,4),(3,135),(9,138),(14,150)],37,512⟩),(153,⟨.o,1,0⟩),(156,⟨.st [(0,115),(16,139),(17,3)],18,216⟩),(157,⟨.o,1,0⟩),(159,⟨.o,1,0⟩),(161,⟨.o,1,8⟩),(164,⟨.st [(0,27),(3,79)],4,80⟩),(167,⟨.mp 3 4,1,8⟩),(168,⟨.o,1,0⟩),(170,⟨.o,1,0⟩),(173,⟨.o,1,16⟩),(179,⟨.i .u64,1,8⟩),(188,⟨.st [(0,34),(3,36)],5,40⟩),(191,⟨.st [(0,34),(3,36),(5,3),(6,3)],7,56⟩),(197,⟨.ar 2 22,2,48⟩),(198,⟨.o,1,8⟩),(199,⟨.o,1,8⟩),(202,⟨.st [(0,3),(1,3)],2,16⟩),(208,⟨.ar 3 3,3,24⟩),(210,⟨.sl 122,1,24⟩),(212,⟨.st [(0,3),(1,210),(2,3)],3,40⟩),(214,⟨.ar 3 52,3,24⟩),(215,⟨.o,1,0⟩),(217,⟨.o,1,0⟩),(219,⟨.o,1,0⟩),(222,⟨.o,1,0⟩),(226,⟨.o,1,8⟩),(228,⟨.o,1,8⟩),(229,⟨.o,1,0⟩),(233,⟨.o,1,8⟩),(242,⟨.ar 64 5,64,64⟩),(250,⟨.o,1,8⟩),(252,⟨.mp 9 36,1,8⟩),(254,⟨.st [(0,9),(1,36),(3,36)],5,48⟩),(257,⟨.o,1,8⟩),(258,⟨.o,1,0⟩),(260,⟨.sl 9,1,24⟩),(267,⟨.o,1,8⟩),(269,⟨.o,1,0⟩),(273,⟨.o,1,0⟩),(285,⟨.o,1,0⟩),(290,⟨.o,1,0⟩),(297,⟨.o,1,8⟩),(303,⟨.o,1,8⟩),(315,⟨.o,1,0⟩),(319,⟨.o,1,8⟩),(323,⟨.o,1,8⟩),(325,⟨.o,1,0⟩),(327,⟨.o,1,0⟩),(337,⟨.st [(0,3),(1,34),(4,9),(5,36)],7,64⟩),(340,⟨.o,1,0⟩),(348,⟨.o,1,0⟩),(356,⟨.ar 6 4,6,6⟩),(360,⟨.i .i64,1,8⟩),(361,⟨.o,1,0⟩),(366,⟨.o,1,0⟩),(369,⟨.i .u32,1,4⟩),(371,⟨.sl 1,1,24⟩),(378,⟨.o,1,0⟩),(391,⟨.st [(0,98),(1,139)],2,48⟩),(400,⟨.sl 36,1,24⟩),(408,⟨.i .i64,1,8⟩),(414,⟨.sl 106,1,24⟩),(421,⟨.ar 5 4,5,5⟩),(422,⟨.ar 5 421,25,25⟩),(439,⟨.st [(0,34),(3,9),(4,3)],5,48⟩),(441,⟨.st [(0,34),(3,9),(4,3),(5,61)],6,72⟩)]
@[irreducible] def cZ0:Nat->List A
 |3=>[A.int .i64 0]
 |4=>[A.bool false]
 |5=>[A.int .u8 0]
 |9=>[A.str ⟨#[]⟩]
 |22=>[A.sl []]
 |24=>[A.sl []]
 |25=>[A.sl []]
 |27=>aM.enc aM.zero
 |30=>[A.sl []]
 |32=>[A.sl []]
 |34=>aF.enc aF.zero
 |36=>aJ.enc aJ.zero
 |38=>aO.enc aO.zero
 |39=>[A.sl []]
 |41=>aP.enc aP.zero
 |43=>bL.enc bL.zero
 |45=>aX.enc aX.zero
 |51=>cA.enc cA.zero
 |52=>[A.int .i64 0]
 |55=>[A.sl []]
 |57=>aA.enc aA.zero
 |59=>[A.sl []]
 |61=>[A.sl []]
 |68=>[A.sl []]
 |69=>[A.sl []]
 |71=>bN.enc bN.zero
 |78=>aG.enc aG.zero
 |79=>[A.sl []]
 |89=>[A.int .u64 0]
 |91=>aD.enc aD.zero
 |93=>[A.sl []]
 |98=>[A.sl []]
 |100=>aI.enc aI.zero
 |105=>[A.sl []]
 |106=>[A.sl []]
 |108=>aC.enc aC.zero
 |110=>[A.sl []]
 |111=>[A.sl []]
 |113=>bG.enc bG.zero
 |115=>aH.enc aH.zero
 |117=>bK.enc bK.zero
 |122=>[A.sl []]
 |130=>[A.sl []]
 |132=>bP.enc bP.zero
 |133=>[A.sl []]
 |135=>aS.enc aS.zero
 |136=>[A.sl []]
 |138=>bC.enc bC.zero
 |139=>[A.sl []]
 |141=>aL.enc aL.zero
 |143=>bD.enc bD.zero
 |144=>[A.sl []]
 |146=>aU.enc aU.zero
 |148=>aT.enc aT.zero
 |150=>aN.enc aN.zero
 |152=>bE.enc bE.zero
 |156=>Job.enc Job.zero
 |164=>bM.enc bM.zero
 |167=>[A.clo zF2 []]
 |179=>[A.int .u64 0]
 |188=>bF.enc bF.zero
 |191=>aW.enc aW.zero
 |197=>[A.sl [],A.sl []]
 |202=>bY.enc bY.zero
 |208=>Arr.enc (eI .i64) (Arr.rep 3 0)
 |210=>[A.sl []]
 |212=>cD.enc cD.zero
 |214=>Arr.enc (eI .i64) (Arr.rep 3 0)
 |242=>Arr.enc (eI .u8) (Arr.rep 64 0)
 |252=>[A.clo zF2 []]
 |254=>bX.enc bX.zero
 |260=>[A.sl []]
 |337=>bI.enc bI.zero
 |356=>Arr.enc eB (Arr.rep 6 false)
 |360=>[A.int .i64 0]
 |369=>[A.int .u32 0]
 |371=>[A.sl []]
 |391=>bZ.enc bZ.zero
 |400=>[A.sl []]
 |408=>[A.int .i64 0]
 |414=>[A.sl []]
 |421=>Arr.enc eB (Arr.rep 5 false)
 |439=>Tag.enc Tag.zero
 |441=>cE.enc cE.zero
 |_=>[A.any]
attribute [go_sem] cZ0
@[irreducible] def cZ:Nat->Nat->List A
 |0,t=>cZ0 t
 |2,113=>[.sl [],.sl []]
 |3,98=>[.full []]
 |3,113=>[.full [],.sl []]
 |4,71=>[.sl [],.full [],.sl []]
 |5,57=>[.full [],.full []]
 |8,27=>[.int .i64 0,.full [],.full []]
 |14,164=>[.int .i64 0,.sl [],.full [],.full []]
 |34,100=>[.int .i64 0,.int .i64 0,.int .i64 0,.int .i64 0,.int .i64 0,.full []]
 |66,152=>[.int .i64 0,.int .i64 0,.bool false,.int .i64 0,.sl [],.sl [],.full [],.int .i64 0,.int .i64 0,.int .i64 0,.int .i64 0,.int .i64 0,.int .i64 0,.sl [],.int .i64 0,.bool false,.bool false,.sl [],.bool false,.bool false,.bool false,.int .i64 0,.int .i64 0,.int .i64 0,.int .i64 0,.sl [],.sl [],.sl [],.sl [],.sl [],.sl [],.sl [],.sl [],.sl [],.sl [],.int .i64 0,.int .i64 0]
 |_,_=>[A.any]
attribute [go_sem] cZ
def cM:List (Nat×Option Unit):=[(26,some ()),(28,some ()),(33,some ()),(50,some ()),(51,some ()),(56,some ()),(60,some ()),(72,some ()),(85,some ()),(88,some ()),(91,some ()),(95,some ()),(97,some ()),(117,some ()),(126,some ()),(127,some ()),(131,some ()),(140,some ()),(142,some ()),(143,some ()),(145,some ()),(148,some ()),(151,some ()),(160,some ()),(161,some ()),(164,some ()),(169,some ()),(170,some ()),(180,some ()),(184,some ()),(185,some ()),(186,some ()),(191,some ()),(193,some ()),(196,some ()),(204,some ()),(207,some ()),(212,some ()),(214,some ()),(219,some ()),(238,some ()),(252,some ()),(262,some ()),(284,some ()),(301,some ()),(311,some ())]
class OkP {α:Type} (m:Option α) (f:outParam FuncId) (av:outParam (List A)) (R:outParam (α->A)):Prop where
  ok:∀r,m=some r->PFn C f av (R r)
class OkM {α:Type} (m:Option α) (f:outParam FuncId) (av:outParam (List A)) (ms:outParam (List (Nat×Row))) (k:outParam Nat) (R:outParam (α->A)) (ms':outParam (α->List (Nat×Row))) (k':outParam Nat):Prop where
  ok:∀r,m=some r->MFn C f av ms k (R r) (ms' r) k'
class OkT (f:FuncId) (av:List A) (r:outParam A):Prop where
  ok:PFn C f av r
theorem zaE7{T:Type}{P:T->Prop}{fr:Nat->T}(h0:P (fr 0))(hs:∀n,P (fr n)->P (fr (n+1))):∀n,P (fr n)
  |0=>h0
  |n+1=>hs n (zaE7 h0 hs n)
def Mk{α:Type}(x:α):Prop:=True
theorem mkP{α β:Type}{x:α}(hm:Mk x)(v:β):Mk (x,v):=trivial
class JS {α:Type} (x:α) (id:Nat) {γ:outParam Type} {V:outParam Type} (k k':outParam (V->γ)) (J:outParam (V->St)):Prop where
  e:∀v,k v=k' v
class LS {α G X:Type} (x:α) (b:G->Option (G⊕X)) (b':outParam (G->Option (G⊕X))) (I:outParam (G->St)):Prop where
  e:∀v,b v=b' v
theorem mkJ{α:Type}(x:α)(id:Nat){γ V:Type}{k k':V->γ}(e:∀v,k v=k' v)(J:V->St):JS x id k k' J:=⟨e⟩
theorem mkL{α G X:Type}(x:α){b b':G->Option (G⊕X)}(e:∀v,b v=b' v)(I:G->St):LS x b b' I:=⟨e⟩
def prA:A->A->List (Nat×Nat)
  | .ptr x _ _,.ptr y _ _=>[(y,x)]
  | .own x _ _,.own y _ _=>[(y,x)]
  |_,_=>[]
def prC:List A->List A->List (Nat×Nat)
  |a::r,b::s=>prA a b++prC r s
  |_,_=>[]
def prE:List (List A)->List (List A)->List (Nat×Nat)
  |a::r,b::s=>prC a b++prE r s
  |_,_=>[]
def prS(s:List (Nat×A)):List (Nat×A)->List (Nat×Nat)
  |[]=>[]
  |q::r=>(match look s q.1 with|some b=>prA b q.2|none=>[])++prS s r
def prM(m:List (Nat×Row))(l:List (Nat×Nat)):List (Nat×Row)->List (Nat×Nat)
  |[]=>[]
  |q::r=>(match look l q.1 with|some x=>(match look m x with|some w=>prE w.es q.2.es|none=>[])|none=>[])++prM m l r
def ptS(s:List (Nat×A)):List (Nat×A)->List (Nat×Nat)
  |[]=>[]
  |q::r=>(match q.2,look s q.1 with|.ptr y _ _,some (.ptr x _ _)=>[(y,x)]|_,_=>[])++ptS s r
def idL:Nat->List (Nat×Nat)
  |0=>[]
  |n+1=>idL n++[(n,n)]
def rl(k:Nat)(b:Bool)(s J:St):List (Nat×Nat):=idL k++prS s.fr J.fr++if b then prM s.mem (idL k++ptS s.fr J.fr) J.mem else[]
def ptC:List A->List A->List (Nat×Nat)
  | .ptr x _ _::r,.ptr y _ _::s=>(y,x)::ptC r s
  |_::r,_::s=>ptC r s
  |_,_=>[]
def cl(b:Bool)(vals av:List A)(m ms:List (Nat×Row)):List (Nat×Nat):=prC vals av++if b then prM m (ptC vals av) ms else[]
theorem lv{p:Prop}(w:p:=by
  (simp only[go_sem,↓reduceIte,reduceCtorEq,Nat.reduceEqDiff,Nat.reduceAdd,Nat.reduceSub,Nat.reduceMul,Nat.reduceLeDiff,Nat.reduceLT,Int.reduceLE,Int.reduceLT,Int.reduceToNat,Int.reduceNeg]
   first
   |(done)
   |trivial
   |(simp;done)
   |((repeat'(first|rfl|trivial|omega|(simp;done)|(simp;omega)|(congr 1;omega)|(congr 1;simp only[cX,dR,eG,fG];omega)|apply And.intro))<;>fail))):p:=w
section
variable {E:Env} {Q:Exit→St→Prop} {st:St} {q:Prop}
theorem isAW{c:PC}(h:AW C E c Q st):AW C E c Q st:=h
theorem zbY9{f:FuncId}{d:Option Nat}{g:Option (Nat×Bool)}{gv:Bool}{ob:Prop}{args:List A}{rw:List (Nat×MS)}{ps:List POp}{st:St}{K:St->Prop}(h:zaO9 C f d g gv ob args rw ps st K):zaO9 C f d g gv ob args rw ps st K:=h
theorem zbL6{f:FuncId}{d:Option Nat}{g:Option (Nat×Bool)}{gv:Bool}{ob:Prop}{args:List A}{rw:List (Nat×MS)}{ps:List POp}{st:St}{K:St->Prop}(h:zay5 C f d g gv ob args rw ps st K):zay5 C f d g gv ob args rw ps st K:=h
theorem zQ7{α γ V:Type}{x:α}{id:Nat}{k k':V->γ}{J:V->St}{R:γ}{c:PC}{m:γ}(hm:Mk x)(h:m=R)[i:JS x id k k' J]
    (hk:∀v,Mk (k v)->k' v=R->Q .normal (J v)) (hb:AW C E c (BlkJ E id J (λ v=>k v=R) Q) st):AW C E (.block id c) Q st:=
  zs5 J _ (λ v e=>hk v trivial (by rw[<-i.e];exact e)) hb
theorem zch0{α γ V:Type}{z:α}{k k':V->γ}{J:V->St}{x:PX}{p q:PC}{b c:Bool}{X Y r:γ}(hm:Mk z)(hx:xv C.G st.slot x=.bool b)(hG:E.G=C.G)(h:(if c=true then X else Y)=r)[i:JS z 999 k k' J]
    (hk:∀v,Mk (k v)->k' v=r->Q .normal (J v)) (ht:b=true->X=r->AW C E p (zaP1 E J (λ v=>k v=r) Q) st) (hf:b=false->Y=r->AW C E q (zaP1 E J (λ v=>k v=r) Q) st) (e:b=c:=by first|rfl|(simp;done)|grind):AW C E (.cond x p q) Q st:=
  zaE6 J _ hx hG h (λ v e=>hk v trivial (by rw[<-i.e];exact e)) ht hf e
theorem zbZ0{α:Type}{x:α}{c:PC}{G X β:Type}{body body':G->Option (G⊕X)}{I:G->St}{g0:G}{kk:X->Option β}{r:β}{k:Nat}{l:List (Nat×Nat)}(hm:Mk x)(hK:E.k0=k)(h:(zg8 body g0).bind kk=some r)[i:LS x body body' I]
    (hb:∀g y,Mk (body g)->(∀x',y=.inr x'->Mk x/\kk x'=some r)->body' g=some y->AW C E c (zbk1 E I y Q) (I g))
    (b:Bool) (hl:rl k b st (I g0)=l:=by((conv=>lhs;reduce)<;>exact rfl))
    (hle:Le l st (I g0)/\zai0 k l (I g0).nx=true:=by exact lv):AW C E (.loop c) Q st:=by
  obtain⟨x,hx,hk⟩:=zd2 h;refine zbu0 I hK _ hx hle λ g y hy hz=>hb g y trivial (λ x' e=>⟨hm,?_⟩) (by rw[<-i.e];exact hy);rw[hz x' e];exact hk
theorem zbu5{α:Type}{x:α}{c:PC}{G X β:Type}{body body':G->Option (G⊕X)}{I:G->St}{g0:G}{kk:X->Option β}{r:β}{k:Nat}(hm:Mk x)(hK:E.k0=k)(l:List (Nat×Nat))(h:(zg8 body g0).bind kk=some r)[i:LS x body body' I]
    (hb:∀g y,Mk (body g)->(∀x',y=.inr x'->Mk x/\kk x'=some r)->body' g=some y->AW C E c (zbk1 E I y Q) (I g))
    (hle:Le l st (I g0)/\zai0 k l (I g0).nx=true:=by exact lv):AW C E (.loop c) Q st:=by
  obtain⟨x,hx,hk⟩:=zd2 h;refine zbu0 I hK l hx hle λ g y hy hz=>hb g y trivial (λ x' e=>⟨hm,?_⟩) (by rw[<-i.e];exact hy);rw[hz x' e];exact hk
theorem zbZ1{V γ:Type}{J:V->St}{k:V->γ}{R:γ}{s:St}{n:Nat}{v:V}{l:List (Nat×Nat)}(hK:E.k0=n)(h:k v=R)
    (b:Bool) (hl:rl n b s (J v)=l:=by((conv=>lhs;reduce)<;>exact rfl))
    (hle:Le l s (J v)/\zai0 n l (J v).nx=true:=by exact lv):zaV5 E J (λ v=>k v=R) s:=zbA8 hK v h _ hle
theorem zbZ2{G X:Type}{I:G->St}{g':G}{y:G⊕X}{s:St}{k:Nat}{l:List (Nat×Nat)}(hK:E.k0=k)(h:some (.inl g')=some y)
    (b:Bool) (hl:rl k b s (I g')=l:=by((conv=>lhs;reduce)<;>exact rfl))
    (hle:Le l s (I g')/\zai0 k l (I g').nx=true:=by exact lv):zbA9 E I y s:=by
  cases h;exact zbB0 hK _ hle
theorem zcR2{G X β:Type}{M:Prop}{y:G⊕X}{x:X}{kk:X->Option β}{R:Option β}(kx:∀x',y=.inr x'->M/\kk x'=R)(h:some (.inr x)=some y):M/\kk x=R:=kx x (dP h).symm
theorem zbu6{α:Type}{x r:α}{k:Nat}{st:St}{rs:List RX}{rv:List A}{ms':List (Nat×Row)}{k':Nat}{l:List (Nat×Nat)}(b:Bool)(h:some x=some r)
    (hl:rl k b ⟨zz9 0 (resL st rs),st.mem,st.nx⟩ ⟨zz9 0 rv,ms',k'⟩=l:=by((conv=>lhs;reduce)<;>exact rfl))
    (e:x=r->zbb2 st rs/\zbi3 rv=true/\Le l ⟨zz9 0 (resL st rs),st.mem,st.nx⟩ ⟨zz9 0 rv,ms',k'⟩/\zai0 k l k'=true:=by(intro e;subst e;exact lv)):zaD9 k st rs rv ms' k':=by
  obtain⟨h1,h2,h3,h4⟩:=e (dP h);exact⟨h1,h2,l,h3,h4⟩
theorem zbZ3{k:Nat}{st:St}{rs:List RX}{rv:List A}{ms':List (Nat×Row)}{k':Nat}(h:zaD9 k st rs rv ms' k'):zaD9 k st rs rv ms' k':=h
theorem zbL7{an:List (List Nat)}{f:FuncId}{d:Option Nat}{g:Option (Nat×Bool)}{gv:Bool}{ob:Prop}{args:List A}{rw:List (Nat×MS)}{ids:List Nat}{cok:Bool}{ps:List POp}{st:St}{log:List (List Nat×List Nat)}{K:St->Prop}(h:zay6 C an f d g gv ob args rw ids cok ps st log K):zay6 C an f d g gv ob args rw ids cok ps st log K:=h
theorem zbL8{f:FuncId}{d:Option Nat}{g:Option (Nat×Bool)}{gv:Bool}{ob:Prop}{vals:List A}{ps:List POp}{st:St}{K:St->Prop}(h:zU0 C f d g gv ob vals ps st K):zU0 C f d g gv ob vals ps st K:=h
theorem zbB6{an:List (List Nat)}{f:FuncId}{d:Option Nat}{g:Option (Nat×Bool)}{gv:Bool}{ob:Prop}{vals:List A}{vi:List Nat}{cok:Bool}{ps:List POp}{st:St}{log:List (List Nat×List Nat)}{K:St->Prop}(h:zap9 C an f d g gv ob vals vi cok ps st log K):zap9 C an f d g gv ob vals vi cok ps st log K:=h
theorem zY9{f:FuncId}{d:Option Nat}{ob:Prop}{vals:List A}{ps:List POp}{st:St}{K:St->Prop}{l nl:List (Nat×Nat)}{ids:List Nat}{av:List A}{ms ms':List (Nat×Row)}{k k':Nat}{r:A}(b:Bool)
    (hf:MFn C f av ms k r ms' k') (h:q) (hl:cl b vals av st.mem ms=l:=by((conv=>lhs;reduce)<;>exact rfl)) (hnl:newL k st.nx (k'-k)=nl:=by((conv=>lhs;reduce)<;>exact rfl)) (hids:ms.map (·.1)++(List.range (k'-k)).map (k+·)=ids:=by((conv=>lhs;reduce)<;>exact rfl))
    (e:Imp q (arun C ps (st.app d (renR (l++nl) r) (zG1 st.m (fzM vals av)++zQ6 (l++nl) ms' ids)) K):=by exact im)
    (hok:okM st.m st.nx l vals av ms k k':=by exact lv) (ho:ob:=by trivial) (hr:zaG2 r=true:=by rfl):zU0 C f d none true ob vals ps st K:=
  zs2 l nl ids hf hnl hids h e hok ho hr
theorem zW0{an:List (List Nat)}{f:FuncId}{d:Option Nat}{ob:Prop}{vals:List A}{vi:List Nat}{cok:Bool}{ps:List POp}{st:St}{log:List (List Nat×List Nat)}{K:St->Prop}{l nl:List (Nat×Nat)}{ids:List Nat}{av:List A}{ms ms':List (Nat×Row)}{k k':Nat}{r:A}(b:Bool)
    (hf:MFn C f av ms k r ms' k') (h:q) (hl:cl b vals av st.mem ms=l:=by((conv=>lhs;reduce)<;>exact rfl)) (hnl:newL k st.nx (k'-k)=nl:=by((conv=>lhs;reduce)<;>exact rfl)) (hids:ms.map (·.1)++(List.range (k'-k)).map (k+·)=ids:=by((conv=>lhs;reduce)<;>exact rfl))
    (e:Imp q (zaG0 (an.getD log.length []) 0 log vi ((zG1 st.m (fzM vals av)++zQ6 (l++nl) ms' ids).map (·.1))=true/\cok=true/\zaf0 C an ps (st.app d (renR (l++nl) r) (zG1 st.m (fzM vals av)++zQ6 (l++nl) ms' ids)) (log++[(vi,(zG1 st.m (fzM vals av)++zQ6 (l++nl) ms' ids).map (·.1))]) K):=by exact im)
    (hok:okM st.m st.nx l vals av ms k k':=by exact lv) (ho:ob:=by trivial) (hr:zaG2 r=true:=by rfl):zap9 C an f d none true ob vals vi cok ps st log K:=
  zar4 l nl ids hf hnl hids h e hok ho hr
theorem gogo{p:Prop}(w:p:=by
      (skip
       repeat' first
        | (with_reducible refine isAW ?_
           first
           |(with_reducible obtain⟨_,h⟩:=ze5 h)
           | (with_reducible obtain⟨hm,h⟩:=zcR2 kx h
              clear kx
              try dsimp only at h)
           |refine za2 ?_
           |refine zh0 ?_
           |refine zv7 ?_
           |refine zo3 ?_
           |refine za3 hG ?_
           |refine zaj5 zv9 hG ?_
           |refine zP1 zv9 hG ?_
           | (refine zch0 hm rfl hG h (λ v hm h=>?_) (λ _ h=>?_) (λ _ h=>?_)
              focus (try refine g_st ?_))
           |(refine zh3 rfl hG h (λ _ h=>?_) (λ _ h=>?_))
           |refine zU6 rfl hG ?_
           |refine zaf1 rfl hG ?_
           | (refine zQ7 hm h (λ v hm h=>?_) ?_
              focus (try refine g_st ?_))
           |refine zr6 ?_
           |(refine zbZ0 hm hK h (λ g y hm kx h=>?_) false;try refine g_st ?_)
           |(refine zbZ0 hm hK h (λ g y hm kx h=>?_) true;try refine g_st ?_))
        | (with_reducible refine zbY9 ?_
           first
           |(refine zn1 (λ _=>OkT.ok) ?_)
           | (obtain⟨v,hv,h⟩:=zd2 h;have hm:=mkP hm v
              repeat(with_reducible obtain⟨_,h⟩:=ze5 h)
              first
              |refine zn1 (λ _=>OkP.ok _ hv) ?_
              |refine zn1 (λ hg=>OkP.ok _ (zar3 hg hv)) ?_
              |refine zn1 (λ _=>PFn.unfull (OkP.ok _ hv)) ?_
              |refine zn1 (λ _=>hrc _ _ hv) ?_
              |refine zn1 (λ _=>hrc _ _ _ hv) ?_
              |refine zn1 (λ _=>hrc _ _ _ _ hv) ?_
              |refine zn1 (λ _=>hrc _ _ _ _ _ hv) ?_))
        | (with_reducible refine zbL6 ?_
           first
           |(refine zD0 (λ _=>OkT.ok) ?_)
           | (obtain⟨v,hv,h⟩:=zd2 h;have hm:=mkP hm v
              repeat(with_reducible obtain⟨_,h⟩:=ze5 h)
              first
              |refine zD0 (λ _=>OkP.ok _ hv) ?_
              |refine zD0 (λ hg=>OkP.ok _ (zar3 hg hv)) ?_
              |refine zD0 (λ _=>PFn.unfull (OkP.ok _ hv)) ?_
              |refine zD0 (λ _=>hrc _ _ hv) ?_
              |refine zD0 (λ _=>hrc _ _ _ hv) ?_
              |refine zD0 (λ _=>hrc _ _ _ _ hv) ?_
              |refine zD0 (λ _=>hrc _ _ _ _ _ hv) ?_))
        | (with_reducible refine zbL7 ?_
           first
           |(refine zx8 (λ _=>OkT.ok) ?_)
           | (obtain⟨v,hv,h⟩:=zd2 h;have hm:=mkP hm v
              repeat(with_reducible obtain⟨_,h⟩:=ze5 h)
              first
              |refine zx8 (λ _=>OkP.ok _ hv) ?_
              |refine zx8 (λ hg=>OkP.ok _ (zar3 hg hv)) ?_
              |refine zx8 (λ _=>hrc _ _ hv) ?_
              |refine zx8 (λ _=>hrc _ _ _ hv) ?_
              |refine zx8 (λ _=>hrc _ _ _ _ hv) ?_
              |refine zx8 (λ _=>hrc _ _ _ _ _ hv) ?_))
        | (with_reducible refine zbL8 ?_
           obtain⟨v,hv,h⟩:=zd2 h;have hm:=mkP hm v
           repeat(with_reducible obtain⟨_,h⟩:=ze5 h)
           first
           |refine zY9 false (OkM.ok _ hv) ?_
           |refine zY9 true (OkM.ok _ hv) ?_
           |refine zY9 false (MFn.unfull1 (OkM.ok _ hv)) ?_
           |refine zY9 false (hrc _ _ hv) ?_
           |refine zY9 true (hrc _ _ hv) ?_
           |refine zY9 false (hrc _ _ _ hv) ?_
           |refine zY9 true (hrc _ _ _ hv) ?_
           |refine zY9 false (hrc _ _ _ _ hv) ?_
           |refine zY9 true (hrc _ _ _ _ hv) ?_
           |refine zY9 false (hrc _ _ _ _ _ hv) ?_
           |refine zY9 true (hrc _ _ _ _ _ hv) ?_
           | (rcases v with v|v
              all_goals dsimp only at h
              all_goals first
              |refine zY9 false (OkL.ok _ hv) ?_
              |refine zY9 false (OkR.ok _ hv) ?_))
        | (with_reducible refine zbB6 ?_
           obtain⟨v,hv,h⟩:=zd2 h;have hm:=mkP hm v
           repeat(with_reducible obtain⟨_,h⟩:=ze5 h)
           first
           |refine zW0 false (OkM.ok _ hv) ?_
           |refine zW0 true (OkM.ok _ hv) ?_
           |refine zW0 false (MFn.unfull1 (OkM.ok _ hv)) ?_
           |refine zW0 false (hrc _ _ hv) ?_
           |refine zW0 true (hrc _ _ hv) ?_
           |refine zW0 false (hrc _ _ _ hv) ?_
           |refine zW0 true (hrc _ _ _ hv) ?_
           |refine zW0 false (hrc _ _ _ _ hv) ?_
           |refine zW0 true (hrc _ _ _ _ hv) ?_
           |refine zW0 false (hrc _ _ _ _ _ hv) ?_
           |refine zW0 true (hrc _ _ _ _ _ hv) ?_)
        | (with_reducible refine zbZ3 ?_
           first
           |exact zbu6 false h
           |exact zbu6 true h
           |exact zbu6 false (inl_inj h)
           |exact zbu6 false (inr_inj h)
           |(cases h;done))
        |exact zbZ2 hK h false
        |exact zbZ1 hK h false
        |exact zbZ2 hK h true
        |exact zbZ1 hK h true
        | (fail_if_success (with_reducible refine isAW ?_)
           fail_if_success (with_reducible refine zbY9 ?_)
           fail_if_success (with_reducible refine zbL6 ?_)
           fail_if_success (with_reducible refine zbL7 ?_)
           fail_if_success (with_reducible refine zbL8 ?_)
           fail_if_success (with_reducible refine zbB6 ?_)
           fail_if_success (with_reducible refine zbZ3 ?_)
           fail_if_success (with_reducible refine isJoin ?_)
           fail_if_success (with_reducible refine isNext ?_)
           first
           |exact zt5 h
           |exact zaZ1 h))):p:=w
theorem zx6(F:Func)(hs:List (Nat×Nat)){f:FuncId}{av:List A}{r:A}{pc:(Nat->Nat->List A)->({o:Operand}->Nat->PX)->PC}{N np:Nat}{rs:List RX}
    (h:∀E:Env,E.G=C.G->E.N=N->E.k0=0->AW C E (pc cZ (@kon cZ)) (Post rs r) ⟨zz9 0 av,[],0⟩)
    {us ut:Nat} (hu:zbk3 F=(us,ut):=by((conv=>lhs;reduce)<;>exact rfl)) (hp:∀(Z:Nat->Nat->List A) (K:{o:Operand}->Nat->PX),TC.tr ⟨cT,cM,Z,@K⟩ hs us ut F=(pc Z @K,N,rs,np):=by(intro Z K;((conv=>lhs;reduce)<;>exact rfl))) (hchk:chkF C.P f (pc cZ (@kon cZ)) N rs np=true:=by kernel_rfl) (hnp:av.length=np:=by rfl):PFn C f av r:=zaY4 hchk hnp h
theorem zK4(F:Func)(hs:List (Nat×Nat)){f:FuncId}{av:List A}{ms ms':List (Nat×Row)}{k k':Nat}(rl:List A){pc:(Nat->Nat->List A)->({o:Operand}->Nat->PX)->PC}{N np:Nat}{rs:List RX}
    (h:∀E:Env,E.G=C.G->E.N=N->E.k0=k->AW C E (pc cZ (@kon cZ)) (zbb3 k rs rl ms' k') ⟨zz9 0 av,ms,k⟩)
    {us ut:Nat} (hu:zbk3 F=(us,ut):=by((conv=>lhs;reduce)<;>exact rfl)) (hp:∀(Z:Nat->Nat->List A) (K:{o:Operand}->Nat->PX),TC.tr ⟨cT,cM,Z,@K⟩ hs us ut F=(pc Z @K,N,rs,np):=by(intro Z K;((conv=>lhs;reduce)<;>exact rfl))) (hchk:chkF C.P f (pc cZ (@kon cZ)) N rs np=true:=by kernel_rfl)
    (hnp:av.length=np:=by rfl) (hms:zaU8 ms=true:=by rfl) (hall:zaJ2 ms k=true:=by rfl) (hrl:rl.length=rs.length:=by rfl):MFn C f av ms k (zaU6 rl) ms' k':=zbq2 hchk hnp hms hall hrl h
theorem zcr5(F:Func)(hs:List (Nat×Nat)){f:FuncId}{av:List A}{r:A}{pc:(Nat->Nat->List A)->({o:Operand}->Nat->PX)->PC}{N np:Nat}{rs:List RX}
    (h:∀E:Env,E.G=C.G->E.N=N->E.k0=0->E.df=true->AW C E (pc cZ (@kon cZ)) (Post rs r) ⟨zz9 0 av,[],0⟩)
    {us ut:Nat} (hu:zbk3 F=(us,ut):=by((conv=>lhs;reduce)<;>exact rfl)) (hp:∀(Z:Nat->Nat->List A) (K:{o:Operand}->Nat->PX),TC.tr ⟨cT,cM,Z,@K⟩ hs us ut F=(pc Z @K,N,rs,np):=by(intro Z K;((conv=>lhs;reduce)<;>exact rfl))) (hchk:chkF C.P f (pc cZ (@kon cZ)) N rs np=true:=by kernel_rfl) (hnp:av.length=np:=by rfl):PFn C f av r:=zbG2 hchk hnp h
theorem zcR3(F:Func)(hs:List (Nat×Nat)){f:FuncId}{av:List A}{ms ms':List (Nat×Row)}{k k':Nat}(rl:List A){pc:(Nat->Nat->List A)->({o:Operand}->Nat->PX)->PC}{N np:Nat}{rs:List RX}
    (h:∀E:Env,E.G=C.G->E.N=N->E.k0=k->AW C E (pc cZ (@kon cZ)) (zbb3 k rs rl ms' k') ⟨zz9 1 av,ms,k⟩)
    {us ut:Nat} (hu:zbk3 F=(us,ut):=by((conv=>lhs;reduce)<;>exact rfl)) (hp:∀(Z:Nat->Nat->List A) (K:{o:Operand}->Nat->PX),TC.tr ⟨cT,cM,Z,@K⟩ hs us ut F=(pc Z @K,N,rs,np):=by(intro Z K;((conv=>lhs;reduce)<;>exact rfl))) (hchk:chkF C.P f (pc cZ (@kon cZ)) N rs np=true:=by kernel_rfl)
    (hnp:1+av.length=np:=by rfl) (hms:zaU8 ms=true:=by rfl) (hall:zaJ2 ms k=true:=by rfl) (hrl:rl.length=rs.length:=by rfl):YFn C f av ms k (zaU6 rl) ms' k':=zbP5 hchk hnp hms hall hrl h
theorem ok1{α:Type}{m m':Option α}(u:m=m')(F:Func)(hs:List (Nat×Nat)){f:FuncId}{av:List A}{R:α->A}{pc:(Nat->Nat->List A)->({o:Operand}->Nat->PX)->PC}{N np:Nat}{rs:List RX}{us ut:Nat}(hu:zbk3 F=(us,ut):=by((conv=>lhs;reduce)<;>exact rfl))(hp:∀(Z:Nat->Nat->List A) (K:{o:Operand}->Nat->PX),TC.tr ⟨cT,cM,Z,@K⟩ hs us ut F=(pc Z @K,N,rs,np):=by(intro Z K;((conv=>lhs;reduce)<;>exact rfl)))(hchk:chkF C.P f (pc cZ (@kon cZ)) N rs np=true:=by kernel_rfl)
    (w:∀E:Env,∀r,E.G=C.G->E.k0=0->Mk m->m'=some r->AW C E (pc cZ (@kon cZ)) (Post rs (R r)) ⟨zz9 0 av,[],0⟩:=by
      (intro E r hG hK hm h;exact gogo)) (hnp:av.length=np:=by rfl):OkP m f av R:=
  ⟨λ r h=>zaY4 hchk hnp λ E hG _ hK=>w E r hG hK trivial (u▸h)⟩
theorem ok2{α:Type}(R:α->A){m m':α}(u:m=m')(F:Func)(hs:List (Nat×Nat)){f:FuncId}{av:List A}{pc:(Nat->Nat->List A)->({o:Operand}->Nat->PX)->PC}{N np:Nat}{rs:List RX}{us ut:Nat}(hu:zbk3 F=(us,ut):=by((conv=>lhs;reduce)<;>exact rfl))(hp:∀(Z:Nat->Nat->List A) (K:{o:Operand}->Nat->PX),TC.tr ⟨cT,cM,Z,@K⟩ hs us ut F=(pc Z @K,N,rs,np):=by(intro Z K;((conv=>lhs;reduce)<;>exact rfl)))(hchk:chkF C.P f (pc cZ (@kon cZ)) N rs np=true:=by kernel_rfl)
    (w:∀E:Env,∀r,E.G=C.G->E.k0=0->Mk m->m'=r->AW C E (pc cZ (@kon cZ)) (Post rs (R r)) ⟨zz9 0 av,[],0⟩:=by
      (intro E r hG hK hm h;exact gogo)) (hnp:av.length=np:=by rfl):OkT f av (R m):=
  ⟨zaY4 hchk hnp λ E hG _ hK=>w E m hG hK trivial u.symm⟩
theorem okm{α:Type}{m m':Option α}(u:m=m'){f:FuncId}{av:List A}{ms:List (Nat×Row)}{k k':Nat}(rv:α->List A){ms':α->List (Nat×Row)}(F:Func)(hs:List (Nat×Nat)){pc:(Nat->Nat->List A)->({o:Operand}->Nat->PX)->PC}{N np:Nat}{rs:List RX}{us ut:Nat}(hu:zbk3 F=(us,ut):=by((conv=>lhs;reduce)<;>exact rfl))(hp:∀(Z:Nat->Nat->List A) (K:{o:Operand}->Nat->PX),TC.tr ⟨cT,cM,Z,@K⟩ hs us ut F=(pc Z @K,N,rs,np):=by(intro Z K;((conv=>lhs;reduce)<;>exact rfl)))(hchk:chkF C.P f (pc cZ (@kon cZ)) N rs np=true:=by kernel_rfl)
    (w:∀E:Env,∀r,E.G=C.G->E.k0=k->Mk m->m'=some r->AW C E (pc cZ (@kon cZ)) (zbb3 k rs (rv r) (ms' r) k') ⟨zz9 0 av,ms,k⟩:=by
      (intro E r hG hK hm h;exact gogo))
    (hnp:av.length=np:=by rfl) (hms:zaU8 ms=true:=by rfl) (hall:zaJ2 ms k=true:=by rfl) (hrl:∀r,(rv r).length=rs.length:=by(intro r;rfl)):OkM m f av ms k (λ r=>zaU6 (rv r)) ms' k':=
  ⟨λ r h=>zbq2 (rl:=rv r) hchk hnp hms hall (hrl r) λ E hG _ hK=>w E r hG hK trivial (u▸h)⟩
end
end Ab
end Go.Proofs.YtamndckemppjdaaGreatDoor
