import Derived.Test.YtenebhlnfjcffaaGreatDoorTabB
namespace Go.Proofs.YtenebhlnfjcffaaGreatDoor
namespace Ab
set_option linter.unusedVariables false
set_option linter.unusedSimpArgs false
mutual
def zu6:aO->Int
 |⟨_,_,ks⟩=>1+zw4 ks
def zw4:List aO->Int
 |[]=>0
 |k::l=>max (zu6 k) (zw4 l)
end
mutual
def zr9:aO->Int
 |⟨_,_,ks⟩=>1+zA3 ks
def zA3:List aO->Int
 |[]=>0
 |k::l=>zr9 k+zA3 l
end
def zaN3(a:aC):Bool:=zn0 a
mutual
def okE:aO->Bool
 |⟨k,a,ks⟩=>if ks.length=0 then decide (k=0)&&zE5 a.name&&zaN3 a.aM else decide (1<=k)&&decide (k<=(ks.length:Int))&&decide (a=aJ.zero)&&okL ks
def okL:List aO->Bool
 |[]=>true
 |k::l=>okE k&&okL l
end
mutual
def zS1:aO->List aJ
 |⟨_,a,ks⟩=>if ks.length=0 then[a]else zJ4 ks
def zJ4:List aO->List aJ
 |[]=>[]
 |k::l=>zS1 k++zJ4 l
end
theorem zbH7(e:aO):zu6 e=1+zw4 e.bE:=by cases e;rw[zu6]
theorem zX9(e:aO):zr9 e=1+zA3 e.bE:=by cases e;rw[zr9]
theorem zcs7(e:aO):okE e=if e.bE.length=0 then decide (e.k=0)&&zE5 e.bG.name&&zaN3 e.bG.aM else decide (1<=e.k)&&decide (e.k<=(e.bE.length:Int))&&decide (e.bG=aJ.zero)&&okL e.bE:=by cases e;rw[okE]
theorem zaq1(e:aO):zS1 e=if e.bE.length=0 then[e.bG]else zJ4 e.bE:=by cases e;rw[zS1]
theorem zca7:zw4 []=0:=by rw[zw4]
theorem zaX2(k:aO)(l:List aO):zw4 (k::l)=max (zu6 k) (zw4 l):=by rw[zw4]
theorem zca8:zA3 []=0:=by rw[zA3]
theorem zai9(k:aO)(l:List aO):zA3 (k::l)=zr9 k+zA3 l:=by rw[zA3]
theorem zaq2{e k:aO}{n:Nat}(h:_root_.SizeOf.sizeOf e<n+1)(hk:k∈e.bE):_root_.SizeOf.sizeOf k<n:=by have h2:=List.sizeOf_lt_of_mem hk;cases e;simp at h h2;omega
theorem zbR3:∀(n:Nat) (e:aO),_root_.SizeOf.sizeOf e<n->1<=zu6 e/\1<=zr9 e/\zu6 e<=zr9 e/\((zS1 e).length:Int)<=zr9 e
 |0,_,h=>by omega
 |n+1,e,h=>by
  have key:∀l:List aO,(∀k∈l,k∈e.bE)->0<=zw4 l/\0<=zA3 l/\zw4 l<=zA3 l/\(l.length:Int)<=zA3 l/\((zJ4 l).length:Int)<=zA3 l:=by
   intro l;induction l with
   |nil=>intro _;simp[zw4,zA3,zJ4]
   |cons k l ih=>intro hl;obtain⟨h1,h2,h3,h4,h5⟩:=ih λ x hx=>hl x (.tail _ hx);obtain⟨g1,g2,g3,g4⟩:=zbR3 n k (zaq2 h (hl k (.head _)));simp only[zw4,zA3,zJ4,cD,List.length_cons];refine⟨?_,?_,?_,?_,?_⟩<;>omega
  obtain⟨h1,h2,h3,h4,h5⟩:=key e.bE λ _ h=>h;rw[zbH7,zX9,zaq1];refine⟨by omega,by omega,by omega,?_⟩;split
  .simp;omega
  .omega
theorem zay3(e:aO):1<=zu6 e:=(zbR3 _ e (eV _)).1
theorem zU9(e:aO):1<=zr9 e:=(zbR3 _ e (eV _)).2.1
theorem zby5(e:aO):((zS1 e).length:Int)<=zr9 e:=(zbR3 _ e (eV _)).2.2.2
theorem zaT6:∀l:List aO,0<=zw4 l
 |[]=>by simp[zw4]
 |k::l=>by have:=zaT6 l;have:=zay3 k;rw[zaX2];omega
theorem zK3:∀l:List aO,(l.length:Int)<=zA3 l
 |[]=>by simp[zA3]
 |k::l=>by have:=zK3 l;have:=zU9 k;simp only[zA3,List.length_cons];omega
theorem zbD0{a:Int}(h1:1<=a)(h4:a<=4)(F:aO->Int->Option (Int×Int)):∀(l:List aO),(∀k∈l,∀c,0<=c->c<=24->∃c',F k c=some (if a+1+zu6 k<=5/\c+zr9 k<=24 then(zu6 k,c+zr9 k)else(0,c')))->
  ∀(i:Nat) (m c:Int),0<=m->0<=c->c<=24->∃c',walk (λ _ k (s:Int×Int)=>(F k s.2).bind λ v=>if v.1=0 then some (.inr (Sum.inr (0,v.2)))else some (.inl (if s.1<v.1 then v.1 else s.1,v.2))) (λ s=>Sum.inl (β:=Int×Int) s) l i (m,c)=
   some (if a+1+zw4 l<=5/\c+zA3 l<=24 then .inl (if m<zw4 l then zw4 l else m,c+zA3 l)else .inr (0,c'))
 |[],_,i,m,c,hm,hc,h24=>⟨0,by rw[zca7,zca8,bX (by omega)];simp only[walk];rw[bV (by omega),Int.add_zero]⟩
 |k::l,hF,i,m,c,hm,hc,h24=>by
  obtain⟨c1,e1⟩:=hF k (.head _) c hc h24;have p1:=zay3 k;have p2:=zU9 k;have p3:=zaT6 l;have p4:=zK3 l
  by_cases hk:a+1+zu6 k<=5/\c+zr9 k<=24
  .rw[bX hk]at e1;obtain⟨c2,e2⟩:=zbD0 h1 h4 F l (λ x hx=>hF x (.tail _ hx)) (i+1) (if m<zu6 k then zu6 k else m) (c+zr9 k) (by split<;>omega) (by omega) hk.2;refine⟨c2,?_⟩;rw[zaX2,zai9];simp only[walk,e1,Option.bind_some,bV (show¬zu6 k=0 by omega),e2]
   by_cases hl:a+1+zw4 l<=5/\c+zr9 k+zA3 l<=24
   .rw[bX hl,bX (show a+1+max (zu6 k) (zw4 l)<=5/\c+(zr9 k+zA3 l)<=24 by omega),show c+(zr9 k+zA3 l)=c+zr9 k+zA3 l by omega];refine dG some (dG Sum.inl (Prod.ext ?_ rfl));show(if(if m<zu6 k then zu6 k else m)<zw4 l then zw4 l else if m<zu6 k then zu6 k else m)=if m<max (zu6 k) (zw4 l)then max (zu6 k) (zw4 l)else m
    by_cases q1:m<zu6 k<;>by_cases q2:m<zw4 l<;>by_cases q3:zu6 k<zw4 l<;>simp only[q1,q2,q3,cC,cB]<;>(repeat' split)<;>omega
   .rw[bV hl,bV (by omega)]
  .rw[bV hk]at e1;refine⟨c1,?_⟩;rw[zaX2,zai9];simp only[walk,e1,Option.bind_some,cC];rw[bV (by omega)]
theorem zca9:∀(n:Nat) (e:aO),_root_.SizeOf.sizeOf e<n->∀a c,1<=a->a<=5->0<=c->c<=24->∃c',zz8 n e a c=some (if a+zu6 e<=5/\c+zr9 e<=24 then(zu6 e,c+zr9 e)else(0,c'))
 |0,_,h,_,_,_,_,_,_=>by omega
 |n+1,e,h,a,c,h1,h5,h0,h24=>by
  show∃c',zH2 (zz8 n) e a c=_;unfold zH2;have p1:=zay3 e;have p2:=zU9 e;have w1:IntKind.i64.wrap (c+1)=c+1:=zj1 (by omega) (by omega);have w2:IntKind.i64.wrap (a+1)=a+1:=zj1 (by omega) (by omega);rw[w1]
  by_cases c4:4<a\/24<c+1
  .rw[bX (by simpa using c4)];exact⟨c+1,by rw[bV (by omega)]⟩
  .rw[bV (by simpa using c4)];have hF:∀k∈e.bE,∀c,0<=c->c<=24->∃c',zz8 n k (a+1) c=some (if a+1+zu6 k<=5/\c+zr9 k<=24 then(zu6 k,c+zr9 k)else(0,c')):=
    λ k hk c h0 h24=>zca9 n k (zaq2 h hk) (a+1) c (by omega) (by omega) h0 h24
   have key:=zE7 (body:=zM5 (zz8 n) e a) e.bE aO.zero (λ i (s:Int×Int)=>(s.1,(i:Int),s.2))
    (λ _ k (s:Int×Int)=>(zz8 n k (a+1) s.2).bind λ v=>if v.1=0 then some (.inr (Sum.inr (0,v.2)))else some (.inl (if s.1<v.1 then v.1 else s.1,v.2))) (λ s=>Sum.inl (β:=Int×Int) s)
    (λ i s=>(i:Int)<s.2/\s.2<=24) (λ i s hi hs=>by
     have hk:=zd5 (z:=aO.zero) hi;obtain⟨c',e'⟩:=hF _ hk s.2 (by omega) hs.2;have p2:=zU9 (e.bE.getD i aO.zero);have p3:=zay3 (e.bE.getD i aO.zero);refine⟨?_,λ s' hs'=>?_⟩
     .unfold zM5;simp only;rw[bX (by simpa using hi),gdp (by omega),w2];simp only[Int.toNat_natCast,e',Option.bind_some,bY,zc4 i (show i<4611686018427387904 by omega)]
      by_cases cc:a+1+zu6 (e.bE.getD i aO.zero)<=5/\s.2+zr9 (e.bE.getD i aO.zero)<=24
      .simp only[cc,cS,cC,bV (show¬zu6 (e.bE.getD i aO.zero)=0 by omega)];rfl
      .simp only[cc,cB,cC];rfl
     .rw[e',Option.bind_some]at hs'
      by_cases cc:a+1+zu6 (e.bE.getD i aO.zero)<=5/\s.2+zr9 (e.bE.getD i aO.zero)<=24
      .simp only[cc,cS,cC,bV (show¬zu6 (e.bE.getD i aO.zero)=0 by omega),dE,fN]at hs';subst hs';simp only;omega
      .simp only[cc,cB,cC,dE,reduceCtorEq]at hs')
    (λ s hs=>by unfold zM5;simp) (0,c+1) (by simp only;omega)
   rw[show((0,0,c+1):Int×Int×Int)=(λ(i:Nat) (s:Int×Int)=>(s.1,(i:Int),s.2)) 0 (0,c+1)from rfl,key];obtain⟨c',e'⟩:=zbD0 h1 (by omega) (λ k c=>zz8 n k (a+1) c) e.bE hF 0 0 (c+1) (by decide) (by omega) (by omega);refine⟨c',?_⟩;rw[e',Option.bind_some,zbH7 e,zX9 e];have p3:=zaT6 e.bE
   by_cases hh:a+1+zw4 e.bE<=5/\c+1+zA3 e.bE<=24
   .rw[bX hh,bX (show a+(1+zw4 e.bE)<=5/\c+(1+zA3 e.bE)<=24 by omega)];have:(if 0<zw4 e.bE then zw4 e.bE else 0)=zw4 e.bE:=by split<;>omega
    rw[this];show some (IntKind.i64.wrap (zw4 e.bE+1),c+1+zA3 e.bE)=_;rw[zj1 (by omega) (by omega),show zw4 e.bE+1=1+zw4 e.bE by omega,show c+1+zA3 e.bE=c+(1+zA3 e.bE)by omega]
   .rw[bV hh,bV (by omega)]
def fitE(e:aO):Bool:=decide (zu6 e<=4)&&decide (zr9 e<=24)
theorem zdu5(e:aO):zk7 e=some (if fitE e=true then zu6 e else 0):=by
 unfold zk7 ze8;obtain⟨c',h⟩:=zca9 _ e (eV _) 1 0 (by decide) (by decide) (by decide) (by decide);rw[h,Option.bind_some];unfold fitE
 by_cases c:1+zu6 e<=5/\0+zr9 e<=24
 .rw[bX c,bX (by simp;omega)]
 .rw[bV c,bV (by simp;omega)]
theorem zcl9{a:Int}(h1:1<=a)(h4:a<=4)(F:aO->Option (Int×Int)):∀(l:List aO),(∀k∈l,F k=some (if a+1+zu6 k<=5/\zr9 k<=24 then(zr9 k,zu6 k)else(25,0)))->
  ∀(i:Nat) (c m:Int),0<=m->1<=c->c<=24->walk (λ _ k (s:Int×Int)=>(F k).bind λ v=>if 24<s.1+v.1 then some (.inr (Sum.inr (25,0)))else some (.inl (s.1+v.1,if s.2<v.2 then v.2 else s.2))) (λ s=>Sum.inl (β:=Int×Int) s) l i (c,m)=
   some (if a+1+zw4 l<=5/\c+zA3 l<=24 then .inl (c+zA3 l,if m<zw4 l then zw4 l else m)else .inr (25,0))
 |[],_,i,c,m,hm,hc,h24=>by rw[zca7,zca8,bX (by omega)];simp only[walk];rw[bV (by omega),Int.add_zero]
 |k::l,hF,i,c,m,hm,hc,h24=>by
  have e1:=hF k (.head _);have p1:=zay3 k;have p2:=zU9 k;have p3:=zaT6 l;have p4:=zK3 l;rw[zaX2,zai9]
  by_cases hk:a+1+zu6 k<=5/\c+zr9 k<=24
  .rw[bX (by omega)]at e1;have e2:=zcl9 h1 h4 F l (λ x hx=>hF x (.tail _ hx)) (i+1) (c+zr9 k) (if m<zu6 k then zu6 k else m) (by split<;>omega) (by omega) hk.2;simp only[walk,e1,Option.bind_some,bV (show¬24<c+zr9 k by omega),e2]
   by_cases hl:a+1+zw4 l<=5/\c+zr9 k+zA3 l<=24
   .rw[bX hl,bX (show a+1+max (zu6 k) (zw4 l)<=5/\c+(zr9 k+zA3 l)<=24 by omega),show c+(zr9 k+zA3 l)=c+zr9 k+zA3 l by omega];refine dG some (dG Sum.inl (Prod.ext rfl ?_));show(if(if m<zu6 k then zu6 k else m)<zw4 l then zw4 l else if m<zu6 k then zu6 k else m)=if m<max (zu6 k) (zw4 l)then max (zu6 k) (zw4 l)else m
    by_cases q1:m<zu6 k<;>by_cases q2:m<zw4 l<;>by_cases q3:zu6 k<zw4 l<;>simp only[q1,q2,q3,cC,cB]<;>(repeat' split)<;>omega
   .rw[bV hl,bV (by omega)]
  .rw[bV (by omega)];simp only[walk,e1,Option.bind_some]
   by_cases hh:a+1+zu6 k<=5/\zr9 k<=24
   .rw[bX hh,bX (by simp only;omega)]
   .rw[bV hh,bX (by simp only;omega)]
theorem zcW3:∀(n:Nat) (e:aO),_root_.SizeOf.sizeOf e<n->∀a,1<=a->a<=5->zR9 n e a=some (if a+zu6 e<=5/\zr9 e<=24 then(zr9 e,zu6 e)else(25,0))
 |0,_,h,_,_,_=>by omega
 |n+1,e,h,a,h1,h5=>by
  show zaf4 (zR9 n) e a=_;unfold zaf4;have p1:=zay3 e;have p4:=zK3 e.bE;have w2:IntKind.i64.wrap (a+1)=a+1:=zj1 (by omega) (by omega)
  by_cases c4:4<a\/24<(e.bE.length:Int)
  .rw[bX (by simpa using c4),bV (by rw[zX9];omega)]
  .rw[bV (by simpa using c4)];have hF:∀k∈e.bE,zR9 n k (a+1)=some (if a+1+zu6 k<=5/\zr9 k<=24 then(zr9 k,zu6 k)else(25,0)):=
    λ k hk=>zcW3 n k (zaq2 h hk) (a+1) (by omega) (by omega)
   have key:=zE7 (body:=zaa1 (zR9 n) e a) e.bE aO.zero (λ i (s:Int×Int)=>(s.1,s.2,(i:Int)))
    (λ _ k (s:Int×Int)=>(zR9 n k (a+1)).bind λ v=>if 24<s.1+v.1 then some (.inr (Sum.inr (25,0)))else some (.inl (s.1+v.1,if s.2<v.2 then v.2 else s.2))) (λ s=>Sum.inl (β:=Int×Int) s)
    (λ i s=>1<=s.1/\s.1<=24) (λ i s hi hs=>by
     have hk:=zd5 (z:=aO.zero) hi;have e':=hF _ hk;have p2:=zU9 (e.bE.getD i aO.zero);refine⟨?_,λ s' hs'=>?_⟩
     .unfold zaa1;simp only;rw[bX (by simpa using hi),gdp (by omega),w2];simp only[Int.toNat_natCast,e',Option.bind_some,bY];unfold zaw8
      by_cases cc:a+1+zu6 (e.bE.getD i aO.zero)<=5/\zr9 (e.bE.getD i aO.zero)<=24
      .rw[bX cc];simp only[zc4 i (show i<4611686018427387904 by omega),zj1 (x:=s.1+zr9 (e.bE.getD i aO.zero)) (by omega) (by omega),bY]
       repeat' split
       all_goals first|rfl|omega
      .rw[bV cc];simp only[zj1 (x:=s.1+25) (by omega) (by omega),bY,bX (show 24<s.1+25 by omega),kU];rfl
     .rw[e',Option.bind_some]at hs'
      by_cases cc:a+1+zu6 (e.bE.getD i aO.zero)<=5/\zr9 (e.bE.getD i aO.zero)<=24
      .simp only[cc,cS,cC]at hs';split at hs'
       .cases hs'
       .simp only[dE,fN]at hs';subst hs';simp only;omega
      .simp only[cc,cB,bX (show 24<s.1+25 by omega),dE,reduceCtorEq]at hs')
    (λ s hs=>by unfold zaa1;simp) (1,0) (by simp only;omega)
   rw[show((1,0,0):Int×Int×Int)=(λ(i:Nat) (s:Int×Int)=>(s.1,s.2,(i:Int))) 0 (1,0)from rfl,key];rw[zcl9 h1 (by omega) (λ k=>zR9 n k (a+1)) e.bE hF 0 1 0 (by omega) (by omega) (by omega),Option.bind_some,zbH7 e,zX9 e];have p3:=zaT6 e.bE
   by_cases hh:a+1+zw4 e.bE<=5/\1+zA3 e.bE<=24
   .rw[bX hh,bX (show a+(1+zw4 e.bE)<=5/\1+zA3 e.bE<=24 by omega)];have:(if 0<zw4 e.bE then zw4 e.bE else 0)=zw4 e.bE:=by split<;>omega
    rw[this];show some (1+zA3 e.bE,IntKind.i64.wrap (zw4 e.bE+1))=_;rw[zj1 (by omega) (by omega),show zw4 e.bE+1=1+zw4 e.bE by omega]
   .rw[bV hh,bV (by omega)]
theorem zcD9(e:aO):zo7 e=some (if fitE e=true then zr9 e else 0):=by
 unfold zo7 zo5;have p:=zU9 e;rw[zcW3 _ e (eV _) 1 (by decide) (by decide),Option.bind_some];unfold fitE
 by_cases c:1+zu6 e<=5/\zr9 e<=24
 .rw[bX c];simp only[show¬24<zr9 e by omega,show zu6 e<=4 by omega,c.2,cA,cJ,gF,bT,cC,cB]
 .rw[bV c];have:(decide (zu6 e<=4)&&decide (zr9 e<=24))=false:=by rw[dP];simp;omega
  rw[this];rfl
def zaT7(a:aJ):List aJ->Option Bool
 |[]=>none
 |x::l=>if a=x then some true else if(a.name.toList==x.name.toList)=true then some false else zaT7 a l
def zbD1(a:aJ)(l:List aJ):Int×List aJ:=
 match zaT7 a l with
 |some true=>(0,l)
 |some false=>(13,l)
 |none=>if l.length=8 then(4,l)else(0,l++[a])
def zcb0(a:aJ)(l:List aJ):Option (List aJ):=if(zbD1 a l).1=0 then some (zbD1 a l).2 else none
def zay4:List aJ->List aJ->Option (List aJ)
 |[],l=>some l
 |a::az,l=>(zcb0 a l).bind (zay4 az)
theorem zcb1:∀(x y l:List aJ),zay4 (x++y) l=(zay4 x l).bind (zay4 y)
 |[],y,l=>rfl
 |a::x,y,l=>by
  simp only[List.cons_append,zay4];cases zcb0 a l with
  |none=>rfl
  |some l'=>exact zcb1 x y l'
theorem zdu6{a:aJ}{l:List aJ}(h:l.length<=8):(zbD1 a l).2.length<=8:=by
 unfold zbD1;split
 .exact h
 .exact h
 .split
  .exact h
  .simp;omega
theorem zbH8:∀{x l r:List aJ},l.length<=8->zay4 x l=some r->r.length<=8
 |[],l,r,h,e=>by cases e;exact h
 |a::x,l,r,h,e=>by
  simp only[zay4]at e;unfold zcb0 at e;split at e
  .exact zbH8 (zdu6 h) e
  .cases e
theorem zdF3(a:aJ)(l:List aJ)(h:l.length<=8):zg1 a l=some (zbD1 a l):=by
 unfold zg1;have hw:∀(t:List aJ) (i:Nat),walk (λ _ x (_:Unit)=>if a=x then some (.inr (Sum.inr ((0:Int),l)))else if(a.name.toList==x.name.toList)=true then some (.inr (Sum.inr ((13:Int),l)))else some (.inl ())) (λ _=>Sum.inl (β:=Int×List aJ) ()) t i ()=
   some (match zaT7 a t with|some true=>.inr (0,l)|some false=>.inr (13,l)|none=>.inl ()):=by
  intro t;induction t with
  |nil=>intro i;rfl
  |cons x t ih=>
   intro i;simp only[walk,zaT7]
   by_cases c:a=x
   .simp only[c,cC]
   .by_cases c2:(a.name.toList==x.name.toList)=true
    .simp only[c,c2,cC,cB]
    .simp only[c,c2,cB];exact ih (i+1)
 have key:=zap3 (body:=zV3 a l) l aJ.zero (λ i (_:Unit)=>(i:Int))
  (λ _ x (_:Unit)=>if a=x then some (.inr (Sum.inr ((0:Int),l)))else if(a.name.toList==x.name.toList)=true then some (.inr (Sum.inr ((13:Int),l)))else some (.inl ())) (λ _=>Sum.inl (β:=Int×List aJ) ())
  (λ i s hi=>by
   unfold zV3;rw[bX (by simpa using hi),gdp (by omega),zc4 i (by omega)];simp only[Int.toNat_natCast,bY]
   repeat' split
   all_goals rfl)
  (λ s=>by unfold zV3;simp) ()
 rw[show(0:Int)=(λ(i:Nat) (_:Unit)=>(i:Int)) 0 ()from rfl,key,hw,Option.bind_some];unfold zbD1;cases zaT7 a l with
 |none=>
  simp only;unfold zau4
  by_cases c:l.length=8
  .rw[bX (by simp[c]),bX c]
  .rw[bV (by simp;omega),bV c,gdp (by omega)]
 |some b=>cases b<;>rfl
def zak9(e:aO)(l:List aJ):Option (List aJ):=if okE e=true then zay4 (zS1 e) l else none
def zbM3(ks:List aO)(l:List aJ):Option (List aJ):=if okL ks=true then zay4 (zJ4 ks) l else none
theorem zcN6(k:aO)(ks:List aO)(l:List aJ):zbM3 (k::ks) l=(zak9 k l).bind (zbM3 ks):=by
 unfold zbM3 zak9;simp only[okL,zJ4,zcb1];cases okE k
 .simp
 .simp only[cK,cC];cases zay4 (zS1 k) l with
  |none=>simp
  |some r=>simp only[Option.bind_some]
theorem zcs8(a:aJ):zj0 a=some (zE5 a.name&&zaN3 a.aM):=by unfold zj0;rw[zaN1,Option.bind_some];congr 2
theorem zbM4(F:aO->List aJ->Option (Bool×List aJ)):∀(ks:List aO),(∀k∈ks,∀l,l.length<=8->∃r,F k l=some (match zak9 k l with|some l'=>(true,l')|none=>(false,r)))->
  ∀(i:Nat) (l:List aJ),l.length<=8->∃r,walk (λ _ k (s:List aJ)=>(F k s).bind λ v=>if(!v.1)=true then some (.inr (Sum.inr (false,v.2)))else some (.inl v.2)) (λ s=>Sum.inl (β:=Bool×List aJ) s) ks i l=
   some (match zbM3 ks l with|some l'=>.inl l'|none=>.inr (false,r))
 |[],_,i,l,hl=>⟨[],by simp[walk,zbM3,okL,zJ4,zay4]⟩
 |k::ks,hF,i,l,hl=>by
  obtain⟨r,e⟩:=hF k (.head _) l hl;rw[zcN6];cases hp:zak9 k l with
  |none=>rw[hp]at e;refine⟨r,?_⟩;simp only[walk,e,Option.bind_some,Option.bind_none,dC,cC]
  |some l'=>
   rw[hp]at e;have hl':l'.length<=8:=by
    unfold zak9 at hp;split at hp
    .exact zbH8 hl hp
    .cases hp
   obtain⟨r2,e2⟩:=zbM4 F ks (λ x hx=>hF x (.tail _ hx)) (i+1) l' hl';refine⟨r2,?_⟩;simp only[walk,e,Option.bind_some,cO,bT,cB,e2]
theorem zdu7{e:aO}{l l':List aJ}(hl:l.length<=8)(hp:zak9 e l=some l'):l'.length<=8:=by
 unfold zak9 at hp;split at hp
 .exact zbH8 hl hp
 .cases hp
theorem zcE0:∀(n:Nat) (e:aO),_root_.SizeOf.sizeOf e<n->zr9 e<=24->∀l,l.length<=8->∃r,zy9 n e l=some (match zak9 e l with|some l'=>(true,l')|none=>(false,r))
 |0,_,h,_,_,_=>by omega
 |n+1,e,h,hn,l,hl=>by
  show∃r,zT0 (zy9 n) e l=_;unfold zT0;have p4:=zK3 e.bE;have hne:=zX9 e
  by_cases c:e.bE.length=0
  .rw[bX (by simpa using c),zcs8];have hp:zak9 e l=if e.k=0/\zE5 e.bG.name=true/\zaN3 e.bG.aM=true then zcb0 e.bG l else none:=by
    unfold zak9;rw[zcs7,zaq1,bX c,bX c];simp only[zay4,bU,bY,fW];split
    .cases zcb0 e.bG l<;>rfl
    .rfl
   rw[hp]
   by_cases c1:e.k=0
   .simp only[c1,cA,cC,Option.bind_some,cK,fK]
    by_cases c2:zE5 e.bG.name=true/\zaN3 e.bG.aM=true
    .simp only[c2.1,c2.2,gF,cS,cC,zdF3 e.bG l hl,Option.bind_some,cK];refine⟨(zbD1 e.bG l).2,?_⟩;unfold zcb0
     by_cases c3:(zbD1 e.bG l).1=0
     .simp only[c3,cA,cC]
     .simp only[c3,cJ,cB]
    .have:(zE5 e.bG.name&&zaN3 e.bG.aM)=false:=by rw[dP];simpa using c2
     simp only[this,c2,bT,cB,eN];exact⟨l,rfl⟩
   .simp only[c1,cJ,bT,cB,Option.bind_some,eN,jA];exact⟨l,rfl⟩
  .rw[bV (by simpa using c)];have hp:zak9 e l=if 1<=e.k/\e.k<=(e.bE.length:Int)/\e.bG=aJ.zero then zbM3 e.bE l else none:=by
    unfold zak9 zbM3;rw[zcs7,zaq1,bV c,bV c]
    by_cases q1:1<=e.k<;>by_cases q2:e.k<=(e.bE.length:Int)<;>by_cases q3:e.bG=aJ.zero<;>simp[q1,q2,q3]
   rw[hp]
   by_cases c1:1<=e.k/\e.k<=(e.bE.length:Int)/\e.bG=aJ.zero
   .rw[bX c1,bV (by simp[c1.2.2];omega)];have hF:∀k∈e.bE,∀l,l.length<=8->∃r,zy9 n k l=some (match zak9 k l with|some l'=>(true,l')|none=>(false,r)):=by
     intro k hk l hl;refine zcE0 n k (zaq2 h hk) ?_ l hl;have:∀(ks:List aO),k∈ks->zr9 k<=zA3 ks:=by
      intro ks;induction ks with
      |nil=>intro h;cases h
      |cons x ks ih=>
       intro h;rw[zai9];have p1:=zU9 x;have p2:=zK3 ks;rcases cF.1 h with rfl|h
       .omega
       .have:=ih h;omega
     have:=this e.bE hk;omega
    have key:=zE7 (body:=zO9 (zy9 n) e) e.bE aO.zero (λ i (s:List aJ)=>((i:Int),s))
     (λ _ k (s:List aJ)=>(zy9 n k s).bind λ v=>if(!v.1)=true then some (.inr (Sum.inr (false,v.2)))else some (.inl v.2)) (λ s=>Sum.inl (β:=Bool×List aJ) s)
     (λ i s=>s.length<=8) (λ i s hi hs=>by
      obtain⟨r,er⟩:=hF _ (zd5 (z:=aO.zero) hi) s hs;refine⟨?_,λ s' hs'=>?_⟩
      .unfold zO9;simp only;rw[bX (by simpa using hi),gdp (by omega)];simp only[Int.toNat_natCast,er,Option.bind_some,zc4 i (show i<4611686018427387904 by omega)];cases zak9 (e.bE.getD i aO.zero) s<;>rfl
      .rw[er,Option.bind_some]at hs';cases hq:zak9 (e.bE.getD i aO.zero) s with
       |none=>rw[hq]at hs';simp at hs'
       |some l'=>
        rw[hq]at hs';simp only[cO,bT,cB,dE,fN]at hs';subst hs';exact zdu7 hs hq)
     (λ s hs=>by unfold zO9;simp) l hl
    rw[show((0,l):Int×List aJ)=(λ(i:Nat) (s:List aJ)=>((i:Int),s)) 0 l from rfl,key];obtain⟨r,er⟩:=zbM4 (zy9 n) e.bE hF 0 l hl;rw[er,Option.bind_some];refine⟨r,?_⟩;cases zbM3 e.bE l<;>rfl
   .rw[bV c1,bX (by
     simp only[dI,bY,cP,cL]
     by_cases q:e.bG=aJ.zero
     .left;have:=mt (λ h:1<=e.k/\e.k<=(e.bE.length:Int)=>(⟨h.1,h.2,q⟩:1<=e.k/\e.k<=(e.bE.length:Int)/\e.bG=aJ.zero)) c1;omega
     .exact .inr q)]
    exact⟨l,rfl⟩
theorem zbo6(e:aO):zl7 e=some (fitE e&&(zak9 e []).isSome):=by
 unfold zl7;rw[zdu5,Option.bind_some];have p:=zay3 e;cases hf:fitE e with
 |false=>rfl
 |true=>
  simp only[cC,show¬zu6 e=0 by omega,cJ,dC,cK];unfold zo6;have hn:zr9 e<=24:=by unfold fitE at hf;simp at hf;omega
  obtain⟨r,er⟩:=zcE0 _ e (eV _) hn [] (by simp);rw[er,Option.bind_some];cases zak9 e []<;>rfl
def addA(a:aJ)(l:List aJ):List aJ:=if a∈l then l else l++[a]
def addS:List aJ->List aJ->List aJ
 |[],l=>l
 |a::az,l=>addS az (addA a l)
theorem zcb2:∀(x y l:List aJ),addS (x++y) l=addS y (addS x l)
 |[],_,_=>rfl
 |a::x,y,l=>zcb2 x y (addA a l)
theorem zdu8(a:aJ)(l:List aJ):∃t,addA a l=l++t:=by
 unfold addA;split
 .exact⟨[],by simp⟩
 .exact⟨[a],rfl⟩
theorem zbD2:∀(x l:List aJ),∃t,addS x l=l++t
 |[],l=>⟨[],by simp[addS]⟩
 |a::x,l=>by obtain⟨t1,h1⟩:=zdu8 a l;obtain⟨t2,h2⟩:=zbD2 x (addA a l);exact⟨t1++t2,by rw[addS,h2,h1,dD]⟩
theorem zbR4:∀(x l:List aJ),(addS x l).length<=l.length+x.length
 |[],l=>by simp[addS]
 |a::x,l=>by
  have h1:=zbR4 x (addA a l);have h2:(addA a l).length<=l.length+1:=by unfold addA;split<;>simp
  simp only[addS,List.length_cons];omega
def dnN(l:List aJ):Prop:=l.Pairwise λ x y=>(x.name.toList==y.name.toList)=false
theorem zcm0{a:aJ}:∀{l:List aJ},dnN l->a∈l->zaT7 a l=some true
 |x::l,h,hm=>by
  unfold dnN at h;rw[cX]at h;unfold zaT7
  by_cases c:a=x
  .rw[bX c]
  .rw[bV c];rcases cF.1 hm with e|hm
   .exact absurd e c
   .have:=h.1 a hm;rw[bV (by rw[dK];intro e;rw[e]at this;simp at this)];exact zcm0 h.2 hm
theorem zby6{a:aJ}:∀{l:List aJ},zaT7 a l=none->∀x∈l,(x.name.toList==a.name.toList)=false
 |y::l,h,x,hx=>by
  unfold zaT7 at h;split at h
  .cases h
  .split at h
   .cases h
   .rename_i h1 h2;rcases cF.1 hx with rfl|hx
    .rw[dP];intro e;rw[dK]at e;exact h2 (by rw[dK];exact e.symm)
    .exact zby6 h x hx
theorem zbM5{a:aJ}:∀{l:List aJ},dnN l->zaT7 a l=some false->a∉l/\∃x∈l,(x.name.toList==a.name.toList)=true
 |y::l,hd,h=>by
  refine⟨λ hm=>?_,?_⟩
  .rw[zcm0 hd hm]at h;cases h
  .unfold zaT7 at h;split at h
   .cases h
   .split at h
    .rename_i h2;exact⟨y,.head _,by rw[dK]at h2⊢;exact h2.symm⟩
    .unfold dnN at hd;rw[cX]at hd;obtain⟨_,x,hx,e⟩:=zbM5 hd.2 h;exact⟨x,.tail _ hx,e⟩
theorem zcN7{a:aJ}{l:List aJ}(h:zaT7 a l=none):a∉l:=λ hm=>by have:=zby6 h a hm;simp at this
theorem zdF4{l t:List aJ}(h:dnN (l++t)):dnN l:=(eO.1 h).1
theorem zby7:∀(x l:List aJ),l.length<=8->dnN l->((zay4 x l).isSome=true↔(addS x l).length<=8/\dnN (addS x l))
 |[],l,h8,hd=>by simp[zay4,addS,h8,hd]
 |a::x,l,h8,hd=>by
  simp only[zay4,addS];unfold zcb0 zbD1;cases hn:zaT7 a l with
  |some b=>
   cases b with
   |true=>
    have hm:a∈l:=by
     refine kJ λ hm=>?_;have:∀l:List aJ,a∉l->zaT7 a l≠some true:=by
      intro l;induction l with
      |nil=>intro _ h;cases h
      |cons y l ih=>
       intro hm h;unfold zaT7 at h;rw[bV (λ(e:a=y)=>hm (by rw[e];exact .head _))]at h;split at h
       .cases h
       .exact ih (λ h=>hm (.tail _ h)) h
     exact this l hm hn
    simp only[cC,Option.bind_some];unfold addA;rw[bX hm];exact zby7 x l h8 hd
   |false=>obtain⟨hm,y,hy,e⟩:=zbM5 hd hn;simp only[show¬(13:Int)=0 by decide,cB,Option.bind_none,Option.isSome_none,bT,false_iff];rintro⟨_,h2⟩;unfold addA at h2;rw[bV hm]at h2;obtain⟨t,ht⟩:=zbD2 x (l++[a]);rw[ht]at h2;have h3:=(eO.1 (zdF4 h2)).2.2 y hy a (dN.2 rfl);rw[e]at h3;cases h3
  |none=>
   have hm:=zcN7 hn;have ha:addA a l=l++[a]:=by unfold addA;rw[bV hm]
   rw[ha]
   by_cases c:l.length=8
   .simp only[c,cC,show¬(4:Int)=0 by decide,cB,Option.bind_none,Option.isSome_none,bT,false_iff];rintro⟨h1,_⟩;obtain⟨t,ht⟩:=zbD2 x (l++[a]);rw[ht]at h1;simp at h1;omega
   .simp only[c,cB,cC,Option.bind_some];refine zby7 x (l++[a]) (by simp;omega) ?_;unfold dnN;rw[eO];exact⟨hd,List.pairwise_singleton _ _,λ y hy z hz=>by rw[dN.1 hz];exact zby6 hn y hy⟩
def addO(e:aO)(l:List aJ):Option (List aJ):=if okE e=true then some (addS (zS1 e) l)else none
def addL(ks:List aO)(l:List aJ):Option (List aJ):=if okL ks=true then some (addS (zJ4 ks) l)else none
theorem zde5(k:aO)(ks:List aO)(l:List aJ):addL (k::ks) l=(addO k l).bind (addL ks):=by unfold addL addO;simp only[okL,zJ4,zcb2];cases okE k<;>simp
def bad1(r:Nat⊕(Bool×List aJ)):Prop:=match r with|.inl _=>True|.inr v=>v.1=false
def got1(F:Option (Nat⊕(Bool×List aJ)))(o:Option (List aJ)):Prop:=match o with|some l=>F=some (.inr (true,l))|none=>∃r,F=some r/\bad1 r
theorem zde6(a:aJ)(l:List aJ){X:Type}(x:X){body:Int->Option (Int⊕(Unit⊕X))}(hl:l.length<4611686018427387904)
  (hb:∀i:Nat,i<l.length->body (i:Int)=if l.getD i aJ.zero=a then some (.inr (.inr x))else some (.inl ((i+1:Nat):Int))) (he:body (l.length:Int)=some (.inr (.inl ()))):
  zc2 body 0=some (if a∈l then .inr x else .inl ()):=by
 have hw:∀(t:List aJ) (i:Nat),walk (λ _ y (_:Unit)=>if y=a then some (.inr (Sum.inr x))else some (.inl ())) (λ _=>Sum.inl (β:=X) ()) t i ()=some (if a∈t then .inr x else .inl ()):=by
  intro t;induction t with
  |nil=>intro i;simp[walk]
  |cons y t ih=>
   intro i;simp only[walk]
   by_cases c:y=a
   .rw[bX c];simp[c]
   .rw[bV c];simp only[ih (i+1),cF,show¬a=y fromλ e=>c e.symm,iP]
 have key:=zap3 (body:=body) l aJ.zero (λ i (_:Unit)=>(i:Int)) (λ _ y (_:Unit)=>if y=a then some (.inr (Sum.inr x))else some (.inl ())) (λ _=>Sum.inl (β:=X) ())
  (λ i s hi=>by rw[hb i hi];split<;>rfl) (λ s=>he) ()
 rw[show(0:Int)=(λ(i:Nat) (_:Unit)=>(i:Int)) 0 ()from rfl,key,hw]
theorem zcb3(F:aO->List aJ->Option (Nat⊕(Bool×List aJ))){Y:Type}{B:Nat}:∀(ks:List aO),(∀k∈ks,∀l,(l.length:Int)+zr9 k<=B->got1 (F k l) (addO k l))->
  ∀(i:Nat) (l:List aJ),(l.length:Int)+zA3 ks<=B->(match addL ks l with
   |some l'=>walk (λ _ k (s:List aJ)=>(F k s).bind λ v=>match v with|.inl v=>some (.inr (Sum.inr (Sum.inl s.length)))|.inr v=>if(!v.1)=true then some (.inr (Sum.inr (.inl s.length)))else some (.inl v.2)) (λ s=>Sum.inl (β:=Nat⊕Y) s) ks i l=some (.inl l')
   |none=>∃r,walk (λ _ k (s:List aJ)=>(F k s).bind λ v=>match v with|.inl v=>some (.inr (Sum.inr (Sum.inl s.length)))|.inr v=>if(!v.1)=true then some (.inr (Sum.inr (.inl s.length)))else some (.inl v.2)) (λ s=>Sum.inl (β:=Nat⊕Y) s) ks i l=some (.inr (.inl r)))
 |[],_,i,l,hl=>by simp[walk,addL,okL,zJ4,addS]
 |k::ks,hF,i,l,hl=>by
  rw[zai9]at hl;have p1:=zK3 ks;have e:=hF k (.head _) l (by omega);rw[zde5];cases hp:addO k l with
  |none=>
   rw[hp]at e;obtain⟨r,er,hb⟩:=e;simp only[Option.bind_none];refine⟨l.length,?_⟩;simp only[walk,er,Option.bind_some];cases r with
   |inl r=>rfl
   |inr v=>have hv:v.1=false:=hb;simp only[hv,dC,cC]
  |some l'=>
   rw[hp]at e;have e':F k l=some (.inr (true,l')):=e;have hl':(l'.length:Int)<=l.length+zr9 k:=by
    unfold addO at hp;split at hp
    .cases hp;have h1:=zbR4 (zS1 k) l;have h2:=zby5 k;omega
    .cases hp
   have e2:=zcb3 (Y:=Y) F ks (λ x hx=>hF x (.tail _ hx)) (i+1) l' (by omega);simp only[walk,e',Option.bind_some,cO,bT,cB];exact e2
theorem zbH9{e k:aO}(hk:k∈e.bE):zr9 k+1<=zr9 e:=by
 have:∀(ks:List aO),k∈ks->zr9 k<=zA3 ks:=by
  intro ks;induction ks with
  |nil=>intro h;cases h
  |cons x ks ih=>
   intro h;rw[zai9];have p1:=zU9 x;have p2:=zK3 ks;rcases cF.1 h with rfl|h
   .omega
   .have:=ih h;omega
 have:=this e.bE hk;rw[zX9 e];omega
theorem zcb4{e:aO}(c:e.bE.length=0):okE e=true↔e.k=0/\zE5 e.bG.name=true/\zaN3 e.bG.aM=true:=by rw[zcs7,bX c];simp[fW]
theorem zcb5{e:aO}(c:¬e.bE.length=0):okE e=true↔(1<=e.k/\e.k<=(e.bE.length:Int)/\e.bG=aJ.zero)/\okL e.bE=true:=by rw[zcs7,bV c];simp[fW]
theorem zcm1{e:aO}(c:e.bE.length=0)(l:List aJ):addO e l=if e.k=0/\zE5 e.bG.name=true/\zaN3 e.bG.aM=true then some (addA e.bG l)else none:=by unfold addO;rw[zaq1,bX c];simp only[zcb4 c];rfl
theorem zcm2{e:aO}(c:¬e.bE.length=0)(l:List aJ):addO e l=if 1<=e.k/\e.k<=(e.bE.length:Int)/\e.bG=aJ.zero then addL e.bE l else none:=by
 unfold addO addL;rw[zaq1,bV c];simp only[zcb5 c]
 by_cases c1:1<=e.k/\e.k<=(e.bE.length:Int)/\e.bG=aJ.zero<;>simp only[c1,fK,jA,cC,cB,cS]
theorem zdu9:∀(n:Nat) (e:aO),_root_.SizeOf.sizeOf e<n->∀l,(l.length:Int)+zr9 e<=100->got1 (zD1 n e l) (addO e l)
 |0,_,h,_,_=>by omega
 |n+1,e,h,l,hl=>by
  show got1 (zB4 (zD1 n) e l) _;unfold zB4;have p4:=zK3 e.bE;have hne:=zX9 e
  by_cases c:e.bE.length=0
  .rw[bX (by simpa using c),zcm1 c]
   by_cases c1:e.k=0
   .simp only[c1,cA,cC,zaJ3,Option.bind_some,cO,dM,fK]
    by_cases c2:zE5 e.bG.name=true/\zaN3 e.bG.aM=true
    .rw[bX c2,bV (by have:=c2.2;unfold zaN3 at this;simp[c2.1,this])];rw[zde6 e.bG l (x:=Sum.inr (true,l)) (by omega) (λ i hi=>by
      unfold zam7;rw[bX (by simpa using hi),gdp (by omega),zc4 i (by omega)];simp only[Int.toNat_natCast,bY]) (by unfold zam7;simp),Option.bind_some]
     unfold addA got1
     by_cases c3:e.bG∈l
     .simp only[c3,cC]
     .simp only[c3,cB];unfold zaD2;rw[gdp (by omega)]
    .rw[bV c2,bX (by
      have:¬(zE5 e.bG.name=true/\zn0 e.bG.aM=true):=c2;simp only[dI,cP];cases h1:zE5 e.bG.name<;>cases h2:zn0 e.bG.aM<;>simp_all)]
     exact⟨_,rfl,rfl⟩
   .simp only[c1,cJ,bT,cB,Option.bind_some,dC,fZ,cC,jA];exact⟨_,rfl,rfl⟩
  .rw[bV (by simpa using c),zcm2 c]
   by_cases c1:1<=e.k/\e.k<=(e.bE.length:Int)/\e.bG=aJ.zero
   .rw[bX c1,bV (by simp[c1.2.2];omega)];have hF:∀k∈e.bE,∀l,(l.length:Int)+zr9 k<=(100:Nat)->got1 (zD1 n k l) (addO k l):=λ k hk l hl=>zdu9 n k (zaq2 h hk) l hl;have key:=zE7 (body:=zab9 (zD1 n) e) e.bE aO.zero (λ i (s:List aJ)=>((i:Int),s))
     (λ _ k (s:List aJ)=>(zD1 n k s).bind λ v=>match v with|.inl v=>some (.inr (Sum.inr (Sum.inl s.length)))|.inr v=>if(!v.1)=true then some (.inr (Sum.inr (.inl s.length)))else some (.inl v.2)) (λ s=>Sum.inl (β:=Nat⊕(Bool×List aJ)) s)
     (λ i s=>True) (λ i s hi hs=>by
      refine⟨?_,λ s' hs'=>trivial⟩;unfold zab9;simp only;rw[bX (by simpa using hi),gdp (by omega)];simp only[Int.toNat_natCast,zc4 i (show i<4611686018427387904 by omega)];cases zD1 n (e.bE.getD i aO.zero) s with
      |none=>rfl
      |some v=>
       cases v with
       |inl v=>rfl
       |inr v=>
        simp only[Option.bind_some];split<;>rfl)
     (λ s hs=>by unfold zab9;simp) l trivial
    rw[show((0,l):Int×List aJ)=(λ(i:Nat) (s:List aJ)=>((i:Int),s)) 0 l from rfl,key];have er:=zcb3 (zD1 n) (Y:=Bool×List aJ) (B:=100) e.bE hF 0 l (by omega);cases ha:addL e.bE l with
    |none=>rw[ha]at er;obtain⟨r,er⟩:=er;rw[er,Option.bind_some];exact⟨_,rfl,trivial⟩
    |some l'=>rw[ha]at er;simp only at er;rw[er,Option.bind_some];rfl
   .rw[bV c1,bX (by
     simp only[dI,bY,cP,cL]
     by_cases q:e.bG=aJ.zero
     .left;have:=mt (λ h:1<=e.k/\e.k<=(e.bE.length:Int)=>(⟨h.1,h.2,q⟩:1<=e.k/\e.k<=(e.bE.length:Int)/\e.bG=aJ.zero)) c1;omega
     .exact .inr q)]
    exact⟨_,rfl,rfl⟩
def bad0(r:Nat⊕(List aJ×Bool)):Prop:=match r with|.inl _=>True|.inr v=>v.2=false
theorem zcW4(e:aO)(hl:zr9 e<=50):match addO e []with|some l=>zy1 e=some (.inr (l,true))|none=>∃r,zy1 e=some r/\bad0 r:=by
 unfold zy1;show match addO e []with|some l=>zO0 _ e=some (.inr (l,true))|none=>∃r,zO0 _ e=some r/\bad0 r
 unfold zO0;have p4:=zK3 e.bE;have hne:=zX9 e
 by_cases c:e.bE.length=0
 .rw[bX (by simpa using c),zcm1 c]
  by_cases c1:e.k=0
  .simp only[c1,cA,cC,zaJ3,Option.bind_some,cO,dM,fK]
   by_cases c2:zE5 e.bG.name=true/\zaN3 e.bG.aM=true
   .rw[bX c2,bV (by have:=c2.2;unfold zaN3 at this;simp[c2.1,this])];rw[zq3];unfold zas0;rfl
   .rw[bV c2,bX (by
     have:¬(zE5 e.bG.name=true/\zn0 e.bG.aM=true):=c2;simp only[dI,cP];cases h1:zE5 e.bG.name<;>cases h2:zn0 e.bG.aM<;>simp_all)]
    exact⟨_,rfl,rfl⟩
  .simp only[c1,cJ,bT,cB,Option.bind_some,dC,fZ,cC,jA];exact⟨_,rfl,rfl⟩
 .rw[bV (by simpa using c),zcm2 c]
  by_cases c1:1<=e.k/\e.k<=(e.bE.length:Int)/\e.bG=aJ.zero
  .rw[bX c1,bV (by simp[c1.2.2];omega)];have hF:∀k∈e.bE,∀l,(l.length:Int)+zr9 k<=(100:Nat)->got1 (zs3 k l) (addO k l):=λ k hk l hl=>zdu9 _ k (eV _) l hl;have key:=zE7 (body:=zX4 e) e.bE aO.zero (λ i (s:List aJ)=>((i:Int),s))
    (λ _ k (s:List aJ)=>(zs3 k s).bind λ v=>match v with|.inl v=>some (.inr (Sum.inr (Sum.inl s.length)))|.inr v=>if(!v.1)=true then some (.inr (Sum.inr (.inl s.length)))else some (.inl v.2)) (λ s=>Sum.inl (β:=Nat⊕(List aJ×Bool)) s)
    (λ i s=>True) (λ i s hi hs=>by
     refine⟨?_,λ s' hs'=>trivial⟩;unfold zX4;simp only;rw[bX (by simpa using hi),gdp (by omega)];simp only[Int.toNat_natCast,zc4 i (show i<4611686018427387904 by omega)];cases zs3 (e.bE.getD i aO.zero) s with
     |none=>rfl
     |some v=>
      cases v with
      |inl v=>rfl
      |inr v=>
       simp only[Option.bind_some];split<;>rfl)
    (λ s hs=>by unfold zX4;simp) [] trivial
   rw[show((0,[]):Int×List aJ)=(λ(i:Nat) (s:List aJ)=>((i:Int),s)) 0 []from rfl,key];have er:=zcb3 (zs3) (Y:=List aJ×Bool) (B:=100) e.bE hF 0 [] (by simp;omega);cases ha:addL e.bE []with
   |none=>rw[ha]at er;obtain⟨r,er⟩:=er;simp only;rw[er,Option.bind_some];exact⟨_,rfl,trivial⟩
   |some l'=>rw[ha]at er;simp only at er⊢;rw[er,Option.bind_some];rfl
  .rw[bV c1,bX (by
    simp only[dI,bY,cP,cL]
    by_cases q:e.bG=aJ.zero
    .left;have:=mt (λ h:1<=e.k/\e.k<=(e.bE.length:Int)=>(⟨h.1,h.2,q⟩:1<=e.k/\e.k<=(e.bE.length:Int)/\e.bG=aJ.zero)) c1;omega
    .exact .inr q)]
   exact⟨_,rfl,rfl⟩
def vE(e:aO):Bool:=fitE e&&(zak9 e []).isSome
theorem zcm3(e:aO):(zak9 e []).isSome=true↔∃l,addO e []=some l/\l.length<=8/\dnN l:=by
 unfold zak9 addO
 by_cases c:okE e=true
 .rw[bX c,bX c,zby7 _ [] (by simp) .nil];constructor
  .exactλ h=>⟨_,rfl,h⟩
  .rintro⟨l,e,h⟩;cases e;exact h
 .rw[bV c,bV c];simp
theorem zcE1(v:List aJ×Bool)(i:Nat)(hi:i<v.1.length)(hl:v.1.length<=1000):
  zc2 (zX5 v (i:Int)) 0=some (if(v.1.take i).any (λ x=>(v.1.getD i aJ.zero).name.toList==x.name.toList)=true then .inr ([],false)else .inl ()):=by
 have hw:∀(t:List aJ) (j:Nat),walk (λ _ x (_:Unit)=>if((v.1.getD i aJ.zero).name.toList==x.name.toList)=true then some (.inr (Sum.inr (([]:List aJ),false)))else some (.inl ())) (λ _=>Sum.inl (β:=List aJ×Bool) ()) t j ()=
   some (if t.any (λ x=>(v.1.getD i aJ.zero).name.toList==x.name.toList)=true then .inr ([],false)else .inl ()):=by
  intro t;induction t with
  |nil=>intro j;rfl
  |cons x t ih=>
   intro j;simp only[walk,List.any_cons]
   by_cases c:((v.1.getD i aJ.zero).name.toList==x.name.toList)=true
   .simp only[c,cC,fZ]
   .simp only[gT]at c;simp only[c,dM,bT,cB];exact ih (j+1)
 have hlen:(v.1.take i).length=i:=by rw[cU];omega
 have key:=zap3 (body:=zX5 v (i:Int)) (v.1.take i) aJ.zero (λ j (_:Unit)=>(j:Int))
  (λ _ x (_:Unit)=>if((v.1.getD i aJ.zero).name.toList==x.name.toList)=true then some (.inr (Sum.inr (([]:List aJ),false)))else some (.inl ())) (λ _=>Sum.inl (β:=List aJ×Bool) ())
  (λ j s hj=>by
   rw[hlen]at hj;unfold zX5;rw[bX (by simp;omega),gdp (by omega),gdp (by omega),zc4 j (by omega),zaH4 _ _ _ _ hj];simp only[Int.toNat_natCast];split<;>rfl)
  (λ s=>by unfold zX5;rw[hlen];simp) ()
 rw[show(0:Int)=(λ(j:Nat) (_:Unit)=>(j:Int)) 0 ()from rfl,key,hw]
theorem zaX3(v:List aJ×Bool)(hl:v.1.length<=1000):(dnN v.1->zc2 (zQ4 v) 0=some (.inl ()))/\(¬dnN v.1->zc2 (zQ4 v) 0=some (.inr ([],false))):=by
 have key:=zap3 (body:=zQ4 v) v.1 aJ.zero (λ i (_:Unit)=>(i:Int))
  (λ i a (_:Unit)=>if(v.1.take i).any (λ x=>a.name.toList==x.name.toList)=true then some (.inr (Sum.inr (([]:List aJ),false)))else some (.inl ())) (λ _=>Sum.inl (β:=List aJ×Bool) ())
  (λ i s hi=>by
   unfold zQ4;rw[bX (by simpa using hi),zcE1 v i hi hl];split
   .rfl
   .show some _=_;rw[zc4 i (by omega)];rfl)
  (λ s=>by unfold zQ4;simp) ()
 have hw:∀(t prev:List aJ),v.1=prev++t->dnN prev->(dnN v.1->walk (λ i a (_:Unit)=>if(v.1.take i).any (λ x=>a.name.toList==x.name.toList)=true then some (.inr (Sum.inr (([]:List aJ),false)))else some (.inl ())) (λ _=>Sum.inl (β:=List aJ×Bool) ()) t prev.length ()=some (.inl ()))/\
   (¬dnN v.1->walk (λ i a (_:Unit)=>if(v.1.take i).any (λ x=>a.name.toList==x.name.toList)=true then some (.inr (Sum.inr (([]:List aJ),false)))else some (.inl ())) (λ _=>Sum.inl (β:=List aJ×Bool) ()) t prev.length ()=some (.inr ([],false))):=by
  intro t;induction t with
  |nil=>intro prev h hd;exact⟨λ _=>rfl,λ hn=>absurd (by rw[h,dX];exact hd) hn⟩
  |cons a t ih=>
   intro prev h hd;have ht:v.1.take prev.length=prev:=by rw[h,List.take_left'];rfl
   simp only[walk,ht]
   by_cases c:prev.any (λ x=>a.name.toList==x.name.toList)=true
   .have hn:¬dnN v.1:=by
     intro hd2;rw[h]at hd2;obtain⟨x,hx,e⟩:=kX.1 c;have:=(eO.1 hd2).2.2 x hx a (.head _);rw[dK]at e;rw[<-e]at this;simp at this
    exact⟨λ h=>absurd h hn,λ _=>by rw[bX c]⟩
   .rw[bV c];have hd3:dnN (prev++[a]):=by
     unfold dnN;rw[eO];refine⟨hd,List.pairwise_singleton _ _,λ x hx y hy=>?_⟩;rw[dN.1 hy,dP];intro e;rw[dK]at e;exact c (kX.2 ⟨x,hx,by rw[dK];exact e.symm⟩)
    have:=ih (prev++[a]) (by rw[h];simp) hd3;rw[show(prev++[a]).length=prev.length+1 by simp]at this;exact this
 have:=hw v.1 [] rfl .nil;rw[show(0:Int)=(λ(i:Nat) (_:Unit)=>(i:Int)) 0 ()from rfl,key];exact this
theorem zaT8(e:aO):zE3 e=some (vE e):=by
 unfold zE3 zi4;rw[zcD9,Option.bind_some];have p:=zU9 e;unfold vE;cases hf:fitE e with
 |false=>rfl
 |true=>
  have hn:zr9 e<=24:=by unfold fitE at hf;simp at hf;omega
  simp only[cC,show¬zr9 e=0 by omega,cJ,bT,cB,cK];have ha:=zcW4 e (by omega);have hp:=zcm3 e;cases hadd:addO e []with
  |none=>
   rw[hadd]at ha hp;obtain⟨r,er,hb⟩:=ha;have hf:(zak9 e []).isSome=false:=by rw[dP];intro h;obtain⟨l,e,_⟩:=hp.1 h;cases e
   rw[er,hf,Option.bind_some];cases r with
   |inl r=>rfl
   |inr v=>have hv:v.2=false:=hb;simp only[hv,dC,fZ,cC,Option.bind_some]
  |some l=>
   rw[hadd]at ha hp;simp only at ha;have hl:l.length<=24:=by
    unfold addO at hadd;split at hadd
    .cases hadd;have h1:=zbR4 (zS1 e) [];have h2:=zby5 e;simp at h1;omega
    .cases hadd
   rw[ha,Option.bind_some]
   by_cases c:l.length<=8
   .simp only[cO,dM,show¬(8:Int)<(l.length:Int)by omega,cJ,bT,cB];have ho:=zaX3 (l,true) (by simp only;omega)
    by_cases hd:dnN l
    .rw[ho.1 hd,hp.2 ⟨l,rfl,c,hd⟩];rfl
    .rw[ho.2 hd];have:(zak9 e []).isSome=false:=by
      rw[dP];intro h;obtain⟨l',e',_,h3⟩:=hp.1 h;cases e';exact hd h3
     rw[this];rfl
   .simp only[cO,dM,show(8:Int)<(l.length:Int)by omega,cA,cC,Option.bind_some];have:(zak9 e []).isSome=false:=by
     rw[dP];intro h;obtain⟨l',e',h3,_⟩:=hp.1 h;cases e';exact c h3
    rw[this]
theorem zby8(e:aO):zl7 e=some (vE e):=zbo6 e
def zcE2(l:List bP)(i:Nat)(n:bP):Bool:=zd2 n.aK&&vE n.bN&&decide (0<=n.gen)&&decide (n.gen<=1073741824)&&(decide (i=0)||decide (cmpP (l.getD (i-1) bP.zero).aK n.aK<0))
def zcb6(l:List bP):Bool:=(List.range l.length).all λ i=>zcE2 l i (l.getD i bP.zero)
def zcs9(s:aQ):List aL:=zbo2 (zB8 s.aI++s.bI.map (·.aK))
def zct0(s:aQ):Bool:=zaE2 s.aI&&decide (s.bI.length<=8)&&zcb6 s.bI&&decide ((zcs9 s).length<=8)
theorem zcN8(s:aQ)(h8:s.bI.length<=8):zc2 (zK8 s) 0=some (if zcb6 s.bI=true then .inl ()else .inr false):=by
 have key:=zN5 (body:=zK8 s) s.bI.length (λ i=>if zcE2 s.bI i (s.bI.getD i bP.zero)=true then none else some (Sum.inr (α:=Unit) false)) (Sum.inl ()) (λ i hi=>by
  unfold zK8;have c1:(i:Int)<(s.bI.length:Int):=by omega
  have c2:0<=(i:Int):=by omega
  simp only[c1,c2,cS,cA,cC,zg9,zby8,zR2,Int.toNat_natCast];unfold zcE2;have nd:∀x:bP,x=x:=λ x=>rfl;rcases hb (zd2 (s.bI.getD i bP.zero).aK)with hP|hP
  .rcases hb (vE (s.bI.getD i bP.zero).bN)with hE|hE
   .by_cases q1:(s.bI.getD i bP.zero).gen<0
    .simp[hP,hE,q1,show¬0<=(s.bI.getD i bP.zero).gen by omega,-List.getD_eq_getElem?_getD]
    .by_cases q2:1073741824<(s.bI.getD i bP.zero).gen
     .simp[hP,hE,q1,q2,show¬(s.bI.getD i bP.zero).gen<=1073741824 by omega,-List.getD_eq_getElem?_getD]
     .have q1':0<=(s.bI.getD i bP.zero).gen:=by omega
      have q2':(s.bI.getD i bP.zero).gen<=1073741824:=by omega
      have w2:IntKind.i64.wrap ((i:Int)+1)=(i:Int)+1:=zj1 (by omega) (by omega)
      by_cases q3:i=0
      .subst q3;simp only[hP,hE,q1,q2,q1',q2',cC,Option.bind_some,cA,cJ,cO,dC,gF,cK,eU,dM,fZ,Int.cast_ofNat_Int,eR,iM,eN,bT,hJ,zg9,cB];rfl
      .have q4:(0:Int)<(i:Int):=by omega
       have w:IntKind.i64.wrap ((i:Int)-1)=((i-1:Nat):Int):=zah8 i (by omega) (by omega);simp only[hP,hE,q1,q2,q1',q2',q3,q4,cA,cJ,cO,dC,gF,cK,eU,dM,jH,bT,cC,cB,Option.bind_some,w,w2,Int.toNat_natCast];rw[gdp (by intro _;omega)]
       by_cases q5:cmpP (s.bI.getD (i-1) bP.zero).aK (s.bI.getD i bP.zero).aK<0
       .have q6:¬0<=cmpP (s.bI.getD (i-1) bP.zero).aK (s.bI.getD i bP.zero).aK:=by omega
        simp only[q5,q6,cA,cJ,cC,bT,cB]
       .have q6:0<=cmpP (s.bI.getD (i-1) bP.zero).aK (s.bI.getD i bP.zero).aK:=by omega
        simp only[q5,q6,cA,cJ,cC,bT,cB]
   .simp[hP,hE,-List.getD_eq_getElem?_getD]
  .simp[hP,-List.getD_eq_getElem?_getD])
  (by unfold zK8;simp)
 rw[key,zZ2 (λ i=>zcE2 s.bI i (s.bI.getD i bP.zero))];unfold zcb6;rw[fE];split<;>rfl
theorem zbs6(s:aQ)(h1:s.aI.length<=8)(h2:∀q∈s.aI,zj6 q=true)(h8:s.bI.length<=8):zC3 s=some (zcs9 s):=by
 have hq:=zbR2 s.aI h2;have hs:(zB8 s.aI).length<=200:=by have:=zcl4 (s.aI.flatMap zau7);unfold zB8;omega
 unfold zC3;rw[zaT2 h1 h2,Option.bind_some,gdp (by omega),zap9 s.bI bP.zero (·.aK) _ (by omega) (by omega) (λ i t hi ht=>by
  unfold zac6;have h3:0<=(i:Int)/\(i:Int)<(s.bI.length:Int):=by omega
  have h1:t.length+1<=4294967296:=by omega
  simp only[h1,h3.1,h3.2,cS,zg9,cA,cC,Int.toNat_natCast,zc4 i (show i<4611686018427387904 by omega)]) (λ t=>by unfold zac6;simp),Option.bind_some]
 unfold zap1;rw[zay1 _ (by simp;omega)];rfl
theorem zby9(s:aQ)(hp:zaE2 s.aI=true)(h8:s.bI.length<=8):zC3 s=some (zcs9 s):=by obtain⟨h1,h2,_⟩:=(zbg1 _).1 hp;exact zbs6 s h1 h2 h8
theorem zaT9(s:aQ):zy5 s=some (zct0 s):=by
 unfold zy5 zct0
 by_cases h8:s.bI.length<=8
 .by_cases hq:s.aI.length<=8
  .simp only[show¬(8:Int)<(s.bI.length:Int)by omega,show¬(8:Int)<(s.aI.length:Int)by omega,cJ,eU,bT,cB,h8,cA,fM];rw[zby4 s.aI hq (λ i hi=>by
    unfold zac8;have h3:0<=(i:Int)/\(i:Int)<(s.aI.length:Int):=by omega
    simp only[h3.1,h3.2,cS,zg9,cA,cC,Int.toNat_natCast,zbn7,Option.bind_some,zc4 i (show i<4611686018427387904 by omega)]
    by_cases e0:i=0
    .subst e0;rw[zh3 (by simp)];cases zj6 (s.aI.getD 0 aB.zero)<;>simp
    .rw[zah8 i (by omega) (by omega),zh3 (by intro _;omega)];simp only[Int.toNat_natCast,show(0:Int)<(i:Int)by omega,cA,cK,e0,iP];unfold ltN;rcases hb (zj6 (s.aI.getD i aB.zero))with b1|b1<;>rcases hb (Op.bytesLess (s.aI.getD (i-1) aB.zero).aA.name.toList (s.aI.getD i aB.zero).aA.name.toList)with b2|b2<;>simp[b1,b2,-List.getD_eq_getElem?_getD]) (by unfold zac8;simp)]
   unfold zaE2;simp only[hq,cA,cK];cases ha:ascW s.aI none with
   |false=>rfl
   |true=>
    have hp:zaE2 s.aI=true:=by unfold zaE2;simp[hq,ha]
    simp only[cC,Option.bind_some,cK];unfold zac7;rw[zcN8 s h8,Option.bind_some];cases zcb6 s.bI with
    |false=>rfl
    |true=>simp only[cC,cK];unfold zap2;rw[zby9 s hp h8,Option.bind_some];congr 1;rw[dW];simp;omega
  .have:zaE2 s.aI=false:=by unfold zaE2;simp[hq]
   simp only[show(8:Int)<(s.aI.length:Int)by omega,cA,fZ,cC,this,eN]
 .simp only[show(8:Int)<(s.bI.length:Int)by omega,cA,jT,cC,h8,cJ,iM,eN]
def zdv0(nm:ByteArray)(h:bA):bJ:=⟨1,h.aK,nm,h.aM⟩
def zat3(nm:ByteArray)(l:List bA):List bJ:=l.map (zdv0 nm)
def zcW5(p:aL)(nm:ByteArray)(a:aC):bJ:=⟨3,p,nm,a⟩
theorem zaJ7(nm:ByteArray)(l:List bA)(hl:l.length<=1000000):zg5 nm l=some (zat3 nm l):=by
 unfold zg5;rw[zap9 l bA.zero (zdv0 nm) [] hl (by simp) (λ i s hi hs=>by
  unfold zam1;have h3:0<=(i:Int)/\(i:Int)<(l.length:Int):=by omega
  have h1:s.length+1<=4294967296:=by omega
  simp only[h1,h3.1,h3.2,cS,eD,zg9,cA,cC,Int.toNat_natCast,zc4 i (show i<4611686018427387904 by omega)];rfl) (λ s=>by unfold zam1;simp)]
 rfl
def zcb7(t:List aB)(i:Int)(q:aB):List aB:=if 0<=i then t.set i.toNat q else t
def Lens(t:List aB):Prop:=∀q∈t,q.aP.length<=1000/\q.aN.length<=1000/\q.aT.length<=1000
theorem zaI4(t:List aB)(i:Int)(q:aB)(hl:t.length<=1000)(h0:0<=i)(hi:i<t.length):zg3 t i q=some (zcb7 t i q):=by unfold zg3 zcb7;rw[zh3 (by omega),zh3 (by omega),bX h0]
theorem ValidT.lens{t:List aB}(h:ValidT t):Lens t:=λ q hq=>by have:=zak3 (h.each q hq);omega
abbrev ResT:=List aB×List bJ×Int
def errT(e:Int):ResT:=([],[],e)
def putT(t:List aB)(nm:ByteArray)(x:aB×List bA×Int)(ev:List bJ):ResT:=if x.2.2=0 then(zcb7 t (zA5 t nm) x.1,ev++zat3 nm x.2.1,0)else errT x.2.2
def atT(t:List aB)(nm:ByteArray)(f:aB->ResT):ResT:=if zay2 t=false then errT 2 else if zA5 t nm<0 then errT 10 else f (t.getD (zA5 t nm).toNat aB.zero)
def zbo7(t:List aB)(p:aL):Bool:=decide (8<=(zB8 t).length)&&!decide (p∈zB8 t)
def zbg2(t:List aB)(p:aL)(a:aJ)(pr:Int):ResT:=atT t a.name λ q=>if zbo7 t p=true then errT 4 else putT t a.name (zA2 q p a.aM pr) []
def zaP1(t:List aB)(p:aL)(nm:ByteArray):ResT:=atT t nm λ q=>putT t nm (zH1 q p) []
def zaI5(t:List aB)(p:aL)(a:aJ):ResT:=atT t a.name λ q=>putT t a.name (zI5 q p a.aM) (if getH q.aP p=a.aM then[]else[zcW5 p a.name a.aM])
theorem nd0{P:Prop}[Decidable P](h:P):¬((!decide P)=true):=by simp[h]
theorem nd1{P:Prop}[Decidable P](h:¬P):(!decide P)=true:=by simp[h]
theorem zbg3{t:List aB}{nm:ByteArray}(h:¬zA5 t nm<0):0<=zA5 t nm/\zA5 t nm<t.length:=by
 rcases zaT3 (t:=t) (nm:=nm)with h1|⟨i,h1,h2,_⟩
 .omega
 .omega
theorem zct1{t:List aB}(h:ValidT t){nm:ByteArray}(hf:¬zA5 t nm<0):zj6 (t.getD (zA5 t nm).toNat aB.zero)=true:=by have:=zbg3 hf;exact h.each _ (zd5 (by omega))
theorem zcb8(t:List aB)(p:aL)(a:aJ)(pr:Int):zad4 t p a pr=some (zbg2 t p a pr):=by
 unfold zad4 zbg2 atT;rw[zaq0,Option.bind_some];cases hv:zay2 t with
 |false=>rfl
 |true=>
  have h:=(zR3 t).1 hv;have hl:=h.len;have hpl:=h.aG;rw[ifNT,ifTF,zX0 _ _ (by omega),Option.bind_some]
  by_cases hf:zA5 t a.name<0
  .rw[bX (cG hf),bX hf];rfl
  .have hr:=zbg3 hf;have hsh:=zbC7 (t.getD (zA5 t a.name).toNat aB.zero) p a.aM pr;rw[bV (by rw[bY];exact hf),bV hf,zaT5 hl h.each,Option.bind_some,zbc9 _ _ (by omega)];have e8:decide (((zB8 t).length:Int)=8)=decide (8<=(zB8 t).length):=by rw[jB];omega
   rw[e8];have hfu:zbo7 t p=(decide (8<=(zB8 t).length)&&!decide (p∈zB8 t)):=rfl;have hb2:((if decide (8<=(zB8 t).length)=true then some (decide (p∈zB8 t))else some false):Option Bool).bind (λ v4=>if(decide (8<=(zB8 t).length)&&!v4)=true then some (([],[],4):ResT)else gd (0<=zA5 t a.name/\zA5 t a.name<(t.length:Int))<|(zL9 (t.getD (zA5 t a.name).toNat aB.zero) p a.aM pr).bind λ v5=>if(!decide (v5.2.2=0))=true then some (([],[],v5.2.2):ResT)else(zg3 t (zA5 t a.name) v5.1).bind λ v6=>(zg5 a.name v5.2.1).bind λ v7=>some ((v6,v7,0):ResT))=
     if zbo7 t p=true then some (errT 4)else gd (0<=zA5 t a.name/\zA5 t a.name<(t.length:Int))<|(zL9 (t.getD (zA5 t a.name).toNat aB.zero) p a.aM pr).bind λ v5=>if(!decide (v5.2.2=0))=true then some (([],[],v5.2.2):ResT)else(zg3 t (zA5 t a.name) v5.1).bind λ v6=>(zg5 a.name v5.2.1).bind λ v7=>some ((v6,v7,0):ResT):=by
    rw[hfu]
    by_cases h8:8<=(zB8 t).length
    .simp only[h8,cA,cC,Option.bind_some,cK];rfl
    .simp only[h8,cJ,bT,cB,Option.bind_some,eN]
   refine Eq.trans hb2 ?_;cases hfu2:zbo7 t p with
   |true=>rfl
   |false=>
    rw[ifFT,zh3 (by omega),zbZ6,Option.bind_some];unfold putT;simp only[bT,cB]
    by_cases e:(zA2 (t.getD (zA5 t a.name).toNat aB.zero) p a.aM pr).2.2=0
    .rw[bV (nd0 e),bX e,zaI4 _ _ _ (by omega) (by omega) (by omega),Option.bind_some,zaJ7 _ _ (by have:=hsh.2.2.2;omega)];rfl
    .rw[bX (nd1 e),bV e];rfl
theorem zbO5(t:List aB)(p:aL)(nm:ByteArray):zY8 t p nm=some (zaP1 t p nm):=by
 unfold zY8 zaP1 atT;rw[zaq0,Option.bind_some];cases hv:zay2 t with
 |false=>rfl
 |true=>
  have h:=(zR3 t).1 hv;have hl:=h.len;rw[ifNT,ifTF,zX0 _ _ (by omega),Option.bind_some]
  by_cases hf:zA5 t nm<0
  .rw[bX (cG hf),bX hf];rfl
  .have hr:=zbg3 hf;have hsh:=zbu4 (t.getD (zA5 t nm).toNat aB.zero) p;rw[bV (by rw[bY];exact hf),bV hf,zh3 (by omega),zbO3,Option.bind_some];unfold putT;dsimp only
   by_cases e:(zH1 (t.getD (zA5 t nm).toNat aB.zero) p).2.2=0
   .rw[bV (nd0 e),bX e,zaI4 _ _ _ (by omega) (by omega) (by omega),Option.bind_some,zaJ7 _ _ (by have:=hsh.2.2.2;omega)];rfl
   .rw[bX (nd1 e),bV e];rfl
theorem zaU0(t:List aB)(p:aL)(a:aJ):zL8 t p a=some (zaI5 t p a):=by
 unfold zL8 zaI5 atT;rw[zaq0,Option.bind_some];cases hv:zay2 t with
 |false=>rfl
 |true=>
  have h:=(zR3 t).1 hv;have hl:=h.len;rw[ifNT,ifTF,zX0 _ _ (by omega),Option.bind_some]
  by_cases hf:zA5 t a.name<0
  .rw[bX (cG hf),bX hf];rfl
  .have hr:=zbg3 hf;have hs:=zct1 h hf;have hql:=zak3 hs;have hsh:=zbC8 (t.getD (zA5 t a.name).toNat aB.zero) p a.aM;rw[bV (by rw[bY];exact hf),bV hf,zh3 (by omega),zI3 _ _ (by omega),Option.bind_some,zh3 (by omega),zbZ7,Option.bind_some];unfold putT;have k1:∀ev:List bJ,ev.length<=1->(zI5 (t.getD (zA5 t a.name).toNat aB.zero) p a.aM).2.2=0->zX8 t a (zA5 t a.name) (zI5 (t.getD (zA5 t a.name).toNat aB.zero) p a.aM) ev=some (zcb7 t (zA5 t a.name) (zI5 (t.getD (zA5 t a.name).toNat aB.zero) p a.aM).1,ev++zat3 a.name (zI5 (t.getD (zA5 t a.name).toNat aB.zero) p a.aM).2.1,0):=λ ev hev e=>by
    unfold zX8;have hg:(zat3 a.name (zI5 (t.getD (zA5 t a.name).toNat aB.zero) p a.aM).2.1).length<=16:=by unfold zat3;rw[dB];exact hsh.2.2.2
    rw[zaI4 _ _ _ (by omega) (by omega) (by omega),Option.bind_some,zaJ7 _ _ (by have:=hsh.2.2.2;omega),Option.bind_some,zh3 (by omega)]
   dsimp only
   by_cases e:(zI5 (t.getD (zA5 t a.name).toNat aB.zero) p a.aM).2.2=0
   .rw[bV (nd0 e),bX e]
    by_cases e2:getH (t.getD (zA5 t a.name).toNat aB.zero).aP p=a.aM
    .rw[bV (nd0 e2),bX e2,k1 [] (by simp) e]
    .rw[bX (nd1 e2),bV e2,zh3 (by decide),k1 _ (by simp) e];rfl
   .rw[bX (nd1 e),bV e];rfl
def ascR:List aH->Option ByteArray->Bool
 |[],_=>true
 |r::l,pv=>resV r&&((match pv with|none=>true|some n=>decide (ltN n r.name))&&ascR l (some r.name))
theorem zcE3:∀(l:List aH) (pv:Option ByteArray),ascR l pv=true↔(∀r∈l,resV r=true)/\l.Pairwise (λ a b=>ltN a.name b.name)/\∀n,pv=some n->∀r∈l,ltN n r.name
 |[],pv=>by simp only[ascR,hY,hJ,eD,iW,fK,true_iff];exact .nil
 |q::t,pv=>by
  simp only[ascR,bU];rw[zcE3 t (some q.name)];constructor
  .rintro⟨h1,h2,h3,h4,h5⟩;refine⟨λ x hx=>?_,cX.2 ⟨λ x hx=>h5 _ rfl x hx,h4⟩,λ n hn x hx=>?_⟩
   .rcases cF.1 hx with rfl|hx
    .exact h1
    .exact h3 x hx
   .subst hn;simp only[bY]at h2;rcases cF.1 hx with rfl|hx
    .exact h2
    .exact zaQ1 h2 (h5 _ rfl x hx)
  .rintro⟨h1,h2,h3⟩;have h2':=cX.1 h2;refine⟨h1 q (.head _),?_,λ x hx=>h1 x (.tail _ hx),h2'.2,λ n hn x hx=>by cases hn;exact h2'.1 x hx⟩;cases pv with
   |none=>rfl
   |some n=>exact cG (h3 n rfl q (.head _))
def catV(l:List aH):Bool:=decide (l.length<=8)&&ascR l none
theorem zbd0(l:List aH):catV l=true↔l.length<=8/\(∀r∈l,resV r=true)/\l.Pairwise (λ a b=>ltN a.name b.name):=by unfold catV;rw[bU,bY,zcE3];simp
theorem zde7(t0:List aH):∀(t prev:List aH),t0=prev++t->
  walk (λ i q (_:Unit)=>some (if resV q=true/\(i=0\/ltN (t0.getD (i-1) aH.zero).name q.name)then Sum.inl ()else Sum.inr (Sum.inr (α:=Unit) false))) (λ _=>Sum.inl (β:=Bool) ()) t prev.length ()=
   some (if ascR t (prev.getLast?.map (·.name))=true then .inl ()else .inr false):=by
 intro t;induction t with
 |nil=>intro prev _;simp[walk,ascR]
 |cons q t ih=>
  intro prev ht;simp only[walk];have hq:(prev.length=0\/ltN (t0.getD (prev.length-1) aH.zero).name q.name)↔(match prev.getLast?.map (·.name)with|none=>true|some n=>decide (ltN n q.name))=true:=by
   by_cases hp:prev=[]
   .subst hp;simp
   .have h1:=zcl7 prev (q::t) aH.zero hp;rw[ht,h1,kC hp];have:prev.length≠0:=λ e=>hp (cW e);simp[this]
  by_cases e:resV q=true/\(prev.length=0\/ltN (t0.getD (prev.length-1) aH.zero).name q.name)
  .rw[bX e];have:=ih (prev++[q]) (by rw[ht];simp);rw[show(prev++[q]).length=prev.length+1 by simp]at this;simp only;have h2:ascR (q::t) (prev.getLast?.map (·.name))=ascR t (some q.name):=by simp only[ascR,e.1,hq.1 e.2,cK]
   rw[this,h2];simp
  .rw[bV e];rw[hq]at e;have hf:ascR (q::t) (prev.getLast?.map (·.name))=false:=by
    rw[dP];intro hh;simp only[ascR,bU]at hh;exact e ⟨hh.1,hh.2.1⟩
   rw[hf];rfl
theorem zcE4{body:Int->Option (Int⊕(Unit⊕Bool))}(t:List aH)(hl:t.length<=8)
  (hb:∀i:Nat,i<t.length->body (i:Int)=some (if resV (t.getD i aH.zero)=true/\(i=0\/ltN (t.getD (i-1) aH.zero).name (t.getD i aH.zero).name)then .inl ((i+1:Nat):Int)else .inr (.inr false)))
  (he:body (t.length:Int)=some (.inr (.inl ()))):zc2 body 0=some (if ascR t none=true then .inl ()else .inr false):=by
 have key:=zap3 (body:=body) t aH.zero (λ i (_:Unit)=>(i:Int)) (λ i q _=>some (if resV q=true/\(i=0\/ltN (t.getD (i-1) aH.zero).name q.name)then Sum.inl ()else Sum.inr (Sum.inr (α:=Unit) false))) (λ _=>Sum.inl (β:=Bool) ())
  (λ i s hi=>by
   rw[hb i hi,Option.map_some];split<;>rfl) (λ s=>he) ()
 have:=zde7 t t [] rfl;rw[show(0:Int)=(λ(i:Nat) (_:Unit)=>(i:Int)) 0 ()from rfl,key];exact this
theorem zbI0(t:List aH):zq7 t=some (catV t):=by
 unfold zq7 catV
 by_cases h8:8<t.length
 .have:¬t.length<=8:=by omega
  rw[bX (by simp;omega)];simp[this]
 .have hl:t.length<=8:=by omega
  rw[bV (by simp;omega),zcE4 t hl (λ i hi=>by
   unfold zaj8;have h3:0<=(i:Int)/\(i:Int)<(t.length:Int):=by omega
   simp only[h3.1,h3.2,cS,eD,zg9,cA,cC,Int.toNat_natCast,zbn5,Option.bind_some,zc4 i (by omega)]
   by_cases e0:i=0
   .subst e0;rw[zh3 (by simp)];cases resV (t.getD 0 aH.zero)<;>simp
   .rw[zah8 i (by omega) (by omega),zh3 (by intro _;omega)];simp only[Int.toNat_natCast,show(0:Int)<(i:Int)by omega,cA,cK,e0,iP];unfold ltN;rcases hb (resV (t.getD i aH.zero))with b1|b1<;>rcases hb (Op.bytesLess (t.getD (i-1) aH.zero).name.toList (t.getD i aH.zero).name.toList)with b2|b2<;>simp[b1,b2,-List.getD_eq_getElem?_getD]) (by unfold zaj8;simp)]
  simp only[hl,cA,cK];cases hw:ascR t none<;>rfl
theorem zbo8(t:List aH):zv9 t=some (catV t):=by
 unfold zv9 catV
 by_cases h8:8<t.length
 .have:¬t.length<=8:=by omega
  rw[bX (by simp;omega)];simp[this]
 .have hl:t.length<=8:=by omega
  rw[bV (by simp;omega),zcE4 t hl (λ i hi=>by
   unfold zas1;have h3:0<=(i:Int)/\(i:Int)<(t.length:Int):=by omega
   simp only[h3.1,h3.2,cS,eD,zg9,cA,cC,Int.toNat_natCast,zbC1,Option.bind_some,zc4 i (by omega)]
   by_cases e0:i=0
   .subst e0;rw[zh3 (by simp)];cases resV (t.getD 0 aH.zero)<;>simp
   .rw[zah8 i (by omega) (by omega),zh3 (by intro _;omega)];simp only[Int.toNat_natCast,show(0:Int)<(i:Int)by omega,cA,cK,e0,iP];unfold ltN;rcases hb (resV (t.getD i aH.zero))with b1|b1<;>rcases hb (Op.bytesLess (t.getD (i-1) aH.zero).name.toList (t.getD i aH.zero).name.toList)with b2|b2<;>simp[b1,b2,-List.getD_eq_getElem?_getD]) (by unfold zas1;simp)]
  simp only[hl,cA,cK];cases hw:ascR t none<;>rfl
def newT(l:List aH):List aB×Int:=if catV l=true then(l.map zau8,0)else([],1)
theorem zct2(l:List aH):zK7 l=some (newT l):=by
 unfold zK7 newT;rw[zbo8,Option.bind_some];cases h:catV l with
 |false=>rfl
 |true=>
  have hl:=((zbd0 l).1 h).1;rw[ifNT,zap9 l aH.zero zau8 [] (by omega) (by simp) (λ i s hi hs=>by
   unfold zaD4;have h3:0<=(i:Int)/\(i:Int)<(l.length:Int):=by omega
   have h1:s.length+1<=4294967296:=by omega
   simp only[h1,h3.1,h3.2,cS,zg9,cA,cC,Int.toNat_natCast,zc4 i (show i<4611686018427387904 by omega)];rfl) (λ s=>by unfold zaD4;simp)]
  rfl
theorem zaJ8{α:Type}(l:List α)(i:Nat)(z:α)(h:i<l.length):l.set i (l.getD i z)=l:=by rw[bW,bZ h,Option.getD_some,List.set_getElem_self]
theorem zdv1{body:Int×List aB×List bJ->Option ((Int×List aB×List bJ)⊕(List aB×List bJ))}(t:List aB)(f:aB->aB)(e:aB->List bJ)(hl:t.length<=1000)(he:∀q∈t,(e q).length<=100)
  (hb:∀(i:Nat) (s:List aB) (ev:List bJ),i<t.length->s.length=t.length->s.getD i aB.zero=t.getD i aB.zero->ev.length<=100000->body ((i:Int),s,ev)=some (.inl (((i+1:Nat):Int),s.set i (f (t.getD i aB.zero)),ev++e (t.getD i aB.zero))))
  (hend:∀(s:List aB) (ev:List bJ),s.length=t.length->body ((t.length:Int),s,ev)=some (.inr (s,ev))):zc2 body (0,t,[])=some (t.map f,t.flatMap e):=by
 have hev:∀i,i<=t.length->((t.take i).flatMap e).length<=100*i:=by
  intro i;induction i with
  |zero=>intro _;simp
  |succ i ih=>intro hi;rw[zcl5 (z:=aB.zero) (by omega),List.flatMap_append,cD];have:=ih (by omega);have h2:=he _ (zd5 (z:=aB.zero) (show i<t.length by omega));simp only[jV,List.flatMap_nil,dX];omega
 obtain⟨x,hx,hp⟩:=zq9 (body:=body) (λ g=>∃i:Nat,i<=t.length/\g=((i:Int),(t.take i).map f++t.drop i,(t.take i).flatMap e)) (λ g=>t.length-g.1.toNat) (λ x=>x=(t.map f,t.flatMap e)) (by
  rintro g ⟨i,hi,rfl⟩;have hsl:((t.take i).map f++t.drop i).length=t.length:=by rw[cD,dB,cU,eK];omega
  by_cases hlt:i<t.length
  .left;have hml:((t.take i).map f).length=i:=by rw[dB,cU];omega
   have hd:t.drop i=t.getD i aB.zero::t.drop (i+1):=by rw[gP hlt,bW,bZ hlt];rfl
   have hg:((t.take i).map f++t.drop i).getD i aB.zero=t.getD i aB.zero:=by rw[bW,fC (by omega),hml,gG,hd];rfl
   refine⟨_,hb i _ _ hlt hsl hg (by have:=hev i hi;omega),⟨i+1,by omega,?_⟩,by simp only[Int.toNat_natCast];omega⟩;rw[zcl5 (z:=aB.zero) hlt,fA,List.flatMap_append];congr 2
   .rw[gR _ _ (by omega),hml,gG,hd];simp
   .simp
  .right;have:i=t.length:=by omega
   subst this;refine⟨_,hend _ _ hsl,?_⟩;simp) (0,t,[]) ⟨0,by omega,by simp⟩
 rw[hx,hp]
def remE(p:aL)(q:aB):List bJ:=if(zJ2 q p).2.2=0 then(if getH q.aP p=aC.zero then[]else[zcW5 p q.aA.name aC.zero])++zat3 q.aA.name (zJ2 q p).2.1 else[]
def remT(t:List aB)(p:aL):List aB×List bJ:=if zay2 t=true then(t.map (remN · p),t.flatMap (remE p))else([],[])
theorem zaM0(nm:ByteArray)(l:List bA):(zat3 nm l).length=l.length:=by unfold zat3;rw[dB]
theorem zcE5(p:aL)(q:aB):(remE p q).length<=17:=by
 unfold remE;have:=(zbu5 q p).2.2.2;split
 .rw[cD,zaM0];split<;>simp<;>omega
 .simp
theorem zcb9{q:aB}(h:zj6 q=true)(p:aL):(remN q p).aA=q.aA:=
 (zbM1 h (p:=p) (x:={p with num:=p.num+1}) λ e=>by
  have h1:p.num+1=p.num:=dG aL.num e;omega).2
theorem zbO6(t:List aB)(p:aL):zT2 t p=some (remT t p):=by
 unfold zT2 remT;rw[zaq0,Option.bind_some];cases hv:zay2 t with
 |false=>rfl
 |true=>
  have h:=(zR3 t).1 hv;have hl:=h.len;rw[ifNT,bX rfl,zh3 (by omega),zdv1 t (remN · p) (remE p) (by omega) (λ q _=>by have:=zcE5 p q;omega) (λ i s ev hi hs hg hev=>by
   have hq:=h.each _ (zd5 (z:=aB.zero) hi);have hql:=zak3 hq;have hsh:=(zbu5 (t.getD i aB.zero) p).2.2.2;have h4:0<=(i:Int)/\(i:Int)<((s.length:Nat):Int):=by omega
   have hn:=zcb9 hq p;unfold zac5;simp only[Int.toNat_natCast,hg];rw[bX (cG h4.2),zh3 h4,zbC6 _ _ (by omega) (by omega) (by omega),Option.bind_some];cases hp:hasQ (t.getD i aB.zero) p with
   |false=>
    have e:=zaY9 hq hp;have e1:(zJ2 (t.getD i aB.zero) p).2.2≠0:=by rw[e];decide
    unfold remE remN;rw[bV e1,bV e1,bX (show(!false)=true from rfl),zc4 i (by omega),dX,<-hg,zaJ8 _ _ _ (by omega)]
   |true=>
    have e:=zcD7 hq hp;rw[ifNT,zh3 h4,zI3 _ _ (by omega),Option.bind_some];have hz:zn2 (getH (t.getD i aB.zero).aP p)=decide (getH (t.getD i aB.zero).aP p=aC.zero):=rfl;rw[hz];unfold remE;rw[bX e.1];have k2:∀ev':List bJ,ev'.length<=1000000->zac4 p ((i:Int),s,ev) ev'=some (.inl (((i+1:Nat):Int),s.set i (remN (t.getD i aB.zero) p),ev'++zat3 (t.getD i aB.zero).aA.name (zJ2 (t.getD i aB.zero) p).2.1)):=λ ev' hev'=>by unfold zac4;simp only[Int.toNat_natCast,hg];rw[zh3 h4,zbO4,Option.bind_some,zh3 h4,e.2,hn,zaJ7 _ _ (by omega),Option.bind_some,zh3 (by rw[zaM0];omega),zc4 i (by omega)]
    by_cases e2:getH (t.getD i aB.zero).aP p=aC.zero
    .rw[bV (nd0 e2),bX e2,k2 _ (by omega),List.nil_append]
    .rw[bX (nd1 e2),bV e2,zh3 h4,zh3 (by omega),k2 _ (by simp;omega),dD];rfl) (λ s ev hs=>by
   unfold zac5;simp only;rw[bV (by rw[bY,hs];omega)])]
  rfl
theorem zV0{t:List aB}(h:∀q∈t,zj6 q=true){p:aL}:p∈zB8 t↔∃q∈t,hasQ q p=true:=by
 unfold zB8;rw[zbc8,gC];constructor
 .rintro⟨q,hq,hp⟩;exact⟨q,hq,(zbZ5 ((zw3 q).1 (h q hq)).1).1 hp⟩
 .rintro⟨q,hq,hp⟩;exact⟨q,hq,(zbZ5 ((zw3 q).1 (h q hq)).1).2 hp⟩
theorem zaP2(t:List aB):(zB8 t).Nodup:=zbr5 (zbr4 _)
theorem ValidT.map{t:List aB}(h:ValidT t)(f:aB->aB)(h1:∀q∈t,zj6 (f q)=true)(h2:∀q∈t,(f q).aA=q.aA)(h3:∀q∈t,∀p,hasQ (f q) p=true->hasQ q p=true):ValidT (t.map f):=by
 have he:∀q∈t.map f,zj6 q=true:=λ q hq=>by obtain⟨x,hx,rfl⟩:=cI.1 hq;exact h1 x hx
 refine⟨by rw[dB];exact h.len,he,?_,?_⟩
 .have:=h.asc;unfold AscN at*;rw[iI];exact this.imp_of_mem λ{a b} ha hb hab=>by rw[h2 a ha,h2 b hb];exact hab
 .refine eC (dL (zaP2 _) λ x hx=>?_) h.aG;obtain⟨q,hq,hp⟩:=(zV0 he).1 hx;obtain⟨y,hy,rfl⟩:=cI.1 hq;exact(zV0 h.each).2 ⟨y,hy,h3 y hy x hp⟩
theorem zbR5{t:List aB}(h:ValidT t)(p:aL):remT t p=(t.map (remN · p),t.flatMap (remE p)):=by unfold remT;rw[bX ((zR3 t).2 h)]
theorem zcN9{t:List aB}(h:ValidT t)(p:aL):ValidT (remT t p).1:=by rw[zbR5 h];exact h.map _ (λ q hq=>zcs1 (h.each q hq) p) (λ q hq=>zcb9 (h.each q hq) p) λ q hq x hx=>((zcD1 (h.each q hq) p x).1 hx).1
theorem zdF5{t:List aB}(h:ValidT t)(p:aL):(remT t p).2.length<=136:=by
 rw[zbR5 h];have:∀l:List aB,(l.flatMap (remE p)).length<=17*l.length:=by
  intro l;induction l with
  |nil=>simp
  |cons q l ih=>rw[jV,cD,List.length_cons];have:=zcE5 p q;omega
 have h1:=this t;have h2:=h.len;show(t.flatMap (remE p)).length<=136;omega
theorem zcc0{q:aB}(hs:SoundP q){w:aU}(hw:w∈ordQ q):zd2 w.aK=true/\za2 q.aA w.aM=true/\(zx2 w.aK q.aP).length+1<=8:=by
 have hvh:=(zU8 _ _).1 hs.hv;rcases cR.1 hw with h|h
 .obtain⟨h1,h2,_⟩:=hs.cg w h;refine⟨(hvh.2.2.1.each _ (zaS8 h1)).1,h2,?_⟩;have:=zbH2 (zbc5 hs.hv) h1;omega
 .have h1:=hs.wg w h;have h2:=((zay0 _).1 hs.wv).2.1 w h;refine⟨?_,h1.1,?_⟩
  .rw[<-zaO9]at h2;unfold zC0 at h2;rw[zaS5]at h2;simp only[bU]at h2;exact h2.1.1.1.1.1
  .have:=hs.wl;have h3:=zaS4 w.aK q.aP;have:0<q.aT.length:=List.length_pos_of_mem h;omega
inductive StepQ (q:aB):aB->Prop where
 |same:StepQ q q
 |claim (p:aL) (a:aC) (pr:Int) (h:(zA2 q p a pr).2.2=0):StepQ q (zA2 q p a pr).1
 |cancel (p:aL) (h:(zH1 q p).2.2=0):StepQ q (zH1 q p).1
 |lower (p:aL) (a:aC) (h:(zI5 q p a).2.2=0):StepQ q (zI5 q p a).1
 |remove (p:aL) (h:(zJ2 q p).2.2=0):StepQ q (zJ2 q p).1
theorem zat4{q x:aB}(h:zj6 q=true)(hx:StepQ q x):zj6 x=true/\x.aA=q.aA:=by
 have hr:∀y:aB,(zI4 y).1.aA=y.aA:=λ y=>(zcV7 y).2;cases hx with
 |same=>exact⟨h,rfl⟩
 |claim p a pr h0=>
  obtain⟨_,_,_,_,_,hh⟩:=zbc7 h0;rcases hh with⟨_,e⟩|⟨_,_,e,hs⟩|⟨_,_,_,e,hs⟩
  .rw[e];exact⟨h,rfl⟩
  .rw[e,hr];exact⟨zab1 hs,rfl⟩
  .rw[e,hr];exact⟨zab1 hs,rfl⟩
 |cancel p h0=>obtain⟨_,_,_,e,hs⟩:=zaI1 h0;rw[e,hr];exact⟨zab1 hs,rfl⟩
 |lower p a h0=>
  obtain⟨_,_,_,_,_,hh⟩:=zaQ0 h0;rcases hh with⟨_,e⟩|⟨_,e,hs⟩
  .rw[e];exact⟨h,rfl⟩
  .rw[e,hr];exact⟨zab1 hs,rfl⟩
 |remove p h0=>obtain⟨_,_,_,e,hs⟩:=zbf9 h0;rw[e,hr];exact⟨zab1 hs,rfl⟩
theorem zaX4(q:aB)(x:aL):hasQ (zI4 q).1 x=hasQ q x:=by rw[zJ3,zcW0,zcV9]
theorem zde8{q:aB}{p:aL}{a:aC}{pr:Int}(h:(zA2 q p a pr).2.2=0){x:aL}(hx:hasQ (zA2 q p a pr).1 x=true):hasQ q x=true\/x=p:=by
 obtain⟨_,_,_,_,_,hh⟩:=zbc7 h;rcases hh with⟨_,e⟩|⟨_,_,e,_⟩|⟨_,_,_,e,_⟩
 .rw[e]at hx;exact .inl hx
 .rw[e,zaX4,zD5]at hx;rcases hx with⟨w,hw,ew⟩|hx
  .unfold ordQ claimC at hw;simp only[cR,dN]at hw;rcases hw with(hw|hw)|hw
   .exact .inl ((zD5 q x).2 (.inl ⟨w,dJ _ hw,ew⟩))
   .rw[hw]at ew;exact .inr ew.symm
   .exact .inl ((zD5 q x).2 (.inl ⟨w,cY _ hw,ew⟩))
  .exact .inl ((zD5 q x).2 (.inr hx))
 .rw[e,zaX4,zD5]at hx;rcases hx with⟨w,hw,ew⟩|hx
  .unfold ordQ claimW zbc2 at hw;simp only[cR,cF,cI]at hw;rcases hw with hw|hw|hw|⟨y,hy,rfl⟩
   .exact .inl ((zD5 q x).2 (.inl ⟨w,dJ _ hw,ew⟩))
   .exact .inl ((zD5 q x).2 (.inl ⟨w,cY _ (fV hw),ew⟩))
   .rw[hw]at ew;exact .inr ew.symm
   .exact .inl ((zD5 q x).2 (.inl ⟨y,cY _ (gX hy),ew⟩))
  .exact .inl ((zD5 q x).2 (.inr hx))
theorem zcO0{q:aB}{p:aL}(h:(zH1 q p).2.2=0){x:aL}(hx:hasQ (zH1 q p).1 x=true):hasQ q x=true:=by
 obtain⟨_,_,_,e,_⟩:=zaI1 h;rw[e,zaX4,zD5]at hx;rcases hx with⟨w,hw,ew⟩|hx
 .unfold ordQ zaE0 at hw;simp only[cR,zaP0]at hw;rcases hw with hw|hw
  .exact(zD5 q x).2 (.inl ⟨w,dJ _ hw.1,ew⟩)
  .exact(zD5 q x).2 (.inl ⟨w,cY _ hw.1,ew⟩)
 .exact(zD5 q x).2 (.inr hx)
theorem zde9{q:aB}{p:aL}{a:aC}(h:(zI5 q p a).2.2=0){x:aL}(hx:hasQ (zI5 q p a).1 x=true):hasQ q x=true:=by
 obtain⟨_,_,hp,_,_,hh⟩:=zaQ0 h;rcases hh with⟨_,e⟩|⟨_,e,_⟩
 .rw[e]at hx;exact hx
 .rw[e,zaX4,zD5]at hx;rcases hx with hx|hx
  .exact(zD5 q x).2 (.inl hx)
  .refine(zD5 q x).2 (.inr ?_)
   by_cases e:x=p
   .rw[e];exact hp
   .unfold zaI0 at hx;rwa [zJ1 e]at hx
theorem ValidT.set{t:List aB}(h:ValidT t){i:Nat}(hi:i<t.length){q:aB}(p:aL)(h1:zj6 q=true)(h2:q.aA=(t.getD i aB.zero).aA)(h3:∀x,hasQ q x=true->x∈zB8 t\/x=p)
  (h4:zbo7 t p=false):ValidT (t.set i q):=by
 have he:∀y∈t.set i q,zj6 y=true:=λ y hy=>by
  rcases iG hy with hy|rfl
  .exact h.each y hy
  .exact h1
 refine⟨by rw[eA];exact h.len,he,?_,?_⟩
 .have ha:=h.asc;unfold AscN at*;rw[dU]at ha⊢;have hr:∀k (hk:k<(t.set i q).length),((t.set i q)[k]).aA=(t[k]'(by rw[eA]at hk;exact hk)).aA:=λ k hk=>by
   rw[List.getElem_set];split
   .next e=>subst e;rw[h2,bW,bZ hi];rfl
   .rfl
  intro a b hla hlb hab;rw[hr a hla,hr b hlb];exact ha a b _ _ hab
 .have hsub:∀x∈zB8 (t.set i q),x∈zB8 t\/x=p:=λ x hx=>by
   obtain⟨y,hy,hp⟩:=(zV0 he).1 hx;rcases iG hy with hy|rfl
   .exact .inl ((zV0 h.each).2 ⟨y,hy,hp⟩)
   .exact h3 x hp
  have hpl:=h.aG
  by_cases hp:p∈zB8 t
  .refine eC (dL (zaP2 _) (l₂:=zB8 t) λ x hx=>?_) hpl;rcases hsub x hx with hx|rfl
   .exact hx
   .exact hp
  .have h5:(zB8 t).length<8:=by
    unfold zbo7 at h4;simp only[hp,cJ,dC,fM,cL]at h4;omega
   have:=dL (zaP2 (t.set i q)) (l₂:=p::zB8 t) λ x hx=>by
    rcases hsub x hx with hx|rfl
    .exact .tail _ hx
    .exact .head _
   rw[List.length_cons]at this;omega
theorem zaE4{t:List aB}(h:ValidT t){i:Nat}(hi:i<t.length){x:aL}(hx:hasQ (t.getD i aB.zero) x=true):x∈zB8 t:=(zV0 h.each).2 ⟨_,zd5 hi,hx⟩
theorem zct3{t:List aB}{p:aL}(h:p∈zB8 t):zbo7 t p=false:=by unfold zbo7;simp[h]
theorem zdv2{t:List aB}{nm:ByteArray}{f:aB->ResT}(h:(atT t nm f).2.2=0):ValidT t/\∃i:Nat,zA5 t nm=i/\i<t.length/\(t.getD i aB.zero).aA.name=nm/\atT t nm f=f (t.getD i aB.zero):=by
 unfold atT at h⊢;cases hv:zay2 t with
 |false=>rw[hv,bX rfl]at h;exact absurd h (by decide)
 |true=>
  rw[hv,bV (by decide)]at h;rw[bV (by decide)]
  by_cases hf:zA5 t nm<0
  .rw[bX hf]at h;exact absurd h (by decide)
  .rw[bV hf];rcases zaT3 (t:=t) (nm:=nm)with h1|⟨i,h1,h2,h3⟩
   .omega
   .exact⟨(zR3 t).1 hv,i,h1,h2,h3,by rw[h1];rfl⟩
theorem zcO1{t:List aB}{nm:ByteArray}{x:aB×List bA×Int}{ev:List bJ}(h:(putT t nm x ev).2.2=0):x.2.2=0/\putT t nm x ev=(zcb7 t (zA5 t nm) x.1,ev++zat3 nm x.2.1,0):=by
 unfold putT at h|-
 by_cases e:x.2.2=0
 .rw[bX e];exact⟨e,rfl⟩
 .rw[bV e]at h;exact absurd h e
theorem zbd1(t:List aB)(i:Nat)(q:aB):zcb7 t (i:Int) q=t.set i q:=by unfold zcb7;rw[bX (by omega)];rfl
theorem zdf0{t:List aB}{p:aL}{a:aJ}{pr:Int}(h:(zbg2 t p a pr).2.2=0):∃i:Nat,i<t.length/\(t.getD i aB.zero).aA.name=a.name/\zA5 t a.name=i/\(zA2 (t.getD i aB.zero) p a.aM pr).2.2=0/\(zbg2 t p a pr).1=t.set i (zA2 (t.getD i aB.zero) p a.aM pr).1/\ValidT t/\ValidT (zbg2 t p a pr).1:=by
 unfold zbg2 at h⊢;obtain⟨hv,i,h1,h2,h3,e⟩:=zdv2 h;rw[e]at h⊢;cases hfu:zbo7 t p with
 |true=>rw[hfu,bX rfl]at h;exact absurd h (by decide)
 |false=>
  rw[hfu,bV (by decide)]at h;rw[bV (by decide)];obtain⟨e0,e1⟩:=zcO1 h;rw[e1,h1,zbd1];have hq:=hv.each _ (zd5 (z:=aB.zero) h2);have hs:=zat4 hq (.claim p a.aM pr e0);refine⟨i,h2,h3,rfl,e0,rfl,hv,hv.set h2 p hs.1 hs.2 (λ x hx=>?_) hfu⟩;rcases zde8 e0 hx with hx|hx
  .exact .inl (zaE4 hv h2 hx)
  .exact .inr hx
theorem zcO2{t:List aB}{p:aL}{nm:ByteArray}(h:(zaP1 t p nm).2.2=0):∃i:Nat,i<t.length/\(zaP1 t p nm).1=t.set i (zH1 (t.getD i aB.zero) p).1/\ValidT t/\ValidT (zaP1 t p nm).1:=by
 unfold zaP1 at h⊢;obtain⟨hv,i,h1,h2,h3,e⟩:=zdv2 h;rw[e]at h⊢;obtain⟨e0,e1⟩:=zcO1 h;rw[e1,h1,zbd1];have hq:=hv.each _ (zd5 (z:=aB.zero) h2);have hs:=zat4 hq (.cancel p e0);obtain⟨_,_,hw,_,_⟩:=zaI1 e0;have hp:hasQ (t.getD i aB.zero) p=true:=by unfold hasQ;rw[hw];rfl
 exact⟨i,h2,rfl,hv,hv.set h2 p hs.1 hs.2 (λ x hx=>.inl (zaE4 hv h2 (zcO0 e0 hx))) (zct3 (zaE4 hv h2 hp))⟩
theorem zdf1{t:List aB}{p:aL}{a:aJ}(h:(zaI5 t p a).2.2=0):∃i:Nat,i<t.length/\(zaI5 t p a).1=t.set i (zI5 (t.getD i aB.zero) p a.aM).1/\ValidT t/\ValidT (zaI5 t p a).1:=by unfold zaI5 at h⊢;obtain⟨hv,i,h1,h2,h3,e⟩:=zdv2 h;rw[e]at h⊢;obtain⟨e0,e1⟩:=zcO1 h;rw[e1,h1,zbd1];have hq:=hv.each _ (zd5 (z:=aB.zero) h2);have hs:=zat4 hq (.lower p a.aM e0);obtain⟨_,_,hp0,_,_,_⟩:=zaQ0 e0;have hp:hasQ (t.getD i aB.zero) p=true:=(zD5 _ _).2 (.inr hp0);exact⟨i,h2,rfl,hv,hv.set h2 p hs.1 hs.2 (λ x hx=>.inl (zaE4 hv h2 (zde9 e0 hx))) (zct3 (zaE4 hv h2 hp))⟩
theorem zdv3(u:bL):(catL u).Pairwise (λ a b=>ltN a.name b.name):=by
 have h:∀x y:UInt8,x<y->ltN ⟨#[x]⟩ ⟨#[y]⟩:=by intro x y hxy;unfold ltN;rw[ByteArray.toList_eq,ByteArray.toList_eq];simp[Op.bytesLess,hxy]
 unfold catL;simp only[cX,cF,hY,kG,forall_eq_or_imp,forall_eq,List.Pairwise.nil,iW,hJ,eD];refine⟨⟨?_,?_,?_,?_,?_⟩,⟨?_,?_,?_,?_⟩,⟨?_,?_,?_⟩,⟨?_,?_⟩,?_⟩<;>exact h _ _ (by decide)
theorem zdv4(u:bL):catV (catL u)=true:=by rw[zbd0];exact⟨by show 6<=8;decide,zcN4 u,zdv3 u⟩
theorem zcm4{r:aH}(x:aL):hasQ (zau8 r) x=false:=by
 rw[dP,Ne,zD5];rintro(⟨w,hw,_⟩|h)
 .cases hw
 .exact h rfl
theorem zcm5{l:List aH}(h:catV l=true):ValidT (l.map zau8):=by
 obtain⟨h1,h2,h3⟩:=(zbd0 l).1 h;have he:∀q∈l.map zau8,zj6 q=true:=λ q hq=>by obtain⟨r,hr,rfl⟩:=cI.1 hq;exact zcg8 (h2 r hr)
 refine⟨by rw[dB];exact h1,he,?_,?_⟩
 .unfold AscN;rw[iI];exact h3
 .have:zB8 (l.map zau8)=[]:=by
   refine List.eq_nil_iff_forall_not_mem.2 λ x hx=>?_;obtain⟨q,hq,hp⟩:=(zV0 he).1 hx;obtain⟨r,_,rfl⟩:=cI.1 hq;rw[zcm4]at hp;cases hp
  rw[this];exact fD _
def sayE(nm:ByteArray)(a:aC)(e:bC):aC:=if e.name=nm then e.after else a
def zg0(l:List bC)(nm:ByteArray):aC:=l.foldl (sayE nm) aC.zero
theorem zx3{α:Type}{l:List α}{i:Nat}(z:α)(h:i<l.length):l.take (i+1)=l.take i++[l.getD i z]:=by rw[List.take_add_one,bZ h,bW,bZ h];rfl
theorem zV1(l:List bC)(e:bC)(nm:ByteArray):zg0 (l++[e]) nm=if e.name=nm then e.after else zg0 l nm:=by unfold zg0;rw[kP];rfl
theorem zP0(a b:ByteArray):(a.toList==b.toList)=decide (a=b):=by
 by_cases h:a=b
 .simp[h]
 .rw[eE h];cases hb:a.toList==b.toList with
  |false=>rfl
  |true=>exact absurd (zaq7.1 (dK.1 hb)) h
theorem zad7(l:List bC)(nm:ByteArray)(hl:l.length<=1000000):zj7 l nm=some (zg0 l nm):=by
 unfold zj7;obtain⟨x,h1,h2⟩:=zq9 (body:=zaw6 l nm) (λ g=>∃i:Nat,g.1=i/\i<=l.length/\g.2=zg0 (l.take i) nm) (λ g=>l.length-g.1.toNat) (λ x=>x=zg0 l nm)
  (λ g ⟨i,hi,hle,hg⟩=>by
   obtain⟨g1,g2⟩:=g;simp only at hi hg;subst hi;unfold zaw6
   by_cases c:i<l.length
   .left;have h3:0<=(i:Int)/\(i:Int)<(l.length:Int):=by omega
    simp only[h3.1,h3.2,cS,zg9,cA,cC,Int.toNat_natCast,zP0,bY,zc4 i (show i<4611686018427387904 by omega)];refine⟨((i+1:Nat),zg0 (l.take (i+1)) nm),?_,⟨i+1,rfl,c,rfl⟩,by simp only[Int.toNat_natCast];omega⟩;rw[zx3 bC.zero c,zV1]
    by_cases e:(l.getD i bC.zero).name=nm
    .rw[bX e,bX e]
    .rw[bV e,bV e,hg]
   .right;have e:i=l.length:=by omega
    refine⟨g2,?_,by rw[hg,e,dH]⟩;simp only[show¬(i:Int)<(l.length:Int)by omega,cJ,bT,cB]) (0,aC.zero) ⟨0,rfl,by omega,rfl⟩
 rw[h1,Option.bind_some,h2];rfl
def zcc1(nm:ByteArray)(s:List ByteArray):Bool:=s.any λ n=>decide (n=nm)
theorem zcm6{nm:ByteArray}{s:List ByteArray}:zcc1 nm s=true↔nm∈s:=by unfold zcc1;rw[kX];exact⟨λ⟨n,h1,h2⟩=>fY h2▸h1,λ h=>⟨nm,h,by simp⟩⟩
theorem zdf2(l:List bC)(i:Nat)(hi:i<l.length)(s:List ByteArray)(hl:s.length<=1000000)(v:Int×List ByteArray)(hv:v=((i:Int),s)):
  zc2 (zaf2 l v) (false,0)=some (zcc1 (l.getD i bC.zero).name s):=by
 subst hv;obtain⟨x,h1,h2⟩:=zq9 (body:=zaf2 l ((i:Int),s)) (λ g=>∃k:Nat,g.2=k/\k<=s.length/\g.1=zcc1 (l.getD i bC.zero).name (s.take k)) (λ g=>s.length-g.2.toNat) (λ x=>x=zcc1 (l.getD i bC.zero).name s)
  (λ g ⟨k,hk,hle,hg⟩=>by
   obtain⟨g1,g2⟩:=g;simp only at hk hg;subst hk;unfold zaf2
   by_cases c:k<s.length
   .left;have h3:0<=(k:Int)/\(k:Int)<(s.length:Int):=by omega
    have h4:0<=(i:Int)/\(i:Int)<(l.length:Int):=by omega
    simp only[h3.1,h3.2,h4.1,h4.2,cS,eD,zg9,cA,cC,Int.toNat_natCast,zP0,zc4 k (show k<4611686018427387904 by omega)];refine⟨_,rfl,⟨k+1,rfl,c,?_⟩,by simp only[Int.toNat_natCast];omega⟩;rw[zx3 (⟨#[]⟩:ByteArray) c,hg];simp only[zcc1,List.any_append,List.any_cons,List.any_nil,jH]
   .right;have e:k=s.length:=by omega
    refine⟨g1,?_,by rw[hg,e,dH]⟩;simp only[show¬(k:Int)<(s.length:Int)by omega,cJ,bT,cB]) (false,0) ⟨0,rfl,by omega,by simp[zcc1]⟩
 rw[h1,h2]
theorem zcE6:∀{x y:List UInt8},Op.bytesLess x y=false->x=y\/Op.bytesLess y x=true
 |[],[],_=>.inl rfl
 |[],_::_,h=>by simp[Op.bytesLess]at h
 |_::_,[],_=>.inr (by simp[Op.bytesLess])
 |a::x,b::y,h=>by
  simp only[Op.bytesLess,fU,iD,cL,beq_eq_false_iff_ne,ne_eq]at h;simp only[Op.bytesLess,dI,bU,bY,dK];obtain⟨h1,h2⟩:=h;rcases h2 with h2|h2
  .exact .inr (.inl (Nat.lt_of_le_of_ne (Nat.le_of_not_lt h1) λ e=>h2 (UInt8.toNat_inj.1 e.symm)))
  .by_cases e:a=b
   .subst e;rcases zcE6 h2 with k|k
    .exact .inl (by rw[k])
    .exact .inr (.inr ⟨rfl,k⟩)
   .exact .inr (.inl (Nat.lt_of_le_of_ne (Nat.le_of_not_lt h1) λ k=>e (UInt8.toNat_inj.1 k.symm)))
theorem zdf3{a b:ByteArray}(h:¬ltN a b)(ne:a≠b):ltN b a:=by
 unfold ltN at*;rcases zcE6 (dP.2 h)with k|k
 .exact absurd (zaq7.1 k) ne
 .exact k
theorem zaM1{α:Type}(P B:List α)(x z:α):(P++x::B).getD P.length z=x:=by rw[bW,fC (dA _),gG];rfl
theorem zbr7{α:Type}(P B:List α)(x z:α):(P++x::B).set P.length z=P++z::B:=by rw[gR _ _ (dA _),gG];rfl
theorem zcO3{A:List ByteArray}{x:ByteArray}(h:A.Pairwise ltN)(hx:x∉A)(hl:A.length<=1000000):
  ∃y,zc2 zaf0 ((A.length:Int),A++[x])=some y/\y.Perm (x::A)/\y.Pairwise ltN:=by
 refine zq9 (body:=zaf0) (λ g=>∃P B:List ByteArray,g.1=P.length/\g.2=P++x::B/\(∀b∈B,ltN x b)/\P++B=A) (λ g=>g.1.toNat) (λ y=>y.Perm (x::A)/\y.Pairwise ltN) ?_ _ ⟨A,[],rfl,rfl,(λ b hb=>nomatch hb),dX A⟩;rintro⟨i,l⟩ ⟨P,B,h1,h2,h3,h4⟩;simp only at h1 h2;subst h1;subst h2;have hlen:P.length+B.length=A.length:=by rw[<-h4,cD]
 have hA:=h;rw[<-h4]at hA;unfold zaf0;rcases iS P with rfl|⟨Q,y,rfl⟩
 .right;refine⟨x::B,?_,?_,cX.2 ⟨h3,hA⟩⟩
  .simp only[List.length_nil,Int.cast_ofNat_Int,eR,cJ,bT,hJ,zg9,eN,cB,List.nil_append]
  .rw[<-h4];exact .refl _
 .simp only[List.concat_eq_append]at hlen h4 hA⊢;simp only[cD,List.length_singleton]at hlen⊢;have e1:IntKind.i64.wrap (((Q.length+1:Nat):Int)-1)=(Q.length:Int):=by rw[zj1 (by omega) (by omega)];omega
  have ex:(Q++[y]++x::B).getD (Q.length+1) ⟨#[]⟩=x:=by have:=zaM1 (Q++[y]) B x ⟨#[]⟩;rwa [cD,List.length_singleton]at this
  have ey:(Q++[y]++x::B).getD Q.length ⟨#[]⟩=y:=by rw[dD];exact zaM1 Q (x::B) y _
  have hyx:x≠y:=λ e=>hx (by rw[<-h4,e];simp);rw[e1,show((Q.length+1:Nat):Int).toNat=Q.length+1 from Int.toNat_natCast _,show((Q.length:Nat):Int).toNat=Q.length from Int.toNat_natCast _,ex,ey];have hg:(0:Int)<=((Q.length+1:Nat):Int)/\((Q.length+1:Nat):Int)<((Q.length+1+(x::B).length:Nat):Int):=by rw[List.length_cons];omega
  have hg2:(0:Int)<=(Q.length:Int)/\(Q.length:Int)<((Q.length+1+(x::B).length:Nat):Int):=by rw[List.length_cons];omega
  simp only[hg.1,hg.2,hg2.1,hg2.2,cS,eD,zg9,show(0:Int)<((Q.length+1:Nat):Int)by omega,cA,cK]
  by_cases c:ltN x y
  .left;rw[bX (show Op.bytesLess x.toList y.toList=true from c)];refine⟨_,rfl,⟨Q,y::B,rfl,?_,λ b hb=>?_,by rw[<-h4,dD];rfl⟩,by simp only;omega⟩
   .show((Q++[y]++x::B).set (Q.length+1) y).set Q.length x=_;have s1:=zbr7 (Q++[y]) B x y;rw[cD,List.length_singleton]at s1;rw[s1,dD];exact zbr7 Q (y::B) y x
   .rcases cF.1 hb with rfl|hb
    .exact c
    .exact h3 b hb
  .right;rw[bV (show¬Op.bytesLess x.toList y.toList=true from c)];refine⟨_,rfl,?_,?_⟩
   .rw[<-h4];exact kW
   .have hyl:=zdf3 c hyx;have hp:=eO.1 hA;refine eO.2 ⟨hp.1,cX.2 ⟨h3,hp.2.1⟩,λ a ha b hb=>?_⟩;have hax:ltN a x:=by
     rcases cR.1 ha with ha|ha
     .exact zaQ1 ((eO.1 hp.1).2.2 a ha y (by simp)) hyl
     .rw[dN.1 ha];exact hyl
    rcases cF.1 hb with rfl|hb
    .exact hax
    .exact zaQ1 hax (h3 b hb)
theorem zaN4(l:List bC)(hl:l.length<=1000000):∃ns,zj3 l=some ns/\ns.Pairwise ltN/\∀n,n∈ns↔∃e∈l,e.name=n:=by
 unfold zj3;obtain⟨x,h1,h2⟩:=zq9 (body:=zaf3 l) (λ g=>∃i:Nat,g.1=i/\i<=l.length/\g.2.length<=i/\g.2.Pairwise ltN/\∀n,n∈g.2↔∃e∈l.take i,e.name=n) (λ g=>l.length-g.1.toNat)
  (λ x=>x.Pairwise ltN/\∀n,n∈x↔∃e∈l,e.name=n)
  (λ g ⟨i,hi,hle,hlen,hasc,hg⟩=>by
   obtain⟨g1,g2⟩:=g;simp only at hi hlen hg hasc;subst hi;unfold zaf3
   by_cases c:i<l.length
   .left;have h3:0<=(i:Int)/\(i:Int)<(l.length:Int):=by omega
    simp only[h3.2,cA,cC];rw[zdf2 l i c g2 (by omega) _ rfl,Option.bind_some];unfold zaf1;have hmem:∀n,(∃e∈l.take (i+1),e.name=n)↔n∈g2\/n=(l.getD i bC.zero).name:=λ n=>by rw[zx3 bC.zero c,hg];simp only[cR,dN,or_and_right,exists_or,exists_eq_left];exact or_congr lB ⟨Eq.symm,Eq.symm⟩
    by_cases hs:(l.getD i bC.zero).name∈g2
    .rw[bX (zcm6.2 hs)];refine⟨_,by rw[zc4 i (by omega)],⟨i+1,rfl,c,by simp only;omega,hasc,λ n=>?_⟩,by simp only[Int.toNat_natCast];omega⟩;rw[hmem];exact⟨Or.inl,λ h=>h.elim id λ h=>h▸hs⟩
    .rw[bV (λ h=>hs (zcm6.1 h)),gdp h3,gdp (by simp only;omega)];obtain⟨y,e1,e2,e3⟩:=zcO3 hasc hs (by omega);rw[show IntKind.i64.wrap (((g2.length+1:Nat):Int)-1)=(g2.length:Int)by rw[zj1 (by omega) (by omega)];omega,show(i:Int).toNat=i from Int.toNat_natCast i,e1,Option.bind_some];unfold zaG3;refine⟨_,by rw[zc4 i (by omega)],⟨i+1,rfl,c,by have:=e2.length_eq;simp only[List.length_cons]at this;simp only;omega,e3,λ n=>?_⟩,by simp only[Int.toNat_natCast];omega⟩;rw[hmem,e2.mem_iff,cF];exact or_comm
   .right;have e:i=l.length:=by omega
    refine⟨g2,?_,hasc,λ n=>by rw[hg,e,dH]⟩;simp only[show¬(i:Int)<(l.length:Int)by omega,cJ,bT,cB]) (0,[]) ⟨0,rfl,by omega,by simp,.nil,λ n=>by simp⟩
 exact⟨x,by rw[h1,Option.bind_some];rfl,h2⟩
theorem zad8(a:aC):zn0 a=true↔(1<=a.mode/\a.mode<=5/\a.aS=0)\/(a.mode=0/\1<=a.aS/\a.aS<=8):=by unfold zn0 zB9;simp only[dI,bU,bY];omega
def rkM(m:Int):Nat:=if m=5 then 4 else if m=4 then 3 else if m=1 then 1 else 2
def rkA(a:aC):Nat:=if a.mode=0 then a.aS.toNat else rkM a.mode
theorem zdv5{a b:aC}(h:zv7 a b=true):rkA a<rkA b/\rkA b<=8:=by
 unfold zv7 at h
 by_cases h1:((!(zn0 b))||(decide (a=b)))=true
 .rw[bX h1]at h;cases h
 .rw[bV h1]at h;simp only[dI,cP,bY,kD,fB]at h1;obtain⟨ub,ne⟩:=h1;have ub:=(zad8 b).1 ub;have hb:rkA b<=8:=by
   unfold rkA rkM
   repeat' split
   all_goals omega
  refine⟨?_,hb⟩
  by_cases h2:a=({aC.zero with}:aC)
  .subst h2;show rkA aC.zero<rkA b;unfold rkA rkM;simp only[aC.zero,cC]
   repeat' split
   all_goals omega
  .rw[bV (by simpa using h2)]at h
   by_cases h3:(!(zn0 a))=true
   .rw[bX h3]at h;cases h
   .rw[bV h3]at h;have ua:=(zad8 a).1 (by simpa using h3)
    by_cases ma:a.mode=0
    .rw[bV (by simp[ma])]at h;have h:=fY h;unfold rkA;rw[bX ma,bX (by omega)];omega
    .rw[bX (by simp[ma])]at h;have hc:=(zaL8 b.mode a.mode).1 h;have hm:a.mode≠b.mode:=λ e=>ne (by
      cases a;cases b;simp only at e ua ub ma⊢;subst e;congr 1;omega)
     unfold rkA rkM;rw[bV ma,bV (by omega)]
     repeat' split
     all_goals omega
def rkN(l:List bC):List ByteArray->Nat
 |[]=>0
 |n::ns=>rkA (zg0 l n)+rkN l ns
theorem zcE7(l:List bC)(e:bC):∀ns:List ByteArray,e.name∉ns->rkN (l++[e]) ns=rkN l ns
 |[],_=>rfl
 |n::ns,h=>by have h1:e.name≠n:=λ h2=>h (by rw[h2];exact .head _);have h3:=zcE7 l e ns λ h2=>h (.tail _ h2);simp only[rkN,zV1,bV h1,h3]
theorem zcE8(l:List bC)(e:bC)(hg:rkA (zg0 l e.name)<rkA e.after):∀ns:List ByteArray,ns.Nodup->e.name∈ns->rkN l ns<rkN (l++[e]) ns
 |[],_,h=>nomatch h
 |n::ns,hn,h=>by
  have hc:=fL.1 hn
  by_cases c:e.name=n
  .have h1:=zcE7 l e ns (by rw[c];exact hc.1);simp only[rkN,zV1,bX c,h1];rw[c]at hg;omega
  .have h1:=zcE8 l e hg ns hc.2 ((cF.1 h).resolve_left c);simp only[rkN,zV1,bV c];omega
theorem zdv6(l:List bC)(h:∀n,rkA (zg0 l n)<=8):∀ns:List ByteArray,rkN l ns<=8*ns.length
 |[]=>dA _
 |n::ns=>by have:=zdv6 l h ns;have:=h n;simp only[rkN,List.length_cons];omega
theorem zt8{α:Type}{l:List α}{z x:α}(h:x∈l):∃i,i<l.length/\l.getD i z=x:=by obtain⟨i,hi,e⟩:=eY.1 h;exact⟨i,hi,by rw[bW,bZ hi];exact e⟩
theorem zbI1(l:List bK)(x:Int)(hl:l.length<=1000000):∃v,zl9 l x=some v/\(v=-1/\(∀s∈l,s.label≠x)\/∃i:Nat,v=i/\i<l.length/\(l.getD i bK.zero).label=x/\∀j,j<i->(l.getD j bK.zero).label≠x):=by
 unfold zl9;rw[zaQ2 l bK.zero (λ a=>decide (a.label=x)) (λ i hi=>by
  unfold zaw9;have h3:0<=(i:Int)/\(i:Int)<(l.length:Int):=by omega
  simp only[h3.1,h3.2,cS,zg9,cA,cC,Int.toNat_natCast,zc4 i (show i<4611686018427387904 by omega)];split<;>rfl) (by unfold zaw9;simp)]
 have gg:∀k,(hk:k<l.length)->l.getD k bK.zero=l[k]:=λ k hk=>by rw[bW,bZ hk];rfl
 cases h:l.findIdx? λ a=>decide (a.label=x)with
 |none=>refine⟨-1,rfl,.inl ⟨rfl,λ s hs e=>?_⟩⟩;have:=fJ.1 h s hs;simp[e]at this
 |some i=>obtain⟨h1,h2,h3⟩:=eT.1 h;refine⟨i,rfl,.inr ⟨i,rfl,h1,by rw[gg i h1];exact fY h2,λ j hj e=>?_⟩⟩;rw[gg j (by omega)]at e;exact absurd (cG e) (h3 j hj)
def zaX5(l:aW)(i:Nat):Prop:=1<=(l.aY.getD i bK.zero).label/\(l.aY.getD i bK.zero).label<=99/\0<=(l.aY.getD i bK.zero).at_/\(l.aY.getD i bK.zero).at_<=(l.aD.length:Int)/\
 (0<i->(l.aY.getD (i-1) bK.zero).at_<=(l.aY.getD i bK.zero).at_)/\∀j,j<i->(l.aY.getD j bK.zero).label≠(l.aY.getD i bK.zero).label
def EntV(l:List bC)(i:Nat):Prop:=zE5 (l.getD i bC.zero).name=true/\(l.getD i bC.zero).before=zg0 (l.take i) (l.getD i bC.zero).name/\zv7 (l.getD i bC.zero).before (l.getD i bC.zero).after=true
structure LedgerP (l:aW):Prop where
 le:l.aD.length<=72
 ls:l.aY.length<=4
 ent:∀i,i<l.aD.length->EntV l.aD i
 n8:∀ns:List ByteArray,ns.Nodup->(∀n∈ns,∃e∈l.aD,e.name=n)->ns.length<=8
 sv:∀i,i<l.aY.length->zaX5 l i
theorem LedgerP.grow{l:aW}(h:LedgerP l):∀i,i<l.aD.length->(l.aD.getD i bC.zero).before=zg0 (l.aD.take i) (l.aD.getD i bC.zero).name/\zv7 (l.aD.getD i bC.zero).before (l.aD.getD i bC.zero).after=true:=λ i hi=>(h.ent i hi).2
theorem LedgerP.at_{l:aW}(h:LedgerP l):∀s∈l.aY,0<=s.at_/\s.at_<=(l.aD.length:Int):=λ s hs=>by obtain⟨i,hi,rfl⟩:=zt8 (z:=bK.zero) hs;have:=h.sv i hi;exact⟨this.2.2.1,this.2.2.2.1⟩
theorem zV2{body:Int->Option (Int⊕(Unit⊕Bool))}(n:Nat)(P:Nat->Prop)(h:∀i:Nat,i<n->∃b:Bool,body (i:Int)=some (if b=true then .inl ((i+1:Nat):Int)else .inr (.inr false))/\(b=true↔P i))(he:body (n:Int)=some (.inr (.inl ()))):
  zc2 body 0=some (.inr false)/\(¬∀i,i<n->P i)\/zc2 body 0=some (.inl ())/\∀i,i<n->P i:=by
 obtain⟨x,h1,h2⟩:=zq9 (body:=body) (λ g=>∃i:Nat,g=i/\i<=n/\∀k,k<i->P k) (λ g=>n-g.toNat) (λ x=>x=.inr false/\(¬∀i,i<n->P i)\/x=.inl ()/\∀i,i<n->P i)
  (λ g ⟨i,hi,hle,hg⟩=>by
   subst hi
   by_cases c:i<n
   .obtain⟨b,hb,hp⟩:=h i c;cases b with
    |false=>exact .inr ⟨_,hb,.inl ⟨rfl,λ hall=>by have:=hp.2 (hall i c);cases this⟩⟩
    |true=>exact .inl ⟨_,hb,⟨i+1,rfl,c,λ k hk=>by
      rcases fS k i with h5|h5
      .exact hg k h5
      .have:k=i:=by omega
       subst this;exact hp.1 rfl⟩,by simp only[Int.toNat_natCast];omega⟩
   .have:i=n:=by omega
    subst this;exact .inr ⟨_,he,.inr ⟨rfl,hg⟩⟩) 0 ⟨0,rfl,by omega,λ k hk=>by omega⟩
 rcases h2 with⟨rfl,h2⟩|⟨rfl,h2⟩
 .exact .inl ⟨h1,h2⟩
 .exact .inr ⟨h1,h2⟩
theorem zbs7(l:aW)(hl:l.aY.length<=4)(i:Nat)(c:i<l.aY.length):∃b:Bool,zaf9 l (i:Int)=some (if b=true then .inl ((i+1:Nat):Int)else .inr (.inr false))/\(b=true↔zaX5 l i):=by
 unfold zaf9;have h3:0<=(i:Int)/\(i:Int)<(l.aY.length:Int):=by omega
 simp only[h3.1,h3.2,cS,zg9,cA,cC,Int.toNat_natCast];rw[gdp (by
  intro h;simp only[bU,bY]at h;have:=h.2;rw[zj1 (by omega) (by omega)];omega)]
 obtain⟨v,hv,hv2⟩:=zbI1 l.aY ((l.aY.getD i bK.zero).label) (by omega);obtain⟨A,hA0,hA⟩:∃A:Bool,(((((decide ((l.aY.getD i bK.zero).label<1))||(decide (99<(l.aY.getD i bK.zero).label)))||(decide ((l.aY.getD i bK.zero).at_<0)))||(decide ((l.aD.length:Int)<(l.aY.getD i bK.zero).at_)))||((decide (0<(i:Int)))&&(decide ((l.aY.getD i bK.zero).at_<(l.aY.getD ((IntKind.i64.wrap ((i:Int)-1)).toNat) bK.zero).at_))))=A/\(A=false↔1<=(l.aY.getD i bK.zero).label/\(l.aY.getD i bK.zero).label<=99/\0<=(l.aY.getD i bK.zero).at_/\(l.aY.getD i bK.zero).at_<=(l.aD.length:Int)/\(0<i->(l.aY.getD (i-1) bK.zero).at_<=(l.aY.getD i bK.zero).at_)):=by
  refine⟨_,rfl,?_⟩;simp only[fU,iD,cL]
  by_cases c0:0<i
  .rw[zah8 i (by omega) c0,Int.toNat_natCast];constructor
   .rintro⟨⟨⟨⟨a1,a2⟩,a3⟩,a4⟩,a5⟩;exact⟨by omega,by omega,by omega,by omega,λ _=>by rcases a5 with a5|a5<;>omega⟩
   .rintro⟨a1,a2,a3,a4,a5⟩;exact⟨⟨⟨⟨by omega,by omega⟩,by omega⟩,by omega⟩,.inr (by have:=a5 c0;omega)⟩
  .constructor
   .rintro⟨⟨⟨⟨a1,a2⟩,a3⟩,a4⟩,a5⟩;exact⟨by omega,by omega,by omega,by omega,λ h=>absurd h c0⟩
   .rintro⟨a1,a2,a3,a4,a5⟩;exact⟨⟨⟨⟨by omega,by omega⟩,by omega⟩,by omega⟩,.inl (by omega)⟩
 simp only[hA0];cases A with
 |true=>exact⟨false,rfl,(λ h=>nomatch h),λ h=>(hA.2 ⟨h.1,h.2.1,h.2.2.1,h.2.2.2.1,h.2.2.2.2.1⟩).symm⟩
 |false=>
  have hs:=hA.1 rfl;simp only[dC,cC,hv,Option.bind_some,dM];rcases hv2 with⟨rfl,hn⟩|⟨k,rfl,hk,hkl,hkm⟩
  .exact absurd rfl (hn _ (zd5 c))
  .by_cases e:k=i
   .subst e;refine⟨true,by simp[zc4 k (show k<4611686018427387904 by omega)],λ _=>⟨hs.1,hs.2.1,hs.2.2.1,hs.2.2.2.1,hs.2.2.2.2,hkm⟩,λ _=>rfl⟩
   .refine⟨false,by simp;omega,(λ h=>nomatch h),λ h=>?_⟩;rcases fS k i with h5|h5
    .exact absurd hkl (h.2.2.2.2.2 k h5)
    .exact absurd rfl (hkm i (by omega))
theorem zbs8(l:aW)(hl:l.aD.length<=72)(i:Nat)(c:i<l.aD.length):∃b:Bool,zag1 l (i:Int)=some (if b=true then .inl ((i+1:Nat):Int)else .inr (.inr false))/\(b=true↔EntV l.aD i):=by
 unfold zag1 EntV;have h3:0<=(i:Int)/\(i:Int)<(l.aD.length:Int):=by omega
 simp only[h3.1,h3.2,cS,zg9,cA,cC,Int.toNat_natCast];rw[zaJ3,Option.bind_some,gdp (λ _=>by simp<;>omega),zad7 _ _ (by simp;omega)];cases hn:zE5 (l.aD.getD i bC.zero).name with
 |false=>exact⟨false,by simp,by simp⟩
 |true=>
  simp only[cC,Option.bind_some,cO,dM,fK]
  by_cases e1:(l.aD.getD i bC.zero).before=zg0 (l.aD.take i) (l.aD.getD i bC.zero).name
  .have hd:decide ((l.aD.getD i bC.zero).before=zg0 (l.aD.take i) (l.aD.getD i bC.zero).name)=true:=cG e1;cases e2:zv7 (l.aD.getD i bC.zero).before (l.aD.getD i bC.zero).after with
   |false=>exact⟨false,by simp only[dC,jT,cC,bT,cB],(λ h=>nomatch h),λ h=>h.2.symm▸rfl⟩
   |true=>exact⟨true,by simp only[hd,cO,eU,bT,cB,cC,zc4 i (show i<4611686018427387904 by omega)],λ _=>⟨e1,rfl⟩,λ _=>rfl⟩
  .have hd:decide ((l.aD.getD i bC.zero).before=zg0 (l.aD.take i) (l.aD.getD i bC.zero).name)=false:=eE e1;exact⟨false,by simp only[hd,dC,fZ,cC,bT,cB],(λ h=>nomatch h),λ h=>absurd h.1 e1⟩
theorem zbo9(l:List bC)(hl:l.length<=1000000):∃ns,zj3 l=some ns/\ns.length<=l.length/\∀n,n∈ns↔∃e∈l,e.name=n:=by
 obtain⟨ns,h1,h2,h3⟩:=zaN4 l hl;refine⟨ns,h1,?_,h3⟩;have:=dL (h2.imp zaZ0) (l₂:=l.map (·.name)) λ n hn=>by obtain⟨e,he,hn⟩:=(h3 n).1 hn;exact cI.2 ⟨e,he,hn⟩
 simpa using this
theorem zbp0(l:aW):∃b,zo8 l=some b/\(b=true↔LedgerP l):=by
 unfold zo8
 by_cases c:l.aD.length<=72/\l.aY.length<=4
 .rw[bV (by simp;omega)];rcases zV2 l.aD.length _ (λ i hi=>zbs8 l c.1 i hi) (by unfold zag1;simp)with⟨h1,h2⟩|⟨h1,h2⟩
  .exact⟨false,by rw[h1];rfl,(λ h=>nomatch h),λ h=>absurd h.ent h2⟩
  .rw[h1,Option.bind_some];show∃b,zag0 l ()=some b/\_;unfold zag0;obtain⟨ns,e1,e2,e3⟩:=zaN4 l.aD (by omega);have nd:=e2.imp (S:=(·≠·)) zaZ0;rw[e1,Option.bind_some]
   by_cases c8:(8:Int)<ns.length
   .exact⟨false,by rw[bX (by simpa using c8)],(λ h=>nomatch h),λ h=>by have:=h.n8 ns nd λ n hn=>(e3 n).1 hn;omega⟩
   .rw[bV (by simpa using c8)];rcases zV2 l.aY.length _ (λ i hi=>zbs7 l c.2 i hi) (by unfold zaf9;simp)with⟨h3,h4⟩|⟨h3,h4⟩
    .exact⟨false,by rw[h3];rfl,(λ h=>nomatch h),λ h=>absurd h.sv h4⟩
    .refine⟨true,by rw[h3];rfl,λ _=>⟨c.1,c.2,h2,λ ms hm hs=>?_,h4⟩,λ _=>rfl⟩;have:=dL hm (l₂:=ns) λ n hn=>(e3 n).2 (hs n hn);omega
 .exact⟨false,by rw[bX (by simp;omega)],(λ h=>nomatch h),λ h=>absurd ⟨h.le,h.ls⟩ c⟩
theorem zaq3{l:aW}(h:LedgerP l):zo8 l=some true:=by obtain⟨b,h1,h2⟩:=zbp0 l;rw[h1,h2.2 h]
theorem zcE9{l:List bC}(h:∀i,i<l.length->EntV l i){ns:List ByteArray}(hn:ns.Nodup)(h8:ns.length<=8)(hs:∀e∈l,e.name∈ns):l.length<=64:=by
 have key:∀i,i<=l.length->i<=rkN (l.take i) ns/\∀n,rkA (zg0 (l.take i) n)<=8:=by
  intro i;induction i with
  |zero=>intro _;exact⟨fD _,λ n=>by show rkA aC.zero<=8;decide⟩
  |succ i ih=>
   intro hi;obtain⟨h1,h2⟩:=ih (by omega);obtain⟨_,h4,h5⟩:=h i hi;have h6:=zdv5 h5;rw[h4]at h6;rw[zx3 bC.zero hi];refine⟨?_,λ n=>?_⟩
   .have:=zcE8 (l.take i) (l.getD i bC.zero) h6.1 ns hn (hs _ (zd5 hi));omega
   .rw[zV1];split
    .exact h6.2
    .exact h2 n
 obtain⟨h1,h2⟩:=key l.length (dA _);have:=zdv6 _ h2 ns;omega
end Ab
end Go.Proofs.YtenebhlnfjcffaaGreatDoor
