import Derived.Test.YtdlfhmkmnjbihaaGreatDoorHbA
import Derived.Test.YtdlfhmkmnjbihaaGreatDoorQueF
import Derived.Laws.Bits64
import Derived.Laws.BitsLemmas
import Derived.KernelRfl
namespace Go.Proofs.YtdlfhmkmnjbihaaGreatDoor
namespace Ab
set_option linter.unusedVariables false
set_option linter.unusedSimpArgs false
mutual
def zt8:aZ->Int
 |⟨_,_,ks⟩=>1+zv1 ks
def zv1:List aZ->Int
 |[]=>0
 |k::l=>max (zt8 k) (zv1 l)
end
mutual
def zs2:aZ->Int
 |⟨_,_,ks⟩=>1+zz5 ks
def zz5:List aZ->Int
 |[]=>0
 |k::l=>zs2 k+zz5 l
end
def zF1(a:aC):Bool:=zu4 a
mutual
def okE:aZ->Bool
 |⟨k,a,ks⟩=>if ks.length=0 then decide (k=0)&&zy8 a.name&&zF1 a.aJ else decide (1<=k)&&decide (k<=(ks.length:Int))&&decide (a=aO.zero)&&okL ks
def okL:List aZ->Bool
 |[]=>true
 |k::l=>okE k&&okL l
end
mutual
def zaI3:aZ->List aO
 |⟨_,a,ks⟩=>if ks.length=0 then[a]else zaw5 ks
def zaw5:List aZ->List aO
 |[]=>[]
 |k::l=>zaI3 k++zaw5 l
end
theorem zbO3(e:aZ):zt8 e=1+zv1 e.bE:=by cases e;rw[zt8]
theorem zaj7(e:aZ):zs2 e=1+zz5 e.bE:=by cases e;rw[zs2]
theorem zcA9(e:aZ):okE e=if e.bE.length=0 then decide (e.k=0)&&zy8 e.aW.name&&zF1 e.aW.aJ else decide (1<=e.k)&&decide (e.k<=(e.bE.length:Int))&&decide (e.aW=aO.zero)&&okL e.bE:=by cases e;rw[okE]
theorem zaS3(e:aZ):zaI3 e=if e.bE.length=0 then[e.aW]else zaw5 e.bE:=by cases e;rw[zaI3]
theorem zcj5:zv1 []=0:=by rw[zv1]
theorem zaV8(k:aZ)(l:List aZ):zv1 (k::l)=max (zt8 k) (zv1 l):=by rw[zv1]
theorem zbC3:zz5 []=0:=by rw[zz5]
theorem zap2(k:aZ)(l:List aZ):zz5 (k::l)=zs2 k+zz5 l:=by rw[zz5]
theorem zaS4{e k:aZ}{n:Nat}(h:_root_.SizeOf.sizeOf e<n+1)(hk:k∈e.bE):_root_.SizeOf.sizeOf k<n:=by have h2:=iW hk;cases e;simp at h h2;omega
theorem zbX5:∀(n:Nat) (e:aZ),_root_.SizeOf.sizeOf e<n->1<=zt8 e/\1<=zs2 e/\zt8 e<=zs2 e/\((zaI3 e).length:Int)<=zs2 e
 |0,_,h=>by omega
 |n+1,e,h=>by
  have key:∀l:List aZ,(∀k∈l,k∈e.bE)->0<=zv1 l/\0<=zz5 l/\zv1 l<=zz5 l/\(l.length:Int)<=zz5 l/\((zaw5 l).length:Int)<=zz5 l:=by
   intro l;induction l with
   |nil=>intro _;simp[zv1,zz5,zaw5]
   |cons k l ih=>intro hl;obtain⟨h1,h2,h3,h4,h5⟩:=ih λ x hx=>hl x (.tail _ hx);obtain⟨g1,g2,g3,g4⟩:=zbX5 n k (zaS4 h (hl k (.head _)));simp only[zv1,zz5,zaw5,bR,List.length_cons];refine⟨?_,?_,?_,?_,?_⟩<;>omega
  obtain⟨h1,h2,h3,h4,h5⟩:=key e.bE λ _ h=>h;rw[zbO3,zaj7,zaS3];refine⟨by omega,by omega,by omega,?_⟩;split
  .simp;omega
  .omega
theorem zax8(e:aZ):1<=zt8 e:=(zbX5 _ e (dY _)).1
theorem zab9(e:aZ):1<=zs2 e:=(zbX5 _ e (dY _)).2.1
theorem zcj6(e:aZ):((zaI3 e).length:Int)<=zs2 e:=(zbX5 _ e (dY _)).2.2.2
theorem zaS5:∀l:List aZ,0<=zv1 l
 |[]=>by simp[zv1]
 |k::l=>by have:=zaS5 l;have:=zax8 k;rw[zaV8];omega
theorem zR4:∀l:List aZ,(l.length:Int)<=zz5 l
 |[]=>by simp[zz5]
 |k::l=>by have:=zR4 l;have:=zab9 k;simp only[zz5,List.length_cons];omega
theorem zbH8{a:Int}(h1:1<=a)(h4:a<=4)(F:aZ->Int->Option (Int×Int)):∀(l:List aZ),(∀k∈l,∀c,0<=c->c<=24->∃c',F k c=some (if a+1+zt8 k<=5/\c+zs2 k<=24 then(zt8 k,c+zs2 k)else(0,c')))->
  ∀(i:Nat) (m c:Int),0<=m->0<=c->c<=24->∃c',walk (λ _ k (s:Int×Int)=>(F k s.2).bind λ v=>if v.1=0 then some (.inr (Sum.inr (0,v.2)))else some (.inl (if s.1<v.1 then v.1 else s.1,v.2))) (λ s=>Sum.inl (β:=Int×Int) s) l i (m,c)=
   some (if a+1+zv1 l<=5/\c+zz5 l<=24 then .inl (if m<zv1 l then zv1 l else m,c+zz5 l)else .inr (0,c'))
 |[],_,i,m,c,hm,hc,h24=>⟨0,by rw[zcj5,zbC3,bO (by omega)];simp only[walk];rw[bN (by omega),hZ]⟩
 |k::l,hF,i,m,c,hm,hc,h24=>by
  obtain⟨c1,e1⟩:=hF k (.head _) c hc h24;have p1:=zax8 k;have p2:=zab9 k;have p3:=zaS5 l;have p4:=zR4 l
  by_cases hk:a+1+zt8 k<=5/\c+zs2 k<=24
  .rw[bO hk]at e1;obtain⟨c2,e2⟩:=zbH8 h1 h4 F l (λ x hx=>hF x (.tail _ hx)) (i+1) (if m<zt8 k then zt8 k else m) (c+zs2 k) (by split<;>omega) (by omega) hk.2;refine⟨c2,?_⟩;rw[zaV8,zap2];simp only[walk,e1,Option.bind_some,bN (show¬zt8 k=0 by omega),e2]
   by_cases hl:a+1+zv1 l<=5/\c+zs2 k+zz5 l<=24
   .rw[bO hl,bO (show a+1+max (zt8 k) (zv1 l)<=5/\c+(zs2 k+zz5 l)<=24 by omega),show c+(zs2 k+zz5 l)=c+zs2 k+zz5 l by omega];refine dC some (dC Sum.inl (Prod.ext ?_ rfl));show(if(if m<zt8 k then zt8 k else m)<zv1 l then zv1 l else if m<zt8 k then zt8 k else m)=if m<max (zt8 k) (zv1 l)then max (zt8 k) (zv1 l)else m
    by_cases q1:m<zt8 k<;>by_cases q2:m<zv1 l<;>by_cases q3:zt8 k<zv1 l<;>simp only[q1,q2,q3,bT,bV]<;>(repeat' split)<;>omega
   .rw[bN hl,bN (by omega)]
  .rw[bN hk]at e1;refine⟨c1,?_⟩;rw[zaV8,zap2];simp only[walk,e1,Option.bind_some,bT];rw[bN (by omega)]
theorem zcj7:∀(n:Nat) (e:aZ),_root_.SizeOf.sizeOf e<n->∀a c,1<=a->a<=5->0<=c->c<=24->∃c',zx9 n e a c=some (if a+zt8 e<=5/\c+zs2 e<=24 then(zt8 e,c+zs2 e)else(0,c'))
 |0,_,h,_,_,_,_,_,_=>by omega
 |n+1,e,h,a,c,h1,h5,h0,h24=>by
  show∃c',zF7 (zx9 n) e a c=_;unfold zF7;have p1:=zax8 e;have p2:=zab9 e;have w1:IntKind.i64.wrap (c+1)=c+1:=zk8 (by omega) (by omega);have w2:IntKind.i64.wrap (a+1)=a+1:=zk8 (by omega) (by omega);rw[w1]
  by_cases c4:4<a\/24<c+1
  .rw[bO (by simpa using c4)];exact⟨c+1,by rw[bN (by omega)]⟩
  .rw[bN (by simpa using c4)];have hF:∀k∈e.bE,∀c,0<=c->c<=24->∃c',zx9 n k (a+1) c=some (if a+1+zt8 k<=5/\c+zs2 k<=24 then(zt8 k,c+zs2 k)else(0,c')):=
    λ k hk c h0 h24=>zcj7 n k (zaS4 h hk) (a+1) c (by omega) (by omega) h0 h24
   have key:=zv8 (body:=zJ0 (zx9 n) e a) e.bE aZ.zero (λ i (s:Int×Int)=>(s.1,(i:Int),s.2))
    (λ _ k (s:Int×Int)=>(zx9 n k (a+1) s.2).bind λ v=>if v.1=0 then some (.inr (Sum.inr (0,v.2)))else some (.inl (if s.1<v.1 then v.1 else s.1,v.2))) (λ s=>Sum.inl (β:=Int×Int) s)
    (λ i s=>(i:Int)<s.2/\s.2<=24) (λ i s hi hs=>by
     have hk:=zm9 (z:=aZ.zero) hi;obtain⟨c',e'⟩:=hF _ hk s.2 (by omega) hs.2;have p2:=zab9 (e.bE.getD i aZ.zero);have p3:=zax8 (e.bE.getD i aZ.zero);refine⟨?_,λ s' hs'=>?_⟩
     .unfold zJ0;simp only;rw[bO (by simpa using hi),gdp (by omega),w2];simp only[Int.toNat_natCast,e',Option.bind_some,bQ,zc2 i (show i<4611686018427387904 by omega)]
      by_cases cc:a+1+zt8 (e.bE.getD i aZ.zero)<=5/\s.2+zs2 (e.bE.getD i aZ.zero)<=24
      .simp only[cc,cN,bT,bN (show¬zt8 (e.bE.getD i aZ.zero)=0 by omega)];rfl
      .simp only[cc,bV,bT];rfl
     .rw[e',Option.bind_some]at hs'
      by_cases cc:a+1+zt8 (e.bE.getD i aZ.zero)<=5/\s.2+zs2 (e.bE.getD i aZ.zero)<=24
      .simp only[cc,cN,bT,bN (show¬zt8 (e.bE.getD i aZ.zero)=0 by omega),cK,dW]at hs';subst hs';simp only;omega
      .simp only[cc,bV,bT,cK,reduceCtorEq]at hs')
    (λ s hs=>by unfold zJ0;simp) (0,c+1) (by simp only;omega)
   rw[show((0,0,c+1):Int×Int×Int)=(λ(i:Nat) (s:Int×Int)=>(s.1,(i:Int),s.2)) 0 (0,c+1)from rfl,key];obtain⟨c',e'⟩:=zbH8 h1 (by omega) (λ k c=>zx9 n k (a+1) c) e.bE hF 0 0 (c+1) (by decide) (by omega) (by omega);refine⟨c',?_⟩;rw[e',Option.bind_some,zbO3 e,zaj7 e];have p3:=zaS5 e.bE
   by_cases hh:a+1+zv1 e.bE<=5/\c+1+zz5 e.bE<=24
   .rw[bO hh,bO (show a+(1+zv1 e.bE)<=5/\c+(1+zz5 e.bE)<=24 by omega)];have:(if 0<zv1 e.bE then zv1 e.bE else 0)=zv1 e.bE:=by split<;>omega
    rw[this];show some (IntKind.i64.wrap (zv1 e.bE+1),c+1+zz5 e.bE)=_;rw[zk8 (by omega) (by omega),show zv1 e.bE+1=1+zv1 e.bE by omega,show c+1+zz5 e.bE=c+(1+zz5 e.bE)by omega]
   .rw[bN hh,bN (by omega)]
def fitE(e:aZ):Bool:=decide (zt8 e<=4)&&decide (zs2 e<=24)
theorem zdC9(e:aZ):zk1 e=some (if fitE e=true then zt8 e else 0):=by
 unfold zk1 zd1;obtain⟨c',h⟩:=zcj7 _ e (dY _) 1 0 (by decide) (by decide) (by decide) (by decide);rw[h,Option.bind_some];unfold fitE
 by_cases c:1+zt8 e<=5/\0+zs2 e<=24
 .rw[bO c,bO (by simp;omega)]
 .rw[bN c,bN (by simp;omega)]
theorem zcu1{a:Int}(h1:1<=a)(h4:a<=4)(F:aZ->Option (Int×Int)):∀(l:List aZ),(∀k∈l,F k=some (if a+1+zt8 k<=5/\zs2 k<=24 then(zs2 k,zt8 k)else(25,0)))->
  ∀(i:Nat) (c m:Int),0<=m->1<=c->c<=24->walk (λ _ k (s:Int×Int)=>(F k).bind λ v=>if 24<s.1+v.1 then some (.inr (Sum.inr (25,0)))else some (.inl (s.1+v.1,if s.2<v.2 then v.2 else s.2))) (λ s=>Sum.inl (β:=Int×Int) s) l i (c,m)=
   some (if a+1+zv1 l<=5/\c+zz5 l<=24 then .inl (c+zz5 l,if m<zv1 l then zv1 l else m)else .inr (25,0))
 |[],_,i,c,m,hm,hc,h24=>by rw[zcj5,zbC3,bO (by omega)];simp only[walk];rw[bN (by omega),hZ]
 |k::l,hF,i,c,m,hm,hc,h24=>by
  have e1:=hF k (.head _);have p1:=zax8 k;have p2:=zab9 k;have p3:=zaS5 l;have p4:=zR4 l;rw[zaV8,zap2]
  by_cases hk:a+1+zt8 k<=5/\c+zs2 k<=24
  .rw[bO (by omega)]at e1;have e2:=zcu1 h1 h4 F l (λ x hx=>hF x (.tail _ hx)) (i+1) (c+zs2 k) (if m<zt8 k then zt8 k else m) (by split<;>omega) (by omega) hk.2;simp only[walk,e1,Option.bind_some,bN (show¬24<c+zs2 k by omega),e2]
   by_cases hl:a+1+zv1 l<=5/\c+zs2 k+zz5 l<=24
   .rw[bO hl,bO (show a+1+max (zt8 k) (zv1 l)<=5/\c+(zs2 k+zz5 l)<=24 by omega),show c+(zs2 k+zz5 l)=c+zs2 k+zz5 l by omega];refine dC some (dC Sum.inl (Prod.ext rfl ?_));show(if(if m<zt8 k then zt8 k else m)<zv1 l then zv1 l else if m<zt8 k then zt8 k else m)=if m<max (zt8 k) (zv1 l)then max (zt8 k) (zv1 l)else m
    by_cases q1:m<zt8 k<;>by_cases q2:m<zv1 l<;>by_cases q3:zt8 k<zv1 l<;>simp only[q1,q2,q3,bT,bV]<;>(repeat' split)<;>omega
   .rw[bN hl,bN (by omega)]
  .rw[bN (by omega)];simp only[walk,e1,Option.bind_some]
   by_cases hh:a+1+zt8 k<=5/\zs2 k<=24
   .rw[bO hh,bO (by simp only;omega)]
   .rw[bN hh,bO (by simp only;omega)]
theorem zde2:∀(n:Nat) (e:aZ),_root_.SizeOf.sizeOf e<n->∀a,1<=a->a<=5->zM9 n e a=some (if a+zt8 e<=5/\zs2 e<=24 then(zs2 e,zt8 e)else(25,0))
 |0,_,h,_,_,_=>by omega
 |n+1,e,h,a,h1,h5=>by
  show zad2 (zM9 n) e a=_;unfold zad2;have p1:=zax8 e;have p4:=zR4 e.bE;have w2:IntKind.i64.wrap (a+1)=a+1:=zk8 (by omega) (by omega)
  by_cases c4:4<a\/24<(e.bE.length:Int)
  .rw[bO (by simpa using c4),bN (by rw[zaj7];omega)]
  .rw[bN (by simpa using c4)];have hF:∀k∈e.bE,zM9 n k (a+1)=some (if a+1+zt8 k<=5/\zs2 k<=24 then(zs2 k,zt8 k)else(25,0)):=
    λ k hk=>zde2 n k (zaS4 h hk) (a+1) (by omega) (by omega)
   have key:=zv8 (body:=zW6 (zM9 n) e a) e.bE aZ.zero (λ i (s:Int×Int)=>(s.1,s.2,(i:Int)))
    (λ _ k (s:Int×Int)=>(zM9 n k (a+1)).bind λ v=>if 24<s.1+v.1 then some (.inr (Sum.inr (25,0)))else some (.inl (s.1+v.1,if s.2<v.2 then v.2 else s.2))) (λ s=>Sum.inl (β:=Int×Int) s)
    (λ i s=>1<=s.1/\s.1<=24) (λ i s hi hs=>by
     have hk:=zm9 (z:=aZ.zero) hi;have e':=hF _ hk;have p2:=zab9 (e.bE.getD i aZ.zero);refine⟨?_,λ s' hs'=>?_⟩
     .unfold zW6;simp only;rw[bO (by simpa using hi),gdp (by omega),w2];simp only[Int.toNat_natCast,e',Option.bind_some,bQ];unfold zav5
      by_cases cc:a+1+zt8 (e.bE.getD i aZ.zero)<=5/\zs2 (e.bE.getD i aZ.zero)<=24
      .rw[bO cc];simp only[zc2 i (show i<4611686018427387904 by omega),zk8 (x:=s.1+zs2 (e.bE.getD i aZ.zero)) (by omega) (by omega),bQ]
       repeat' split
       all_goals first|rfl|omega
      .rw[bN cc];simp only[zk8 (x:=s.1+25) (by omega) (by omega),bQ,bO (show 24<s.1+25 by omega),jY];rfl
     .rw[e',Option.bind_some]at hs'
      by_cases cc:a+1+zt8 (e.bE.getD i aZ.zero)<=5/\zs2 (e.bE.getD i aZ.zero)<=24
      .simp only[cc,cN,bT]at hs';split at hs'
       .cases hs'
       .simp only[cK,dW]at hs';subst hs';simp only;omega
      .simp only[cc,bV,bO (show 24<s.1+25 by omega),cK,reduceCtorEq]at hs')
    (λ s hs=>by unfold zW6;simp) (1,0) (by simp only;omega)
   rw[show((1,0,0):Int×Int×Int)=(λ(i:Nat) (s:Int×Int)=>(s.1,s.2,(i:Int))) 0 (1,0)from rfl,key];rw[zcu1 h1 (by omega) (λ k=>zM9 n k (a+1)) e.bE hF 0 1 0 (by omega) (by omega) (by omega),Option.bind_some,zbO3 e,zaj7 e];have p3:=zaS5 e.bE
   by_cases hh:a+1+zv1 e.bE<=5/\1+zz5 e.bE<=24
   .rw[bO hh,bO (show a+(1+zv1 e.bE)<=5/\1+zz5 e.bE<=24 by omega)];have:(if 0<zv1 e.bE then zv1 e.bE else 0)=zv1 e.bE:=by split<;>omega
    rw[this];show some (1+zz5 e.bE,IntKind.i64.wrap (zv1 e.bE+1))=_;rw[zk8 (by omega) (by omega),show zv1 e.bE+1=1+zv1 e.bE by omega]
   .rw[bN hh,bN (by omega)]
theorem zdD0(e:aZ):zm3 e=some (if fitE e=true then zs2 e else 0):=by
 unfold zm3 zn0;have p:=zab9 e;rw[zde2 _ e (dY _) 1 (by decide) (by decide),Option.bind_some];unfold fitE
 by_cases c:1+zt8 e<=5/\zs2 e<=24
 .rw[bO c];simp only[show¬24<zs2 e by omega,show zt8 e<=4 by omega,c.2,bU,cV,fT,bP,bT,bV]
 .rw[bN c];have:(decide (zt8 e<=4)&&decide (zs2 e<=24))=false:=by rw[cY];simp;omega
  rw[this];rfl
def zaS6(a:aO):List aO->Option Bool
 |[]=>none
 |x::l=>if a=x then some true else if(a.name.toList==x.name.toList)=true then some false else zaS6 a l
def zbH9(a:aO)(l:List aO):Int×List aO:=
 match zaS6 a l with
 |some true=>(0,l)
 |some false=>(13,l)
 |none=>if l.length=8 then(4,l)else(0,l++[a])
def zcj8(a:aO)(l:List aO):Option (List aO):=if(zbH9 a l).1=0 then some (zbH9 a l).2 else none
def zax9:List aO->List aO->Option (List aO)
 |[],l=>some l
 |a::az,l=>(zcj8 a l).bind (zax9 az)
theorem zcj9:∀(x y l:List aO),zax9 (x++y) l=(zax9 x l).bind (zax9 y)
 |[],y,l=>rfl
 |a::x,y,l=>by
  simp only[List.cons_append,zax9];cases zcj8 a l with
  |none=>rfl
  |some l'=>exact zcj9 x y l'
theorem zdD1{a:aO}{l:List aO}(h:l.length<=8):(zbH9 a l).2.length<=8:=by
 unfold zbH9;split
 .exact h
 .exact h
 .split
  .exact h
  .simp;omega
theorem zbO4:∀{x l r:List aO},l.length<=8->zax9 x l=some r->r.length<=8
 |[],l,r,h,e=>by cases e;exact h
 |a::x,l,r,h,e=>by
  simp only[zax9]at e;unfold zcj8 at e;split at e
  .exact zbO4 (zdD1 h) e
  .cases e
theorem zdD2(a:aO)(l:List aO)(h:l.length<=8):ze2 a l=some (zbH9 a l):=by
 unfold ze2;have hw:∀(t:List aO) (i:Nat),walk (λ _ x (_:Unit)=>if a=x then some (.inr (Sum.inr ((0:Int),l)))else if(a.name.toList==x.name.toList)=true then some (.inr (Sum.inr ((13:Int),l)))else some (.inl ())) (λ _=>Sum.inl (β:=Int×List aO) ()) t i ()=
   some (match zaS6 a t with|some true=>.inr (0,l)|some false=>.inr (13,l)|none=>.inl ()):=by
  intro t;induction t with
  |nil=>intro i;rfl
  |cons x t ih=>
   intro i;simp only[walk,zaS6]
   by_cases c:a=x
   .simp only[c,bT]
   .by_cases c2:(a.name.toList==x.name.toList)=true
    .simp only[c,c2,bT,bV]
    .simp only[c,c2,bV];exact ih (i+1)
 have key:=zV7 (body:=zR6 a l) l aO.zero (λ i (_:Unit)=>(i:Int))
  (λ _ x (_:Unit)=>if a=x then some (.inr (Sum.inr ((0:Int),l)))else if(a.name.toList==x.name.toList)=true then some (.inr (Sum.inr ((13:Int),l)))else some (.inl ())) (λ _=>Sum.inl (β:=Int×List aO) ())
  (λ i s hi=>by
   unfold zR6;rw[bO (by simpa using hi),gdp (by omega),zc2 i (by omega)];simp only[Int.toNat_natCast,bQ]
   repeat' split
   all_goals rfl)
  (λ s=>by unfold zR6;simp) ()
 rw[show(0:Int)=(λ(i:Nat) (_:Unit)=>(i:Int)) 0 ()from rfl,key,hw,Option.bind_some];unfold zbH9;cases zaS6 a l with
 |none=>
  simp only;unfold zat6
  by_cases c:l.length=8
  .rw[bO (by simp[c]),bO c]
  .rw[bN (by simp;omega),bN c,gdp (by omega)]
 |some b=>cases b<;>rfl
def zam1(e:aZ)(l:List aO):Option (List aO):=if okE e=true then zax9 (zaI3 e) l else none
def zbS3(ks:List aZ)(l:List aO):Option (List aO):=if okL ks=true then zax9 (zaw5 ks) l else none
theorem zcX0(k:aZ)(ks:List aZ)(l:List aO):zbS3 (k::ks) l=(zam1 k l).bind (zbS3 ks):=by
 unfold zbS3 zam1;simp only[okL,zaw5,zcj9];cases okE k
 .simp
 .simp only[cA,bT];cases zax9 (zaI3 k) l with
  |none=>simp
  |some r=>simp only[Option.bind_some]
theorem zcB0(a:aO):zf3 a=some (zy8 a.name&&zF1 a.aJ):=by unfold zf3;rw[zai6,Option.bind_some];congr 2
theorem zbS4(F:aZ->List aO->Option (Bool×List aO)):∀(ks:List aZ),(∀k∈ks,∀l,l.length<=8->∃r,F k l=some (match zam1 k l with|some l'=>(true,l')|none=>(false,r)))->
  ∀(i:Nat) (l:List aO),l.length<=8->∃r,walk (λ _ k (s:List aO)=>(F k s).bind λ v=>if(!v.1)=true then some (.inr (Sum.inr (false,v.2)))else some (.inl v.2)) (λ s=>Sum.inl (β:=Bool×List aO) s) ks i l=
   some (match zbS3 ks l with|some l'=>.inl l'|none=>.inr (false,r))
 |[],_,i,l,hl=>⟨[],by simp[walk,zbS3,okL,zaw5,zax9]⟩
 |k::ks,hF,i,l,hl=>by
  obtain⟨r,e⟩:=hF k (.head _) l hl;rw[zcX0];cases hp:zam1 k l with
  |none=>rw[hp]at e;refine⟨r,?_⟩;simp only[walk,e,Option.bind_some,Option.bind_none,dI,bT]
  |some l'=>
   rw[hp]at e;have hl':l'.length<=8:=by
    unfold zam1 at hp;split at hp
    .exact zbO4 hl hp
    .cases hp
   obtain⟨r2,e2⟩:=zbS4 F ks (λ x hx=>hF x (.tail _ hx)) (i+1) l' hl';refine⟨r2,?_⟩;simp only[walk,e,Option.bind_some,cI,bP,bV,e2]
theorem zdD3{e:aZ}{l l':List aO}(hl:l.length<=8)(hp:zam1 e l=some l'):l'.length<=8:=by
 unfold zam1 at hp;split at hp
 .exact zbO4 hl hp
 .cases hp
theorem zcM5:∀(n:Nat) (e:aZ),_root_.SizeOf.sizeOf e<n->zs2 e<=24->∀l,l.length<=8->∃r,zw7 n e l=some (match zam1 e l with|some l'=>(true,l')|none=>(false,r))
 |0,_,h,_,_,_=>by omega
 |n+1,e,h,hn,l,hl=>by
  show∃r,zO4 (zw7 n) e l=_;unfold zO4;have p4:=zR4 e.bE;have hne:=zaj7 e
  by_cases c:e.bE.length=0
  .rw[bO (by simpa using c),zcB0];have hp:zam1 e l=if e.k=0/\zy8 e.aW.name=true/\zF1 e.aW.aJ=true then zcj8 e.aW l else none:=by
    unfold zam1;rw[zcA9,zaS3,bO c,bO c];simp only[zax9,bM,bQ,eV];split
    .cases zcj8 e.aW l<;>rfl
    .rfl
   rw[hp]
   by_cases c1:e.k=0
   .simp only[c1,bU,bT,Option.bind_some,cA,fU]
    by_cases c2:zy8 e.aW.name=true/\zF1 e.aW.aJ=true
    .simp only[c2.1,c2.2,fT,cN,bT,zdD2 e.aW l hl,Option.bind_some,cA];refine⟨(zbH9 e.aW l).2,?_⟩;unfold zcj8
     by_cases c3:(zbH9 e.aW l).1=0
     .simp only[c3,bU,bT]
     .simp only[c3,cV,bV]
    .have:(zy8 e.aW.name&&zF1 e.aW.aJ)=false:=by rw[cY];simpa using c2
     simp only[this,c2,bP,bV,eT];exact⟨l,rfl⟩
   .simp only[c1,cV,bP,bV,Option.bind_some,eT,iC];exact⟨l,rfl⟩
  .rw[bN (by simpa using c)];have hp:zam1 e l=if 1<=e.k/\e.k<=(e.bE.length:Int)/\e.aW=aO.zero then zbS3 e.bE l else none:=by
    unfold zam1 zbS3;rw[zcA9,zaS3,bN c,bN c]
    by_cases q1:1<=e.k<;>by_cases q2:e.k<=(e.bE.length:Int)<;>by_cases q3:e.aW=aO.zero<;>simp[q1,q2,q3]
   rw[hp]
   by_cases c1:1<=e.k/\e.k<=(e.bE.length:Int)/\e.aW=aO.zero
   .rw[bO c1,bN (by simp[c1.2.2];omega)];have hF:∀k∈e.bE,∀l,l.length<=8->∃r,zw7 n k l=some (match zam1 k l with|some l'=>(true,l')|none=>(false,r)):=by
     intro k hk l hl;refine zcM5 n k (zaS4 h hk) ?_ l hl;have:∀(ks:List aZ),k∈ks->zs2 k<=zz5 ks:=by
      intro ks;induction ks with
      |nil=>intro h;cases h
      |cons x ks ih=>
       intro h;rw[zap2];have p1:=zab9 x;have p2:=zR4 ks;rcases bX.1 h with rfl|h
       .omega
       .have:=ih h;omega
     have:=this e.bE hk;omega
    have key:=zv8 (body:=zK9 (zw7 n) e) e.bE aZ.zero (λ i (s:List aO)=>((i:Int),s))
     (λ _ k (s:List aO)=>(zw7 n k s).bind λ v=>if(!v.1)=true then some (.inr (Sum.inr (false,v.2)))else some (.inl v.2)) (λ s=>Sum.inl (β:=Bool×List aO) s)
     (λ i s=>s.length<=8) (λ i s hi hs=>by
      obtain⟨r,er⟩:=hF _ (zm9 (z:=aZ.zero) hi) s hs;refine⟨?_,λ s' hs'=>?_⟩
      .unfold zK9;simp only;rw[bO (by simpa using hi),gdp (by omega)];simp only[Int.toNat_natCast,er,Option.bind_some,zc2 i (show i<4611686018427387904 by omega)];cases zam1 (e.bE.getD i aZ.zero) s<;>rfl
      .rw[er,Option.bind_some]at hs';cases hq:zam1 (e.bE.getD i aZ.zero) s with
       |none=>rw[hq]at hs';simp at hs'
       |some l'=>
        rw[hq]at hs';simp only[cI,bP,bV,cK,dW]at hs';subst hs';exact zdD3 hs hq)
     (λ s hs=>by unfold zK9;simp) l hl
    rw[show((0,l):Int×List aO)=(λ(i:Nat) (s:List aO)=>((i:Int),s)) 0 l from rfl,key];obtain⟨r,er⟩:=zbS4 (zw7 n) e.bE hF 0 l hl;rw[er,Option.bind_some];refine⟨r,?_⟩;cases zbS3 e.bE l<;>rfl
   .rw[bN c1,bO (by
     simp only[dE,bQ,cQ,dA]
     by_cases q:e.aW=aO.zero
     .left;have:=mt (λ h:1<=e.k/\e.k<=(e.bE.length:Int)=>(⟨h.1,h.2,q⟩:1<=e.k/\e.k<=(e.bE.length:Int)/\e.aW=aO.zero)) c1;omega
     .exact .inr q)]
    exact⟨l,rfl⟩
theorem zbq3(e:aZ):zp7 e=some (fitE e&&(zam1 e []).isSome):=by
 unfold zp7;rw[zdC9,Option.bind_some];have p:=zax8 e;cases hf:fitE e with
 |false=>rfl
 |true=>
  simp only[bT,show¬zt8 e=0 by omega,cV,dI,cA];unfold zn3;have hn:zs2 e<=24:=by unfold fitE at hf;simp at hf;omega
  obtain⟨r,er⟩:=zcM5 _ e (dY _) hn [] (by simp);rw[er,Option.bind_some];cases zam1 e []<;>rfl
def addA(a:aO)(l:List aO):List aO:=if a∈l then l else l++[a]
def addS:List aO->List aO->List aO
 |[],l=>l
 |a::az,l=>addS az (addA a l)
theorem zcM6:∀(x y l:List aO),addS (x++y) l=addS y (addS x l)
 |[],_,_=>rfl
 |a::x,y,l=>zcM6 x y (addA a l)
theorem zdD4(a:aO)(l:List aO):∃t,addA a l=l++t:=by
 unfold addA;split
 .exact⟨[],by simp⟩
 .exact⟨[a],rfl⟩
theorem zck0:∀(x l:List aO),∃t,addS x l=l++t
 |[],l=>⟨[],by simp[addS]⟩
 |a::x,l=>by obtain⟨t1,h1⟩:=zdD4 a l;obtain⟨t2,h2⟩:=zck0 x (addA a l);exact⟨t1++t2,by rw[addS,h2,h1,bZ]⟩
theorem zcB1:∀(x l:List aO),(addS x l).length<=l.length+x.length
 |[],l=>by simp[addS]
 |a::x,l=>by
  have h1:=zcB1 x (addA a l);have h2:(addA a l).length<=l.length+1:=by unfold addA;split<;>simp
  simp only[addS,List.length_cons];omega
def dnN(l:List aO):Prop:=l.Pairwise λ x y=>(x.name.toList==y.name.toList)=false
theorem zcu2{a:aO}:∀{l:List aO},dnN l->a∈l->zaS6 a l=some true
 |x::l,h,hm=>by
  unfold dnN at h;rw[cL]at h;unfold zaS6
  by_cases c:a=x
  .rw[bO c]
  .rw[bN c];rcases bX.1 hm with e|hm
   .exact absurd e c
   .have:=h.1 a hm;rw[bN (by rw[dB];intro e;rw[e]at this;simp at this)];exact zcu2 h.2 hm
theorem zbC4{a:aO}:∀{l:List aO},zaS6 a l=none->∀x∈l,(x.name.toList==a.name.toList)=false
 |y::l,h,x,hx=>by
  unfold zaS6 at h;split at h
  .cases h
  .split at h
   .cases h
   .rename_i h1 h2;rcases bX.1 hx with rfl|hx
    .rw[cY];intro e;rw[dB]at e;exact h2 (by rw[dB];exact e.symm)
    .exact zbC4 h x hx
theorem zbS5{a:aO}:∀{l:List aO},dnN l->zaS6 a l=some false->a∉l/\∃x∈l,(x.name.toList==a.name.toList)=true
 |y::l,hd,h=>by
  refine⟨λ hm=>?_,?_⟩
  .rw[zcu2 hd hm]at h;cases h
  .unfold zaS6 at h;split at h
   .cases h
   .split at h
    .rename_i h2;exact⟨y,.head _,by rw[dB]at h2⊢;exact h2.symm⟩
    .unfold dnN at hd;rw[cL]at hd;obtain⟨_,x,hx,e⟩:=zbS5 hd.2 h;exact⟨x,.tail _ hx,e⟩
theorem zcX1{a:aO}{l:List aO}(h:zaS6 a l=none):a∉l:=λ hm=>by have:=zbC4 h a hm;simp at this
theorem zdP1{l t:List aO}(h:dnN (l++t)):dnN l:=(fE.1 h).1
theorem zbC5:∀(x l:List aO),l.length<=8->dnN l->((zax9 x l).isSome=true↔(addS x l).length<=8/\dnN (addS x l))
 |[],l,h8,hd=>by simp[zax9,addS,h8,hd]
 |a::x,l,h8,hd=>by
  simp only[zax9,addS];unfold zcj8 zbH9;cases hn:zaS6 a l with
  |some b=>
   cases b with
   |true=>
    have hm:a∈l:=by
     refine eP λ hm=>?_;have:∀l:List aO,a∉l->zaS6 a l≠some true:=by
      intro l;induction l with
      |nil=>intro _ h;cases h
      |cons y l ih=>
       intro hm h;unfold zaS6 at h;rw[bN (λ(e:a=y)=>hm (by rw[e];exact .head _))]at h;split at h
       .cases h
       .exact ih (λ h=>hm (.tail _ h)) h
     exact this l hm hn
    simp only[bT,Option.bind_some];unfold addA;rw[bO hm];exact zbC5 x l h8 hd
   |false=>obtain⟨hm,y,hy,e⟩:=zbS5 hd hn;simp only[show¬(13:Int)=0 by decide,bV,Option.bind_none,Option.isSome_none,bP,kH];rintro⟨_,h2⟩;unfold addA at h2;rw[bN hm]at h2;obtain⟨t,ht⟩:=zck0 x (l++[a]);rw[ht]at h2;have h3:=(fE.1 (zdP1 h2)).2.2 y hy a (dS.2 rfl);rw[e]at h3;cases h3
  |none=>
   have hm:=zcX1 hn;have ha:addA a l=l++[a]:=by unfold addA;rw[bN hm]
   rw[ha]
   by_cases c:l.length=8
   .simp only[c,bT,show¬(4:Int)=0 by decide,bV,Option.bind_none,Option.isSome_none,bP,kH];rintro⟨h1,_⟩;obtain⟨t,ht⟩:=zck0 x (l++[a]);rw[ht]at h1;simp at h1;omega
   .simp only[c,bV,bT,Option.bind_some];refine zbC5 x (l++[a]) (by simp;omega) ?_;unfold dnN;rw[fE];exact⟨hd,List.pairwise_singleton _ _,λ y hy z hz=>by rw[dS.1 hz];exact zbC4 hn y hy⟩
def addO(e:aZ)(l:List aO):Option (List aO):=if okE e=true then some (addS (zaI3 e) l)else none
def addL(ks:List aZ)(l:List aO):Option (List aO):=if okL ks=true then some (addS (zaw5 ks) l)else none
theorem zdm3(k:aZ)(ks:List aZ)(l:List aO):addL (k::ks) l=(addO k l).bind (addL ks):=by unfold addL addO;simp only[okL,zaw5,zcM6];cases okE k<;>simp
def bad1(r:Nat⊕(Bool×List aO)):Prop:=match r with|.inl _=>True|.inr v=>v.1=false
def got1(F:Option (Nat⊕(Bool×List aO)))(o:Option (List aO)):Prop:=match o with|some l=>F=some (.inr (true,l))|none=>∃r,F=some r/\bad1 r
theorem zdm4(a:aO)(l:List aO){X:Type}(x:X){body:Int->Option (Int⊕(Unit⊕X))}(hl:l.length<4611686018427387904)
  (hb:∀i:Nat,i<l.length->body (i:Int)=if l.getD i aO.zero=a then some (.inr (.inr x))else some (.inl ((i+1:Nat):Int))) (he:body (l.length:Int)=some (.inr (.inl ()))):
  zc1 body 0=some (if a∈l then .inr x else .inl ()):=by
 have hw:∀(t:List aO) (i:Nat),walk (λ _ y (_:Unit)=>if y=a then some (.inr (Sum.inr x))else some (.inl ())) (λ _=>Sum.inl (β:=X) ()) t i ()=some (if a∈t then .inr x else .inl ()):=by
  intro t;induction t with
  |nil=>intro i;simp[walk]
  |cons y t ih=>
   intro i;simp only[walk]
   by_cases c:y=a
   .rw[bO c];simp[c]
   .rw[bN c];simp only[ih (i+1),bX,show¬a=y fromλ e=>c e.symm,iB]
 have key:=zV7 (body:=body) l aO.zero (λ i (_:Unit)=>(i:Int)) (λ _ y (_:Unit)=>if y=a then some (.inr (Sum.inr x))else some (.inl ())) (λ _=>Sum.inl (β:=X) ())
  (λ i s hi=>by rw[hb i hi];split<;>rfl) (λ s=>he) ()
 rw[show(0:Int)=(λ(i:Nat) (_:Unit)=>(i:Int)) 0 ()from rfl,key,hw]
theorem zck1(F:aZ->List aO->Option (Nat⊕(Bool×List aO))){Y:Type}{B:Nat}:∀(ks:List aZ),(∀k∈ks,∀l,(l.length:Int)+zs2 k<=B->got1 (F k l) (addO k l))->
  ∀(i:Nat) (l:List aO),(l.length:Int)+zz5 ks<=B->(match addL ks l with
   |some l'=>walk (λ _ k (s:List aO)=>(F k s).bind λ v=>match v with|.inl v=>some (.inr (Sum.inr (Sum.inl s.length)))|.inr v=>if(!v.1)=true then some (.inr (Sum.inr (.inl s.length)))else some (.inl v.2)) (λ s=>Sum.inl (β:=Nat⊕Y) s) ks i l=some (.inl l')
   |none=>∃r,walk (λ _ k (s:List aO)=>(F k s).bind λ v=>match v with|.inl v=>some (.inr (Sum.inr (Sum.inl s.length)))|.inr v=>if(!v.1)=true then some (.inr (Sum.inr (.inl s.length)))else some (.inl v.2)) (λ s=>Sum.inl (β:=Nat⊕Y) s) ks i l=some (.inr (.inl r)))
 |[],_,i,l,hl=>by simp[walk,addL,okL,zaw5,addS]
 |k::ks,hF,i,l,hl=>by
  rw[zap2]at hl;have p1:=zR4 ks;have e:=hF k (.head _) l (by omega);rw[zdm3];cases hp:addO k l with
  |none=>
   rw[hp]at e;obtain⟨r,er,hb⟩:=e;simp only[Option.bind_none];refine⟨l.length,?_⟩;simp only[walk,er,Option.bind_some];cases r with
   |inl r=>rfl
   |inr v=>have hv:v.1=false:=hb;simp only[hv,dI,bT]
  |some l'=>
   rw[hp]at e;have e':F k l=some (.inr (true,l')):=e;have hl':(l'.length:Int)<=l.length+zs2 k:=by
    unfold addO at hp;split at hp
    .cases hp;have h1:=zcB1 (zaI3 k) l;have h2:=zcj6 k;omega
    .cases hp
   have e2:=zck1 (Y:=Y) F ks (λ x hx=>hF x (.tail _ hx)) (i+1) l' (by omega);simp only[walk,e',Option.bind_some,cI,bP,bV];exact e2
theorem zcu3{e k:aZ}(hk:k∈e.bE):zs2 k+1<=zs2 e:=by
 have:∀(ks:List aZ),k∈ks->zs2 k<=zz5 ks:=by
  intro ks;induction ks with
  |nil=>intro h;cases h
  |cons x ks ih=>
   intro h;rw[zap2];have p1:=zab9 x;have p2:=zR4 ks;rcases bX.1 h with rfl|h
   .omega
   .have:=ih h;omega
 have:=this e.bE hk;rw[zaj7 e];omega
theorem zck2{e:aZ}(c:e.bE.length=0):okE e=true↔e.k=0/\zy8 e.aW.name=true/\zF1 e.aW.aJ=true:=by rw[zcA9,bO c];simp[eV]
theorem zck3{e:aZ}(c:¬e.bE.length=0):okE e=true↔(1<=e.k/\e.k<=(e.bE.length:Int)/\e.aW=aO.zero)/\okL e.bE=true:=by rw[zcA9,bN c];simp[eV]
theorem zcu4{e:aZ}(c:e.bE.length=0)(l:List aO):addO e l=if e.k=0/\zy8 e.aW.name=true/\zF1 e.aW.aJ=true then some (addA e.aW l)else none:=by unfold addO;rw[zaS3,bO c];simp only[zck2 c];rfl
theorem zcu5{e:aZ}(c:¬e.bE.length=0)(l:List aO):addO e l=if 1<=e.k/\e.k<=(e.bE.length:Int)/\e.aW=aO.zero then addL e.bE l else none:=by
 unfold addO addL;rw[zaS3,bN c];simp only[zck3 c]
 by_cases c1:1<=e.k/\e.k<=(e.bE.length:Int)/\e.aW=aO.zero<;>simp only[c1,fU,iC,bT,bV,cN]
theorem zdD5:∀(n:Nat) (e:aZ),_root_.SizeOf.sizeOf e<n->∀l,(l.length:Int)+zs2 e<=100->got1 (zA6 n e l) (addO e l)
 |0,_,h,_,_=>by omega
 |n+1,e,h,l,hl=>by
  show got1 (zz4 (zA6 n) e l) _;unfold zz4;have p4:=zR4 e.bE;have hne:=zaj7 e
  by_cases c:e.bE.length=0
  .rw[bO (by simpa using c),zcu4 c]
   by_cases c1:e.k=0
   .simp only[c1,bU,bT,zau6,Option.bind_some,cI,dK,fU]
    by_cases c2:zy8 e.aW.name=true/\zF1 e.aW.aJ=true
    .rw[bO c2,bN (by have:=c2.2;unfold zF1 at this;simp[c2.1,this])];rw[zdm4 e.aW l (x:=Sum.inr (true,l)) (by omega) (λ i hi=>by
      unfold zal4;rw[bO (by simpa using hi),gdp (by omega),zc2 i (by omega)];simp only[Int.toNat_natCast,bQ]) (by unfold zal4;simp),Option.bind_some]
     unfold addA got1
     by_cases c3:e.aW∈l
     .simp only[c3,bT]
     .simp only[c3,bV];unfold zaB5;rw[gdp (by omega)]
    .rw[bN c2,bO (by
      have:¬(zy8 e.aW.name=true/\zu4 e.aW.aJ=true):=c2;simp only[dE,cQ];cases h1:zy8 e.aW.name<;>cases h2:zu4 e.aW.aJ<;>simp_all)]
     exact⟨_,rfl,rfl⟩
   .simp only[c1,cV,bP,bV,Option.bind_some,dI,fV,bT,iC];exact⟨_,rfl,rfl⟩
  .rw[bN (by simpa using c),zcu5 c]
   by_cases c1:1<=e.k/\e.k<=(e.bE.length:Int)/\e.aW=aO.zero
   .rw[bO c1,bN (by simp[c1.2.2];omega)];have hF:∀k∈e.bE,∀l,(l.length:Int)+zs2 k<=(100:Nat)->got1 (zA6 n k l) (addO k l):=λ k hk l hl=>zdD5 n k (zaS4 h hk) l hl;have key:=zv8 (body:=zY8 (zA6 n) e) e.bE aZ.zero (λ i (s:List aO)=>((i:Int),s))
     (λ _ k (s:List aO)=>(zA6 n k s).bind λ v=>match v with|.inl v=>some (.inr (Sum.inr (Sum.inl s.length)))|.inr v=>if(!v.1)=true then some (.inr (Sum.inr (.inl s.length)))else some (.inl v.2)) (λ s=>Sum.inl (β:=Nat⊕(Bool×List aO)) s)
     (λ i s=>True) (λ i s hi hs=>by
      refine⟨?_,λ s' hs'=>trivial⟩;unfold zY8;simp only;rw[bO (by simpa using hi),gdp (by omega)];simp only[Int.toNat_natCast,zc2 i (show i<4611686018427387904 by omega)];cases zA6 n (e.bE.getD i aZ.zero) s with
      |none=>rfl
      |some v=>
       cases v with
       |inl v=>rfl
       |inr v=>
        simp only[Option.bind_some];split<;>rfl)
     (λ s hs=>by unfold zY8;simp) l trivial
    rw[show((0,l):Int×List aO)=(λ(i:Nat) (s:List aO)=>((i:Int),s)) 0 l from rfl,key];have er:=zck1 (zA6 n) (Y:=Bool×List aO) (B:=100) e.bE hF 0 l (by omega);cases ha:addL e.bE l with
    |none=>rw[ha]at er;obtain⟨r,er⟩:=er;rw[er,Option.bind_some];exact⟨_,rfl,trivial⟩
    |some l'=>rw[ha]at er;simp only at er;rw[er,Option.bind_some];rfl
   .rw[bN c1,bO (by
     simp only[dE,bQ,cQ,dA]
     by_cases q:e.aW=aO.zero
     .left;have:=mt (λ h:1<=e.k/\e.k<=(e.bE.length:Int)=>(⟨h.1,h.2,q⟩:1<=e.k/\e.k<=(e.bE.length:Int)/\e.aW=aO.zero)) c1;omega
     .exact .inr q)]
    exact⟨_,rfl,rfl⟩
def bad0(r:Nat⊕(List aO×Bool)):Prop:=match r with|.inl _=>True|.inr v=>v.2=false
theorem zdP2(e:aZ)(hl:zs2 e<=50):match addO e []with|some l=>zw3 e=some (.inr (l,true))|none=>∃r,zw3 e=some r/\bad0 r:=by
 unfold zw3;show match addO e []with|some l=>zK3 _ e=some (.inr (l,true))|none=>∃r,zK3 _ e=some r/\bad0 r
 unfold zK3;have p4:=zR4 e.bE;have hne:=zaj7 e
 by_cases c:e.bE.length=0
 .rw[bO (by simpa using c),zcu4 c]
  by_cases c1:e.k=0
  .simp only[c1,bU,bT,zau6,Option.bind_some,cI,dK,fU]
   by_cases c2:zy8 e.aW.name=true/\zF1 e.aW.aJ=true
   .rw[bO c2,bN (by have:=c2.2;unfold zF1 at this;simp[c2.1,this])];rw[zh3];unfold zar1;rfl
   .rw[bN c2,bO (by
     have:¬(zy8 e.aW.name=true/\zu4 e.aW.aJ=true):=c2;simp only[dE,cQ];cases h1:zy8 e.aW.name<;>cases h2:zu4 e.aW.aJ<;>simp_all)]
    exact⟨_,rfl,rfl⟩
  .simp only[c1,cV,bP,bV,Option.bind_some,dI,fV,bT,iC];exact⟨_,rfl,rfl⟩
 .rw[bN (by simpa using c),zcu5 c]
  by_cases c1:1<=e.k/\e.k<=(e.bE.length:Int)/\e.aW=aO.zero
  .rw[bO c1,bN (by simp[c1.2.2];omega)];have hF:∀k∈e.bE,∀l,(l.length:Int)+zs2 k<=(100:Nat)->got1 (zq3 k l) (addO k l):=λ k hk l hl=>zdD5 _ k (dY _) l hl;have key:=zv8 (body:=zT5 e) e.bE aZ.zero (λ i (s:List aO)=>((i:Int),s))
    (λ _ k (s:List aO)=>(zq3 k s).bind λ v=>match v with|.inl v=>some (.inr (Sum.inr (Sum.inl s.length)))|.inr v=>if(!v.1)=true then some (.inr (Sum.inr (.inl s.length)))else some (.inl v.2)) (λ s=>Sum.inl (β:=Nat⊕(List aO×Bool)) s)
    (λ i s=>True) (λ i s hi hs=>by
     refine⟨?_,λ s' hs'=>trivial⟩;unfold zT5;simp only;rw[bO (by simpa using hi),gdp (by omega)];simp only[Int.toNat_natCast,zc2 i (show i<4611686018427387904 by omega)];cases zq3 (e.bE.getD i aZ.zero) s with
     |none=>rfl
     |some v=>
      cases v with
      |inl v=>rfl
      |inr v=>
       simp only[Option.bind_some];split<;>rfl)
    (λ s hs=>by unfold zT5;simp) [] trivial
   rw[show((0,[]):Int×List aO)=(λ(i:Nat) (s:List aO)=>((i:Int),s)) 0 []from rfl,key];have er:=zck1 (zq3) (Y:=List aO×Bool) (B:=100) e.bE hF 0 [] (by simp;omega);cases ha:addL e.bE []with
   |none=>rw[ha]at er;obtain⟨r,er⟩:=er;simp only;rw[er,Option.bind_some];exact⟨_,rfl,trivial⟩
   |some l'=>rw[ha]at er;simp only at er⊢;rw[er,Option.bind_some];rfl
  .rw[bN c1,bO (by
    simp only[dE,bQ,cQ,dA]
    by_cases q:e.aW=aO.zero
    .left;have:=mt (λ h:1<=e.k/\e.k<=(e.bE.length:Int)=>(⟨h.1,h.2,q⟩:1<=e.k/\e.k<=(e.bE.length:Int)/\e.aW=aO.zero)) c1;omega
    .exact .inr q)]
   exact⟨_,rfl,rfl⟩
def vE(e:aZ):Bool:=fitE e&&(zam1 e []).isSome
theorem zdm5(e:aZ):(zam1 e []).isSome=true↔∃l,addO e []=some l/\l.length<=8/\dnN l:=by
 unfold zam1 addO
 by_cases c:okE e=true
 .rw[bO c,bO c,zbC5 _ [] (by simp) .nil];constructor
  .exactλ h=>⟨_,rfl,h⟩
  .rintro⟨l,e,h⟩;cases e;exact h
 .rw[bN c,bN c];simp
theorem zcM7(v:List aO×Bool)(i:Nat)(hi:i<v.1.length)(hl:v.1.length<=1000):
  zc1 (zT8 v (i:Int)) 0=some (if(v.1.take i).any (λ x=>(v.1.getD i aO.zero).name.toList==x.name.toList)=true then .inr ([],false)else .inl ()):=by
 have hw:∀(t:List aO) (j:Nat),walk (λ _ x (_:Unit)=>if((v.1.getD i aO.zero).name.toList==x.name.toList)=true then some (.inr (Sum.inr (([]:List aO),false)))else some (.inl ())) (λ _=>Sum.inl (β:=List aO×Bool) ()) t j ()=
   some (if t.any (λ x=>(v.1.getD i aO.zero).name.toList==x.name.toList)=true then .inr ([],false)else .inl ()):=by
  intro t;induction t with
  |nil=>intro j;rfl
  |cons x t ih=>
   intro j;simp only[walk,List.any_cons]
   by_cases c:((v.1.getD i aO.zero).name.toList==x.name.toList)=true
   .simp only[c,bT,fV]
   .simp only[gB]at c;simp only[c,dK,bP,bV];exact ih (j+1)
 have hlen:(v.1.take i).length=i:=by rw[dT];omega
 have key:=zV7 (body:=zT8 v (i:Int)) (v.1.take i) aO.zero (λ j (_:Unit)=>(j:Int))
  (λ _ x (_:Unit)=>if((v.1.getD i aO.zero).name.toList==x.name.toList)=true then some (.inr (Sum.inr (([]:List aO),false)))else some (.inl ())) (λ _=>Sum.inl (β:=List aO×Bool) ())
  (λ j s hj=>by
   rw[hlen]at hj;unfold zT8;rw[bO (by simp;omega),gdp (by omega),gdp (by omega),zc2 j (by omega),zbL9 _ _ _ _ hj];simp only[Int.toNat_natCast];split<;>rfl)
  (λ s=>by unfold zT8;rw[hlen];simp) ()
 rw[show(0:Int)=(λ(j:Nat) (_:Unit)=>(j:Int)) 0 ()from rfl,key,hw]
theorem zcM8(v:List aO×Bool)(hl:v.1.length<=1000):(dnN v.1->zc1 (zM1 v) 0=some (.inl ()))/\(¬dnN v.1->zc1 (zM1 v) 0=some (.inr ([],false))):=by
 have key:=zV7 (body:=zM1 v) v.1 aO.zero (λ i (_:Unit)=>(i:Int))
  (λ i a (_:Unit)=>if(v.1.take i).any (λ x=>a.name.toList==x.name.toList)=true then some (.inr (Sum.inr (([]:List aO),false)))else some (.inl ())) (λ _=>Sum.inl (β:=List aO×Bool) ())
  (λ i s hi=>by
   unfold zM1;rw[bO (by simpa using hi),zcM7 v i hi hl];split
   .rfl
   .show some _=_;rw[zc2 i (by omega)];rfl)
  (λ s=>by unfold zM1;simp) ()
 have hw:∀(t prev:List aO),v.1=prev++t->dnN prev->(dnN v.1->walk (λ i a (_:Unit)=>if(v.1.take i).any (λ x=>a.name.toList==x.name.toList)=true then some (.inr (Sum.inr (([]:List aO),false)))else some (.inl ())) (λ _=>Sum.inl (β:=List aO×Bool) ()) t prev.length ()=some (.inl ()))/\
   (¬dnN v.1->walk (λ i a (_:Unit)=>if(v.1.take i).any (λ x=>a.name.toList==x.name.toList)=true then some (.inr (Sum.inr (([]:List aO),false)))else some (.inl ())) (λ _=>Sum.inl (β:=List aO×Bool) ()) t prev.length ()=some (.inr ([],false))):=by
  intro t;induction t with
  |nil=>intro prev h hd;exact⟨λ _=>rfl,λ hn=>absurd (by rw[h,eR];exact hd) hn⟩
  |cons a t ih=>
   intro prev h hd;have ht:v.1.take prev.length=prev:=by rw[h,List.take_left'];rfl
   simp only[walk,ht]
   by_cases c:prev.any (λ x=>a.name.toList==x.name.toList)=true
   .have hn:¬dnN v.1:=by
     intro hd2;rw[h]at hd2;obtain⟨x,hx,e⟩:=List.any_eq_true.1 c;have:=(fE.1 hd2).2.2 x hx a (.head _);rw[dB]at e;rw[<-e]at this;simp at this
    exact⟨λ h=>absurd h hn,λ _=>by rw[bO c]⟩
   .rw[bN c];have hd3:dnN (prev++[a]):=by
     unfold dnN;rw[fE];refine⟨hd,List.pairwise_singleton _ _,λ x hx y hy=>?_⟩;rw[dS.1 hy,cY];intro e;rw[dB]at e;exact c (List.any_eq_true.2 ⟨x,hx,by rw[dB];exact e.symm⟩)
    have:=ih (prev++[a]) (by rw[h];simp) hd3;rw[show(prev++[a]).length=prev.length+1 by simp]at this;exact this
 have:=hw v.1 [] rfl .nil;rw[show(0:Int)=(λ(i:Nat) (_:Unit)=>(i:Int)) 0 ()from rfl,key];exact this
theorem zbC6(e:aZ):zF4 e=some (vE e):=by
 unfold zF4 zD4;rw[zdD0,Option.bind_some];have p:=zab9 e;unfold vE;cases hf:fitE e with
 |false=>rfl
 |true=>
  have hn:zs2 e<=24:=by unfold fitE at hf;simp at hf;omega
  simp only[bT,show¬zs2 e=0 by omega,cV,bP,bV,cA];have ha:=zdP2 e (by omega);have hp:=zdm5 e;cases hadd:addO e []with
  |none=>
   rw[hadd]at ha hp;obtain⟨r,er,hb⟩:=ha;have hf:(zam1 e []).isSome=false:=by rw[cY];intro h;obtain⟨l,e,_⟩:=hp.1 h;cases e
   rw[er,hf,Option.bind_some];cases r with
   |inl r=>rfl
   |inr v=>have hv:v.2=false:=hb;simp only[hv,dI,fV,bT,Option.bind_some]
  |some l=>
   rw[hadd]at ha hp;simp only at ha;have hl:l.length<=24:=by
    unfold addO at hadd;split at hadd
    .cases hadd;have h1:=zcB1 (zaI3 e) [];have h2:=zcj6 e;simp at h1;omega
    .cases hadd
   rw[ha,Option.bind_some]
   by_cases c:l.length<=8
   .simp only[cI,dK,show¬(8:Int)<(l.length:Int)by omega,cV,bP,bV];have ho:=zcM8 (l,true) (by simp only;omega)
    by_cases hd:dnN l
    .rw[ho.1 hd,hp.2 ⟨l,rfl,c,hd⟩];rfl
    .rw[ho.2 hd];have:(zam1 e []).isSome=false:=by
      rw[cY];intro h;obtain⟨l',e',_,h3⟩:=hp.1 h;cases e';exact hd h3
     rw[this];rfl
   .simp only[cI,dK,show(8:Int)<(l.length:Int)by omega,bU,bT,Option.bind_some];have:(zam1 e []).isSome=false:=by
     rw[cY];intro h;obtain⟨l',e',h3,_⟩:=hp.1 h;cases e';exact c h3
    rw[this]
theorem zck4(e:aZ):zp7 e=some (vE e):=zbq3 e
theorem zbO5{t:List aA}(hl:t.length<=8)(h:∀q∈t,zi0 q=true):zu6 t=some (zq7 t):=by rw[<-zaC8 hl h];rfl
theorem zcM9(s:aS):zA2 s=zas2 s:=by
 funext g;unfold zA2 zas2
 by_cases c:g<(s.bA.length:Int)
 .by_cases c0:0<=g
  .simp only[c,c0,cN,bU,bT,zl3,zck4,zbC6,zae6,zao3];generalize hn:s.bA.getD g.toNat bI.zero=n;generalize hm:s.bA.getD ((IntKind.i64.wrap (g-1)).toNat) bI.zero=m;cases hP:za3 n.aI
   .simp
   .cases hE:vE n.bK
    .by_cases q1:n.gen<0<;>by_cases q2:1073741824<n.gen<;>simp[q1,q2]
    .by_cases q1:n.gen<0
     .simp[q1]
     .by_cases q2:1073741824<n.gen
      .simp[q1,q2]
      .by_cases q3:0<g<;>simp[q1,q2,q3]
  .simp only[c,c0,iC,bU,bT,zdB0]
 .simp only[c,cV,bP,bV]
def zcN0(l:List bI)(i:Nat)(n:bI):Bool:=za3 n.aI&&vE n.bK&&decide (0<=n.gen)&&decide (n.gen<=1073741824)&&(decide (i=0)||decide (cmpP (l.getD (i-1) bI.zero).aI n.aI<0))
def zbC7(l:List bI):Bool:=(List.range l.length).all λ i=>zcN0 l i (l.getD i bI.zero)
def zcB2(s:aS):List aF:=zbo9 (zq7 s.aG++s.bA.map (·.aI))
def zac0(s:aS):Bool:=zat9 s.aG&&decide (s.bA.length<=8)&&zbC7 s.bA&&decide ((zcB2 s).length<=8)
theorem zck5(s:aS)(h8:s.bA.length<=8):zc1 (zA2 s) 0=some (if zbC7 s.bA=true then .inl ()else .inr false):=by
 have key:=zE8 (body:=zA2 s) s.bA.length (λ i=>if zcN0 s.bA i (s.bA.getD i bI.zero)=true then none else some (Sum.inr (α:=Unit) false)) (Sum.inl ()) (λ i hi=>by
  unfold zA2;have c1:(i:Int)<(s.bA.length:Int):=by omega
  have c2:0<=(i:Int):=by omega
  simp only[c1,c2,cN,bU,bT,zl3,zck4,zae6,Int.toNat_natCast];unfold zcN0;have nd:∀x:bI,x=x:=λ x=>rfl;rcases hb (za3 (s.bA.getD i bI.zero).aI)with hP|hP
  .rcases hb (vE (s.bA.getD i bI.zero).bK)with hE|hE
   .by_cases q1:(s.bA.getD i bI.zero).gen<0
    .simp[hP,hE,q1,show¬0<=(s.bA.getD i bI.zero).gen by omega,-List.getD_eq_getElem?_getD]
    .by_cases q2:1073741824<(s.bA.getD i bI.zero).gen
     .simp[hP,hE,q1,q2,show¬(s.bA.getD i bI.zero).gen<=1073741824 by omega,-List.getD_eq_getElem?_getD]
     .have q1':0<=(s.bA.getD i bI.zero).gen:=by omega
      have q2':(s.bA.getD i bI.zero).gen<=1073741824:=by omega
      have w2:IntKind.i64.wrap ((i:Int)+1)=(i:Int)+1:=zk8 (by omega) (by omega)
      by_cases q3:i=0
      .subst q3;simp only[hP,hE,q1,q2,q1',q2',bT,Option.bind_some,bU,cV,cI,dI,fT,cA,fB,dK,fV,Int.cast_ofNat_Int,Int.lt_irrefl,gC,eT,bP,iD,zl3,bV];rfl
      .have q4:(0:Int)<(i:Int):=by omega
       have w:IntKind.i64.wrap ((i:Int)-1)=((i-1:Nat):Int):=zX8 i (by omega) (by omega);simp only[hP,hE,q1,q2,q1',q2',q3,q4,bU,cV,cI,dI,fT,cA,fB,dK,jV,bP,bT,bV,Option.bind_some,w,w2,Int.toNat_natCast];rw[gdp (by intro _;omega)]
       by_cases q5:cmpP (s.bA.getD (i-1) bI.zero).aI (s.bA.getD i bI.zero).aI<0
       .have q6:¬0<=cmpP (s.bA.getD (i-1) bI.zero).aI (s.bA.getD i bI.zero).aI:=by omega
        simp only[q5,q6,bU,cV,bT,bP,bV]
       .have q6:0<=cmpP (s.bA.getD (i-1) bI.zero).aI (s.bA.getD i bI.zero).aI:=by omega
        simp only[q5,q6,bU,cV,bT,bP,bV]
   .simp[hP,hE,-List.getD_eq_getElem?_getD]
  .simp[hP,-List.getD_eq_getElem?_getD])
  (by unfold zA2;simp)
 rw[key,zM5 (λ i=>zcN0 s.bA i (s.bA.getD i bI.zero))];unfold zbC7;rw[dZ];split<;>rfl
theorem zck6(s:aS)(hp:zat9 s.aG=true)(h8:s.bA.length<=8):zB0 s=some (zcB2 s):=by
 obtain⟨h1,h2,_⟩:=(zaS1 _).1 hp;have hq:=zbt6 s.aG h2;have hs:(zq7 s.aG).length<=200:=by have:=zbt4 (s.aG.flatMap zA0);unfold zq7;omega
 unfold zB0;rw[zbO5 h1 h2,Option.bind_some,zav1 s.bA bI.zero (·.aI) _ (by omega) (by omega) (λ i t hi ht=>by
  unfold zas0;have h3:0<=(i:Int)/\(i:Int)<(s.bA.length:Int):=by omega
  have h1:t.length+1<=4294967296:=by omega
  simp only[h1,h3.1,h3.2,cN,zl3,bU,bT,Int.toNat_natCast,zc2 i (show i<4611686018427387904 by omega)]) (λ t=>by unfold zas0;simp),Option.bind_some]
 unfold zaF3;rw[zax6 _ (by simp;omega)];rfl
theorem zbw0(s:aS)(h1:s.aG.length<=8)(h2:∀q∈s.aG,zi0 q=true)(h8:s.bA.length<=8):zy1 s=some (zcB2 s):=by
 have hq:=zbt6 s.aG h2;have hs:(zq7 s.aG).length<=200:=by have:=zbt4 (s.aG.flatMap zA0);unfold zq7;omega
 unfold zy1;rw[zap0 h1 h2,Option.bind_some,gdp (by omega),zav1 s.bA bI.zero (·.aI) _ (by omega) (by omega) (λ i t hi ht=>by
  unfold zZ9;have h3:0<=(i:Int)/\(i:Int)<(s.bA.length:Int):=by omega
  have h1:t.length+1<=4294967296:=by omega
  simp only[h1,h3.1,h3.2,cN,zl3,bU,bT,Int.toNat_natCast,zc2 i (show i<4611686018427387904 by omega)]) (λ t=>by unfold zZ9;simp),Option.bind_some]
 unfold zan8;rw[zax5 _ (by simp;omega)];rfl
theorem zbC8(s:aS)(hp:zat9 s.aG=true)(h8:s.bA.length<=8):zy1 s=some (zcB2 s):=by obtain⟨h1,h2,_⟩:=(zaS1 _).1 hp;exact zbw0 s h1 h2 h8
theorem zbq4(s:aS):zN2 s=some (zac0 s):=by
 unfold zN2 zac0;rw[zbp3,Option.bind_some];cases hp:zat9 s.aG with
 |false=>rfl
 |true=>
  by_cases h8:s.bA.length<=8
  .simp only[cI,dK,show¬(8:Int)<(s.bA.length:Int)by omega,cV,bP,bV,h8,bU,cA];rw[<-zcM9,zck5 s h8,Option.bind_some];cases zbC7 s.bA with
   |false=>rfl
   |true=>simp only[bT,cA];unfold zaF8;rw[zck6 s hp h8,Option.bind_some];congr 1;rw[cJ];simp;omega
  .simp only[cI,dK,show(8:Int)<(s.bA.length:Int)by omega,bU,bT,h8,cV,gC,eT]
theorem zay0(s:aS):zz8 s=some (zac0 s):=by
 unfold zz8 zac0
 by_cases h8:s.bA.length<=8
 .by_cases hq:s.aG.length<=8
  .simp only[show¬(8:Int)<(s.bA.length:Int)by omega,show¬(8:Int)<(s.aG.length:Int)by omega,cV,fB,bP,bV,h8,bU,eK];rw[zbB6 s.aG hq (λ i hi=>by
    unfold zaa7;have h3:0<=(i:Int)/\(i:Int)<(s.aG.length:Int):=by omega
    simp only[h3.1,h3.2,cN,zl3,bU,bT,Int.toNat_natCast,zae7,Option.bind_some,zc2 i (show i<4611686018427387904 by omega)]
    by_cases e0:i=0
    .subst e0;rw[zb0 (by simp)];cases zi0 (s.aG.getD 0 aA.zero)<;>simp
    .rw[zX8 i (by omega) (by omega),zb0 (by intro _;omega)];simp only[Int.toNat_natCast,show(0:Int)<(i:Int)by omega,bU,cA,e0,iB];unfold ltN;rcases hb (zi0 (s.aG.getD i aA.zero))with b1|b1<;>rcases hb (Op.bytesLess (s.aG.getD (i-1) aA.zero).aB.name.toList (s.aG.getD i aA.zero).aB.name.toList)with b2|b2<;>simp[b1,b2,-List.getD_eq_getElem?_getD]) (by unfold zaa7;simp)]
   unfold zat9;simp only[hq,bU,cA];cases ha:ascW s.aG none with
   |false=>rfl
   |true=>
    have hp:zat9 s.aG=true:=by unfold zat9;simp[hq,ha]
    simp only[bT,Option.bind_some,cA];unfold zaa6;rw[zck5 s h8,Option.bind_some];cases zbC7 s.bA with
    |false=>rfl
    |true=>simp only[bT,cA];unfold zan9;rw[zbC8 s hp h8,Option.bind_some];congr 1;rw[cJ];simp;omega
  .have:zat9 s.aG=false:=by unfold zat9;simp[hq]
   simp only[show(8:Int)<(s.aG.length:Int)by omega,bU,fV,bT,this,eT]
 .simp only[show(8:Int)<(s.bA.length:Int)by omega,bU,jK,bT,h8,cV,gC,eT]
theorem zbt8(n:Int)(h0:0<=n)(h1:n<2^64):IntKind.u64.wrap n=n:=by rw[IntKind.wrap_u64];omega
theorem zcX2{x:Int}(h0:0<=x)(h1:x<18446744073709551616):zah8 .and .u64 x 127=x% 128:=bits_mask .u64 64 (by decide) zbt8 7 (by decide) x h0 (by omega)
theorem zdD6(k:IntKind)(x y:Int):zah8 .or k x y=zah8 .or k y x:=by simp only[zah8,BitVec.or_comm]
theorem zdD7{y:Int}(h0:0<=y)(h1:y<128):zah8 .or .u8 y 128=y+128:=by rw[zdD6];have:zah8 .or .u8 128 y=128+y:=bits_join .u8 8 (by decide) wraps_u8 7 128 y (by decide) (by decide) (by decide) h0 (by omega) (by omega);rw[this];omega
def encU(n:Nat):List Int:=if n<128 then[(n:Int)]else((n% 128+128:Nat):Int)::encU (n/128)
termination_by n
decreasing_by omega
theorem zbX6{n:Nat}(h:n<128):encU n=[(n:Int)]:=by rw[encU,bO h]
theorem zde3{n:Nat}(h:¬n<128):encU n=((n% 128+128:Nat):Int)::encU (n/128):=by rw[encU,bN h]
theorem zck7:∀(k n:Nat),n<128^(k+1)->1<=(encU n).length/\(encU n).length<=k+1
 |0,n,h=>by rw[zbX6 (by omega)];simp
 |k+1,n,h=>by
  by_cases c:n<128
  .rw[zbX6 c];simp
  .rw[zde3 c];have:=zck7 k (n/128) (by rw[Nat.pow_succ]at h;omega);simp only[List.length_cons];omega
theorem zbq5:∀(k n:Nat) (l:List Int),n<128^(k+1)->k<=8->l.length+k<=4294967290->∃y l',zc1 zs7 ((n:Int),l)=some (y,l')/\l'++[IntKind.u8.wrap y]=l++encU n/\l'.length<=l.length+k
 |0,n,l,h,hk,hl=>by
  refine⟨n,l,?_,?_,by omega⟩
  .rw[zh3];unfold zs7;rw[bN (by simp;omega)]
  .rw[zbX6 (by omega),wraps_u8 _ (by omega) (by omega)]
 |k+1,n,l,h,hk,hl=>by
  by_cases c:n<128
  .refine⟨n,l,?_,?_,by omega⟩
   .rw[zh3];unfold zs7;rw[bN (by simp;omega)]
   .rw[zbX6 c,wraps_u8 _ (by omega) (by omega)]
  .have hbig:n<18446744073709551616:=by
    have:128^(k+1+1)<=128^9:=Nat.pow_le_pow_right (by decide) (by omega);omega
   obtain⟨y,l',h1,h2,h3⟩:=zbq5 k (n/128) (l++[((n% 128+128:Nat):Int)]) (by rw[Nat.pow_succ]at h;omega) (by omega) (by simp;omega);refine⟨y,l',?_,?_,by simp at h3;omega⟩
   .rw[zh3];have hstep:zs7 ((n:Int),l)=some (.inl (((n/128:Nat):Int),l++[((n% 128+128:Nat):Int)])):=by
     unfold zs7;simp only;rw[bO (by simp;omega),gdp (by omega),zcX2 (by omega) (by omega),wraps_u8 _ (by omega) (by omega),zdD7 (by omega) (by omega)];have:(n:Int).fdiv (2^7)=((n/128:Nat):Int):=by rw[Int.fdiv_eq_ediv_of_nonneg _ (by decide)];omega
     rw[this];have:(n:Int)% 128+128=((n% 128+128:Nat):Int):=by omega
     rw[this]
    rw[hstep];exact h1
   .rw[h2,zde3 c,bZ];rfl
theorem zbO6{n:Nat}{l:List Int}(hn:n<128^9)(hl:l.length<=4294967000):zc9 l (n:Int)=some (l++encU n):=by obtain⟨y,l',h1,h2,h3⟩:=zbq5 8 n l hn (by decide) (by omega);unfold zc9;rw[gdp (by omega),h1,Option.bind_some];unfold zU7;rw[gdp (by simp only;omega)];simp only[h2]
theorem zbS6{n:Nat}{l:List Int}(hn:n<128^9)(hl:l.length<=4294967000):zb3 l (n:Int)=some (l++encU n):=by rw[<-zbO6 hn hl];rfl
theorem zcX3(g:Int×List Int):zL7 g=zs7 g:=by
 unfold zL7 zs7
 by_cases c:127<g.1
 .rw[bO (by simpa using c),bO (by simp;omega)]
 .rw[bN (by simpa using c),bN (by simp;omega)]
theorem zdm6(l:List Int)(x:Int)(hl:l.length<=4294967000):zd5 l x=zc9 l x:=by
 unfold zd5 zc9;have hb:zL7=zs7:=funext zcX3;have ht:l.take ((l.length:Int).toNat)=l:=by rw[Int.toNat_natCast,fH]
 have g2:l.length+1<=4294967296:=by omega
 have g3:l.length<=4294967296:=by omega
 rw[ht,hb,gdp (by omega),gdp g2,gdp g3,zh3 zs7 (x,l)]
 by_cases c:127<x
 .rw[bO (by simpa using c)];have:zs7 (x,l)=some (.inl (x.fdiv (2^7),l++[zah8 .or .u8 (IntKind.u8.wrap (zah8 .and .u64 x 127)) 128])):=by
   unfold zs7;rw[bO (by simp;omega),gdp (by simp only;omega)]
  rw[this];rfl
 .rw[bN (by simpa using c)];have:zs7 (x,l)=some (.inr (x,l)):=by
   unfold zs7;rw[bN (by simp;omega)]
  rw[this];show _=zU7 (x,l);unfold zU7;rw[gdp g2]
theorem zcu6{n:Nat}{l:List Int}(hn:n<128^9)(hl:l.length<=4294967000):zd5 l (n:Int)=some (l++encU n):=by rw[zdm6 l _ hl,zbO6 hn hl]
theorem zbS7{n:Nat}{l:List Int}(hn:n<128^9)(hl:l.length<=4294967000):zb2 l (n:Int)=some (l++encU n):=by rw[<-zcu6 hn hl];rfl
def encI(x:Int):List Int:=encU x.toNat
def encT(s:ByteArray):List Int:=encU s.size++s.toList.map λ b=>(b.toNat:Int)
def encP(p:aF):List Int:=encI p.site++encI p.inc++encI p.num
def encA(a:aC):List Int:=encI a.mode++encI a.aV
mutual
def encE:aZ->List Int
 |⟨k,a,ks⟩=>encI k++(if k=0 then encT a.name++encA a.aJ else encI (ks.length:Int)++zcN1 ks)
def zcN1:List aZ->List Int
 |[]=>[]
 |k::l=>encE k++zcN1 l
end
theorem zde4(e:aZ):encE e=encI e.k++(if e.k=0 then encT e.aW.name++encA e.aW.aJ else encI (e.bE.length:Int)++e.bE.flatMap encE):=by
 have:∀l,zcN1 l=l.flatMap encE:=by
  intro l;induction l with
  |nil=>rw[zcN1];rfl
  |cons x l ih=>rw[zcN1,ih];rfl
 cases e;rw[encE,this]
def encH(h:aT):List Int:=encP h.aI++encA h.aJ
def encC(w:aM):List Int:=encP w.aI++encA w.aJ
def encW(w:aM):List Int:=encP w.aI++encA w.aJ++encI w.aX++encI w.bG
def encQ(q:aA):List Int:=encT q.aB.name++(encI q.aB.kind++(encI q.aB.aV++(encI q.aB.home++(encI q.gen++(encI (q.aL.length:Int)++(q.aL.flatMap encH++(encI (q.aH.length:Int)++(q.aH.flatMap encC++(encI (q.aU.length:Int)++q.aU.flatMap encW)))))))))
def encN(n:bI):List Int:=encP n.aI++(encI n.gen++encE n.bK)
def encS(s:aS):List Int:=encI (s.aG.length:Int)++(s.aG.flatMap encQ++(encI (s.bA.length:Int)++s.bA.flatMap encN))
def okI(x:Int):Prop:=0<=x/\x<=1073741824
theorem zap3(s:ByteArray):s.toList.length=s.size:=by rw[ByteArray.toList_eq];rfl
theorem zbf9{p:aF}(h:za3 p=true):okI p.site/\okI p.inc/\okI p.num:=by unfold za3 zK2 at h;simp only[bM,bQ]at h;unfold okI;omega
def okA(a:aC):Prop:=okI a.mode/\okI a.aV
theorem zat1{a:aC}(h:zF1 a=true):okA a:=by unfold zF1 zu4 zy3 at h;unfold okA okI;simp at h;omega
theorem zaj8{s:ByteArray}(h:zy8 s=true):s.size<=12:=by unfold zy8 at h;simp at h;omega
theorem zcB3:∀{l:List aZ} {k:aZ},okL l=true->k∈l->okE k=true
 |x::l,k,h,hk=>by
  simp only[okL,bM]at h;rcases bX.1 hk with rfl|hk
  .exact h.1
  .exact zcB3 h.2 hk
structure OkQ (q:aA):Prop where
 name:q.aB.name.size<=1024
 kind:okI q.aB.kind
 aV:okI q.aB.aV
 home:okI q.aB.home
 gen:okI q.gen
 lh:q.aL.length<=8
 lc:q.aH.length<=8
 lw:q.aU.length<=8
 h:∀x∈q.aL,za3 x.aI=true/\okA x.aJ
 c:∀x∈q.aH,za3 x.aI=true/\okA x.aJ/\x.aX=0/\x.bG=0
 w:∀x∈q.aU,za3 x.aI=true/\okA x.aJ/\okI x.aX/\okI x.bG
structure OkS (s:aS):Prop where
 lq:s.aG.length<=8
 ln:s.bA.length<=8
 q:∀q∈s.aG,OkQ q
 n:∀n∈s.bA,za3 n.aI=true/\okI n.gen/\okE n.bK=true/\fitE n.bK=true
theorem zcX4{l:List aM}(h:zS4 l=true){w:aM}(hw:w∈l):zi4 w=true:=by unfold zS4 at h;simp only[bM,bQ,cS,dH]at h;obtain⟨i,hi,e⟩:=dU hw;have:=(h.2 i hi).1;rw[bS,bW hi]at this;simp only[Option.getD_some,e]at this;exact this
theorem zcB4{r:aD}{a:aC}(h:zb4 r a=true)(hs:r.aV<=1073741824):okA a:=by rw[zaa9]at h;unfold okA okI;omega
theorem zck8{q:aA}(h:zi0 q=true):OkQ q/\q.aB.name.size<=12:=by
 have hs:=((zt4 q).1 h).1;have hl:=zu8 h;have hr:=hs.res;unfold resV at hr;simp only[bM,bQ]at hr;have hn:=zaj8 hr.1;have hsh:=(zH0 _).1 hr.2.1;have hu:q.aB.aV<=1073741824:=by omega
 refine⟨⟨by omega,by unfold okI;omega,by unfold okI;omega,by unfold okI;omega,hs.gen,hl.1,hl.2.1,hl.2.2.1,λ x hx=>?_,λ x hx=>?_,λ x hx=>?_⟩,hn⟩
 .have:=((zR3 _ _).1 hs.hv).2.2.1.each x hx;exact⟨this.1,zcB4 this.2 hu⟩
 .have:=zci6 hs (w:=x) (by unfold ordQ;exact cP.2 (.inl hx));have h2:=hs.cg x hx;exact⟨this.1,zcB4 this.2.1 hu,h2.2.2.2.2.1,h2.2.2.2.2.2⟩
 .have:=zci6 hs (w:=x) (by unfold ordQ;exact cP.2 (.inr hx));have h2:=zcX4 hs.wv hx;unfold zi4 at h2;simp only[bM,bQ]at h2;exact⟨this.1,zcB4 this.2.1 hu,by unfold okI;omega,by unfold okI;omega⟩
theorem zcX5{l:List bI}(h:zbC7 l=true){n:bI}(hn:n∈l):za3 n.aI=true/\vE n.bK=true/\okI n.gen:=by unfold zbC7 at h;rw[cS]at h;obtain⟨i,hi,e⟩:=dU hn;have:=h i (dH.2 hi);rw[bS,bW hi]at this;simp only[Option.getD_some,e]at this;unfold zcN0 at this;simp only[bM,bQ]at this;exact⟨this.1.1.1.1,this.1.1.1.2,this.1.1.2,this.1.2⟩
theorem zdR9{e:aZ}(h:vE e=true):okE e=true/\fitE e=true:=by
 unfold vE at h;rw[bM]at h;refine⟨?_,h.1⟩;have h2:=h.2;unfold zam1 at h2;split at h2
 .assumption
 .cases h2
theorem zbc9{s:aS}(h:zac0 s=true):OkS s/\∀q∈s.aG,q.aB.name.size<=12:=by unfold zac0 at h;simp only[bM,bQ]at h;obtain⟨h1,h2,_⟩:=(zaS1 _).1 h.1.1.1;refine⟨⟨h1,h.1.1.2,λ q hq=>(zck8 (h2 q hq)).1,λ n hn=>?_⟩,λ q hq=>(zck8 (h2 q hq)).2⟩;obtain⟨a,b,c⟩:=zcX5 h.1.2 hn;exact⟨a,c,(zdR9 b).1,(zdR9 b).2⟩
theorem zu3{x:Int}(h:okI x):(encI x).length<=5:=(zck7 4 x.toNat (by have:=h.1;have:=h.2;omega)).2
theorem zbI0{s:ByteArray}(h:s.size<=1024):(encT s).length<=1029:=by have:=(zck7 4 s.size (by omega)).2;unfold encT;rw[bR,cO,zap3];omega
theorem zaV9{p:aF}(h:za3 p=true):(encP p).length<=15:=by obtain⟨a,b,c⟩:=zbf9 h;have:=zu3 a;have:=zu3 b;have:=zu3 c;unfold encP;simp only[bR];omega
theorem zbX7{a:aC}(h:okA a):(encA a).length<=10:=by have:=zu3 h.1;have:=zu3 h.2;unfold encA;simp only[bR];omega
theorem zaw6{α:Type}{f:α->List Int}{c:Nat}:∀{l:List α},(∀x∈l,(f x).length<=c)->(l.flatMap f).length<=c*l.length
 |[],_=>by simp
 |x::l,h=>by have h1:=h x (.head _);have h2:=zaw6 (l:=l) λ y hy=>h y (.tail _ hy);rw[dV,bR,List.length_cons,Nat.mul_add];omega
theorem zde5:∀(n:Nat) (e:aZ),_root_.SizeOf.sizeOf e<n->okE e=true->zs2 e<=24->((encE e).length:Int)<=1100*zs2 e
 |0,_,h,_,_=>by omega
 |n+1,e,h,hok,hn=>by
  have hne:=zaj7 e;have hl:=zR4 e.bE;rw[zde4,bR]
  by_cases c:e.bE.length=0
  .obtain⟨k0,k1,k2⟩:=(zck2 c).1 hok;have:=zu3 (x:=e.k) (by rw[k0];unfold okI;omega);have:=zbI0 (s:=e.aW.name) (by have:=zaj8 k1;omega);have:=zbX7 (zat1 k2);rw[bO k0,bR];omega
  .obtain⟨⟨k0,k1,k2⟩,k3⟩:=(zck3 c).1 hok;have e1:=zu3 (x:=e.k) (by unfold okI;omega);have e2:=zu3 (x:=(e.bE.length:Int)) (by unfold okI;omega);rw[bN (by omega),bR];have key:∀l:List aZ,(∀k∈l,k∈e.bE)->((l.flatMap encE).length:Int)<=1100*zz5 l:=by
    intro l;induction l with
    |nil=>intro _;simp[zbC3]
    |cons k l ih=>intro hk;have h1:=zde5 n k (zaS4 h (hk k (.head _))) (zcB3 k3 (hk k (.head _))) (by have:=zcu3 (hk k (.head _));omega);have h2:=ih λ y hy=>hk y (.tail _ hy);rw[dV,bR,zap2];omega
   have:=key e.bE λ _ h=>h;omega
theorem zdP3{q:aA}(h:OkQ q):(encQ q).length<=2000:=by
 have lh:=h.lh;have lc:=h.lc;have lw:=h.lw;have a1:=zbI0 h.name;have a2:=zu3 h.kind;have a3:=zu3 h.aV;have a4:=zu3 h.home;have a5:=zu3 h.gen;have a6:=zu3 (x:=(q.aL.length:Int)) (by unfold okI;omega);have a7:=zu3 (x:=(q.aH.length:Int)) (by unfold okI;omega);have a8:=zu3 (x:=(q.aU.length:Int)) (by unfold okI;omega);have b1:=zaw6 (l:=q.aL) (f:=encH) (c:=25) λ x hx=>by have:=zaV9 (h.h x hx).1;have:=zbX7 (h.h x hx).2;unfold encH;rw[bR];omega
 have b2:=zaw6 (l:=q.aH) (f:=encC) (c:=25) λ x hx=>by have:=zaV9 (h.c x hx).1;have:=zbX7 (h.c x hx).2.1;unfold encC;rw[bR];omega
 have b3:=zaw6 (l:=q.aU) (f:=encW) (c:=35) λ x hx=>by have:=zaV9 (h.w x hx).1;have:=zbX7 (h.w x hx).2.1;have:=zu3 (h.w x hx).2.2.1;have:=zu3 (h.w x hx).2.2.2;unfold encW;simp only[bR];omega
 unfold encQ;simp only[bR];omega
theorem zdP4{n:bI}(h:za3 n.aI=true/\okI n.gen/\okE n.bK=true/\fitE n.bK=true):(encN n).length<=30000:=by have h4:=h.2.2.2;unfold fitE at h4;simp only[bM,bQ]at h4;have:=zaV9 h.1;have:=zu3 h.2.1;have:=zde5 _ n.bK (dY _) h.2.2.1 h4.2;unfold encN;simp only[bR];omega
theorem zbt9{s:aS}(h:OkS s):(encS s).length<=300000:=by have lq:=h.lq;have ln:=h.ln;have a1:=zu3 (x:=(s.aG.length:Int)) (by unfold okI;omega);have a2:=zu3 (x:=(s.bA.length:Int)) (by unfold okI;omega);have b1:=zaw6 (l:=s.aG) (f:=encQ) (c:=2000) λ x hx=>zdP3 (h.q x hx);have b2:=zaw6 (l:=s.bA) (f:=encN) (c:=30000) λ x hx=>zdP4 (h.n x hx);unfold encS;simp only[bR];omega
abbrev room(l e:List Int):Prop:=l.length+e.length<=4294960000
theorem room.left{l a b:List Int}(h:room l (a++b)):room l a:=by unfold room at*;rw[bR]at h;omega
theorem room.right{l a b:List Int}(h:room l (a++b)):room (l++a) b:=by unfold room at*;rw[bR]at h⊢;omega
theorem zaI4{l:List Int}{x:Int}(h:okI x)(hr:room l (encI x)):zd5 l (IntKind.u64.wrap x)=some (l++encI x)/\zc9 l (IntKind.u64.wrap x)=some (l++encI x):=by unfold room at hr;obtain⟨h0,h1⟩:=h;rw[zbt8 x h0 (by omega)];have:x=((x.toNat:Nat):Int):=(gY h0).symm;unfold encI;rw[this,Int.toNat_natCast];exact⟨zcu6 (by omega) (by omega),zbO6 (by omega) (by omega)⟩
theorem zab2{l:List Int}{x:Int}(h:okI x)(hr:room l (encI x)):zj5 l x=some (l++encI x):=by unfold zj5;rw[(zaI4 h hr).2];rfl
theorem zbI1:∀(xs:List Int) (l:List Int),(∀x∈xs,okI x)->xs.length<=1000->room l (xs.flatMap encI)->zb6 l xs=some (l++xs.flatMap encI):=by
 intro xs l hx hlen hr;unfold zb6;have key:∀k i (acc:List Int),i+k=xs.length->room acc ((xs.drop i).flatMap encI)->zc1 (zD7 xs) (acc,(i:Int))=some (acc++(xs.drop i).flatMap encI):=by
  intro k;induction k with
  |zero=>
   intro i acc hi _;have:i=xs.length:=by omega
   subst this;rw[zh3,hJ];unfold zD7;rw[bN (by simp)];simp
  |succ k ih=>
   intro i acc hi hrm;have hlt:i<xs.length:=by omega
   rw[zae5 xs i 0 hlt]at hrm⊢;rw[dV]at hrm⊢;have hok:=hx _ (zm9 (z:=0) hlt);rw[zh3];unfold zD7;simp only;rw[bO (by simpa using hlt),gdp (by omega)];simp only[Int.toNat_natCast];rw[(zaI4 hok hrm.left).1,Option.bind_some,zc2 i (by omega)];simp only;have:=ih (i+1) (acc++encI (xs.getD i 0)) (by omega) hrm.right;unfold zD7 at this;rw[this,bZ]
 have:=key xs.length 0 l (by omega) hr;rw[show((l,0):List Int×Int)=(l,((0:Nat):Int))from rfl,this];rfl
theorem zbI2{l:List Int}{s:ByteArray}(h:s.size<=1024)(hr:room l (encT s)):zj1 l s=some (l++encT s)/\zj0 l s=some (l++encT s):=by have hr':=hr;unfold room at hr';unfold zj1 zj0;unfold encT at hr hr'⊢;rw[bR,cO,zap3]at hr';rw[zbt8 (s.size:Int) (by omega) (by omega),zbS7 (by omega) (by omega),zbS6 (by omega) (by omega),Option.bind_some,gdp (by rw[bR,zap3];omega),bZ];exact⟨rfl,rfl⟩
theorem zaL3{l:List Int}{p:aF}(h:za3 p=true)(hr:room l (encP p)):zj2 l p=some (l++encP p)/\zh2 l p=some (l++encP p):=by
 obtain⟨k1,k2,k3⟩:=zbf9 h;unfold encP at hr⊢;have r1:=hr.left.left;have r2:=hr.left.right;have r3:=hr.right;rw[<-bZ]at r3;constructor
 .unfold zj2;have t1:∀acc:List Int,room acc (encI p.site)->zy4 p (acc,0)=some (.inl (acc++encI p.site,1)):=λ acc ha=>by
   unfold zy4;rw[bO (by simp),gdp (by simp)];show((zd5 acc (IntKind.u64.wrap p.site)).bind λ v1=>some (Sum.inl (v1,IntKind.i64.wrap (0+1))))=_;rw[(zaI4 k1 ha).1];rfl
  have t2:∀acc:List Int,room acc (encI p.inc)->zy4 p (acc,1)=some (.inl (acc++encI p.inc,2)):=λ acc ha=>by unfold zy4;rw[bO (by simp),gdp (by simp)];show((zd5 acc (IntKind.u64.wrap p.inc)).bind λ v1=>some (Sum.inl (v1,IntKind.i64.wrap (1+1))))=_;rw[(zaI4 k2 ha).1];rfl
  have t3:∀acc:List Int,room acc (encI p.num)->zy4 p (acc,2)=some (.inl (acc++encI p.num,3)):=λ acc ha=>by unfold zy4;rw[bO (by simp),gdp (by simp)];show((zd5 acc (IntKind.u64.wrap p.num)).bind λ v1=>some (Sum.inl (v1,IntKind.i64.wrap (2+1))))=_;rw[(zaI4 k3 ha).1];rfl
  have t4:∀acc:List Int,zy4 p (acc,3)=some (.inr acc):=λ acc=>by unfold zy4;rw[bN (by simp)]
  have hlen:l.length<=4294967296:=by unfold room at hr;omega
  rw[gdp hlen,bN (by simp[h]),zh3,t1 l r1];simp only;rw[zh3,t2 _ r2];simp only;rw[zh3,t3 _ r3];simp only;rw[zh3,t4];simp only[bZ];rfl
 .unfold zh2;rw[zao3,bN (by simp[h]),(zaI4 k1 r1).2,Option.bind_some,(zaI4 k2 r2).2,Option.bind_some,(zaI4 k3 r3).2];simp only[bZ];rfl
theorem zbg0{l:List Int}{a:aC}(h:okA a)(hr:room l (encA a)):zm1 l a=some (l++encA a):=by unfold zm1;unfold encA at hr⊢;rw[zab2 h.1 hr.left,Option.bind_some,zab2 h.2 hr.right,bZ];rfl
theorem zbC9{l:List Int}{a:aC}(h:okA a)(hr:room l (encA a)):zb6 l [a.mode,a.aV]=some (l++encA a):=by
 have:[a.mode,a.aV].flatMap encI=encA a:=by simp[encA]
 rw[zbI1 _ l (λ x hx=>by
  simp only[bX,dX,gF]at hx;rcases hx with rfl|rfl
  .exact h.1
  .exact h.2) (by simp) (by rw[this];exact hr),this]
theorem zaW0{l:List Int}{x:Int}(h:okI x)(hr:room l (encI x)):zb6 l [x]=some (l++encI x):=by
 have:[x].flatMap encI=encI x:=by simp
 rw[zbI1 _ l (λ y hy=>by rw[dS.1 hy];exact h) (by simp) (by rw[this];exact hr),this]
theorem zR5{α:Type}{body:List Int×Int->Option ((List Int×Int)⊕List Int)}{enc:α->List Int}{ok:α->Prop}(l:List α)(z:α)(hlen:l.length<=1000)
  (hs:∀(i:Nat) acc,i<l.length->ok (l.getD i z)->room acc (enc (l.getD i z))->body (acc,(i:Int))=some (.inl (acc++enc (l.getD i z),((i+1:Nat):Int))))
  (he:∀acc,body (acc,(l.length:Int))=some (.inr acc)) (hok:∀x∈l,ok x) (acc:List Int) (hr:room acc (l.flatMap enc)):zc1 body (acc,0)=some (acc++l.flatMap enc):=by
 have key:∀k i (acc:List Int),i+k=l.length->room acc ((l.drop i).flatMap enc)->zc1 body (acc,(i:Int))=some (acc++(l.drop i).flatMap enc):=by
  intro k;induction k with
  |zero=>
   intro i acc hi _;have:i=l.length:=by omega
   subst this;rw[zh3,hJ,he];simp
  |succ k ih=>
   intro i acc hi hrm;have hlt:i<l.length:=by omega
   rw[zae5 l i z hlt]at hrm⊢;rw[dV]at hrm⊢;rw[zh3,hs i acc hlt (hok _ (zm9 (z:=z) hlt)) hrm.left];simp only;rw[ih (i+1) _ (by omega) hrm.right,bZ]
 exact key l.length 0 acc (by omega) hr
theorem zbI3:∀(n:Nat) (e:aZ),_root_.SizeOf.sizeOf e<n->okE e=true->zs2 e<=24->∀l,room l (encE e)->zH4 n l e=some (l++encE e)/\zaj3 n l e=some (l++encE e)
 |0,_,h,_,_,_,_=>by omega
 |n+1,e,h,hok,hn,l,hr=>by
  show zF8 (zH4 n) l e=_/\zad4 (zaj3 n) l e=_;unfold zF8 zad4;have hl:=zR4 e.bE;have hne:=zaj7 e;rw[zde4]at hr|-
  by_cases c:e.bE.length=0
  .obtain⟨k0,k1,k2⟩:=(zck2 c).1 hok;have hk:okI e.k:=by rw[k0];unfold okI;omega
   rw[zaW0 hk hr.left,zab2 hk hr.left,Option.bind_some,Option.bind_some];have hr1:=hr.right;rw[bO k0]at hr1⊢;have ht:=zbI2 (by have:=zaj8 k1;omega) hr1.left;rw[bO (by simpa using k0),bO (by simpa using k0),ht.1,ht.2,Option.bind_some,Option.bind_some,zbC9 (zat1 k2) hr1.right,zbg0 (zat1 k2) hr1.right];simp only[bZ];exact⟨rfl,rfl⟩
  .obtain⟨⟨k0,k1,k2⟩,k3⟩:=(zck3 c).1 hok;have hk:okI e.k:=by unfold okI;omega
   have kn:¬e.k=0:=by omega
   rw[zaW0 hk hr.left,zab2 hk hr.left,Option.bind_some,Option.bind_some];have hr1:=hr.right;rw[bN kn]at hr1⊢;have hc:okI (e.bE.length:Int):=by unfold okI;omega
   rw[bN (by simpa using kn),bN (by simpa using kn),zaW0 hc hr1.left,zab2 hc hr1.left,Option.bind_some,Option.bind_some];have hF:∀k∈e.bE,okE k=true/\zs2 k<=24/\_root_.SizeOf.sizeOf k<n:=λ k hk=>⟨zcB3 k3 hk,by have:=zcu3 hk;omega,zaS4 h hk⟩;have w1:=zR5 (body:=zJ2 (zH4 n) e) (enc:=encE) (ok:=λ k=>okE k=true/\zs2 k<=24/\_root_.SizeOf.sizeOf k<n) e.bE aZ.zero (by omega) (λ i acc hi hx ha=>by
    unfold zJ2;simp only;rw[bO (by simpa using hi),gdp (by omega)];simp only[Int.toNat_natCast];rw[(zbI3 n _ hx.2.2 hx.1 hx.2.1 acc ha).1,Option.bind_some,zc2 i (by omega)]) (λ acc=>by unfold zJ2;simp) hF _ hr1.right
   have w2:=zR5 (body:=zai4 (zaj3 n) e) (enc:=encE) (ok:=λ k=>okE k=true/\zs2 k<=24/\_root_.SizeOf.sizeOf k<n) e.bE aZ.zero (by omega) (λ i acc hi hx ha=>by
    unfold zai4;simp only;rw[bO (by simpa using hi),gdp (by omega)];simp only[Int.toNat_natCast];rw[(zbI3 n _ hx.2.2 hx.1 hx.2.1 acc ha).2,Option.bind_some,zc2 i (by omega)]) (λ acc=>by unfold zai4;simp) hF _ hr1.right
   rw[w1,w2];simp only[bZ];exact⟨rfl,rfl⟩
theorem zdm7{q:aA}(h:OkQ q){l:List Int}(hr:room l (encQ q)):zi8 l q=some (l++encQ q):=by
 have lh:=h.lh;have lc:=h.lc;have lw:=h.lw;have o1:okI (q.aL.length:Int):=by unfold okI;omega
 have o2:okI (q.aH.length:Int):=by unfold okI;omega
 have o3:okI (q.aU.length:Int):=by unfold okI;omega
 unfold zi8;unfold encQ at hr⊢;rw[(zbI2 h.name hr.left).1,Option.bind_some]
 replace hr:=hr.right
 have e5:[q.aB.kind,q.aB.aV,q.aB.home,q.gen,(q.aL.length:Int)].flatMap encI=encI q.aB.kind++(encI q.aB.aV++(encI q.aB.home++(encI q.gen++encI (q.aL.length:Int)))):=by simp
 have hr5:room (l++encT q.aB.name) ([q.aB.kind,q.aB.aV,q.aB.home,q.gen,(q.aL.length:Int)].flatMap encI):=by rw[e5];unfold room at hr⊢;simp only[bR]at hr⊢;omega
 rw[zbI1 _ _ (λ x hx=>by
  simp only[bX,dX,gF]at hx;rcases hx with rfl|rfl|rfl|rfl|rfl
  .exact h.kind
  .exact h.aV
  .exact h.home
  .exact h.gen
  .exact o1) (by simp) hr5,Option.bind_some,e5]
 replace hr:=hr.right.right.right.right.right
 have assoc:l++encT q.aB.name++encI q.aB.kind++encI q.aB.aV++encI q.aB.home++encI q.gen++encI (q.aL.length:Int)=l++encT q.aB.name++(encI q.aB.kind++(encI q.aB.aV++(encI q.aB.home++(encI q.gen++encI (q.aL.length:Int))))):=by simp only[bZ]
 rw[assoc]at hr;have w3:=zR5 (body:=zH7 q) (enc:=encH) (ok:=λ x=>za3 x.aI=true/\okA x.aJ) q.aL aT.zero (by omega) (λ i acc hi hx ha=>by
  unfold encH at ha⊢;unfold zH7;simp only;rw[bO (by simpa using hi),gdp (by omega)];simp only[Int.toNat_natCast];rw[(zaL3 hx.1 ha.left).1,Option.bind_some,zbC9 hx.2 ha.right,Option.bind_some,zc2 i (by omega),bZ]) (λ acc=>by unfold zH7;simp) h.h _ hr.left
 rw[w3,Option.bind_some]
 replace hr:=hr.right
 unfold zQ5;rw[zaW0 o2 hr.left,Option.bind_some]
 replace hr:=hr.right
 have w2:=zR5 (body:=zH6 q) (enc:=encC) (ok:=λ x=>za3 x.aI=true/\okA x.aJ/\x.aX=0/\x.bG=0) q.aH aM.zero (by omega) (λ i acc hi hx ha=>by
  unfold encC at ha⊢;unfold zH6;simp only;rw[bO (by simpa using hi),gdp (by omega)];simp only[Int.toNat_natCast];rw[(zaL3 hx.1 ha.left).1,Option.bind_some,zbC9 hx.2.1 ha.right,Option.bind_some,zc2 i (by omega),bZ]) (λ acc=>by unfold zH6;simp) h.c _ hr.left
 rw[w2,Option.bind_some]
 replace hr:=hr.right
 unfold zQ4;rw[zaW0 o3 hr.left,Option.bind_some]
 replace hr:=hr.right
 have w1:=zR5 (body:=zH5 q) (enc:=encW) (ok:=λ x=>za3 x.aI=true/\okA x.aJ/\okI x.aX/\okI x.bG) q.aU aM.zero (by omega) (λ i acc hi hx ha=>by
  have e4:∀w:aM,[w.aJ.mode,w.aJ.aV,w.aX,w.bG].flatMap encI=encA w.aJ++(encI w.aX++encI w.bG):=λ w=>by simp[encA]
  unfold encW at ha⊢;rw[bZ,bZ]at ha⊢;unfold zH5;simp only;rw[bO (by simpa using hi),gdp (by omega)];simp only[Int.toNat_natCast];rw[(zaL3 hx.1 ha.left).1,Option.bind_some,zbI1 _ _ (λ y hy=>by
   simp only[bX,dX,gF]at hy;rcases hy with rfl|rfl|rfl|rfl
   .exact hx.2.1.1
   .exact hx.2.1.2
   .exact hx.2.2.1
   .exact hx.2.2.2) (by simp) (by rw[e4];exact ha.right),Option.bind_some,zc2 i (by omega),e4]
  simp only[bZ]) (λ acc=>by unfold zH5;simp) h.w _ hr
 rw[w1,Option.bind_some];unfold zad8;simp only[bZ]
theorem zbw1(s:aS):zA4 s=some (if zac0 s=true then(encS s,0)else([],2)):=by
 unfold zA4;rw[zay0,Option.bind_some];cases hv:zac0 s with
 |false=>rfl
 |true=>
  have h:=(zbc9 hv).1;have lq:=h.lq;have ln:=h.ln;have hlen:=zbt9 h;have hr:room [] (encS s):=by unfold room;simp;omega
  simp only[cI,bP,bV,bT];unfold encS at hr⊢;rw[zaW0 (by unfold okI;omega) hr.left,Option.bind_some]
  replace hr:=hr.right
  have w2:=zR5 (body:=zL2 s) (enc:=encQ) (ok:=OkQ) s.aG aA.zero (by omega) (λ i acc hi hx ha=>by
   unfold zL2;simp only;rw[bO (by simpa using hi),gdp (by omega)];simp only[Int.toNat_natCast];rw[zdm7 hx ha,Option.bind_some,zc2 i (by omega)]) (λ acc=>by unfold zL2;simp) h.q _ hr.left
  rw[w2,Option.bind_some]
  replace hr:=hr.right
  unfold zW0;rw[zaW0 (by unfold okI;omega) hr.left,Option.bind_some]
  replace hr:=hr.right
  have w1:=zR5 (body:=zL1 s) (enc:=encN) (ok:=λ n=>za3 n.aI=true/\okI n.gen/\okE n.bK=true/\fitE n.bK=true) s.bA bI.zero (by omega) (λ i acc hi hx ha=>by
   have hf:=hx.2.2.2;unfold fitE at hf;simp only[bM,bQ]at hf;unfold encN at ha⊢;unfold zL1;simp only;rw[bO (by simpa using hi),gdp (by omega)];simp only[Int.toNat_natCast];rw[(zaL3 hx.1 ha.left).1,Option.bind_some,zaW0 hx.2.1 ha.right.left,Option.bind_some];unfold zj3;rw[(zbI3 _ _ (dY _) hx.2.2.1 hf.2 _ ha.right.right).1,Option.bind_some,zc2 i (by omega)];simp only[bZ]) (λ acc=>by unfold zL1;simp) h.n _ hr
  rw[w1,Option.bind_some];unfold zak2;simp only[bZ,List.nil_append]
theorem zbV6(s:aS):zP0 s=some (if zac0 s=true then(encS s,0)else([],2)):=by
 unfold zP0;rw[zbq4,Option.bind_some];cases hv:zac0 s with
 |false=>rfl
 |true=>
  have h:=(zbc9 hv).1;have lq:=h.lq;have ln:=h.ln;have hlen:=zbt9 h;have hr:room [] (encS s):=by unfold room;simp;omega
  simp only[cI,bP,bV,bT];unfold encS at hr⊢;rw[zab2 (by unfold okI;omega) hr.left,Option.bind_some]
  replace hr:=hr.right
  have w2:=zR5 (body:=zQ6 s) (enc:=encQ) (ok:=OkQ) s.aG aA.zero (by omega) (λ i acc hi hx ha=>by
   unfold zQ6;simp only;rw[bO (by simpa using hi),gdp (by omega)];simp only[Int.toNat_natCast];have lh:=hx.lh;have lc:=hx.lc;have lw:=hx.lw;unfold encQ at ha⊢;rw[(zbI2 hx.name ha.left).2,Option.bind_some]
   replace ha:=ha.right
   rw[zab2 hx.kind ha.left,Option.bind_some]
   replace ha:=ha.right
   rw[zab2 hx.aV ha.left,Option.bind_some]
   replace ha:=ha.right
   rw[zab2 hx.home ha.left,Option.bind_some]
   replace ha:=ha.right
   rw[zab2 hx.gen ha.left,Option.bind_some]
   replace ha:=ha.right
   rw[zab2 (by unfold okI;omega) ha.left,Option.bind_some]
   replace ha:=ha.right
   have v5:=zR5 (acc:=acc++encT (s.aG.getD i aA.zero).aB.name++encI (s.aG.getD i aA.zero).aB.kind++encI (s.aG.getD i aA.zero).aB.aV++encI (s.aG.getD i aA.zero).aB.home++encI (s.aG.getD i aA.zero).gen++encI ((s.aG.getD i aA.zero).aL.length:Int)) (body:=zaa5 s (acc,(i:Int))) (enc:=encH) (ok:=λ x=>za3 x.aI=true/\okA x.aJ) (s.aG.getD i aA.zero).aL aT.zero (by omega) (λ j acc2 hj hy hb=>by
    unfold encH at hb⊢;unfold zaa5;simp only[Int.toNat_natCast];rw[bO (by simpa using hj),gdp (by omega),(zaL3 hy.1 hb.left).2,Option.bind_some,gdp (by omega),zbg0 hy.2 hb.right,Option.bind_some,zc2 j (by omega),bZ]) (λ acc2=>by unfold zaa5;simp) hx.h ha.left
   rw[v5,Option.bind_some]
   replace ha:=ha.right
   unfold zal8;simp only[Int.toNat_natCast];rw[zab2 (by unfold okI;omega) ha.left,Option.bind_some]
   replace ha:=ha.right
   have v4:=zR5 (body:=zaa4 s (acc,(i:Int))) (enc:=encC) (ok:=λ x=>za3 x.aI=true/\okA x.aJ/\x.aX=0/\x.bG=0) (s.aG.getD i aA.zero).aH aM.zero (by omega) (λ j acc2 hj hy hb=>by
    unfold encC at hb⊢;unfold zaa4;simp only[Int.toNat_natCast];rw[bO (by simpa using hj),gdp (by omega),(zaL3 hy.1 hb.left).2,Option.bind_some,gdp (by omega),zbg0 hy.2.1 hb.right,Option.bind_some,zc2 j (by omega),bZ]) (λ acc2=>by unfold zaa4;simp) hx.c _ ha.left
   rw[v4,Option.bind_some]
   replace ha:=ha.right
   unfold zal7;simp only[Int.toNat_natCast];rw[zab2 (by unfold okI;omega) ha.left,Option.bind_some]
   replace ha:=ha.right
   have v3:=zR5 (body:=zaa3 s (acc,(i:Int))) (enc:=encW) (ok:=λ x=>za3 x.aI=true/\okA x.aJ/\okI x.aX/\okI x.bG) (s.aG.getD i aA.zero).aU aM.zero (by omega) (λ j acc2 hj hy hb=>by
    unfold encW at hb⊢;rw[bZ,bZ]at hb⊢;unfold zaa3;simp only[Int.toNat_natCast];rw[bO (by simpa using hj),gdp (by omega),(zaL3 hy.1 hb.left).2,Option.bind_some,zbg0 hy.2.1 hb.right.left,Option.bind_some,zab2 hy.2.2.1 hb.right.right.left,Option.bind_some,zab2 hy.2.2.2 hb.right.right.right,Option.bind_some,zc2 j (by omega)];simp only[bZ]) (λ acc2=>by unfold zaa3;simp) hx.w _ ha
   rw[v3,Option.bind_some];unfold zaC0;simp only[zc2 i (show i<4611686018427387904 by omega),bZ]) (λ acc=>by unfold zQ6;simp) h.q _ hr.left
  rw[w2,Option.bind_some]
  replace hr:=hr.right
  unfold zal6;rw[zab2 (by unfold okI;omega) hr.left,Option.bind_some]
  replace hr:=hr.right
  have w1:=zR5 (body:=zaa2 s) (enc:=encN) (ok:=λ n=>za3 n.aI=true/\okI n.gen/\okE n.bK=true/\fitE n.bK=true) s.bA bI.zero (by omega) (λ i acc hi hx ha=>by
   have hf:=hx.2.2.2;unfold fitE at hf;simp only[bM,bQ]at hf;unfold encN at ha⊢;unfold zaa2;simp only;rw[bO (by simpa using hi),gdp (by omega)];simp only[Int.toNat_natCast];rw[(zaL3 hx.1 ha.left).2,Option.bind_some,gdp (by omega),zab2 hx.2.1 ha.right.left,Option.bind_some,gdp (by omega)];unfold zv4;rw[(zbI3 _ _ (dY _) hx.2.2.1 hf.2 _ ha.right.right).2,Option.bind_some,zc2 i (by omega)];simp only[bZ]) (λ acc=>by unfold zaa2;simp) h.n _ hr
  rw[w1,Option.bind_some];unfold zaB9;simp only[bZ,List.nil_append]
end Ab
end Go.Proofs.YtdlfhmkmnjbihaaGreatDoor
