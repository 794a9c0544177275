import Derived.Test.YtenebhlnfjcffaaGreatDoorDvD
import Derived.Test.YtenebhlnfjcffaaGreatDoorDvA
import Derived.Test.YtenebhlnfjcffaaGreatDoorTabB
import Derived.Test.YtenebhlnfjcffaaGreatDoorHm31
namespace Go.Proofs.YtenebhlnfjcffaaGreatDoor
namespace Ab
set_option linter.unusedVariables false
set_option linter.unusedSimpArgs false
theorem zaE8(k:aO)(l:List aO):zJ4 (k::l)=zS1 k++zJ4 l:=by rw[zJ4]
theorem zaX7:zJ4 []=[]:=by rw[zJ4]
theorem zcF6(a b:List aO):zJ4 (a++b)=zJ4 a++zJ4 b:=by
 induction a with
 |nil=>rw[zaX7];rfl
 |cons x a ih=>rw[List.cons_append,zaE8,zaE8,ih,dD]
theorem zbM8:∀(ks:List aO) (k:Nat),k<ks.length->((zJ4 (ks.take k)).length:Int)+zr9 (ks.getD k aO.zero)<=zA3 ks
 |x::ks,0,_=>by have:=zK3 ks;simp[zaX7,zai9];omega
 |x::ks,k+1,h=>by have:=zbM8 ks k (by simpa using h);have h2:=zby5 x;rw[List.take_succ_cons,zaE8,zai9,cD,gN];omega
theorem zbM9(l:List aJ)(a:aJ)(hl:l.length<=100000):zb0 l a=some (decide (a∈l)):=by
 unfold zb0 za7;obtain⟨x,h1,h2⟩:=zq9 (body:=zu8 l a) (λ g=>∃k:Nat,g=k/\k<=l.length/\∀j,j<k->a≠l.getD j aJ.zero) (λ g=>l.length-g.toNat)
  (λ x=>match x with|.inl _=>a∉l|.inr i=>0<=i/\a∈l) (λ g ⟨k,hg,hk,hn⟩=>by
   subst hg;unfold zu8
   by_cases c:k<l.length
   .rw[bX (by simpa using c),gdp (by omega)];simp only[Int.toNat_natCast]
    by_cases e:a=l.getD k aJ.zero
    .rw[bX (by simpa using e)];exact .inr ⟨_,rfl,by omega,by rw[e];exact zd5 c⟩
    .rw[bV (by simpa using e),zc4 k (by omega)];exact .inl ⟨_,rfl,⟨k+1,rfl,c,λ j hj=>by
      by_cases h:j=k
      .rw[h];exact e
      .exact hn j (by omega)⟩,by simp only[Int.toNat_natCast];omega⟩
   .rw[bV (by simpa using c)];refine .inr ⟨_,rfl,λ hm=>?_⟩;obtain⟨j,hj,e⟩:=fO hm;refine hn j (by omega) ?_;rw[bW,bZ hj];exact e.symm) 0 ⟨0,rfl,by omega,λ j hj=>by omega⟩
 rw[h1];cases x with
 |inl z=>have h3:a∉l:=h2;simp only[Option.bind_some,zH6];simp[h3]
 |inr z=>have h3:0<=z/\a∈l:=h2;simp only[Option.bind_some];simp[h3.1,h3.2]
theorem zcd5{F:aO->List aJ->Option (List aJ)}{body:Int×List aJ->Option ((Int×List aJ)⊕List aJ)}(ks:List aO)(hks:zA3 ks<=1000)
  (hb:∀g,body g=if decide (g.1<(ks.length:Int))=true then gd (0<=g.1/\g.1<(ks.length:Int))<|(F (ks.getD g.1.toNat aO.zero) g.2).bind λ v2=>some (.inl ((IntKind.i64.wrap (g.1+1)),v2))else some (.inr g.2))
  (l:List aJ) (hF:∀k∈ks,∀l':List aJ,(l'.length:Int)+zr9 k<=l.length+zA3 ks->F k l'=some (addS (zS1 k) l')):zc2 body (0,l)=some (addS (zJ4 ks) l):=by
 have hlen:=zK3 ks;obtain⟨x,h1,h2⟩:=zq9 (body:=body) (λ g=>∃k:Nat,g.1=k/\k<=ks.length/\g.2=addS (zJ4 (ks.take k)) l) (λ g=>ks.length-g.1.toNat) (λ x=>x=addS (zJ4 ks) l) (λ g ⟨k,hg,hk,he⟩=>by
  obtain⟨g1,g2⟩:=g;simp only at hg he;subst hg;rw[hb];simp only[Int.toNat_natCast]
  by_cases c:k<ks.length
  .rw[bX (by simpa using c),gdp (by omega)];have h1:=zbR4 (zJ4 (ks.take k)) l;have h2:=zbM8 ks k c;rw[hF _ (zd5 c) g2 (by rw[he];omega),Option.bind_some,zc4 k (by omega)];refine .inl ⟨_,rfl,⟨k+1,rfl,c,?_⟩,by simp only[Int.toNat_natCast];omega⟩;simp only;rw[he,<-zcb2,zx3 aO.zero c,zcF6,zaE8,zaX7,dX]
  .rw[bV (by simpa using c)];refine .inr ⟨_,rfl,?_⟩;rw[he,dO (by omega)]) (0,l) ⟨0,rfl,by omega,by rw[List.take_zero,zaX7];rfl⟩
 rw[h1,h2]
theorem zbN0:∀(n:Nat) (e:aO),_root_.SizeOf.sizeOf e<n->∀l:List aJ,(l.length:Int)+zr9 e<=1000->zH4 n e l=some (addS (zS1 e) l)
 |0,_,h,_,_=>by omega
 |n+1,e,h,l,hl=>by
  show zG1 (zH4 n) e l=_;have hne:=zX9 e;have hp:=zU9 e;unfold zG1;rw[zaq1]
  by_cases c:e.bE.length=0
  .rw[bX (by simpa using c),bX c,zbM9 l _ (by omega),Option.bind_some];unfold addS addS addA
   by_cases m:e.bG∈l
   .rw[bX (by simpa using m),bX m]
   .rw[bV (by simpa using m),bV m,gdp (by omega)]
  .rw[bV (by simpa using c),bV c,zcd5 (F:=zH4 n) e.bE (by omega) (λ g=>by unfold zaf7;rfl) l (λ k hk l' hl'=>zbN0 n k (zaq2 h hk) l' (by omega))];rfl
theorem zbI5{e:aO}(h:vE e=true):zt6 e=some (addS (zS1 e) []):=by
 have hn:zr9 e<=24:=by unfold vE fitE at h;simp at h;omega
 have hne:=zX9 e;unfold zt6;rw[zby8,h,Option.bind_some,bV (by decide)];have:zn5 e=some (addS (zS1 e) []):=by
  show zE0 (zab6 (_root_.SizeOf.sizeOf e)) e=_;unfold zE0;rw[zaq1]
  by_cases c:e.bE.length=0
  .rw[bX (by simpa using c),bX c,zbM9 [] _ (by decide),Option.bind_some];rfl
  .rw[bV (by simpa using c),bV c,zcd5 (F:=zj5) e.bE (by omega) (λ g=>by unfold zaj9;rfl) [] (λ k hk l' hl'=>zbN0 _ k (eV _) l' (by simp only[List.length_nil]at hl';omega))];rfl
 rw[this];rfl
theorem zaN5{e:aO}(h:vE e=true):zw8 e=some (addS (zS1 e) [])/\(addS (zS1 e) []).length<=8:=by
 have hn:zr9 e<=24:=by unfold vE fitE at h;simp at h;omega
 have p:=zU9 e;unfold zw8 zi4;unfold vE at h;simp only[bU]at h;obtain⟨hf,hp⟩:=h;obtain⟨l,hadd,hl,hd⟩:=(zcm3 e).1 hp;have ha:=zcW4 e (by omega);rw[hadd]at ha;simp only at ha;have hl2:l=addS (zS1 e) []:=by
  unfold addO at hadd;split at hadd
  .exact(dS hadd).symm
  .cases hadd
 rw[zcD9,hf,Option.bind_some];simp only[cC,show¬zr9 e=0 by omega,cJ,bT,cB];rw[ha,Option.bind_some];simp only[cO,dM,show¬(8:Int)<(l.length:Int)by omega,cJ,bT,cB];rw[(zaX3 (l,true) (by simp only;omega)).1 hd,<-hl2];exact⟨rfl,hl⟩
theorem zbg6{e:aO}(h:vE e=true){L:List aJ}{b:Bool}(hL:zi4 e=some (L,b)):zt6 e=some L:=by have:=(zaN5 h).1;unfold zw8 at this;rw[hL,Option.bind_some]at this;rw[zbI5 h,<-this]
theorem zcd6:∀(n:Nat) (e:aO),_root_.SizeOf.sizeOf e<n->zS1 e≠[]
 |0,_,h=>by omega
 |n+1,e,h=>by
  rw[zaq1]
  by_cases c:e.bE.length=0
  .rw[bX c];simp
  .rw[bV c];obtain⟨x,l,hk⟩:∃x l,e.bE=x::l:=by
    cases hk:e.bE with
    |nil=>rw[hk]at c;exact absurd rfl c
    |cons x l=>exact⟨x,l,rfl⟩
   rw[hk,zaE8];intro h2;exact zcd6 n x (zaq2 h (by rw[hk];exact .head _)) (List.append_eq_nil_iff.1 h2).1
theorem zcd7{e:aO}(h:vE e=true):addS (zS1 e) []≠[]:=by
 have:=zcd6 _ e (eV _);cases hl:zS1 e with
 |nil=>exact absurd hl this
 |cons a l=>
  obtain⟨t,ht⟩:=zbD2 l [a];have e1:addS (a::l) []=addS l [a]:=by rw[addS];rfl
  rw[e1,ht];simp
theorem zcP3{α β:Type}(l:List α)(z:α)(p:α->Bool)(f:Nat->β){body:Int->Option (Int⊕(Unit⊕β))}
  (hb:∀i:Nat,i<l.length->body (i:Int)=some (if p (l.getD i z)=true then .inr (.inr (f i))else .inl ((i+1:Nat):Int))) (he:body (l.length:Int)=some (.inr (.inl ()))):
  zc2 body 0=some (match l.findIdx? p with|some i=>.inr (f i)|none=>.inl ()):=by
 obtain⟨x,h1,h2⟩:=zq9 (body:=body) (λ g=>∃i:Nat,g=i/\i<=l.length/\∀j,j<i->p (l.getD j z)=false) (λ g=>l.length-g.toNat) (λ x=>x=(match l.findIdx? p with|some i=>.inr (f i)|none=>.inl ()))
  (λ g ⟨i,hi,hle,hn⟩=>by
   subst hi
   by_cases c:i<l.length
   .rw[hb i c]
    by_cases d:p (l.getD i z)=true
    .rw[bX d];refine .inr ⟨_,rfl,?_⟩;have:l.findIdx? p=some i:=by
      refine eT.2 ⟨c,?_,λ j hj=>?_⟩
      .rwa [bW,bZ c]at d
      .have:=hn j hj;rw[bW,bZ (by omega)]at this
       simpa using this
     rw[this]
    .rw[bV d];refine .inl ⟨_,rfl,⟨i+1,rfl,c,λ j hj=>?_⟩,by simp only[Int.toNat_natCast];omega⟩;rcases fS j i with h|h
     .exact hn j h
     .have:j=i:=by omega
      subst this;exact dP.2 d
   .have e:i=l.length:=by omega
    subst e;rw[he];refine .inr ⟨_,rfl,?_⟩;have:l.findIdx? p=none:=by refine fJ.2 λ x hx=>?_;obtain⟨j,hj,rfl⟩:=zt8 (z:=z) hx;exact hn j hj
    rw[this]) 0 ⟨0,rfl,by omega,λ j hj=>by omega⟩
 rw[h1,h2]
theorem zcF7(e:aO)(L:List aJ)(S:List Bool)(hL:L.length<=1000):zf2 ⟨L,S⟩ e.bG=(zc2 (zF6 e L S) 0).bind (λ|.inl z=>zaf5 z|.inr z=>some z):=by
 unfold zf2 za7;rw[zaQ2 L aJ.zero (λ a=>decide (a=e.bG)) (λ i hi=>by
   unfold zu8;have h3:0<=(i:Int)/\(i:Int)<(L.length:Int):=by omega
   simp only[h3.1,h3.2,cS,zg9,cA,cC,Int.toNat_natCast,zc4 i (show i<4611686018427387904 by omega),eq_comm (a:=e.bG)];split<;>rfl) (by unfold zu8;simp),
  zcP3 L aJ.zero (λ a=>decide (a=e.bG)) (λ i=>decide ((i:Int)<(S.length:Int))&&S.getD i false) (λ i hi=>by
   unfold zF6;have h3:0<=(i:Int)/\(i:Int)<(L.length:Int):=by omega
   simp only[h3.1,h3.2,fK,cS,zg9,cA,cC,Int.toNat_natCast,zc4 i (show i<4611686018427387904 by omega),bY,imp_self];split<;>rfl) (by unfold zF6;simp)]
 cases L.findIdx? (λ a=>decide (a=e.bG))with
 |none=>rfl
 |some i=>simp only[Option.bind_some];rw[gdp (by simp only[bU,bY];exact id)];simp
theorem zcW7(L:List aJ)(S:List Bool)(hL:L.length<=1000):∀(n:Nat) (e:aO),_root_.SizeOf.sizeOf e<n->okE e=true->zT9 n e ⟨L,S⟩=fr_ref08_holds n e L S
 |0,_,h,_=>by omega
 |n+1,e,h,ho=>by
  show zP9 (zT9 n) e ⟨L,S⟩=zI6 (fr_ref08_holds n) e L S;unfold zP9 zI6
  by_cases ck:e.bE.length=0
  .have k0:=((zcb4 ck).1 ho).1;rw[bX (by simpa using ck),bX (by simpa using k0),zcF7 e L S hL];cases((zc2 (zF6 e L S) 0).bind (λ|.inl z=>zaf5 z|.inr z=>some z))<;>rfl
  .have k1:=(zcb5 ck).1 ho;rw[bV (by simpa using ck),bV (by simp;omega)];have hbody:zae3 (zT9 n) e ⟨L,S⟩=zX2 (fr_ref08_holds n) e L S:=by
    funext g;unfold zae3 zX2
    by_cases c:g.2<(e.bE.length:Int)
    .by_cases c2:0<=g.2
     .have hk:e.bE.getD g.2.toNat aO.zero∈e.bE:=zd5 (by omega);rw[zcW7 L S hL n _ (zaq2 h hk) (zcO4 k1.2 hk)]
     .rw[bX (by simpa using c),bX (by simpa using c)];unfold gd;rw[bV (λ h=>c2 h.1),bV (λ h=>c2 h.1)]
    .rw[bV (by simpa using c),bV (by simpa using c)]
   rw[hbody];rfl
theorem zbI6{e:aO}(h:vE e=true)(S:List Bool):zI9 e S=zw0 e S:=by
 obtain⟨v,h1,h2⟩:=zaE5 e;have hle:=zaU1 h1;have h3:=(zaN5 h).1;unfold zw8 at h3;rw[h1,Option.bind_some]at h3;have hne:=zcd7 h;rw[<-dS h3]at hne;obtain⟨L,b⟩:=v;simp only at h2 hle hne;rw[h]at h2;subst h2;unfold zI9 zw0;have hpos:0<L.length:=gL.2 hne;rw[zbg6 h h1,h1,Option.bind_some,Option.bind_some,bX (by simpa using hpos),bX rfl];have:f_formula_holds e L S=f_ref08_holds e L S:=by unfold f_formula_holds zn6 f_ref08_holds;rw[zcW7 L S (by omega) _ e (eV _) (zcO5 h).1];cases fr_ref08_holds (_root_.SizeOf.sizeOf e+1) e L S<;>rfl
 rw[this,show decide ((0:Int)<(L.length:Int))=true from cG (by omega)]
theorem zdO5(a b:ByteArray):Op.bytesLess a.toList b.toList=decide (ltN a b):=by unfold ltN;exact Bool.decide_eq_true.symm
theorem zdw0(i j:Nat)(h:i<j)(hj:j<=1000):IntKind.i64.wrap ((IntKind.u64.wrap (IntKind.i64.wrap ((i:Int)+(j:Int)))).fdiv (2^1))=(((i+j)/2:Nat):Int):=by
 have e0:IntKind.i64.wrap ((i:Int)+(j:Int))=(i:Int)+(j:Int):=zj1 (by omega) (by omega);rw[e0];have:IntKind.u64.wrap ((i:Int)+(j:Int))=(i:Int)+(j:Int):=by unfold IntKind.wrap;simp[IntKind.bits,IntKind.signed];omega
 rw[this,show((i:Int)+(j:Int)).fdiv (2^1)=(((i+j)/2:Nat):Int)by
  rw[Int.fdiv_eq_ediv_of_nonneg _ (by decide)];omega]
 exact zj1 (by omega) (by omega)
theorem zdg3{l:List aH}(hl:l.length<=8)(ha:l.Pairwise λ a b=>ltN a.name b.name)(nm:ByteArray):
  ∃i:Nat,zk2 (l.length:Int) l nm=some ((i:Int),l,nm)/\i<=l.length/\(∀k,k<i->ltN (l.getD k aH.zero).name nm)/\(i<l.length->¬ltN (l.getD i aH.zero).name nm):=by
 have asc:∀i j,i<j->j<l.length->ltN (l.getD i aH.zero).name (l.getD j aH.zero).name:=λ i j h hj=>by have:=dU.1 ha i j (by omega) hj h;rwa [bW,bW,bZ (by omega),bZ hj]
 unfold zk2;obtain⟨x,h1,h2⟩:=zq9 (body:=zaj6)
  (λ g=>∃i j:Nat,g=((i:Int),(j:Int),l,nm)/\i<=j/\j<=l.length/\(∀k,k<i->ltN (l.getD k aH.zero).name nm)/\(j<l.length->¬ltN (l.getD j aH.zero).name nm))
  (λ g=>(g.2.1-g.1).toNat)
  (λ x=>∃i:Nat,x=((i:Int),l,nm)/\i<=l.length/\(∀k,k<i->ltN (l.getD k aH.zero).name nm)/\(i<l.length->¬ltN (l.getD i aH.zero).name nm))
  (λ g ⟨i,j,hg,hij,hj,hlo,hhi⟩=>by
   subst hg;unfold zaj6
   by_cases c:i<j
   .left;simp only[show(i:Int)<(j:Int)by omega,cA,cC,zdw0 i j c (by omega)];unfold ze4;rw[gdp (by omega),Option.bind_some];simp only[Int.toNat_natCast,zdO5,Bool.not_not]
    by_cases d:ltN (l.getD ((i+j)/2) aH.zero).name nm
    .rw[bX (cG d),show(((i+j)/2:Nat):Int)+1=(((i+j)/2+1:Nat):Int)by omega,zj1 (by omega) (by omega)];refine⟨_,rfl,⟨_,j,rfl,by omega,hj,λ k hk=>?_,hhi⟩,by simp only;omega⟩;rcases fS k ((i+j)/2)with h|h
     .exact zaQ1 (asc k _ h (by omega)) d
     .rw[show k=(i+j)/2 by omega];exact d
    .rw[bV (by simpa using d)];exact⟨_,rfl,⟨i,_,rfl,by omega,by omega,hlo,λ _=>d⟩,by simp only;omega⟩
   .right;have e:i=j:=by omega
    subst e;simp only[eR,cJ,bT,cB];exact⟨_,rfl,i,rfl,hj,hlo,hhi⟩) ((0:Int),(l.length:Int),l,nm) ⟨0,l.length,rfl,by omega,by omega,λ k hk=>by omega,λ h=>by omega⟩
 obtain⟨i,rfl,h3⟩:=h2;exact⟨i,by rw[h1];rfl,h3⟩
theorem zbz2(l:List aH)(a:aJ)(hl:catV l=true):∃v,zs7 l a=some v/\(v=0↔∃r∈l,r.name=a.name/\za2 r a.aM=true):=by
 obtain⟨h8,_,hp⟩:=(zbd0 l).1 hl;obtain⟨i,h1,h2,h3,h4⟩:=zdg3 h8 hp a.name;unfold zs7 zp6;rw[zbI0,Option.bind_some,hl,bV (by decide),h1,Option.bind_some];simp only[bY];rw[gdp (λ h=>⟨by omega,h⟩)];have only:∀r∈l,r.name=a.name->i<l.length/\r=l.getD i aH.zero:=λ r hr hn=>by
  obtain⟨k,hk,rfl⟩:=zt8 (z:=aH.zero) hr;rcases gZ k i with c|c|c
  .exact absurd hn (zaZ0 (h3 k c))
  .subst c;exact⟨hk,rfl⟩
  .have:=dU.1 hp i k (by omega) hk c;refine absurd ?_ (h4 (by omega));rw[<-hn,bW,bW,bZ (by omega),bZ hk];exact this
 by_cases c:i<l.length/\(l.getD i aH.zero).name=a.name
 .simp only[Option.bind_some,Int.toNat_natCast,zP0,cG c.2,show(i:Int)<(l.length:Int)by have:=c.1;omega,cA,gF,cO,bT,cB];have c1:0<=(i:Int)/\(i:Int)<(l.length:Int):=by have:=c.1;omega
  rw[gdp ⟨c1.1,trivial⟩];rcases hb (za2 (l.getD i aH.zero) a.aM)with hf|hf
  .simp only[hf,cO,bT,cB];exact⟨0,rfl,(λ _=>⟨_,zd5 c.1,c.2,hf⟩),λ _=>rfl⟩
  .simp only[hf,dC,cC];exact⟨12,rfl,(λ h=>nomatch h),λ⟨r,hr,hn,hr2⟩=>by rw[(only r hr hn).2,hf]at hr2;cases hr2⟩
 .have:(decide ((i:Int)<(l.length:Int))&&decide ((l.getD i aH.zero).name=a.name))=false:=by
   rw[iD]
   by_cases d:i<l.length
   .exact .inr (eE λ h=>c ⟨d,h⟩)
   .exact .inl (eE (by omega))
  simp only[Option.bind_some,Int.toNat_natCast,zP0,this,dC,cC];exact⟨10,rfl,(λ h=>nomatch h),λ⟨r,hr,hn,_⟩=>by have:=only r hr hn;exact absurd ⟨this.1,this.2▸hn⟩ c⟩
theorem zbz3(l:List aH){e:aO}(he:vE e=true)(hl:catV l=true){L:List aJ}(hL:zi4 e=some (L,true)):∃v,zC2 l e=some v/\(v=0↔∀a∈L,∃r∈l,r.name=a.name/\za2 r a.aM=true):=by
 have hw:=zaU1 hL;simp only at hw;have h3:=(zaN5 he).1;unfold zw8 at h3;rw[hL,Option.bind_some]at h3;have hne:=zcd7 he;rw[<-dS h3]at hne;have hpos:0<L.length:=gL.2 hne;unfold zC2;rw[zbg6 he hL,Option.bind_some,bV (by simp;omega)];obtain⟨r,h4,h5⟩:=zq9 (body:=zac3 l L) (λ g=>∃i:Nat,g=i/\i<=L.length/\∀k,k<i->∃r∈l,r.name=(L.getD k aJ.zero).name/\za2 r (L.getD k aJ.zero).aM=true) (λ g=>L.length-g.toNat)
  (λ r=>(∃v,r=.inr v/\v≠0/\¬∀a∈L,∃r∈l,r.name=a.name/\za2 r a.aM=true)\/r=.inl ()/\∀a∈L,∃r∈l,r.name=a.name/\za2 r a.aM=true)
  (λ g ⟨i,hi,hle,hg⟩=>by
   subst hi;unfold zac3
   by_cases c:i<L.length
   .have h3:0<=(i:Int)/\(i:Int)<(L.length:Int):=by omega
    obtain⟨v,e1,e2⟩:=zbz2 l (L.getD i aJ.zero) hl;simp only[h3.1,h3.2,cS,zg9,cA,cC,Int.toNat_natCast,zc4 i (show i<4611686018427387904 by omega),e1,Option.bind_some]
    by_cases d:v=0
    .rw[bV (by simp[d])];refine .inl ⟨_,rfl,⟨i+1,rfl,c,λ k hk=>?_⟩,by simp only[Int.toNat_natCast];omega⟩;rcases fS k i with h5|h5
     .exact hg k h5
     .have:k=i:=by omega
      subst this;exact e2.1 d
    .rw[bX (by simp[d])];exact .inr ⟨_,rfl,.inl ⟨v,rfl,d,λ h=>d (e2.2 (h _ (zd5 c)))⟩⟩
   .right;have e:i=L.length:=by omega
    subst e;simp only[eR,cJ,bT,cB];exact⟨_,rfl,.inr ⟨rfl,zad0.1 hg⟩⟩) 0 ⟨0,rfl,by omega,λ k hk=>by omega⟩
 rw[h4];rcases h5 with⟨v,rfl,hv,hn⟩|⟨rfl,hr⟩
 .exact⟨v,rfl,λ h=>absurd h hv,λ h=>absurd h hn⟩
 .exact⟨0,rfl,λ _=>hr,λ _=>rfl⟩
theorem zct7(t:List aB)(hl:t.length<=1000):ze0 t=some (t.map (·.aA)):=by
 unfold ze0;rw[zap9 t aB.zero (·.aA) [] (by omega) (by simp) (λ i s hi hs=>by
  unfold zV6;have h3:0<=(i:Int)/\(i:Int)<(t.length:Int):=by omega
  simp only[h3.1,h3.2,cS,zg9,cA,cC,Int.toNat_natCast,zc4 i (show i<4611686018427387904 by omega)];rw[gdp (by omega)]) (λ s=>by unfold zV6;simp)]
 rfl
theorem zbz4(t:List aB)(x:aF)(hl:t.length<=1000)(hs:Lens t){L:List aJ}(hL:zt6 x.aR.bN=some L)(h8:L.length<=8):zC1 t x=some (L.map (grA t x.aK)):=by
 unfold zC1;rw[hL,Option.bind_some,zap9 L aJ.zero (grA t x.aK) [] (by omega) (by simp) (λ i s hi hs'=>by
  unfold zac2;have h3:0<=(i:Int)/\(i:Int)<(L.length:Int):=by omega
  simp only[h3.1,h3.2,cS,zg9,cA,cC,Int.toNat_natCast,zc4 i (show i<4611686018427387904 by omega),zaZ1 t _ (show t.length<=1000000 by omega),Option.bind_some];have hgr:grA t x.aK (L.getD i aJ.zero)=if zA5 t (L.getD i aJ.zero).name<0 then false else covA (t.getD (zA5 t (L.getD i aJ.zero).name).toNat aB.zero).aA (getH (t.getD (zA5 t (L.getD i aJ.zero).name).toNat aB.zero).aP x.aK) (L.getD i aJ.zero).aM:=rfl;rw[hgr];rcases zaT3 (t:=t) (nm:=(L.getD i aJ.zero).name)with e|⟨k,e,hk,_⟩
  .have d:decide ((0:Int)≤-1)=false:=by decide
   simp only[e,d,bT,hJ,zg9,cB,Option.bind_some,eN,show(-1:Int)<0 by decide,cC];rw[gdp (by omega)]
  .have h6:=zat5 hs hk;have d2:¬(k:Int)<0:=by omega
   have d3:0<=(k:Int)/\(k:Int)<(t.length:Int):=by omega
   simp only[e,d2,d3.1,d3.2,cA,cS,eD,zg9,cC,cB,Int.toNat_natCast];rw[zal3 _ _ (by omega),Option.bind_some,zaH8,Option.bind_some,gdp (by omega),cK]) (λ s=>by unfold zac2;simp)]
 rfl
theorem zbI7(t:List aB)(p:aL)(hl:t.length<=1000)(hs:Lens t):zl1 t p=some (t.filterMap (zav9 p)):=by
 unfold zl1;rw[zbd3 t aB.zero (zav9 p) (by omega) (λ i s hi hs'=>by
  unfold zae4;have h3:0<=(i:Int)/\(i:Int)<(t.length:Int):=by omega
  have h6:=zat5 hs hi;simp only[h3.1,h3.2,cS,zg9,cA,cC,Int.toNat_natCast,zc4 i (show i<4611686018427387904 by omega)];rw[zal3 _ _ (by omega),Option.bind_some];unfold zav9
  by_cases c:getH (t.getD i aB.zero).aP p=aC.zero
  .rw[bV (by simpa using c),bX c];rfl
  .rw[bX (by simpa using c),bV c,gdp (by omega)];rfl) (λ s=>by unfold zae4;simp)]
 rfl
theorem zcd8(t:List aB)(p:aL)(hl:t.length<=1000)(hs:Lens t):zx4 t p=some (t.filterMap (zay5 p)):=by
 unfold zx4;rw[zbd3 t aB.zero (zay5 p) (by omega) (λ i s hi hs'=>by
  unfold zam8;have h3:0<=(i:Int)/\(i:Int)<(t.length:Int):=by omega
  have h6:=zat5 hs hi;simp only[h3.1,h3.2,cS,zg9,cA,cC,Int.toNat_natCast,zc4 i (show i<4611686018427387904 by omega)];rw[zaN2 _ _ (by omega) (by omega),Option.bind_some];unfold zay5
  by_cases c:(zr8 (t.getD i aB.zero) p).2=true
  .rw[bX c,bX c,gdp (by omega)];rfl
  .rw[bV c,bV c];rfl) (λ s=>by unfold zam8;simp)]
 rfl
theorem zdg4(a b:List aJ)(ha:a.length<=1000000):za9 a b=some (decide (a=b)):=by have h:=zaU4 a b ha;unfold zf0 zao5 zao4 at h;unfold za9 zH8 zH7;exact h
theorem zbj3(r:bH):zw7 r=true↔r=bH.zero:=by
 unfold zw7;simp only[bU,bY];constructor
 .rintro⟨⟨⟨⟨h1,h2⟩,h3⟩,h4⟩,h5⟩;obtain⟨e,p,l⟩:=r;obtain⟨k,a,ks⟩:=e;simp only at h1 h2 h3 h4 h5;have:ks=[]:=cW (by omega);subst h1 h2 h3 this;rw[h4];rfl
 .rintro rfl;exact⟨⟨⟨⟨rfl,rfl⟩,rfl⟩,rfl⟩,rfl⟩
theorem zbP2(r:bH):zD2 r=zS0 r:=by unfold zD2;rw[zby8,zaE7,Option.bind_some];simp only[gV]
def fo(l:List aU)(x:aL):Option aC:=(l.find? λ w=>decide (w.aK=x)).map (·.aM)
def zdw1:Option aC->aC×Bool
  |some a=>(a,true)
  |none=>(aC.zero,false)
theorem zaJ9(l:List aU)(x:aL):zaz7 l x=zdw1 (fo l x):=by unfold zaz7 fo;cases l.find? λ w=>decide (w.aK=x)<;>rfl
theorem zaP3(w:aU)(l:List aU)(x:aL):fo (w::l) x=if w.aK=x then some w.aM else fo l x:=by
  unfold fo;rw[List.find?_cons]
  by_cases c:w.aK=x
  .rw[bX c,cG c];rfl
  .rw[bV c,eE c]
theorem zaN6:∀(l m:List aU) (x:aL),fo (l++m) x=(fo l x).or (fo m x)
  |[],m,x=>rfl
  |w::l,m,x=>by rw[List.cons_append,zaP3,zaP3,zaN6 l m x];split<;>rfl
theorem zcW8:∀(l:List aU) (x:aL),fo (l.map bump) x=fo l x
  |[],_=>rfl
  |w::l,x=>by rw[dF,zaP3,zaP3,zcW8 l x];rfl
theorem zcn2{p x:aL}(h:x≠p):∀l:List aU,fo (rmL l p) x=fo l x
  |[]=>rfl
  |w::l=>by
    rw[zdu1,zaP3]
    by_cases c:w.aK=p
    .rw[bX c,bV (by rw[c];exactλ e=>h e.symm),zcn2 h l]
    .rw[bV c,zaP3,zcn2 h l]
structure Eff (q q':aB) (x:aL):Prop where
  st:(getH q'.aP x=getH q.aP x/\zr8 q' x=zr8 q x)\/((zr8 q x).2=true/\(zr8 q' x).2=false/\getH q'.aP x=(zr8 q x).1)
  pr:∀w'∈q'.aT,w'.aK=x->∃w∈q.aT,w.aK=x/\w.aZ=w'.aZ
theorem Eff.refl(q:aB)(x:aL):Eff q q x:=⟨.inl ⟨rfl,rfl⟩,λ w hw e=>⟨w,hw,e,rfl⟩⟩
theorem Eff.trans{a b c:aB}{x:aL}(h:Eff a b x)(k:Eff b c x):Eff a c x:=by
  refine⟨?_,λ w hw e=>?_⟩
  · rcases h.st with⟨h1,h2⟩|⟨h1,h2,h3⟩
    · rcases k.st with⟨k1,k2⟩|⟨k1,k2,k3⟩
      .exact .inl ⟨k1.trans h1,k2.trans h2⟩
      .rw[h2]at k1 k3;exact .inr ⟨k1,k2,k3⟩
    · rcases k.st with⟨k1,k2⟩|⟨k1,k2,k3⟩
      .exact .inr ⟨h1,by rw[k2];exact h2,k1.trans h3⟩
      .rw[h2]at k1;cases k1
  · obtain⟨w1,m1,e1,p1⟩:=k.pr w hw e
    obtain⟨w2,m2,e2,p2⟩:=h.pr w1 m1 e1;exact⟨w2,m2,e2,p2.trans p1⟩
theorem zdF7{q:aB}(hs:SoundP q)(hc:canQ q=true)(x:aL):Eff q (popQ q) x:=by
  obtain⟨h1,h2⟩:=zbR0 hc;have hn:=hs.nd;rw[h1]at hn;have hq:zr8 q x=zdw1 (fo (ordQ q) x):=zaJ9 _ _;have hp:zr8 (popQ q) x=zdw1 (fo (ordQ (popQ q)) x):=zaJ9 _ _;rw[h1,zaP3]at hq;refine⟨?_,?_⟩
  · by_cases c:(zO3 q).1.aK=x
    · rw[bX c]at hq
      right;rw[hq,h2,<-c,zaD9];exact⟨rfl,zav7.2 (zdF0 hn),rfl⟩
    · rw[bV c,<-hp]at hq
      left;rw[h2,zJ1 (λ e=>c e.symm)];exact⟨rfl,hq.symm⟩
  · intro w hw e
    refine⟨w,?_,e,rfl⟩;cases zcr9 hc with
    |con w2 cs he hd hr hp=>rw[hp]at hw;exact hw
    |wait w2 ws hcc he hd hr hp=>rw[hp]at hw;rw[he];exact .tail _ hw
theorem zcW9{q:aB}(hs:SoundP q)(x:aL):Eff q (advS q) x:=
  (zbr1 (P:=λ y=>SoundP y/\Eff q y x) (λ y hc ⟨h1,h2⟩=>⟨h1.pop hc,h2.trans (zdF7 h1 hc x)⟩) q ⟨hs,Eff.refl q x⟩).2
theorem zaA0{q:aB}(hs:SoundP q)(x:aL):Eff q (zI4 q).1 x:=by rw[zJ3];exact⟨(zcW9 hs x).st,(zcW9 hs x).pr⟩
theorem zcF8{q:aB}{p x:aL}(h:x≠p):Eff q (zaE0 q p) x:=by refine⟨.inl ⟨rfl,?_⟩,λ w hw e=>⟨w,(zaP0.1 hw).1,e,rfl⟩⟩;show zaz7 (rmL q.aN p++rmL q.aT p) x=zaz7 (q.aN++q.aT) x;rw[zaJ9,zaJ9,zaN6,zaN6,zcn2 h,zcn2 h]
theorem zcP4{q:aB}{p x:aL}(h:x≠p)(a:aC):Eff q (zaI0 q p a) x:=
  ⟨.inl ⟨zJ1 h _ _,rfl⟩,λ w hw e=>⟨w,hw,e,rfl⟩⟩
theorem zdF8{q:aB}{p x:aL}(h:x≠p):Eff q (del q p) x:=by refine⟨.inl ⟨zZ4 h _,?_⟩,λ w hw e=>⟨w,(zaP0.1 hw).1,e,rfl⟩⟩;show zaz7 (rmL q.aN p++rmL q.aT p) x=zaz7 (q.aN++q.aT) x;rw[zaJ9,zaJ9,zaN6,zaN6,zcn2 h,zcn2 h]
theorem zcP5{q:aB}{p x:aL}(h:x≠p)(a:aC):Eff q (claimC q p a) x:=by refine⟨.inl ⟨rfl,?_⟩,λ w hw e=>⟨w,hw,e,rfl⟩⟩;show zaz7 ((q.aN++[_])++q.aT) x=zaz7 (q.aN++q.aT) x;rw[zaJ9,zaJ9,zaN6,zaN6,zaN6,zaP3,bV (λ e=>h e.symm)];cases fo q.aN x<;>rfl
theorem zcP6{q:aB}{p x:aL}(h:x≠p)(a:aC)(pr:Int):Eff q (claimW q p a pr) x:=by
  refine⟨.inl ⟨rfl,?_⟩,λ w hw e=>?_⟩
  · show zaz7 (q.aN++(q.aT.take _++_::(q.aT.drop _).map bump)) x=zaz7 (q.aN++q.aT) x
    rw[zaJ9,zaJ9,zaN6,zaN6,zaN6,zaP3,bV (λ e=>h e.symm),zcW8,<-zaN6,eH]
  · rcases cR.1 (show w∈q.aT.take _++_::(q.aT.drop _).map bump from hw)with hw|hw
    .exact⟨w,fV hw,e,rfl⟩
    · rcases cF.1 hw with rfl|hw
      .exact absurd e.symm h
      · obtain⟨y,hy,rfl⟩:=cI.1 hw
        exact⟨y,gX hy,e,rfl⟩
theorem zbI8{r:aH}{a:aC}(h:za2 r a=true):zJ6 r aC.zero a=a:=by have hz:zc9 r aC.zero=true:=(perm_iff r _).2 (.inl ⟨zbn3 h,rfl⟩);unfold zJ6;rw[hz,zC7 h];rfl
theorem zcP7{q:aB}{p:aL}{a:aC}{pr:Int}(e0:(zA2 q p a pr).2.2=0):
    (covA q.aA (getH q.aP p) a=true/\(zA2 q p a pr).1=q)\/(covA q.aA (getH q.aP p) a=false/\
      ((zr8 (zA2 q p a pr).1 p).2=false/\getH (zA2 q p a pr).1.aP p=zJ6 q.aA (getH q.aP p) a\/
       (zr8 (zA2 q p a pr).1 p).2=true/\getH (zA2 q p a pr).1.aP p=getH q.aP p/\(zr8 (zA2 q p a pr).1 p).1=zJ6 q.aA (getH q.aP p) a/\∀w∈(zA2 q p a pr).1.aT,w.aK=p->w.aZ=pr)):=by
  obtain⟨hs,_,_,hfit,hw,hcase⟩:=zbc7 e0;have fin:∀q1,SoundP q1->zA2 q p a pr=zI4 q1->getH q1.aP p=getH q.aP p->zr8 q1 p=(zJ6 q.aA (getH q.aP p) a,true)->(∀w∈q1.aT,w.aK=p->w.aZ=pr)->
      ((zr8 (zA2 q p a pr).1 p).2=false/\getH (zA2 q p a pr).1.aP p=zJ6 q.aA (getH q.aP p) a\/
       (zr8 (zA2 q p a pr).1 p).2=true/\getH (zA2 q p a pr).1.aP p=getH q.aP p/\(zr8 (zA2 q p a pr).1 p).1=zJ6 q.aA (getH q.aP p) a/\∀w∈(zA2 q p a pr).1.aT,w.aK=p->w.aZ=pr):=by
    intro q1 h1 e h2 h3 h4;have k:=zaA0 h1 p;rw[e];rcases k.st with⟨k1,k2⟩|⟨k1,k2,k3⟩
    · right
      rw[k1,k2,h3];refine⟨rfl,h2,rfl,λ w hw ew=>?_⟩;obtain⟨w2,m2,e2,p2⟩:=k.pr w hw ew;rw[<-p2];exact h4 w2 m2 e2
    · left
      rw[h3]at k3;exact⟨k2,k3⟩
  rw[zav7]at hw;rcases hcase with⟨c,e⟩|⟨c,hz,e,h1⟩|⟨c,hz,_,e,h1⟩
  .exact .inl ⟨c,by rw[e]⟩
  · refine .inr ⟨c,fin _ h1 e rfl ?_ λ w hw2 ew=>absurd ew (hw w (cY _ hw2))⟩
    have:=zbM0 (q:=claimC q p a) h1.nd (w:=⟨p,zJ6 q.aA (getH q.aP p) a,0,0⟩) (by
      show _∈(q.aN++[_])++q.aT;simp)
    exact this
  · refine .inr ⟨c,fin _ h1 e rfl ?_ λ w hw2 ew=>?_⟩
    · have:=zbM0 (q:=claimW q p a pr) h1.nd (w:=⟨p,a,pr,0⟩) (by
        show _∈q.aN++zbc2 q.aT _ _;unfold zbc2;simp)
      rw[hz,zbI8 hfit];exact this
    · rcases cR.1 (show w∈q.aT.take _++_::(q.aT.drop _).map bump from hw2)with hw3|hw3
      .exact absurd ew (hw w (cY _ (fV hw3)))
      · rcases cF.1 hw3 with rfl|hw3
        .rfl
        · obtain⟨y,hy,rfl⟩:=cI.1 hw3
          exact absurd ew (hw y (cY _ (gX hy)))
theorem zcP8{q:aB}{p:aL}(h:zj6 q=true)(hw:(zr8 q p).2=true):(zH1 q p).2.2=0/\(∀x,covA q.aA (getH (zH1 q p).1.aP x) (getH q.aP x)=true)/\getH (zH1 q p).1.aP p=getH q.aP p/\(zr8 (zH1 q p).1 p).2=false:=by
  have e0:(zH1 q p).2.2=0:=by unfold zH1;rw[bV (by rw[h];decide),bV (by rw[hw];decide)];rfl
  obtain⟨_,_,_,e1,e2⟩:=zaI1 e0;have hn:∀w∈ordQ (zaE0 q p),w.aK≠p:=λ w hw=>by
    unfold ordQ zaE0 at hw;simp only[cR,zaP0]at hw;rcases hw with hw|hw
    .exact hw.2
    .exact hw.2
  have hs:=zcl3 hn;refine⟨e0,λ x=>?_,?_,?_⟩
  .rw[e1,zJ3];exact zaS9 e2 x
  .rw[e1,zJ3];exact hs.1
  .rw[e1,zJ3];exact zav7.2 hs.2
theorem zdg5{q:aB}{p:aL}{a:aC}(h:zj6 q=true)(hz:getH q.aP p≠aC.zero)(hw:(zr8 q p).2=false)(hc:covA q.aA (getH q.aP p) a=true):
    (zI5 q p a).2.2=0/\(∀x,x≠p->covA q.aA (getH (zI5 q p a).1.aP x) (getH q.aP x)=true)/\getH (zI5 q p a).1.aP p=a/\(zr8 (zI5 q p a).1 p).2=false:=by
  have e0:(zI5 q p a).2.2=0:=by unfold zI5;rw[bV (by rw[h];decide),bV hz,bV (by rw[hw];decide),bV (by rw[hc];decide)];split<;>rfl
  obtain⟨hs,_,_,_,_,hh⟩:=zaQ0 e0;rcases hh with⟨e1,e2⟩|⟨e1,e2,e3⟩
  · rw[e2]
    exact⟨rfl,λ x _=>zat2 (zaz8 hs.hv x),e1,hw⟩
  · have hn:∀w∈ordQ (zaI0 q p a),w.aK≠p:=zav7.1 hw
    have hst:=zcl3 hn;refine⟨e0,λ x hx=>?_,?_,?_⟩
    · rw[e2,zJ3]
      have:=zaS9 e3 x;unfold zaI0 at this;rw[zJ1 hx]at this;exact this
    · rw[e2,zJ3]
      show getH (advS (zaI0 q p a)).aP p=a;rw[hst.1];exact zaD9 _ _ _
    .rw[e2,zJ3];exact zav7.2 hst.2
structure Kept (p:aL) (t t':List aB):Prop where
  v:ValidT t'
  len:t'.length=t.length
  res:∀i,i<t.length->(t'.getD i aB.zero).aA=(t.getD i aB.zero).aA
  cov:∀i,i<t.length->∀x,x≠p->covA (t.getD i aB.zero).aA (getH (t'.getD i aB.zero).aP x) (getH (t.getD i aB.zero).aP x)=true
  eff:∀i,i<t.length->∀x,x≠p->Eff (t.getD i aB.zero) (t'.getD i aB.zero) x
theorem zad9{α:Type}(l:List α)(i j:Nat)(x z:α)(h:i≠j):(l.set i x).getD j z=l.getD j z:=by rw[bW,bW,kA h]
theorem zaI6{p:aL}{t:List aB}(h:ValidT t):Kept p t t:=
  ⟨h,rfl,λ _ _=>rfl,λ i hi x _=>zat2 (zaz8 ((zw3 _).1 (h.each _ (zd5 (z:=aB.zero) hi))).1.hv x),λ _ _ _ _=>Eff.refl _ _⟩
theorem zcd9{p:aL}{t:List aB}(h:ValidT t){i:Nat}(hi:i<t.length){q:aB}(hv:ValidT (t.set i q))(hr:q.aA=(t.getD i aB.zero).aA)
    (hc:∀x,x≠p->covA (t.getD i aB.zero).aA (getH q.aP x) (getH (t.getD i aB.zero).aP x)=true) (hE:∀x,x≠p->Eff (t.getD i aB.zero) q x):Kept p t (t.set i q):=by
  have k:=zaI6 (p:=p) h;refine⟨hv,eA,λ j hj=>?_,λ j hj x hx=>?_,λ j hj x hx=>?_⟩
  · by_cases e:i=j
    .subst e;rw[zp9 t i q _ hi];exact hr
    .rw[zad9 t i j q _ e]
  · by_cases e:i=j
    .subst e;rw[zp9 t i q _ hi];exact hc x hx
    .rw[zad9 t i j q _ e];exact k.cov j hj x hx
  · by_cases e:i=j
    .subst e;rw[zp9 t i q _ hi];exact hE x hx
    .rw[zad9 t i j q _ e];exact k.eff j hj x hx
theorem Kept.trans{p:aL}{a b c:List aB}(h:Kept p a b)(k:Kept p b c):Kept p a c:=
  ⟨k.v,k.len.trans h.len,λ i hi=>(k.res i (by rw[h.len];exact hi)).trans (h.res i hi),λ i hi x hx=>by
    have h1:=k.cov i (by rw[h.len];exact hi) x hx;rw[h.res i hi]at h1;exact zby1 h1 (h.cov i hi x hx),λ i hi x hx=>(h.eff i hi x hx).trans (k.eff i (by rw[h.len];exact hi) x hx)⟩
theorem Kept.find{p:aL}{t t':List aB}(h:ValidT t)(k:Kept p t t'){i:Nat}(hi:i<t.length):zA5 t' (t.getD i aB.zero).aA.name=i:=by have:=zaE3 k.v.asc (i:=i) (by rw[k.len];exact hi);rwa [k.res i hi]at this
theorem zcP9{t:List aB}(h:ValidT t){i:Nat}(hi:i<t.length){p:aL}(hw:(zr8 (t.getD i aB.zero) p).2=true):∃q ev,zaP1 t p (t.getD i aB.zero).aA.name=(t.set i q,ev,0)/\ev.length<=20/\Kept p t (t.set i q)/\
    getH q.aP p=getH (t.getD i aB.zero).aP p/\(zr8 q p).2=false/\q.aA=(t.getD i aB.zero).aA:=by
  have hq:=h.each _ (zd5 (z:=aB.zero) hi);obtain⟨e0,e1,e2,e3⟩:=zcP8 hq hw;have hf:=zaE3 h.asc hi;have hs:=zat4 hq (.cancel p e0);have e:zaP1 t p (t.getD i aB.zero).aA.name=(t.set i (zH1 (t.getD i aB.zero) p).1,[]++zat3 (t.getD i aB.zero).aA.name (zH1 (t.getD i aB.zero) p).2.1,0):=by unfold zaP1 atT putT;rw[bV (by rw[(zR3 t).2 h];decide),hf,bV (by omega)];simp only[Int.toNat_natCast,e0,cC];rw[zbd1]
  have hv:ValidT (t.set i (zH1 (t.getD i aB.zero) p).1):=by have:=(zcO2 (t:=t) (p:=p) (nm:=(t.getD i aB.zero).aA.name) (by rw[e]));obtain⟨_,_,_,_,hv⟩:=this;rwa [e]at hv
  refine⟨_,_,e,?_,zcd9 h hi hv hs.2 (λ x _=>e1 x) λ x hx=>?_,e2,e3,hs.2⟩
  · have:=(zbu4 (t.getD i aB.zero) p).2.2.2
    rw[List.nil_append,zaM0];omega
  · obtain⟨_,_,_,ec,es⟩:=zaI1 e0
    rw[ec];exact(zcF8 hx).trans (zaA0 es x)
theorem zbI9{t:List aB}(h:ValidT t){i:Nat}(hi:i<t.length){p:aL}{a:aC}(hz:getH (t.getD i aB.zero).aP p≠aC.zero)(hw:(zr8 (t.getD i aB.zero) p).2=false)(hc:covA (t.getD i aB.zero).aA (getH (t.getD i aB.zero).aP p) a=true):
    ∃q ev,zaI5 t p ⟨(t.getD i aB.zero).aA.name,a⟩=(t.set i q,ev,0)/\ev.length<=20/\Kept p t (t.set i q)/\getH q.aP p=a/\(zr8 q p).2=false/\q.aA=(t.getD i aB.zero).aA:=by
  have hq:=h.each _ (zd5 (z:=aB.zero) hi);obtain⟨e0,e1,e2,e3⟩:=zdg5 hq hz hw hc;have hf:=zaE3 h.asc hi;have hs:=zat4 hq (.lower p a e0);have e:zaI5 t p ⟨(t.getD i aB.zero).aA.name,a⟩=(t.set i (zI5 (t.getD i aB.zero) p a).1,(if getH (t.getD i aB.zero).aP p=a then[]else[zcW5 p (t.getD i aB.zero).aA.name a])++zat3 (t.getD i aB.zero).aA.name (zI5 (t.getD i aB.zero) p a).2.1,0):=by unfold zaI5 atT putT;rw[bV (by rw[(zR3 t).2 h];decide)];simp only[hf,Int.toNat_natCast,e0,cC,show¬(i:Int)<0 by omega,cB];rw[zbd1]
  have hv:ValidT (t.set i (zI5 (t.getD i aB.zero) p a).1):=by have:=(zdf1 (t:=t) (p:=p) (a:=⟨(t.getD i aB.zero).aA.name,a⟩) (by rw[e]));obtain⟨_,_,_,_,hv⟩:=this;rwa [e]at hv
  refine⟨_,_,e,?_,zcd9 h hi hv hs.2 e1 λ x hx=>?_,e2,e3,hs.2⟩
  · have:=(zbC8 (t.getD i aB.zero) p a).2.2.2
    rw[cD,zaM0];have:(if getH (t.getD i aB.zero).aP p=a then([]:List bJ)else[zcW5 p (t.getD i aB.zero).aA.name a]).length<=1:=by split<;>simp
    omega
  · obtain⟨_,_,_,_,_,hh⟩:=zaQ0 e0
    rcases hh with⟨_,el⟩|⟨_,el,es⟩
    .rw[el];exact Eff.refl _ _
    .rw[el];exact(zcP4 hx a).trans (zaA0 es x)
def zbd5(w:bB)(t:List aB)(ev:List bJ):bB:=⟨⟨w.c.now,t,w.c.aG⟩,ev⟩
theorem zbr9(t:List aB)(ev:List bJ)(w:bB)(h:w.ev.length+ev.length<=4294967296):zd0 t ev w=some (w.c.now,t,w.c.aG,w.ev++ev):=by unfold zd0;rw[gdp h]
theorem zcF9(x:aF){w:bB}(h:ValidT w.c.aI){i:Nat}(hi:i<w.c.aI.length)(he:x.aX.aD.length<=1000)(hev:w.ev.length<=1000000)
    (hc:covA (w.c.aI.getD i aB.zero).aA (getH (w.c.aI.getD i aB.zero).aP x.aK) (zg0 x.aX.aD (w.c.aI.getD i aB.zero).aA.name)=true):
    ∃q ev,zz1 x (w.c.aI.getD i aB.zero).aA.name w=some (zbd5 w (w.c.aI.set i q) (w.ev++ev))/\ev.length<=40/\Kept x.aK w.c.aI (w.c.aI.set i q)/\
      getH q.aP x.aK=zg0 x.aX.aD (w.c.aI.getD i aB.zero).aA.name/\(zr8 q x.aK).2=false/\q.aA=(w.c.aI.getD i aB.zero).aA:=by
  obtain⟨hl,hs⟩:=h.lens';have h4:=zat5 hs hi;have hf:=zaE3 h.asc hi;have k1:∀(t1:List aB) (ev1:List bJ),Kept x.aK w.c.aI t1->ev1.length<=20->getH (t1.getD i aB.zero).aP x.aK=getH (w.c.aI.getD i aB.zero).aP x.aK->(zr8 (t1.getD i aB.zero) x.aK).2=false->
      (∃q1,t1=w.c.aI.set i q1)->∃q ev,zN1 x (w.c.aI.getD i aB.zero).aA.name (i:Int) (zbd5 w t1 (w.ev++ev1))=some (zbd5 w (w.c.aI.set i q) (w.ev++ev))/\ev.length<=40/\Kept x.aK w.c.aI (w.c.aI.set i q)/\
      getH q.aP x.aK=zg0 x.aX.aD (w.c.aI.getD i aB.zero).aA.name/\(zr8 q x.aK).2=false/\q.aA=(w.c.aI.getD i aB.zero).aA:=by
    intro t1 ev1 hk hev1 hh hw ⟨q1,hq1⟩;have hi1:i<t1.length:=by rw[hk.len];exact hi
    have h5:=zat5 hk.v.lens hi1;have hr:=hk.res i hi;have hg:t1.getD i aB.zero=q1:=by rw[hq1];exact zp9 _ _ _ _ hi
    unfold zN1;rw[zad7 _ _ (by omega),Option.bind_some];show∃q ev,gd (0<=(i:Int)/\(i:Int)<(t1.length:Int)) ((zj8 (t1.getD (i:Int).toNat aB.zero) x.aK).bind _)=_/\_;rw[gdp (by omega)];simp only[Int.toNat_natCast];rw[zI3 _ _ (by omega),Option.bind_some]
    by_cases e:getH (t1.getD i aB.zero).aP x.aK=zg0 x.aX.aD (w.c.aI.getD i aB.zero).aA.name
    · rw[bV (by simp[e,-List.getD_eq_getElem?_getD])]
      refine⟨q1,ev1,by rw[<-hq1],by omega,hq1▸hk,by rw[<-hg];exact e,by rw[<-hg];exact hw,by rw[<-hg];exact hr⟩
    · rw[bX (by simp[e,-List.getD_eq_getElem?_getD])]
      have hz:getH (t1.getD i aB.zero).aP x.aK≠aC.zero:=λ z=>by
        rw[hh]at z e;rw[z]at hc;rcases((zV4 _ _ _).1 hc).2.2 with h6|h6
        .exact e (z.trans h6.symm)
        .exact h6.1 rfl
      obtain⟨q,ev,r1,r2,r3,r4,r5,r6⟩:=zbI9 hk.v hi1 (p:=x.aK) (a:=zg0 x.aX.aD (w.c.aI.getD i aB.zero).aA.name) hz hw (by rw[hr,hh];exact hc);rw[hr]at r1 r6;rw[zaU0,Option.bind_some];show∃q ev,(zd0 (zaI5 t1 x.aK ⟨_,_⟩).1 (zaI5 t1 x.aK ⟨_,_⟩).2.1 (zbd5 w t1 (w.ev++ev1))).bind _=_/\_;rw[r1,zbr9 _ _ _ (by show(w.ev++ev1).length+ev.length<=_;rw[cD];omega),Option.bind_some];have es:t1.set i q=w.c.aI.set i q:=by rw[hq1,gK]
      refine⟨q,ev1++ev,?_,by rw[cD];omega,es▸hk.trans r3,r4,r5,r6⟩;show some (zbd5 w (t1.set i q) ((w.ev++ev1)++ev))=_;rw[es,dD]
  unfold zz1;rw[zX0 _ _ (by omega),Option.bind_some,hf,gdp (by omega)];simp only[Int.toNat_natCast];rw[zU7 _ _ (by omega) (by omega),Option.bind_some];cases hw:(zr8 (w.c.aI.getD i aB.zero) x.aK).2 with
  |true=>rw[bX rfl];obtain⟨q,ev,r1,r2,r3,r4,r5,r6⟩:=zcP9 h hi hw;rw[zbO5,Option.bind_some,r1,zbr9 _ _ _ (by simp only;omega),Option.bind_some];have hg:(w.c.aI.set i q).getD i aB.zero=q:=zp9 _ _ _ _ hi;exact k1 (w.c.aI.set i q) ev r3 r2 (by rw[hg];exact r4) (by rw[hg];exact r5) ⟨q,rfl⟩
  |false=>rw[bV (by decide)];have:=k1 w.c.aI [] (zaI6 h) (by simp) rfl hw ⟨_,(zaJ8 _ _ aB.zero hi).symm⟩;rw[dX]at this;exact this
theorem zaw0.eff{q q':aB}{x:aF}{L:List aJ}(h:zaw0 q x L)(e:Eff q q' x.aK)(hr:q'.aA=q.aA):zaw0 q' x L:=by
 unfold zaw0 at*;rw[hr];rcases e.st with⟨e1,e2⟩|⟨e1,e2,e3⟩
 .rw[e1,e2];rcases h with⟨a,ha,hn,hc,h⟩|h
  .refine .inl ⟨a,ha,hn,hc,?_⟩;rcases h with h|⟨h1,h2,h3,h4⟩
   .exact .inl h
   .refine .inr ⟨h1,h2,h3,λ w hw ew=>?_⟩;obtain⟨w2,m2,f2,p2⟩:=e.pr w hw ew;rw[<-p2];exact h4 w2 m2 f2
  .exact .inr h
 .rcases h with⟨a,ha,hn,hc,h⟩|h
  .refine .inl ⟨a,ha,hn,hc,?_⟩;rcases h with⟨h1,_⟩|⟨_,_,h3,_⟩
   .rw[h1]at e1;cases e1
   .exact .inl ⟨e2,e3.trans h3⟩
  .rw[h.2.2]at e1;cases e1
theorem Kept.mem{p:aL}{t t':List aB}(k:Kept p t t'){q':aB}(hq:q'∈t'):∃i,i<t.length/\t'.getD i aB.zero=q'/\q'.aA=(t.getD i aB.zero).aA:=by obtain⟨i,hi,e⟩:=zt8 (z:=aB.zero) hq;rw[k.len]at hi;exact⟨i,hi,e,by rw[<-e];exact k.res i hi⟩
theorem Kept.named{p:aL}{t t':List aB}(k:Kept p t t'){n:ByteArray}{P:aH->Prop}(h:∃q∈t,q.aA.name=n/\P q.aA):∃q∈t',q.aA.name=n/\P q.aA:=by obtain⟨q,hq,h1,h2⟩:=h;obtain⟨i,hi,rfl⟩:=zt8 (z:=aB.zero) hq;refine⟨_,zd5 (z:=aB.zero) (by rw[k.len];exact hi),?_⟩;rw[k.res i hi];exact⟨h1,h2⟩
theorem ProcV.kept{now:Int}{p:aL}{t t':List aB}{y:aF}(h:ProcV now t y)(k:Kept p t t')(hy:y.aK≠p):ProcV now t' y:=by
 refine⟨h.pv,h.cost,h.gen,h.led,λ n hn=>k.named (P:=λ r=>za2 r _=true) (h.held n hn),λ hw=>?_,λ hw=>?_⟩
 .have w:=h.wait hw;refine⟨w.ve,w.pr,w.li,w.since,λ L b hL a ha=>k.named (P:=λ r=>za2 r _=true) (w.res L b hL a ha),λ L b hL q' hq=>?_⟩;obtain⟨i,hi,rfl,hr⟩:=k.mem hq;exact(w.part L b hL _ (zd5 hi)).eff (k.eff i hi _ hy) hr
 .obtain⟨h1,h2,h3⟩:=h.run hw;refine⟨h1,h2,λ q' hq=>?_⟩;obtain⟨i,hi,rfl,hr⟩:=k.mem hq;obtain⟨h4,h5⟩:=h3 _ (zd5 (z:=aB.zero) hi);rw[hr];rcases(k.eff i hi _ hy).st with⟨e1,e2⟩|⟨e1,_⟩
  .rw[e1,e2];exact⟨h4,h5⟩
  .rw[h5]at e1;cases e1
theorem zce0{p:aL}{t t':List aB}(ht:ValidT t)(k:Kept p t t'){x:aL}(hx:x∈zB8 t'):x=p\/x∈zB8 t:=by
 by_cases c:x=p
 .exact .inl c
 .right;obtain⟨q',hq,hh⟩:=(zV0 k.v.each).1 hx;obtain⟨i,hi,rfl,hr⟩:=k.mem hq;refine(zV0 ht.each).2 ⟨t.getD i aB.zero,zd5 hi,?_⟩;unfold hasQ at*;rcases(k.eff i hi x c).st with⟨e1,e2⟩|⟨e1,_⟩
  .rw[e1,e2]at hh;exact hh
  .rw[e1];rfl
theorem zdw2{now:Int}{t:List aB}(ht:ValidT t){x:aF}(hx:ProcV now t x){L:List aJ}(hL:∀a∈L,∃q∈t,q.aA.name=a.name/\za2 q.aA a.aM=true){q:aB}(hq:q∈t)(hp:zaw0 q x L):
  covA q.aA (getH q.aP x.aK) (zg0 x.aX.aD q.aA.name)=true:=by
 have hv:=((zw3 _).1 (ht.each _ hq)).1.hv;have hpm:=zaz8 hv x.aK;have same:getH q.aP x.aK=zg0 x.aX.aD q.aA.name->covA q.aA (getH q.aP x.aK) (zg0 x.aX.aD q.aA.name)=true:=λ e=>by rw[<-e];exact zat2 hpm
 rcases hp with⟨a,ha,hn,hc,h⟩|⟨_,h,_⟩
 .rcases h with⟨_,h⟩|⟨_,h,_⟩
  .by_cases z:zg0 x.aX.aD q.aA.name=aC.zero
   .rw[z];exact zbr2 hpm (zbo5 (ht.each _ hq))
   .obtain⟨q1,m1,n1,f1⟩:=hx.held _ z;have e1:=ht.inj m1 hq n1;subst e1;obtain⟨q2,m2,n2,f2⟩:=hL a ha;have e2:=ht.inj m2 hq (n2.trans hn);subst e2;rw[h];exact(zbf8 f1 f2 hc).2.1
  .exact same h
 .exact same h
theorem zbD5{t:List aB}{n:ByteArray}(h:∃q∈t,q.aA.name=n):∃i,i<t.length/\(t.getD i aB.zero).aA.name=n:=by obtain⟨q,hq,e⟩:=h;obtain⟨i,hi,rfl⟩:=zt8 (z:=aB.zero) hq;exact⟨i,hi,e⟩
structure OkW (t:List aB) (y:aF):Prop where
 e:vE y.aR.bN=true
 le:y.aX.aD.length<=1000
 at_:∀L b,zi4 y.aR.bN=some (L,b)->∀a∈L,∃i,i<t.length/\(t.getD i aB.zero).aA.name=a.name
 cov:∀i,i<t.length->covA (t.getD i aB.zero).aA (getH (t.getD i aB.zero).aP y.aK) (zg0 y.aX.aD (t.getD i aB.zero).aA.name)=true
theorem ProcV.ok{now:Int}{t:List aB}(ht:ValidT t){y:aF}(h:ProcV now t y)(hw:y.bF=true):OkW t y:=by
 have w:=h.wait hw;refine⟨w.ve,by have:=h.led.le;omega,λ L b hL a ha=>?_,λ i hi=>?_⟩
 .obtain⟨q,hq,e,_⟩:=w.res L b hL a ha;exact zbD5 ⟨q,hq,e⟩
 .obtain⟨v,h3,h4⟩:=zaE5 y.aR.bN;exact zdw2 ht h (w.res v.1 v.2 h3) (zd5 hi) (w.part v.1 v.2 h3 _ (zd5 hi))
structure Good (w:bB):Prop where
 now:0<=w.c.now/\w.c.now<=1073741824
 v:ValidT w.c.aI
 len:w.c.aG.length<=8
 asc:w.c.aG.Pairwise λ a b=>ltP a.aK b.aK
 each:∀x∈w.c.aG,ProcV w.c.now w.c.aI x
 aG:∀p∈zB8 w.c.aI,∃x∈w.c.aG,x.aK=p
theorem Good.ok{w:bB}(g:Good w):∀y∈w.c.aG,y.bF=true->OkW w.c.aI y:=λ y hy hw=>(g.each y hy).ok g.v hw
theorem Good.other{w:bB}(g:Good w){i j:Nat}(hi:i<w.c.aG.length)(hj:j<w.c.aG.length)(h:i≠j):(w.c.aG.getD j aF.zero).aK≠(w.c.aG.getD i aF.zero).aK:=λ e=>by
 rcases fS i j with c|c
 .have:=zbz1 g.asc hj c;rw[e]at this;exact zR1 _ this
 .have:=zbz1 g.asc hi (show j<i by omega);rw[e]at this;exact zR1 _ this
theorem CenV.good{c:aV}(h:CenV c)(ev:List bJ):Good ⟨c,ev⟩:=⟨h.now,h.t,h.len,h.asc,h.each,h.aG⟩
def cntW(l:List aF):Nat:=l.countP (·.bF)
def bud(w:bB):Nat:=w.ev.length+2000*cntW w.c.aG
theorem zcQ0(l:List aF):cntW l<=l.length:=List.countP_le_length
theorem zcX0{l:List aF}{i:Nat}(h:i<l.length)(y:aF):cntW (l.set i y)+(if(l.getD i aF.zero).bF then 1 else 0)=cntW l+(if y.bF then 1 else 0):=by
 unfold cntW;induction l generalizing i with
 |nil=>cases h
 |cons x l ih=>
  cases i with
  |zero=>simp only[List.set_cons_zero,List.countP_cons,List.getD_cons_zero];omega
  |succ i=>simp only[List.set_cons_succ,List.countP_cons,gN];have:=ih (i:=i) (by simpa using h);omega
def zcn3(x:aF):aF:={x with bF:=false,aR:=bH.zero,since:=0}
theorem zcX1{i:Nat}{w:bB}(hi:i<w.c.aG.length):zd9 (i:Int) w=some (w.c.now,w.c.aI,w.c.aG.set i (zcn3 (w.c.aG.getD i aF.zero)),w.ev):=by unfold zd9;rw[gdp (by omega),gdp (by omega),gdp (by omega)];simp only[Int.toNat_natCast,gK];rw[zp9 _ _ _ _ hi];rw[zp9 _ _ _ _ (by simpa using hi)];rfl
theorem zat6{i:Nat}{w:bB}(hi:i<w.c.aG.length):zd6 (i:Int) w=some (w.c.now,w.c.aI,w.c.aG.set i {(w.c.aG.getD i aF.zero)with gen:=zp8 (w.c.aG.getD i aF.zero).gen},w.ev):=by unfold zd6;rw[gdp (by omega),gdp (by omega)];simp only[Int.toNat_natCast]
theorem zbg7(k:Int)(p:aL){w:bB}(h:w.ev.length<=1000000):zd8 k p w=some (w.c.now,w.c.aI,w.c.aG,w.ev++[{bJ.zero with kind:=k,aK:=p}]):=by unfold zd8;rw[gdp (by omega)]
def SatP(w:bB)(x:aF):Prop:=x.bF=true->∀bs,zx1 w.c.aI x.aK x.aR.bN=some bs->zw0 x.aR.bN bs=some false
theorem zct8{w:bB}(hl:w.c.aG.length<=8)(hq:w.c.aI.length<=1000)(hs:Lens w.c.aI)(hE:∀y∈w.c.aG,y.bF=true->vE y.aR.bN=true):
  ∃v,zt0 w=some (v,w.c.now,w.c.aI,w.c.aG,w.ev)/\(v=-1/\(∀x∈w.c.aG,SatP w x)\/∃i:Nat,v=i/\i<w.c.aG.length/\(w.c.aG.getD i aF.zero).bF=true):=by
 unfold zt0;obtain⟨x,h1,h2⟩:=zq9 (body:=zL2 w) (λ g=>∃i:Nat,g=i/\i<=w.c.aG.length/\∀k,k<i->SatP w (w.c.aG.getD k aF.zero)) (λ g=>w.c.aG.length-g.toNat)
  (λ x=>x=.inl ()/\(∀x∈w.c.aG,SatP w x)\/∃i:Nat,x=.inr ((i:Int),w.c.now,w.c.aI,w.c.aG,w.ev)/\i<w.c.aG.length/\(w.c.aG.getD i aF.zero).bF=true)
  (λ g ⟨i,hi,hle,hg⟩=>by
   subst hi;unfold zL2
   by_cases c:i<w.c.aG.length
   .have h3:0<=(i:Int)/\(i:Int)<(w.c.aG.length:Int):=by omega
    have more:SatP w (w.c.aG.getD i aF.zero)->∀k,k<i+1->SatP w (w.c.aG.getD k aF.zero):=λ hs k hk=>by
     rcases fS k i with h5|h5
     .exact hg k h5
     .have:k=i:=by omega
      subst this;exact hs
    simp only[h3.1,h3.2,cS,zg9,cA,cC,Int.toNat_natCast,zc4 i (show i<4611686018427387904 by omega)];cases hw:(w.c.aG.getD i aF.zero).bF with
    |false=>simp only[bT,cB,Option.bind_some,eN];exact .inl ⟨_,rfl,⟨i+1,rfl,c,more λ h=>by rw[hw]at h;cases h⟩,by simp only[Int.toNat_natCast];omega⟩
    |true=>
     simp only[cC,cK];obtain⟨bs,L,q1,q2,q3,q4⟩:=zaU5 w.c.aI (w.c.aG.getD i aF.zero).aK (w.c.aG.getD i aF.zero).aR.bN hq hs;obtain⟨b,r1,r2⟩:=zaU3 (hE _ (zd5 c) hw) bs;rw[q1,Option.bind_some,r1,Option.bind_some];cases b with
     |false=>rw[bV (by decide)];exact .inl ⟨_,rfl,⟨i+1,rfl,c,more λ _ bs' e=>by rw[q1]at e;cases e;exact r1⟩,by simp only[Int.toNat_natCast];omega⟩
     |true=>rw[bX rfl];exact .inr ⟨_,rfl,.inr ⟨i,rfl,c,hw⟩⟩
   .right;have e:i=w.c.aG.length:=by omega
    subst e;simp only[eR,cJ,bT,cB];exact⟨_,rfl,.inl ⟨rfl,zad0.1 hg⟩⟩) 0 ⟨0,rfl,by omega,λ k hk=>by omega⟩
 rw[h1];rcases h2 with⟨rfl,h2⟩|⟨i,rfl,h3,h4⟩
 .exact⟨-1,rfl,.inl ⟨rfl,h2⟩⟩
 .exact⟨i,rfl,.inr ⟨i,rfl,h3,h4⟩⟩
def Left(x:aF)(t t':List aB)(ns:List aJ):Prop:=∀j,j<t.length->
 (getH (t'.getD j aB.zero).aP x.aK=zg0 x.aX.aD (t.getD j aB.zero).aA.name/\(zr8 (t'.getD j aB.zero) x.aK).2=false)\/
 (t'.getD j aB.zero=t.getD j aB.zero/\∀a∈ns,a.name≠(t.getD j aB.zero).aA.name)
theorem Left.cov{x:aF}{t t':List aB}{ns:List aJ}(h:Left x t t' ns)(k:Kept x.aK t t')(hc:∀i,i<t.length->covA (t.getD i aB.zero).aA (getH (t.getD i aB.zero).aP x.aK) (zg0 x.aX.aD (t.getD i aB.zero).aA.name)=true):
  ∀i,i<t.length->covA (t.getD i aB.zero).aA (getH (t'.getD i aB.zero).aP x.aK) (zg0 x.aX.aD (t.getD i aB.zero).aA.name)=true:=by
 intro i hi;rcases h i hi with⟨e,_⟩|⟨e,_⟩
 .rw[<-e,<-k.res i hi];exact zat2 (zaz8 ((zw3 _).1 (k.v.each _ (zd5 (z:=aB.zero) (by rw[k.len];exact hi)))).1.hv x.aK)
 .rw[e];exact hc i hi
theorem zdg6{x:aF}{w:bB}{t:List aB}(h:ValidT t)(k:Kept x.aK t w.c.aI){ns:List aJ}(hL:Left x t w.c.aI ns)(hle:x.aX.aD.length<=1000)(hev:w.ev.length<=1000000)
  (hc:∀i,i<t.length->covA (t.getD i aB.zero).aA (getH (t.getD i aB.zero).aP x.aK) (zg0 x.aX.aD (t.getD i aB.zero).aA.name)=true) {a:aJ} (ha:∃i,i<t.length/\(t.getD i aB.zero).aA.name=a.name):
  ∃t' ev,zz1 x a.name w=some (zbd5 w t' (w.ev++ev))/\ev.length<=40/\Kept x.aK t t'/\Left x t t' (ns++[a]):=by
 obtain⟨i,hi,hn⟩:=ha;have hi':i<w.c.aI.length:=by rw[k.len];exact hi
 have hr:=k.res i hi;obtain⟨q,ev,h1,h2,h3,h4,h5,h6⟩:=zcF9 x k.v hi' hle hev (by rw[hr];exact hL.cov k hc i hi);rw[hr]at h1 h4;rw[hn]at h1;refine⟨_,ev,h1,h2,k.trans h3,λ j hj=>?_⟩
 by_cases e:i=j
 .subst e;left;rw[zp9 _ _ _ _ hi'];exact⟨h4,h5⟩
 .rw[zad9 _ _ _ _ _ e];rcases hL j hj with h7|⟨h7,h8⟩
  .exact .inl h7
  .refine .inr ⟨h7,λ b hb=>?_⟩;rcases cR.1 hb with hb|hb
   .exact h8 b hb
   .rw[dN]at hb;subst hb;rw[<-hn];exactλ he=>e (zaJ6 h.asc hi hj he)
theorem zbD6{i:Nat}{w:bB}(g:Good w)(hi:i<w.c.aG.length)(hw:(w.c.aG.getD i aF.zero).bF=true)(hb:bud w<=500000):
  ∃t' ev L,zv0 (i:Int) w=some ⟨⟨w.c.now,t',w.c.aG.set i (zcn3 (w.c.aG.getD i aF.zero))⟩,w.ev++ev⟩/\ev.length<=320/\Kept (w.c.aG.getD i aF.zero).aK w.c.aI t'/\
   zi4 (w.c.aG.getD i aF.zero).aR.bN=some (L,true)/\Left (w.c.aG.getD i aF.zero) w.c.aI t' L:=by
 have ok:=g.ok _ (zd5 hi) hw;obtain⟨L,a1,a2,a3⟩:=zai1 (w.c.aG.getD i aF.zero).aR.bN;have hevb:w.ev.length<=500000:=by unfold bud at hb;omega
 unfold zv0;rw[gdp (by omega)];simp only[Int.toNat_natCast];rw[a1,Option.bind_some];obtain⟨x,h1,h2⟩:=zq9 (body:=zN2 (i:Int) w L) (λ g=>∃(k:Nat) (t':List aB) (ev:List bJ),g=((k:Int),zbd5 w t' (w.ev++ev))/\k<=L.length/\ev.length<=40*k/\Kept (w.c.aG.getD i aF.zero).aK w.c.aI t'/\Left (w.c.aG.getD i aF.zero) w.c.aI t' (L.take k))
  (λ g=>L.length-g.1.toNat) (λ x=>∃(t':List aB) (ev:List bJ),x=zbd5 w t' (w.ev++ev)/\ev.length<=320/\Kept (w.c.aG.getD i aF.zero).aK w.c.aI t'/\Left (w.c.aG.getD i aF.zero) w.c.aI t' L)
  (λ g ⟨k,t',ev,hg,hk,he,hK,hLf⟩=>by
   subst hg;unfold zN2
   by_cases c:k<L.length
   .left;have h3:0<=(k:Int)/\(k:Int)<(L.length:Int):=by omega
    simp only[h3.1,h3.2,cS,zg9,cA,cC,Int.toNat_natCast,zc4 k (show k<4611686018427387904 by omega)];obtain⟨t2,ev2,r1,r2,r3,r4⟩:=zdg6 (w:=zbd5 w t' (w.ev++ev)) g.v hK hLf ok.le (by show(w.ev++ev).length<=_;rw[cD];omega) ok.cov (ok.at_ L _ a3 _ (zd5 (z:=aJ.zero) c));rw[r1,Option.bind_some];refine⟨_,rfl,⟨k+1,t2,ev++ev2,?_,c,by rw[cD];omega,r3,?_⟩,by simp only[Int.toNat_natCast];omega⟩
    .show(((k+1:Nat):Int),zbd5 (zbd5 w t' (w.ev++ev)) t2 ((w.ev++ev)++ev2))=_;rw[dD];rfl
    .rw[zx3 aJ.zero c];exact r4
   .right;have e:k=L.length:=by omega
    simp only[show¬(k:Int)<(L.length:Int)by omega,cJ,bT,cB];exact⟨_,rfl,t',ev,rfl,by omega,hK,by rw[e,dH]at hLf;exact hLf⟩) (0,w) ⟨0,w.c.aI,[],by rw[dX];rfl,by omega,by simp,zaI6 g.v,λ j hj=>.inr ⟨rfl,λ a ha=>by cases ha⟩⟩
 obtain⟨t',ev,rfl,he,hK,hLf⟩:=h2;rw[h1,Option.bind_some];unfold zZ1;rw[zcX1 (w:=zbd5 w t' (w.ev++ev)) hi,Option.bind_some];exact⟨t',ev,L,rfl,he,hK,by rw[a3,ok.e],hLf⟩
theorem Good.upd{w:bB}(g:Good w){i:Nat}(hi:i<w.c.aG.length){t':List aB}(k:Kept (w.c.aG.getD i aF.zero).aK w.c.aI t'){y:aF}(hp:y.aK=(w.c.aG.getD i aF.zero).aK)(hy:ProcV w.c.now t' y)(ev:List bJ):
  Good ⟨⟨w.c.now,t',w.c.aG.set i y⟩,ev⟩:=by
 have gs:∀j,j<w.c.aG.length->i≠j->(w.c.aG.set i y).getD j aF.zero=w.c.aG.getD j aF.zero:=λ j hj e=>zad9 _ _ _ _ _ e;have gi:(w.c.aG.set i y).getD i aF.zero=y:=zp9 _ _ _ _ hi;have gp:∀j,j<w.c.aG.length->((w.c.aG.set i y).getD j aF.zero).aK=(w.c.aG.getD j aF.zero).aK:=λ j hj=>by
  by_cases e:i=j
  .subst e;rw[gi,hp]
  .rw[gs j hj e]
 refine⟨g.now,k.v,by simpa using g.len,zbI4 λ j hj h0=>?_,λ z hz=>?_,λ p hpp=>?_⟩
 .have hj:j<w.c.aG.length:=by simpa using hj
  show ltP ((w.c.aG.set i y).getD (j-1) aF.zero).aK ((w.c.aG.set i y).getD j aF.zero).aK;rw[gp j hj,gp (j-1) (by omega)];exact zbz1 g.asc hj (by omega)
 .obtain⟨j,hj,e⟩:=zt8 (z:=aF.zero) (show z∈w.c.aG.set i y from hz);rw[eA]at hj
  by_cases c:i=j
  .subst c;rw[gi]at e;rw[<-e];exact hy
  .rw[gs j hj c]at e;rw[<-e];exact(g.each _ (zd5 hj)).kept k (g.other hi hj c)
 .have at_:∀j,j<w.c.aG.length->∃x∈w.c.aG.set i y,x.aK=(w.c.aG.getD j aF.zero).aK:=λ j hj=>⟨_,zd5 (z:=aF.zero) (by simpa using hj),gp j hj⟩;rcases zce0 g.v k hpp with rfl|h
  .exact at_ i hi
  .obtain⟨x,hx,e⟩:=g.aG p h;obtain⟨j,hj,rfl⟩:=zt8 (z:=aF.zero) hx;obtain⟨x',hx',e'⟩:=at_ j hj;exact⟨x',hx',e'.trans e⟩
def zaw1(x:aF)(l:aW)(g:Int):aF:={x with bF:=false,aR:=bH.zero,since:=0,aX:=l,gen:=g}
theorem ProcV.rest{now:Int}{t t':List aB}{x:aF}(h:ProcV now t x)(k:Kept x.aK t t'){l:aW}{g:Int}(hg:0<=g/\g<=1073741824)(hl:LedgerP l)(hh:∀n,zg0 l.aD n≠aC.zero->∃q∈t,q.aA.name=n/\za2 q.aA (zg0 l.aD n)=true)
  (hr:∀j,j<t.length->getH (t'.getD j aB.zero).aP x.aK=zg0 l.aD (t.getD j aB.zero).aA.name/\(zr8 (t'.getD j aB.zero) x.aK).2=false) (now':Int):ProcV now' t' (zaw1 x l g):=by
 refine⟨h.pv,h.cost,hg,hl,λ n hn=>k.named (P:=λ r=>za2 r _=true) (hh n hn),(λ hw=>nomatch hw),λ _=>⟨rfl,rfl,λ q' hq=>?_⟩⟩;obtain⟨j,hj,rfl,hres⟩:=k.mem hq;rw[hres];exact hr j hj
theorem zcn4{now:Int}{t t':List aB}{x:aF}(ht:ValidT t)(h:ProcV now t x)(hw:x.bF=true){L:List aJ}(hL:zi4 x.aR.bN=some (L,true))(hl:Left x t t' L):∀j,j<t.length->getH (t'.getD j aB.zero).aP x.aK=zg0 x.aX.aD (t.getD j aB.zero).aA.name/\(zr8 (t'.getD j aB.zero) x.aK).2=false:=λ j hj=>by
 rcases hl j hj with h1|⟨h1,h2⟩
 .exact h1
 .rw[h1];rcases(h.wait hw).part L true hL _ (zd5 hj)with⟨a,ha,hn,_⟩|⟨_,h3,h4⟩
  .exact absurd hn (h2 a ha)
  .exact⟨h3,h4⟩
theorem Good.lens{w:bB}(g:Good w):w.c.aI.length<=1000/\Lens w.c.aI:=g.v.lens'
theorem Good.sat{w:bB}(g:Good w):∃v,zt0 w=some (v,w.c.now,w.c.aI,w.c.aG,w.ev)/\(v=-1/\(∀x∈w.c.aG,SatP w x)\/∃i:Nat,v=i/\i<w.c.aG.length/\(w.c.aG.getD i aF.zero).bF=true):=
 zct8 g.len g.lens.1 g.lens.2 λ y hy hw=>(g.ok y hy hw).e
theorem Kept.cat{p:aL}{t t':List aB}(k:Kept p t t'):t'.map (·.aA)=t.map (·.aA):=
 iX (by simp[k.len]) λ i h1 h2=>by
  rw[dB]at h1 h2;have:=k.res i h2;rw[bW,bW,bZ h1,bZ h2]at this
  simpa using this
theorem zcQ1{r:aH}{l a:aC}(hl:l=aC.zero\/za2 r l=true)(ha:za2 r a=true)(hc:covA r l a=false):za2 r (zJ6 r l a)=true/\zJ6 r l a≠l/\zv7 l (zJ6 r l a)=true:=by
 rcases hl with rfl|hl
 .rw[zbI8 ha];refine⟨ha,zW1 ha,?_⟩;have hu:zn0 a=true:=by rw[zad8];rw[zF1]at ha;omega
  unfold zv7;rw[bV (by rw[hu];simpa usingλ e:aC.zero=a=>zW1 ha e.symm),bX (by simp)]
 .obtain⟨j1,j2,j3,j4⟩:=zbf8 hl ha hc;refine⟨j1,j4,?_⟩;generalize zJ6 r l a=b at*;have hu:zn0 b=true:=by rw[zad8];rw[zF1]at j1;omega
  have hul:zn0 l=true:=by rw[zad8];rw[zF1]at hl;omega
  have hz:¬l=({aC.zero with}:aC):=zW1 hl;unfold zv7;rw[bV (by rw[hu];simpa usingλ e:l=b=>j4 e.symm),bV (by simpa using hz),bV (by rw[hul];decide)];obtain⟨_,_,hcv⟩:=(zV4 _ _ _).1 j2;rcases hcv with e|⟨_,_,hcv⟩
  .exact absurd e hz
  .rw[zF1]at j1 hl;rcases hcv with⟨hk,hm⟩|⟨hk,hu2⟩
   .rw[bX (by simp;omega)];exact hm
   .rw[bV (by simp;omega)];have:l.aS≠b.aS:=λ e=>j4 (by
     cases b;cases l;simp only at e j1 hl⊢;congr 1
     .omega
     .exact e.symm)
    exact cG (by omega)
theorem zcX2{L:List aJ}(h:dnN L){k:Nat}(hk:k<L.length):∀b∈L.take k,b.name≠(L.getD k aJ.zero).name:=λ b hb e=>by obtain⟨m,hm,rfl⟩:=eY.1 hb;rw[cU]at hm;rw[List.getElem_take,bW,bZ hk,Option.getD_some]at e;have:=dU.1 h m k (by omega) hk (by omega);rw[e]at this;simp at this
theorem zbz5{l:aW}(h:LedgerP l){e:bC}(he:e∈l.aD):zg0 l.aD e.name≠aC.zero:=by
 have key:∀d k,k+d=l.aD.length->(∃x∈l.aD.take k,x.name=e.name)->zg0 (l.aD.take k) e.name≠aC.zero:=by
  have up:∀k,k<=l.aD.length->(∃x∈l.aD.take k,x.name=e.name)->zg0 (l.aD.take k) e.name≠aC.zero:=by
   intro k;induction k with
   |zero=>intro _ ⟨x,hx,_⟩;cases hx
   |succ k ih=>
    intro hk ⟨x,hx,hn⟩;rw[zx3 bC.zero (by omega),zV1]
    by_cases c:(l.aD.getD k bC.zero).name=e.name
    .rw[bX c];have hg:=(h.grow k (by omega)).2;intro hz;rw[hz]at hg;unfold zv7 at hg;rw[bX (by simp[show zn0 aC.zero=false by decide])]at hg;cases hg
    .rw[bV c];refine ih (by omega) ?_;rw[zx3 bC.zero (by omega)]at hx;rcases cR.1 hx with hx|hx
     .exact⟨x,hx,hn⟩
     .rw[dN]at hx;subst hx;exact absurd hn c
  exactλ d k e=>up k (by omega)
 have:=key 0 l.aD.length (by omega) ⟨e,by rw[dH];exact he,rfl⟩;rwa [dH]at this
def midW(w:bB)(i:Nat)(t:List aB)(y:aF)(ev:List bJ):bB:=⟨⟨w.c.now,t,w.c.aG.set i y⟩,ev⟩
def FitL(t:List aB)(l:aW):Prop:=∀n,zg0 l.aD n≠aC.zero->∃q∈t,q.aA.name=n/\za2 q.aA (zg0 l.aD n)=true
theorem FitL.names{t:List aB}{l:aW}(h:FitL t l)(hl:LedgerP l):∀e∈l.aD,e.name∈t.map (·.aA.name):=λ e he=>by obtain⟨q,hq,hn,_⟩:=h _ (zbz5 hl he);exact cI.2 ⟨q,hq,hn⟩
theorem zdg7{t:List aB}(h:ValidT t):(t.map (·.aA.name)).Nodup/\(t.map (·.aA.name)).length<=8:=by refine⟨?_,by rw[dB];exact h.len⟩;rw[List.Nodup,iI];exact h.asc.imp zaZ0
theorem zct9{i:Nat}{w:bB}(g:Good w)(hi:i<w.c.aG.length)(hw:(w.c.aG.getD i aF.zero).bF=true)(hb:bud w<=500000){L:List aJ}(hL:L.length<=8)(hLa:zi4 (w.c.aG.getD i aF.zero).aR.bN=some (L,true)){keep:List Bool}(hk:keep.length=L.length)
  (hks:subB keep (L.map (grA w.c.aI (w.c.aG.getD i aF.zero).aK))) {ev0:List bJ} (h0:ev0.length<=w.ev.length+1):
  ∃t' l ev,zc2 (zI2 ((i:Int),w) keep L) (0,midW w i w.c.aI (w.c.aG.getD i aF.zero) ev0)=some (midW w i t' {w.c.aG.getD i aF.zero with aX:=l} ev)/\Kept (w.c.aG.getD i aF.zero).aK w.c.aI t'/\LedgerP l/\FitL w.c.aI l/\
   (∀j,j<w.c.aI.length->getH (t'.getD j aB.zero).aP (w.c.aG.getD i aF.zero).aK=zg0 l.aD (w.c.aI.getD j aB.zero).aA.name/\(zr8 (t'.getD j aB.zero) (w.c.aG.getD i aF.zero).aK).2=false)/\ev.length<=w.ev.length+321:=by
 have ok:=g.ok _ (zd5 hi) hw;have pv:=g.each _ (zd5 (z:=aF.zero) hi);have wv:=pv.wait hw;have hdn:dnN L:=zbp1 hLa;obtain⟨nd,n8⟩:=zdg7 g.v;generalize hx:w.c.aG.getD i aF.zero=x at*;have hevb:w.ev.length<=500000:=by unfold bud at hb;omega
 obtain⟨z,h1,h2⟩:=zq9 (body:=zI2 ((i:Int),w) keep L) (λ g'=>∃(k:Nat) (t':List aB) (l:aW) (ev:List bJ),g'=((k:Int),midW w i t' {x with aX:=l} ev)/\k<=L.length/\ev.length<=w.ev.length+1+40*k/\Kept x.aK w.c.aI t'/\LedgerP l/\FitL w.c.aI l/\
   ∀j,j<w.c.aI.length->((∃a∈L.take k,a.name=(w.c.aI.getD j aB.zero).aA.name)/\getH (t'.getD j aB.zero).aP x.aK=zg0 l.aD (w.c.aI.getD j aB.zero).aA.name/\(zr8 (t'.getD j aB.zero) x.aK).2=false)\/
    ((∀a∈L.take k,a.name≠(w.c.aI.getD j aB.zero).aA.name)/\t'.getD j aB.zero=w.c.aI.getD j aB.zero/\zg0 l.aD (w.c.aI.getD j aB.zero).aA.name=zg0 x.aX.aD (w.c.aI.getD j aB.zero).aA.name))
  (λ g'=>L.length-g'.1.toNat) (λ z=>∃(t':List aB) (l:aW) (ev:List bJ),z=midW w i t' {x with aX:=l} ev/\Kept x.aK w.c.aI t'/\LedgerP l/\FitL w.c.aI l/\
   (∀j,j<w.c.aI.length->getH (t'.getD j aB.zero).aP x.aK=zg0 l.aD (w.c.aI.getD j aB.zero).aA.name/\(zr8 (t'.getD j aB.zero) x.aK).2=false)/\ev.length<=w.ev.length+321)
  (λ g' ⟨k,t',l,ev,hg,hkl,he,hK,hlp,hfl,hM⟩=>by
   subst hg;unfold zI2
   by_cases c:k<L.length
   .left;have h3:0<=(k:Int)/\(k:Int)<(L.length:Int):=by omega
    have h4:(k:Int)<(keep.length:Int):=by omega
    simp only[h3.1,h3.2,h4,cS,zg9,cA,cC,Int.toNat_natCast,zc4 k (show k<4611686018427387904 by omega),hx];have hma:=zd5 (z:=aJ.zero) c;obtain⟨j,hj,hn⟩:=ok.at_ L _ hLa _ hma;have hj':j<t'.length:=by rw[hK.len];exact hj
    obtain⟨hq0,hl0⟩:t'.getD j aB.zero=w.c.aI.getD j aB.zero/\zg0 l.aD (w.c.aI.getD j aB.zero).aA.name=zg0 x.aX.aD (w.c.aI.getD j aB.zero).aA.name:=by
     rcases hM j hj with⟨⟨a,ha,han⟩,_⟩|⟨_,h5⟩
     .exact absurd (han.trans hn) (zcX2 hdn c a ha)
     .exact h5
    have taken:∃a∈L.take (k+1),a.name=(w.c.aI.getD j aB.zero).aA.name:=⟨_,by rw[zx3 aJ.zero c];simp,hn.symm⟩;have zx2:∀j2,j2<w.c.aI.length->j≠j2->∀l':aW,zg0 l'.aD (w.c.aI.getD j2 aB.zero).aA.name=zg0 l.aD (w.c.aI.getD j2 aB.zero).aA.name->∀t2:List aB,t2.getD j2 aB.zero=t'.getD j2 aB.zero->
      ((∃a∈L.take (k+1),a.name=(w.c.aI.getD j2 aB.zero).aA.name)/\getH (t2.getD j2 aB.zero).aP x.aK=zg0 l'.aD (w.c.aI.getD j2 aB.zero).aA.name/\(zr8 (t2.getD j2 aB.zero) x.aK).2=false)\/
      ((∀a∈L.take (k+1),a.name≠(w.c.aI.getD j2 aB.zero).aA.name)/\t2.getD j2 aB.zero=w.c.aI.getD j2 aB.zero/\zg0 l'.aD (w.c.aI.getD j2 aB.zero).aA.name=zg0 x.aX.aD (w.c.aI.getD j2 aB.zero).aA.name):=λ j2 hj2 hne l' hl' t2 ht2=>by
     rw[zx3 aJ.zero c,ht2,hl'];rcases hM j2 hj2 with⟨⟨a,ha,han⟩,h5⟩|⟨h5,h6⟩
     .exact .inl ⟨⟨a,dJ _ ha,han⟩,h5⟩
     .refine .inr ⟨λ a ha han=>?_,h6⟩;rcases cR.1 ha with ha|ha
      .exact h5 a ha han
      .rw[dN.1 ha,<-hn]at han;exact hne (zaJ6 g.v.asc hj hj2 han)
    cases hkp:keep.getD k false with
    |false=>
     simp only[dC,cC];obtain⟨q,ev2,r1,r2,r3,r4,r5,r6⟩:=zcF9 x (w:=midW w i t' {x with aX:=l} ev) hK.v hj' ok.le (by show ev.length<=_;omega) (by
      show covA (t'.getD j aB.zero).aA (getH (t'.getD j aB.zero).aP x.aK) (zg0 x.aX.aD (t'.getD j aB.zero).aA.name)=true;rw[hq0];exact ok.cov j hj)
     have r1':zz1 x (t'.getD j aB.zero).aA.name (midW w i t' {x with aX:=l} ev)=some (zbd5 (midW w i t' {x with aX:=l} ev) (t'.set j q) (ev++ev2)):=r1;rw[hq0,hn]at r1';have r4':getH q.aP x.aK=zg0 x.aX.aD (t'.getD j aB.zero).aA.name:=r4;rw[hq0]at r4';rw[r1',Option.bind_some];refine⟨_,rfl,⟨k+1,t'.set j q,l,ev++ev2,rfl,c,by rw[cD];omega,hK.trans r3,hlp,hfl,λ j2 hj2=>?_⟩,by simp only[Int.toNat_natCast];omega⟩
     by_cases e:j=j2
     .subst e;refine .inl ⟨taken,?_⟩;rw[zp9 _ _ _ _ hj',hl0];exact⟨r4',r5⟩
     .exact zx2 j2 hj2 e l rfl _ (zad9 _ _ _ _ _ e)
    |true=>
     simp only[cO,bT,cB];have hfd:=hK.find g.v hj;rw[hn]at hfd;have h6:=zat5 hK.v.lens hj';have hl':=hK.v.lens'.1;have hyi:((w.c.aG.set i {x with aX:=l}).getD i aF.zero)={x with aX:=l}:=zp9 _ _ _ _ hi;show∃g'',(zi8 t' (L.getD k aJ.zero).name).bind _=_/\_;rw[zX0 _ _ (by omega),Option.bind_some,hfd];show∃g'',gd (0<=(j:Int)/\(j:Int)<(t'.length:Int)) ((zj8 (t'.getD (j:Int).toNat aB.zero) _).bind _)=_/\_;rw[gdp (by omega)];simp only[Int.toNat_natCast];rw[zI3 _ _ (by omega),Option.bind_some];have hgi:0<=(i:Int)/\(i:Int)<(((midW w i t' {x with aX:=l} ev).c.aG.length:Nat):Int):=by show _/\(i:Int)<(((w.c.aG.set i {x with aX:=l}).length:Nat):Int);rw[eA];omega
     have hym:(midW w i t' {x with aX:=l} ev).c.aG.getD i aF.zero={x with aX:=l}:=hyi;have hle:=hlp.le;rw[gdp hgi,hym,zad7 _ _ (by show l.aD.length<=_;omega),Option.bind_some];show∃g'',(if(!decide (getH (t'.getD j aB.zero).aP x.aK=zg0 l.aD (L.getD k aJ.zero).name))=true then _ else _)=_/\_;have hcov:covA (w.c.aI.getD j aB.zero).aA (getH (w.c.aI.getD j aB.zero).aP x.aK) (L.getD k aJ.zero).aM=true:=by have:=hks k hkp;rw[show(L.map (grA w.c.aI x.aK)).getD k false=grA w.c.aI x.aK (L.getD k aJ.zero)by rw[bW,cN,bW,bZ c];rfl,zdv8 g.v.asc hj hn]at this;exact this
     have hpart:=wv.part L true hLa _ (zd5 (z:=aB.zero) hj);have hw2:(zr8 (w.c.aI.getD j aB.zero) x.aK).2=false:=by
      rcases hpart with⟨a,ha,han,hac,⟨h7,_⟩|⟨_,h7,_⟩⟩|⟨_,_,h7⟩
      .exact h7
      .rw[zcc4 hdn ha hma (han.trans hn),<-h7,hcov]at hac;cases hac
      .exact h7
     rw[hq0,<-hn,hl0]
     by_cases hsame:getH (w.c.aI.getD j aB.zero).aP x.aK=zg0 x.aX.aD (w.c.aI.getD j aB.zero).aA.name
     .rw[bV (by rw[cG hsame];decide)];refine⟨_,rfl,⟨k+1,t',l,ev,rfl,c,by omega,hK,hlp,hfl,λ j2 hj2=>?_⟩,by simp only[Int.toNat_natCast];omega⟩
      by_cases e:j=j2
      .subst e;refine .inl ⟨taken,?_⟩;rw[hq0,hl0];exact⟨hsame,hw2⟩
      .exact zx2 j2 hj2 e l rfl _ rfl
     .rw[bX (by rw[eE hsame];rfl),gdp hgi];obtain⟨a,ha,han,hac,hh⟩:∃a∈L,a.name=(w.c.aI.getD j aB.zero).aA.name/\covA (w.c.aI.getD j aB.zero).aA (zg0 x.aX.aD (w.c.aI.getD j aB.zero).aA.name) a.aM=false/\getH (w.c.aI.getD j aB.zero).aP x.aK=zJ6 (w.c.aI.getD j aB.zero).aA (zg0 x.aX.aD (w.c.aI.getD j aB.zero).aA.name) a.aM:=by
       rcases hpart with⟨a,ha,han,hac,⟨_,h7⟩|⟨_,h7,_⟩⟩|⟨_,h7,_⟩
       .exact⟨a,ha,han,hac,h7⟩
       .exact absurd h7 hsame
       .exact absurd h7 hsame
      obtain⟨q2,m2,n2,f2⟩:=wv.res L true hLa a ha;have e2:=g.v.inj m2 (zd5 (z:=aB.zero) hj) (n2.trans han);rw[e2]at f2;obtain⟨j1,j2,j3⟩:=zcQ1 (l:=zg0 x.aX.aD (w.c.aI.getD j aB.zero).aA.name) (by
       by_cases z:zg0 x.aX.aD (w.c.aI.getD j aB.zero).aA.name=aC.zero
       .exact .inl z
       .obtain⟨q1,m1,n1,f1⟩:=pv.held _ z;rw[g.v.inj m1 (zd5 (z:=aB.zero) hj) n1]at f1;exact .inr f1) f2 hac
      rw[<-hh]at j1 j3;have hnm:zE5 (w.c.aI.getD j aB.zero).aA.name=true:=by have:=((zw3 _).1 (g.v.each _ (zd5 (z:=aB.zero) hj))).1.res;unfold resV at this;rw[bU]at this;exact this.1
      have hl2:=hlp.snoc hnm (a:=getH (w.c.aI.getD j aB.zero).aP x.aK) (by rw[hl0];exact j3) nd n8 (hfl.names hlp) (cI.2 ⟨_,zd5 (z:=aB.zero) hj,rfl⟩);rw[hl0]at hl2;show∃g'',(zw2 l (⟨(w.c.aI.getD j aB.zero).aA.name,zg0 x.aX.aD (w.c.aI.getD j aB.zero).aA.name,getH (w.c.aI.getD j aB.zero).aP x.aK⟩:bC)).bind _=_/\_;rw[zbO7 hlp hl2,Option.bind_some,gdp hgi];have hsn:∀n,zg0 (l.aD++[(⟨(w.c.aI.getD j aB.zero).aA.name,zg0 x.aX.aD (w.c.aI.getD j aB.zero).aA.name,getH (w.c.aI.getD j aB.zero).aP x.aK⟩:bC)]) n=if(w.c.aI.getD j aB.zero).aA.name=n then getH (w.c.aI.getD j aB.zero).aP x.aK else zg0 l.aD n:=λ n=>zV1 _ _ _;refine⟨_,rfl,⟨k+1,t',_,ev,?_,c,by omega,hK,hl2,λ n hnz=>?_,λ j2 hj2=>?_⟩,by simp only[Int.toNat_natCast];omega⟩
      .show(((k+1:Nat):Int),(⟨(⟨w.c.now,t',((w.c.aG.set i _).set i _)⟩:aV),ev⟩:bB))=_;rw[gK];rfl
      .rw[hsn]at hnz|-
       by_cases e:(w.c.aI.getD j aB.zero).aA.name=n
       .rw[bX e];exact⟨_,zd5 (z:=aB.zero) hj,e,j1⟩
       .rw[bV e]at hnz⊢;exact hfl n hnz
      .by_cases e:j=j2
       .subst e;refine .inl ⟨taken,?_⟩;rw[hsn,bX rfl,hq0];exact⟨rfl,hw2⟩
       .exact zx2 j2 hj2 e _ (by rw[hsn,bV λ h=>e (zaJ6 g.v.asc hj hj2 h)]) _ rfl
   .right;have e:k=L.length:=by omega
    subst e;simp only[eR,cJ,bT,cB];refine⟨_,rfl,t',l,ev,rfl,hK,hlp,hfl,λ j hj=>?_,by omega⟩;rw[dH]at hM;rcases hM j hj with⟨_,h5⟩|⟨h5,h6,h7⟩
    .exact h5
    .rw[h6,h7];rcases wv.part L true hLa _ (zd5 (z:=aB.zero) hj)with⟨a,ha,han,_⟩|⟨_,h8⟩
     .exact absurd han (h5 a ha)
     .exact h8) (0,midW w i w.c.aI x ev0) ⟨0,w.c.aI,x.aX,ev0,rfl,by omega,by omega,zaI6 g.v,pv.led,pv.held,λ j hj=>.inr ⟨(λ a ha=>nomatch ha),rfl,rfl⟩⟩
 obtain⟨t',l,ev,rfl,h3⟩:=h2;exact⟨t',l,ev,h1,h3⟩
structure Less (w w':bB):Prop where
 good:Good w'
 len:w'.c.aG.length=w.c.aG.length
 cnt:cntW w'.c.aG<=cntW w.c.aG
 bud:bud w'<=bud w
 now:w'.c.now=w.c.now
 wait:∀x∈w'.c.aG,x.bF=true->x∈w.c.aG
 cat:w'.c.aI.map (·.aA)=w.c.aI.map (·.aA)
theorem zdw3(w:bB)(i:Nat)(hi:i<w.c.aG.length)(ev:List bJ):midW w i w.c.aI (w.c.aG.getD i aF.zero) ev=⟨⟨w.c.now,w.c.aI,w.c.aG⟩,ev⟩:=by unfold midW;rw[zaJ8 _ _ _ hi]
theorem zbd6{l:List aF}{i:Nat}{y:aF}(hy:y.bF=false):∀x∈l.set i y,x.bF=true->x∈l:=λ x hx hw=>by
 rcases iG hx with h|rfl
 .exact h
 .rw[hy]at hw;cases hw
theorem zcG0{i:Nat}{w:bB}(g:Good w)(hi:i<w.c.aG.length)(hw:(w.c.aG.getD i aF.zero).bF=true)(hb:bud w<=500000):
  ∃v w',zD7 ((i:Int),w)=some (.inl (v,w'))/\Less w w'/\cntW w'.c.aG<cntW w.c.aG/\(v=-1/\(∀x∈w'.c.aG,SatP w' x)\/∃k:Nat,v=k/\k<w'.c.aG.length/\(w'.c.aG.getD k aF.zero).bF=true):=by
 have ok:=g.ok _ (zd5 hi) hw;have hevb:w.ev.length<=500000:=by unfold bud at hb;omega
 unfold zD7;have h3:0<=(i:Int)/\(i:Int)<(w.c.aG.length:Int):=by omega
 simp only[h3.1,h3.2,cS,zg9,cA,cC,Int.toNat_natCast];rw[zbg7 _ _ (by omega),Option.bind_some];obtain⟨bs,L',q1,q2,q3,_,q5⟩:=zaU5 w.c.aI (w.c.aG.getD i aF.zero).aK (w.c.aG.getD i aF.zero).aR.bN g.lens.1 g.lens.2;obtain⟨L,a1,a2,a3⟩:=zai1 (w.c.aG.getD i aF.zero).aR.bN;rw[q1,Option.bind_some];obtain⟨keep,p1,p2,p3⟩:=zcc6 ok.e bs a3;rw[a3]at q2;cases q2;rw[p1,Option.bind_some,a1,Option.bind_some];obtain⟨t',l,ev,r1,r2,r3,r4,r5,r6⟩:=zct9 g hi hw hb a2 (by rw[a3,ok.e]) p2 (by rw[<-q5];exact p3) (ev0:=w.ev++[{bJ.zero with kind:=2,aK:=(w.c.aG.getD i aF.zero).aK}]) (by simp);rw[zdw3 w i hi]at r1;rw[r1,Option.bind_some];unfold zad6;have hyi:∀y,((midW w i t' y ev).c.aG.getD i aF.zero)=y:=λ y=>zp9 _ _ _ _ hi;have hl1:∀y,i<(midW w i t' y ev).c.aG.length:=λ y=>by show i<(w.c.aG.set i y).length;rw[eA];exact hi
 rw[zcX1 (w:=midW w i t' _ ev) (hl1 _),Option.bind_some,hyi];have e1:∀y z,(midW w i t' y ev).c.aG.set i z=w.c.aG.set i z:=λ y z=>by show(w.c.aG.set i y).set i z=_;rw[gK]
 rw[e1];have hl2:∀y:aF,i<(w.c.aG.set i y).length:=λ y=>by rw[eA];exact hi
 rw[zat6 (w:=⟨⟨_,_,w.c.aG.set i _⟩,_⟩) (hl2 _),Option.bind_some];simp only[zp9 _ _ _ _ hi,gK];have hg':Good ⟨⟨w.c.now,t',w.c.aG.set i (zaw1 (w.c.aG.getD i aF.zero) l (zp8 (w.c.aG.getD i aF.zero).gen))⟩,ev⟩:=g.upd hi r2 (y:=zaw1 (w.c.aG.getD i aF.zero) l (zp8 (w.c.aG.getD i aF.zero).gen)) rfl ((g.each _ (zd5 (z:=aF.zero) hi)).rest r2 (zap8 _) r3 r4 r5 w.c.now) ev;have hcnt:cntW (w.c.aG.set i (zaw1 (w.c.aG.getD i aF.zero) l (zp8 (w.c.aG.getD i aF.zero).gen)))+1=cntW w.c.aG:=by
  have:=zcX0 hi (zaw1 (w.c.aG.getD i aF.zero) l (zp8 (w.c.aG.getD i aF.zero).gen));rw[hw]at this
  simpa [zaw1]using this
 obtain⟨v,s1,s2⟩:=hg'.sat;show∃v w',(zt0 ⟨⟨w.c.now,t',w.c.aG.set i (zaw1 (w.c.aG.getD i aF.zero) l (zp8 (w.c.aG.getD i aF.zero).gen))⟩,ev⟩).bind _=_/\_;rw[s1,Option.bind_some];exact⟨v,_,rfl,⟨hg',by show(w.c.aG.set i _).length=_;rw[eA],by show cntW (w.c.aG.set i _)<=_;omega,by show ev.length+2000*cntW (w.c.aG.set i _)<=w.ev.length+2000*cntW w.c.aG;omega,rfl,zbd6 rfl,r2.cat⟩,by show cntW (w.c.aG.set i _)<_;omega,s2⟩
theorem Less.refl{w:bB}(g:Good w):Less w w:=⟨g,rfl,dA _,dA _,rfl,λ _ h _=>h,rfl⟩
theorem Less.trans{a b c:bB}(h:Less a b)(k:Less b c):Less a c:=⟨k.good,k.len.trans h.len,eC k.cnt h.cnt,eC k.bud h.bud,k.now.trans h.now,λ x hx hw=>h.wait x (k.wait x hx hw) hw,k.cat.trans h.cat⟩
theorem zce1{w:bB}(g:Good w)(hb:bud w<=500000):∃w',zm4 w=some w'/\Less w w'/\∀x∈w'.c.aG,SatP w' x:=by
 unfold zm4;obtain⟨v,s1,s2⟩:=g.sat;rw[s1,Option.bind_some];obtain⟨x,h1,h2⟩:=zq9 (body:=zD7) (λ z=>Less w z.2/\(z.1=-1/\(∀x∈z.2.c.aG,SatP z.2 x)\/∃k:Nat,z.1=k/\k<z.2.c.aG.length/\(z.2.c.aG.getD k aF.zero).bF=true)) (λ z=>cntW z.2.c.aG) (λ x=>Less w x/\∀y∈x.c.aG,SatP x y)
  (λ z ⟨hl,hv⟩=>by
   obtain⟨v,w1⟩:=z;simp only at hl hv;rcases hv with⟨rfl,hs⟩|⟨k,rfl,hk,hkw⟩
   .right;exact⟨w1,rfl,hl,hs⟩
   .left;obtain⟨v',w',e1,e2,e3,e4⟩:=zcG0 hl.good hk hkw (eC hl.bud hb);exact⟨(v',w'),e1,⟨hl.trans e2,e4⟩,e3⟩) (v,w) ⟨Less.refl g,s2⟩
 refine⟨x,?_,h2⟩;show(zc2 _ (v,w)).bind _=_;rw[h1];rfl
def Lim(now:Int)(x:aF):Prop:=x.bF=true->x.aR.limit=0\/now<x.since+x.aR.limit
theorem zce2{w:bB}(g:Good w):∃v,zc7 w=some (v,w.c.now,w.c.aI,w.c.aG,w.ev)/\(v=-1/\(∀x∈w.c.aG,Lim w.c.now x)\/∃i:Nat,v=i/\i<w.c.aG.length/\(w.c.aG.getD i aF.zero).bF=true):=by
 have hl:=g.len;unfold zc7;obtain⟨x,h1,h2⟩:=zq9 (body:=zO6 w) (λ g=>∃i:Nat,g.2.2=i/\i<=w.c.aG.length/\(g.1=-1/\(∀k,k<i->Lim w.c.now (w.c.aG.getD k aF.zero))\/∃i:Nat,g.1=i/\i<w.c.aG.length/\(w.c.aG.getD i aF.zero).bF=true)) (λ g=>w.c.aG.length-g.2.2.toNat)
  (λ x=>x=-1/\(∀x∈w.c.aG,Lim w.c.now x)\/∃i:Nat,x=i/\i<w.c.aG.length/\(w.c.aG.getD i aF.zero).bF=true)
  (λ z ⟨i,hi,hle,hg⟩=>by
   obtain⟨b,wh,g2⟩:=z;simp only at hi hg;subst hi;unfold zO6
   by_cases c:i<w.c.aG.length
   .left;have h3:0<=(i:Int)/\(i:Int)<(w.c.aG.length:Int):=by omega
    simp only[h3.1,h3.2,cS,zg9,cA,cC,Int.toNat_natCast,zc4 i (show i<4611686018427387904 by omega)];split
    .rename_i h;simp only[bU]at h;exact⟨_,rfl,⟨i+1,rfl,c,.inr ⟨i,rfl,c,h.1.1.1⟩⟩,by simp only[Int.toNat_natCast];omega⟩
    .rename_i h;refine⟨_,rfl,⟨i+1,rfl,c,?_⟩,by simp only[Int.toNat_natCast];omega⟩;rcases hg with⟨hb,hg⟩|hg
     .refine .inl ⟨hb,λ k hk=>?_⟩;rcases fS k i with h5|h5
      .exact hg k h5
      .have:k=i:=by omega
       subst this;intro hw;have wv:=(g.each _ (zd5 c)).wait hw;have hs:=wv.since;have hli:=wv.li;have hn:=g.now;simp only[bU,hw,fK,cP,cL,bY,dI,hb,not_and]at h
       by_cases c0:(w.c.aG.getD k aF.zero).aR.limit=0
       .exact .inl c0
       .right;rw[zj1 (by omega) (by omega)]at h;exact Int.lt_of_not_ge λ hle2=>h ⟨c0,hle2⟩ (.inl (by decide))
     .exact .inr hg
   .right;have e:i=w.c.aG.length:=by omega
    subst e;simp only[eR,cJ,bT,cB];refine⟨_,rfl,?_⟩;rcases hg with⟨hb,hg⟩|hg
    .exact .inl ⟨hb,zad0.1 hg⟩
    .exact .inr hg) (-1,0,0) ⟨0,rfl,by omega,.inl ⟨rfl,λ k hk=>by omega⟩⟩
 rw[h1,Option.bind_some];exact⟨x,rfl,h2⟩
theorem zbu8{i:Nat}{w:bB}(g:Good w)(hi:i<w.c.aG.length)(hw:(w.c.aG.getD i aF.zero).bF=true)(hb:bud w<=500000):
  ∃w1 w2,zv0 (i:Int) w=some w1/\zd6 (i:Int) w1=some (w2.c.now,w2.c.aI,w2.c.aG,w2.ev)/\Less w w2/\cntW w2.c.aG<cntW w.c.aG/\bud w2+1000<=bud w:=by
 obtain⟨t',ev,L,h1,h2,h3,h4,h5⟩:=zbD6 g hi hw hb;have pv:=g.each _ (zd5 (z:=aF.zero) hi);have hl2:i<(w.c.aG.set i (zcn3 (w.c.aG.getD i aF.zero))).length:=by rw[eA];exact hi
 have hn:=zat6 (w:=⟨⟨w.c.now,t',w.c.aG.set i (zcn3 (w.c.aG.getD i aF.zero))⟩,w.ev++ev⟩) hl2;simp only[zp9 _ _ _ _ hi,gK]at hn;have hcnt:cntW (w.c.aG.set i (zaw1 (w.c.aG.getD i aF.zero) (w.c.aG.getD i aF.zero).aX (zp8 (w.c.aG.getD i aF.zero).gen)))+1=cntW w.c.aG:=by
  have:=zcX0 hi (zaw1 (w.c.aG.getD i aF.zero) (w.c.aG.getD i aF.zero).aX (zp8 (w.c.aG.getD i aF.zero).gen));rw[hw]at this
  simpa [zaw1]using this
 have hbud:(w.ev++ev).length+2000*cntW (w.c.aG.set i (zaw1 (w.c.aG.getD i aF.zero) (w.c.aG.getD i aF.zero).aX (zp8 (w.c.aG.getD i aF.zero).gen)))+1000<=w.ev.length+2000*cntW w.c.aG:=by rw[cD];omega
 refine⟨_,⟨⟨w.c.now,t',w.c.aG.set i (zaw1 (w.c.aG.getD i aF.zero) (w.c.aG.getD i aF.zero).aX (zp8 (w.c.aG.getD i aF.zero).gen))⟩,w.ev++ev⟩,h1,hn,⟨g.upd hi h3 (y:=zaw1 (w.c.aG.getD i aF.zero) (w.c.aG.getD i aF.zero).aX (zp8 (w.c.aG.getD i aF.zero).gen)) rfl (pv.rest h3 (zap8 _) pv.led pv.held (zcn4 g.v pv hw h4 h5) _) _,by show(w.c.aG.set i _).length=_;rw[eA],by show cntW (w.c.aG.set i _)<=_;omega,?_,rfl,zbd6 rfl,h3.cat⟩,by show cntW (w.c.aG.set i _)<_;omega,hbud⟩;show(w.ev++ev).length+2000*cntW (w.c.aG.set i _)<=w.ev.length+2000*cntW w.c.aG;omega
theorem Good.ev{w:bB}(g:Good w)(ev:List bJ):Good ⟨w.c,ev⟩:=⟨g.now,g.v,g.len,g.asc,g.each,g.aG⟩
theorem ProcV.later{now now':Int}{t:List aB}{x:aF}(h:ProcV now t x)(hn:now<=now'):ProcV now' t x:=
 ⟨h.pv,h.cost,h.gen,h.led,h.held,λ hw=>have w:=h.wait hw;⟨w.ve,w.pr,w.li,⟨w.since.1,Int.le_trans w.since.2 hn⟩,w.res,w.part⟩,h.run⟩
theorem Good.cen{w:bB}(g:Good w)(h1:∀x∈w.c.aG,SatP w x)(h2:∀x∈w.c.aG,Lim w.c.now x):CenV w.c:=⟨g.now,g.v,g.len,g.each,g.asc,g.aG,λ x hx hw=>⟨h2 x hx hw,h1 x hx hw⟩⟩
def Done(c:aV)(r:Int×bB):Prop:=r.1=0->CenV r.2.c/\r.2.c.aI.map (·.aA)=c.aI.map (·.aA)
theorem zaM3{w:bB}(g:Good w)(hb:bud w<=500000)(hl:∀x∈w.c.aG,Lim w.c.now x):∃w',zm4 w=some w'/\CenV w'.c/\w'.c.aI.map (·.aA)=w.c.aI.map (·.aA):=by obtain⟨w',h1,h2,h3⟩:=zce1 g hb;exact⟨w',h1,h2.good.cen h3 λ x hx hw=>by rw[h2.now];exact hl x (h2.wait x hx hw) hw,h2.cat⟩
theorem zdw4(n:Int){c:aV}(h:CenV c):∃r,zG6 n ⟨c,[]⟩=some r/\Done c r:=by
 have g:=h.good [];have hnow:=h.now;unfold zG6
 by_cases c1:((decide (n<0))||(decide (1000<n)))=true
 .rw[bX c1];exact⟨_,rfl,λ h=>nomatch h⟩
 rw[bV c1];simp only[dI,bY,kD]at c1
 by_cases c2:(decide ((IntKind.i64.wrap (1073741824-n))<c.now))=true
 .rw[bX c2];exact⟨_,rfl,λ h=>nomatch h⟩
 rw[bV c2];rw[zj1 (by omega) (by omega),bY]at c2;rw[zj1 (show-9223372036854775808<=c.now+n by omega) (by omega)];have g1:Good ⟨⟨c.now+n,c.aI,c.aG⟩,[]⟩:=⟨by simp only;omega,g.v,g.len,g.asc,λ x hx=>(g.each x hx).later (by simp only;omega),g.aG⟩;have hs1:∀x∈c.aG,SatP ⟨⟨c.now+n,c.aI,c.aG⟩,[]⟩ x:=λ x hx hw=>(h.quiet x hx hw).2;have hb1:bud ⟨⟨c.now+n,c.aI,c.aG⟩,[]⟩<=400000:=by have:=zcQ0 c.aG;have:=h.len;unfold bud;simp only[List.length_nil];omega
 obtain⟨v,e1,e2⟩:=zce2 g1;show∃r,(zc7 ⟨⟨c.now+n,c.aI,c.aG⟩,[]⟩).bind _=some r/\_;rw[e1,Option.bind_some];obtain⟨x,h1,h2⟩:=zq9 (body:=zW0) (λ z=>Good z.2/\(∀x∈z.2.c.aG,SatP z.2 x)/\z.2.c.aI.map (·.aA)=c.aI.map (·.aA)/\bud z.2<=400000/\(z.1=-1/\(∀x∈z.2.c.aG,Lim z.2.c.now x)\/∃k:Nat,z.1=k/\k<z.2.c.aG.length/\(z.2.c.aG.getD k aF.zero).bF=true)) (λ z=>cntW z.2.c.aG)
  (λ x=>CenV x.c/\x.c.aI.map (·.aA)=c.aI.map (·.aA))
  (λ z ⟨hg,hsz,hcz,hbz,hv⟩=>by
   obtain⟨v,w1⟩:=z;simp only at hg hsz hcz hbz hv;rcases hv with⟨rfl,hlim⟩|⟨k,rfl,hk,hkw⟩
   .right;exact⟨w1,rfl,hg.cen hsz hlim,hcz⟩
   .left;have hev:w1.ev.length<=400000:=by unfold bud at hbz;omega
    unfold zW0;have h3:0<=(k:Int)/\(k:Int)<(w1.c.aG.length:Int):=by omega
    simp only[h3.1,h3.2,cS,zg9,cA,cC,Int.toNat_natCast];rw[zbg7 _ _ (by omega),Option.bind_some];have gn:=hg.ev (w1.ev++[{bJ.zero with kind:=4,aK:=(w1.c.aG.getD k aF.zero).aK}]);obtain⟨wa,wb,r1,r2,r3,r5,r6⟩:=zbu8 (w:=⟨⟨w1.c.now,w1.c.aI,w1.c.aG⟩,w1.ev++[{bJ.zero with kind:=4,aK:=(w1.c.aG.getD k aF.zero).aK}]⟩) gn hk hkw (by unfold bud at hbz⊢;simp only[cD,List.length_singleton];omega);have hbb:bud wb+999<=bud w1:=by
     have:bud (⟨⟨w1.c.now,w1.c.aI,w1.c.aG⟩,w1.ev++[{bJ.zero with kind:=4,aK:=(w1.c.aG.getD k aF.zero).aK}]⟩:bB)=bud w1+1:=by unfold bud;simp only[cD,List.length_singleton];omega
     omega
    rw[r1,Option.bind_some,r2,Option.bind_some];obtain⟨wc,s1,s2,s3⟩:=zce1 r3.good (by omega);show∃g',(zm4 wb).bind _=_/\_;rw[s1,Option.bind_some];obtain⟨v2,e3,e4⟩:=zce2 s2.good;rw[e3,Option.bind_some];refine⟨_,rfl,⟨s2.good,s3,(s2.cat.trans r3.cat).trans hcz,?_,e4⟩,?_⟩
    .have:=s2.bud;show bud wc<=_;omega
    .have:=s2.cnt;show cntW wc.c.aG<cntW w1.c.aG;exact Nat.lt_of_le_of_lt this r5) (v,⟨⟨c.now+n,c.aI,c.aG⟩,[]⟩) ⟨g1,hs1,rfl,hb1,e2⟩
 show∃r,(zc2 _ (v,_)).bind _=some r/\_;rw[h1];exact⟨_,rfl,λ _=>h2⟩
theorem zcu0{x:aF}(hw:x.bF=false)(hr:x.aR=bH.zero)(hs:x.since=0)(l:aW)(g:Int):({x with aX:=l,gen:=g}:aF)=zaw1 x l g:=by unfold zaw1;rw[hw,hr,hs]
theorem LedgerP.none:LedgerP aW.zero:=⟨fD _,fD _,(λ i hi=>absurd hi (lD _)),(λ ns nd h=>by
  cases ns with
  |nil=>exact fD _
  |cons n ns=>obtain⟨e,he,_⟩:=h n (.head _);cases he),λ i hi=>absurd hi (lD _)⟩
theorem zdI1{q:aB}{p:aL}(h:hasQ q p=false):getH q.aP p=aC.zero/\(zr8 q p).2=false:=by
  refine⟨kJ λ hz=>?_,?_⟩
  .rw[(zD5 _ p).2 (.inr hz)]at h;cases h
  · unfold hasQ at h
    rw[fU]at h;exact h.1
theorem zdg8{A:List aF}{x:aF}(h:A.Pairwise λ a b=>ltP a.aK b.aK)(hx:∀a∈A,a.aK≠x.aK)(hl:A.length<=100):
    ∃y,zc2 zM7 ((A.length:Int),A++[x])=some y/\y.Perm (x::A)/\y.Pairwise λ a b=>ltP a.aK b.aK:=by
  refine zq9 (body:=zM7) (λ g=>∃P B:List aF,g.1=P.length/\g.2=P++x::B/\(∀b∈B,ltP x.aK b.aK)/\P++B=A) (λ g=>g.1.toNat) (λ y=>y.Perm (x::A)/\y.Pairwise λ a b=>ltP a.aK b.aK) ?_ _ ⟨A,[],rfl,rfl,(λ b hb=>nomatch hb),dX A⟩;rintro⟨i,l⟩ ⟨P,B,h1,h2,h3,h4⟩;simp only at h1 h2;subst h1;subst h2;have hlen:P.length+B.length=A.length:=by rw[<-h4,cD]
  have hA:=h;rw[<-h4]at hA;unfold zM7;rcases iS P with rfl|⟨Q,y,rfl⟩
  · right
    refine⟨x::B,?_,?_,cX.2 ⟨h3,hA⟩⟩
    .simp only[List.length_nil,Int.cast_ofNat_Int,eR,cJ,bT,hJ,zg9,eN,cB,List.nil_append]
    .rw[<-h4];exact .refl _
  · simp only[List.concat_eq_append]at hlen h4 hA|-
    simp only[cD,List.length_singleton]at hlen⊢;have e1:IntKind.i64.wrap (((Q.length+1:Nat):Int)-1)=(Q.length:Int):=by rw[zj1 (by omega) (by omega)];omega
    have ex:(Q++[y]++x::B).getD (Q.length+1) aF.zero=x:=by have:=zaM1 (Q++[y]) B x aF.zero;rwa [cD,List.length_singleton]at this
    have ey:(Q++[y]++x::B).getD Q.length aF.zero=y:=by rw[dD];exact zaM1 Q (x::B) y _
    rw[e1,show((Q.length+1:Nat):Int).toNat=Q.length+1 from Int.toNat_natCast _,show((Q.length:Nat):Int).toNat=Q.length from Int.toNat_natCast _,ex,ey];have hg:(0:Int)<=((Q.length+1:Nat):Int)/\((Q.length+1:Nat):Int)<((Q.length+1+(x::B).length:Nat):Int):=by rw[List.length_cons];omega
    have hg2:(0:Int)<=(Q.length:Int)/\(Q.length:Int)<((Q.length+1+(x::B).length:Nat):Int):=by rw[List.length_cons];omega
    simp only[hg.1,hg.2,hg2.1,hg2.2,cS,eD,zg9,show(0:Int)<((Q.length+1:Nat):Int)by omega,cA,cK];have hyx:y.aK≠x.aK:=hx y (by rw[<-h4];simp);have hcmp:(decide (0<zv4 y.aK x.aK))=decide (ltP x.aK y.aK):=by
      rw[show zv4 y.aK x.aK=cmpP y.aK x.aK from rfl,zbq6]
      by_cases c:ltP x.aK y.aK
      .rw[bV (zbc0 c),bX c];simp[c]
      · by_cases c2:ltP y.aK x.aK
        .rw[bX c2];simp[c]
        .rw[bV c2,bV c];simp[c]
    rw[hcmp]
    by_cases c:ltP x.aK y.aK
    · left
      rw[bX (cG c)];refine⟨_,rfl,⟨Q,y::B,rfl,?_,λ b hb=>?_,by rw[<-h4,dD];rfl⟩,by simp only;omega⟩
      · show((Q++[y]++x::B).set (Q.length+1) y).set Q.length x=_
        have s1:=zbr7 (Q++[y]) B x y;rw[cD,List.length_singleton]at s1;rw[s1,dD];exact zbr7 Q (y::B) y x
      · rcases cF.1 hb with rfl|hb
        .exact c
        .exact h3 b hb
    · right
      rw[bV (by simpa using c)];refine⟨_,rfl,?_,?_⟩
      .rw[<-h4];exact kW
      · have hyl:ltP y.aK x.aK:=(zat1 hyx).resolve_right c
        have hp:=eO.1 hA;refine eO.2 ⟨hp.1,cX.2 ⟨h3,hp.2.1⟩,λ a ha b hb=>?_⟩;have hax:ltP a.aK x.aK:=by
          rcases cR.1 ha with ha|ha
          .exact zat0 ((eO.1 hp.1).2.2 a ha y (by simp)) hyl
          .rw[dN.1 ha];exact hyl
        rcases cF.1 hb with rfl|hb
        .exact hax
        .exact zat0 hax (h3 b hb)
theorem zdw5(p:aL)(cost:Int){c:aV}(h:CenV c):∃r,zg7 p cost ⟨c,[]⟩=some r/\Done c r:=by
  have hlen:=h.len;unfold zg7
  by_cases c1:(((!(zr5 p))||(decide (cost<1)))||(decide (1000<cost)))=true
  .rw[bX c1];exact⟨_,rfl,λ h=>nomatch h⟩
  rw[bV c1];obtain⟨v,h1,h2⟩:=zaE6 c.aG p (by omega);show∃r,(zi9 c.aG p).bind _=some r/\_;rw[h1,Option.bind_some];rcases h2.symm with⟨i,rfl,_,_⟩|⟨rfl,hnp⟩
  .rw[bX (by simp)];exact⟨_,rfl,λ h=>nomatch h⟩
  rw[bV (by decide)]
  by_cases c8:(c.aG.length:Int)=8
  .rw[bX (cG c8)];exact⟨_,rfl,λ h=>nomatch h⟩
  rw[bV (by simpa using c8)];show∃r,gd (c.aG.length+1<=4294967296) _=some r/\_;rw[gdp (by omega),show IntKind.i64.wrap (((c.aG.length+1:Nat):Int)-1)=(c.aG.length:Int)by rw[zj1 (by omega) (by omega)];omega];obtain⟨y,e1,e2,e3⟩:=zdg8 (x:={aF.zero with aK:=p,cost:=cost}) h.asc hnp (by omega);rw[e1,Option.bind_some];refine⟨_,rfl,λ _=>⟨?_,rfl⟩⟩;rw[zaS5]at c1;simp only[dI,cP,bY,kD,fB]at c1;have hnew:ProcV c.now c.aI {aF.zero with aK:=p,cost:=cost}:=by
    refine⟨c1.1.1,by simp only;omega,by show(0:Int)<=0/\(0:Int)<=_;omega,LedgerP.none,(λ n hn=>absurd rfl hn),(λ hw=>nomatch hw),λ _=>⟨rfl,rfl,λ q hq=>?_⟩⟩;have hq0:hasQ q p=false:=by rw[dP];intro hh;obtain⟨x,hx,e⟩:=h.aG p ((zV0 h.t.each).2 ⟨q,hq,hh⟩);exact hnp x hx e
    exact zdI1 hq0
  have mem:∀x,x∈y->x={aF.zero with aK:=p,cost:=cost}\/x∈c.aG:=λ x hx=>cF.1 (e2.mem_iff.1 hx);refine⟨h.now,h.t,?_,λ x hx=>?_,e3,λ p' hp=>?_,λ x hx=>?_⟩
  · have:=e2.length_eq
    rw[List.length_cons]at this;show y.length<=8;omega
  · rcases mem x hx with rfl|hx
    .exact hnew
    .exact h.each x hx
  · obtain⟨x,hx,e⟩:=h.aG p' hp
    exact⟨x,e2.mem_iff.2 (.tail _ hx),e⟩
  · rcases mem x hx with rfl|hx
    .exactλ hw=>nomatch hw
    .exact h.quiet x hx
theorem zdw6{q:aB}(h:zj6 q=true)(p:aL):getH (remN q p).aP p=aC.zero/\(zr8 (remN q p) p).2=false:=by
  have hf:hasQ (remN q p) p=false:=by rw[dP];exactλ e=>((zcD1 h p p).1 e).2 rfl
  exact zdI1 hf
theorem zdF9{q:aB}(h:zj6 q=true){p x:aL}(hx:x≠p):Eff q (remN q p) x:=by
  unfold remN;split
  · rename_i h0
    obtain⟨_,_,_,e,hs⟩:=zbf9 h0;rw[e];exact(zdF8 hx).trans (zaA0 hs x)
  .exact Eff.refl _ _
theorem zdw7{t:List aB}(h:ValidT t)(p:aL):Kept p t (remT t p).1:=by
  have hv:=zcN9 h p;rw[zbR5 h]at hv⊢;have gm:∀i,i<t.length->(t.map (remN · p)).getD i aB.zero=remN (t.getD i aB.zero) p:=λ i hi=>by rw[bW,cN,bW,bZ hi];rfl
  refine⟨hv,by simp,λ i hi=>?_,λ i hi x hx=>?_,λ i hi x hx=>?_⟩
  · show((t.map (remN · p)).getD i aB.zero).aA=_
    rw[gm i hi];exact zcb9 (h.each _ (zd5 hi)) p
  · show covA _ (getH ((t.map (remN · p)).getD i aB.zero).aP x) _=true
    rw[gm i hi];exact(zbM1 (h.each _ (zd5 hi)) hx).1
  · show Eff _ ((t.map (remN · p)).getD i aB.zero) x
    rw[gm i hi];exact zdF9 (h.each _ (zd5 hi)) hx
theorem zcG1{i:Nat}{c:aV}(h:CenV c)(hi:i<c.aG.length):∃w',zG7 (i:Int) ⟨c,[]⟩=some w'/\CenV w'.c/\w'.c.aI.map (·.aA)=c.aI.map (·.aA):=by
  have g:=h.good [];have hl:=h.len;have hre:=zdF5 h.t (c.aG.getD i aF.zero).aK;unfold zG7;show∃w',gd (0<=(i:Int)/\(i:Int)<((c.aG.length:Nat):Int)) _=some w'/\_;rw[gdp (by omega),zbO6,Option.bind_some];simp only[Int.toNat_natCast];rw[zbr9 _ _ _ (by simp only[List.length_nil];omega),Option.bind_some];have e1:IntKind.i64.wrap ((i:Int)+1)=((i+1:Nat):Int):=zc4 i (by omega);simp only[e1,Int.toNat_natCast];rw[gdp ⟨by omega,by omega,by omega,trivial⟩,gdp (by omega),gdp (by simp only[cU,eK];omega)];rw[zbg7 _ _ (by show([]++_:List bJ).length<=_;rw[List.nil_append];omega),Option.bind_some];have hsub:(c.aG.take i++(c.aG.drop (i+1)).take (c.aG.length-(i+1))).Sublist c.aG:=by
    have e:c.aG=c.aG.take i++c.aG.drop i:=(eH _ _).symm
    conv=>rhs;rw[e]
    refine(List.Sublist.refl _).append ((List.take_sublist _ _).trans ?_);rw[show c.aG.drop (i+1)=(c.aG.drop i).drop 1 by rw[fT]];exact List.drop_sublist _ _
  have k:=zdw7 h.t (c.aG.getD i aF.zero).aK;have hmem:∀y∈c.aG.take i++(c.aG.drop (i+1)).take (c.aG.length-(i+1)),∃j,j<c.aG.length/\i≠j/\c.aG.getD j aF.zero=y:=λ y hy=>by
    rcases cR.1 hy with hy|hy
    · obtain⟨j,hj,e⟩:=zt8 (z:=aF.zero) hy
      rw[cU]at hj;refine⟨j,by omega,by omega,?_⟩;rw[<-e,zaH4 _ _ _ _ (by omega)]
    · obtain⟨j,hj,e⟩:=zt8 (z:=aF.zero) (fV hy)
      rw[eK]at hj;refine⟨i+1+j,by omega,by omega,?_⟩;rw[<-e,bW,bW,dZ]
  have hmem2:∀j,j<c.aG.length->i≠j->c.aG.getD j aF.zero∈c.aG.take i++(c.aG.drop (i+1)).take (c.aG.length-(i+1)):=λ j hj hij=>by
    rw[dO (l:=c.aG.drop (i+1)) (by rw[eK];omega)];rcases fS j i with cj|cj
    · refine dJ _ ?_
      rw[<-zaH4 c.aG j i aF.zero cj];exact zd5 (by rw[cU];omega)
    · refine cY _ ?_
      have:(c.aG.drop (i+1)).getD (j-(i+1)) aF.zero=c.aG.getD j aF.zero:=by rw[bW,bW,dZ,show i+1+(j-(i+1))=j by omega]
      rw[<-this];exact zd5 (by rw[eK];omega)
  have g':Good ⟨⟨c.now,(remT c.aI (c.aG.getD i aF.zero).aK).1,c.aG.take i++(c.aG.drop (i+1)).take (c.aG.length-(i+1))⟩,([]++(remT c.aI (c.aG.getD i aF.zero).aK).2)++[{bJ.zero with kind:=5,aK:=(c.aG.getD i aF.zero).aK}]⟩:=by
    refine⟨h.now,k.v,eC hsub.length_le hl,h.asc.sublist hsub,λ y hy=>?_,λ p hp=>?_⟩
    · obtain⟨j,hj,hij,rfl⟩:=hmem y hy
      exact(h.each _ (zd5 hj)).kept k (g.other hi hj hij)
    · have hne:p≠(c.aG.getD i aF.zero).aK:=λ e=>by
        obtain⟨q,hq,hh⟩:=(zV0 k.v.each).1 hp;rw[zbR5 h.t]at hq;obtain⟨q0,hq0,rfl⟩:=cI.1 hq;have:=zdw6 (h.t.each q0 hq0) (c.aG.getD i aF.zero).aK;rw[e]at hh;rcases(zD5 _ _).1 hh with h5|h5
        .exact absurd ((zbY9 _ _).2 h5) (by rw[this.2];decide)
        .exact h5 this.1
      obtain⟨x,hx,e⟩:=h.aG p ((zce0 h.t k hp).resolve_left hne);obtain⟨j,hj,rfl⟩:=zt8 (z:=aF.zero) hx;exact⟨_,hmem2 j hj (λ hij=>hne (by rw[hij];exact e.symm)),e⟩
  have hc:cntW (c.aG.take i++(c.aG.drop (i+1)).take (c.aG.length-(i+1)))<=8:=eC (zcQ0 _) (eC hsub.length_le hl);obtain⟨w',h1,h2,h3⟩:=zaM3 g' (by unfold bud;simp only[cD,List.length_singleton,List.length_nil];omega) λ x hx hw=>by obtain⟨j,hj,_,rfl⟩:=hmem x hx;exact(h.quiet _ (zd5 hj) hw).1
  exact⟨w',by show(zm4 _).bind _=_;rw[h1];rfl,h2,h3.trans k.cat⟩
theorem zcn5{q:aB}{p:aL}{a:aC}{pr:Int}(e0:(zA2 q p a pr).2.2=0){x:aL}(hx:x≠p):covA q.aA (getH (zA2 q p a pr).1.aP x) (getH q.aP x)=true/\Eff q (zA2 q p a pr).1 x:=by
  obtain⟨hs,_,_,_,_,h⟩:=zbc7 e0;rcases h with⟨_,e⟩|⟨_,_,e,h2⟩|⟨_,_,_,e,h2⟩
  .rw[e];exact⟨zat2 (zaz8 hs.hv x),Eff.refl _ _⟩
  · rw[e]
    refine⟨?_,(zcP5 hx a).trans (zaA0 h2 x)⟩;rw[zJ3];exact zaS9 h2 x
  · rw[e]
    refine⟨?_,(zcP6 hx a pr).trans (zaA0 h2 x)⟩;rw[zJ3];exact zaS9 h2 x
theorem zcQ2{t:List aB}(ht:ValidT t){ps:List aL}(hps:∀p∈zB8 t,p∈ps)(h8:ps.length<=8){p:aL}(hp:p∈ps):zbo7 t p=false/\∀q∈t,getH q.aP p=aC.zero->(zr8 q p).2=false->q.aP.length+q.aT.length<8:=by
  have few:∀l:List aL,l.Nodup->(∀x∈l,x∈ps/\x≠p)->l.length<8:=λ l nd hl=>by
    have:=dL (l₁:=p::l) (l₂:=ps) (fL.2 ⟨λ h=>(hl p h).2 rfl,nd⟩) λ x hx=>by
      rcases cF.1 hx with rfl|hx
      .exact hp
      .exact(hl x hx).1
    rw[List.length_cons]at this;omega
  refine⟨?_,λ q hq hz hw=>?_⟩
  · by_cases c:p∈zB8 t
    .exact zct3 c
    · have:=few (zB8 t) (zaP2 t) λ x hx=>⟨hps x hx,λ e=>c (e▸hx)⟩
      unfold zbo7;rw[eE (by omega)];rfl
  · have hs:=((zw3 q).1 (ht.each q hq)).1
    have inn:∀x,x∈q.aP.map (·.aK)\/x∈q.aT.map (·.aK)->x∈ps:=λ x hx=>by
      refine hps x ((zV0 ht.each).2 ⟨q,hq,(zcV8 hs x).2 ?_⟩);rcases hx with hx|hx
      .exact .inr hx
      · refine .inl ?_
        unfold ordQ;rw[fA];exact cY _ hx
    have:=few (q.aP.map (·.aK)++q.aT.map (·.aK)) (iH.2 ⟨?_,((zay0 _).1 hs.wv).2.2,λ a ha b hb e=>?_⟩) λ x hx=>?_
    .simpa using this
    · rw[List.Nodup,iI]
      exact(zbc5 hs.hv).imp λ{a b} hab e=>by rw[e]at hab;exact zR1 _ hab
    · obtain⟨w,hwm,rfl⟩:=cI.1 hb
      have h5:=(hs.wg w hwm).2;rw[<-e]at h5;exact(zbZ0 hs.hv a).2 ha h5
    · refine⟨inn x (cR.1 hx),λ e=>?_⟩
      rcases cR.1 hx with h5|h5
      .rw[e,<-zbZ0 hs.hv]at h5;exact h5 hz
      · obtain⟨w,hwm,e2⟩:=cI.1 h5
        exact(zav7.1 hw) w (cY _ hwm) (e2.trans e)
theorem zdg9{t:List aB}(ht:ValidT t){ps:List aL}(hps:∀p∈zB8 t,p∈ps)(h8:ps.length<=8){p:aL}(hp:p∈ps){a:aJ}{pr:Int}{i:Nat}(hi:i<t.length)(hn:(t.getD i aB.zero).aA.name=a.name)(hf:za2 (t.getD i aB.zero).aA a.aM=true)(ho:zbc6 p pr=true)(hw:(zr8 (t.getD i aB.zero) p).2=false):
    ∃q ev,zbg2 t p a pr=(t.set i q,ev,0)/\ev.length<=20/\Kept p t (t.set i q)/\
      ((covA (t.getD i aB.zero).aA (getH (t.getD i aB.zero).aP p) a.aM=true/\q=t.getD i aB.zero)\/(covA (t.getD i aB.zero).aA (getH (t.getD i aB.zero).aP p) a.aM=false/\
      ((zr8 q p).2=false/\getH q.aP p=zJ6 (t.getD i aB.zero).aA (getH (t.getD i aB.zero).aP p) a.aM\/
       (zr8 q p).2=true/\getH q.aP p=getH (t.getD i aB.zero).aP p/\(zr8 q p).1=zJ6 (t.getD i aB.zero).aA (getH (t.getD i aB.zero).aP p) a.aM/\∀w∈q.aT,w.aK=p->w.aZ=pr))):=by
  have hm:=zd5 (z:=aB.zero) hi;have hq:=ht.each _ hm;obtain⟨hfull,hplace⟩:=zcQ2 ht hps h8 hp;have e0:(zA2 (t.getD i aB.zero) p a.aM pr).2.2=0:=by
    unfold zA2;rw[bV (by rw[hq];decide),bV (by rw[ho];decide),bV (by rw[hf];decide),bV (by rw[hw];decide)]
    by_cases c1:covA (t.getD i aB.zero).aA (getH (t.getD i aB.zero).aP p) a.aM=true
    .rw[bX c1]
    rw[bV c1]
    by_cases c2:getH (t.getD i aB.zero).aP p≠aC.zero
    .rw[bX c2];rfl
    rw[bV c2,bV (by have:=hplace _ hm (jU.1 c2) hw;omega)];rfl
  have hft:=zaE3 ht.asc hi;rw[hn]at hft;have e:zbg2 t p a pr=(t.set i (zA2 (t.getD i aB.zero) p a.aM pr).1,[]++zat3 a.name (zA2 (t.getD i aB.zero) p a.aM pr).2.1,0):=by unfold zbg2 atT putT;rw[bV (by rw[(zR3 t).2 ht];decide),hft,bV (by omega)];simp only[Int.toNat_natCast,hfull,bT,e0,cC,cB];rw[zbd1]
  have hv:ValidT (t.set i (zA2 (t.getD i aB.zero) p a.aM pr).1):=by obtain⟨_,_,_,_,_,_,_,hv⟩:=zdf0 (t:=t) (p:=p) (a:=a) (pr:=pr) (by rw[e]);rwa [e]at hv
  have hs:=zat4 hq (.claim p a.aM pr e0);refine⟨_,_,e,?_,zcd9 ht hi hv hs.2 (λ x hx=>(zcn5 e0 hx).1) λ x hx=>(zcn5 e0 hx).2,zcP7 e0⟩;have:=(zbC7 (t.getD i aB.zero) p a.aM pr).2.2.2;rw[List.nil_append,zaM0];omega
end Ab
end Go.Proofs.YtenebhlnfjcffaaGreatDoor
