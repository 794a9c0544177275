import Derived.Test.YtfmnjkfhahfhgaaGreatDoorTabB
import Derived.Test.YtfmnjkfhahfhgaaGreatDoorLinB
import Derived.Laws.Bits64
import Derived.Laws.BitsLemmas
import Derived.KernelRfl
namespace Go.Proofs.YtfmnjkfhahfhgaaGreatDoor
namespace Ab
set_option linter.defProp false
set_option linter.unusedVariables false
set_option linter.unusedSimpArgs false
mutual
def mU:aR->Int
 |⟨_,_,ks⟩=>1+mX ks
def mX:List aR->Int
 |[]=>0
 |k::l=>max (mU k) (mX l)
end
mutual
def mJ:aR->Int
 |⟨_,_,ks⟩=>1+nL ks
def nL:List aR->Int
 |[]=>0
 |k::l=>mJ k+nL l
end
def oM(a:aC):Bool:=pH a
mutual
def okE:aR->Bool
 |⟨k,a,ks⟩=>if ks.length=0 then decide (k=0)&&nY a.name&&oM a.aJ else decide (1<=k)&&decide (k<=(ks.length:Int))&&decide (a=aO.zero)&&okL ks
def okL:List aR->Bool
 |[]=>true
 |k::l=>okE k&&okL l
end
mutual
def xK:aR->List aO
 |⟨_,a,ks⟩=>if ks.length=0 then[a]else uS ks
def uS:List aR->List aO
 |[]=>[]
 |k::l=>xK k++uS l
end
def NX(e:aR):mU e=1+mX e.bG:=by cases e;rw[mU]
def uT(e:aR):mJ e=1+nL e.bG:=by cases e;rw[mJ]
def Ku(e:aR):okE e=if e.bG.length=0 then decide (e.k=0)&&nY e.bA.name&&oM e.bA.aJ else decide (1<=e.k)&&decide (e.k<=(e.bG.length:Int))&&decide (e.bA=aO.zero)&&okL e.bG:=by cases e;rw[okE]
def G7(e:aR):xK e=if e.bG.length=0 then[e.bA]else uS e.bG:=by cases e;rw[xK]
def UK:mX []=0:=by rw[mX]
def Kv(k:aR)(l:List aR):mX (k::l)=max (mU k) (mX l):=by rw[mX]
def NY:nL []=0:=by rw[nL]
def BE(k:aR)(l:List aR):nL (k::l)=mJ k+nL l:=by rw[nL]
def zX{e k:aR}{n:Nat}(h:_root_.SizeOf.sizeOf e<n+1)(H:k∈e.bG):_root_.SizeOf.sizeOf k<n:=by have O:=jL H;cases e;simp at h O;omega
def Kw:∀(n:Nat) (e:aR),_root_.SizeOf.sizeOf e<n->1<=mU e/\1<=mJ e/\mU e<=mJ e/\((xK e).length:Int)<=mJ e
 |0,_,h=>om
 |n+1,e,h=>by
  have H:∀l:List aR,(∀k∈l,k∈e.bG)->0<=mX l/\0<=nL l/\mX l<=nL l/\(l.length:Int)<=nL l/\((uS l).length:Int)<=nL l:=by
   intro l;induction l with
   |nil=>intro _;simp[mX,nL,uS]
   |cons k l O=>intro K;obtain⟨U,Y,B,F,M⟩:=O λ x L=>K x (.tail _ L);obtain⟨V,Z,g3,g4⟩:=Kw n k (zX h (K k (.head _)));simp only[mX,nL,uS,cC,ym];refine⟨?_,?_,?_,?_,?_⟩<;>omega
  obtain⟨U,Y,B,F,M⟩:=H e.bG λ _ h=>h;rw[NX,uT,G7];refine⟨by omega,by omega,by omega,?_⟩;split
  .simp;omega
  .omega
def BF(e:aR):1<=mU e:=(Kw _ e (eN _)).1
def xL(e:aR):1<=mJ e:=(Kw _ e (eN _)).2.1
def UL(e:aR):((xK e).length:Int)<=mJ e:=(Kw _ e (eN _)).2.2.2
def G8:∀l:List aR,0<=mX l
 |[]=>by simp[mX]
 |k::l=>by have:=G8 l;have:=BF k;rw[Kv];omega
def sU:∀l:List aR,(l.length:Int)<=nL l
 |[]=>by simp[nL]
 |k::l=>by have:=sU l;have:=xL k;simp only[nL,ym];omega
def UM{a:Int}(Y:1<=a)(B:a<=4)(F:aR->Int->Option (Int×Int)):∀(l:List aR),(∀k∈l,∀c,0<=c->c<=24->∃O,F k c=some (if a+1+mU k<=5/\c+mJ k<=24 then(mU k,c+mJ k)else(0,O)))->
  ∀(i:Nat) (m c:Int),0<=m->0<=c->c<=24->∃O,walk (λ _ k (s:Int×Int)=>(F k s.2).bind λ v=>if v.1=0 then some (.inr (Sum.inr (0,v.2)))else some (.inl (if s.1<v.1 then v.1 else s.1,v.2))) (λ s=>Sum.inl (β:=Int×Int) s) l i (m,c)=
   some (if a+1+mX l<=5/\c+nL l<=24 then .inl (if m<mX l then mX l else m,c+nL l)else .inr (0,O))
 |[],_,i,m,c,hm,L,K=>⟨0,by rw[UK,NY,cA om];simp only[walk];rw[bZ om,iM]⟩
 |k::l,V,i,m,c,hm,L,K=>by
  obtain⟨M,H⟩:=V k (.head _) c L K;have p1:=BF k;have p2:=xL k;have p3:=G8 l;have p4:=sU l
  by_cases U:a+1+mU k<=5/\c+mJ k<=24
  .rw[cA U]at H;obtain⟨c2,e2⟩:=UM Y B F l (λ x hx=>V x (.tail _ hx)) (i+1) (if m<mU k then mU k else m) (c+mJ k) (by split<;>omega) om U.2;refine⟨c2,?_⟩;rw[Kv,BE];simp only[walk,H,qm,bZ (show¬mU k=0 by omega),e2]
   by_cases Z:a+1+mX l<=5/\c+mJ k+nL l<=24
   .rw[cA Z,cA (show a+1+max (mU k) (mX l)<=5/\c+(mJ k+nL l)<=24 by omega),show c+(mJ k+nL l)=c+mJ k+nL l by omega];refine eA some (eA Sum.inl (Prod.ext ?_ rfl));show(if(if m<mU k then mU k else m)<mX l then mX l else if m<mU k then mU k else m)=if m<max (mU k) (mX l)then max (mU k) (mX l)else m
    by_cases q1:m<mU k<;>by_cases q2:m<mX l<;>by_cases q3:mU k<mX l<;>simp only[q1,q2,q3,cG,cH]<;>(repeat' split)<;>omega
   .rw[bZ Z,bZ om]
  .rw[bZ U]at H;refine⟨M,?_⟩;rw[Kv,BE];simp only[walk,H,qm,cG];rw[bZ om]
def UN:∀(n:Nat) (e:aR),_root_.SizeOf.sizeOf e<n->∀a c,1<=a->a<=5->0<=c->c<=24->∃H,yH n e a c=some (if a+mU e<=5/\c+mJ e<=24 then(mU e,c+mJ e)else(0,H))
 |0,_,h,_,_,_,_,_,_=>om
 |n+1,e,h,a,c,h1,h5,M,O=>by
  show∃H,Cw (yH n) e a c=_;unfold Cw;have p1:=BF e;have p2:=xL e;have w1:IntKind.i64.wrap (c+1)=c+1:=mB om om;have w2:IntKind.i64.wrap (a+1)=a+1:=mB om om;rw[w1]
  by_cases L:4<a\/24<c+1
  .rw[cA (by simpa using L)];exact⟨c+1,by rw[bZ om]⟩
  .rw[bZ (by simpa using L)];have V:∀k∈e.bG,∀c,0<=c->c<=24->∃H,yH n k (a+1) c=some (if a+1+mU k<=5/\c+mJ k<=24 then(mU k,c+mJ k)else(0,H)):=
    λ k B c M O=>UN n k (zX h B) (a+1) c om om M O
   have F:=qS (body:=Fk (yH n) e a) e.bG aR.zero (λ i (s:Int×Int)=>(s.1,(i:Int),s.2))
    (λ _ k (s:Int×Int)=>(yH n k (a+1) s.2).bind λ v=>if v.1=0 then some (.inr (Sum.inr (0,v.2)))else some (.inl (if s.1<v.1 then v.1 else s.1,v.2))) (λ s=>Sum.inl (β:=Int×Int) s)
    (λ i s=>(i:Int)<s.2/\s.2<=24) (λ i s Z hs=>by
     have B:=mN (z:=aR.zero) Z;obtain⟨H,Y⟩:=V _ B s.2 om hs.2;have p2:=xL (e.bG.getD i aR.zero);have p3:=BF (e.bG.getD i aR.zero);refine⟨?_,λ s' K=>?_⟩
     .unfold Fk;simp only;rw[cA (by simpa using Z),gdp om,w2];simp only[Qm,Y,qm,cD,lY i (show i<4611686018427387904 by omega)]
      by_cases U:a+1+mU (e.bG.getD i aR.zero)<=5/\s.2+mJ (e.bG.getD i aR.zero)<=24
      .simp only[U,cW,cG,bZ (show¬mU (e.bG.getD i aR.zero)=0 by omega)];rfl
      .simp only[U,cH,cG];rfl
     .rw[Y,eF]at K
      by_cases U:a+1+mU (e.bG.getD i aR.zero)<=5/\s.2+mJ (e.bG.getD i aR.zero)<=24
      .simp only[U,cW,cG,bZ (show¬mU (e.bG.getD i aR.zero)=0 by omega),dD,fI]at K;subst K;simp only;omega
      .simp only[U,cH,cG,dD,reduceCtorEq]at K)
    (λ s hs=>by unfold Fk;simp) (0,c+1) (by simp only;omega)
   rw[show((0,0,c+1):Int×Int×Int)=(λ(i:Nat) (s:Int×Int)=>(s.1,(i:Int),s.2)) 0 (0,c+1)from rfl,F];obtain⟨H,Y⟩:=UM h1 om (λ k c=>yH n k (a+1) c) e.bG V 0 0 (c+1) Om om om;refine⟨H,?_⟩;rw[Y,eF,NX e,uT e];have p3:=G8 e.bG
   by_cases hh:a+1+mX e.bG<=5/\c+1+nL e.bG<=24
   .rw[cA hh,cA (show a+(1+mX e.bG)<=5/\c+(1+nL e.bG)<=24 by omega)];have:(if 0<mX e.bG then mX e.bG else 0)=mX e.bG:=by split<;>omega
    rw[this];show some (IntKind.i64.wrap (mX e.bG+1),c+1+nL e.bG)=_;rw[mB om om,show mX e.bG+1=1+mX e.bG by omega,show c+1+nL e.bG=c+(1+nL e.bG)by omega]
   .rw[bZ hh,bZ om]
def fitE(e:aR):Bool:=decide (mU e<=4)&&decide (mJ e<=24)
def cFj(e:aR):CG e=some (if fitE e=true then mU e else 0):=by
 unfold CG Io;obtain⟨H,h⟩:=UN _ e (eN _) 1 0 Om Om Om Om;rw[h,eF];unfold fitE
 by_cases c:1+mU e<=5/\0+mJ e<=24
 .rw[cA c,cA (by simp;omega)]
 .rw[bZ c,bZ (by simp;omega)]
def UO{a:Int}(U:1<=a)(Y:a<=4)(F:aR->Option (Int×Int)):∀(l:List aR),(∀k∈l,F k=some (if a+1+mU k<=5/\mJ k<=24 then(mJ k,mU k)else(25,0)))->
  ∀(i:Nat) (c m:Int),0<=m->1<=c->c<=24->walk (λ _ k (s:Int×Int)=>(F k).bind λ v=>if 24<s.1+v.1 then some (.inr (Sum.inr (25,0)))else some (.inl (s.1+v.1,if s.2<v.2 then v.2 else s.2))) (λ s=>Sum.inl (β:=Int×Int) s) l i (c,m)=
   some (if a+1+mX l<=5/\c+nL l<=24 then .inl (c+nL l,if m<mX l then mX l else m)else .inr (25,0))
 |[],_,i,c,m,hm,Z,K=>by rw[UK,NY,cA om];simp only[walk];rw[bZ om,iM]
 |k::l,L,i,c,m,hm,Z,K=>by
  have H:=L k (.head _);have p1:=BF k;have p2:=xL k;have p3:=G8 l;have p4:=sU l;rw[Kv,BE]
  by_cases B:a+1+mU k<=5/\c+mJ k<=24
  .rw[cA om]at H;have M:=UO U Y F l (λ x hx=>L x (.tail _ hx)) (i+1) (c+mJ k) (if m<mU k then mU k else m) (by split<;>omega) om B.2;simp only[walk,H,qm,bZ (show¬24<c+mJ k by omega),M]
   by_cases V:a+1+mX l<=5/\c+mJ k+nL l<=24
   .rw[cA V,cA (show a+1+max (mU k) (mX l)<=5/\c+(mJ k+nL l)<=24 by omega),show c+(mJ k+nL l)=c+mJ k+nL l by omega];refine eA some (eA Sum.inl (Prod.ext rfl ?_));show(if(if m<mU k then mU k else m)<mX l then mX l else if m<mU k then mU k else m)=if m<max (mU k) (mX l)then max (mU k) (mX l)else m
    by_cases q1:m<mU k<;>by_cases q2:m<mX l<;>by_cases q3:mU k<mX l<;>simp only[q1,q2,q3,cG,cH]<;>(repeat' split)<;>omega
   .rw[bZ V,bZ om]
  .rw[bZ om];simp only[walk,H,qm]
   by_cases O:a+1+mU k<=5/\mJ k<=24
   .rw[cA O,cA (by simp only;omega)]
   .rw[bZ O,cA (by simp only;omega)]
def UP:∀(n:Nat) (e:aR),_root_.SizeOf.sizeOf e<n->∀a,1<=a->a<=5->yM n e a=some (if a+mU e<=5/\mJ e<=24 then(mJ e,mU e)else(25,0))
 |0,_,h,_,_,_=>om
 |n+1,e,h,a,V,h5=>by
  show CE (yM n) e a=_;unfold CE;have p1:=BF e;have p4:=sU e.bG;have Z:IntKind.i64.wrap (a+1)=a+1:=mB om om
  by_cases Y:4<a\/24<(e.bG.length:Int)
  .rw[cA (by simpa using Y),bZ (by rw[uT];omega)]
  .rw[bZ (by simpa using Y)];have B:∀k∈e.bG,yM n k (a+1)=some (if a+1+mU k<=5/\mJ k<=24 then(mJ k,mU k)else(25,0)):=
    λ k O=>UP n k (zX h O) (a+1) om om
   have U:=qS (body:=CD (yM n) e a) e.bG aR.zero (λ i (s:Int×Int)=>(s.1,s.2,(i:Int)))
    (λ _ k (s:Int×Int)=>(yM n k (a+1)).bind λ v=>if 24<s.1+v.1 then some (.inr (Sum.inr (25,0)))else some (.inl (s.1+v.1,if s.2<v.2 then v.2 else s.2))) (λ s=>Sum.inl (β:=Int×Int) s)
    (λ i s=>1<=s.1/\s.1<=24) (λ i s L hs=>by
     have O:=mN (z:=aR.zero) L;have F:=B _ O;have p2:=xL (e.bG.getD i aR.zero);refine⟨?_,λ s' K=>?_⟩
     .unfold CD;simp only;rw[cA (by simpa using L),gdp om,Z];simp only[Qm,F,qm,cD];unfold Iz
      by_cases H:a+1+mU (e.bG.getD i aR.zero)<=5/\mJ (e.bG.getD i aR.zero)<=24
      .rw[cA H];simp only[lY i (show i<4611686018427387904 by omega),mB (x:=s.1+mJ (e.bG.getD i aR.zero)) om om,cD]
       repeat' split
       all_goals first|rfl|omega
      .rw[bZ H];simp only[mB (x:=s.1+25) om om,cD,cA (show 24<s.1+25 by omega),kO];rfl
     .rw[F,eF]at K
      by_cases H:a+1+mU (e.bG.getD i aR.zero)<=5/\mJ (e.bG.getD i aR.zero)<=24
      .simp only[H,cW,cG]at K;split at K
       .cases K
       .simp only[dD,fI]at K;subst K;simp only;omega
      .simp only[H,cH,cA (show 24<s.1+25 by omega),dD,reduceCtorEq]at K)
    (λ s hs=>by unfold CD;simp) (1,0) (by simp only;omega)
   rw[show((1,0,0):Int×Int×Int)=(λ(i:Nat) (s:Int×Int)=>(s.1,s.2,(i:Int))) 0 (1,0)from rfl,U];rw[UO V om (λ k=>yM n k (a+1)) e.bG B 0 1 0 om om om,eF,NX e,uT e];have p3:=G8 e.bG
   by_cases M:a+1+mX e.bG<=5/\1+nL e.bG<=24
   .rw[cA M,cA (show a+(1+mX e.bG)<=5/\1+nL e.bG<=24 by omega)];have:(if 0<mX e.bG then mX e.bG else 0)=mX e.bG:=by split<;>omega
    rw[this];show some (1+nL e.bG,IntKind.i64.wrap (mX e.bG+1))=_;rw[mB om om,show mX e.bG+1=1+mX e.bG by omega]
   .rw[bZ M,bZ om]
def cFm(e:aR):CK e=some (if fitE e=true then mJ e else 0):=by
 unfold CK IA;have p:=xL e;rw[UP _ e (eN _) 1 Om Om,eF];unfold fitE
 by_cases c:1+mU e<=5/\mJ e<=24
 .rw[cA c];simp only[show¬24<mJ e by omega,show mU e<=4 by omega,c.2,cF,cO,gK,bY,cG,cH]
 .rw[bZ c];have:(decide (mU e<=4)&&decide (mJ e<=24))=false:=by rw[dG];simp;omega
  rw[this];rfl
def sG(a:aO):List aO->Option Bool
 |[]=>none
 |x::l=>if a=x then some true else if(a.name.toList==x.name.toList)=true then some false else sG a l
def zY(a:aO)(l:List aO):Int×List aO:=
 match sG a l with
 |some true=>(0,l)
 |some false=>(13,l)
 |none=>if l.length=8 then(4,l)else(0,l++[a])
def BG(a:aO)(l:List aO):Option (List aO):=if(zY a l).1=0 then some (zY a l).2 else none
def sH:List aO->List aO->Option (List aO)
 |[],l=>some l
 |a::az,l=>(BG a l).bind (sH az)
def UQ:∀(x y l:List aO),sH (x++y) l=(sH x l).bind (sH y)
 |[],y,l=>rfl
 |a::x,y,l=>by
  simp only[Jm,sH];cases BG a l with
  |none=>rfl
  |some H=>exact UQ x y H
def cFs{a:aO}{l:List aO}(h:l.length<=8):(zY a l).2.length<=8:=by
 unfold zY;split
 .exact h
 .exact h
 .split
  .exact h
  .simp;omega
def NZ:∀{x l r:List aO},l.length<=8->sH x l=some r->r.length<=8
 |[],l,r,h,e=>by cases e;exact h
 |a::x,l,r,h,e=>by
  simp only[sH]at e;unfold BG at e;split at e
  .exact NZ (cFs h) e
  .cases e
def cFu(a:aO)(l:List aO)(h:l.length<=8):Aj a l=some (zY a l):=by
 unfold Aj;have L:∀(t:List aO) (i:Nat),walk (λ _ x (_:Unit)=>if a=x then some (.inr (Sum.inr ((0:Int),l)))else if(a.name.toList==x.name.toList)=true then some (.inr (Sum.inr ((13:Int),l)))else some (.inl ())) (λ _=>Sum.inl (β:=Int×List aO) ()) t i ()=
   some (match sG a t with|some true=>.inr (0,l)|some false=>.inr (13,l)|none=>.inl ()):=by
  intro t;induction t with
  |nil=>intro i;rfl
  |cons x t O=>
   intro i;simp only[walk,sG]
   by_cases c:a=x
   .simp only[c,cG]
   .by_cases K:(a.name.toList==x.name.toList)=true
    .simp only[c,K,cG,cH]
    .simp only[c,K,cH];exact O (i+1)
 have H:=vM (body:=E9 a l) l aO.zero (λ i (_:Unit)=>(i:Int))
  (λ _ x (_:Unit)=>if a=x then some (.inr (Sum.inr ((0:Int),l)))else if(a.name.toList==x.name.toList)=true then some (.inr (Sum.inr ((13:Int),l)))else some (.inl ())) (λ _=>Sum.inl (β:=Int×List aO) ())
  (λ i s U=>by
   unfold E9;rw[cA (by simpa using U),gdp om,lY i om];simp only[Qm,cD]
   repeat' split
   all_goals rfl)
  (λ s=>by unfold E9;simp) ()
 rw[show(0:Int)=(λ(i:Nat) (_:Unit)=>(i:Int)) 0 ()from rfl,H,L,eF];unfold zY;cases sG a l with
 |none=>
  simp only;unfold L2
  by_cases c:l.length=8
  .rw[cA (by simp[c]),cA c]
  .rw[bZ (by simp;omega),bZ c,gdp om]
 |some b=>cases b<;>rfl
def pR(e:aR)(l:List aO):Option (List aO):=if okE e=true then sH (xK e) l else none
def x6(H:List aR)(l:List aO):Option (List aO):=if okL H=true then sH (uS H) l else none
def cFx(k:aR)(H:List aR)(l:List aO):x6 (k::H) l=(pR k l).bind (x6 H):=by
 unfold x6 pR;simp only[okL,uS,UQ];cases okE k
 .simp
 .simp only[cL,cG];cases sH (xK k) l with
  |none=>simp
  |some r=>simp only[qm]
def cFy(a:aO):AO a=some (nY a.name&&oM a.aJ):=by unfold AO;rw[GR,eF];congr 2
def UR(F:aR->List aO->Option (Bool×List aO)):∀(O:List aR),(∀k∈O,∀l,l.length<=8->∃r,F k l=some (match pR k l with|some H=>(true,H)|none=>(false,r)))->
  ∀(i:Nat) (l:List aO),l.length<=8->∃r,walk (λ _ k (s:List aO)=>(F k s).bind λ v=>if(!v.1)=true then some (.inr (Sum.inr (false,v.2)))else some (.inl v.2)) (λ s=>Sum.inl (β:=Bool×List aO) s) O i l=
   some (match x6 O l with|some H=>.inl H|none=>.inr (false,r))
 |[],_,i,l,L=>⟨[],by simp[walk,x6,okL,uS,sH]⟩
 |k::O,Z,i,l,L=>by
  obtain⟨r,e⟩:=Z k (.head _) l L;rw[cFx];cases K:pR k l with
  |none=>rw[K]at e;refine⟨r,?_⟩;simp only[walk,e,qm,Option.bind_none,dK,cG]
  |some H=>
   rw[K]at e;have V:H.length<=8:=by
    unfold pR at K;split at K
    .exact NZ L K
    .cases K
   obtain⟨U,Y⟩:=UR F O (λ x hx=>Z x (.tail _ hx)) (i+1) H V;refine⟨U,?_⟩;simp only[walk,e,qm,cR,bY,cH,Y]
def cG0{e:aR}{l O:List aO}(K:l.length<=8)(H:pR e l=some O):O.length<=8:=by
 unfold pR at H;split at H
 .exact NZ K H
 .cases H
def US:∀(n:Nat) (e:aR),_root_.SizeOf.sizeOf e<n->mJ e<=24->∀l,l.length<=8->∃r,wW n e l=some (match pR e l with|some U=>(true,U)|none=>(false,r))
 |0,_,h,_,_,_=>om
 |n+1,e,h,hn,l,L=>by
  show∃r,FY (wW n) e l=_;unfold FY;have p4:=sU e.bG;have h0:=uT e
  by_cases c:e.bG.length=0
  .rw[cA (by simpa using c),cFy];have B:pR e l=if e.k=0/\nY e.bA.name=true/\oM e.bA.aJ=true then BG e.bA l else none:=by
    unfold pR;rw[Ku,G7,cA c,cA c];simp only[sH,bX,cD,fQ];split
    .cases BG e.bA l<;>rfl
    .rfl
   rw[B]
   by_cases H:e.k=0
   .simp only[H,cF,cG,qm,cL,gC]
    by_cases V:nY e.bA.name=true/\oM e.bA.aJ=true
    .simp only[V.1,V.2,gK,cW,cG,cFu e.bA l L,qm,cL];refine⟨(zY e.bA l).2,?_⟩;unfold BG
     by_cases c3:(zY e.bA l).1=0
     .simp only[c3,cF,cG]
     .simp only[c3,cO,cH]
    .have:(nY e.bA.name&&oM e.bA.aJ)=false:=by rw[dG];simpa using V
     simp only[this,V,bY,cH,eQ];exact⟨l,rfl⟩
   .simp only[H,cO,bY,cH,qm,eQ,iO];exact⟨l,rfl⟩
  .rw[bZ (by simpa using c)];have B:pR e l=if 1<=e.k/\e.k<=(e.bG.length:Int)/\e.bA=aO.zero then x6 e.bG l else none:=by
    unfold pR x6;rw[Ku,G7,bZ c,bZ c]
    by_cases q1:1<=e.k<;>by_cases q2:e.k<=(e.bG.length:Int)<;>by_cases q3:e.bA=aO.zero<;>simp[q1,q2,q3]
   rw[B]
   by_cases H:1<=e.k/\e.k<=(e.bG.length:Int)/\e.bA=aO.zero
   .rw[cA H,bZ (by simp[H.2.2];omega)];have hF:∀k∈e.bG,∀l,l.length<=8->∃r,wW n k l=some (match pR k l with|some U=>(true,U)|none=>(false,r)):=by
     intro k hk l L;refine US n k (zX h hk) ?_ l L;have:∀(O:List aR),k∈O->mJ k<=nL O:=by
      intro O;induction O with
      |nil=>intro h;cases h
      |cons x O ih=>
       intro h;rw[BE];have p1:=xL x;have p2:=sU O;rcases cK.1 h with rfl|h
       .omega
       .have:=ih h;omega
     have:=this e.bG hk;omega
    have F:=qS (body:=FX (wW n) e) e.bG aR.zero (λ i (s:List aO)=>((i:Int),s))
     (λ _ k (s:List aO)=>(wW n k s).bind λ v=>if(!v.1)=true then some (.inr (Sum.inr (false,v.2)))else some (.inl v.2)) (λ s=>Sum.inl (β:=Bool×List aO) s)
     (λ i s=>s.length<=8) (λ i s hi M=>by
      obtain⟨r,Y⟩:=hF _ (mN (z:=aR.zero) hi) s M;refine⟨?_,λ s' K=>?_⟩
      .unfold FX;simp only;rw[cA (by simpa using hi),gdp om];simp only[Qm,Y,qm,lY i (show i<4611686018427387904 by omega)];cases pR (e.bG.getD i aR.zero) s<;>rfl
      .rw[Y,eF]at K;cases Z:pR (e.bG.getD i aR.zero) s with
       |none=>rw[Z]at K;simp at K
       |some U=>
        rw[Z]at K;simp only[cR,bY,cH,dD,fI]at K;subst K;exact cG0 M Z)
     (λ s M=>by unfold FX;simp) l L
    rw[show((0,l):Int×List aO)=(λ(i:Nat) (s:List aO)=>((i:Int),s)) 0 l from rfl,F];obtain⟨r,Y⟩:=UR (wW n) e.bG hF 0 l L;rw[Y,eF];refine⟨r,?_⟩;cases x6 e.bG l<;>rfl
   .rw[bZ H,cA (by
     simp only[dV,cD,dA,dL]
     by_cases q:e.bA=aO.zero
     .left;have:=mt (λ h:1<=e.k/\e.k<=(e.bG.length:Int)=>(⟨h.1,h.2,q⟩:1<=e.k/\e.k<=(e.bG.length:Int)/\e.bA=aO.zero)) H;omega
     .exact .inr q)]
    exact⟨l,rfl⟩
def cG2(e:aR):p7 e=some (fitE e&&(pR e []).isSome):=by
 unfold p7;rw[cFj,eF];have p:=BF e;cases K:fitE e with
 |false=>rfl
 |true=>
  simp only[cG,show¬mU e=0 by omega,cO,dK,cL];unfold Jj;have H:mJ e<=24:=by unfold fitE at K;simp at K;omega
  obtain⟨r,O⟩:=US _ e (eN _) H [] (by simp);rw[O,eF];cases pR e []<;>rfl
def addA(a:aO)(l:List aO):List aO:=if a∈l then l else l++[a]
def addS:List aO->List aO->List aO
 |[],l=>l
 |a::az,l=>addS az (addA a l)
def UT:∀(x y l:List aO),addS (x++y) l=addS y (addS x l)
 |[],_,_=>rfl
 |a::x,y,l=>UT x y (addA a l)
def cG4(a:aO)(l:List aO):∃t,addA a l=l++t:=by
 unfold addA;split
 .exact⟨[],by simp⟩
 .exact⟨[a],rfl⟩
def N0:∀(x l:List aO),∃t,addS x l=l++t
 |[],l=>⟨[],by simp[addS]⟩
 |a::x,l=>by obtain⟨H,O⟩:=cG4 a l;obtain⟨U,Y⟩:=N0 x (addA a l);exact⟨H++U,by rw[addS,Y,O,cJ]⟩
def N1:∀(x l:List aO),(addS x l).length<=l.length+x.length
 |[],l=>by simp[addS]
 |a::x,l=>by
  have H:=N1 x (addA a l);have O:(addA a l).length<=l.length+1:=by unfold addA;split<;>simp
  simp only[addS,ym];omega
def dnN(l:List aO):Prop:=l.Pairwise λ x y=>(x.name.toList==y.name.toList)=false
def UU{a:aO}:∀{l:List aO},dnN l->a∈l->sG a l=some true
 |x::l,h,hm=>by
  unfold dnN at h;rw[dB]at h;unfold sG
  by_cases c:a=x
  .rw[cA c]
  .rw[bZ c];rcases cK.1 hm with e|hm
   .exact absurd e c
   .have:=h.1 a hm;rw[bZ (by rw[dI];intro e;rw[e]at this;simp at this)];exact UU h.2 hm
def N2{a:aO}:∀{l:List aO},sG a l=none->∀x∈l,(x.name.toList==a.name.toList)=false
 |y::l,h,x,hx=>by
  unfold sG at h;split at h
  .cases h
  .split at h
   .cases h
   .rename_i O H;rcases cK.1 hx with rfl|hx
    .rw[dG];intro e;rw[dI]at e;exact H (by rw[dI];exact e.symm)
    .exact N2 h x hx
def UV{a:aO}:∀{l:List aO},dnN l->sG a l=some false->a∉l/\∃x∈l,(x.name.toList==a.name.toList)=true
 |y::l,K,h=>by
  refine⟨λ hm=>?_,?_⟩
  .rw[UU K hm]at h;cases h
  .unfold sG at h;split at h
   .cases h
   .split at h
    .rename_i H;exact⟨y,.head _,by rw[dI]at H⊢;exact H.symm⟩
    .unfold dnN at K;rw[dB]at K;obtain⟨_,x,L,e⟩:=UV K.2 h;exact⟨x,.tail _ L,e⟩
def cGa{a:aO}{l:List aO}(h:sG a l=none):a∉l:=λ hm=>by have:=N2 h a hm;simp at this
def cGb{l t:List aO}(h:dnN (l++t)):dnN l:=(fP.1 h).1
def N3:∀(x l:List aO),l.length<=8->dnN l->((sH x l).isSome=true↔(addS x l).length<=8/\dnN (addS x l))
 |[],l,V,K=>by simp[sH,addS,V,K]
 |a::x,l,V,K=>by
  simp only[sH,addS];unfold BG zY;cases L:sG a l with
  |some b=>
   cases b with
   |true=>
    have hm:a∈l:=by
     refine Classical.byContradiction λ hm=>?_;have:∀l:List aO,a∉l->sG a l≠some true:=by
      intro l;induction l with
      |nil=>intro _ h;cases h
      |cons y l Y=>
       intro hm h;unfold sG at h;rw[bZ (λ(e:a=y)=>hm (by rw[e];exact .head _))]at h;split at h
       .cases h
       .exact Y (λ h=>hm (.tail _ h)) h
     exact this l hm L
    simp only[cG,qm];unfold addA;rw[cA hm];exact N3 x l V K
   |false=>obtain⟨hm,y,Z,e⟩:=UV K L;simp only[show¬(13:Int)=0 by decide,cH,Option.bind_none,oc,bY,false_iff];rintro⟨_,H⟩;unfold addA at H;rw[bZ hm]at H;obtain⟨t,ht⟩:=N0 x (l++[a]);rw[ht]at H;have O:=(fP.1 (cGb H)).2.2 y Z a (dO.2 rfl);rw[e]at O;cases O
  |none=>
   have hm:=cGa L;have ha:addA a l=l++[a]:=by unfold addA;rw[bZ hm]
   rw[ha]
   by_cases c:l.length=8
   .simp only[c,cG,show¬(4:Int)=0 by decide,cH,Option.bind_none,oc,bY,false_iff];rintro⟨U,_⟩;obtain⟨t,ht⟩:=N0 x (l++[a]);rw[ht]at U;simp at U;omega
   .simp only[c,cH,cG,qm];refine N3 x (l++[a]) (by simp;omega) ?_;unfold dnN;rw[fP];exact⟨K,List.pairwise_singleton _ _,λ y Z z B=>by rw[dO.1 B];exact N2 L y Z⟩
def addO(e:aR)(l:List aO):Option (List aO):=if okE e=true then some (addS (xK e) l)else none
def addL(H:List aR)(l:List aO):Option (List aO):=if okL H=true then some (addS (uS H) l)else none
def cGd(k:aR)(H:List aR)(l:List aO):addL (k::H) l=(addO k l).bind (addL H):=by unfold addL addO;simp only[okL,uS,UT];cases okE k<;>simp
def bad1(r:Nat⊕(Bool×List aO)):Prop:=match r with|.inl _=>True|.inr v=>v.1=false
def got1(F:Option (Nat⊕(Bool×List aO)))(o:Option (List aO)):Prop:=match o with|some l=>F=some (.inr (true,l))|none=>∃r,F=some r/\bad1 r
def cGe(a:aO)(l:List aO){X:Type}(x:X){body:Int->Option (Int⊕(Unit⊕X))}(V:l.length<4611686018427387904)
  (hb:∀i:Nat,i<l.length->body (i:Int)=if l.getD i aO.zero=a then some (.inr (.inr x))else some (.inl ((i+1:Nat):Int))) (O:body (l.length:Int)=some (.inr (.inl ()))):
  lS body 0=some (if a∈l then .inr x else .inl ()):=by
 have K:∀(t:List aO) (i:Nat),walk (λ _ y (_:Unit)=>if y=a then some (.inr (Sum.inr x))else some (.inl ())) (λ _=>Sum.inl (β:=X) ()) t i ()=some (if a∈t then .inr x else .inl ()):=by
  intro t;induction t with
  |nil=>intro i;simp[walk]
  |cons y t U=>
   intro i;simp only[walk]
   by_cases c:y=a
   .rw[cA c];simp[c]
   .rw[bZ c];simp only[U (i+1),cK,show¬a=y fromλ e=>c e.symm,jG]
 have H:=vM (body:=body) l aO.zero (λ i (_:Unit)=>(i:Int)) (λ _ y (_:Unit)=>if y=a then some (.inr (Sum.inr x))else some (.inl ())) (λ _=>Sum.inl (β:=X) ())
  (λ i s L=>by rw[hb i L];split<;>rfl) (λ s=>O) ()
 rw[show(0:Int)=(λ(i:Nat) (_:Unit)=>(i:Int)) 0 ()from rfl,H,K]
def N4(F:aR->List aO->Option (Nat⊕(Bool×List aO))){Y:Type}{B:Nat}:∀(H:List aR),(∀k∈H,∀l,(l.length:Int)+mJ k<=B->got1 (F k l) (addO k l))->
  ∀(i:Nat) (l:List aO),(l.length:Int)+nL H<=B->(match addL H l with
   |some O=>walk (λ _ k (s:List aO)=>(F k s).bind λ v=>match v with|.inl v=>some (.inr (Sum.inr (Sum.inl s.length)))|.inr v=>if(!v.1)=true then some (.inr (Sum.inr (.inl s.length)))else some (.inl v.2)) (λ s=>Sum.inl (β:=Nat⊕Y) s) H i l=some (.inl O)
   |none=>∃r,walk (λ _ k (s:List aO)=>(F k s).bind λ v=>match v with|.inl v=>some (.inr (Sum.inr (Sum.inl s.length)))|.inr v=>if(!v.1)=true then some (.inr (Sum.inr (.inl s.length)))else some (.inl v.2)) (λ s=>Sum.inl (β:=Nat⊕Y) s) H i l=some (.inr (.inl r)))
 |[],_,i,l,L=>by simp[walk,addL,okL,uS,addS]
 |k::H,V,i,l,L=>by
  rw[BE]at L;have p1:=sU H;have e:=V k (.head _) l om;rw[cGd];cases K:addO k l with
  |none=>
   rw[K]at e;obtain⟨r,U,hb⟩:=e;simp only[Option.bind_none];refine⟨l.length,?_⟩;simp only[walk,U,qm];cases r with
   |inl r=>rfl
   |inr v=>have Z:v.1=false:=hb;simp only[Z,dK,cG]
  |some O=>
   rw[K]at e;have M:F k l=some (.inr (true,O)):=e;have hl':(O.length:Int)<=l.length+mJ k:=by
    unfold addO at K;split at K
    .cases K;have h1:=N1 (xK k) l;have h2:=UL k;omega
    .cases K
   have e2:=N4 (Y:=Y) F H (λ x hx=>V x (.tail _ hx)) (i+1) O om;simp only[walk,M,qm,cR,bY,cH];exact e2
def Kx{e k:aR}(O:k∈e.bG):mJ k+1<=mJ e:=by
 have:∀(H:List aR),k∈H->mJ k<=nL H:=by
  intro H;induction H with
  |nil=>intro h;cases h
  |cons x H U=>
   intro h;rw[BE];have Y:=xL x;have B:=sU H;rcases cK.1 h with rfl|h
   .omega
   .have:=U h;omega
 have:=this e.bG O;rw[uT e];omega
def Ky{e:aR}(c:e.bG.length=0):okE e=true↔e.k=0/\nY e.bA.name=true/\oM e.bA.aJ=true:=by rw[Ku,cA c];simp[fQ]
def Kz{e:aR}(c:¬e.bG.length=0):okE e=true↔(1<=e.k/\e.k<=(e.bG.length:Int)/\e.bA=aO.zero)/\okL e.bG=true:=by rw[Ku,bZ c];simp[fQ]
def UW{e:aR}(c:e.bG.length=0)(l:List aO):addO e l=if e.k=0/\nY e.bA.name=true/\oM e.bA.aJ=true then some (addA e.bA l)else none:=by unfold addO;rw[G7,cA c];simp only[Ky c];rfl
def UX{e:aR}(c:¬e.bG.length=0)(l:List aO):addO e l=if 1<=e.k/\e.k<=(e.bG.length:Int)/\e.bA=aO.zero then addL e.bG l else none:=by
 unfold addO addL;rw[G7,bZ c];simp only[Kz c]
 by_cases H:1<=e.k/\e.k<=(e.bG.length:Int)/\e.bA=aO.zero<;>simp only[H,gC,iO,cG,cH,cW]
def UY:∀(n:Nat) (e:aR),_root_.SizeOf.sizeOf e<n->∀l,(l.length:Int)+mJ e<=100->got1 (vJ n e l) (addO e l)
 |0,_,h,_,_=>om
 |n+1,e,h,l,V=>by
  show got1 (vI (vJ n) e l) _;unfold vI;have p4:=sU e.bG;have M:=uT e
  by_cases c:e.bG.length=0
  .rw[cA (by simpa using c),UW c]
   by_cases H:e.k=0
   .simp only[H,cF,cG,Eh,qm,cR,dP,gC]
    by_cases K:nY e.bA.name=true/\oM e.bA.aJ=true
    .rw[cA K,bZ (by have:=K.2;unfold oM at this;simp[K.1,this])];rw[cGe e.bA l (x:=Sum.inr (true,l)) om (λ i L=>by
      unfold Ja;rw[cA (by simpa using L),gdp om,lY i om];simp only[lA,cD]) (by unfold Ja;simp),eF]
     unfold addA got1
     by_cases F:e.bA∈l
     .simp only[F,cG]
     .simp only[F,cH];unfold Mw;rw[gdp om]
    .rw[bZ K,cA (by
      have:¬(nY e.bA.name=true/\pH e.bA.aJ=true):=K;simp only[dV,dA];cases h1:nY e.bA.name<;>cases h2:pH e.bA.aJ<;>simp_all)]
     exact⟨_,rfl,rfl⟩
   .simp only[H,cO,bY,cH,qm,dK,fT,cG,iO];exact⟨_,rfl,rfl⟩
  .rw[bZ (by simpa using c),UX c]
   by_cases H:1<=e.k/\e.k<=(e.bG.length:Int)/\e.bA=aO.zero
   .rw[cA H,bZ (by simp[H.2.2];omega)];have hF:∀k∈e.bG,∀l,(l.length:Int)+mJ k<=(100:Nat)->got1 (vJ n k l) (addO k l):=λ k hk l V=>UY n k (zX h hk) l V;have U:=qS (body:=FQ (vJ n) e) e.bG aR.zero (λ i (s:List aO)=>((i:Int),s))
     (λ _ k (s:List aO)=>(vJ n k s).bind λ v=>match v with|.inl v=>some (.inr (Sum.inr (Sum.inl s.length)))|.inr v=>if(!v.1)=true then some (.inr (Sum.inr (.inl s.length)))else some (.inl v.2)) (λ s=>Sum.inl (β:=Nat⊕(Bool×List aO)) s)
     (λ i s=>True) (λ i s L hs=>by
      refine⟨?_,λ s' hs'=>trivial⟩;unfold FQ;simp only;rw[cA (by simpa using L),gdp om];simp only[Qm,lY i (show i<4611686018427387904 by omega)];cases vJ n (e.bG.getD i aR.zero) s with
      |none=>rfl
      |some v=>
       cases v with
       |inl v=>rfl
       |inr v=>
        simp only[qm];split<;>rfl)
     (λ s hs=>by unfold FQ;simp) l trivial
    rw[show((0,l):Int×List aO)=(λ(i:Nat) (s:List aO)=>((i:Int),s)) 0 l from rfl,U];have O:=N4 (vJ n) (Y:=Bool×List aO) (B:=100) e.bG hF 0 l om;cases Z:addL e.bG l with
    |none=>rw[Z]at O;obtain⟨r,O⟩:=O;rw[O,eF];exact⟨_,rfl,trivial⟩
    |some l'=>rw[Z]at O;simp only at O;rw[O,eF];rfl
   .rw[bZ H,cA (by
     simp only[dV,cD,dA,dL]
     by_cases q:e.bA=aO.zero
     .left;have:=mt (λ h:1<=e.k/\e.k<=(e.bG.length:Int)=>(⟨h.1,h.2,q⟩:1<=e.k/\e.k<=(e.bG.length:Int)/\e.bA=aO.zero)) H;omega
     .exact .inr q)]
    exact⟨_,rfl,rfl⟩
def bad0(r:Nat⊕(List aO×Bool)):Prop:=match r with|.inl _=>True|.inr v=>v.2=false
def cGm(e:aR)(L:mJ e<=50):match addO e []with|some l=>AZ e=some (.inr (l,true))|none=>∃r,AZ e=some r/\bad0 r:=by
 unfold AZ;show match addO e []with|some l=>p6 _ e=some (.inr (l,true))|none=>∃r,p6 _ e=some r/\bad0 r
 unfold p6;have p4:=sU e.bG;have F:=uT e
 by_cases c:e.bG.length=0
 .rw[cA (by simpa using c),UW c]
  by_cases H:e.k=0
  .simp only[H,cF,cG,Eh,qm,cR,dP,gC]
   by_cases K:nY e.bA.name=true/\oM e.bA.aJ=true
   .rw[cA K,bZ (by have:=K.2;unfold oM at this;simp[K.1,this])];rw[mF];unfold Ji;rfl
   .rw[bZ K,cA (by
     have:¬(nY e.bA.name=true/\pH e.bA.aJ=true):=K;simp only[dV,dA];cases h1:nY e.bA.name<;>cases h2:pH e.bA.aJ<;>simp_all)]
    exact⟨_,rfl,rfl⟩
  .simp only[H,cO,bY,cH,qm,dK,fT,cG,iO];exact⟨_,rfl,rfl⟩
 .rw[bZ (by simpa using c),UX c]
  by_cases H:1<=e.k/\e.k<=(e.bG.length:Int)/\e.bA=aO.zero
  .rw[cA H,bZ (by simp[H.2.2];omega)];have M:∀k∈e.bG,∀l,(l.length:Int)+mJ k<=(100:Nat)->got1 (o8 k l) (addO k l):=λ k hk l L=>UY _ k (eN _) l L;have U:=qS (body:=De e) e.bG aR.zero (λ i (s:List aO)=>((i:Int),s))
    (λ _ k (s:List aO)=>(o8 k s).bind λ v=>match v with|.inl v=>some (.inr (Sum.inr (Sum.inl s.length)))|.inr v=>if(!v.1)=true then some (.inr (Sum.inr (.inl s.length)))else some (.inl v.2)) (λ s=>Sum.inl (β:=Nat⊕(List aO×Bool)) s)
    (λ i s=>True) (λ i s Z hs=>by
     refine⟨?_,λ s' hs'=>trivial⟩;unfold De;simp only;rw[cA (by simpa using Z),gdp om];simp only[Qm,lY i (show i<4611686018427387904 by omega)];cases o8 (e.bG.getD i aR.zero) s with
     |none=>rfl
     |some v=>
      cases v with
      |inl v=>rfl
      |inr v=>
       simp only[qm];split<;>rfl)
    (λ s hs=>by unfold De;simp) [] trivial
   rw[show((0,[]):Int×List aO)=(λ(i:Nat) (s:List aO)=>((i:Int),s)) 0 []from rfl,U];have O:=N4 (o8) (Y:=List aO×Bool) (B:=100) e.bG M 0 [] (by simp;omega);cases V:addL e.bG []with
   |none=>rw[V]at O;obtain⟨r,O⟩:=O;simp only;rw[O,eF];exact⟨_,rfl,trivial⟩
   |some l'=>rw[V]at O;simp only at O⊢;rw[O,eF];rfl
  .rw[bZ H,cA (by
    simp only[dV,cD,dA,dL]
    by_cases q:e.bA=aO.zero
    .left;have:=mt (λ h:1<=e.k/\e.k<=(e.bG.length:Int)=>(⟨h.1,h.2,q⟩:1<=e.k/\e.k<=(e.bG.length:Int)/\e.bA=aO.zero)) H;omega
    .exact .inr q)]
   exact⟨_,rfl,rfl⟩
def vE(e:aR):Bool:=fitE e&&(pR e []).isSome
def cGn(e:aR):(pR e []).isSome=true↔∃l,addO e []=some l/\l.length<=8/\dnN l:=by
 unfold pR addO
 by_cases c:okE e=true
 .rw[cA c,cA c,N3 _ [] (by simp) .nil];constructor
  .exactλ h=>⟨_,rfl,h⟩
  .rintro⟨l,e,h⟩;cases e;exact h
 .rw[bZ c,bZ c];simp
def cGo(v:List aO×Bool)(i:Nat)(hi:i<v.1.length)(V:v.1.length<=1000):
  lS (Dl v (i:Int)) 0=some (if(v.1.take i).any (λ x=>(v.1.getD i aO.zero).name.toList==x.name.toList)=true then .inr ([],false)else .inl ()):=by
 have L:∀(t:List aO) (j:Nat),walk (λ _ x (_:Unit)=>if((v.1.getD i aO.zero).name.toList==x.name.toList)=true then some (.inr (Sum.inr (([]:List aO),false)))else some (.inl ())) (λ _=>Sum.inl (β:=List aO×Bool) ()) t j ()=
   some (if t.any (λ x=>(v.1.getD i aO.zero).name.toList==x.name.toList)=true then .inr ([],false)else .inl ()):=by
  intro t;induction t with
  |nil=>intro j;rfl
  |cons x t U=>
   intro j;simp only[walk,List.any_cons]
   by_cases c:((v.1.getD i aO.zero).name.toList==x.name.toList)=true
   .simp only[c,cG,fT]
   .simp only[gJ]at c;simp only[c,dP,bY,cH];exact U (j+1)
 have K:(v.1.take i).length=i:=by rw[dC];omega
 have H:=vM (body:=Dl v (i:Int)) (v.1.take i) aO.zero (λ j (_:Unit)=>(j:Int))
  (λ _ x (_:Unit)=>if((v.1.getD i aO.zero).name.toList==x.name.toList)=true then some (.inr (Sum.inr (([]:List aO),false)))else some (.inl ())) (λ _=>Sum.inl (β:=List aO×Bool) ())
  (λ j s O=>by
   rw[K]at O;unfold Dl;rw[cA (by simp;omega),gdp om,gdp om,lY j om,Tw _ _ _ _ O];simp only[Qm];split<;>rfl)
  (λ s=>by unfold Dl;rw[K];simp) ()
 rw[show(0:Int)=(λ(j:Nat) (_:Unit)=>(j:Int)) 0 ()from rfl,H,L]
def UZ(v:List aO×Bool)(V:v.1.length<=1000):(dnN v.1->lS (A7 v) 0=some (.inl ()))/\(¬dnN v.1->lS (A7 v) 0=some (.inr ([],false))):=by
 have U:=vM (body:=A7 v) v.1 aO.zero (λ i (_:Unit)=>(i:Int))
  (λ i a (_:Unit)=>if(v.1.take i).any (λ x=>a.name.toList==x.name.toList)=true then some (.inr (Sum.inr (([]:List aO),false)))else some (.inl ())) (λ _=>Sum.inl (β:=List aO×Bool) ())
  (λ i s L=>by
   unfold A7;rw[cA (by simpa using L),cGo v i L V];split
   .rfl
   .show some _=_;rw[lY i om];rfl)
  (λ s=>by unfold A7;simp) ()
 have Z:∀(t H:List aO),v.1=H++t->dnN H->(dnN v.1->walk (λ i a (_:Unit)=>if(v.1.take i).any (λ x=>a.name.toList==x.name.toList)=true then some (.inr (Sum.inr (([]:List aO),false)))else some (.inl ())) (λ _=>Sum.inl (β:=List aO×Bool) ()) t H.length ()=some (.inl ()))/\
   (¬dnN v.1->walk (λ i a (_:Unit)=>if(v.1.take i).any (λ x=>a.name.toList==x.name.toList)=true then some (.inr (Sum.inr (([]:List aO),false)))else some (.inl ())) (λ _=>Sum.inl (β:=List aO×Bool) ()) t H.length ()=some (.inr ([],false))):=by
  intro t;induction t with
  |nil=>intro H h Y;exact⟨λ _=>rfl,λ B=>absurd (by rw[h,eO];exact Y) B⟩
  |cons a t M=>
   intro H h Y;have ht:v.1.take H.length=H:=by rw[h,List.take_left'];rfl
   simp only[walk,ht]
   by_cases c:H.any (λ x=>a.name.toList==x.name.toList)=true
   .have B:¬dnN v.1:=by
     intro O;rw[h]at O;obtain⟨x,K,e⟩:=kP.1 c;have:=(fP.1 O).2.2 x K a (.head _);rw[dI]at e;rw[<-e]at this;simp at this
    exact⟨λ h=>absurd h B,λ _=>by rw[cA c]⟩
   .rw[bZ c];have F:dnN (H++[a]):=by
     unfold dnN;rw[fP];refine⟨Y,List.pairwise_singleton _ _,λ x K y hy=>?_⟩;rw[dO.1 hy,dG];intro e;rw[dI]at e;exact c (kP.2 ⟨x,K,by rw[dI];exact e.symm⟩)
    have:=M (H++[a]) (by rw[h];simp) F;rw[show(H++[a]).length=H.length+1 by simp]at this;exact this
 have:=Z v.1 [] rfl .nil;rw[show(0:Int)=(λ(i:Nat) (_:Unit)=>(i:Int)) 0 ()from rfl,U];exact this
def G9(e:aR):p9 e=some (vE e):=by
 unfold p9 qG;rw[cFm,eF];have p:=xL e;unfold vE;cases O:fitE e with
 |false=>rfl
 |true=>
  have hn:mJ e<=24:=by unfold fitE at O;simp at O;omega
  simp only[cG,show¬mJ e=0 by omega,cO,bY,cH,cL];have L:=cGm e om;have H:=cGn e;cases K:addO e []with
  |none=>
   rw[K]at L H;obtain⟨r,M,hb⟩:=L;have O:(pR e []).isSome=false:=by rw[dG];intro h;obtain⟨l,e,_⟩:=H.1 h;cases e
   rw[M,O,eF];cases r with
   |inl r=>rfl
   |inr v=>have V:v.2=false:=hb;simp only[V,dK,fT,cG,qm]
  |some l=>
   rw[K]at L H;simp only at L;have hl:l.length<=24:=by
    unfold addO at K;split at K
    .cases K;have Z:=N1 (xK e) [];have h2:=UL e;simp at Z;omega
    .cases K
   rw[L,eF]
   by_cases c:l.length<=8
   .simp only[cR,dP,show¬(8:Int)<(l.length:Int)by omega,cO,bY,cH];have F:=UZ (l,true) (by simp only;omega)
    by_cases U:dnN l
    .rw[F.1 U,H.2 ⟨l,rfl,c,U⟩];rfl
    .rw[F.2 U];have:(pR e []).isSome=false:=by
      rw[dG];intro h;obtain⟨l',Y,_,B⟩:=H.1 h;cases Y;exact U B
     rw[this];rfl
   .simp only[cR,dP,show(8:Int)<(l.length:Int)by omega,cF,cG,qm];have:(pR e []).isSome=false:=by
     rw[dG];intro h;obtain⟨l',Y,B,_⟩:=H.1 h;cases Y;exact c B
    rw[this]
def U0(e:aR):p7 e=some (vE e):=cG2 e
def cGs{t:List aA}(H:t.length<=8)(h:∀q∈t,mK q=true):Dr t=some (nW t):=by rw[<-Kt H h];rfl
def cGt(s:aI):q7 s=JI s:=by
 funext g;unfold q7 JI
 by_cases c:g<(s.aY.length:Int)
 .by_cases U:0<=g
  .simp only[c,U,cW,cF,cG,mD,U0,G9,J8,vN];generalize K:s.aY.getD g.toNat bQ.zero=n;generalize hm:s.aY.getD ((IntKind.i64.wrap (g-1)).toNat) bQ.zero=m;cases L:mL n.aL
   .simp
   .cases V:vE n.bU
    .by_cases H:n.gen<0<;>by_cases O:1073741824<n.gen<;>simp[H,O]
    .by_cases H:n.gen<0
     .simp[H]
     .by_cases O:1073741824<n.gen
      .simp[H,O]
      .by_cases Y:0<g<;>simp[H,O,Y]
  .simp only[c,U,iO,cF,cG,bVp]
 .simp only[c,cO,bY,cH]
def Eu(l:List bQ)(i:Nat)(n:bQ):Bool:=mL n.aL&&vE n.bU&&decide (0<=n.gen)&&decide (n.gen<=1073741824)&&(decide (i=0)||decide (cmpP (l.getD (i-1) bQ.zero).aL n.aL<0))
def zZ(l:List bQ):Bool:=(List.range l.length).all λ i=>Eu l i (l.getD i bQ.zero)
def pB(s:aI):List aK:=vS (nW s.aF++s.aY.map (·.aL))
def oD(s:aI):Bool:=pQ s.aF&&decide (s.aY.length<=8)&&zZ s.aY&&decide ((pB s).length<=8)
def U1(s:aI)(h8:s.aY.length<=8):lS (q7 s) 0=some (if zZ s.aY=true then .inl ()else .inr false):=by
 have Y:=sQ (body:=q7 s) s.aY.length (λ i=>if Eu s.aY i (s.aY.getD i bQ.zero)=true then none else some (Sum.inr (α:=Unit) false)) (Sum.inl ()) (λ i hi=>by
  unfold q7;have L:(i:Int)<(s.aY.length:Int):=om
  have V:0<=(i:Int):=om
  simp only[L,V,cW,cF,cG,mD,U0,J8,Qm];unfold Eu;have nd:∀x:bQ,x=x:=λ x=>rfl;rcases hb (mL (s.aY.getD i bQ.zero).aL)with hP|hP
  .rcases hb (vE (s.aY.getD i bQ.zero).bU)with hE|hE
   .by_cases U:(s.aY.getD i bQ.zero).gen<0
    .simp[hP,hE,U,show¬0<=(s.aY.getD i bQ.zero).gen by omega,-List.getD_eq_getElem?_getD]
    .by_cases B:1073741824<(s.aY.getD i bQ.zero).gen
     .simp[hP,hE,U,B,show¬(s.aY.getD i bQ.zero).gen<=1073741824 by omega,-List.getD_eq_getElem?_getD]
     .have H:0<=(s.aY.getD i bQ.zero).gen:=om
      have O:(s.aY.getD i bQ.zero).gen<=1073741824:=om
      have Z:IntKind.i64.wrap ((i:Int)+1)=(i:Int)+1:=mB om om
      by_cases M:i=0
      .subst M;simp only[hP,hE,U,B,H,O,cG,qm,cF,cO,cR,dK,gK,cL,eY,dP,fT,Int.cast_ofNat_Int,iG,gY,eQ,bY,jR,mD,cH];rfl
      .have q4:(0:Int)<(i:Int):=om
       have w:IntKind.i64.wrap ((i:Int)-1)=((i-1:Nat):Int):=zR i om om;simp only[hP,hE,U,B,H,O,M,q4,cF,cO,cR,dK,gK,cL,eY,dP,jS,bY,cG,cH,qm,w,Z,Qm];rw[gdp (by intro _;omega)]
       by_cases K:cmpP (s.aY.getD (i-1) bQ.zero).aL (s.aY.getD i bQ.zero).aL<0
       .have F:¬0<=cmpP (s.aY.getD (i-1) bQ.zero).aL (s.aY.getD i bQ.zero).aL:=om
        simp only[K,F,cF,cO,cG,bY,cH]
       .have F:0<=cmpP (s.aY.getD (i-1) bQ.zero).aL (s.aY.getD i bQ.zero).aL:=om
        simp only[K,F,cF,cO,cG,bY,cH]
   .simp[hP,hE,-List.getD_eq_getElem?_getD]
  .simp[hP,-List.getD_eq_getElem?_getD])
  (by unfold q7;simp)
 rw[Y,tQ (λ i=>Eu s.aY i (s.aY.getD i bQ.zero))];unfold zZ;rw[eP];split<;>rfl
def N5(s:aI)(Y:pQ s.aF=true)(B:s.aY.length<=8):zH s=some (pB s):=by
 obtain⟨H,O,_⟩:=(tS _).1 Y;have F:=Et s.aF O;have M:(nW s.aF).length<=200:=by have:=G0 (s.aF.flatMap rE);unfold nW;omega
 unfold zH;rw[cGs H O,eF,x3 s.aY bQ.zero (·.aL) _ om om (λ i t K L=>by
  unfold Jw;have U:0<=(i:Int)/\(i:Int)<(s.aY.length:Int):=om
  have H:t.length+1<=4294967296:=om
  simp only[H,U.1,U.2,cW,mD,cF,cG,lA,lY i (show i<4611686018427387904 by omega)]) (λ t=>by unfold Jw;simp),eF]
 unfold MT;rw[NW _ (by simp;omega)];rfl
def cGy(s:aI)(H:s.aF.length<=8)(O:∀q∈s.aF,mK q=true)(Y:s.aY.length<=8):Bh s=some (pB s):=by
 have B:=Et s.aF O;have F:(nW s.aF).length<=200:=by have:=G0 (s.aF.flatMap rE);unfold nW;omega
 unfold Bh;rw[cEk H O,eF,gdp om,x3 s.aY bQ.zero (·.aL) _ om om (λ i t K L=>by
  unfold Jy;have U:0<=(i:Int)/\(i:Int)<(s.aY.length:Int):=om
  have H:t.length+1<=4294967296:=om
  simp only[H,U.1,U.2,cW,mD,cF,cG,lA,lY i (show i<4611686018427387904 by omega)]) (λ t=>by unfold Jy;simp),eF]
 unfold MV;rw[NN _ (by simp;omega)];rfl
def cGz(s:aI)(H:pQ s.aF=true)(O:s.aY.length<=8):Bh s=some (pB s):=by obtain⟨U,Y,_⟩:=(tS _).1 H;exact cGy s U Y O
def Ha(s:aI):uM s=some (oD s):=by
 unfold uM oD;rw[UI,eF];cases K:pQ s.aF with
 |false=>rfl
 |true=>
  by_cases H:s.aY.length<=8
  .simp only[cR,dP,show¬(8:Int)<(s.aY.length:Int)by omega,cO,bY,cH,H,cF,cL];rw[<-cGt,U1 s H,eF];cases zZ s.aY with
   |false=>rfl
   |true=>simp only[cG,cL];unfold M0;rw[N5 s K H,eF];congr 1;rw[dM];simp;omega
  .simp only[cR,dP,show(8:Int)<(s.aY.length:Int)by omega,cF,cG,H,cO,gY,eQ]
def N6(s:aI):zI s=some (oD s):=by
 unfold zI oD
 by_cases H:s.aY.length<=8
 .by_cases O:s.aF.length<=8
  .simp only[show¬(8:Int)<(s.aY.length:Int)by omega,show¬(8:Int)<(s.aF.length:Int)by omega,cO,eY,bY,cH,H,cF,fB];rw[UF s.aF O (λ i L=>by
    unfold JA;have U:0<=(i:Int)/\(i:Int)<(s.aF.length:Int):=om
    simp only[U.1,U.2,cW,mD,cF,cG,lA,bYp,eF,lY i (show i<4611686018427387904 by omega)]
    by_cases Y:i=0
    .subst Y;rw[lV (by simp)];cases mK (s.aF.getD 0 aA.zero)<;>simp
    .rw[zR i om om,lV (by intro _;omega)];simp only[lA,show(0:Int)<(i:Int)by omega,cF,cL,Y,jG];unfold ltN;rcases hb (mK (s.aF.getD i aA.zero))with b1|b1<;>rcases hb (Op.bytesLess (s.aF.getD (i-1) aA.zero).aB.name.toList (s.aF.getD i aA.zero).aB.name.toList)with b2|b2<;>simp[b1,b2,-List.getD_eq_getElem?_getD]) (by unfold JA;simp)]
   unfold pQ;simp only[O,cF,cL];cases K:ascW s.aF none with
   |false=>rfl
   |true=>
    have B:pQ s.aF=true:=by unfold pQ;simp[O,K]
    simp only[cG,qm,cL];unfold Jz;rw[U1 s H,eF];cases zZ s.aY with
    |false=>rfl
    |true=>simp only[cG,cL];unfold MW;rw[cGz s B H,eF];congr 1;rw[dM];simp;omega
  .have:pQ s.aF=false:=by unfold pQ;simp[O]
   simp only[show(8:Int)<(s.aF.length:Int)by omega,cF,fT,cG,this,eQ]
 .simp only[show(8:Int)<(s.aY.length:Int)by omega,cF,jJ,cG,H,cO,gY,eQ]
def Hb(l:List Int):Prop:=∀x∈l,0<=x/\x<256
def U2(c:Int)(H:0<=c)(O:c<256):(nS .and .u8 c 128=0)↔c<128:=by
 have k:(List.range 256).all (λ n=>decide ((nS .and .u8 (n:Int) 128=0)↔(n:Int)<128))=true:=by kernel_rfl
 obtain⟨n,rfl⟩:=Int.eq_ofNat_of_zero_le H;have:=dT.1 k n (eD.2 om)
 simpa using this
structure Src (b:List Int):Prop where
 bytes:Hb b
 len:b.length<=9223372036854775807
def x7(n:Int)(H:0<=n)(O:n<2^64):IntKind.u64.wrap n=n:=by rw[IntKind.wrap_u64];omega
def cH5{x:Int}(H:0<=x)(O:x<18446744073709551616):nS .and .u64 x 127=x% 128:=bits_mask .u64 64 Om x7 7 Om x H om
def U3{x:Int}(H:0<=x)(O:x<256):nS .and .u8 x 127=x% 128:=bits_mask .u8 8 Om wraps_u8 7 Om x H om
def U4(k:IntKind)(x y:Int):nS .or k x y=nS .or k y x:=by simp only[nS,BitVec.or_comm]
def cH8{y:Int}(H:0<=y)(O:y<128):nS .or .u8 y 128=y+128:=by rw[U4];have:nS .or .u8 128 y=128+y:=bits_join .u8 8 Om wraps_u8 7 128 y Om Om Om H om om;rw[this];omega
def U5(s:Nat)(Y:s<=28){v c:Int}(O:0<=v)(K:v<2^s)(U:0<=c)(F:c<128):nS .or .u64 v (IntKind.u64.wrap (c*2^s))=v+c*2^s:=by
 have B:(2:Int)^s<=2^28:=by exact_mod_cast Nat.pow_le_pow_right Om Y
 have M:(0:Int)<2^s:=by exact_mod_cast Nat.two_pow_pos s
 have hm:c*2^s<=127*2^28:=Int.mul_le_mul om B om Om;have H:0<=c*2^s:=Int.mul_nonneg U om;rw[x7 _ H om,U4];have:nS .or .u64 (c*2^s) v=c*2^s+v:=bits_join .u64 64 Om x7 s _ v H (Int.mul_emod_left _ _) om O K om;rw[this];omega
def encU(n:Nat):List Int:=if n<128 then[(n:Int)]else((n% 128+128:Nat):Int)::encU (n/128)
termination_by n
decreasing_by omega
def a7{n:Nat}(h:n<128):encU n=[(n:Int)]:=by rw[encU,cA h]
def Ev{n:Nat}(h:¬n<128):encU n=((n% 128+128:Nat):Int)::encU (n/128):=by rw[encU,bZ h]
def N7:∀(k n:Nat),n<128^(k+1)->1<=(encU n).length/\(encU n).length<=k+1
 |0,n,h=>by rw[a7 om];simp
 |k+1,n,h=>by
  by_cases c:n<128
  .rw[a7 c];simp
  .rw[Ev c];have:=N7 k (n/128) (by rw[lP]at h;omega);simp only[ym];omega
def cHd:∀(n:Nat),Hb (encU n):=by
 intro n;induction n using Nat.strongRecOn with
 |_ n H=>
  by_cases c:n<128
  .rw[a7 c];intro x hx;rw[dO]at hx;omega
  .rw[Ev c];intro x hx;rcases cK.1 hx with rfl|hx
   .omega
   .exact H (n/128) om x hx
def U6:∀(k n:Nat) (l:List Int),n<128^(k+1)->k<=8->l.length+k<=4294967290->∃y O,lS sE ((n:Int),l)=some (y,O)/\O++[IntKind.u8.wrap y]=l++encU n/\O.length<=l.length+k
 |0,n,l,h,K,L=>by
  refine⟨n,l,?_,?_,by omega⟩
  .rw[mF];unfold sE;rw[bZ (by simp;omega)]
  .rw[a7 om,wraps_u8 _ om om]
 |k+1,n,l,h,K,L=>by
  by_cases c:n<128
  .refine⟨n,l,?_,?_,by omega⟩
   .rw[mF];unfold sE;rw[bZ (by simp;omega)]
   .rw[a7 c,wraps_u8 _ om om]
  .have U:n<18446744073709551616:=by
    have:128^(k+1+1)<=128^9:=Nat.pow_le_pow_right Om om;omega
   obtain⟨y,O,Y,B,F⟩:=U6 k (n/128) (l++[((n% 128+128:Nat):Int)]) (by rw[lP]at h;omega) om (by simp;omega);refine⟨y,O,?_,?_,by simp at F;omega⟩
   .rw[mF];have H:sE ((n:Int),l)=some (.inl (((n/128:Nat):Int),l++[((n% 128+128:Nat):Int)])):=by
     unfold sE;simp only;rw[cA (by simp;omega),gdp om,cH5 om om,wraps_u8 _ om om,cH8 om om];have:(n:Int).fdiv (2^7)=((n/128:Nat):Int):=by rw[Int.fdiv_eq_ediv_of_nonneg _ Om];omega
     rw[this];have:(n:Int)% 128+128=((n% 128+128:Nat):Int):=om
     rw[this]
    rw[H];exact Y
   .rw[B,Ev c,cJ];rfl
def N8{n:Nat}{l:List Int}(H:n<128^9)(K:l.length<=4294967000):sF l (n:Int)=some (l++encU n):=by obtain⟨y,Y,O,U,B⟩:=U6 8 n l H Om om;unfold sF;rw[gdp om,O,eF];unfold Fi;rw[gdp (by simp only;omega)];simp only[U]
def U7{n:Nat}{l:List Int}(H:n<128^9)(K:l.length<=4294967000):pG l (n:Int)=some (l++encU n):=by rw[<-N8 H K];rfl
def cHh(g:Int×List Int):Cq g=sE g:=by
 unfold Cq sE
 by_cases c:127<g.1
 .rw[cA (by simpa using c),cA (by simp;omega)]
 .rw[bZ (by simpa using c),bZ (by simp;omega)]
def cHi(l:List Int)(x:Int)(L:l.length<=4294967000):tG l x=sF l x:=by
 unfold tG sF;have hb:Cq=sE:=funext cHh;have K:l.take ((l.length:Int).toNat)=l:=by rw[lA,eT]
 have H:l.length+1<=4294967296:=om
 have O:l.length<=4294967296:=om
 rw[K,hb,gdp om,gdp H,gdp O,mF sE (x,l)]
 by_cases c:127<x
 .rw[cA (by simpa using c)];have:sE (x,l)=some (.inl (x.fdiv (2^7),l++[nS .or .u8 (IntKind.u8.wrap (nS .and .u64 x 127)) 128])):=by
   unfold sE;rw[cA (by simp;omega),gdp (by simp only;omega)]
  rw[this];rfl
 .rw[bZ (by simpa using c)];have:sE (x,l)=some (.inr (x,l)):=by
   unfold sE;rw[bZ (by simp;omega)]
  rw[this];show _=Fi (x,l);unfold Fi;rw[gdp H]
def U8{n:Nat}{l:List Int}(H:n<128^9)(K:l.length<=4294967000):tG l (n:Int)=some (l++encU n):=by rw[cHi l _ K,N8 H K]
def U9{n:Nat}{l:List Int}(H:n<128^9)(K:l.length<=4294967000):oX l (n:Int)=some (l++encU n):=by rw[<-U8 H K];rfl
def cHl{a rest:List Int}(ha:Hb a):∀(k m i:Nat) (v:Int),i+k=4->m<128^(k+1)->a.drop i=encU m++rest->(i=0\/1<=m)->0<=v->v<2^(7*i)->
  lS (Ct a) (v,(i:Int))=some (.inr (v+(m:Int)*2^(7*i),((i+(encU m).length:Nat):Int),0)):=by
 have H:∀(m i:Nat) (v:Int),i<=4->a.drop i=encU m++rest->0<=v->v<2^(7*i)->(m<128->(i=0\/1<=m)->Ct a (v,(i:Int))=some (.inr (.inr (v+(m:Int)*2^(7*i),((i+1:Nat):Int),0))))/\
   (¬m<128->Ct a (v,(i:Int))=some (.inl (v+((m% 128:Nat):Int)*2^(7*i),((i+1:Nat):Int)))):=by
  intro m i v hi O F h1;have M:encU m≠[]:=by rw[encU];split<;>simp
  have K:i<a.length:=by have:=eA List.length O;rw[eH,cC]at this;have:0<(encU m).length:=gS.2 M;omega
  have hw:IntKind.i64.wrap (7*(i:Int))=((7*i:Nat):Int):=by rw[mB om om];omega
  have x0:(IntKind.i64.wrap (7*(i:Int))).toNat=7*i:=by rw[hw];rfl
  have L:Nat.min (7*i) IntKind.u64.bits=7*i:=gQ (by show 7*i<=64;omega);have Y:∀c t,a.drop i=c::t->a.getD ((i:Int).toNat) 0=c:=λ c t e=>by have:=s7 a i 0 K;rw[e]at this;exact(List.cons.inj this).1.symm
  unfold Ct;simp only;rw[cA (by simp;omega),bZ (by simp;omega),gdp om,bZ (by simp;omega),gdp om,lY i om,x0,L];constructor
  .intro c hm;have Z:=Y (m:Int) rest (by rw[O,a7 c];rfl);rw[Z,(U2 (m:Int) om om).2 om,U3 om om,x7 ((m:Int)% 128) om om,U5 (7*i) om F h1 om om];have B:(m:Int)% 128=m:=om
   have h2:(decide ((m:Int)=0)&&decide ((0:Int)<(i:Int)))=false:=by rw[dG];simp;omega
   rw[B,h2];simp
  .intro c;have Z:=Y ((m% 128+128:Nat):Int) (encU (m/128)++rest) (by rw[O,Ev c];rfl);have hb:¬nS .and .u8 ((m% 128+128:Nat):Int) 128=0:=λ e=>by have:=(U2 _ om om).1 e;omega
   rw[Z,U3 om om,x7 (((m% 128+128:Nat):Int)% 128) om om,U5 (7*i) om F h1 om om];have B:((m% 128+128:Nat):Int)% 128=((m% 128:Nat):Int):=om
   rw[B,cA (by simpa using hb)]
 intro k;induction k with
 |zero=>intro m i v hi hm O F U V;rw[mF,(H m i v om O U V).1 om F,a7 om];rfl
 |succ k ih=>
  intro m i v hi hm O F U V
  by_cases c:m<128
  .rw[mF,(H m i v om O U V).1 c F,a7 c];rfl
  .rw[mF,(H m i v om O U V).2 c];have hp:(2:Int)^(7*(i+1))=128*2^(7*i):=by rw[Nat.mul_add,Int.pow_add];omega
   have hq:(0:Int)<2^(7*i):=by exact_mod_cast Nat.two_pow_pos _
   have y0:((m% 128:Nat):Int)*2^(7*i)<=127*2^(7*i):=Int.mul_le_mul_of_nonneg_right om om;have z0:0<=((m% 128:Nat):Int)*2^(7*i):=Int.mul_nonneg om om;have:=ih (m/128) (i+1) (v+((m% 128:Nat):Int)*2^(7*i)) om (by rw[lP]at hm;omega) (by
    rw[<-fF,O,Ev c];rfl) (.inr om) om (by rw[hp];omega)
   simp only;rw[this,Ev c,hp];have e1:(m:Int)=128*((m/128:Nat):Int)+((m% 128:Nat):Int):=om
   have e2:v+((m% 128:Nat):Int)*2^(7*i)+((m/128:Nat):Int)*(128*2^(7*i))=v+(m:Int)*2^(7*i):=by rw[e1,Int.add_mul,Int.mul_assoc 128,Int.mul_left_comm];omega
   rw[e2];simp only[ym];rw[show i+1+(encU (m/128)).length=i+((encU (m/128)).length+1)by omega]
def cHm{n:Nat}{rest:List Int}(H:n<128^5)(O:Hb rest):uE (encU n++rest)=some ((n:Int),((encU n).length:Int),0):=by
 have hb:Hb (encU n++rest):=λ x K=>by
  rcases cX.1 K with h|h
  .exact cHd n x h
  .exact O x h
 unfold uE;have:=cHl (rest:=rest) hb 4 n 0 0 rfl H rfl (.inl rfl) (kH _) Om;rw[show((0,0):Int×Int)=(0,((0:Nat):Int))from rfl,this];simp
def encI(x:Int):List Int:=encU x.toNat
def encT(s:ByteArray):List Int:=encU s.size++s.toList.map λ b=>(b.toNat:Int)
def encP(p:aK):List Int:=encI p.site++encI p.inc++encI p.num
def encA(a:aC):List Int:=encI a.mode++encI a.aT
mutual
def encE:aR->List Int
 |⟨k,a,ks⟩=>encI k++(if k=0 then encT a.name++encA a.aJ else encI (ks.length:Int)++Hc ks)
def Hc:List aR->List Int
 |[]=>[]
 |k::l=>encE k++Hc l
end
def Va(e:aR):encE e=encI e.k++(if e.k=0 then encT e.bA.name++encA e.bA.aJ else encI (e.bG.length:Int)++e.bG.flatMap encE):=by
 have:∀l,Hc l=l.flatMap encE:=by
  intro l;induction l with
  |nil=>rw[Hc];rfl
  |cons x l H=>rw[Hc,H];rfl
 cases e;rw[encE,this]
def encH(h:aX):List Int:=encP h.aL++encA h.aJ
def encC(w:aV):List Int:=encP w.aL++encA w.aJ
def encW(w:aV):List Int:=encP w.aL++encA w.aJ++encI w.bD++encI w.bS
def encQ(q:aA):List Int:=encT q.aB.name++(encI q.aB.kind++(encI q.aB.aT++(encI q.aB.home++(encI q.gen++(encI (q.aS.length:Int)++(q.aS.flatMap encH++(encI (q.aN.length:Int)++(q.aN.flatMap encC++(encI (q.aW.length:Int)++q.aW.flatMap encW)))))))))
def encN(n:bQ):List Int:=encP n.aL++(encI n.gen++encE n.bU)
def encS(s:aI):List Int:=encI (s.aF.length:Int)++(s.aF.flatMap encQ++(encI (s.aY.length:Int)++s.aY.flatMap encN))
def okI(x:Int):Prop:=0<=x/\x<=1073741824
def Src.right{a b:List Int}(h:Src (a++b)):Src b:=⟨λ x H=>h.bytes x (cX.2 (.inr H)),by have:=h.len;rw[cC]at this;omega⟩
def cHp{x:Int}(h:okI x){r:List Int}(H:Src (encI x++r)):uE (encI x++r)=some (x,((encI x).length:Int),0):=by have hb:=H.right.bytes;unfold encI;obtain⟨O,U⟩:=h;rw[cHm om hb];rw[iI O]
def BH(s:ByteArray):s.toList.length=s.size:=by rw[lB];rfl
def N9{p:aK}(h:mL p=true):okI p.site/\okI p.inc/\okI p.num:=by unfold mL j7 at h;simp only[bX,cD]at h;unfold okI;omega
def okA(a:aC):Prop:=okI a.mode/\okI a.aT
def x8{a:aC}(h:oM a=true):okA a:=by unfold oM pH rX at h;unfold okA okI;simp at h;omega
def a8{s:ByteArray}(h:nY s=true):s.size<=12:=by unfold nY at h;simp at h;omega
def KA:∀{l:List aR} {k:aR},okL l=true->k∈l->okE k=true
 |x::l,k,h,hk=>by
  simp only[okL,bX]at h;rcases cK.1 hk with rfl|hk
  .exact h.1
  .exact KA h.2 hk
structure OkQ (q:aA):Prop where
 name:q.aB.name.size<=1024
 kind:okI q.aB.kind
 aT:okI q.aB.aT
 home:okI q.aB.home
 gen:okI q.gen
 lh:q.aS.length<=8
 lc:q.aN.length<=8
 lw:q.aW.length<=8
 h:∀x∈q.aS,mL x.aL=true/\okA x.aJ
 c:∀x∈q.aN,mL x.aL=true/\okA x.aJ/\x.bD=0/\x.bS=0
 w:∀x∈q.aW,mL x.aL=true/\okA x.aJ/\okI x.bD/\okI x.bS
structure OkS (s:aI):Prop where
 lq:s.aF.length<=8
 ln:s.aY.length<=8
 q:∀q∈s.aF,OkQ q
 n:∀n∈s.aY,mL n.aL=true/\okI n.gen/\okE n.bU=true/\fitE n.bU=true
def Vb{q:aA}(O:SoundP q){w:aV}(K:w∈ordQ q):mL w.aL=true/\mE q.aB w.aJ=true/\(nC w.aL q.aS).length+1<=8:=by
 have Y:=(vQ _ _).1 O.hv;rcases cX.1 K with h|h
 .obtain⟨U,H,_⟩:=O.cg w h;refine⟨(Y.2.2.1.each _ (By U)).1,H,?_⟩;have:=Nv (Kj O.hv) U;omega
 .have U:=O.wg w h;have H:=((GT _).1 O.wv).2.1 w h;refine⟨?_,U.1,?_⟩
  .rw[<-Ke]at H;unfold wS at H;rw[vN]at H;simp only[bX]at H;exact H.1.1.1.1.1
  .have:=O.wl;have B:=GN w.aL q.aS;have:0<q.aW.length:=List.length_pos_of_mem h;omega
def cHw{l:List aV}(h:pZ l=true){w:aV}(K:w∈l):oY w=true:=by unfold pZ at h;simp only[bX,cD,dT,eD]at h;obtain⟨i,H,e⟩:=gE K;have:=(h.2 i H).1;rw[cB,cE H]at this;simp only[Xm,e]at this;exact this
def Oa{r:aH}{a:aC}(h:mE r a=true)(H:r.aT<=1073741824):okA a:=by rw[rC]at h;unfold okA okI;omega
def Vc{q:aA}(h:mK q=true):OkQ q/\q.aB.name.size<=12:=by
 have H:=((qA q).1 h).1;have L:=w9 h;have U:=H.res;unfold resV at U;simp only[bX,cD]at U;have B:=a8 U.1;have F:=(sR _).1 U.2.1;have Y:q.aB.aT<=1073741824:=om
 refine⟨⟨by omega,by unfold okI;omega,by unfold okI;omega,by unfold okI;omega,H.gen,L.1,L.2.1,L.2.2.1,λ x K=>?_,λ x K=>?_,λ x K=>?_⟩,B⟩
 .have:=((vQ _ _).1 H.hv).2.2.1.each x K;exact⟨this.1,Oa this.2 Y⟩
 .have:=Vb H (w:=x) (by unfold ordQ;exact cX.2 (.inl K));have O:=H.cg x K;exact⟨this.1,Oa this.2.1 Y,O.2.2.2.2.1,O.2.2.2.2.2⟩
 .have:=Vb H (w:=x) (by unfold ordQ;exact cX.2 (.inr K));have O:=cHw H.wv K;unfold oY at O;simp only[bX,cD]at O;exact⟨this.1,Oa this.2.1 Y,by unfold okI;omega,by unfold okI;omega⟩
def Ob{l:List bQ}(h:zZ l=true){n:bQ}(H:n∈l):mL n.aL=true/\vE n.bU=true/\okI n.gen:=by unfold zZ at h;rw[dT]at h;obtain⟨i,K,e⟩:=gE H;have:=h i (eD.2 K);rw[cB,cE K]at this;simp only[Xm,e]at this;unfold Eu at this;simp only[bX,cD]at this;exact⟨this.1.1.1.1,this.1.1.1.2,this.1.1.2,this.1.2⟩
def KB{e:aR}(h:vE e=true):okE e=true/\fitE e=true:=by
 unfold vE at h;rw[bX]at h;refine⟨?_,h.1⟩;have H:=h.2;unfold pR at H;split at H
 .assumption
 .cases H
def Ew{s:aI}(h:oD s=true):OkS s/\∀q∈s.aF,q.aB.name.size<=12:=by unfold oD at h;simp only[bX,cD]at h;obtain⟨U,O,_⟩:=(tS _).1 h.1.1.1;refine⟨⟨U,h.1.1.2,λ q H=>(Vc (O q H)).1,λ n Y=>?_⟩,λ q H=>(Vc (O q H)).2⟩;obtain⟨a,b,c⟩:=Ob h.1.2 Y;exact⟨a,c,(KB b).1,(KB b).2⟩
def nN{x:Int}(h:okI x):(encI x).length<=5:=(N7 4 x.toNat (by have:=h.1;have:=h.2;omega)).2
def Hd{s:ByteArray}(h:s.size<=1024):(encT s).length<=1029:=by have:=(N7 4 s.size om).2;unfold encT;rw[cC,dN,BH];omega
def BI{p:aK}(h:mL p=true):(encP p).length<=15:=by obtain⟨a,b,c⟩:=N9 h;have:=nN a;have:=nN b;have:=nN c;unfold encP;simp only[cC];omega
def KC{a:aC}(h:okA a):(encA a).length<=10:=by have:=nN h.1;have:=nN h.2;unfold encA;simp only[cC];omega
def vT{α:Type}{f:α->List Int}{c:Nat}:∀{l:List α},(∀x∈l,(f x).length<=c)->(l.flatMap f).length<=c*l.length
 |[],_=>by simp
 |x::l,h=>by have H:=h x (.head _);have O:=vT (l:=l) λ y K=>h y (.tail _ K);rw[fN,cC,lE,Nat.mul_add];omega
def Vd:∀(n:Nat) (e:aR),_root_.SizeOf.sizeOf e<n->okE e=true->mJ e<=24->((encE e).length:Int)<=1100*mJ e
 |0,_,h,_,_=>om
 |n+1,e,h,K,V=>by
  have F:=uT e;have Z:=sU e.bG;rw[Va,cC]
  by_cases c:e.bG.length=0
  .obtain⟨O,Y,B⟩:=(Ky c).1 K;have:=nN (x:=e.k) (by rw[O];unfold okI;omega);have:=Hd (s:=e.bA.name) (by have:=a8 Y;omega);have:=KC (x8 B);rw[cA O,cC];omega
  .obtain⟨⟨O,Y,B⟩,M⟩:=(Kz c).1 K;have e1:=nN (x:=e.k) (by unfold okI;omega);have e2:=nN (x:=(e.bG.length:Int)) (by unfold okI;omega);rw[bZ om,cC];have U:∀l:List aR,(∀k∈l,k∈e.bG)->((l.flatMap encE).length:Int)<=1100*nL l:=by
    intro l;induction l with
    |nil=>intro _;simp[NY]
    |cons k l ih=>intro H;have h1:=Vd n k (zX h (H k (.head _))) (KA M (H k (.head _))) (by have:=Kx (H k (.head _));omega);have h2:=ih λ y L=>H y (.tail _ L);rw[fN,cC,BE];omega
   have:=U e.bG λ _ h=>h;omega
def cI7{q:aA}(h:OkQ q):(encQ q).length<=2000:=by
 have H:=h.lh;have O:=h.lc;have lw:=h.lw;have U:=Hd h.name;have Y:=nN h.kind;have B:=nN h.aT;have F:=nN h.home;have M:=nN h.gen;have L:=nN (x:=(q.aS.length:Int)) (by unfold okI;omega);have V:=nN (x:=(q.aN.length:Int)) (by unfold okI;omega);have Z:=nN (x:=(q.aW.length:Int)) (by unfold okI;omega);have b1:=vT (l:=q.aS) (f:=encH) (c:=25) λ x K=>by have:=BI (h.h x K).1;have:=KC (h.h x K).2;unfold encH;rw[cC];omega
 have b2:=vT (l:=q.aN) (f:=encC) (c:=25) λ x K=>by have:=BI (h.c x K).1;have:=KC (h.c x K).2.1;unfold encC;rw[cC];omega
 have b3:=vT (l:=q.aW) (f:=encW) (c:=35) λ x K=>by have:=BI (h.w x K).1;have:=KC (h.w x K).2.1;have:=nN (h.w x K).2.2.1;have:=nN (h.w x K).2.2.2;unfold encW;simp only[cC];omega
 unfold encQ;simp only[cC];omega
def cI8{n:bQ}(h:mL n.aL=true/\okI n.gen/\okE n.bU=true/\fitE n.bU=true):(encN n).length<=30000:=by have H:=h.2.2.2;unfold fitE at H;simp only[bX,cD]at H;have:=BI h.1;have:=nN h.2.1;have:=Vd _ n.bU (eN _) h.2.2.1 H.2;unfold encN;simp only[cC];omega
def Ex{s:aI}(h:OkS s):(encS s).length<=300000:=by have H:=h.lq;have O:=h.ln;have U:=nN (x:=(s.aF.length:Int)) (by unfold okI;omega);have Y:=nN (x:=(s.aY.length:Int)) (by unfold okI;omega);have B:=vT (l:=s.aF) (f:=encQ) (c:=2000) λ x K=>cI7 (h.q x K);have F:=vT (l:=s.aY) (f:=encN) (c:=30000) λ x K=>cI8 (h.n x K);unfold encS;simp only[cC];omega
def Ve(nm:ByteArray)(h:aX):bL:=⟨1,h.aL,nm,h.aJ⟩
def sV(nm:ByteArray)(l:List aX):List bL:=l.map (Ve nm)
def BJ(p:aK)(nm:ByteArray)(a:aC):bL:=⟨3,p,nm,a⟩
def KD(nm:ByteArray)(l:List aX)(K:l.length<=1000000):uF nm l=some (sV nm l):=by
 unfold uF;rw[x3 l aX.zero (Ve nm) [] K (by simp) (λ i s L U=>by
  unfold Iv;have H:0<=(i:Int)/\(i:Int)<(l.length:Int):=om
  have O:s.length+1<=4294967296:=om
  simp only[O,H.1,H.2,cW,eZ,mD,cF,cG,lA,lY i (show i<4611686018427387904 by omega)];rfl) (λ s=>by unfold Iv;simp)]
 rfl
def BK(t:List aA)(i:Int)(q:aA):List aA:=if 0<=i then t.set i.toNat q else t
def Lens(t:List aA):Prop:=∀q∈t,q.aS.length<=1000/\q.aN.length<=1000/\q.aW.length<=1000
def Od(t:List aA)(i:Int)(q:aA)(K:t.length<=1000)(H:0<=i)(hi:i<t.length):wQ t i q=some (BK t i q):=by unfold wQ BK;rw[lV om,lV om,cA H]
def ValidT.lens{t:List aA}(h:ValidT t):Lens t:=λ q H=>by have:=w9 (h.each q H);omega
abbrev ResT:=List aA×List bL×Int
def errT(e:Int):ResT:=([],[],e)
def putT(t:List aA)(nm:ByteArray)(x:aA×List aX×Int)(ev:List bL):ResT:=if x.2.2=0 then(BK t (nD t nm) x.1,ev++sV nm x.2.1,0)else errT x.2.2
def atT(t:List aA)(nm:ByteArray)(f:aA->ResT):ResT:=if uR t=false then errT 2 else if nD t nm<0 then errT 10 else f (t.getD (nD t nm).toNat aA.zero)
def uU(t:List aA)(p:aK):Bool:=decide (8<=(nW t).length)&&!decide (p∈nW t)
def tT(t:List aA)(p:aK)(a:aO)(pr:Int):ResT:=atT t a.name λ q=>if uU t p=true then errT 4 else putT t a.name (pV q p a.aJ pr) []
def b5(t:List aA)(p:aK)(nm:ByteArray):ResT:=atT t nm λ q=>putT t nm (pI q p) []
def qI(t:List aA)(p:aK)(a:aO):ResT:=atT t a.name λ q=>putT t a.name (nZ q p a.aJ) (if getH q.aS p=a.aJ then[]else[BJ p a.name a.aJ])
def nd0{P:Prop}[Decidable P](h:P):¬((!decide P)=true):=by simp[h]
def nd1{P:Prop}[Decidable P](h:¬P):(!decide P)=true:=by simp[h]
def He{t:List aA}{nm:ByteArray}(h:¬nD t nm<0):0<=nD t nm/\nD t nm<t.length:=by
 rcases G5 (t:=t) (nm:=nm)with H|⟨i,H,O,_⟩
 .omega
 .omega
def cIl{t:List aA}(h:ValidT t){nm:ByteArray}(H:¬nD t nm<0):mK (t.getD (nD t nm).toNat aA.zero)=true:=by have:=He H;exact h.each _ (mN om)
def cIm(t:List aA)(p:aK)(a:aO)(pr:Int):DM t p a pr=some (tT t p a pr):=by
 unfold DM tT atT;rw[G6,eF];cases L:uR t with
 |false=>rfl
 |true=>
  have h:=(zV t).1 L;have V:=h.len;have M:=h.aD;rw[ifNT,ifTF,zW _ _ om,eF]
  by_cases H:nD t a.name<0
  .rw[cA (cP H),cA H];rfl
  .have hr:=He H;have O:=Ut (t.getD (nD t a.name).toNat aA.zero) p a.aJ pr;rw[bZ (by rw[cD];exact H),bZ H,Kt V h.each,eF,Up _ _ om];have Z:decide (((nW t).length:Int)=8)=decide (8<=(nW t).length):=by rw[iW];omega
   rw[Z];have U:uU t p=(decide (8<=(nW t).length)&&!decide (p∈nW t)):=rfl;have Y:((if decide (8<=(nW t).length)=true then some (decide (p∈nW t))else some false):Option Bool).bind (λ v4=>if(decide (8<=(nW t).length)&&!v4)=true then some (([],[],4):ResT)else gd (0<=nD t a.name/\nD t a.name<(t.length:Int))<|(zL (t.getD (nD t a.name).toNat aA.zero) p a.aJ pr).bind λ v5=>if(!decide (v5.2.2=0))=true then some (([],[],v5.2.2):ResT)else(wQ t (nD t a.name) v5.1).bind λ v6=>(uF a.name v5.2.1).bind λ B=>some ((v6,B,0):ResT))=
     if uU t p=true then some (errT 4)else gd (0<=nD t a.name/\nD t a.name<(t.length:Int))<|(zL (t.getD (nD t a.name).toNat aA.zero) p a.aJ pr).bind λ v5=>if(!decide (v5.2.2=0))=true then some (([],[],v5.2.2):ResT)else(wQ t (nD t a.name) v5.1).bind λ v6=>(uF a.name v5.2.1).bind λ B=>some ((v6,B,0):ResT):=by
    rw[U]
    by_cases F:8<=(nW t).length
    .simp only[F,cF,cG,qm,cL];rfl
    .simp only[F,cO,bY,cH,qm,eQ]
   refine Eq.trans Y ?_;cases K:uU t p with
   |true=>rfl
   |false=>
    rw[ifFT,lV om,cD6,eF];unfold putT;simp only[bY,cH]
    by_cases e:(pV (t.getD (nD t a.name).toNat aA.zero) p a.aJ pr).2.2=0
    .rw[bZ (nd0 e),cA e,Od _ _ _ om om om,eF,KD _ _ (by have:=O.2.2.2;omega)];rfl
    .rw[cA (nd1 e),bZ e];rfl
def cIn(t:List aA)(p:aK)(nm:ByteArray):DJ t p nm=some (b5 t p nm):=by
 unfold DJ b5 atT;rw[G6,eF];cases K:uR t with
 |false=>rfl
 |true=>
  have h:=(zV t).1 K;have L:=h.len;rw[ifNT,ifTF,zW _ _ om,eF]
  by_cases H:nD t nm<0
  .rw[cA (cP H),cA H];rfl
  .have U:=He H;have O:=Uu (t.getD (nD t nm).toNat aA.zero) p;rw[bZ (by rw[cD];exact H),bZ H,lV om,cD7,eF];unfold putT;dsimp only
   by_cases e:(pI (t.getD (nD t nm).toNat aA.zero) p).2.2=0
   .rw[bZ (nd0 e),cA e,Od _ _ _ om om om,eF,KD _ _ (by have:=O.2.2.2;omega)];rfl
   .rw[cA (nd1 e),bZ e];rfl
def Oe(t:List aA)(p:aK)(a:aO):zK t p a=some (qI t p a):=by
 unfold zK qI atT;rw[G6,eF];cases K:uR t with
 |false=>rfl
 |true=>
  have h:=(zV t).1 K;have L:=h.len;rw[ifNT,ifTF,zW _ _ om,eF]
  by_cases H:nD t a.name<0
  .rw[cA (cP H),cA H];rfl
  .have V:=He H;have B:=cIl h H;have F:=w9 B;have O:=NP (t.getD (nD t a.name).toNat aA.zero) p a.aJ;rw[bZ (by rw[cD];exact H),bZ H,lV om,vP _ _ om,eF,lV om,cD8,eF];unfold putT;have Y:∀ev:List bL,ev.length<=1->(nZ (t.getD (nD t a.name).toNat aA.zero) p a.aJ).2.2=0->DL t a (nD t a.name) (nZ (t.getD (nD t a.name).toNat aA.zero) p a.aJ) ev=some (BK t (nD t a.name) (nZ (t.getD (nD t a.name).toNat aA.zero) p a.aJ).1,ev++sV a.name (nZ (t.getD (nD t a.name).toNat aA.zero) p a.aJ).2.1,0):=λ ev M e=>by
    unfold DL;have hg:(sV a.name (nZ (t.getD (nD t a.name).toNat aA.zero) p a.aJ).2.1).length<=16:=by unfold sV;rw[dN];exact O.2.2.2
    rw[Od _ _ _ om om om,eF,KD _ _ (by have:=O.2.2.2;omega),eF,lV om]
   dsimp only
   by_cases e:(nZ (t.getD (nD t a.name).toNat aA.zero) p a.aJ).2.2=0
   .rw[bZ (nd0 e),cA e]
    by_cases U:getH (t.getD (nD t a.name).toNat aA.zero).aS p=a.aJ
    .rw[bZ (nd0 U),cA U,Y [] (by simp) e]
    .rw[cA (nd1 U),bZ U,lV Om,Y _ (by simp) e];rfl
   .rw[cA (nd1 e),bZ e];rfl
def ascR:List aH->Option ByteArray->Bool
 |[],_=>true
 |r::l,pv=>resV r&&((match pv with|none=>true|some n=>decide (ltN n r.name))&&ascR l (some r.name))
def Vf:∀(l:List aH) (H:Option ByteArray),ascR l H=true↔(∀r∈l,resV r=true)/\l.Pairwise (λ a b=>ltN a.name b.name)/\∀n,H=some n->∀r∈l,ltN n r.name
 |[],H=>by simp only[ascR,eU,jR,eZ,jA,gC,true_iff];exact .nil
 |q::t,H=>by
  simp only[ascR,bX];rw[Vf t (some q.name)];constructor
  .rintro⟨Y,O,B,K,M⟩;refine⟨λ x hx=>?_,dB.2 ⟨λ x hx=>M _ rfl x hx,K⟩,λ n F x hx=>?_⟩
   .rcases cK.1 hx with rfl|hx
    .exact Y
    .exact B x hx
   .subst F;simp only[cD]at O;rcases cK.1 hx with rfl|hx
    .exact O
    .exact UC O (M _ rfl x hx)
  .rintro⟨Y,O,B⟩;have U:=dB.1 O;refine⟨Y q (.head _),?_,λ x hx=>Y x (.tail _ hx),U.2,λ n F x hx=>by cases F;exact U.1 x hx⟩;cases H with
   |none=>rfl
   |some n=>exact cP (B n rfl q (.head _))
def catV(l:List aH):Bool:=decide (l.length<=8)&&ascR l none
def cIq(l:List aH):catV l=true↔l.length<=8/\(∀r∈l,resV r=true)/\l.Pairwise (λ a b=>ltN a.name b.name):=by unfold catV;rw[bX,cD,Vf];simp
def cIr(O:List aH):∀(t H:List aH),O=H++t->
  walk (λ i q (_:Unit)=>some (if resV q=true/\(i=0\/ltN (O.getD (i-1) aH.zero).name q.name)then Sum.inl ()else Sum.inr (Sum.inr (α:=Unit) false))) (λ _=>Sum.inl (β:=Bool) ()) t H.length ()=
   some (if ascR t (H.getLast?.map (·.name))=true then .inl ()else .inr false):=by
 intro t;induction t with
 |nil=>intro H _;simp[walk,ascR]
 |cons q t F=>
  intro H K;simp only[walk];have B:(H.length=0\/ltN (O.getD (H.length-1) aH.zero).name q.name)↔(match H.getLast?.map (·.name)with|none=>true|some n=>decide (ltN n q.name))=true:=by
   by_cases U:H=[]
   .subst U;simp
   .have M:=UE H (q::t) aH.zero U;rw[K,M,jU U];have:H.length≠0:=λ e=>U (cY e);simp[this]
  by_cases e:resV q=true/\(H.length=0\/ltN (O.getD (H.length-1) aH.zero).name q.name)
  .rw[cA e];have:=F (H++[q]) (by rw[K];simp);rw[show(H++[q]).length=H.length+1 by simp]at this;simp only;have L:ascR (q::t) (H.getLast?.map (·.name))=ascR t (some q.name):=by simp only[ascR,e.1,B.1 e.2,cL]
   rw[this,L];simp
  .rw[bZ e];rw[B]at e;have V:ascR (q::t) (H.getLast?.map (·.name))=false:=by
    rw[dG];intro Y;simp only[ascR,bX]at Y;exact e ⟨Y.1,Y.2.1⟩
   rw[V];rfl
def cIs{body:Int->Option (Int⊕(Unit⊕Bool))}(t:List aH)(L:t.length<=8)
  (hb:∀i:Nat,i<t.length->body (i:Int)=some (if resV (t.getD i aH.zero)=true/\(i=0\/ltN (t.getD (i-1) aH.zero).name (t.getD i aH.zero).name)then .inl ((i+1:Nat):Int)else .inr (.inr false)))
  (O:body (t.length:Int)=some (.inr (.inl ()))):lS body 0=some (if ascR t none=true then .inl ()else .inr false):=by
 have H:=vM (body:=body) t aH.zero (λ i (_:Unit)=>(i:Int)) (λ i q _=>some (if resV q=true/\(i=0\/ltN (t.getD (i-1) aH.zero).name q.name)then Sum.inl ()else Sum.inr (Sum.inr (α:=Unit) false))) (λ _=>Sum.inl (β:=Bool) ())
  (λ i s K=>by
   rw[hb i K,lG];split<;>rfl) (λ s=>O) ()
 have:=cIr t t [] rfl;rw[show(0:Int)=(λ(i:Nat) (_:Unit)=>(i:Int)) 0 ()from rfl,H];exact this
def Vg(t:List aH):p5 t=some (catV t):=by
 unfold p5 catV
 by_cases U:8<t.length
 .have:¬t.length<=8:=om
  rw[cA (by simp;omega)];simp[this]
 .have K:t.length<=8:=om
  rw[bZ (by simp;omega),cIs t K (λ i L=>by
   unfold Jh;have H:0<=(i:Int)/\(i:Int)<(t.length:Int):=om
   simp only[H.1,H.2,cW,eZ,mD,cF,cG,lA,TJ,eF,lY i om]
   by_cases O:i=0
   .subst O;rw[lV (by simp)];cases resV (t.getD 0 aH.zero)<;>simp
   .rw[zR i om om,lV (by intro _;omega)];simp only[lA,show(0:Int)<(i:Int)by omega,cF,cL,O,jG];unfold ltN;rcases hb (resV (t.getD i aH.zero))with b1|b1<;>rcases hb (Op.bytesLess (t.getD (i-1) aH.zero).name.toList (t.getD i aH.zero).name.toList)with b2|b2<;>simp[b1,b2,-List.getD_eq_getElem?_getD]) (by unfold Jh;simp)]
  simp only[K,cF,cL];cases V:ascR t none<;>rfl
def newT(l:List aH):List aA×Int:=if catV l=true then(l.map Uz,0)else([],1)
def cIu(l:List aH):Bd l=some (newT l):=by
 unfold Bd newT;rw[Vg,eF];cases h:catV l with
 |false=>rfl
 |true=>
  have K:=((cIq l).1 h).1;rw[ifNT,x3 l aH.zero Uz [] om (by simp) (λ i s L U=>by
   unfold Jp;have H:0<=(i:Int)/\(i:Int)<(l.length:Int):=om
   have O:s.length+1<=4294967296:=om
   simp only[O,H.1,H.2,cW,mD,cF,cG,lA,lY i (show i<4611686018427387904 by omega)];rfl) (λ s=>by unfold Jp;simp)]
  rfl
def KE{α:Type}(l:List α)(i:Nat)(z:α)(h:i<l.length):l.set i (l.getD i z)=l:=by rw[cB,cE h,Xm,List.set_getElem_self]
def cIw{body:Int×List aA×List bL->Option ((Int×List aA×List bL)⊕(List aA×List bL))}(t:List aA)(f:aA->aA)(e:aA->List bL)(hl:t.length<=1000)(F:∀q∈t,(e q).length<=100)
  (hb:∀(i:Nat) (s:List aA) (ev:List bL),i<t.length->s.length=t.length->s.getD i aA.zero=t.getD i aA.zero->ev.length<=100000->body ((i:Int),s,ev)=some (.inl (((i+1:Nat):Int),s.set i (f (t.getD i aA.zero)),ev++e (t.getD i aA.zero))))
  (H:∀(s:List aA) (ev:List bL),s.length=t.length->body ((t.length:Int),s,ev)=some (.inr (s,ev))):lS body (0,t,[])=some (t.map f,t.flatMap e):=by
 have Y:∀i,i<=t.length->((t.take i).flatMap e).length<=100*i:=by
  intro i;induction i with
  |zero=>intro _;simp
  |succ i M=>intro L;rw[UA (z:=aA.zero) om,lO,cC];have:=M om;have h2:=F _ (mN (z:=aA.zero) (show i<t.length by omega));simp only[fN,List.flatMap_nil,eO];omega
 obtain⟨x,V,Z⟩:=nM (body:=body) (λ g=>∃i:Nat,i<=t.length/\g=((i:Int),(t.take i).map f++t.drop i,(t.take i).flatMap e)) (λ g=>t.length-g.1.toNat) (λ x=>x=(t.map f,t.flatMap e)) (by
  rintro g ⟨i,L,rfl⟩;have O:((t.take i).map f++t.drop i).length=t.length:=by rw[cC,dN,dC,eH];omega
  by_cases K:i<t.length
  .left;have U:((t.take i).map f).length=i:=by rw[dN,dC];omega
   have B:t.drop i=t.getD i aA.zero::t.drop (i+1):=by rw[gG K,cB,cE K];rfl
   have hg:((t.take i).map f++t.drop i).getD i aA.zero=t.getD i aA.zero:=by rw[cB,fA om,U,iA,B];rfl
   refine⟨_,hb i _ _ K O hg (by have:=Y i L;omega),⟨i+1,by omega,?_⟩,by simp only[Qm];omega⟩;rw[UA (z:=aA.zero) K,fG,lO];congr 2
   .rw[hX _ _ om,U,iA,B];simp
   .simp
  .right;have:i=t.length:=om
   subst this;refine⟨_,H _ _ O,?_⟩;simp) (0,t,[]) ⟨0,by omega,by simp⟩
 rw[V,Z]
def remE(p:aK)(q:aA):List bL:=if(pA q p).2.2=0 then(if getH q.aS p=aC.zero then[]else[BJ p q.aB.name aC.zero])++sV q.aB.name (pA q p).2.1 else[]
def remT(t:List aA)(p:aK):List aA×List bL:=if uR t=true then(t.map (remN · p),t.flatMap (remE p))else([],[])
def Ey(nm:ByteArray)(l:List aX):(sV nm l).length=l.length:=by unfold sV;rw[dN]
def Vh(p:aK)(q:aA):(remE p q).length<=17:=by
 unfold remE;have:=(Uv q p).2.2.2;split
 .rw[cC,Ey];split<;>simp<;>omega
 .simp
def KF{q:aA}(h:mK q=true)(p:aK):(remN q p).aB=q.aB:=
 (Ul h (p:=p) (x:={p with num:=p.num+1}) λ e=>by
  have H:p.num+1=p.num:=eA aK.num e;omega).2
def cJ0(t:List aA)(p:aK):Bo t p=some (remT t p):=by
 unfold Bo remT;rw[G6,eF];cases L:uR t with
 |false=>rfl
 |true=>
  have h:=(zV t).1 L;have hl:=h.len;rw[ifNT,cA rfl,lV om,cIw t (remN · p) (remE p) om (λ q _=>by have:=Vh p q;omega) (λ i s ev V B hg x0=>by
   have U:=h.each _ (mN (z:=aA.zero) V);have y0:=w9 U;have z0:=(Uv (t.getD i aA.zero) p).2.2.2;have O:0<=(i:Int)/\(i:Int)<((s.length:Nat):Int):=om
   have Z:=KF U p;unfold Gr;simp only[lA,hg];rw[cA (cP O.2),lV O,NO _ _ om om om,eF];cases K:hasQ (t.getD i aA.zero) p with
   |false=>
    have e:=NI U K;have F:(pA (t.getD i aA.zero) p).2.2≠0:=by rw[e];decide
    unfold remE remN;rw[bZ F,bZ F,cA (show(!false)=true from rfl),lY i om,eO,<-hg,KE _ _ _ om]
   |true=>
    have e:=Kq U K;rw[ifNT,lV O,vP _ _ om,eF];have hz:nP (getH (t.getD i aA.zero).aS p)=decide (getH (t.getD i aA.zero).aS p=aC.zero):=rfl;rw[hz];unfold remE;rw[cA e.1];have M:∀H:List bL,H.length<=1000000->Gq p ((i:Int),s,ev) H=some (.inl (((i+1:Nat):Int),s.set i (remN (t.getD i aA.zero) p),H++sV (t.getD i aA.zero).aB.name (pA (t.getD i aA.zero) p).2.1)):=λ H h0=>by unfold Gq;simp only[lA,hg];rw[lV O,Ur,eF,lV O,e.2,Z,KD _ _ om,eF,lV (by rw[Ey];omega),lY i om]
    by_cases Y:getH (t.getD i aA.zero).aS p=aC.zero
    .rw[bZ (nd0 Y),cA Y,M _ om,lD]
    .rw[cA (nd1 Y),bZ Y,lV O,lV om,M _ (by simp;omega),cJ];rfl) (λ s ev B=>by
   unfold Gr;simp only;rw[bZ (by rw[cD,B];omega)])]
  rfl
def Ez{t:List aA}(h:∀q∈t,mK q=true){p:aK}:p∈nW t↔∃q∈t,hasQ q p=true:=by
 unfold nW;rw[Es,fX];constructor
 .rintro⟨q,H,O⟩;exact⟨q,H,(Uq ((qA q).1 (h q H)).1).1 O⟩
 .rintro⟨q,H,O⟩;exact⟨q,H,(Uq ((qA q).1 (h q H)).1).2 O⟩
def Of(t:List aA):(nW t).Nodup:=GZ (GY _)
def ValidT.map{t:List aA}(h:ValidT t)(f:aA->aA)(Y:∀q∈t,mK (f q)=true)(O:∀q∈t,(f q).aB=q.aB)(B:∀q∈t,∀p,hasQ (f q) p=true->hasQ q p=true):ValidT (t.map f):=by
 have U:∀q∈t.map f,mK q=true:=λ q H=>by obtain⟨x,K,rfl⟩:=cQ.1 H;exact Y x K
 refine⟨by rw[dN];exact h.len,U,?_,?_⟩
 .have:=h.asc;unfold AscN at*;rw[kJ];exact this.imp_of_mem λ{a b} Z hb L=>by rw[O a Z,O b hb];exact L
 .refine dF (eJ (Of _) λ x K=>?_) h.aD;obtain⟨q,H,F⟩:=(Ez U).1 K;obtain⟨y,V,rfl⟩:=cQ.1 H;exact(Ez h.each).2 ⟨y,V,B y V x F⟩
def Og{t:List aA}(h:ValidT t)(p:aK):remT t p=(t.map (remN · p),t.flatMap (remE p)):=by unfold remT;rw[cA ((zV t).2 h)]
def cJ4{t:List aA}(h:ValidT t)(p:aK):ValidT (remT t p).1:=by rw[Og h];exact h.map _ (λ q H=>Uk (h.each q H) p) (λ q H=>KF (h.each q H) p) λ q H x K=>((Um (h.each q H) p x).1 K).1
def cJ5{t:List aA}(h:ValidT t)(p:aK):(remT t p).2.length<=136:=by
 rw[Og h];have:∀l:List aA,(l.flatMap (remE p)).length<=17*l.length:=by
  intro l;induction l with
  |nil=>simp
  |cons q l H=>rw[fN,cC,lE];have:=Vh p q;omega
 have O:=this t;have U:=h.len;show(t.flatMap (remE p)).length<=136;omega
inductive StepQ (q:aA):aA->Prop where
 |same:StepQ q q
 |claim (p:aK) (a:aC) (pr:Int) (h:(pV q p a pr).2.2=0):StepQ q (pV q p a pr).1
 |cancel (p:aK) (h:(pI q p).2.2=0):StepQ q (pI q p).1
 |lower (p:aK) (a:aC) (h:(nZ q p a).2.2=0):StepQ q (nZ q p a).1
 |remove (p:aK) (h:(pA q p).2.2=0):StepQ q (pA q p).1
def BL{q x:aA}(h:mK q=true)(K:StepQ q x):mK x=true/\x.aB=q.aB:=by
 have U:∀y:aA,(rD y).1.aB=y.aB:=λ y=>(Ud y).2;cases K with
 |same=>exact⟨h,rfl⟩
 |claim p a B O=>
  obtain⟨_,_,_,_,_,Y⟩:=Kn O;rcases Y with⟨_,e⟩|⟨_,_,e,H⟩|⟨_,_,_,e,H⟩
  .rw[e];exact⟨h,rfl⟩
  .rw[e,U];exact⟨Ep H,rfl⟩
  .rw[e,U];exact⟨Ep H,rfl⟩
 |cancel p O=>obtain⟨_,_,_,e,H⟩:=GV O;rw[e,U];exact⟨Ep H,rfl⟩
 |lower p a O=>
  obtain⟨_,_,_,_,_,Y⟩:=Er O;rcases Y with⟨_,e⟩|⟨_,e,H⟩
  .rw[e];exact⟨h,rfl⟩
  .rw[e,U];exact⟨Ep H,rfl⟩
 |remove p O=>obtain⟨_,_,_,e,H⟩:=ND O;rw[e,U];exact⟨Ep H,rfl⟩
def KG(q:aA)(x:aK):hasQ (rD q).1 x=hasQ q x:=by rw[vR,NF,Uj]
def cJ8{q:aA}{p:aK}{a:aC}{pr:Int}(h:(pV q p a pr).2.2=0){x:aK}(hx:hasQ (pV q p a pr).1 x=true):hasQ q x=true\/x=p:=by
 obtain⟨_,_,_,_,_,O⟩:=Kn h;rcases O with⟨_,e⟩|⟨_,_,e,_⟩|⟨_,_,_,e,_⟩
 .rw[e]at hx;exact .inl hx
 .rw[e,KG,qB]at hx;rcases hx with⟨w,hw,H⟩|hx
  .unfold ordQ claimC at hw;simp only[cX,dO]at hw;rcases hw with(hw|hw)|hw
   .exact .inl ((qB q x).2 (.inl ⟨w,dR _ hw,H⟩))
   .rw[hw]at H;exact .inr H.symm
   .exact .inl ((qB q x).2 (.inl ⟨w,dH _ hw,H⟩))
  .exact .inl ((qB q x).2 (.inr hx))
 .rw[e,KG,qB]at hx;rcases hx with⟨w,hw,H⟩|hx
  .unfold ordQ claimW vO at hw;simp only[cX,cK,cQ]at hw;rcases hw with hw|hw|hw|⟨y,K,rfl⟩
   .exact .inl ((qB q x).2 (.inl ⟨w,dR _ hw,H⟩))
   .exact .inl ((qB q x).2 (.inl ⟨w,dH _ (iD hw),H⟩))
   .rw[hw]at H;exact .inr H.symm
   .exact .inl ((qB q x).2 (.inl ⟨y,dH _ (iU K),H⟩))
  .exact .inl ((qB q x).2 (.inr hx))
def cJ9{q:aA}{p:aK}(h:(pI q p).2.2=0){x:aK}(hx:hasQ (pI q p).1 x=true):hasQ q x=true:=by
 obtain⟨_,_,_,e,_⟩:=GV h;rw[e,KG,qB]at hx;rcases hx with⟨w,hw,H⟩|hx
 .unfold ordQ xI at hw;simp only[cX,Bz]at hw;rcases hw with hw|hw
  .exact(qB q x).2 (.inl ⟨w,dR _ hw.1,H⟩)
  .exact(qB q x).2 (.inl ⟨w,dH _ hw.1,H⟩)
 .exact(qB q x).2 (.inr hx)
def cJa{q:aA}{p:aK}{a:aC}(h:(nZ q p a).2.2=0){x:aK}(hx:hasQ (nZ q p a).1 x=true):hasQ q x=true:=by
 obtain⟨_,_,H,_,_,O⟩:=Er h;rcases O with⟨_,e⟩|⟨_,e,_⟩
 .rw[e]at hx;exact hx
 .rw[e,KG,qB]at hx;rcases hx with hx|hx
  .exact(qB q x).2 (.inl hx)
  .refine(qB q x).2 (.inr ?_)
   by_cases e:x=p
   .rw[e];exact H
   .unfold uQ at hx;rwa [xG e]at hx
def ValidT.set{t:List aA}(h:ValidT t){i:Nat}(hi:i<t.length){q:aA}(p:aK)(h1:mK q=true)(h2:q.aB=(t.getD i aA.zero).aB)(h3:∀x,hasQ q x=true->x∈nW t\/x=p)
  (V:uU t p=false):ValidT (t.set i q):=by
 have Z:∀y∈t.set i q,mK y=true:=λ y L=>by
  rcases iY L with L|rfl
  .exact h.each y L
  .exact h1
 refine⟨by rw[dS];exact h.len,Z,?_,?_⟩
 .have ha:=h.asc;unfold AscN at*;rw[fE]at ha⊢;have hr:∀k (U:k<(t.set i q).length),((t.set i q)[k]).aB=(t[k]'(by rw[dS]at U;exact U)).aB:=λ k U=>by
   rw[List.getElem_set];split
   .next e=>subst e;rw[h2,cB,cE hi];rfl
   .rfl
  intro a b Y B F;rw[hr a Y,hr b B];exact ha a b _ _ F
 .have H:∀x∈nW (t.set i q),x∈nW t\/x=p:=λ x K=>by
   obtain⟨y,L,O⟩:=(Ez Z).1 K;rcases iY L with L|rfl
   .exact .inl ((Ez h.each).2 ⟨y,L,O⟩)
   .exact h3 x O
  have M:=h.aD
  by_cases O:p∈nW t
  .refine dF (eJ (Of _) (l₂:=nW t) λ x K=>?_) M;rcases H x K with K|rfl
   .exact K
   .exact O
  .have h5:(nW t).length<8:=by
    unfold uU at V;simp only[O,cO,dK,fB,dL]at V;omega
   have:=eJ (Of (t.set i q)) (l₂:=p::nW t) λ x K=>by
    rcases H x K with K|rfl
    .exact .tail _ K
    .exact .head _
   rw[lE]at this;omega
def Hf{t:List aA}(h:ValidT t){i:Nat}(hi:i<t.length){x:aK}(H:hasQ (t.getD i aA.zero) x=true):x∈nW t:=(Ez h.each).2 ⟨_,mN hi,H⟩
def Vi{t:List aA}{p:aK}(h:p∈nW t):uU t p=false:=by unfold uU;simp[h]
def Hg{t:List aA}{nm:ByteArray}{f:aA->ResT}(h:(atT t nm f).2.2=0):ValidT t/\∃i:Nat,nD t nm=i/\i<t.length/\(t.getD i aA.zero).aB.name=nm/\atT t nm f=f (t.getD i aA.zero):=by
 unfold atT at h⊢;cases K:uR t with
 |false=>rw[K,cA rfl]at h;exact absurd h Om
 |true=>
  rw[K,bZ Om]at h;rw[bZ Om]
  by_cases O:nD t nm<0
  .rw[cA O]at h;exact absurd h Om
  .rw[bZ O];rcases G5 (t:=t) (nm:=nm)with H|⟨i,H,U,Y⟩
   .omega
   .exact⟨(zV t).1 K,i,H,U,Y,by rw[H];rfl⟩
def Hh{t:List aA}{nm:ByteArray}{x:aA×List aX×Int}{ev:List bL}(h:(putT t nm x ev).2.2=0):x.2.2=0/\putT t nm x ev=(BK t (nD t nm) x.1,ev++sV nm x.2.1,0):=by
 unfold putT at h|-
 by_cases e:x.2.2=0
 .rw[cA e];exact⟨e,rfl⟩
 .rw[bZ e]at h;exact absurd h e
def EA(t:List aA)(i:Nat)(q:aA):BK t (i:Int) q=t.set i q:=by unfold BK;rw[cA om];rfl
def cJg{t:List aA}{p:aK}{a:aO}{pr:Int}(h:(tT t p a pr).2.2=0):∃i:Nat,i<t.length/\(t.getD i aA.zero).aB.name=a.name/\nD t a.name=i/\(pV (t.getD i aA.zero) p a.aJ pr).2.2=0/\(tT t p a pr).1=t.set i (pV (t.getD i aA.zero) p a.aJ pr).1/\ValidT t/\ValidT (tT t p a pr).1:=by
 unfold tT at h⊢;obtain⟨L,i,Y,H,B,e⟩:=Hg h;rw[e]at h⊢;cases K:uU t p with
 |true=>rw[K,cA rfl]at h;exact absurd h Om
 |false=>
  rw[K,bZ Om]at h;rw[bZ Om];obtain⟨O,F⟩:=Hh h;rw[F,Y,EA];have M:=L.each _ (mN (z:=aA.zero) H);have U:=BL M (.claim p a.aJ pr O);refine⟨i,H,B,rfl,O,rfl,L,L.set H p U.1 U.2 (λ x hx=>?_) K⟩;rcases cJ8 O hx with hx|hx
  .exact .inl (Hf L H hx)
  .exact .inr hx
def cJh{t:List aA}{p:aK}{nm:ByteArray}(h:(b5 t p nm).2.2=0):∃i:Nat,i<t.length/\(b5 t p nm).1=t.set i (pI (t.getD i aA.zero) p).1/\ValidT t/\ValidT (b5 t p nm).1:=by
 unfold b5 at h⊢;obtain⟨K,i,Y,H,Z,e⟩:=Hg h;rw[e]at h⊢;obtain⟨O,B⟩:=Hh h;rw[B,Y,EA];have F:=K.each _ (mN (z:=aA.zero) H);have U:=BL F (.cancel p O);obtain⟨_,_,L,_,_⟩:=GV O;have M:hasQ (t.getD i aA.zero) p=true:=by unfold hasQ;rw[L];rfl
 exact⟨i,H,rfl,K,K.set H p U.1 U.2 (λ x V=>.inl (Hf K H (cJ9 O V))) (Vi (Hf K H M))⟩
def Vj{t:List aA}{p:aK}{a:aO}(h:(qI t p a).2.2=0):∃i:Nat,i<t.length/\(qI t p a).1=t.set i (nZ (t.getD i aA.zero) p a.aJ).1/\ValidT t/\ValidT (qI t p a).1:=by unfold qI at h⊢;obtain⟨K,i,B,H,Z,e⟩:=Hg h;rw[e]at h⊢;obtain⟨O,F⟩:=Hh h;rw[F,B,EA];have M:=K.each _ (mN (z:=aA.zero) H);have Y:=BL M (.lower p a.aJ O);obtain⟨_,_,U,_,_,_⟩:=Er O;have L:hasQ (t.getD i aA.zero) p=true:=(qB _ _).2 (.inr U);exact⟨i,H,rfl,K,K.set H p Y.1 Y.2 (λ x V=>.inl (Hf K H (cJa O V))) (Vi (Hf K H L))⟩
end Ab
end Go.Proofs.YtfmnjkfhahfhgaaGreatDoor
