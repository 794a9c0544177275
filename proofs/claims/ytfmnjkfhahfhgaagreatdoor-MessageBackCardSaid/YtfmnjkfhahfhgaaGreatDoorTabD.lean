import Derived.Test.YtfmnjkfhahfhgaaGreatDoorTabB
import Derived.Test.YtfmnjkfhahfhgaaGreatDoorLinB
import Derived.Laws.Bits64
import Derived.Laws.BitsLemmas
import Derived.KernelRfl
namespace Go.Proofs.YtfmnjkfhahfhgaaGreatDoor
namespace Ab
set_option linter.defProp false
set_option linter.unusedVariables false
set_option linter.unusedSimpArgs false
mutual
def mX:aS->Int
 |⟨_,_,ks⟩=>1+nF ks
def nF:List aS->Int
 |[]=>0
 |k::l=>max (mX k) (nF l)
end
mutual
def mQ:aS->Int
 |⟨_,_,ks⟩=>1+nT ks
def nT:List aS->Int
 |[]=>0
 |k::l=>mQ k+nT l
end
def oO(a:aC):Bool:=pR a
mutual
def okE:aS->Bool
 |⟨k,a,ks⟩=>if ks.length=0 then decide (k=0)&&nY a.name&&oO a.aJ else decide (1<=k)&&decide (k<=(ks.length:Int))&&decide (a=aO.zero)&&okL ks
def okL:List aS->Bool
 |[]=>true
 |k::l=>okE k&&okL l
end
mutual
def yR:aS->List aO
 |⟨_,a,ks⟩=>if ks.length=0 then[a]else vS ks
def vS:List aS->List aO
 |[]=>[]
 |k::l=>yR k++vS l
end
def Ls(e:aS):mX e=1+nF e.bG:=by cases e;rw[mX]
def uS(e:aS):mQ e=1+nT e.bG:=by cases e;rw[mQ]
def Lt(e:aS):okE e=if e.bG.length=0 then decide (e.k=0)&&nY e.aZ.name&&oO e.aZ.aJ else decide (1<=e.k)&&decide (e.k<=(e.bG.length:Int))&&decide (e.aZ=aO.zero)&&okL e.bG:=by cases e;rw[okE]
def H2(e:aS):yR e=if e.bG.length=0 then[e.aZ]else vS e.bG:=by cases e;rw[yR]
def VE:nF []=0:=by rw[nF]
def H3(k:aS)(l:List aS):nF (k::l)=max (mX k) (nF l):=by rw[nF]
def OX:nT []=0:=by rw[nT]
def Cq(k:aS)(l:List aS):nT (k::l)=mQ k+nT l:=by rw[nT]
def yS{e k:aS}{n:Nat}(h:_root_.SizeOf.sizeOf e<n+1)(H:k∈e.bG):_root_.SizeOf.sizeOf k<n:=by have O:=jQ H;cases e;simp at h O;omega
def Lu:∀(n:Nat) (e:aS),_root_.SizeOf.sizeOf e<n->1<=mX e/\1<=mQ e/\mX e<=mQ e/\((yR e).length:Int)<=mQ e
 |0,_,h=>om
 |n+1,e,h=>by
  have H:∀l:List aS,(∀k∈l,k∈e.bG)->0<=nF l/\0<=nT l/\nF l<=nT l/\(l.length:Int)<=nT l/\((vS l).length:Int)<=nT l:=by
   intro l;induction l with
   |nil=>intro _;simp[nF,nT,vS]
   |cons k l O=>intro K;obtain⟨U,Y,B,F,M⟩:=O λ x L=>K x (.tail _ L);obtain⟨V,Z,g3,g4⟩:=Lu n k (yS h (K k (.head _)));simp only[nF,nT,vS,cA,ym];refine⟨?_,?_,?_,?_,?_⟩<;>omega
  obtain⟨U,Y,B,F,M⟩:=H e.bG λ _ h=>h;rw[Ls,uS,H2];refine⟨by omega,by omega,by omega,?_⟩;split
  .simp;omega
  .omega
def m6(e:aS):1<=mX e:=(Lu _ e (eT _)).1
def yT(e:aS):1<=mQ e:=(Lu _ e (eT _)).2.1
def VF(e:aS):((yR e).length:Int)<=mQ e:=(Lu _ e (eT _)).2.2.2
def H4:∀l:List aS,0<=nF l
 |[]=>by simp[nF]
 |k::l=>by have:=H4 l;have:=m6 k;rw[H3];omega
def tC:∀l:List aS,(l.length:Int)<=nT l
 |[]=>by simp[nT]
 |k::l=>by have:=tC l;have:=yT k;simp only[nT,ym];omega
def VG{a:Int}(Y:1<=a)(B:a<=4)(F:aS->Int->Option (Int×Int)):∀(l:List aS),(∀k∈l,∀c,0<=c->c<=24->∃O,F k c=some (if a+1+mX k<=5/\c+mQ k<=24 then(mX k,c+mQ k)else(0,O)))->
  ∀(i:Nat) (m c:Int),0<=m->0<=c->c<=24->∃O,walk (λ _ k (s:Int×Int)=>(F k s.2).bind λ v=>if v.1=0 then some (.inr (Sum.inr (0,v.2)))else some (.inl (if s.1<v.1 then v.1 else s.1,v.2))) (λ s=>Sum.inl (β:=Int×Int) s) l i (m,c)=
   some (if a+1+nF l<=5/\c+nT l<=24 then .inl (if m<nF l then nF l else m,c+nT l)else .inr (0,O))
 |[],_,i,m,c,hm,L,K=>⟨0,by rw[VE,OX,cB om];simp only[walk];rw[bX om,iR]⟩
 |k::l,V,i,m,c,hm,L,K=>by
  obtain⟨M,H⟩:=V k (.head _) c L K;have p1:=m6 k;have p2:=yT k;have p3:=H4 l;have p4:=tC l
  by_cases U:a+1+mX k<=5/\c+mQ k<=24
  .rw[cB U]at H;obtain⟨c2,e2⟩:=VG Y B F l (λ x hx=>V x (.tail _ hx)) (i+1) (if m<mX k then mX k else m) (c+mQ k) (by split<;>omega) om U.2;refine⟨c2,?_⟩;rw[H3,Cq];simp only[walk,H,qm,bX (show¬mX k=0 by omega),e2]
   by_cases Z:a+1+nF l<=5/\c+mQ k+nT l<=24
   .rw[cB Z,cB (show a+1+max (mX k) (nF l)<=5/\c+(mQ k+nT l)<=24 by omega),show c+(mQ k+nT l)=c+mQ k+nT l by omega];refine dZ some (dZ Sum.inl (Prod.ext ?_ rfl));show(if(if m<mX k then mX k else m)<nF l then nF l else if m<mX k then mX k else m)=if m<max (mX k) (nF l)then max (mX k) (nF l)else m
    by_cases q1:m<mX k<;>by_cases q2:m<nF l<;>by_cases q3:mX k<nF l<;>simp only[q1,q2,q3,cH,cI]<;>(repeat' split)<;>omega
   .rw[bX Z,bX om]
  .rw[bX U]at H;refine⟨M,?_⟩;rw[H3,Cq];simp only[walk,H,qm,cH];rw[bX om]
def VH:∀(n:Nat) (e:aS),_root_.SizeOf.sizeOf e<n->∀a c,1<=a->a<=5->0<=c->c<=24->∃H,zT n e a c=some (if a+mX e<=5/\c+mQ e<=24 then(mX e,c+mQ e)else(0,H))
 |0,_,h,_,_,_,_,_,_=>om
 |n+1,e,h,a,c,h1,h5,M,O=>by
  show∃H,Dn (zT n) e a c=_;unfold Dn;have p1:=m6 e;have p2:=yT e;have w1:IntKind.i64.wrap (c+1)=c+1:=mB om om;have w2:IntKind.i64.wrap (a+1)=a+1:=mB om om;rw[w1]
  by_cases L:4<a\/24<c+1
  .rw[cB (by simpa using L)];exact⟨c+1,by rw[bX om]⟩
  .rw[bX (by simpa using L)];have V:∀k∈e.bG,∀c,0<=c->c<=24->∃H,zT n k (a+1) c=some (if a+1+mX k<=5/\c+mQ k<=24 then(mX k,c+mQ k)else(0,H)):=
    λ k B c M O=>VH n k (yS h B) (a+1) c om om M O
   have F:=rD (body:=F8 (zT n) e a) e.bG aS.zero (λ i (s:Int×Int)=>(s.1,(i:Int),s.2))
    (λ _ k (s:Int×Int)=>(zT n k (a+1) s.2).bind λ v=>if v.1=0 then some (.inr (Sum.inr (0,v.2)))else some (.inl (if s.1<v.1 then v.1 else s.1,v.2))) (λ s=>Sum.inl (β:=Int×Int) s)
    (λ i s=>(i:Int)<s.2/\s.2<=24) (λ i s Z hs=>by
     have B:=mS (z:=aS.zero) Z;obtain⟨H,Y⟩:=V _ B s.2 om hs.2;have p2:=yT (e.bG.getD i aS.zero);have p3:=m6 (e.bG.getD i aS.zero);refine⟨?_,λ s' K=>?_⟩
     .unfold F8;simp only;rw[cB (by simpa using Z),gdp om,w2];simp only[Qm,Y,qm,cC,mF i (show i<4611686018427387904 by omega)]
      by_cases U:a+1+mX (e.bG.getD i aS.zero)<=5/\s.2+mQ (e.bG.getD i aS.zero)<=24
      .simp only[U,cX,cH,bX (show¬mX (e.bG.getD i aS.zero)=0 by omega)];rfl
      .simp only[U,cI,cH];rfl
     .rw[Y,eF]at K
      by_cases U:a+1+mX (e.bG.getD i aS.zero)<=5/\s.2+mQ (e.bG.getD i aS.zero)<=24
      .simp only[U,cX,cH,bX (show¬mX (e.bG.getD i aS.zero)=0 by omega),cJ,fN]at K;subst K;simp only;omega
      .simp only[U,cI,cH,cJ,reduceCtorEq]at K)
    (λ s hs=>by unfold F8;simp) (0,c+1) (by simp only;omega)
   rw[show((0,0,c+1):Int×Int×Int)=(λ(i:Nat) (s:Int×Int)=>(s.1,(i:Int),s.2)) 0 (0,c+1)from rfl,F];obtain⟨H,Y⟩:=VG h1 om (λ k c=>zT n k (a+1) c) e.bG V 0 0 (c+1) Om om om;refine⟨H,?_⟩;rw[Y,eF,Ls e,uS e];have p3:=H4 e.bG
   by_cases hh:a+1+nF e.bG<=5/\c+1+nT e.bG<=24
   .rw[cB hh,cB (show a+(1+nF e.bG)<=5/\c+(1+nT e.bG)<=24 by omega)];have:(if 0<nF e.bG then nF e.bG else 0)=nF e.bG:=by split<;>omega
    rw[this];show some (IntKind.i64.wrap (nF e.bG+1),c+1+nT e.bG)=_;rw[mB om om,show nF e.bG+1=1+nF e.bG by omega,show c+1+nT e.bG=c+(1+nT e.bG)by omega]
   .rw[bX hh,bX om]
def fitE(e:aS):Bool:=decide (mX e<=4)&&decide (mQ e<=24)
def cFq(e:aS):Dw e=some (if fitE e=true then mX e else 0):=by
 unfold Dw Js;obtain⟨H,h⟩:=VH _ e (eT _) 1 0 Om Om Om Om;rw[h,eF];unfold fitE
 by_cases c:1+mX e<=5/\0+mQ e<=24
 .rw[cB c,cB (by simp;omega)]
 .rw[bX c,bX (by simp;omega)]
def VI{a:Int}(U:1<=a)(Y:a<=4)(F:aS->Option (Int×Int)):∀(l:List aS),(∀k∈l,F k=some (if a+1+mX k<=5/\mQ k<=24 then(mQ k,mX k)else(25,0)))->
  ∀(i:Nat) (c m:Int),0<=m->1<=c->c<=24->walk (λ _ k (s:Int×Int)=>(F k).bind λ v=>if 24<s.1+v.1 then some (.inr (Sum.inr (25,0)))else some (.inl (s.1+v.1,if s.2<v.2 then v.2 else s.2))) (λ s=>Sum.inl (β:=Int×Int) s) l i (c,m)=
   some (if a+1+nF l<=5/\c+nT l<=24 then .inl (c+nT l,if m<nF l then nF l else m)else .inr (25,0))
 |[],_,i,c,m,hm,Z,K=>by rw[VE,OX,cB om];simp only[walk];rw[bX om,iR]
 |k::l,L,i,c,m,hm,Z,K=>by
  have H:=L k (.head _);have p1:=m6 k;have p2:=yT k;have p3:=H4 l;have p4:=tC l;rw[H3,Cq]
  by_cases B:a+1+mX k<=5/\c+mQ k<=24
  .rw[cB om]at H;have M:=VI U Y F l (λ x hx=>L x (.tail _ hx)) (i+1) (c+mQ k) (if m<mX k then mX k else m) (by split<;>omega) om B.2;simp only[walk,H,qm,bX (show¬24<c+mQ k by omega),M]
   by_cases V:a+1+nF l<=5/\c+mQ k+nT l<=24
   .rw[cB V,cB (show a+1+max (mX k) (nF l)<=5/\c+(mQ k+nT l)<=24 by omega),show c+(mQ k+nT l)=c+mQ k+nT l by omega];refine dZ some (dZ Sum.inl (Prod.ext rfl ?_));show(if(if m<mX k then mX k else m)<nF l then nF l else if m<mX k then mX k else m)=if m<max (mX k) (nF l)then max (mX k) (nF l)else m
    by_cases q1:m<mX k<;>by_cases q2:m<nF l<;>by_cases q3:mX k<nF l<;>simp only[q1,q2,q3,cH,cI]<;>(repeat' split)<;>omega
   .rw[bX V,bX om]
  .rw[bX om];simp only[walk,H,qm]
   by_cases O:a+1+mX k<=5/\mQ k<=24
   .rw[cB O,cB (by simp only;omega)]
   .rw[bX O,cB (by simp only;omega)]
def VJ:∀(n:Nat) (e:aS),_root_.SizeOf.sizeOf e<n->∀a,1<=a->a<=5->zY n e a=some (if a+mX e<=5/\mQ e<=24 then(mQ e,mX e)else(25,0))
 |0,_,h,_,_,_=>om
 |n+1,e,h,a,V,h5=>by
  show Du (zY n) e a=_;unfold Du;have p1:=m6 e;have p4:=tC e.bG;have Z:IntKind.i64.wrap (a+1)=a+1:=mB om om
  by_cases Y:4<a\/24<(e.bG.length:Int)
  .rw[cB (by simpa using Y),bX (by rw[uS];omega)]
  .rw[bX (by simpa using Y)];have B:∀k∈e.bG,zY n k (a+1)=some (if a+1+mX k<=5/\mQ k<=24 then(mQ k,mX k)else(25,0)):=
    λ k O=>VJ n k (yS h O) (a+1) om om
   have U:=rD (body:=Dt (zY n) e a) e.bG aS.zero (λ i (s:Int×Int)=>(s.1,s.2,(i:Int)))
    (λ _ k (s:Int×Int)=>(zY n k (a+1)).bind λ v=>if 24<s.1+v.1 then some (.inr (Sum.inr (25,0)))else some (.inl (s.1+v.1,if s.2<v.2 then v.2 else s.2))) (λ s=>Sum.inl (β:=Int×Int) s)
    (λ i s=>1<=s.1/\s.1<=24) (λ i s L hs=>by
     have O:=mS (z:=aS.zero) L;have F:=B _ O;have p2:=yT (e.bG.getD i aS.zero);refine⟨?_,λ s' K=>?_⟩
     .unfold Dt;simp only;rw[cB (by simpa using L),gdp om,Z];simp only[Qm,F,qm,cC];unfold JC
      by_cases H:a+1+mX (e.bG.getD i aS.zero)<=5/\mQ (e.bG.getD i aS.zero)<=24
      .rw[cB H];simp only[mF i (show i<4611686018427387904 by omega),mB (x:=s.1+mQ (e.bG.getD i aS.zero)) om om,cC]
       repeat' split
       all_goals first|rfl|omega
      .rw[bX H];simp only[mB (x:=s.1+25) om om,cC,cB (show 24<s.1+25 by omega),kU];rfl
     .rw[F,eF]at K
      by_cases H:a+1+mX (e.bG.getD i aS.zero)<=5/\mQ (e.bG.getD i aS.zero)<=24
      .simp only[H,cX,cH]at K;split at K
       .cases K
       .simp only[cJ,fN]at K;subst K;simp only;omega
      .simp only[H,cI,cB (show 24<s.1+25 by omega),cJ,reduceCtorEq]at K)
    (λ s hs=>by unfold Dt;simp) (1,0) (by simp only;omega)
   rw[show((1,0,0):Int×Int×Int)=(λ(i:Nat) (s:Int×Int)=>(s.1,s.2,(i:Int))) 0 (1,0)from rfl,U];rw[VI V om (λ k=>zY n k (a+1)) e.bG B 0 1 0 om om om,eF,Ls e,uS e];have p3:=H4 e.bG
   by_cases M:a+1+nF e.bG<=5/\1+nT e.bG<=24
   .rw[cB M,cB (show a+(1+nF e.bG)<=5/\1+nT e.bG<=24 by omega)];have:(if 0<nF e.bG then nF e.bG else 0)=nF e.bG:=by split<;>omega
    rw[this];show some (1+nT e.bG,IntKind.i64.wrap (nF e.bG+1))=_;rw[mB om om,show nF e.bG+1=1+nF e.bG by omega]
   .rw[bX M,bX om]
def cFt(e:aS):Dz e=some (if fitE e=true then mQ e else 0):=by
 unfold Dz JD;have p:=yT e;rw[VJ _ e (eT _) 1 Om Om,eF];unfold fitE
 by_cases c:1+mX e<=5/\mQ e<=24
 .rw[cB c];simp only[show¬24<mQ e by omega,show mX e<=4 by omega,c.2,cF,cP,gP,bZ,cH,cI]
 .rw[bX c];have:(decide (mX e<=4)&&decide (mQ e<=24))=false:=by rw[dJ];simp;omega
  rw[this];rfl
def tD(a:aO):List aO->Option Bool
 |[]=>none
 |x::l=>if a=x then some true else if(a.name.toList==x.name.toList)=true then some false else tD a l
def m7(a:aO)(l:List aO):Int×List aO:=
 match tD a l with
 |some true=>(0,l)
 |some false=>(13,l)
 |none=>if l.length=8 then(4,l)else(0,l++[a])
def Cr(a:aO)(l:List aO):Option (List aO):=if(m7 a l).1=0 then some (m7 a l).2 else none
def tE:List aO->List aO->Option (List aO)
 |[],l=>some l
 |a::az,l=>(Cr a l).bind (tE az)
def VK:∀(x y l:List aO),tE (x++y) l=(tE x l).bind (tE y)
 |[],y,l=>rfl
 |a::x,y,l=>by
  simp only[Jm,tE];cases Cr a l with
  |none=>rfl
  |some H=>exact VK x y H
def cFz{a:aO}{l:List aO}(h:l.length<=8):(m7 a l).2.length<=8:=by
 unfold m7;split
 .exact h
 .exact h
 .split
  .exact h
  .simp;omega
def OY:∀{x l r:List aO},l.length<=8->tE x l=some r->r.length<=8
 |[],l,r,h,e=>by cases e;exact h
 |a::x,l,r,h,e=>by
  simp only[tE]at e;unfold Cr at e;split at e
  .exact OY (cFz h) e
  .cases e
def cG1(a:aO)(l:List aO)(h:l.length<=8):A1 a l=some (m7 a l):=by
 unfold A1;have L:∀(t:List aO) (i:Nat),walk (λ _ x (_:Unit)=>if a=x then some (.inr (Sum.inr ((0:Int),l)))else if(a.name.toList==x.name.toList)=true then some (.inr (Sum.inr ((13:Int),l)))else some (.inl ())) (λ _=>Sum.inl (β:=Int×List aO) ()) t i ()=
   some (match tD a t with|some true=>.inr (0,l)|some false=>.inr (13,l)|none=>.inl ()):=by
  intro t;induction t with
  |nil=>intro i;rfl
  |cons x t O=>
   intro i;simp only[walk,tD]
   by_cases c:a=x
   .simp only[c,cH]
   .by_cases K:(a.name.toList==x.name.toList)=true
    .simp only[c,K,cH,cI]
    .simp only[c,K,cI];exact O (i+1)
 have H:=wP (body:=FY a l) l aO.zero (λ i (_:Unit)=>(i:Int))
  (λ _ x (_:Unit)=>if a=x then some (.inr (Sum.inr ((0:Int),l)))else if(a.name.toList==x.name.toList)=true then some (.inr (Sum.inr ((13:Int),l)))else some (.inl ())) (λ _=>Sum.inl (β:=Int×List aO) ())
  (λ i s U=>by
   unfold FY;rw[cB (by simpa using U),gdp om,mF i om];simp only[Qm,cC]
   repeat' split
   all_goals rfl)
  (λ s=>by unfold FY;simp) ()
 rw[show(0:Int)=(λ(i:Nat) (_:Unit)=>(i:Int)) 0 ()from rfl,H,L,eF];unfold m7;cases tD a l with
 |none=>
  simp only;unfold M9
  by_cases c:l.length=8
  .rw[cB (by simp[c]),cB c]
  .rw[bX (by simp;omega),bX c,gdp om]
 |some b=>cases b<;>rfl
def qC(e:aS)(l:List aO):Option (List aO):=if okE e=true then tE (yR e) l else none
def AD(H:List aS)(l:List aO):Option (List aO):=if okL H=true then tE (vS H) l else none
def cG4(k:aS)(H:List aS)(l:List aO):AD (k::H) l=(qC k l).bind (AD H):=by
 unfold AD qC;simp only[okL,vS,VK];cases okE k
 .simp
 .simp only[cN,cH];cases tE (yR k) l with
  |none=>simp
  |some r=>simp only[qm]
def cG5(a:aO):Bx a=some (nY a.name&&oO a.aJ):=by unfold Bx;rw[HN,eF];congr 2
def VL(F:aS->List aO->Option (Bool×List aO)):∀(O:List aS),(∀k∈O,∀l,l.length<=8->∃r,F k l=some (match qC k l with|some H=>(true,H)|none=>(false,r)))->
  ∀(i:Nat) (l:List aO),l.length<=8->∃r,walk (λ _ k (s:List aO)=>(F k s).bind λ v=>if(!v.1)=true then some (.inr (Sum.inr (false,v.2)))else some (.inl v.2)) (λ s=>Sum.inl (β:=Bool×List aO) s) O i l=
   some (match AD O l with|some H=>.inl H|none=>.inr (false,r))
 |[],_,i,l,L=>⟨[],by simp[walk,AD,okL,vS,tE]⟩
 |k::O,Z,i,l,L=>by
  obtain⟨r,e⟩:=Z k (.head _) l L;rw[cG4];cases K:qC k l with
  |none=>rw[K]at e;refine⟨r,?_⟩;simp only[walk,e,qm,Option.bind_none,dL,cH]
  |some H=>
   rw[K]at e;have V:H.length<=8:=by
    unfold qC at K;split at K
    .exact OY L K
    .cases K
   obtain⟨U,Y⟩:=VL F O (λ x hx=>Z x (.tail _ hx)) (i+1) H V;refine⟨U,?_⟩;simp only[walk,e,qm,cR,bZ,cI,Y]
def cG7{e:aS}{l O:List aO}(K:l.length<=8)(H:qC e l=some O):O.length<=8:=by
 unfold qC at H;split at H
 .exact OY K H
 .cases H
def VM:∀(n:Nat) (e:aS),_root_.SizeOf.sizeOf e<n->mQ e<=24->∀l,l.length<=8->∃r,yA n e l=some (match qC e l with|some U=>(true,U)|none=>(false,r))
 |0,_,h,_,_,_=>om
 |n+1,e,h,hn,l,L=>by
  show∃r,GN (yA n) e l=_;unfold GN;have p4:=tC e.bG;have h0:=uS e
  by_cases c:e.bG.length=0
  .rw[cB (by simpa using c),cG5];have B:qC e l=if e.k=0/\nY e.aZ.name=true/\oO e.aZ.aJ=true then Cr e.aZ l else none:=by
    unfold qC;rw[Lt,H2,cB c,cB c];simp only[tE,bY,cC,fV];split
    .cases Cr e.aZ l<;>rfl
    .rfl
   rw[B]
   by_cases H:e.k=0
   .simp only[H,cF,cH,qm,cN,gG]
    by_cases V:nY e.aZ.name=true/\oO e.aZ.aJ=true
    .simp only[V.1,V.2,gP,cX,cH,cG1 e.aZ l L,qm,cN];refine⟨(m7 e.aZ l).2,?_⟩;unfold Cr
     by_cases c3:(m7 e.aZ l).1=0
     .simp only[c3,cF,cH]
     .simp only[c3,cP,cI]
    .have:(nY e.aZ.name&&oO e.aZ.aJ)=false:=by rw[dJ];simpa using V
     simp only[this,V,bZ,cI,fA];exact⟨l,rfl⟩
   .simp only[H,cP,bZ,cI,qm,fA,iT];exact⟨l,rfl⟩
  .rw[bX (by simpa using c)];have B:qC e l=if 1<=e.k/\e.k<=(e.bG.length:Int)/\e.aZ=aO.zero then AD e.bG l else none:=by
    unfold qC AD;rw[Lt,H2,bX c,bX c]
    by_cases q1:1<=e.k<;>by_cases q2:e.k<=(e.bG.length:Int)<;>by_cases q3:e.aZ=aO.zero<;>simp[q1,q2,q3]
   rw[B]
   by_cases H:1<=e.k/\e.k<=(e.bG.length:Int)/\e.aZ=aO.zero
   .rw[cB H,bX (by simp[H.2.2];omega)];have hF:∀k∈e.bG,∀l,l.length<=8->∃r,yA n k l=some (match qC k l with|some U=>(true,U)|none=>(false,r)):=by
     intro k hk l L;refine VM n k (yS h hk) ?_ l L;have:∀(O:List aS),k∈O->mQ k<=nT O:=by
      intro O;induction O with
      |nil=>intro h;cases h
      |cons x O ih=>
       intro h;rw[Cq];have p1:=yT x;have p2:=tC O;rcases cL.1 h with rfl|h
       .omega
       .have:=ih h;omega
     have:=this e.bG hk;omega
    have F:=rD (body:=GM (yA n) e) e.bG aS.zero (λ i (s:List aO)=>((i:Int),s))
     (λ _ k (s:List aO)=>(yA n k s).bind λ v=>if(!v.1)=true then some (.inr (Sum.inr (false,v.2)))else some (.inl v.2)) (λ s=>Sum.inl (β:=Bool×List aO) s)
     (λ i s=>s.length<=8) (λ i s hi M=>by
      obtain⟨r,Y⟩:=hF _ (mS (z:=aS.zero) hi) s M;refine⟨?_,λ s' K=>?_⟩
      .unfold GM;simp only;rw[cB (by simpa using hi),gdp om];simp only[Qm,Y,qm,mF i (show i<4611686018427387904 by omega)];cases qC (e.bG.getD i aS.zero) s<;>rfl
      .rw[Y,eF]at K;cases Z:qC (e.bG.getD i aS.zero) s with
       |none=>rw[Z]at K;simp at K
       |some U=>
        rw[Z]at K;simp only[cR,bZ,cI,cJ,fN]at K;subst K;exact cG7 M Z)
     (λ s M=>by unfold GM;simp) l L
    rw[show((0,l):Int×List aO)=(λ(i:Nat) (s:List aO)=>((i:Int),s)) 0 l from rfl,F];obtain⟨r,Y⟩:=VL (yA n) e.bG hF 0 l L;rw[Y,eF];refine⟨r,?_⟩;cases AD e.bG l<;>rfl
   .rw[bX H,cB (by
     simp only[dS,cC,dA,dF]
     by_cases q:e.aZ=aO.zero
     .left;have:=mt (λ h:1<=e.k/\e.k<=(e.bG.length:Int)=>(⟨h.1,h.2,q⟩:1<=e.k/\e.k<=(e.bG.length:Int)/\e.aZ=aO.zero)) H;omega
     .exact .inr q)]
    exact⟨l,rfl⟩
def cG9(e:aS):Ae e=some (fitE e&&(qC e []).isSome):=by
 unfold Ae;rw[cFq,eF];have p:=m6 e;cases K:fitE e with
 |false=>rfl
 |true=>
  simp only[cH,show¬mX e=0 by omega,cP,dL,cN];unfold Kl;have H:mQ e<=24:=by unfold fitE at K;simp at K;omega
  obtain⟨r,O⟩:=VM _ e (eT _) H [] (by simp);rw[O,eF];cases qC e []<;>rfl
def addA(a:aO)(l:List aO):List aO:=if a∈l then l else l++[a]
def addS:List aO->List aO->List aO
 |[],l=>l
 |a::az,l=>addS az (addA a l)
def VN:∀(x y l:List aO),addS (x++y) l=addS y (addS x l)
 |[],_,_=>rfl
 |a::x,y,l=>VN x y (addA a l)
def cGb(a:aO)(l:List aO):∃t,addA a l=l++t:=by
 unfold addA;split
 .exact⟨[],by simp⟩
 .exact⟨[a],rfl⟩
def OZ:∀(x l:List aO),∃t,addS x l=l++t
 |[],l=>⟨[],by simp[addS]⟩
 |a::x,l=>by obtain⟨H,O⟩:=cGb a l;obtain⟨U,Y⟩:=OZ x (addA a l);exact⟨H++U,by rw[addS,Y,O,cG]⟩
def O0:∀(x l:List aO),(addS x l).length<=l.length+x.length
 |[],l=>by simp[addS]
 |a::x,l=>by
  have H:=O0 x (addA a l);have O:(addA a l).length<=l.length+1:=by unfold addA;split<;>simp
  simp only[addS,ym];omega
def dnN(l:List aO):Prop:=l.Pairwise λ x y=>(x.name.toList==y.name.toList)=false
def VO{a:aO}:∀{l:List aO},dnN l->a∈l->tD a l=some true
 |x::l,h,hm=>by
  unfold dnN at h;rw[dD]at h;unfold tD
  by_cases c:a=x
  .rw[cB c]
  .rw[bX c];rcases cL.1 hm with e|hm
   .exact absurd e c
   .have:=h.1 a hm;rw[bX (by rw[dN];intro e;rw[e]at this;simp at this)];exact VO h.2 hm
def O1{a:aO}:∀{l:List aO},tD a l=none->∀x∈l,(x.name.toList==a.name.toList)=false
 |y::l,h,x,hx=>by
  unfold tD at h;split at h
  .cases h
  .split at h
   .cases h
   .rename_i O H;rcases cL.1 hx with rfl|hx
    .rw[dJ];intro e;rw[dN]at e;exact H (by rw[dN];exact e.symm)
    .exact O1 h x hx
def VP{a:aO}:∀{l:List aO},dnN l->tD a l=some false->a∉l/\∃x∈l,(x.name.toList==a.name.toList)=true
 |y::l,K,h=>by
  refine⟨λ hm=>?_,?_⟩
  .rw[VO K hm]at h;cases h
  .unfold tD at h;split at h
   .cases h
   .split at h
    .rename_i H;exact⟨y,.head _,by rw[dN]at H⊢;exact H.symm⟩
    .unfold dnN at K;rw[dD]at K;obtain⟨_,x,L,e⟩:=VP K.2 h;exact⟨x,.tail _ L,e⟩
def cGh{a:aO}{l:List aO}(h:tD a l=none):a∉l:=λ hm=>by have:=O1 h a hm;simp at this
def cGi{l t:List aO}(h:dnN (l++t)):dnN l:=(fU.1 h).1
def O2:∀(x l:List aO),l.length<=8->dnN l->((tE x l).isSome=true↔(addS x l).length<=8/\dnN (addS x l))
 |[],l,V,K=>by simp[tE,addS,V,K]
 |a::x,l,V,K=>by
  simp only[tE,addS];unfold Cr m7;cases L:tD a l with
  |some b=>
   cases b with
   |true=>
    have hm:a∈l:=by
     refine eU λ hm=>?_;have:∀l:List aO,a∉l->tD a l≠some true:=by
      intro l;induction l with
      |nil=>intro _ h;cases h
      |cons y l Y=>
       intro hm h;unfold tD at h;rw[bX (λ(e:a=y)=>hm (by rw[e];exact .head _))]at h;split at h
       .cases h
       .exact Y (λ h=>hm (.tail _ h)) h
     exact this l hm L
    simp only[cH,qm];unfold addA;rw[cB hm];exact O2 x l V K
   |false=>obtain⟨hm,y,Z,e⟩:=VP K L;simp only[show¬(13:Int)=0 by decide,cI,Option.bind_none,oc,bZ,false_iff];rintro⟨_,H⟩;unfold addA at H;rw[bX hm]at H;obtain⟨t,ht⟩:=OZ x (l++[a]);rw[ht]at H;have O:=(fU.1 (cGi H)).2.2 y Z a (dP.2 rfl);rw[e]at O;cases O
  |none=>
   have hm:=cGh L;have ha:addA a l=l++[a]:=by unfold addA;rw[bX hm]
   rw[ha]
   by_cases c:l.length=8
   .simp only[c,cH,show¬(4:Int)=0 by decide,cI,Option.bind_none,oc,bZ,false_iff];rintro⟨U,_⟩;obtain⟨t,ht⟩:=OZ x (l++[a]);rw[ht]at U;simp at U;omega
   .simp only[c,cI,cH,qm];refine O2 x (l++[a]) (by simp;omega) ?_;unfold dnN;rw[fU];exact⟨K,List.pairwise_singleton _ _,λ y Z z B=>by rw[dP.1 B];exact O1 L y Z⟩
def addO(e:aS)(l:List aO):Option (List aO):=if okE e=true then some (addS (yR e) l)else none
def addL(H:List aS)(l:List aO):Option (List aO):=if okL H=true then some (addS (vS H) l)else none
def cGk(k:aS)(H:List aS)(l:List aO):addL (k::H) l=(addO k l).bind (addL H):=by unfold addL addO;simp only[okL,vS,VN];cases okE k<;>simp
def bad1(r:Nat⊕(Bool×List aO)):Prop:=match r with|.inl _=>True|.inr v=>v.1=false
def got1(F:Option (Nat⊕(Bool×List aO)))(o:Option (List aO)):Prop:=match o with|some l=>F=some (.inr (true,l))|none=>∃r,F=some r/\bad1 r
def cGl(a:aO)(l:List aO){X:Type}(x:X){body:Int->Option (Int⊕(Unit⊕X))}(V:l.length<4611686018427387904)
  (hb:∀i:Nat,i<l.length->body (i:Int)=if l.getD i aO.zero=a then some (.inr (.inr x))else some (.inl ((i+1:Nat):Int))) (O:body (l.length:Int)=some (.inr (.inl ()))):
  lY body 0=some (if a∈l then .inr x else .inl ()):=by
 have K:∀(t:List aO) (i:Nat),walk (λ _ y (_:Unit)=>if y=a then some (.inr (Sum.inr x))else some (.inl ())) (λ _=>Sum.inl (β:=X) ()) t i ()=some (if a∈t then .inr x else .inl ()):=by
  intro t;induction t with
  |nil=>intro i;simp[walk]
  |cons y t U=>
   intro i;simp only[walk]
   by_cases c:y=a
   .rw[cB c];simp[c]
   .rw[bX c];simp only[U (i+1),cL,show¬a=y fromλ e=>c e.symm,jL]
 have H:=wP (body:=body) l aO.zero (λ i (_:Unit)=>(i:Int)) (λ _ y (_:Unit)=>if y=a then some (.inr (Sum.inr x))else some (.inl ())) (λ _=>Sum.inl (β:=X) ())
  (λ i s L=>by rw[hb i L];split<;>rfl) (λ s=>O) ()
 rw[show(0:Int)=(λ(i:Nat) (_:Unit)=>(i:Int)) 0 ()from rfl,H,K]
def O3(F:aS->List aO->Option (Nat⊕(Bool×List aO))){Y:Type}{B:Nat}:∀(H:List aS),(∀k∈H,∀l,(l.length:Int)+mQ k<=B->got1 (F k l) (addO k l))->
  ∀(i:Nat) (l:List aO),(l.length:Int)+nT H<=B->(match addL H l with
   |some O=>walk (λ _ k (s:List aO)=>(F k s).bind λ v=>match v with|.inl v=>some (.inr (Sum.inr (Sum.inl s.length)))|.inr v=>if(!v.1)=true then some (.inr (Sum.inr (.inl s.length)))else some (.inl v.2)) (λ s=>Sum.inl (β:=Nat⊕Y) s) H i l=some (.inl O)
   |none=>∃r,walk (λ _ k (s:List aO)=>(F k s).bind λ v=>match v with|.inl v=>some (.inr (Sum.inr (Sum.inl s.length)))|.inr v=>if(!v.1)=true then some (.inr (Sum.inr (.inl s.length)))else some (.inl v.2)) (λ s=>Sum.inl (β:=Nat⊕Y) s) H i l=some (.inr (.inl r)))
 |[],_,i,l,L=>by simp[walk,addL,okL,vS,addS]
 |k::H,V,i,l,L=>by
  rw[Cq]at L;have p1:=tC H;have e:=V k (.head _) l om;rw[cGk];cases K:addO k l with
  |none=>
   rw[K]at e;obtain⟨r,U,hb⟩:=e;simp only[Option.bind_none];refine⟨l.length,?_⟩;simp only[walk,U,qm];cases r with
   |inl r=>rfl
   |inr v=>have Z:v.1=false:=hb;simp only[Z,dL,cH]
  |some O=>
   rw[K]at e;have M:F k l=some (.inr (true,O)):=e;have hl':(O.length:Int)<=l.length+mQ k:=by
    unfold addO at K;split at K
    .cases K;have h1:=O0 (yR k) l;have h2:=VF k;omega
    .cases K
   have e2:=O3 (Y:=Y) F H (λ x hx=>V x (.tail _ hx)) (i+1) O om;simp only[walk,M,qm,cR,bZ,cI];exact e2
def H5{e k:aS}(O:k∈e.bG):mQ k+1<=mQ e:=by
 have:∀(H:List aS),k∈H->mQ k<=nT H:=by
  intro H;induction H with
  |nil=>intro h;cases h
  |cons x H U=>
   intro h;rw[Cq];have Y:=yT x;have B:=tC H;rcases cL.1 h with rfl|h
   .omega
   .have:=U h;omega
 have:=this e.bG O;rw[uS e];omega
def H6{e:aS}(c:e.bG.length=0):okE e=true↔e.k=0/\nY e.aZ.name=true/\oO e.aZ.aJ=true:=by rw[Lt,cB c];simp[fV]
def H7{e:aS}(c:¬e.bG.length=0):okE e=true↔(1<=e.k/\e.k<=(e.bG.length:Int)/\e.aZ=aO.zero)/\okL e.bG=true:=by rw[Lt,bX c];simp[fV]
def VQ{e:aS}(c:e.bG.length=0)(l:List aO):addO e l=if e.k=0/\nY e.aZ.name=true/\oO e.aZ.aJ=true then some (addA e.aZ l)else none:=by unfold addO;rw[H2,cB c];simp only[H6 c];rfl
def VR{e:aS}(c:¬e.bG.length=0)(l:List aO):addO e l=if 1<=e.k/\e.k<=(e.bG.length:Int)/\e.aZ=aO.zero then addL e.bG l else none:=by
 unfold addO addL;rw[H2,bX c];simp only[H7 c]
 by_cases H:1<=e.k/\e.k<=(e.bG.length:Int)/\e.aZ=aO.zero<;>simp only[H,gG,iT,cH,cI,cX]
def VS:∀(n:Nat) (e:aS),_root_.SizeOf.sizeOf e<n->∀l,(l.length:Int)+mQ e<=100->got1 (wM n e l) (addO e l)
 |0,_,h,_,_=>om
 |n+1,e,h,l,V=>by
  show got1 (wL (wM n) e l) _;unfold wL;have p4:=tC e.bG;have M:=uS e
  by_cases c:e.bG.length=0
  .rw[cB (by simpa using c),VQ c]
   by_cases H:e.k=0
   .simp only[H,cF,cH,E5,qm,cR,dT,gG]
    by_cases K:nY e.aZ.name=true/\oO e.aZ.aJ=true
    .rw[cB K,bX (by have:=K.2;unfold oO at this;simp[K.1,this])];rw[cGl e.aZ l (x:=Sum.inr (true,l)) om (λ i L=>by
      unfold Ke;rw[cB (by simpa using L),gdp om,mF i om];simp only[lF,cC]) (by unfold Ke;simp),eF]
     unfold addA got1
     by_cases F:e.aZ∈l
     .simp only[F,cH]
     .simp only[F,cI];unfold NB;rw[gdp om]
    .rw[bX K,cB (by
      have:¬(nY e.aZ.name=true/\pR e.aZ.aJ=true):=K;simp only[dS,dA];cases h1:nY e.aZ.name<;>cases h2:pR e.aZ.aJ<;>simp_all)]
     exact⟨_,rfl,rfl⟩
   .simp only[H,cP,bZ,cI,qm,dL,fY,cH,iT];exact⟨_,rfl,rfl⟩
  .rw[bX (by simpa using c),VR c]
   by_cases H:1<=e.k/\e.k<=(e.bG.length:Int)/\e.aZ=aO.zero
   .rw[cB H,bX (by simp[H.2.2];omega)];have hF:∀k∈e.bG,∀l,(l.length:Int)+mQ k<=(100:Nat)->got1 (wM n k l) (addO k l):=λ k hk l V=>VS n k (yS h hk) l V;have U:=rD (body:=GF (wM n) e) e.bG aS.zero (λ i (s:List aO)=>((i:Int),s))
     (λ _ k (s:List aO)=>(wM n k s).bind λ v=>match v with|.inl v=>some (.inr (Sum.inr (Sum.inl s.length)))|.inr v=>if(!v.1)=true then some (.inr (Sum.inr (.inl s.length)))else some (.inl v.2)) (λ s=>Sum.inl (β:=Nat⊕(Bool×List aO)) s)
     (λ i s=>True) (λ i s L hs=>by
      refine⟨?_,λ s' hs'=>trivial⟩;unfold GF;simp only;rw[cB (by simpa using L),gdp om];simp only[Qm,mF i (show i<4611686018427387904 by omega)];cases wM n (e.bG.getD i aS.zero) s with
      |none=>rfl
      |some v=>
       cases v with
       |inl v=>rfl
       |inr v=>
        simp only[qm];split<;>rfl)
     (λ s hs=>by unfold GF;simp) l trivial
    rw[show((0,l):Int×List aO)=(λ(i:Nat) (s:List aO)=>((i:Int),s)) 0 l from rfl,U];have O:=O3 (wM n) (Y:=Bool×List aO) (B:=100) e.bG hF 0 l om;cases Z:addL e.bG l with
    |none=>rw[Z]at O;obtain⟨r,O⟩:=O;rw[O,eF];exact⟨_,rfl,trivial⟩
    |some l'=>rw[Z]at O;simp only at O;rw[O,eF];rfl
   .rw[bX H,cB (by
     simp only[dS,cC,dA,dF]
     by_cases q:e.aZ=aO.zero
     .left;have:=mt (λ h:1<=e.k/\e.k<=(e.bG.length:Int)=>(⟨h.1,h.2,q⟩:1<=e.k/\e.k<=(e.bG.length:Int)/\e.aZ=aO.zero)) H;omega
     .exact .inr q)]
    exact⟨_,rfl,rfl⟩
def bad0(r:Nat⊕(List aO×Bool)):Prop:=match r with|.inl _=>True|.inr v=>v.2=false
def cGt(e:aS)(L:mQ e<=50):match addO e []with|some l=>BG e=some (.inr (l,true))|none=>∃r,BG e=some r/\bad0 r:=by
 unfold BG;show match addO e []with|some l=>Ac _ e=some (.inr (l,true))|none=>∃r,Ac _ e=some r/\bad0 r
 unfold Ac;have p4:=tC e.bG;have F:=uS e
 by_cases c:e.bG.length=0
 .rw[cB (by simpa using c),VQ c]
  by_cases H:e.k=0
  .simp only[H,cF,cH,E5,qm,cR,dT,gG]
   by_cases K:nY e.aZ.name=true/\oO e.aZ.aJ=true
   .rw[cB K,bX (by have:=K.2;unfold oO at this;simp[K.1,this])];rw[mJ];unfold Kk;rfl
   .rw[bX K,cB (by
     have:¬(nY e.aZ.name=true/\pR e.aZ.aJ=true):=K;simp only[dS,dA];cases h1:nY e.aZ.name<;>cases h2:pR e.aZ.aJ<;>simp_all)]
    exact⟨_,rfl,rfl⟩
  .simp only[H,cP,bZ,cI,qm,dL,fY,cH,iT];exact⟨_,rfl,rfl⟩
 .rw[bX (by simpa using c),VR c]
  by_cases H:1<=e.k/\e.k<=(e.bG.length:Int)/\e.aZ=aO.zero
  .rw[cB H,bX (by simp[H.2.2];omega)];have M:∀k∈e.bG,∀l,(l.length:Int)+mQ k<=(100:Nat)->got1 (z6 k l) (addO k l):=λ k hk l L=>VS _ k (eT _) l L;have U:=rD (body:=D2 e) e.bG aS.zero (λ i (s:List aO)=>((i:Int),s))
    (λ _ k (s:List aO)=>(z6 k s).bind λ v=>match v with|.inl v=>some (.inr (Sum.inr (Sum.inl s.length)))|.inr v=>if(!v.1)=true then some (.inr (Sum.inr (.inl s.length)))else some (.inl v.2)) (λ s=>Sum.inl (β:=Nat⊕(List aO×Bool)) s)
    (λ i s=>True) (λ i s Z hs=>by
     refine⟨?_,λ s' hs'=>trivial⟩;unfold D2;simp only;rw[cB (by simpa using Z),gdp om];simp only[Qm,mF i (show i<4611686018427387904 by omega)];cases z6 (e.bG.getD i aS.zero) s with
     |none=>rfl
     |some v=>
      cases v with
      |inl v=>rfl
      |inr v=>
       simp only[qm];split<;>rfl)
    (λ s hs=>by unfold D2;simp) [] trivial
   rw[show((0,[]):Int×List aO)=(λ(i:Nat) (s:List aO)=>((i:Int),s)) 0 []from rfl,U];have O:=O3 (z6) (Y:=List aO×Bool) (B:=100) e.bG M 0 [] (by simp;omega);cases V:addL e.bG []with
   |none=>rw[V]at O;obtain⟨r,O⟩:=O;simp only;rw[O,eF];exact⟨_,rfl,trivial⟩
   |some l'=>rw[V]at O;simp only at O⊢;rw[O,eF];rfl
  .rw[bX H,cB (by
    simp only[dS,cC,dA,dF]
    by_cases q:e.aZ=aO.zero
    .left;have:=mt (λ h:1<=e.k/\e.k<=(e.bG.length:Int)=>(⟨h.1,h.2,q⟩:1<=e.k/\e.k<=(e.bG.length:Int)/\e.aZ=aO.zero)) H;omega
    .exact .inr q)]
   exact⟨_,rfl,rfl⟩
def vE(e:aS):Bool:=fitE e&&(qC e []).isSome
def cGu(e:aS):(qC e []).isSome=true↔∃l,addO e []=some l/\l.length<=8/\dnN l:=by
 unfold qC addO
 by_cases c:okE e=true
 .rw[cB c,cB c,O2 _ [] (by simp) .nil];constructor
  .exactλ h=>⟨_,rfl,h⟩
  .rintro⟨l,e,h⟩;cases e;exact h
 .rw[bX c,bX c];simp
def cGv(v:List aO×Bool)(i:Nat)(hi:i<v.1.length)(V:v.1.length<=1000):
  lY (D9 v (i:Int)) 0=some (if(v.1.take i).any (λ x=>(v.1.getD i aO.zero).name.toList==x.name.toList)=true then .inr ([],false)else .inl ()):=by
 have L:∀(t:List aO) (j:Nat),walk (λ _ x (_:Unit)=>if((v.1.getD i aO.zero).name.toList==x.name.toList)=true then some (.inr (Sum.inr (([]:List aO),false)))else some (.inl ())) (λ _=>Sum.inl (β:=List aO×Bool) ()) t j ()=
   some (if t.any (λ x=>(v.1.getD i aO.zero).name.toList==x.name.toList)=true then .inr ([],false)else .inl ()):=by
  intro t;induction t with
  |nil=>intro j;rfl
  |cons x t U=>
   intro j;simp only[walk,List.any_cons]
   by_cases c:((v.1.getD i aO.zero).name.toList==x.name.toList)=true
   .simp only[c,cH,fY]
   .simp only[gO]at c;simp only[c,dT,bZ,cI];exact U (j+1)
 have K:(v.1.take i).length=i:=by rw[dE];omega
 have H:=wP (body:=D9 v (i:Int)) (v.1.take i) aO.zero (λ j (_:Unit)=>(j:Int))
  (λ _ x (_:Unit)=>if((v.1.getD i aO.zero).name.toList==x.name.toList)=true then some (.inr (Sum.inr (([]:List aO),false)))else some (.inl ())) (λ _=>Sum.inl (β:=List aO×Bool) ())
  (λ j s O=>by
   rw[K]at O;unfold D9;rw[cB (by simp;omega),gdp om,gdp om,mF j om,Uy _ _ _ _ O];simp only[Qm];split<;>rfl)
  (λ s=>by unfold D9;rw[K];simp) ()
 rw[show(0:Int)=(λ(j:Nat) (_:Unit)=>(j:Int)) 0 ()from rfl,H,L]
def VT(v:List aO×Bool)(V:v.1.length<=1000):(dnN v.1->lY (BO v) 0=some (.inl ()))/\(¬dnN v.1->lY (BO v) 0=some (.inr ([],false))):=by
 have U:=wP (body:=BO v) v.1 aO.zero (λ i (_:Unit)=>(i:Int))
  (λ i a (_:Unit)=>if(v.1.take i).any (λ x=>a.name.toList==x.name.toList)=true then some (.inr (Sum.inr (([]:List aO),false)))else some (.inl ())) (λ _=>Sum.inl (β:=List aO×Bool) ())
  (λ i s L=>by
   unfold BO;rw[cB (by simpa using L),cGv v i L V];split
   .rfl
   .show some _=_;rw[mF i om];rfl)
  (λ s=>by unfold BO;simp) ()
 have Z:∀(t H:List aO),v.1=H++t->dnN H->(dnN v.1->walk (λ i a (_:Unit)=>if(v.1.take i).any (λ x=>a.name.toList==x.name.toList)=true then some (.inr (Sum.inr (([]:List aO),false)))else some (.inl ())) (λ _=>Sum.inl (β:=List aO×Bool) ()) t H.length ()=some (.inl ()))/\
   (¬dnN v.1->walk (λ i a (_:Unit)=>if(v.1.take i).any (λ x=>a.name.toList==x.name.toList)=true then some (.inr (Sum.inr (([]:List aO),false)))else some (.inl ())) (λ _=>Sum.inl (β:=List aO×Bool) ()) t H.length ()=some (.inr ([],false))):=by
  intro t;induction t with
  |nil=>intro H h Y;exact⟨λ _=>rfl,λ B=>absurd (by rw[h,eE];exact Y) B⟩
  |cons a t M=>
   intro H h Y;have ht:v.1.take H.length=H:=by rw[h,List.take_left'];rfl
   simp only[walk,ht]
   by_cases c:H.any (λ x=>a.name.toList==x.name.toList)=true
   .have B:¬dnN v.1:=by
     intro O;rw[h]at O;obtain⟨x,K,e⟩:=kV.1 c;have:=(fU.1 O).2.2 x K a (.head _);rw[dN]at e;rw[<-e]at this;simp at this
    exact⟨λ h=>absurd h B,λ _=>by rw[cB c]⟩
   .rw[bX c];have F:dnN (H++[a]):=by
     unfold dnN;rw[fU];refine⟨Y,List.pairwise_singleton _ _,λ x K y hy=>?_⟩;rw[dP.1 hy,dJ];intro e;rw[dN]at e;exact c (kV.2 ⟨x,K,by rw[dN];exact e.symm⟩)
    have:=M (H++[a]) (by rw[h];simp) F;rw[show(H++[a]).length=H.length+1 by simp]at this;exact this
 have:=Z v.1 [] rfl .nil;rw[show(0:Int)=(λ(i:Nat) (_:Unit)=>(i:Int)) 0 ()from rfl,U];exact this
def H8(e:aS):Ah e=some (vE e):=by
 unfold Ah qQ;rw[cFt,eF];have p:=yT e;unfold vE;cases O:fitE e with
 |false=>rfl
 |true=>
  have hn:mQ e<=24:=by unfold fitE at O;simp at O;omega
  simp only[cH,show¬mQ e=0 by omega,cP,bZ,cI,cN];have L:=cGt e om;have H:=cGu e;cases K:addO e []with
  |none=>
   rw[K]at L H;obtain⟨r,M,hb⟩:=L;have O:(qC e []).isSome=false:=by rw[dJ];intro h;obtain⟨l,e,_⟩:=H.1 h;cases e
   rw[M,O,eF];cases r with
   |inl r=>rfl
   |inr v=>have V:v.2=false:=hb;simp only[V,dL,fY,cH,qm]
  |some l=>
   rw[K]at L H;simp only at L;have hl:l.length<=24:=by
    unfold addO at K;split at K
    .cases K;have Z:=O0 (yR e) [];have h2:=VF e;simp at Z;omega
    .cases K
   rw[L,eF]
   by_cases c:l.length<=8
   .simp only[cR,dT,show¬(8:Int)<(l.length:Int)by omega,cP,bZ,cI];have F:=VT (l,true) (by simp only;omega)
    by_cases U:dnN l
    .rw[F.1 U,H.2 ⟨l,rfl,c,U⟩];rfl
    .rw[F.2 U];have:(qC e []).isSome=false:=by
      rw[dJ];intro h;obtain⟨l',Y,_,B⟩:=H.1 h;cases Y;exact U B
     rw[this];rfl
   .simp only[cR,dT,show(8:Int)<(l.length:Int)by omega,cF,cH,qm];have:(qC e []).isSome=false:=by
     rw[dJ];intro h;obtain⟨l',Y,B,_⟩:=H.1 h;cases Y;exact c B
    rw[this]
def VU(e:aS):Ae e=some (vE e):=cG9 e
def cGz{t:List aA}(H:t.length<=8)(h:∀q∈t,mR q=true):Ee t=some (oH t):=by rw[<-Lr H h];rfl
def cH0(s:aH):Ak s=KM s:=by
 funext g;unfold Ak KM
 by_cases c:g<(s.aY.length:Int)
 .by_cases U:0<=g
  .simp only[c,U,cX,cF,cH,mL,VU,H8,K5,wQ];generalize K:s.aY.getD g.toNat bQ.zero=n;generalize hm:s.aY.getD ((IntKind.i64.wrap (g-1)).toNat) bQ.zero=m;cases L:mP n.aM
   .simp
   .cases V:vE n.bU
    .by_cases H:n.gen<0<;>by_cases O:1073741824<n.gen<;>simp[H,O]
    .by_cases H:n.gen<0
     .simp[H]
     .by_cases O:1073741824<n.gen
      .simp[H,O]
      .by_cases Y:0<g<;>simp[H,O,Y]
  .simp only[c,U,iT,cF,cH,bVv]
 .simp only[c,cP,bZ,cI]
def Ff(l:List bQ)(i:Nat)(n:bQ):Bool:=mP n.aM&&vE n.bU&&decide (0<=n.gen)&&decide (n.gen<=1073741824)&&(decide (i=0)||decide (cmpP (l.getD (i-1) bQ.zero).aM n.aM<0))
def m8(l:List bQ):Bool:=(List.range l.length).all λ i=>Ff l i (l.getD i bQ.zero)
def pL(s:aH):List aK:=wV (oH s.aF++s.aY.map (·.aM))
def nZ(s:aH):Bool:=qB s.aF&&decide (s.aY.length<=8)&&m8 s.aY&&decide ((pL s).length<=8)
def VV(s:aH)(h8:s.aY.length<=8):lY (Ak s) 0=some (if m8 s.aY=true then .inl ()else .inr false):=by
 have Y:=tP (body:=Ak s) s.aY.length (λ i=>if Ff s.aY i (s.aY.getD i bQ.zero)=true then none else some (Sum.inr (α:=Unit) false)) (Sum.inl ()) (λ i hi=>by
  unfold Ak;have L:(i:Int)<(s.aY.length:Int):=om
  have V:0<=(i:Int):=om
  simp only[L,V,cX,cF,cH,mL,VU,K5,Qm];unfold Ff;have nd:∀x:bQ,x=x:=λ x=>rfl;rcases hb (mP (s.aY.getD i bQ.zero).aM)with hP|hP
  .rcases hb (vE (s.aY.getD i bQ.zero).bU)with hE|hE
   .by_cases U:(s.aY.getD i bQ.zero).gen<0
    .simp[hP,hE,U,show¬0<=(s.aY.getD i bQ.zero).gen by omega,-List.getD_eq_getElem?_getD]
    .by_cases B:1073741824<(s.aY.getD i bQ.zero).gen
     .simp[hP,hE,U,B,show¬(s.aY.getD i bQ.zero).gen<=1073741824 by omega,-List.getD_eq_getElem?_getD]
     .have H:0<=(s.aY.getD i bQ.zero).gen:=om
      have O:(s.aY.getD i bQ.zero).gen<=1073741824:=om
      have Z:IntKind.i64.wrap ((i:Int)+1)=(i:Int)+1:=mB om om
      by_cases M:i=0
      .subst M;simp only[hP,hE,U,B,H,O,cH,qm,cF,cP,cR,dL,gP,cN,fG,dT,fY,Int.cast_ofNat_Int,iL,hY,fA,bZ,jX,mL,cI];rfl
      .have q4:(0:Int)<(i:Int):=om
       have w:IntKind.i64.wrap ((i:Int)-1)=((i-1:Nat):Int):=l6 i om om;simp only[hP,hE,U,B,H,O,M,q4,cF,cP,cR,dL,gP,cN,fG,dT,jG,bZ,cH,cI,qm,w,Z,Qm];rw[gdp (by intro _;omega)]
       by_cases K:cmpP (s.aY.getD (i-1) bQ.zero).aM (s.aY.getD i bQ.zero).aM<0
       .have F:¬0<=cmpP (s.aY.getD (i-1) bQ.zero).aM (s.aY.getD i bQ.zero).aM:=om
        simp only[K,F,cF,cP,cH,bZ,cI]
       .have F:0<=cmpP (s.aY.getD (i-1) bQ.zero).aM (s.aY.getD i bQ.zero).aM:=om
        simp only[K,F,cF,cP,cH,bZ,cI]
   .simp[hP,hE,-List.getD_eq_getElem?_getD]
  .simp[hP,-List.getD_eq_getElem?_getD])
  (by unfold Ak;simp)
 rw[Y,uP (λ i=>Ff s.aY i (s.aY.getD i bQ.zero))];unfold m8;rw[eZ];split<;>rfl
def O4(s:aH)(Y:qB s.aF=true)(B:s.aY.length<=8):i7 s=some (pL s):=by
 obtain⟨H,O,_⟩:=(uR _).1 Y;have F:=Fe s.aF O;have M:(oH s.aF).length<=200:=by have:=HW (s.aF.flatMap rT);unfold oH;omega
 unfold i7;rw[cGz H O,eF,AC s.aY bQ.zero (·.aM) _ om om (λ i t K L=>by
  unfold Kz;have U:0<=(i:Int)/\(i:Int)<(s.aY.length:Int):=om
  have H:t.length+1<=4294967296:=om
  simp only[H,U.1,U.2,cX,mL,cF,cH,lF,mF i (show i<4611686018427387904 by omega)]) (λ t=>by unfold Kz;simp),eF]
 unfold NQ;rw[OW _ (by simp;omega)];rfl
def cH5(s:aH)(H:s.aF.length<=8)(O:∀q∈s.aF,mR q=true)(Y:s.aY.length<=8):BY s=some (pL s):=by
 have B:=Fe s.aF O;have F:(oH s.aF).length<=200:=by have:=HW (s.aF.flatMap rT);unfold oH;omega
 unfold BY;rw[cEr H O,eF,gdp om,AC s.aY bQ.zero (·.aM) _ om om (λ i t K L=>by
  unfold KB;have U:0<=(i:Int)/\(i:Int)<(s.aY.length:Int):=om
  have H:t.length+1<=4294967296:=om
  simp only[H,U.1,U.2,cX,mL,cF,cH,lF,mF i (show i<4611686018427387904 by omega)]) (λ t=>by unfold KB;simp),eF]
 unfold NS;rw[ON _ (by simp;omega)];rfl
def cH6(s:aH)(H:qB s.aF=true)(O:s.aY.length<=8):BY s=some (pL s):=by obtain⟨U,Y,_⟩:=(uR _).1 H;exact cH5 s U Y O
def H9(s:aH):vL s=some (nZ s):=by
 unfold vL nZ;rw[VC,eF];cases K:qB s.aF with
 |false=>rfl
 |true=>
  by_cases H:s.aY.length<=8
  .simp only[cR,dT,show¬(8:Int)<(s.aY.length:Int)by omega,cP,bZ,cI,H,cF,cN];rw[<-cH0,VV s H,eF];cases m8 s.aY with
   |false=>rfl
   |true=>simp only[cH,cN];unfold NX;rw[O4 s K H,eF];congr 1;rw[dR];simp;omega
  .simp only[cR,dT,show(8:Int)<(s.aY.length:Int)by omega,cF,cH,H,cP,hY,fA]
def Lv(s:aH):i8 s=some (nZ s):=by
 unfold i8 nZ
 by_cases H:s.aY.length<=8
 .by_cases O:s.aF.length<=8
  .simp only[show¬(8:Int)<(s.aY.length:Int)by omega,show¬(8:Int)<(s.aF.length:Int)by omega,cP,fG,bZ,cI,H,cF,fI];rw[Vz s.aF O (λ i L=>by
    unfold KD;have U:0<=(i:Int)/\(i:Int)<(s.aF.length:Int):=om
    simp only[U.1,U.2,cX,mL,cF,cH,lF,bYv,eF,mF i (show i<4611686018427387904 by omega)]
    by_cases Y:i=0
    .subst Y;rw[mD (by simp)];cases mR (s.aF.getD 0 aA.zero)<;>simp
    .rw[l6 i om om,mD (by intro _;omega)];simp only[lF,show(0:Int)<(i:Int)by omega,cF,cN,Y,jL];unfold ltN;rcases hb (mR (s.aF.getD i aA.zero))with b1|b1<;>rcases hb (Op.bytesLess (s.aF.getD (i-1) aA.zero).aB.name.toList (s.aF.getD i aA.zero).aB.name.toList)with b2|b2<;>simp[b1,b2,-List.getD_eq_getElem?_getD]) (by unfold KD;simp)]
   unfold qB;simp only[O,cF,cN];cases K:ascW s.aF none with
   |false=>rfl
   |true=>
    have B:qB s.aF=true:=by unfold qB;simp[O,K]
    simp only[cH,qm,cN];unfold KC;rw[VV s H,eF];cases m8 s.aY with
    |false=>rfl
    |true=>simp only[cH,cN];unfold NT;rw[cH6 s B H,eF];congr 1;rw[dR];simp;omega
  .have:qB s.aF=false:=by unfold qB;simp[O]
   simp only[show(8:Int)<(s.aF.length:Int)by omega,cF,fY,cH,this,fA]
 .simp only[show(8:Int)<(s.aY.length:Int)by omega,cF,jO,cH,H,cP,hY,fA]
def nP(l:List Int):Prop:=∀x∈l,0<=x/\x<256
def VW(c:Int)(H:0<=c)(O:c<256):(oD .and .u8 c 128=0)↔c<128:=by
 have k:(List.range 256).all (λ n=>decide ((oD .and .u8 (n:Int) 128=0)↔(n:Int)<128))=true:=by kernel_rfl
 obtain⟨n,rfl⟩:=Int.eq_ofNat_of_zero_le H;have:=dQ.1 k n (eH.2 om)
 simpa using this
structure Src (b:List Int):Prop where
 bytes:nP b
 len:b.length<=9223372036854775807
def yU(n:Int)(H:0<=n)(O:n<2^64):IntKind.u64.wrap n=n:=by rw[IntKind.wrap_u64];omega
def cHb{x:Int}(H:0<=x)(O:x<18446744073709551616):oD .and .u64 x 127=x% 128:=bits_mask .u64 64 Om yU 7 Om x H om
def VX{x:Int}(H:0<=x)(O:x<256):oD .and .u8 x 127=x% 128:=bits_mask .u8 8 Om wraps_u8 7 Om x H om
def VY(k:IntKind)(x y:Int):oD .or k x y=oD .or k y x:=by simp only[oD,BitVec.or_comm]
def cHe{y:Int}(H:0<=y)(O:y<128):oD .or .u8 y 128=y+128:=by rw[VY];have:oD .or .u8 128 y=128+y:=bits_join .u8 8 Om wraps_u8 7 128 y Om Om Om H om om;rw[this];omega
def VZ(s:Nat)(Y:s<=28){v c:Int}(O:0<=v)(K:v<2^s)(U:0<=c)(F:c<128):oD .or .u64 v (IntKind.u64.wrap (c*2^s))=v+c*2^s:=by
 have B:(2:Int)^s<=2^28:=by exact_mod_cast Nat.pow_le_pow_right Om Y
 have M:(0:Int)<2^s:=by exact_mod_cast Nat.two_pow_pos s
 have hm:c*2^s<=127*2^28:=Int.mul_le_mul om B om Om;have H:0<=c*2^s:=Int.mul_nonneg U om;rw[yU _ H om,VY];have:oD .or .u64 (c*2^s) v=c*2^s+v:=bits_join .u64 64 Om yU s _ v H (Int.mul_emod_left _ _) om O K om;rw[this];omega
def encU(n:Nat):List Int:=if n<128 then[(n:Int)]else((n% 128+128:Nat):Int)::encU (n/128)
termination_by n
decreasing_by omega
def m9{n:Nat}(h:n<128):encU n=[(n:Int)]:=by rw[encU,cB h]
def Fg{n:Nat}(h:¬n<128):encU n=((n% 128+128:Nat):Int)::encU (n/128):=by rw[encU,bX h]
def Ct:∀(k n:Nat),n<128^(k+1)->1<=(encU n).length/\(encU n).length<=k+1
 |0,n,h=>by rw[m9 om];simp
 |k+1,n,h=>by
  by_cases c:n<128
  .rw[m9 c];simp
  .rw[Fg c];have:=Ct k (n/128) (by rw[lV]at h;omega);simp only[ym];omega
def O5:∀(n:Nat),nP (encU n):=by
 intro n;induction n using Nat.strongRecOn with
 |_ n H=>
  by_cases c:n<128
  .rw[m9 c];intro x hx;rw[dP]at hx;omega
  .rw[Fg c];intro x hx;rcases cL.1 hx with rfl|hx
   .omega
   .exact H (n/128) om x hx
def V0:∀(k n:Nat) (l:List Int),n<128^(k+1)->k<=8->l.length+k<=4294967290->∃y O,lY sY ((n:Int),l)=some (y,O)/\O++[IntKind.u8.wrap y]=l++encU n/\O.length<=l.length+k
 |0,n,l,h,K,L=>by
  refine⟨n,l,?_,?_,by omega⟩
  .rw[mJ];unfold sY;rw[bX (by simp;omega)]
  .rw[m9 om,wraps_u8 _ om om]
 |k+1,n,l,h,K,L=>by
  by_cases c:n<128
  .refine⟨n,l,?_,?_,by omega⟩
   .rw[mJ];unfold sY;rw[bX (by simp;omega)]
   .rw[m9 c,wraps_u8 _ om om]
  .have U:n<18446744073709551616:=by
    have:128^(k+1+1)<=128^9:=Nat.pow_le_pow_right Om om;omega
   obtain⟨y,O,Y,B,F⟩:=V0 k (n/128) (l++[((n% 128+128:Nat):Int)]) (by rw[lV]at h;omega) om (by simp;omega);refine⟨y,O,?_,?_,by simp at F;omega⟩
   .rw[mJ];have H:sY ((n:Int),l)=some (.inl (((n/128:Nat):Int),l++[((n% 128+128:Nat):Int)])):=by
     unfold sY;simp only;rw[cB (by simp;omega),gdp om,cHb om om,wraps_u8 _ om om,cHe om om];have:(n:Int).fdiv (2^7)=((n/128:Nat):Int):=by rw[Int.fdiv_eq_ediv_of_nonneg _ Om];omega
     rw[this];have:(n:Int)% 128+128=((n% 128+128:Nat):Int):=om
     rw[this]
    rw[H];exact Y
   .rw[B,Fg c,cG];rfl
def O6{n:Nat}{l:List Int}(H:n<128^9)(K:l.length<=4294967000):sZ l (n:Int)=some (l++encU n):=by obtain⟨y,Y,O,U,B⟩:=V0 8 n l H Om om;unfold sZ;rw[gdp om,O,eF];unfold F6;rw[gdp (by simp only;omega)];simp only[U]
def V1{n:Nat}{l:List Int}(H:n<128^9)(K:l.length<=4294967000):pQ l (n:Int)=some (l++encU n):=by rw[<-O6 H K];rfl
def cHn(g:Int×List Int):Di g=sY g:=by
 unfold Di sY
 by_cases c:127<g.1
 .rw[cB (by simpa using c),cB (by simp;omega)]
 .rw[bX (by simpa using c),bX (by simp;omega)]
def cHo(l:List Int)(x:Int)(L:l.length<=4294967000):uF l x=sZ l x:=by
 unfold uF sZ;have hb:Di=sY:=funext cHn;have K:l.take ((l.length:Int).toNat)=l:=by rw[lF,eV]
 have H:l.length+1<=4294967296:=om
 have O:l.length<=4294967296:=om
 rw[K,hb,gdp om,gdp H,gdp O,mJ sY (x,l)]
 by_cases c:127<x
 .rw[cB (by simpa using c)];have:sY (x,l)=some (.inl (x.fdiv (2^7),l++[oD .or .u8 (IntKind.u8.wrap (oD .and .u64 x 127)) 128])):=by
   unfold sY;rw[cB (by simp;omega),gdp (by simp only;omega)]
  rw[this];rfl
 .rw[bX (by simpa using c)];have:sY (x,l)=some (.inr (x,l)):=by
   unfold sY;rw[bX (by simp;omega)]
  rw[this];show _=F6 (x,l);unfold F6;rw[gdp H]
def V2{n:Nat}{l:List Int}(H:n<128^9)(K:l.length<=4294967000):uF l (n:Int)=some (l++encU n):=by rw[cHo l _ K,O6 H K]
def V3{n:Nat}{l:List Int}(H:n<128^9)(K:l.length<=4294967000):pH l (n:Int)=some (l++encU n):=by rw[<-V2 H K];rfl
def cHr{a rest:List Int}(ha:nP a):∀(k m i:Nat) (v:Int),i+k=4->m<128^(k+1)->a.drop i=encU m++rest->(i=0\/1<=m)->0<=v->v<2^(7*i)->
  lY (rW a) (v,(i:Int))=some (.inr (v+(m:Int)*2^(7*i),((i+(encU m).length:Nat):Int),0)):=by
 have H:∀(m i:Nat) (v:Int),i<=4->a.drop i=encU m++rest->0<=v->v<2^(7*i)->(m<128->(i=0\/1<=m)->rW a (v,(i:Int))=some (.inr (.inr (v+(m:Int)*2^(7*i),((i+1:Nat):Int),0))))/\
   (¬m<128->rW a (v,(i:Int))=some (.inl (v+((m% 128:Nat):Int)*2^(7*i),((i+1:Nat):Int)))):=by
  intro m i v hi O F h1;have M:encU m≠[]:=by rw[encU];split<;>simp
  have K:i<a.length:=by have:=dZ List.length O;rw[dC,cA]at this;have:0<(encU m).length:=gW.2 M;omega
  have hw:IntKind.i64.wrap (7*(i:Int))=((7*i:Nat):Int):=by rw[mB om om];omega
  have x0:(IntKind.i64.wrap (7*(i:Int))).toNat=7*i:=by rw[hw];rfl
  have L:Nat.min (7*i) IntKind.u64.bits=7*i:=gU (by show 7*i<=64;omega);have Y:∀c t,a.drop i=c::t->a.getD ((i:Int).toNat) 0=c:=λ c t e=>by have:=l5 a i 0 K;rw[e]at this;exact(List.cons.inj this).1.symm
  unfold rW;simp only;rw[cB (by simp;omega),bX (by simp;omega),gdp om,bX (by simp;omega),gdp om,mF i om,x0,L];constructor
  .intro c hm;have Z:=Y (m:Int) rest (by rw[O,m9 c];rfl);rw[Z,(VW (m:Int) om om).2 om,VX om om,yU ((m:Int)% 128) om om,VZ (7*i) om F h1 om om];have B:(m:Int)% 128=m:=om
   have h2:(decide ((m:Int)=0)&&decide ((0:Int)<(i:Int)))=false:=by rw[dJ];simp;omega
   rw[B,h2];simp
  .intro c;have Z:=Y ((m% 128+128:Nat):Int) (encU (m/128)++rest) (by rw[O,Fg c];rfl);have hb:¬oD .and .u8 ((m% 128+128:Nat):Int) 128=0:=λ e=>by have:=(VW _ om om).1 e;omega
   rw[Z,VX om om,yU (((m% 128+128:Nat):Int)% 128) om om,VZ (7*i) om F h1 om om];have B:((m% 128+128:Nat):Int)% 128=((m% 128:Nat):Int):=om
   rw[B,cB (by simpa using hb)]
 intro k;induction k with
 |zero=>intro m i v hi hm O F U V;rw[mJ,(H m i v om O U V).1 om F,m9 om];rfl
 |succ k ih=>
  intro m i v hi hm O F U V
  by_cases c:m<128
  .rw[mJ,(H m i v om O U V).1 c F,m9 c];rfl
  .rw[mJ,(H m i v om O U V).2 c];have hp:(2:Int)^(7*(i+1))=128*2^(7*i):=by rw[Nat.mul_add,Int.pow_add];omega
   have hq:(0:Int)<2^(7*i):=by exact_mod_cast Nat.two_pow_pos _
   have y0:((m% 128:Nat):Int)*2^(7*i)<=127*2^(7*i):=Int.mul_le_mul_of_nonneg_right om om;have z0:0<=((m% 128:Nat):Int)*2^(7*i):=Int.mul_nonneg om om;have:=ih (m/128) (i+1) (v+((m% 128:Nat):Int)*2^(7*i)) om (by rw[lV]at hm;omega) (by
    rw[<-fB,O,Fg c];rfl) (.inr om) om (by rw[hp];omega)
   simp only;rw[this,Fg c,hp];have e1:(m:Int)=128*((m/128:Nat):Int)+((m% 128:Nat):Int):=om
   have e2:v+((m% 128:Nat):Int)*2^(7*i)+((m/128:Nat):Int)*(128*2^(7*i))=v+(m:Int)*2^(7*i):=by rw[e1,Int.add_mul,Int.mul_assoc 128,Int.mul_left_comm];omega
   rw[e2];simp only[ym];rw[show i+1+(encU (m/128)).length=i+((encU (m/128)).length+1)by omega]
def V4{n:Nat}{rest:List Int}(H:n<128^5)(O:nP rest):sE (encU n++rest)=some ((n:Int),((encU n).length:Int),0):=by
 have hb:nP (encU n++rest):=λ x K=>by
  rcases cY.1 K with h|h
  .exact O5 n x h
  .exact O x h
 unfold sE;have:=cHr (rest:=rest) hb 4 n 0 0 rfl H rfl (.inl rfl) (kN _) Om;rw[show((0,0):Int×Int)=(0,((0:Nat):Int))from rfl,this];simp
def encI(x:Int):List Int:=encU x.toNat
def encT(s:ByteArray):List Int:=encU s.size++s.toList.map λ b=>(b.toNat:Int)
def encP(p:aK):List Int:=encI p.site++encI p.inc++encI p.num
def encA(a:aC):List Int:=encI a.mode++encI a.aU
mutual
def encE:aS->List Int
 |⟨k,a,ks⟩=>encI k++(if k=0 then encT a.name++encA a.aJ else encI (ks.length:Int)++Ia ks)
def Ia:List aS->List Int
 |[]=>[]
 |k::l=>encE k++Ia l
end
def Lw(e:aS):encE e=encI e.k++(if e.k=0 then encT e.aZ.name++encA e.aZ.aJ else encI (e.bG.length:Int)++e.bG.flatMap encE):=by
 have:∀l,Ia l=l.flatMap encE:=by
  intro l;induction l with
  |nil=>rw[Ia];rfl
  |cons x l H=>rw[Ia,H];rfl
 cases e;rw[encE,this]
def encH(h:aX):List Int:=encP h.aM++encA h.aJ
def encC(w:aV):List Int:=encP w.aM++encA w.aJ
def encW(w:aV):List Int:=encP w.aM++encA w.aJ++encI w.bC++encI w.bS
def encQ(q:aA):List Int:=encT q.aB.name++(encI q.aB.kind++(encI q.aB.aU++(encI q.aB.home++(encI q.gen++(encI (q.aT.length:Int)++(q.aT.flatMap encH++(encI (q.aN.length:Int)++(q.aN.flatMap encC++(encI (q.aW.length:Int)++q.aW.flatMap encW)))))))))
def encN(n:bQ):List Int:=encP n.aM++(encI n.gen++encE n.bU)
def encS(s:aH):List Int:=encI (s.aF.length:Int)++(s.aF.flatMap encQ++(encI (s.aY.length:Int)++s.aY.flatMap encN))
def nP.app{a b:List Int}(H:nP a)(hb:nP b):nP (a++b):=λ x K=>by
 rcases cY.1 K with h|h
 .exact H x h
 .exact hb x h
def nP.nil:nP []:=λ x H=>by cases H
def nP.flat{α:Type}{f:α->List Int}(h:∀x,nP (f x))(l:List α):nP (l.flatMap f):=λ x H=>by obtain⟨a,_,K⟩:=fM.1 H;exact h a x K
def pD(x:Int):nP (encI x):=O5 _
def O7(s:ByteArray):nP (encT s):=(O5 _).app λ x H=>by obtain⟨b,_,rfl⟩:=cS.1 H;have:=b.toNat_lt;omega
def Fh(p:aK):nP (encP p):=((pD _).app (pD _)).app (pD _)
def Lx(a:aC):nP (encA a):=(pD _).app (pD _)
def V5:∀(n:Nat) (e:aS),_root_.SizeOf.sizeOf e<n->nP (encE e)
 |0,_,h=>om
 |n+1,e,h=>by
  rw[Lw];refine(pD _).app ?_;split
  .exact(O7 _).app (Lx _)
  .refine(pD _).app λ x K=>?_;obtain⟨k,H,K⟩:=fM.1 K;exact V5 n k (yS h H) x K
def cHz(e:aS):nP (encE e):=V5 _ e (eT _)
def cI0(h:aX):nP (encH h):=(Fh _).app (Lx _)
def cI1(h:aV):nP (encC h):=(Fh _).app (Lx _)
def cI2(h:aV):nP (encW h):=(((Fh _).app (Lx _)).app (pD _)).app (pD _)
def cI3(q:aA):nP (encQ q):=
 (O7 _).app ((pD _).app ((pD _).app ((pD _).app ((pD _).app ((pD _).app ((nP.flat cI0 _).app ((pD _).app ((nP.flat cI1 _).app ((pD _).app (nP.flat cI2 _))))))))))
def cI4(n:bQ):nP (encN n):=(Fh _).app ((pD _).app (cHz _))
def V6(s:aH):nP (encS s):=(pD _).app ((nP.flat cI3 _).app ((pD _).app (nP.flat cI4 _)))
abbrev D(r:List Int):bE:=⟨⟨r,0⟩⟩
def okI(x:Int):Prop:=0<=x/\x<=1073741824
def Src.right{a b:List Int}(h:Src (a++b)):Src b:=⟨λ x H=>h.bytes x (cY.2 (.inr H)),by have:=h.len;rw[cA]at this;omega⟩
def Cu{x:Int}(h:okI x){r:List Int}(H:Src (encI x++r)):sE (encI x++r)=some (x,((encI x).length:Int),0):=by have hb:=H.right.bytes;unfold encI;obtain⟨O,U⟩:=h;rw[V4 om hb];rw[iN O]
def V7{lim over x:Int}(H:0<=x)(U:x<=lim)(Y:lim<=1073741824){r:List Int}(O:Src (encI x++r)):x9 lim over (D (encI x++r))=some (x,D r):=by unfold x9;rw[bX (by simp),Cu ⟨H,by omega⟩ O,eF,yU lim om om,bX (by simp;omega)];unfold JK;rw[bX (by simp),gdp (by simp;omega)];simp only[mB (x:=x) om om,Qm,fE]
def Fi{lim x:Int}(H:0<=x)(O:x<=lim)(U:lim<=1073741824){r:List Int}(Y:Src (encI x++r)):wJ lim (D (encI x++r))=some (x,D r):=by unfold wJ;rw[V7 H O U Y];rfl
def wW{x:Int}(h:okI x){r:List Int}(H:Src (encI x++r)):tA (D (encI x++r))=some (x,D r):=by unfold tA;rw[V7 h.1 h.2 Om H];rfl
def cI9(s:ByteArray):tY (s.toList.map λ b=>(b.toNat:Int))=s:=by
 have:(s.toList.map λ b=>(b.toNat:Int)).map (λ n=>UInt8.ofNat n.toNat)=s.data.toList:=by
  rw[kC,lG]
  conv=>rhs;rw[<-List.map_id s.data.toList]
  refine List.map_congr_left λ b _=>?_;simp
 unfold tY;rw[this]
def yV(s:ByteArray):s.toList.length=s.size:=by rw[lG];rfl
def O8{s:ByteArray}(h:s.size<=1024){r:List Int}(H:Src (encT s++r)):wI (encT s++r)=some (s,((encT s).length:Int),0):=by
 have K:(s.toList.map λ b=>(b.toNat:Int)).length=s.size:=by rw[dM,yV]
 have L:=Ct 4 s.size om;have O:=H.len;have U:(encT s++r).length=(encU s.size).length+(s.size+r.length):=by unfold encT;rw[cA,cA,K];omega
 unfold wI;unfold encT at H⊢;rw[cG]at H⊢;rw[V4 om H.right.bytes,eF];rw[bX (by simp),bX (by simp;omega)];simp only;have Y:IntKind.i64.wrap (s.size:Int)=(s.size:Int):=mB om om;have B:IntKind.i64.wrap (((encU s.size).length:Int)+(s.size:Int))=((encU s.size).length+s.size:Nat):=by rw[mB om om];omega
 have F:(encU s.size++((s.toList.map λ b=>(b.toNat:Int))++r)).length=(encU s.size).length+(s.size+r.length):=by rw[cA,cA,K]
 rw[Y,B,F,mB om om,bX (by simp;omega),gdp om];simp only[Qm];rw[List.take_append,eJ om,show(encU s.size).length+s.size-(encU s.size).length=s.size by omega,fE,List.take_append,eJ om,K,gY,lR,eE,cI9];congr 3;rw[cA,K]
def V8{s:ByteArray}(h:s.size<=1024){r:List Int}(H:Src (encT s++r)):Bw (D (encT s++r))=some (s,D r):=by
 have L:(s.toList.map λ b=>(b.toNat:Int)).length=s.size:=by rw[dM,yV]
 have K:=Ct 4 s.size om;have O:=H.len;have U:(encT s++r).length=(encU s.size).length+(s.size+r.length):=by unfold encT;rw[cA,cA,L];omega
 have V:=O8 h H;unfold Bw;rw[bX (by simp),V,eF,bX (by simp),gdp (by simp;omega)];simp only[Qm,fE]
def Ib{p:aK}(h:mP p=true):okI p.site/\okI p.inc/\okI p.num:=by unfold mP s7 at h;simp only[bY,cC]at h;unfold okI;omega
def O9{p:aK}(h:mP p=true){r:List Int}(O:Src (encP p++r)):uK (encP p++r)=some (p,((encP p).length:Int),0):=by
 obtain⟨U,Y,B⟩:=Ib h;have K:∀x:Int,okI x->(encI x).length<=5:=λ x L=>(Ct 4 x.toNat (by have:=L.1;have:=L.2;omega)).2;have l1:=K _ U;have l2:=K _ Y;have l3:=K _ B;have h0:=O.len;have H:=O;unfold encP at H⊢;rw[cG,cG]at H⊢;have V:=H.right;have Z:=V.right;have F:∀x:Int,okI x->IntKind.i64.wrap (if 1073741824<x then 1073741824 else x)=x:=λ x L=>by rw[bX (by have:=L.2;omega),mB (by have:=L.1;omega) (by have:=L.2;omega)]
 have M:(encI p.site++(encI p.inc++(encI p.num++r))).length=(encI p.site).length+((encI p.inc).length+((encI p.num).length+r.length)):=by simp
 have x0:=O.right.len;have t1:rP (encI p.site++(encI p.inc++(encI p.num++r))) (0,0,Arr.rep 3 0)=some (.inl (((encI p.site).length:Int),1,Arr.put (Arr.rep 3 0) 0 p.site)):=by unfold rP;simp only[Int.toNat_zero,fT];rw[cB Om,gdp om,Cu U H,eF,bX (by simp),gdp Om];simp only[F _ U];rw[mB om om,lU];rfl
 have t2:∀z,rP (encI p.site++(encI p.inc++(encI p.num++r))) (((encI p.site).length:Int),1,z)=some (.inl (((encI p.site).length:Int)+((encI p.inc).length:Int),2,Arr.put z 1 p.inc)):=by intro z;unfold rP;simp only[Qm,fE];rw[cB (by simp),gdp om,Cu Y V,eF,bX (by simp),gdp Om];simp only[F _ Y];rw[mB om om];rfl
 have t3:∀z,rP (encI p.site++(encI p.inc++(encI p.num++r))) (((encI p.site).length:Int)+((encI p.inc).length:Int),2,z)=some (.inl (((encI p.site).length:Int)+((encI p.inc).length:Int)+((encI p.num).length:Int),3,Arr.put z 2 p.num)):=by
  intro z;unfold rP;have hd:(encI p.site++(encI p.inc++(encI p.num++r))).drop (((encI p.site).length:Int)+((encI p.inc).length:Int)).toNat=encI p.num++r:=by rw[show(((encI p.site).length:Int)+((encI p.inc).length:Int)).toNat=(encI p.site).length+(encI p.inc).length by omega,<-fB,fE,fE]
  simp only[hd];rw[cB (by simp),gdp om,Cu B Z,eF,bX (by simp),gdp Om];simp only[F _ B];rw[mB om om];rfl
 have t4:∀(i:Int) z,rP (encI p.site++(encI p.inc++(encI p.num++r))) (i,3,z)=some (.inr (.inl (i,z))):=λ i z=>by unfold rP;rw[bX (by simp)]
 unfold uK;rw[mJ,t1];simp only;rw[mJ,t2];simp only;rw[mJ,t3];simp only;rw[mJ,t4];simp only[qm];unfold J2;have g:∀x y z:Int,(⟨Arr.get (Arr.put (Arr.put (Arr.put (Arr.rep 3 0) 0 x) 1 y) 2 z) 0 0,Arr.get (Arr.put (Arr.put (Arr.put (Arr.rep 3 0) 0 x) 1 y) 2 z) 1 0,Arr.get (Arr.put (Arr.put (Arr.put (Arr.rep 3 0) 0 x) 1 y) 2 z) 2 0⟩:aK)=⟨x,y,z⟩:=λ _ _ _=>rfl;simp only[g];rw[bX (by simpa using h)];congr 3;simp only[cA];omega
def Ly{p:aK}(h:mP p=true){r:List Int}(H:Src (encP p++r)):d4 (D (encP p++r))=some (p,D r):=by obtain⟨O,U,Y⟩:=Ib h;have K:∀x:Int,okI x->(encI x).length<=5:=λ x L=>(Ct 4 x.toNat (by have:=L.1;have:=L.2;omega)).2;have F:=K _ O;have Z:=K _ U;have l3:=K _ Y;have B:=H.len;have V:=O9 h H;unfold d4;have:(encP p++r).length=(encP p).length+r.length:=cA;rw[bX (by simp),V,eF,bX (by simp),gdp (by simp only;omega)];simp only[Qm,fE]
def Lz{a:aC}(O:okI a.mode)(U:okI a.aU){r:List Int}(H:Src (encA a++r)):d6 (D (encA a++r))=some (a,D r):=by unfold d6;unfold encA at H⊢;rw[cG]at H⊢;rw[wW O H,eF,wW U H.right];rfl
def Cv{α Q:Type}{body:Int×bE×Q->Option ((Int×bE×Q)⊕(bE×Q))}{enc:α->List Int}{ok:α->Prop}(R:List α->Q)
  (O:∀(n:Int) x rest H,ok x->Src (enc x++rest)->0<n->n<=100->H.length<=100->body (n,D (enc x++rest),R H)=some (.inl (n-1,D rest,R (H++[x]))))
  (U:∀d q,body (0,d,q)=some (.inr (d,q))):∀(l H:List α) (rest:List Int),(∀x∈l,ok x)->Src (l.flatMap enc++rest)->H.length+l.length<=100->
   lY body ((l.length:Int),D (l.flatMap enc++rest),R H)=some (D rest,R (H++l))
 |[],H,rest,_,_,_=>by have e:body ((([]:List α).length:Int),D (([]:List α).flatMap enc++rest),R H)=some (.inr (D rest,R H)):=U _ _;rw[mJ,e,eE]
 |x::l,H,rest,h,K,L=>by rw[eQ,cG]at K⊢;simp only[ym]at L⊢;rw[mJ,O _ x _ H (h x (.head _)) K om om om];simp only;have:=Cv R O U l (H++[x]) rest (λ y V=>h y (.tail _ V)) K.right (by simp;omega);rw[show(((l.length+1:Nat):Int)-1)=(l.length:Int)by omega,this,cG];rfl
def okA(a:aC):Prop:=okI a.mode/\okI a.aU
def yW{a:aC}(h:oO a=true):okA a:=by unfold oO pR sQ at h;unfold okA okI;simp at h;omega
def wX{s:ByteArray}(h:nY s=true):s.size<=12:=by unfold nY at h;simp at h;omega
def Ic:∀{l:List aS} {k:aS},okL l=true->k∈l->okE k=true
 |x::l,k,h,hk=>by
  simp only[okL,bY]at h;rcases cL.1 hk with rfl|hk
  .exact h.1
  .exact Ic h.2 hk
def cIl{e k:aS}(O:k∈e.bG):mX k+1<=mX e:=by
 have:∀(H:List aS),k∈H->mX k<=nF H:=by
  intro H;induction H with
  |nil=>intro h;cases h
  |cons x H U=>
   intro h;rw[H3];rcases cL.1 h with rfl|h
   .omega
   .have:=U h;omega
 have:=this e.bG O;rw[Ls e];omega
def V9:∀(n:Nat) (O:Int) (e:aS),okE e=true->mQ e<=24->1<=O->O+mX e<=5->7<=O+n->∀r,Src (encE e++r)->BL n O (D (encE e++r))=some (e,D r)
 |0,O,e,_,_,h1,h2,h3,_,_=>by have:=m6 e;omega
 |n+1,O,e,K,hn,h1,h2,h3,r,L=>by
  show GT (BL n) O (D (encE e++r))=_;have hd:=m6 e;unfold GT;rw[bX (by simp;omega)];unfold GS;rw[Lw,cG]at L|-
  by_cases c:e.bG.length=0
  .obtain⟨B,k1,V⟩:=(H6 c).1 K;have Y:okI e.k:=by rw[B];unfold okI;omega
   rw[wW Y L,eF];have H:=L.right;rw[cB B,cG]at H⊢;obtain⟨a1,a2⟩:=yW V;have hs:=wX k1;simp only[cF,cR,bZ,cI,B,cH];rw[V8 om H,eF,Lz a1 a2 H.right,eF];have U:e.bG=[]:=dB c;obtain⟨ek,ea,x0⟩:=e;simp only at B U;subst B;subst U;rfl
  .obtain⟨⟨B,k1,V⟩,k3⟩:=(H7 c).1 K;have hlen:=tC e.bG;have z0:=uS e;have Y:okI e.k:=by unfold okI;omega
   rw[wW Y L,eF];have H:=L.right;have kn:¬e.k=0:=om
   rw[bX kn,cG]at H⊢;simp only[cF,cR,bZ,cI,kn,cP];rw[Fi om om Om H,eF];have hw:IntKind.i64.wrap (O+1)=O+1:=mB om om;have y0:=Cv (body:=GR (BL n) O) (enc:=encE) (ok:=λ k=>okE k=true/\mQ k<=24/\O+1+mX k<=5)
    (λ F=>(⟨e.k,⟨aS.zero.aZ.name,⟨aS.zero.aZ.aJ.mode,aS.zero.aZ.aJ.aU⟩⟩,F⟩:aS)) (λ m x M F Z h0 hm u0 hp=>by
     unfold GR;rw[cB (by simp;omega)];simp only[hw];rw[V9 n (O+1) x Z.1 Z.2.1 om Z.2.2 om M h0,eF,gdp om,mB om om])
    (λ d q=>by unfold GR;simp) e.bG [] r (λ k Y=>⟨Ic k3 Y,by have:=H5 Y;omega,by have:=cIl Y;omega⟩) H.right (by simp;omega)
   show(lY _ ((e.bG.length:Int),D (e.bG.flatMap encE++r),(⟨e.k,⟨aS.zero.aZ.name,⟨aS.zero.aZ.aJ.mode,aS.zero.aZ.aJ.aU⟩⟩,[]⟩:aS))).bind _=_;rw[y0,eF];unfold Kn;obtain⟨ek,ea,x0⟩:=e;simp only at V;subst V;rfl
def cIn{e:aS}(H:okE e=true)(O:fitE e=true){r:List Int}(U:Src (encE e++r)):GU 1 (D (encE e++r))=some (e,D r):=by unfold fitE at O;simp only[bY,cC]at O;unfold GU;exact V9 _ 1 e H O.2 Om om Om r U
structure OkQ (q:aA):Prop where
 name:q.aB.name.size<=1024
 kind:okI q.aB.kind
 aU:okI q.aB.aU
 home:okI q.aB.home
 gen:okI q.gen
 lh:q.aT.length<=8
 lc:q.aN.length<=8
 lw:q.aW.length<=8
 h:∀x∈q.aT,mP x.aM=true/\okA x.aJ
 c:∀x∈q.aN,mP x.aM=true/\okA x.aJ/\x.bC=0/\x.bS=0
 w:∀x∈q.aW,mP x.aM=true/\okA x.aJ/\okI x.bC/\okI x.bS
def cIo{q:aA}(h:OkQ q){r:List Int}(O:Src (encQ q++r)):Af (D (encQ q++r))=some (q,D r):=by
 have lh:=h.lh;have lc:=h.lc;have lw:=h.lw;unfold Af;unfold encQ at O⊢;simp only[cG]at O⊢;rw[V8 h.name O,eF]
 replace O:=O.right
 rw[wW h.kind O,eF]
 replace O:=O.right
 rw[wW h.aU O,eF]
 replace O:=O.right
 rw[wW h.home O,eF]
 replace O:=O.right
 rw[wW h.gen O,eF]
 replace O:=O.right
 rw[Fi om om Om O,eF]
 replace O:=O.right
 have B:=Cv (body:=GY) (enc:=encH) (ok:=λ x=>mP x.aM=true/\okA x.aJ)
  (λ U=>(⟨⟨q.aB.name,q.aB.kind,q.aB.aU,q.aB.home⟩,U,[],[],q.gen⟩:aA)) (λ m x Y U K H hm F L=>by
   unfold GY;unfold encH at H⊢;rw[cG]at H⊢;rw[cB (by simp;omega),Ly K.1 H,eF,Lz K.2.1 K.2.2 H.right,eF,gdp (by first|omega|(simp only;omega)),mB om om])
  (λ d q=>by unfold GY;simp) q.aT [] _ h.h O (by simp;omega)
 rw[B,eF]
 replace O:=O.right
 unfold Kp;rw[Fi om om Om O,eF]
 replace O:=O.right
 have M:=Cv (body:=GX) (enc:=encC) (ok:=λ x=>mP x.aM=true/\okA x.aJ/\x.bC=0/\x.bS=0)
  (λ U=>(⟨⟨q.aB.name,q.aB.kind,q.aB.aU,q.aB.home⟩,[]++q.aT,U,[],q.gen⟩:aA)) (λ m x Y U K H hm F L=>by
   unfold GX;unfold encC at H⊢;rw[cG]at H⊢;rw[cB (by simp;omega),Ly K.1 H,eF,Lz K.2.1.1 K.2.1.2 H.right,eF,gdp (by first|omega|(simp only;omega)),mB om om];obtain⟨xp,xa,xr,xs⟩:=x;obtain⟨_,_,V,Z⟩:=K;simp only at V Z;subst V;subst Z;rfl)
  (λ d q=>by unfold GX;simp) q.aN [] _ h.c O (by simp;omega)
 rw[M,eF]
 replace O:=O.right
 unfold Ko;rw[Fi om om Om O,eF]
 replace O:=O.right
 have key1:=Cv (body:=GW) (enc:=encW) (ok:=λ x=>mP x.aM=true/\okA x.aJ/\okI x.bC/\okI x.bS)
  (λ U=>(⟨⟨q.aB.name,q.aB.kind,q.aB.aU,q.aB.home⟩,[]++q.aT,[]++q.aN,U,q.gen⟩:aA)) (λ m x Y U K H hm F L=>by
   unfold GW;unfold encW at H⊢;simp only[cG]at H⊢;rw[cB (by simp;omega),Ly K.1 H,eF,Lz K.2.1.1 K.2.1.2 H.right,eF,wW K.2.2.1 H.right.right,eF,wW K.2.2.2 H.right.right.right,eF,gdp (by first|omega|(simp only;omega)),mB om om])
  (λ d q=>by unfold GW;simp) q.aW [] _ h.w O (by simp;omega)
 rw[key1,eF];rfl
structure OkS (s:aH):Prop where
 lq:s.aF.length<=8
 ln:s.aY.length<=8
 q:∀q∈s.aF,OkQ q
 n:∀n∈s.aY,mP n.aM=true/\okI n.gen/\okE n.bU=true/\fitE n.bU=true
def cIp{s:aH}(h:OkS s)(V:(encS s).length<=4294967296):B0 (encS s)=some (if nZ s=true then(s,0)else(aH.zero,2)):=by
 have lq:=h.lq;have ln:=h.ln;have O:Src (encS s++[]):=⟨(V6 s).app nP.nil,by rw[eE];omega⟩;have F:encS s=encS s++[]:=(eE _).symm;unfold B0;rw[F];unfold encS at O⊢;simp only[cG]at O⊢;have M:=Fi (lim:=8) om om Om O;have z:(⟨{bT.zero with rest:=encI (s.aF.length:Int)++(s.aF.flatMap encQ++(encI (s.aY.length:Int)++(s.aY.flatMap encN++[])))}⟩:bE)=D (encI (s.aF.length:Int)++(s.aF.flatMap encQ++(encI (s.aY.length:Int)++(s.aY.flatMap encN++[])))):=rfl;rw[z,M,eF]
 replace O:=O.right
 have Y:=Cv (body:=Hd) (enc:=encQ) (ok:=OkQ) (λ U=>(⟨U,[]⟩:aH)) (λ m x rest U K H hm B L=>by
   unfold Hd;rw[cB (by simp;omega),cIo K H,eF,gdp (by first|omega|(simp only;omega)),mB om om])
  (λ d q=>by unfold Hd;simp) s.aF [] _ h.q O (by simp;omega)
 rw[Y,eF]
 replace O:=O.right
 unfold KG;rw[Fi om om Om O,eF]
 replace O:=O.right
 have key1:=Cv (body:=Hc) (enc:=encN) (ok:=λ n=>mP n.aM=true/\okI n.gen/\okE n.bU=true/\fitE n.bU=true) (λ U=>(⟨[]++s.aF,U⟩:aH)) (λ m x rest U K H hm B L=>by
   unfold Hc;unfold encN at H⊢;simp only[cG]at H⊢;rw[cB (by simp;omega),Ly K.1 H,eF,wW K.2.1 H.right,eF,cIn K.2.2.1 K.2.2.2 H.right.right,eF,gdp (by first|omega|(simp only;omega)),mB om om])
  (λ d q=>by unfold Hc;simp) s.aY [] _ h.n O (by simp;omega)
 rw[key1,eF];unfold NV;simp only[cF,cR,bZ,cI,jm,Ym];rw[bX (by simp),Lv,eF];cases nZ s<;>rfl
def Wa{q:aA}(O:SoundP q){w:aV}(K:w∈ordQ q):mP w.aM=true/\mM q.aB w.aJ=true/\(nJ w.aM q.aT).length+1<=8:=by
 have Y:=(wT _ _).1 O.hv;rcases cY.1 K with h|h
 .obtain⟨U,H,_⟩:=O.cg w h;refine⟨(Y.2.2.1.each _ (Ck U)).1,H,?_⟩;have:=Ov (Lh O.hv) U;omega
 .have U:=O.wg w h;have H:=((HP _).1 O.wv).2.1 w h;refine⟨?_,U.1,?_⟩
  .rw[<-Lb]at H;unfold xV at H;rw[wQ]at H;simp only[bY]at H;exact H.1.1.1.1.1
  .have:=O.wl;have B:=HJ w.aM q.aT;have:0<q.aW.length:=List.length_pos_of_mem h;omega
def cIr{l:List aV}(h:qJ l=true){w:aV}(K:w∈l):pI w=true:=by unfold qJ at h;simp only[bY,cC,dQ,eH]at h;obtain⟨i,H,e⟩:=gJ K;have:=(h.2 i H).1;rw[cD,cE H]at this;simp only[Xm,e]at this;exact this
def Pa{r:aI}{a:aC}(h:mM r a=true)(H:r.aU<=1073741824):okA a:=by rw[rR]at h;unfold okA okI;omega
def Wb{q:aA}(h:mR q=true):OkQ q/\q.aB.name.size<=12:=by
 have H:=((qK q).1 h).1;have L:=AB h;have U:=H.res;unfold resV at U;simp only[bY,cC]at U;have B:=wX U.1;have F:=(tQ _).1 U.2.1;have Y:q.aB.aU<=1073741824:=om
 refine⟨⟨by omega,by unfold okI;omega,by unfold okI;omega,by unfold okI;omega,H.gen,L.1,L.2.1,L.2.2.1,λ x K=>?_,λ x K=>?_,λ x K=>?_⟩,B⟩
 .have:=((wT _ _).1 H.hv).2.2.1.each x K;exact⟨this.1,Pa this.2 Y⟩
 .have:=Wa H (w:=x) (by unfold ordQ;exact cY.2 (.inl K));have O:=H.cg x K;exact⟨this.1,Pa this.2.1 Y,O.2.2.2.2.1,O.2.2.2.2.2⟩
 .have:=Wa H (w:=x) (by unfold ordQ;exact cY.2 (.inr K));have O:=cIr H.wv K;unfold pI at O;simp only[bY,cC]at O;exact⟨this.1,Pa this.2.1 Y,by unfold okI;omega,by unfold okI;omega⟩
def Pb{l:List bQ}(h:m8 l=true){n:bQ}(H:n∈l):mP n.aM=true/\vE n.bU=true/\okI n.gen:=by unfold m8 at h;rw[dQ]at h;obtain⟨i,K,e⟩:=gJ H;have:=h i (eH.2 K);rw[cD,cE K]at this;simp only[Xm,e]at this;unfold Ff at this;simp only[bY,cC]at this;exact⟨this.1.1.1.1,this.1.1.1.2,this.1.1.2,this.1.2⟩
def LA{e:aS}(h:vE e=true):okE e=true/\fitE e=true:=by
 unfold vE at h;rw[bY]at h;refine⟨?_,h.1⟩;have H:=h.2;unfold qC at H;split at H
 .assumption
 .cases H
def AE{s:aH}(h:nZ s=true):OkS s/\∀q∈s.aF,q.aB.name.size<=12:=by unfold nZ at h;simp only[bY,cC]at h;obtain⟨U,O,_⟩:=(uR _).1 h.1.1.1;refine⟨⟨U,h.1.1.2,λ q H=>(Wb (O q H)).1,λ n Y=>?_⟩,λ q H=>(Wb (O q H)).2⟩;obtain⟨a,b,c⟩:=Pb h.1.2 Y;exact⟨a,c,(LA b).1,(LA b).2⟩
def nU{x:Int}(h:okI x):(encI x).length<=5:=(Ct 4 x.toNat (by have:=h.1;have:=h.2;omega)).2
def Ie{s:ByteArray}(h:s.size<=1024):(encT s).length<=1029:=by have:=(Ct 4 s.size om).2;unfold encT;rw[cA,dM,yV];omega
def AF{p:aK}(h:mP p=true):(encP p).length<=15:=by obtain⟨a,b,c⟩:=Ib h;have:=nU a;have:=nU b;have:=nU c;unfold encP;simp only[cA];omega
def LB{a:aC}(h:okA a):(encA a).length<=10:=by have:=nU h.1;have:=nU h.2;unfold encA;simp only[cA];omega
def vT{α:Type}{f:α->List Int}{c:Nat}:∀{l:List α},(∀x∈l,(f x).length<=c)->(l.flatMap f).length<=c*l.length
 |[],_=>by simp
 |x::l,h=>by have H:=h x (.head _);have O:=vT (l:=l) λ y K=>h y (.tail _ K);rw[eQ,cA,lH,Nat.mul_add];omega
def Wd:∀(n:Nat) (e:aS),_root_.SizeOf.sizeOf e<n->okE e=true->mQ e<=24->((encE e).length:Int)<=1100*mQ e
 |0,_,h,_,_=>om
 |n+1,e,h,K,V=>by
  have F:=uS e;have Z:=tC e.bG;rw[Lw,cA]
  by_cases c:e.bG.length=0
  .obtain⟨O,Y,B⟩:=(H6 c).1 K;have:=nU (x:=e.k) (by rw[O];unfold okI;omega);have:=Ie (s:=e.aZ.name) (by have:=wX Y;omega);have:=LB (yW B);rw[cB O,cA];omega
  .obtain⟨⟨O,Y,B⟩,M⟩:=(H7 c).1 K;have e1:=nU (x:=e.k) (by unfold okI;omega);have e2:=nU (x:=(e.bG.length:Int)) (by unfold okI;omega);rw[bX om,cA];have U:∀l:List aS,(∀k∈l,k∈e.bG)->((l.flatMap encE).length:Int)<=1100*nT l:=by
    intro l;induction l with
    |nil=>intro _;simp[OX]
    |cons k l ih=>intro H;have h1:=Wd n k (yS h (H k (.head _))) (Ic M (H k (.head _))) (by have:=H5 (H k (.head _));omega);have h2:=ih λ y L=>H y (.tail _ L);rw[eQ,cA,Cq];omega
   have:=U e.bG λ _ h=>h;omega
def cJ2{q:aA}(h:OkQ q):(encQ q).length<=2000:=by
 have H:=h.lh;have O:=h.lc;have lw:=h.lw;have U:=Ie h.name;have Y:=nU h.kind;have B:=nU h.aU;have F:=nU h.home;have M:=nU h.gen;have L:=nU (x:=(q.aT.length:Int)) (by unfold okI;omega);have V:=nU (x:=(q.aN.length:Int)) (by unfold okI;omega);have Z:=nU (x:=(q.aW.length:Int)) (by unfold okI;omega);have b1:=vT (l:=q.aT) (f:=encH) (c:=25) λ x K=>by have:=AF (h.h x K).1;have:=LB (h.h x K).2;unfold encH;rw[cA];omega
 have b2:=vT (l:=q.aN) (f:=encC) (c:=25) λ x K=>by have:=AF (h.c x K).1;have:=LB (h.c x K).2.1;unfold encC;rw[cA];omega
 have b3:=vT (l:=q.aW) (f:=encW) (c:=35) λ x K=>by have:=AF (h.w x K).1;have:=LB (h.w x K).2.1;have:=nU (h.w x K).2.2.1;have:=nU (h.w x K).2.2.2;unfold encW;simp only[cA];omega
 unfold encQ;simp only[cA];omega
def cJ3{n:bQ}(h:mP n.aM=true/\okI n.gen/\okE n.bU=true/\fitE n.bU=true):(encN n).length<=30000:=by have H:=h.2.2.2;unfold fitE at H;simp only[bY,cC]at H;have:=AF h.1;have:=nU h.2.1;have:=Wd _ n.bU (eT _) h.2.2.1 H.2;unfold encN;simp only[cA];omega
def Cw{s:aH}(h:OkS s):(encS s).length<=300000:=by have H:=h.lq;have O:=h.ln;have U:=nU (x:=(s.aF.length:Int)) (by unfold okI;omega);have Y:=nU (x:=(s.aY.length:Int)) (by unfold okI;omega);have B:=vT (l:=s.aF) (f:=encQ) (c:=2000) λ x K=>cJ2 (h.q x K);have F:=vT (l:=s.aY) (f:=encN) (c:=30000) λ x K=>cJ3 (h.n x K);unfold encS;simp only[cA];omega
def We(nm:ByteArray)(h:aX):bL:=⟨1,h.aM,nm,h.aJ⟩
def tT(nm:ByteArray)(l:List aX):List bL:=l.map (We nm)
def Cy(p:aK)(nm:ByteArray)(a:aC):bL:=⟨3,p,nm,a⟩
def LC(nm:ByteArray)(l:List aX)(K:l.length<=1000000):vD nm l=some (tT nm l):=by
 unfold vD;rw[AC l aX.zero (We nm) [] K (by simp) (λ i s L U=>by
  unfold Jy;have H:0<=(i:Int)/\(i:Int)<(l.length:Int):=om
  have O:s.length+1<=4294967296:=om
  simp only[O,H.1,H.2,cX,fD,mL,cF,cH,lF,mF i (show i<4611686018427387904 by omega)];rfl) (λ s=>by unfold Jy;simp)]
 rfl
def Cz(t:List aA)(i:Int)(q:aA):List aA:=if 0<=i then t.set i.toNat q else t
def Lens(t:List aA):Prop:=∀q∈t,q.aT.length<=1000/\q.aN.length<=1000/\q.aW.length<=1000
def Pc(t:List aA)(i:Int)(q:aA)(K:t.length<=1000)(H:0<=i)(hi:i<t.length):xS t i q=some (Cz t i q):=by unfold xS Cz;rw[mD om,mD om,cB H]
def ValidT.lens{t:List aA}(h:ValidT t):Lens t:=λ q H=>by have:=AB (h.each q H);omega
abbrev ResT:=List aA×List bL×Int
def errT(e:Int):ResT:=([],[],e)
def putT(t:List aA)(nm:ByteArray)(x:aA×List aX×Int)(ev:List bL):ResT:=if x.2.2=0 then(Cz t (nK t nm) x.1,ev++tT nm x.2.1,0)else errT x.2.2
def atT(t:List aA)(nm:ByteArray)(f:aA->ResT):ResT:=if vR t=false then errT 2 else if nK t nm<0 then errT 10 else f (t.getD (nK t nm).toNat aA.zero)
def vU(t:List aA)(p:aK):Bool:=decide (8<=(oH t).length)&&!decide (p∈oH t)
def uT(t:List aA)(p:aK)(a:aO)(pr:Int):ResT:=atT t a.name λ q=>if vU t p=true then errT 4 else putT t a.name (qF q p a.aJ pr) []
def n5(t:List aA)(p:aK)(nm:ByteArray):ResT:=atT t nm λ q=>putT t nm (pS q p) []
def qT(t:List aA)(p:aK)(a:aO):ResT:=atT t a.name λ q=>putT t a.name (oJ q p a.aJ) (if getH q.aT p=a.aJ then[]else[Cy p a.name a.aJ])
def nd0{P:Prop}[Decidable P](h:P):¬((!decide P)=true):=by simp[h]
def nd1{P:Prop}[Decidable P](h:¬P):(!decide P)=true:=by simp[h]
def Ig{t:List aA}{nm:ByteArray}(h:¬nK t nm<0):0<=nK t nm/\nK t nm<t.length:=by
 rcases H0 (t:=t) (nm:=nm)with H|⟨i,H,O,_⟩
 .omega
 .omega
def cJg{t:List aA}(h:ValidT t){nm:ByteArray}(H:¬nK t nm<0):mR (t.getD (nK t nm).toNat aA.zero)=true:=by have:=Ig H;exact h.each _ (mS om)
def cJh(t:List aA)(p:aK)(a:aO)(pr:Int):EC t p a pr=some (uT t p a pr):=by
 unfold EC uT atT;rw[H1,eF];cases L:vR t with
 |false=>rfl
 |true=>
  have h:=(m3 t).1 L;have V:=h.len;have M:=h.aD;rw[ifNT,ifTF,m4 _ _ om,eF]
  by_cases H:nK t a.name<0
  .rw[cB (cQ H),cB H];rfl
  .have hr:=Ig H;have O:=Vn (t.getD (nK t a.name).toNat aA.zero) p a.aJ pr;rw[bX (by rw[cC];exact H),bX H,Lr V h.each,eF,Vj _ _ om];have Z:decide (((oH t).length:Int)=8)=decide (8<=(oH t).length):=by rw[jB];omega
   rw[Z];have U:vU t p=(decide (8<=(oH t).length)&&!decide (p∈oH t)):=rfl;have Y:((if decide (8<=(oH t).length)=true then some (decide (p∈oH t))else some false):Option Bool).bind (λ v4=>if(decide (8<=(oH t).length)&&!v4)=true then some (([],[],4):ResT)else gd (0<=nK t a.name/\nK t a.name<(t.length:Int))<|(j6 (t.getD (nK t a.name).toNat aA.zero) p a.aJ pr).bind λ v5=>if(!decide (v5.2.2=0))=true then some (([],[],v5.2.2):ResT)else(xS t (nK t a.name) v5.1).bind λ v6=>(vD a.name v5.2.1).bind λ B=>some ((v6,B,0):ResT))=
     if vU t p=true then some (errT 4)else gd (0<=nK t a.name/\nK t a.name<(t.length:Int))<|(j6 (t.getD (nK t a.name).toNat aA.zero) p a.aJ pr).bind λ v5=>if(!decide (v5.2.2=0))=true then some (([],[],v5.2.2):ResT)else(xS t (nK t a.name) v5.1).bind λ v6=>(vD a.name v5.2.1).bind λ B=>some ((v6,B,0):ResT):=by
    rw[U]
    by_cases F:8<=(oH t).length
    .simp only[F,cF,cH,qm,cN];rfl
    .simp only[F,cP,bZ,cI,qm,fA]
   refine Eq.trans Y ?_;cases K:vU t p with
   |true=>rfl
   |false=>
    rw[ifFT,mD om,cDc,eF];unfold putT;simp only[bZ,cI]
    by_cases e:(qF (t.getD (nK t a.name).toNat aA.zero) p a.aJ pr).2.2=0
    .rw[bX (nd0 e),cB e,Pc _ _ _ om om om,eF,LC _ _ (by have:=O.2.2.2;omega)];rfl
    .rw[cB (nd1 e),bX e];rfl
def cJi(t:List aA)(p:aK)(nm:ByteArray):Ez t p nm=some (n5 t p nm):=by
 unfold Ez n5 atT;rw[H1,eF];cases K:vR t with
 |false=>rfl
 |true=>
  have h:=(m3 t).1 K;have L:=h.len;rw[ifNT,ifTF,m4 _ _ om,eF]
  by_cases H:nK t nm<0
  .rw[cB (cQ H),cB H];rfl
  .have U:=Ig H;have O:=Vo (t.getD (nK t nm).toNat aA.zero) p;rw[bX (by rw[cC];exact H),bX H,mD om,cDd,eF];unfold putT;dsimp only
   by_cases e:(pS (t.getD (nK t nm).toNat aA.zero) p).2.2=0
   .rw[bX (nd0 e),cB e,Pc _ _ _ om om om,eF,LC _ _ (by have:=O.2.2.2;omega)];rfl
   .rw[cB (nd1 e),bX e];rfl
def Pd(t:List aA)(p:aK)(a:aO):j5 t p a=some (qT t p a):=by
 unfold j5 qT atT;rw[H1,eF];cases K:vR t with
 |false=>rfl
 |true=>
  have h:=(m3 t).1 K;have L:=h.len;rw[ifNT,ifTF,m4 _ _ om,eF]
  by_cases H:nK t a.name<0
  .rw[cB (cQ H),cB H];rfl
  .have V:=Ig H;have B:=cJg h H;have F:=AB B;have O:=OP (t.getD (nK t a.name).toNat aA.zero) p a.aJ;rw[bX (by rw[cC];exact H),bX H,mD om,wS _ _ om,eF,mD om,cDe,eF];unfold putT;have Y:∀ev:List bL,ev.length<=1->(oJ (t.getD (nK t a.name).toNat aA.zero) p a.aJ).2.2=0->EB t a (nK t a.name) (oJ (t.getD (nK t a.name).toNat aA.zero) p a.aJ) ev=some (Cz t (nK t a.name) (oJ (t.getD (nK t a.name).toNat aA.zero) p a.aJ).1,ev++tT a.name (oJ (t.getD (nK t a.name).toNat aA.zero) p a.aJ).2.1,0):=λ ev M e=>by
    unfold EB;have hg:(tT a.name (oJ (t.getD (nK t a.name).toNat aA.zero) p a.aJ).2.1).length<=16:=by unfold tT;rw[dM];exact O.2.2.2
    rw[Pc _ _ _ om om om,eF,LC _ _ (by have:=O.2.2.2;omega),eF,mD om]
   dsimp only
   by_cases e:(oJ (t.getD (nK t a.name).toNat aA.zero) p a.aJ).2.2=0
   .rw[bX (nd0 e),cB e]
    by_cases U:getH (t.getD (nK t a.name).toNat aA.zero).aT p=a.aJ
    .rw[bX (nd0 U),cB U,Y [] (by simp) e]
    .rw[cB (nd1 U),bX U,mD Om,Y _ (by simp) e];rfl
   .rw[cB (nd1 e),bX e];rfl
def ascR:List aI->Option ByteArray->Bool
 |[],_=>true
 |r::l,pv=>resV r&&((match pv with|none=>true|some n=>decide (ltN n r.name))&&ascR l (some r.name))
def Wf:∀(l:List aI) (H:Option ByteArray),ascR l H=true↔(∀r∈l,resV r=true)/\l.Pairwise (λ a b=>ltN a.name b.name)/\∀n,H=some n->∀r∈l,ltN n r.name
 |[],H=>by simp only[ascR,eX,jX,fD,jF,gG,true_iff];exact .nil
 |q::t,H=>by
  simp only[ascR,bY];rw[Wf t (some q.name)];constructor
  .rintro⟨Y,O,B,K,M⟩;refine⟨λ x hx=>?_,dD.2 ⟨λ x hx=>M _ rfl x hx,K⟩,λ n F x hx=>?_⟩
   .rcases cL.1 hx with rfl|hx
    .exact Y
    .exact B x hx
   .subst F;simp only[cC]at O;rcases cL.1 hx with rfl|hx
    .exact O
    .exact Vw O (M _ rfl x hx)
  .rintro⟨Y,O,B⟩;have U:=dD.1 O;refine⟨Y q (.head _),?_,λ x hx=>Y x (.tail _ hx),U.2,λ n F x hx=>by cases F;exact U.1 x hx⟩;cases H with
   |none=>rfl
   |some n=>exact cQ (B n rfl q (.head _))
def catV(l:List aI):Bool:=decide (l.length<=8)&&ascR l none
def cJl(l:List aI):catV l=true↔l.length<=8/\(∀r∈l,resV r=true)/\l.Pairwise (λ a b=>ltN a.name b.name):=by unfold catV;rw[bY,cC,Wf];simp
def cJm(O:List aI):∀(t H:List aI),O=H++t->
  walk (λ i q (_:Unit)=>some (if resV q=true/\(i=0\/ltN (O.getD (i-1) aI.zero).name q.name)then Sum.inl ()else Sum.inr (Sum.inr (α:=Unit) false))) (λ _=>Sum.inl (β:=Bool) ()) t H.length ()=
   some (if ascR t (H.getLast?.map (·.name))=true then .inl ()else .inr false):=by
 intro t;induction t with
 |nil=>intro H _;simp[walk,ascR]
 |cons q t F=>
  intro H K;simp only[walk];have B:(H.length=0\/ltN (O.getD (H.length-1) aI.zero).name q.name)↔(match H.getLast?.map (·.name)with|none=>true|some n=>decide (ltN n q.name))=true:=by
   by_cases U:H=[]
   .subst U;simp
   .have M:=Vy H (q::t) aI.zero U;rw[K,M,jZ U];have:H.length≠0:=λ e=>U (dB e);simp[this]
  by_cases e:resV q=true/\(H.length=0\/ltN (O.getD (H.length-1) aI.zero).name q.name)
  .rw[cB e];have:=F (H++[q]) (by rw[K];simp);rw[show(H++[q]).length=H.length+1 by simp]at this;simp only;have L:ascR (q::t) (H.getLast?.map (·.name))=ascR t (some q.name):=by simp only[ascR,e.1,B.1 e.2,cN]
   rw[this,L];simp
  .rw[bX e];rw[B]at e;have V:ascR (q::t) (H.getLast?.map (·.name))=false:=by
    rw[dJ];intro Y;simp only[ascR,bY]at Y;exact e ⟨Y.1,Y.2.1⟩
   rw[V];rfl
def cJn{body:Int->Option (Int⊕(Unit⊕Bool))}(t:List aI)(L:t.length<=8)
  (hb:∀i:Nat,i<t.length->body (i:Int)=some (if resV (t.getD i aI.zero)=true/\(i=0\/ltN (t.getD (i-1) aI.zero).name (t.getD i aI.zero).name)then .inl ((i+1:Nat):Int)else .inr (.inr false)))
  (O:body (t.length:Int)=some (.inr (.inl ()))):lY body 0=some (if ascR t none=true then .inl ()else .inr false):=by
 have H:=wP (body:=body) t aI.zero (λ i (_:Unit)=>(i:Int)) (λ i q _=>some (if resV q=true/\(i=0\/ltN (t.getD (i-1) aI.zero).name q.name)then Sum.inl ()else Sum.inr (Sum.inr (α:=Unit) false))) (λ _=>Sum.inl (β:=Bool) ())
  (λ i s K=>by
   rw[hb i K,lL];split<;>rfl) (λ s=>O) ()
 have:=cJm t t [] rfl;rw[show(0:Int)=(λ(i:Nat) (_:Unit)=>(i:Int)) 0 ()from rfl,H];exact this
def Wg(t:List aI):Aa t=some (catV t):=by
 unfold Aa catV
 by_cases U:8<t.length
 .have:¬t.length<=8:=om
  rw[cB (by simp;omega)];simp[this]
 .have K:t.length<=8:=om
  rw[bX (by simp;omega),cJn t K (λ i L=>by
   unfold Kj;have H:0<=(i:Int)/\(i:Int)<(t.length:Int):=om
   simp only[H.1,H.2,cX,fD,mL,cF,cH,lF,UK,eF,mF i om]
   by_cases O:i=0
   .subst O;rw[mD (by simp)];cases resV (t.getD 0 aI.zero)<;>simp
   .rw[l6 i om om,mD (by intro _;omega)];simp only[lF,show(0:Int)<(i:Int)by omega,cF,cN,O,jL];unfold ltN;rcases hb (resV (t.getD i aI.zero))with b1|b1<;>rcases hb (Op.bytesLess (t.getD (i-1) aI.zero).name.toList (t.getD i aI.zero).name.toList)with b2|b2<;>simp[b1,b2,-List.getD_eq_getElem?_getD]) (by unfold Kj;simp)]
  simp only[K,cF,cN];cases V:ascR t none<;>rfl
def newT(l:List aI):List aA×Int:=if catV l=true then(l.map Vt,0)else([],1)
def cJp(l:List aI):BU l=some (newT l):=by
 unfold BU newT;rw[Wg,eF];cases h:catV l with
 |false=>rfl
 |true=>
  have K:=((cJl l).1 h).1;rw[ifNT,AC l aI.zero Vt [] om (by simp) (λ i s L U=>by
   unfold Kr;have H:0<=(i:Int)/\(i:Int)<(l.length:Int):=om
   have O:s.length+1<=4294967296:=om
   simp only[O,H.1,H.2,cX,mL,cF,cH,lF,mF i (show i<4611686018427387904 by omega)];rfl) (λ s=>by unfold Kr;simp)]
  rfl
end Ab
end Go.Proofs.YtfmnjkfhahfhgaaGreatDoor
