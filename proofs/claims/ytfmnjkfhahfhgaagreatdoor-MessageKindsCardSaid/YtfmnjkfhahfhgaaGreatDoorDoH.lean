import Derived.Test.YtfmnjkfhahfhgaaGreatDoorTabF
import Derived.Test.YtfmnjkfhahfhgaaGreatDoorTabB
import Derived.Test.YtfmnjkfhahfhgaaGreatDoorHm35
namespace Go.Proofs.YtfmnjkfhahfhgaaGreatDoor
namespace Ab
set_option linter.defProp false
set_option linter.unusedVariables false
set_option linter.unusedSimpArgs false
def sayE(nm:ByteArray)(a:aC)(e:bM):aC:=if e.name=nm then e.after else a
def mS(l:List bM)(nm:ByteArray):aC:=l.foldl (sayE nm) aC.zero
def vU{α:Type}{l:List α}{i:Nat}(z:α)(h:i<l.length):l.take (i+1)=l.take i++[l.getD i z]:=by rw[List.take_add_one,cE h,cB,cE h];rfl
def Oh(l:List bM)(e:bM)(nm:ByteArray):mS (l++[e]) nm=if e.name=nm then e.after else mS l nm:=by unfold mS;rw[List.foldl_append];rfl
def KH(a b:ByteArray):(a.toList==b.toList)=decide (a=b):=by
 by_cases h:a=b
 .simp[h]
 .rw[fH h];cases hb:a.toList==b.toList with
  |false=>rfl
  |true=>exact absurd (xZ.1 (dI.1 hb)) h
def x9(l:List bM)(nm:ByteArray)(V:l.length<=1000000):sP l nm=some (mS l nm):=by
 unfold sP;obtain⟨x,O,U⟩:=nM (body:=Ik l nm) (λ g=>∃i:Nat,g.1=i/\i<=l.length/\g.2=mS (l.take i) nm) (λ g=>l.length-g.1.toNat) (λ x=>x=mS l nm)
  (λ g ⟨i,K,L,hg⟩=>by
   obtain⟨B,Y⟩:=g;simp only at K hg;subst K;unfold Ik
   by_cases c:i<l.length
   .left;have H:0<=(i:Int)/\(i:Int)<(l.length:Int):=om
    simp only[H.1,H.2,cW,mD,cF,cG,Qm,KH,cD,lY i (show i<4611686018427387904 by omega)];refine⟨((i+1:Nat),mS (l.take (i+1)) nm),?_,⟨i+1,rfl,c,rfl⟩,by simp only[Qm];omega⟩;rw[vU bM.zero c,Oh]
    by_cases e:(l.getD i bM.zero).name=nm
    .rw[cA e,cA e]
    .rw[bZ e,bZ e,hg]
   .right;have e:i=l.length:=om
    refine⟨Y,?_,by rw[hg,e,eT]⟩;simp only[show¬(i:Int)<(l.length:Int)by omega,cO,bY,cH]) (0,aC.zero) ⟨0,rfl,by omega,rfl⟩
 rw[O,eF,U];rfl
def cJn{α:Type}(l:List α)(z:α){i j:Nat}(hi:i<l.length)(H:j<l.length):((l.set i (l.getD j z)).set j (l.getD i z)).Perm l:=by rw[cB,cB,cE hi,cE H];exact List.set_set_perm hi H
def cJo(O:List ByteArray)(K:O.length<=1000000)(g:Int×List ByteArray)(U:0<=g.1)(Y:g.1<(g.2.length:Int))(H:g.2.Perm O):∃x,lS Fs g=some x/\x.Perm O:=by
 refine nM (body:=Fs) (λ g=>0<=g.1/\g.1<(g.2.length:Int)/\g.2.Perm O) (λ g=>g.1.toNat) (λ x=>x.Perm O) ?_ g ⟨U,Y,H⟩;rintro⟨i,l⟩ ⟨U,Y,H⟩;simp only at U Y H;have B:=H.length_eq;unfold Fs
 by_cases c:0<i
 .have e:IntKind.i64.wrap (i-1)=i-1:=mB om om;simp only[c,cF,e,cL];rw[gdp (by intro;omega),gdp (by intro;omega)];cases hb:Op.bytesLess (l.getD i.toNat ⟨#[]⟩).toList (l.getD (i-1).toNat ⟨#[]⟩).toList with
  |false=>exact .inr ⟨l,by simp,H⟩
  |true=>left;simp only[cG];rw[gdp ⟨U,Y⟩,gdp om,gdp ⟨U,Y⟩,gdp om];exact⟨_,rfl,⟨by simp only;omega,by simp only[dS];omega,(cJn l _ om om).trans H⟩,by simp only;omega⟩
 .simp only[c,cO,eQ,bY,cH];rw[gdp (by intro h;cases h),gdp (by intro h;cases h)];exact .inr ⟨l,rfl,H⟩
def BM(nm:ByteArray)(s:List ByteArray):Bool:=s.any λ n=>decide (n=nm)
def Vk{nm:ByteArray}{s:List ByteArray}:BM nm s=true↔nm∈s:=by unfold BM;rw[kP];exact⟨λ⟨n,H,O⟩=>gD O▸H,λ h=>⟨nm,h,by simp⟩⟩
def cJr(l:List bM)(i:Nat)(hi:i<l.length)(s:List ByteArray)(Z:s.length<=1000000)(v:Int×List ByteArray)(L:v=((i:Int),s)):
  lS (Fu l v) (false,0)=some (BM (l.getD i bM.zero).name s):=by
 subst L;obtain⟨x,U,Y⟩:=nM (body:=Fu l ((i:Int),s)) (λ g=>∃k:Nat,g.2=k/\k<=s.length/\g.1=BM (l.getD i bM.zero).name (s.take k)) (λ g=>s.length-g.2.toNat) (λ x=>x=BM (l.getD i bM.zero).name s)
  (λ g ⟨k,K,V,hg⟩=>by
   obtain⟨B,F⟩:=g;simp only at K hg;subst K;unfold Fu
   by_cases c:k<s.length
   .left;have H:0<=(k:Int)/\(k:Int)<(s.length:Int):=om
    have O:0<=(i:Int)/\(i:Int)<(l.length:Int):=om
    simp only[H.1,H.2,O.1,O.2,cW,eZ,mD,cF,cG,Qm,KH,lY k (show k<4611686018427387904 by omega)];refine⟨_,rfl,⟨k+1,rfl,c,?_⟩,by simp only[Qm];omega⟩;rw[vU (⟨#[]⟩:ByteArray) c,hg];simp only[BM,List.any_append,List.any_cons,List.any_nil,jS]
   .right;have e:k=s.length:=om
    refine⟨B,?_,by rw[hg,e,eT]⟩;simp only[show¬(k:Int)<(s.length:Int)by omega,cO,bY,cH]) (false,0) ⟨0,rfl,by omega,by simp[BM]⟩
 rw[U,Y]
def Oi(l:List bM)(hl:l.length<=1000000):∃O,wP l=some O/\O.length<=l.length/\∀n,n∈O↔∃e∈l,e.name=n:=by
 unfold wP;obtain⟨x,F,M⟩:=nM (body:=Fv l) (λ g=>∃i:Nat,g.1=i/\i<=l.length/\g.2.length<=i/\∀n,n∈g.2↔∃e∈l.take i,e.name=n) (λ g=>l.length-g.1.toNat)
  (λ x=>x.length<=l.length/\∀n,n∈x↔∃e∈l,e.name=n)
  (λ g ⟨i,V,Z,L,hg⟩=>by
   obtain⟨g1,H⟩:=g;simp only at V L hg;subst V;unfold Fv
   by_cases c:i<l.length
   .left;have Y:0<=(i:Int)/\(i:Int)<(l.length:Int):=om
    simp only[Y.2,cF,cG];rw[cJr l i c H om _ rfl,eF];unfold Ft;have K:∀n,(∃e∈l.take (i+1),e.name=n)↔n∈H\/n=(l.getD i bM.zero).name:=λ n=>by rw[vU bM.zero c,hg];simp only[cX,dO,or_and_right,exists_or,exists_eq_left];exact or_congr kT ⟨Eq.symm,Eq.symm⟩
    by_cases U:(l.getD i bM.zero).name∈H
    .rw[cA (Vk.2 U)];refine⟨_,by rw[lY i om],⟨i+1,rfl,c,by simp only;omega,λ n=>?_⟩,by simp only[Qm];omega⟩;rw[K];exact⟨Or.inl,λ h=>h.elim id λ h=>h▸U⟩
    .rw[bZ (λ h=>U (Vk.1 h)),gdp Y,gdp (by simp only;omega)];obtain⟨y,e1,B⟩:=cJo (H++[(l.getD i bM.zero).name]) (by rw[cC,lL];omega) (IntKind.i64.wrap (((H.length+1:Nat):Int)-1),H++[(l.getD (i:Int).toNat bM.zero).name])
      (by simp only;rw[mB om om];omega) (by simp only[cC,Km];rw[mB om om];omega) (by simp only[Qm];exact iT _)
     rw[e1,eF];unfold Me;refine⟨_,by rw[lY i om],⟨i+1,rfl,c,by have:=B.length_eq;simp only[cC,Km]at this;simp only;omega,λ n=>?_⟩,by simp only[Qm];omega⟩;rw[K,B.mem_iff,cX,dO]
   .right;have e:i=l.length:=om
    refine⟨H,?_,by omega,λ n=>by rw[hg,e,eT]⟩;simp only[show¬(i:Int)<(l.length:Int)by omega,cO,bY,cH]) (0,[]) ⟨0,rfl,by omega,by simp,λ n=>by simp⟩
 exact⟨x,by rw[F,eF];rfl,M⟩
def Oj(l:List bV)(x:Int)(K:l.length<=1000000):∃v,yL l x=some v/\(v=-1\/0<=v/\v<(l.length:Int)):=by
 unfold yL;rw[NU l bV.zero (λ a=>decide (a.label=x)) (λ i L=>by
  unfold Iy;have H:0<=(i:Int)/\(i:Int)<(l.length:Int):=om
  simp only[H.1,H.2,cW,mD,cF,cG,lA,lY i (show i<4611686018427387904 by omega)];split<;>rfl) (by unfold Iy;simp)]
 cases h:l.findIdx? λ a=>decide (a.label=x)with
 |none=>exact⟨-1,rfl,.inl rfl⟩
 |some i=>obtain⟨O,_⟩:=hY.1 h;exact⟨i,rfl,.inr om⟩
structure LedgerP (l:aZ):Prop where
 le:l.aP.length<=72
 ls:l.bH.length<=4
 grow:∀i,i<l.aP.length->(l.aP.getD i bM.zero).before=mS (l.aP.take i) (l.aP.getD i bM.zero).name/\yV (l.aP.getD i bM.zero).before (l.aP.getD i bM.zero).after=true
 at_:∀s∈l.bH,0<=s.at_/\s.at_<=(l.aP.length:Int)
def Vl(l:aZ)(V:l.bH.length<=4)(i:Nat):(i<l.bH.length->∃b:Bool,C7 l (i:Int)=some (if b=true then .inl ((i+1:Nat):Int)else .inr (.inr false))/\
  (b=true->0<=(l.bH.getD i bV.zero).at_/\(l.bH.getD i bV.zero).at_<=(l.aP.length:Int)))/\(i=l.bH.length->C7 l (i:Int)=some (.inr (.inl ()))):=by
 refine⟨λ c=>?_,λ c=>?_⟩
 .unfold C7;have U:0<=(i:Int)/\(i:Int)<(l.bH.length:Int):=om
  simp only[U.1,U.2,cW,mD,cF,cG,Qm];rw[gdp (by
   intro h;simp only[bX,cD]at h;have:=h.2;rw[mB om om];omega)]
  obtain⟨v,K,_⟩:=Oj l.bH ((l.bH.getD i bV.zero).label) om;generalize L:(!(((((decide ((l.bH.getD i bV.zero).label<1))||(decide (99<(l.bH.getD i bV.zero).label)))||(decide ((l.bH.getD i bV.zero).at_<0)))||(decide ((l.aP.length:Int)<(l.bH.getD i bV.zero).at_)))||((decide (0<(i:Int)))&&(decide ((l.bH.getD i bV.zero).at_<(l.bH.getD ((IntKind.i64.wrap ((i:Int)-1)).toNat) bV.zero).at_)))))=A;have H:(((((decide ((l.bH.getD i bV.zero).label<1))||(decide (99<(l.bH.getD i bV.zero).label)))||(decide ((l.bH.getD i bV.zero).at_<0)))||(decide ((l.aP.length:Int)<(l.bH.getD i bV.zero).at_)))||((decide (0<(i:Int)))&&(decide ((l.bH.getD i bV.zero).at_<(l.bH.getD ((IntKind.i64.wrap ((i:Int)-1)).toNat) bV.zero).at_))))=!A:=by rw[<-L,Bool.not_not]
  simp only[H];cases A with
  |false=>exact⟨false,by simp,by simp⟩
  |true=>
   simp only[cG,K,qm,cR,dP];have O:0<=(l.bH.getD i bV.zero).at_/\(l.bH.getD i bV.zero).at_<=(l.aP.length:Int):=by simp only[cR,iS,dL]at H;omega
   by_cases e:v=(i:Int)
   .exact⟨true,by simp[e,lY i (show i<4611686018427387904 by omega)],λ _=>O⟩
   .exact⟨false,by simp[e],by simp⟩
 .subst c;unfold C7;simp
def cJv(l:aZ)(K:l.aP.length<=72)(i:Nat)(c:i<l.aP.length):∃b:Bool,FP l (i:Int)=some (if b=true then .inl ((i+1:Nat):Int)else .inr (.inr false))/\
  (b=true->(l.aP.getD i bM.zero).before=mS (l.aP.take i) (l.aP.getD i bM.zero).name/\yV (l.aP.getD i bM.zero).before (l.aP.getD i bM.zero).after=true):=by
 unfold FP;have U:0<=(i:Int)/\(i:Int)<(l.aP.length:Int):=om
 simp only[U.1,U.2,cW,mD,cF,cG,Qm];rw[Eh,eF,gdp (λ _=>by simp<;>omega),x9 _ _ (by simp;omega)];cases L:nY (l.aP.getD i bM.zero).name with
 |false=>exact⟨false,by simp,by simp⟩
 |true=>
  simp only[cG,qm,cR,dP]
  by_cases H:(l.aP.getD i bM.zero).before=mS (l.aP.take i) (l.aP.getD i bM.zero).name
  .have O:decide ((l.aP.getD i bM.zero).before=mS (l.aP.take i) (l.aP.getD i bM.zero).name)=true:=cP H;cases V:yV (l.aP.getD i bM.zero).before (l.aP.getD i bM.zero).after with
   |false=>exact⟨false,by simp only[dK,jJ,cG,bY,cH],λ h=>nomatch h⟩
   |true=>exact⟨true,by simp only[O,cR,eY,bY,cH,cG,lY i (show i<4611686018427387904 by omega)],λ _=>⟨H,rfl⟩⟩
  .have O:decide ((l.aP.getD i bM.zero).before=mS (l.aP.take i) (l.aP.getD i bM.zero).name)=false:=fH H;exact⟨false,by simp only[O,dK,fT,cG,bY,cH],λ h=>nomatch h⟩
def BN{body:Int->Option (Int⊕(Unit⊕Bool))}(n:Nat)(P:Nat->Prop)(h:∀i:Nat,i<n->∃b:Bool,body (i:Int)=some (if b=true then .inl ((i+1:Nat):Int)else .inr (.inr false))/\(b=true->P i))(U:body (n:Int)=some (.inr (.inl ()))):
  lS body 0=some (.inr false)\/lS body 0=some (.inl ())/\∀i,i<n->P i:=by
 obtain⟨x,O,H⟩:=nM (body:=body) (λ g=>∃i:Nat,g=i/\i<=n/\∀k,k<i->P k) (λ g=>n-g.toNat) (λ x=>x=.inr false\/x=.inl ()/\∀i,i<n->P i)
  (λ g ⟨i,K,L,hg⟩=>by
   subst K
   by_cases c:i<n
   .obtain⟨b,hb,Y⟩:=h i c;cases b with
    |false=>exact .inr ⟨_,hb,.inl rfl⟩
    |true=>exact .inl ⟨_,hb,⟨i+1,rfl,c,λ k B=>by
      rcases jX k i with h5|h5
      .exact hg k h5
      .have:k=i:=om
       subst this;exact Y rfl⟩,by simp only[Qm];omega⟩
   .have:i=n:=om
    subst this;exact .inr ⟨_,U,.inr ⟨rfl,hg⟩⟩) 0 ⟨0,rfl,by omega,λ k B=>om⟩
 rcases H with rfl|⟨rfl,H⟩
 .exact .inl O
 .exact .inr ⟨O,H⟩
def vV{α:Type}{l:List α}{z x:α}(h:x∈l):∃i,i<l.length/\l.getD i z=x:=by obtain⟨i,H,e⟩:=fY.1 h;exact⟨i,H,by rw[cB,cE H];exact e⟩
def BO(l:aZ):∃b,tO l=some b/\(b=true->LedgerP l):=by
 unfold tO
 by_cases c:l.aP.length<=72/\l.bH.length<=4
 .rw[bZ (by simp;omega)];rcases BN l.aP.length _ (λ i K=>cJv l c.1 i K) (by unfold FP;simp)with L|⟨L,V⟩
  .exact⟨false,by rw[L];rfl,by simp⟩
  .rw[L,eF];show∃b,FO l ()=some b/\_;unfold FO;obtain⟨U,Y,_⟩:=Oi l.aP om;rw[Y,eF]
   by_cases O:(8:Int)<U.length
   .exact⟨false,by rw[cA (by simpa using O)],by simp⟩
   .rw[bZ (by simpa using O)];rcases BN l.bH.length _ (λ i K=>(Vl l c.2 i).1 K) ((Vl l c.2 _).2 rfl)with H|⟨H,B⟩
    .exact⟨false,by rw[H];rfl,by simp⟩
    .refine⟨true,by rw[H];rfl,λ _=>⟨c.1,c.2,V,λ s F=>?_⟩⟩;obtain⟨i,K,rfl⟩:=vV (z:=bV.zero) F;exact B i K
 .exact⟨false,by rw[cA (by simp;omega)],by simp⟩
def cJy{α β:Type}{o:Option α}{f:α->β}{b:β}(h:(o.bind λ v=>some (f v))=some b):∃v,o=some v/\f v=b:=by
 cases o with
 |none=>cases h
 |some v=>exact⟨v,rfl,dW h⟩
def KI(e:aR):∃v,qG e=some v/\v.2=vE e:=by have h:=G9 e;unfold p9 at h;exact cJy h
def KJ{e:aR}{v:List aO×Bool}(h:qG e=some v):v.1.length<=8:=by
 unfold qG at h;obtain⟨v1,O,h⟩:=lT h
 by_cases c:v1=0
 .rw[cA (by simpa using c)]at h;cases h;simp
 rw[bZ (by simpa using c)]at h;obtain⟨v2,U,h⟩:=lT h;cases v2 with
 |inl v2=>cases h;simp
 |inr v2=>
  simp only at h
  by_cases K:((!v2.2)||(decide (8<(v2.1.length:Int))))=true
  .rw[cA K]at h;cases h;simp
  .rw[bZ K]at h;have L:v2.1.length<=8:=by
    simp only[dV,cD,kZ]at K;omega
   have H:=UZ v2 om
   by_cases d:dnN v2.1
   .rw[H.1 d]at h;have:F2 v2 ()=some v:=h;unfold F2 at this;cases this;exact L
   .rw[H.2 d]at h;cases h;simp
def cK1(e:aR)(L:List aO)(S:List Bool)(B:L.length<=1000):∃b,((lS (Fw e L S) 0).bind (λ|.inl z=>Mf z|.inr z=>some z))=some b/\((∀i,S.getD i false=false)->b=false):=by
 obtain⟨x,O,U⟩:=nM (body:=Fw e L S) (λ g=>∃i:Nat,g=i/\i<=L.length) (λ g=>L.length-g.toNat) (λ x=>∀b,x=.inr b->(∀i,S.getD i false=false)->b=false)
  (λ g ⟨i,K,V⟩=>by
   subst K;unfold Fw
   by_cases c:i<L.length
   .have H:0<=(i:Int)/\(i:Int)<(L.length:Int):=om
    simp only[H.1,H.2,cW,mD,cF,cG,Qm]
    by_cases d:L.getD i aO.zero=e.bA
    .right;rw[cA (by simpa using d),gdp (by intro h;simp only[cD]at h;simp;omega)];exact⟨_,rfl,λ b hb Y=>by cases hb;rw[Y,gY]⟩
    .left;rw[bZ (by simpa using d),lY i om];exact⟨_,rfl,⟨i+1,rfl,c⟩,by simp only[Qm];omega⟩
   .right;simp only[show¬(i:Int)<(L.length:Int)by omega,cO,bY,cH];exact⟨_,rfl,λ b hb=>by cases hb⟩) 0 ⟨0,rfl,by omega⟩
 rw[O];cases x with
 |inl x=>exact⟨false,rfl,λ _=>rfl⟩
 |inr b=>exact⟨b,rfl,U b rfl⟩
def Vm:∀(n:Nat) (e:aR),_root_.SizeOf.sizeOf e<n->mJ e<=24->∀(L:List aO) (S:List Bool),L.length<=1000->∃b,fr_ref08_holds n e L S=some b/\(okE e=true->(∀i,S.getD i false=false)->b=false)
 |0,_,h,_,_,_,_=>om
 |n+1,e,h,hn,L,S,K=>by
  show∃b,Av (fr_ref08_holds n) e L S=some b/\_;unfold Av;have hl:=sU e.bG;have x0:=uT e
  by_cases c:e.k=0
  .rw[cA (by simpa using c)];obtain⟨b,O,U⟩:=cK1 e L S K;exact⟨b,O,λ _=>U⟩
  .rw[bZ (by simpa using c)];obtain⟨x,O,U⟩:=nM (body:=ID (fr_ref08_holds n) e L S) (λ g=>∃i:Nat,g.2=i/\i<=e.bG.length/\0<=g.1/\g.1<=i/\(okL e.bG=true->(∀i,S.getD i false=false)->g.1=0)) (λ g=>e.bG.length-g.2.toNat)
    (λ x=>okL e.bG=true->(∀i,S.getD i false=false)->x=0)
    (λ g ⟨i,V,hle,Z,h4,hg⟩=>by
     obtain⟨m,g2⟩:=g;simp only at V Z h4 hg;subst V;unfold ID
     by_cases c:i<e.bG.length
     .left;have F:0<=(i:Int)/\(i:Int)<(e.bG.length:Int):=om
      simp only[F.1,F.2,cW,mD,cF,cG,Qm];have Y:=mN (z:=aR.zero) c;obtain⟨b,e1,e2⟩:=Vm n _ (zX h Y) (by have:=Kx Y;omega) L S K;rw[e1,eF,lY i om];cases b with
      |true=>rw[cA rfl,mB om om];exact⟨_,rfl,⟨i+1,rfl,c,by simp only;omega,by simp only;omega,λ H B=>by have:=e2 (KA H Y) B;cases this⟩,by simp only[Qm];omega⟩
      |false=>rw[bZ Om];exact⟨_,rfl,⟨i+1,rfl,c,Z,by simp only;omega,hg⟩,by simp only[Qm];omega⟩
     .right;simp only[show¬(i:Int)<(e.bG.length:Int)by omega,cO,bY,cH];exact⟨_,rfl,hg⟩) (0,0) ⟨0,rfl,by omega,by simp,by simp,λ _ _=>rfl⟩
   rw[O,eF];refine⟨_,rfl,λ H B=>?_⟩
   by_cases M:e.bG.length=0
   .exact absurd ((Ky M).1 H).1 c
   .have h5:=(Kz M).1 H;rw[U h5.2 B];exact fH om
def Vn{e:aR}(h:vE e=true):mJ e<=24:=by have:=(KB h).2;unfold fitE at this;simp only[bX,cD]at this;omega
def Ok{e:aR}(h:vE e=true){L:List aO}(H:L.length<=1000)(S:List Bool):∃b,f_ref08_holds e L S=some b/\((∀i,S.getD i false=false)->b=false):=by unfold f_ref08_holds;obtain⟨b,O,U⟩:=Vm _ e (eN _) (Vn h) L S H;exact⟨b,O,U (KB h).1⟩
def Ol{e:aR}(h:vE e=true)(S:List Bool):∃b,q6 e S=some b/\((∀i,S.getD i false=false)->b=false):=by unfold q6;obtain⟨v,H,O⟩:=KI e;rw[H,eF,O,h];obtain⟨b,U,Y⟩:=Ok h (L:=v.1) (by have:=KJ H;omega) S;rw[cA rfl,U];exact⟨b,by simp,Y⟩
def BP(e:aR):∃l,uK e=some l/\l.length<=8/\qG e=some (l,vE e):=by unfold uK;obtain⟨v,H,O⟩:=KI e;exact⟨v.1,by rw[H];rfl,KJ H,by rw[H,<-O]⟩
def cK7(S:List Bool)(v:List aO×Bool)(V:v.1.length<=8)(s0:List Bool)(H:s0.length=v.1.length):∃x,lS (Gl S v) (0,s0)=some x/\x.length=v.1.length:=
 nM (body:=Gl S v) (λ g=>∃i:Nat,g.1=i/\i<=v.1.length/\g.2.length=v.1.length) (λ g=>v.1.length-g.1.toNat) (λ x=>x.length=v.1.length)
  (λ g ⟨i,K,L,hg⟩=>by
   obtain⟨U,Y⟩:=g;simp only at K hg;subst K;unfold Gl
   by_cases c:i<v.1.length
   .left;have O:0<=(i:Int)/\(i:Int)<(v.1.length:Int):=om
    simp only[O.2,cF,cG,Qm];rw[gdp (by intro h;simp only[cD]at h;omega),gdp om,lY i om];exact⟨_,rfl,⟨i+1,rfl,c,by simp only[dS];exact hg⟩,by simp only[Qm];omega⟩
   .right;simp only[show¬(i:Int)<(v.1.length:Int)by omega,cO,bY,cH];exact⟨_,rfl,hg⟩) (0,s0) ⟨0,rfl,by omega,H⟩
def cK8{e:aR}(h:vE e=true)(v:List aO×Bool)(Y:v.1.length<=8)(s0:List Bool)(H:s0.length=v.1.length):∃x,lS (Gk e v) (IntKind.i64.wrap ((v.1.length:Int)-1),s0)=some x/\x.length=v.1.length:=
 nM (body:=Gk e v) (λ g=>-1<=g.1/\g.1<(v.1.length:Int)/\g.2.length=v.1.length) (λ g=>(g.1+1).toNat) (λ x=>x.length=v.1.length)
  (λ g ⟨K,V,hg⟩=>by
   obtain⟨i,s⟩:=g;simp only at K V hg;unfold Gk
   by_cases c:0<=i
   .left;have O:IntKind.i64.wrap (i-1)=i-1:=mB om om;rw[cA (by simpa using c)];simp only[O];rw[gdp om]
    by_cases d:s.getD i.toNat false=true
    .rw[cA d,gdp om];obtain⟨b,U,_⟩:=Ok h (L:=v.1) om (s.set i.toNat false);rw[U,eF,gdp om];refine⟨(i-1,_),rfl,⟨by simp only;omega,by simp only;omega,?_⟩,by simp only;omega⟩;simp only[dS];exact hg
    .rw[bZ d];exact⟨(i-1,s),rfl,⟨by simp only;omega,by simp only;omega,hg⟩,by simp only;omega⟩
   .right;simp only[c,cO,bY,cH];exact⟨_,rfl,hg⟩) _ ⟨by simp only;rw[mB om om];omega,by simp only;rw[mB om om];omega,H⟩
def cK9{e:aR}(h:vE e=true)(S:List Bool){l:List aO}(K:qG e=some (l,vE e)):∃x,q8 e S=some x/\x.length=l.length:=by
 unfold q8;have V:=KJ K;simp only at V;rw[K,eF,gdp (by simp only;omega),h,cA rfl];obtain⟨b,H,_⟩:=Ok h (L:=l) om S;simp only[H,qm];cases b with
 |false=>exact⟨_,rfl,by simp⟩
 |true=>simp only[cR,eY,bY,cH];obtain⟨x,O,U⟩:=cK7 S (l,true) (by simp only;omega) (List.replicate ((l.length:Int).toNat) false) (by simp);rw[O,eF];unfold JE;obtain⟨y,Y,B⟩:=cK8 h (l,true) (by simp only;omega) x U;rw[Y];exact⟨y,rfl,B⟩
def On(l:List aG)(p:aK)(L:l.length<=1000):∃v,wO l p=some v/\(v=-1/\(∀x∈l,x.aL≠p)\/∃i:Nat,v=i/\i<l.length/\(l.getD i aG.zero).aL=p):=by
 unfold wO;rw[NU l aG.zero (λ a=>decide (a.aL=p)) (λ i V=>by
  unfold Ij;have H:0<=(i:Int)/\(i:Int)<(l.length:Int):=om
  simp only[H.1,H.2,cW,mD,cF,cG,lA,lY i (show i<4611686018427387904 by omega)];split<;>rfl) (by unfold Ij;simp)]
 cases h:l.findIdx? λ a=>decide (a.aL=p)with
 |none=>refine⟨-1,rfl,.inl ⟨rfl,λ x K e=>?_⟩⟩;have:=kC.1 h x K;simp[e]at this
 |some i=>obtain⟨O,U,_⟩:=hY.1 h;refine⟨i,rfl,.inr ⟨i,rfl,O,?_⟩⟩;rw[cB,cE O];exact gD U
def Vo(t:List aA)(K:t.length<=1000):m3 t=some (t.map (·.aB)):=by
 unfold m3;rw[x3 t aA.zero (·.aB) [] om (by simp) (λ i s L O=>by
  unfold IC;have H:0<=(i:Int)/\(i:Int)<(t.length:Int):=om
  simp only[H.1,H.2,cW,mD,cF,cG,lA,lY i (show i<4611686018427387904 by omega)];rw[gdp om]) (λ s=>by unfold IC;simp)]
 rfl
def KK{α β:Type}(l:List α)(z:α)(f:α->Option β){body:Int×List β->Option ((Int×List β)⊕List β)}(L:l.length<=1000000)
  (hb:∀(i:Nat) (s:List β),i<l.length->s.length<=1000000->body ((i:Int),s)=some (.inl (((i+1:Nat):Int),rP s (f (l.getD i z))))) (O:∀s,body ((l.length:Int),s)=some (.inr s)):lS body (0,[])=some (l.filterMap f):=by
 have H:=qS (body:=body) l z (λ i (s:List β)=>((i:Int),s)) (λ i a s=>some (.inl (rP s (f a)))) (λ s=>s) (λ i s=>s.length<=i)
  (λ i s K U=>⟨by rw[hb i s K om];rfl,λ Y h=>by simp only[dD,fI]at h;subst h;have:=bVr s (f (l.getD i z));omega⟩) (λ s U=>O s) [] (by simp)
 rw[show((0,[]):Int×List β)=(λ(i:Nat) (s:List β)=>((i:Int),s)) 0 []from rfl,H,Ed f];simp
def b6(p:aK)(q:aA):Option aO:=if getH q.aS p=aC.zero then none else some ⟨q.aB.name,getH q.aS p⟩
def EB(p:aK)(q:aA):Option aO:=if(nA q p).2=true then some ⟨q.aB.name,(nA q p).1⟩else none
def sayF(l:List bM)(n:ByteArray):Option aO:=if mS l n=aC.zero then none else some ⟨n,mS l n⟩
def y3{t:List aA}(h:Lens t){i:Nat}(hi:i<t.length):(t.getD i aA.zero).aS.length<=1000/\(t.getD i aA.zero).aN.length<=1000/\(t.getD i aA.zero).aW.length<=1000:=h _ (mN hi)
def cKg(t:List aA)(p:aK)(V:t.length<=1000)(O:Lens t):AM t p=some (t.filterMap (b6 p)):=by
 unfold AM;rw[KK t aA.zero (b6 p) om (λ i s K L=>by
  unfold IW;have H:0<=(i:Int)/\(i:Int)<(t.length:Int):=om
  have Y:=y3 O K;have U:s.length+1<=4294967296:=om
  simp only[H.1,H.2,U,cW,mD,cF,cG,lA,lY i (show i<4611686018427387904 by omega),vP (t.getD i aA.zero) p om,eF,xE];unfold b6
  by_cases c:getH (t.getD i aA.zero).aS p=aC.zero
  .rw[cA c,bZ (by rw[(uO _).2 c];decide)];rfl
  .rw[bZ c,cA (by rw[(xH _).2 c];rfl)];rfl) (λ s=>by unfold IW;simp)]
 rfl
def cKh(t:List aA)(p:aK)(V:t.length<=1000)(O:Lens t):AP t p=some (t.filterMap (EB p)):=by
 unfold AP;rw[KK t aA.zero (EB p) om (λ i s K L=>by
  unfold I1;have H:0<=(i:Int)/\(i:Int)<(t.length:Int):=om
  have Y:=y3 O K;have U:s.length+1<=4294967296:=om
  simp only[H.1,H.2,U,cW,mD,cF,cG,lA,lY i (show i<4611686018427387904 by omega),u7 (t.getD i aA.zero) p om om,eF];unfold EB;split<;>rfl) (λ s=>by unfold I1;simp)]
 rfl
def cKi(l:aZ)(L:l.aP.length<=1000):∃H:List ByteArray,wP l.aP=some H/\(∀n,n∈H↔∃e∈l.aP,e.name=n)/\AA l=some (H.filterMap (sayF l.aP))/\H.length<=l.aP.length:=by
 obtain⟨H,U,Y,O⟩:=Oi l.aP om;refine⟨H,U,O,?_,Y⟩;unfold AA;rw[U,eF,KK H ⟨#[]⟩ (sayF l.aP) om (λ i s V K=>by
  unfold II;have O:0<=(i:Int)/\(i:Int)<(H.length:Int):=om
  have B:s.length+1<=4294967296:=om
  simp only[O.1,O.2,B,cW,mD,cF,cG,lA,lY i (show i<4611686018427387904 by omega),x9 l.aP _ om,eF];unfold sayF
  by_cases c:mS l.aP (H.getD i ⟨#[]⟩)=aC.zero
  .rw[cA c,bZ (by rw[c];decide)];rfl
  .rw[bZ c,cA (by rw[fH c];rfl)];rfl) (λ s=>by unfold II;simp)]
 rfl
def cKj(a b:List aO)(H:a.length<=1000000):wM a b=some (decide (a=b)):=by
 unfold wM
 by_cases h:a.length=b.length
 .rw[bZ (by simp[h])];exact Nb a b aO.zero om h (λ i=>rfl)
 .have:¬a=b:=λ e=>h (by rw[e]);rw[cA (by simp;omega),fH this]
def Oo(t:List aA)(p:aK)(e:aR)(hl:t.length<=1000)(F:Lens t):∃O L,zJ t p e=some O/\qG e=some (L,vE e)/\O.length=L.length/\(t=[]->∀i,O.getD i false=false):=by
 obtain⟨L,M,h2,H⟩:=BP e;unfold zJ;rw[M,eF,gdp om];obtain⟨x,U,Z,B⟩:=nM (body:=JG t p L) (λ g=>∃i:Nat,g.1=i/\i<=L.length/\g.2.length=L.length/\(t=[]->∀i,g.2.getD i false=false)) (λ g=>L.length-g.1.toNat) (λ x=>x.length=L.length/\(t=[]->∀i,x.getD i false=false))
  (λ g ⟨i,V,hle,hg,K⟩=>by
   obtain⟨g1,g2⟩:=g;simp only at V hg K;subst V;unfold JG
   by_cases c:i<L.length
   .left;have H:0<=(i:Int)/\(i:Int)<(L.length:Int):=om
    have U:(i:Int)<(g2.length:Int):=om
    simp only[H.1,H.2,U,cW,mD,cF,cG,Qm,lY i (show i<4611686018427387904 by omega),zW t _ (show t.length<=1000000 by omega),qm];rcases G5 (t:=t) (nm:=(L.getD i aO.zero).name)with e|⟨k,e,Y,_⟩
    .rw[e,bZ Om];exact⟨_,rfl,⟨i+1,rfl,c,hg,K⟩,by simp only[Qm];omega⟩
    .have B:=y3 F Y;rw[e,cA (by simp),gdp om,gdp om];simp only[Qm];rw[vP _ _ om,eF];exact⟨_,rfl,⟨i+1,rfl,c,by simp only[dS];exact hg,λ h=>by rw[h]at Y;cases Y⟩,by simp only[Qm];omega⟩
   .right;simp only[show¬(i:Int)<(L.length:Int)by omega,cO,bY,cH];exact⟨_,rfl,hg,K⟩) (0,List.replicate ((L.length:Int).toNat) false) ⟨0,rfl,by omega,by simp,λ _ i=>by
     simp only[cB,jD];split<;>rfl⟩
 exact⟨x,L,by rw[U];rfl,H,Z,B⟩
def Hi(q:aA)(x:aG)(L:List aO):Prop:=
 (∃a∈L,a.name=q.aB.name/\covA q.aB (mS x.bF.aP q.aB.name) a.aJ=false/\
  ((nA q x.aL).2=false/\getH q.aS x.aL=qV q.aB (mS x.bF.aP q.aB.name) a.aJ\/getH q.aS x.aL=mS x.bF.aP q.aB.name))\/
 (getH q.aS x.aL=mS x.bF.aP q.aB.name/\(nA q x.aL).2=false)
def cKm(q:aA)(x:aG)(K:q.aW.length<=1000):∃r,lS (Dt q x) 0=some r/\(r=.inl ()\/r=.inr false):=by
 rcases BN (body:=Dt q x) q.aW.length (λ _=>True) (λ i L=>by
  unfold Dt;have H:0<=(i:Int)/\(i:Int)<(q.aW.length:Int):=om
  simp only[H.1,H.2,cW,eZ,mD,cF,cG,Qm,lY i (show i<4611686018427387904 by omega)];split
  .exact⟨false,rfl,trivial⟩
  .exact⟨true,rfl,trivial⟩) (by unfold Dt;simp)with h|⟨h,_⟩
 .exact⟨_,h,.inr rfl⟩
 .exact⟨_,h,.inl rfl⟩
def cKn(q:aA)(x:aG)(L:List aO)(he:x.bF.aP.length<=1000)(h0:q.aS.length<=1000)(h1:q.aN.length<=1000)(Y:q.aW.length<=1000)(hL:L.length<=1000):
  ∃b,Be q x L=some b/\(b=true->Hi q x L):=by
 unfold Be;rw[x9 _ _ om,eF,vP _ _ om,eF,u7 _ _ om om,eF];obtain⟨r,H,B⟩:=nM (body:=Du q x L (mS x.bF.aP q.aB.name) (getH q.aS x.aL) (nA q x.aL)) (λ g=>∃i:Nat,g=i/\i<=L.length) (λ g=>L.length-g.toNat)
  (λ r=>r=.inl ()\/∃b,r=.inr b/\(b=true->Hi q x L))
  (λ g ⟨i,K,V⟩=>by
   subst K;unfold Du
   by_cases c:i<L.length
   .have H:0<=(i:Int)/\(i:Int)<(L.length:Int):=om
    simp only[H.1,H.2,cW,mD,cF,cG,Qm,lY i (show i<4611686018427387904 by omega),KH]
    by_cases d:((!decide ((L.getD i aO.zero).name=q.aB.name))||(rJ q.aB (mS x.bF.aP q.aB.name) ((L.getD i aO.zero).aJ)))=true
    .rw[cA d];exact .inl ⟨_,rfl,⟨i+1,rfl,c⟩,by simp only[Qm];omega⟩
    .rw[bZ d];right;simp only[dV,dA,dL,kZ,kI,gJ]at d;obtain⟨O,U⟩:=d;have hm:=mN (z:=aO.zero) c;rw[TR,eF];cases Z:(nA q x.aL).2 with
     |false=>simp only[dK,cG];refine⟨_,rfl,.inr ⟨_,rfl,λ hb=>.inl ⟨_,hm,O,U,.inl ⟨Z,gD hb⟩⟩⟩⟩
     |true=>
      simp only[cR,bY,cH];obtain⟨r,F,M⟩:=cKm q x Y;rw[F];rcases M with rfl|rfl
      .refine⟨_,rfl,.inr ⟨_,rfl,λ hb=>.inl ⟨_,hm,O,U,.inr ?_⟩⟩⟩;simp only[bX,cD]at hb;exact hb.1
      .exact⟨_,rfl,.inr ⟨false,rfl,λ h=>nomatch h⟩⟩
   .right;simp only[show¬(i:Int)<(L.length:Int)by omega,cO,bY,cH];exact⟨_,rfl,.inl rfl⟩) 0 ⟨0,rfl,by omega⟩
 rw[H];rcases B with rfl|⟨b,rfl,hb⟩
 .refine⟨_,rfl,λ h=>.inr ?_⟩;simp only[bX,cD,dA]at h;exact h
 .exact⟨b,rfl,hb⟩
def cKo(e:aR):∃b,Ap e aR.zero=some b:=by
 unfold Ap;show∃b,k9 (Cv _) e aR.zero=some b;unfold k9;split
 .exact⟨_,rfl⟩
 .rename_i h;have:e.bG.length=0:=by
   simp only[dV,kZ,dA,dL,kI]at h;have H:=h.2;simp only[aR.zero,Ym]at H;omega
  rw[mF];unfold Fg;simp only[this,Int.natCast_zero,show¬(0:Int)<0 by omega,cO,bY,cH];exact⟨_,rfl⟩
def cKp(l:List aH)(nm:ByteArray)(V:l.length<=1000):∃v,Al l nm=some v/\(v.2=true->v.1∈l/\v.1.name=nm):=by
 unfold Al;obtain⟨r,H,O⟩:=nM (body:=Ia l nm) (λ g=>∃i:Nat,g=i/\i<=l.length) (λ g=>l.length-g.toNat) (λ r=>r=.inl ()\/∃x,r=.inr (x,true)/\x∈l/\x.name=nm)
  (λ g ⟨i,K,L⟩=>by
   subst K;unfold Ia
   by_cases c:i<l.length
   .have H:0<=(i:Int)/\(i:Int)<(l.length:Int):=om
    simp only[H.1,H.2,cW,mD,cF,cG,Qm,lY i (show i<4611686018427387904 by omega),KH]
    by_cases d:(l.getD i aH.zero).name=nm
    .rw[cA (cP d)];exact .inr ⟨_,rfl,.inr ⟨_,rfl,mN c,d⟩⟩
    .rw[bZ (by simpa using d)];exact .inl ⟨_,rfl,⟨i+1,rfl,c⟩,by simp only[Qm];omega⟩
   .right;simp only[show¬(i:Int)<(l.length:Int)by omega,cO,bY,cH];exact⟨_,rfl,.inl rfl⟩) 0 ⟨0,rfl,by omega⟩
 rw[H];rcases O with rfl|⟨x,rfl,U⟩
 .exact⟨_,rfl,λ h=>nomatch h⟩
 .exact⟨_,rfl,λ _=>U⟩
def cKq(l:List aH)(a:aO)(L:l.length<=1000):∃v,DC l a=some v/\(v=0->∃r∈l,r.name=a.name/\mE r a.aJ=true):=by
 unfold DC;rw[Vg,eF];cases catV l with
 |false=>exact⟨2,rfl,λ h=>nomatch h⟩
 |true=>
  obtain⟨v,O,H⟩:=cKp l a.name L;simp only[cR,bY,cH,O,qm];cases K:v.2 with
  |false=>exact⟨10,rfl,λ h=>nomatch h⟩
  |true=>
   simp only[cR,bY,cH];cases U:qF v.1 a.aJ with
   |false=>exact⟨12,rfl,λ h=>nomatch h⟩
   |true=>exact⟨0,rfl,λ _=>⟨v.1,(H K).1,(H K).2,by rw[<-s8];exact U⟩⟩
def Vp(l:List aH)(e:aR)(K:l.length<=1000):∃v,q5 l e=some v/\(v=0->∀L b,qG e=some (L,b)->∀a∈L,∃r∈l,r.name=a.name/\mE r a.aJ=true):=by
 unfold q5;obtain⟨w,U,h2⟩:=KI e;have hw:=KJ U;rw[U,eF];cases H:w.2 with
 |false=>exact⟨1,rfl,λ h=>nomatch h⟩
 |true=>
  simp only[cR,bY,cH];obtain⟨r,Y,h5⟩:=nM (body:=Jx l w) (λ g=>∃i:Nat,g=i/\i<=w.1.length/\∀k,k<i->∃r∈l,r.name=(w.1.getD k aO.zero).name/\mE r (w.1.getD k aO.zero).aJ=true) (λ g=>w.1.length-g.toNat)
   (λ r=>(∃v,r=.inr v/\v≠0)\/r=.inl ()/\∀k,k<w.1.length->∃r∈l,r.name=(w.1.getD k aO.zero).name/\mE r (w.1.getD k aO.zero).aJ=true)
   (λ g ⟨i,V,Z,hg⟩=>by
    subst V;unfold Jx
    by_cases c:i<w.1.length
    .have H:0<=(i:Int)/\(i:Int)<(w.1.length:Int):=om
     obtain⟨v,B,F⟩:=cKq l (w.1.getD i aO.zero) K;simp only[H.1,H.2,cW,mD,cF,cG,Qm,lY i (show i<4611686018427387904 by omega),B,qm]
     by_cases d:v=0
     .rw[bZ (by simp[d])];refine .inl ⟨_,rfl,⟨i+1,rfl,c,λ k O=>?_⟩,by simp only[Qm];omega⟩;rcases jX k i with h5|h5
      .exact hg k h5
      .have:k=i:=om
       subst this;exact F d
     .rw[cA (by simp[d])];exact .inr ⟨_,rfl,.inl ⟨v,rfl,d⟩⟩
    .have:i=w.1.length:=om
     subst this;right;simp only[show¬(w.1.length:Int)<(w.1.length:Int)by omega,cO,bY,cH];exact⟨_,rfl,.inr ⟨rfl,hg⟩⟩) 0 ⟨0,rfl,by omega,λ k O=>om⟩
  rw[Y];rcases h5 with⟨v,rfl,hv⟩|⟨rfl,hg⟩
  .exact⟨v,rfl,λ h=>absurd h hv⟩
  .refine⟨0,rfl,λ _ L b M a ha=>?_⟩;cases M;obtain⟨k,O,rfl⟩:=vV (z:=aO.zero) ha;exact hg k O
structure ProcC (t:List aA) (x:aG):Prop where
 pv:mL x.aL=true
 gen:0<=x.gen/\x.gen<=1073741824
 led:LedgerP x.bF
 held:∀n,mS x.bF.aP n≠aC.zero->∃q∈t,q.aB.name=n/\mE q.aB (mS x.bF.aP n)=true
 wait:x.bI=true->vE x.bJ.bU=true/\∀L b,qG x.bJ.bU=some (L,b)->(∀a∈L,∃q∈t,q.aB.name=a.name/\mE q.aB a.aJ=true)/\∀q∈t,Hi q x L
 run:x.bI=false->∀q∈t,getH q.aS x.aL=mS x.bF.aP q.aB.name/\(nA q x.aL).2=false
structure CenP (c:bC):Prop where
 t:ValidT c.aF
 len:c.aD.length<=8
 each:∀x∈c.aD,ProcC c.aF x
 asc:c.aD.Pairwise λ a b=>ltP a.aL b.aL
 aD:∀p∈nW c.aF,∃x∈c.aD,x.aL=p
def ValidT.inj{t:List aA}(h:ValidT t){q H:aA}(O:q∈t)(U:H∈t)(e:q.aB.name=H.aB.name):q=H:=by obtain⟨i,K,rfl⟩:=vV (z:=aA.zero) O;obtain⟨j,Y,rfl⟩:=vV (z:=aA.zero) U;rw[NV h.asc K Y e]
def ValidT.lens'{t:List aA}(h:ValidT t):t.length<=1000/\Lens t:=⟨by have:=h.len;omega,h.lens⟩
def Vq{l:List bM}{n:ByteArray}(h:mS l n≠aC.zero):∃e∈l,e.name=n:=by
 have:∀(l:List bM) (a:aC),(∀e∈l,e.name≠n)->l.foldl (sayE n) a=a:=by
  intro l;induction l with
  |nil=>intro a _;rfl
  |cons e l O=>
   intro a H;rw[lJ];have:sayE n a e=a:=by unfold sayE;rw[bZ (H e (.head _))]
   rw[this];exact O a λ x K=>H x (.tail _ K)
 by_cases c:∃e∈l,e.name=n
 .exact c
 .exact absurd (this l aC.zero λ e U Y=>c ⟨e,U,Y⟩) h
def cKt(c:bC)(L:c.aF.length<=1000)(v:List aO)(V:v.length<=1000):
  lS (DE c v) 0=some (.inr false)\/lS (DE c v) 0=some (.inl ())/\∀i,i<v.length->∃q∈c.aF,q.aB.name=(v.getD i aO.zero).name/\mE q.aB (v.getD i aO.zero).aJ=true:=
 BN v.length _ (λ i Y=>by
  unfold DE;have H:0<=(i:Int)/\(i:Int)<(v.length:Int):=om
  simp only[H.1,H.2,cW,eZ,mD,cF,cG,Qm,lY i (show i<4611686018427387904 by omega),zW c.aF _ (show c.aF.length<=1000000 by omega),qm];rcases G5 (t:=c.aF) (nm:=(v.getD i aO.zero).name)with e|⟨k,e,O,U⟩
  .refine⟨false,?_,λ h=>nomatch h⟩;rw[e,gdp (by intro h;exact absurd h Om)];rfl
  .rw[e,gdp (by intro _;omega)];simp only[Qm,show¬(k:Int)<0 by omega,cO,dP];cases K:qF (c.aF.getD k aA.zero).aB (v.getD i aO.zero).aJ with
   |false=>exact⟨false,rfl,λ h=>nomatch h⟩
   |true=>exact⟨true,rfl,λ _=>⟨_,mN O,U,by rw[<-s8];exact K⟩⟩) (by unfold DE;simp)
def cKu(c:bC)(x:aG)(L:List aO)(F:L.length<=8)(O:x.bF.aP.length<=1000)(V:c.aF.length<=1000)(U:Lens c.aF):
  lS (DD c x L) 0=some (.inr false)\/lS (DD c x L) 0=some (.inl ())/\∀i,i<c.aF.length->Hi (c.aF.getD i aA.zero) x L:=
 BN c.aF.length _ (λ i K=>by
  unfold DD;have H:0<=(i:Int)/\(i:Int)<(c.aF.length:Int):=om
  have M:=y3 U K;obtain⟨b,Y,B⟩:=cKn (c.aF.getD i aA.zero) x L O om om om om;simp only[H.1,H.2,cW,eZ,mD,cF,cG,Qm,lY i (show i<4611686018427387904 by omega),Y,qm];cases b with
  |false=>exact⟨false,rfl,λ h=>nomatch h⟩
  |true=>exact⟨true,rfl,λ _=>B rfl⟩) (by unfold DD;simp)
def cKv(c:bC)(x:aG)(hv:ValidT c.aF):∃b,r7 c x=some b/\(b=true->ProcC c.aF x):=by
 obtain⟨K,V⟩:=hv.lens';unfold r7;obtain⟨bl,l1,l2⟩:=BO x.bF;rw[l1,vN];cases hp:mL x.aL with
 |false=>exact⟨false,rfl,λ h=>nomatch h⟩
 |true=>
 by_cases cc:x.cost<1\/1000<x.cost
 .refine⟨false,?_,λ h=>nomatch h⟩;rcases cc with h|h<;>simp[h]
 have c1:¬x.cost<1:=λ h=>cc (.inl h);have c2:¬1000<x.cost:=λ h=>cc (.inr h);simp only[c1,c2,cO,cR,eY,dK,cG,qm,dP];cases bl with
 |false=>exact⟨false,rfl,λ h=>nomatch h⟩
 |true=>
 have O:=l2 rfl
 by_cases cg:x.gen<0\/1073741824<x.gen
 .refine⟨false,?_,λ h=>nomatch h⟩;rcases cg with h|h<;>simp[h]
 have g1:¬x.gen<0:=λ h=>cg (.inl h);have g2:¬1073741824<x.gen:=λ h=>cg (.inr h);simp only[g1,g2,cO,cR,eY,bY,cH];obtain⟨Y,n1,n2,n3,n4⟩:=cKi x.bF (by have:=O.le;omega);have u0:=O.le;have h0:(Y.filterMap (sayF x.bF.aP)).length<=1000:=by have:=gL (sayF x.bF.aP) Y;omega
 rw[n3,eF];rcases cKt c K _ h0 with h1|⟨h1,h2⟩
 .exact⟨false,by rw[h1];rfl,λ h=>nomatch h⟩
 have H:∀n,mS x.bF.aP n≠aC.zero->∃q∈c.aF,q.aB.name=n/\mE q.aB (mS x.bF.aP n)=true:=λ n hn=>by have hm:(⟨n,mS x.bF.aP n⟩:aO)∈Y.filterMap (sayF x.bF.aP):=fU.2 ⟨n,(n2 n).2 (Vq hn),by unfold sayF;rw[bZ hn]⟩;obtain⟨i,hi,e⟩:=vV (z:=aO.zero) hm;have:=h2 i hi;rw[e]at this;exact this
 rw[h1,eF];show∃b,Gm c x _ ()=some b/\_;unfold Gm;have x0:(c.aF.filterMap (b6 x.aL)).length<=1000:=by have:=gL (b6 x.aL) c.aF;omega
 cases hw:x.bI with
 |false=>
  simp only[dK,cG];obtain⟨b1,s1⟩:=cKo x.bJ.bU;have sr:∃b,CQ x.bJ {bO.zero with}=some b:=by unfold CQ;rw[show({bO.zero with}:bO).bU=aR.zero from rfl,s1];exact⟨_,rfl⟩
  obtain⟨b2,s2⟩:=sr;rw[s2,eF,cKg _ _ K V,cKh _ _ K V]
  by_cases c3:(b2&&decide (x.since=0))=true
  .simp only[c3,cG,qm,cKj _ _ (show(Y.filterMap (sayF x.bF.aP)).length<=1000000 by omega),cL]
   by_cases Z:Y.filterMap (sayF x.bF.aP)=c.aF.filterMap (b6 x.aL)
   .simp only[Z,cF,cG,qm,cL];refine⟨_,rfl,λ hb=>⟨hp,by omega,O,H,λ h=>(by rw[hw]at h;cases h),λ _ q U=>?_⟩⟩;have hb:(c.aF.filterMap (EB x.aL)).length=0:=by have:=gD hb;omega
    constructor
    .by_cases z1:getH q.aS x.aL=aC.zero
     .by_cases z2:mS x.bF.aP q.aB.name=aC.zero
      .rw[z1,z2]
      .have hm:(⟨q.aB.name,mS x.bF.aP q.aB.name⟩:aO)∈Y.filterMap (sayF x.bF.aP):=fU.2 ⟨_,(n2 _).2 (Vq z2),by unfold sayF;rw[bZ z2]⟩;rw[Z]at hm;obtain⟨q',y0,e⟩:=fU.1 hm;unfold b6 at e
       by_cases F:getH q'.aS x.aL=aC.zero
       .rw[cA F]at e;cases e
       .rw[bZ F]at e;simp only[dD,aO.mk.injEq]at e;have:=hv.inj y0 U e.1;subst this;exact absurd z1 F
     .have hm:(⟨q.aB.name,getH q.aS x.aL⟩:aO)∈c.aF.filterMap (b6 x.aL):=fU.2 ⟨q,U,by unfold b6;rw[bZ z1]⟩;rw[<-Z]at hm;obtain⟨n,hn,e⟩:=fU.1 hm;unfold sayF at e
      by_cases F:mS x.bF.aP n=aC.zero
      .rw[cA F]at e;cases e
      .rw[bZ F]at e;simp only[dD,aO.mk.injEq]at e;rw[<-e.1];exact e.2.symm
    .cases hq2:(nA q x.aL).2 with
     |false=>rfl
     |true=>have:(⟨q.aB.name,(nA q x.aL).1⟩:aO)∈c.aF.filterMap (EB x.aL):=fU.2 ⟨q,U,by unfold EB;rw[cA hq2]⟩;rw[cY hb]at this;cases this
   .simp only[Z,cO,bY,cH,qm,eQ];exact⟨false,rfl,λ h=>nomatch h⟩
  .simp only[c3,cH,qm,bY,eQ];exact⟨false,rfl,λ h=>nomatch h⟩
 |true=>
  simp only[cR,bY,cH];have v7:∃b,uL x.bJ=some b/\(b=true->vE x.bJ.bU=true):=by unfold uL;rw[G9,eF];refine⟨_,rfl,λ h=>?_⟩;simp only[bX]at h;exact h.1.1.1.1
  obtain⟨b7,v1,v2⟩:=v7;rw[v1,eF];cases b7 with
  |false=>exact⟨false,rfl,λ h=>nomatch h⟩
  |true=>
  have M:=v2 rfl;obtain⟨v9,r1,r2⟩:=Vp (c.aF.map (·.aB)) x.bJ.bU (by simpa using K);simp only[cG,Vo _ K,qm,r1,cR,dP]
  by_cases c9:v9=0
  .obtain⟨bs,L,q1,q2,_⟩:=Oo c.aF x.aL x.bJ.bU K V;obtain⟨z0,q3,_⟩:=Ol M bs;rw[q1];generalize hB:((((!decide (v9=0))||(decide (x.since<0)))||(decide (c.now<x.since)))||((!decide (x.bJ.limit=0))&&(decide ((IntKind.i64.wrap (x.since+x.bJ.limit))<=c.now))))=B;cases B with
   |true=>exact⟨false,rfl,λ h=>nomatch h⟩
   |false=>
    simp only[dK,cG,qm,q3,dP];cases z0 with
    |true=>exact⟨false,rfl,λ h=>nomatch h⟩
    |false=>
     simp only[bY,cH];obtain⟨l',a1,a2,a3⟩:=BP x.bJ.bU;rw[a1,eF];rcases cKu c x l' a2 om K V with h5|⟨h5,h6⟩
     .exact⟨false,by rw[h5];rfl,λ h=>nomatch h⟩
     .refine⟨true,by rw[h5];rfl,λ _=>⟨hp,by omega,O,H,λ _=>⟨M,λ L b hL=>?_⟩,λ h=>(by rw[hw]at h;cases h)⟩⟩;rw[a3]at hL;cases hL;refine⟨λ a ha=>?_,λ q U=>?_⟩
      .obtain⟨r,hr,e1,e2⟩:=r2 c9 _ _ a3 a ha;obtain⟨q,U,rfl⟩:=cQ.1 hr;exact⟨q,U,e1,e2⟩
      .obtain⟨i,hi,rfl⟩:=vV (z:=aA.zero) U;exact h6 i hi
  .simp only[c9,cO,dK,fT,cR,bY,cH,cG,qm];exact⟨false,rfl,λ h=>nomatch h⟩
def cKw(c:bC)(K:c.aD.length<=8)(v:List aK)(L:v.length<=1000):
  lS (DG c v) 0=some (.inr false)\/lS (DG c v) 0=some (.inl ())/\∀i,i<v.length->∃x∈c.aD,x.aL=v.getD i aK.zero:=
 BN v.length _ (λ i V=>by
  unfold DG;have H:0<=(i:Int)/\(i:Int)<(v.length:Int):=om
  obtain⟨k,O,U⟩:=On c.aD (v.getD i aK.zero) om;simp only[H.1,H.2,cW,eZ,mD,cF,cG,Qm,lY i (show i<4611686018427387904 by omega),O,qm];rcases U with⟨rfl,_⟩|⟨k,rfl,Y,e⟩
  .exact⟨false,rfl,λ h=>nomatch h⟩
  .exact⟨true,by rw[bZ (by simp),cA rfl],λ _=>⟨_,mN Y,e⟩⟩) (by unfold DG;simp)
def cKx(c:bC)(L:c.aD.length<=8)(K:ValidT c.aF):
  lS (DF c) 0=some (.inr false)\/lS (DF c) 0=some (.inl ())/\∀i,i<c.aD.length->ProcC c.aF (c.aD.getD i aG.zero)/\(0<i->ltP (c.aD.getD (i-1) aG.zero).aL (c.aD.getD i aG.zero).aL):=
 BN c.aD.length _ (λ i V=>by
  unfold DF;have O:0<=(i:Int)/\(i:Int)<(c.aD.length:Int):=om
  obtain⟨b,Y,U⟩:=cKv c (c.aD.getD i aG.zero) K;simp only[O.1,O.2,cW,eZ,mD,cF,cG,Qm,lY i (show i<4611686018427387904 by omega),Y,qm];rw[gdp (by
   intro h;simp only[bX,cD]at h;rw[mB om om];try omega)]
  cases b with
  |false=>exact⟨false,rfl,λ h=>nomatch h⟩
  |true=>
   simp only[cR,dP]
   by_cases B:i=0
   .subst B;exact⟨true,rfl,λ _=>⟨U rfl,λ h=>absurd h om⟩⟩
   .rw[zR i om om];simp only[show(0:Int)<(i:Int)by omega,cF,cL,Qm]
    by_cases H:ltP (c.aD.getD (i-1) aG.zero).aL (c.aD.getD i aG.zero).aL
    .refine⟨true,?_,λ _=>⟨U rfl,λ _=>H⟩⟩;rw[bZ (by simp only[cD];exactλ h=>(J7 _ _).1 h H),cA rfl]
    .refine⟨false,?_,λ h=>nomatch h⟩;rw[cA (by simp only[cD];exact(J7 _ _).2 H)];rfl) (by unfold DF;simp)
def cKy{l:List aG}(h:∀i,i<l.length->0<i->ltP (l.getD (i-1) aG.zero).aL (l.getD i aG.zero).aL):l.Pairwise λ a b=>ltP a.aL b.aL:=by
 rw[fE];have g:∀k,(U:k<l.length)->l.getD k aG.zero=l[k]:=λ k U=>by rw[cB,cE U];rfl
 have O:∀d i,(H:i+d+1<l.length)->ltP (l.getD i aG.zero).aL (l.getD (i+d+1) aG.zero).aL:=by
  intro d;induction d with
  |zero=>intro i H;exact h (i+1) H om
  |succ d Y=>intro i H;exact Bu (Y i om) (h (i+(d+1)+1) H om)
 intro i j K H B;have:=O (j-i-1) i om;rw[show i+(j-i-1)+1=j by omega,g i K,g j H]at this;exact this
def Vr(c:bC):∃b,r8 c=some b/\(b=true->CenP c):=by
 unfold r8
 by_cases H:c.now<0\/1073741824<c.now
 .refine⟨false,?_,λ h=>nomatch h⟩;rcases H with h|h<;>simp[h]
 have B:¬c.now<0:=λ h=>H (.inl h);have c2:¬1073741824<c.now:=λ h=>H (.inr h);simp only[B,c2,cO,eY,dK,cG,G6,qm,dP];cases hv:uR c.aF with
 |false=>exact⟨false,rfl,λ h=>nomatch h⟩
 |true=>
 have K:=(zV _).1 hv
 by_cases U:(8:Int)<(c.aD.length:Int)
 .exact⟨false,by simp[U],λ h=>nomatch h⟩
 simp only[U,cO,cR,eY,bY,cH];have V:c.aD.length<=8:=om
 rw[Kt K.len K.each,eF];rcases cKw c V (nW c.aF) (by have:=K.aD;omega)with Z|⟨Z,h2⟩
 .exact⟨false,by rw[Z];rfl,λ h=>nomatch h⟩
 rw[Z,eF];show∃b,Gn c ()=some b/\_;unfold Gn;rcases cKx c V K with O|⟨O,Y⟩
 .exact⟨false,by rw[O];rfl,λ h=>nomatch h⟩
 refine⟨true,by rw[O];rfl,λ _=>⟨K,V,λ x hx=>?_,cKy λ i L F=>(Y i L).2 F,λ p M=>?_⟩⟩
 .obtain⟨i,L,rfl⟩:=vV (z:=aG.zero) hx;exact(Y i L).1
 .obtain⟨i,L,e⟩:=vV (z:=aK.zero) M;obtain⟨x,hx,e2⟩:=h2 i L;exact⟨x,hx,e2.trans e⟩
def cL0{q:aA}{p:aK}(h:mK q=true)(hw:(nA q p).2=true):(pI q p).2.2=0/\(∀x,covA q.aB (getH (pI q p).1.aS x) (getH q.aS x)=true)/\getH (pI q p).1.aS p=getH q.aS p/\(nA (pI q p).1 p).2=false:=by
 have O:(pI q p).2.2=0:=by unfold pI;rw[bZ (by rw[h];decide),bZ (by rw[hw];decide)];rfl
 obtain⟨_,_,_,H,Y⟩:=GV O;have B:∀w∈ordQ (xI q p),w.aL≠p:=λ w hw=>by
  unfold ordQ xI at hw;simp only[cX,Bz]at hw;rcases hw with hw|hw
  .exact hw.2
  .exact hw.2
 have U:=Ui B;refine⟨O,λ x=>?_,?_,?_⟩
 .rw[H,vR];exact GW Y x
 .rw[H,vR];exact U.1
 .rw[H,vR];exact BA.2 U.2
def Vs{q:aA}{p:aK}{a:aC}(h:mK q=true)(B:getH q.aS p≠aC.zero)(K:(nA q p).2=false)(F:covA q.aB (getH q.aS p) a=true):
  (nZ q p a).2.2=0/\(∀x,x≠p->covA q.aB (getH (nZ q p a).1.aS x) (getH q.aS x)=true)/\getH (nZ q p a).1.aS p=a/\(nA (nZ q p a).1 p).2=false:=by
 have U:(nZ q p a).2.2=0:=by unfold nZ;rw[bZ (by rw[h];decide),bZ B,bZ (by rw[K];decide),bZ (by rw[F];decide)];split<;>rfl
 obtain⟨M,_,_,_,_,L⟩:=Er U;rcases L with⟨Y,H⟩|⟨Y,H,V⟩
 .rw[H];exact⟨rfl,λ x _=>zT (w6 M.hv x),Y,K⟩
 .have Z:∀w∈ordQ (uQ q p a),w.aL≠p:=BA.1 K;have O:=Ui Z;refine⟨U,λ x hx=>?_,?_,?_⟩
  .rw[H,vR];have:=GW V x;unfold uQ at this;rw[xG hx]at this;exact this
  .rw[H,vR];show getH (advS (uQ q p a)).aS p=a;rw[O.1];exact Nu _ _ _
  .rw[H,vR];exact BA.2 O.2
structure Kept (p:aK) (t t':List aA):Prop where
 v:ValidT t'
 len:t'.length=t.length
 res:∀i,i<t.length->(t'.getD i aA.zero).aB=(t.getD i aA.zero).aB
 cov:∀i,i<t.length->∀x,x≠p->covA (t.getD i aA.zero).aB (getH (t'.getD i aA.zero).aS x) (getH (t.getD i aA.zero).aS x)=true
def KL{α:Type}(l:List α)(i j:Nat)(x z:α)(h:i≠j):(l.set i x).getD j z=l.getD j z:=by rw[cB,cB,lM h]
def EC{p:aK}{t:List aA}(h:ValidT t):Kept p t t:=
 ⟨h,rfl,λ _ _=>rfl,λ i H x _=>zT (w6 ((qA _).1 (h.each _ (mN (z:=aA.zero) H))).1.hv x)⟩
def KM{p:aK}{t:List aA}(h:ValidT t){i:Nat}(hi:i<t.length){q:aA}(L:ValidT (t.set i q))(O:q.aB=(t.getD i aA.zero).aB)
  (U:∀x,x≠p->covA (t.getD i aA.zero).aB (getH q.aS x) (getH (t.getD i aA.zero).aS x)=true):Kept p t (t.set i q):=by
 have k:=EC (p:=p) h;refine⟨L,dS,λ j H=>?_,λ j H x K=>?_⟩
 .by_cases e:i=j
  .subst e;rw[rK t i q _ hi];exact O
  .rw[KL t i j q _ e]
 .by_cases e:i=j
  .subst e;rw[rK t i q _ hi];exact U x K
  .rw[KL t i j q _ e];exact k.cov j H x K
def Kept.trans{p:aK}{a b c:List aA}(h:Kept p a b)(k:Kept p b c):Kept p a c:=
 ⟨k.v,k.len.trans h.len,λ i K=>(k.res i (by rw[h.len];exact K)).trans (h.res i K),λ i K x L=>by
  have H:=k.cov i (by rw[h.len];exact K) x L;rw[h.res i K]at H;exact Kl H (h.cov i K x L)⟩
def Kept.find{p:aK}{t H:List aA}(h:ValidT t)(k:Kept p t H){i:Nat}(hi:i<t.length):nD H (t.getD i aA.zero).aB.name=i:=by have:=Ks k.v.asc (i:=i) (by rw[k.len];exact hi);rwa [k.res i hi]at this
def cL5{t:List aA}(h:ValidT t){i:Nat}(hi:i<t.length){p:aK}(L:(nA (t.getD i aA.zero) p).2=true):∃q ev,b5 t p (t.getD i aA.zero).aB.name=(t.set i q,ev,0)/\ev.length<=20/\Kept p t (t.set i q)/\
  getH q.aS p=getH (t.getD i aA.zero).aS p/\(nA q p).2=false/\q.aB=(t.getD i aA.zero).aB:=by
 have H:=h.each _ (mN (z:=aA.zero) hi);obtain⟨O,Y,B,F⟩:=cL0 H L;have M:=Ks h.asc hi;have U:=BL H (.cancel p O);have e:b5 t p (t.getD i aA.zero).aB.name=(t.set i (pI (t.getD i aA.zero) p).1,[]++sV (t.getD i aA.zero).aB.name (pI (t.getD i aA.zero) p).2.1,0):=by unfold b5 atT putT;rw[bZ (by rw[(zV t).2 h];decide),M,bZ om];simp only[Qm,O,cG];rw[EA]
 have K:ValidT (t.set i (pI (t.getD i aA.zero) p).1):=by have:=(cJh (t:=t) (p:=p) (nm:=(t.getD i aA.zero).aB.name) (by rw[e]));obtain⟨_,_,_,_,K⟩:=this;rwa [e]at K
 refine⟨_,_,e,?_,KM h hi K U.2 λ x _=>Y x,B,F,U.2⟩;have:=(Uu (t.getD i aA.zero) p).2.2.2;rw[lD,Ey];omega
def Vt{t:List aA}(h:ValidT t){i:Nat}(hi:i<t.length){p:aK}{a:aC}(Y:getH (t.getD i aA.zero).aS p≠aC.zero)(L:(nA (t.getD i aA.zero) p).2=false)(B:covA (t.getD i aA.zero).aB (getH (t.getD i aA.zero).aS p) a=true):
  ∃q ev,qI t p ⟨(t.getD i aA.zero).aB.name,a⟩=(t.set i q,ev,0)/\ev.length<=20/\Kept p t (t.set i q)/\getH q.aS p=a/\(nA q p).2=false/\q.aB=(t.getD i aA.zero).aB:=by
 have H:=h.each _ (mN (z:=aA.zero) hi);obtain⟨O,F,M,V⟩:=Vs H Y L B;have Z:=Ks h.asc hi;have U:=BL H (.lower p a O);have e:qI t p ⟨(t.getD i aA.zero).aB.name,a⟩=(t.set i (nZ (t.getD i aA.zero) p a).1,(if getH (t.getD i aA.zero).aS p=a then[]else[BJ p (t.getD i aA.zero).aB.name a])++sV (t.getD i aA.zero).aB.name (nZ (t.getD i aA.zero) p a).2.1,0):=by unfold qI atT putT;rw[bZ (by rw[(zV t).2 h];decide)];simp only[Z,Qm,O,cG,show¬(i:Int)<0 by omega,cH];rw[EA]
 have K:ValidT (t.set i (nZ (t.getD i aA.zero) p a).1):=by have:=(Vj (t:=t) (p:=p) (a:=⟨(t.getD i aA.zero).aB.name,a⟩) (by rw[e]));obtain⟨_,_,_,_,K⟩:=this;rwa [e]at K
 refine⟨_,_,e,?_,KM h hi K U.2 F,M,V,U.2⟩;have:=(NP (t.getD i aA.zero) p a).2.2.2;rw[cC,Ey];have:(if getH (t.getD i aA.zero).aS p=a then([]:List bL)else[BJ p (t.getD i aA.zero).aB.name a]).length<=1:=by split<;>simp
 omega
def uV(w:bB)(t:List aA)(ev:List bL):bB:=⟨⟨w.c.now,t,w.c.aD⟩,ev⟩
def BQ(t:List aA)(ev:List bL)(w:bB)(h:w.ev.length+ev.length<=4294967296):uG t ev w=some (w.c.now,t,w.c.aD,w.ev++ev):=by unfold uG;rw[gdp h]
def cL9(x:aG){w:bB}(h:ValidT w.c.aF){i:Nat}(hi:i<w.c.aF.length)(he:x.bF.aP.length<=1000)(x0:w.ev.length<=1000000)
  (F:covA (w.c.aF.getD i aA.zero).aB (getH (w.c.aF.getD i aA.zero).aS x.aL) (mS x.bF.aP (w.c.aF.getD i aA.zero).aB.name)=true):
  ∃q ev,s5 x (w.c.aF.getD i aA.zero).aB.name w=some (uV w (w.c.aF.set i q) (w.ev++ev))/\ev.length<=40/\Kept x.aL w.c.aF (w.c.aF.set i q)/\
   getH q.aS x.aL=mS x.bF.aP (w.c.aF.getD i aA.zero).aB.name/\(nA q x.aL).2=false/\q.aB=(w.c.aF.getD i aA.zero).aB:=by
 obtain⟨hl,hs⟩:=h.lens';have h4:=y3 hs hi;have hf:=Ks h.asc hi;have k1:∀(H:List aA) (O:List bL),Kept x.aL w.c.aF H->O.length<=20->getH (H.getD i aA.zero).aS x.aL=getH (w.c.aF.getD i aA.zero).aS x.aL->(nA (H.getD i aA.zero) x.aL).2=false->
   (∃Y,H=w.c.aF.set i Y)->∃q ev,GB x (w.c.aF.getD i aA.zero).aB.name (i:Int) (uV w H (w.ev++O))=some (uV w (w.c.aF.set i q) (w.ev++ev))/\ev.length<=40/\Kept x.aL w.c.aF (w.c.aF.set i q)/\
   getH q.aS x.aL=mS x.bF.aP (w.c.aF.getD i aA.zero).aB.name/\(nA q x.aL).2=false/\q.aB=(w.c.aF.getD i aA.zero).aB:=by
  intro H O U h0 hh L ⟨Y,K⟩;have V:i<H.length:=by rw[U.len];exact hi
  have h5:=y3 U.v.lens V;have M:=U.res i hi;have hg:H.getD i aA.zero=Y:=by rw[K];exact rK _ _ _ _ hi
  unfold GB;rw[x9 _ _ om,eF];show∃q ev,gd (0<=(i:Int)/\(i:Int)<(H.length:Int)) ((rI (H.getD (i:Int).toNat aA.zero) x.aL).bind _)=_/\_;rw[gdp om];simp only[Qm];rw[vP _ _ om,eF]
  by_cases e:getH (H.getD i aA.zero).aS x.aL=mS x.bF.aP (w.c.aF.getD i aA.zero).aB.name
  .rw[bZ (by simp[e,-List.getD_eq_getElem?_getD])];refine⟨Y,O,by rw[<-K],by omega,K▸U,by rw[<-hg];exact e,by rw[<-hg];exact L,by rw[<-hg];exact M⟩
  .rw[cA (by simp[e,-List.getD_eq_getElem?_getD])];have hz:getH (H.getD i aA.zero).aS x.aL≠aC.zero:=λ z=>by
    rw[hh]at z e;rw[z]at F;rcases((sT _ _ _).1 F).2.2 with h6|h6
    .exact e (z.trans h6.symm)
    .exact h6.1 rfl
   obtain⟨q,ev,B,r2,Z,r4,r5,r6⟩:=Vt U.v V (p:=x.aL) (a:=mS x.bF.aP (w.c.aF.getD i aA.zero).aB.name) hz L (by rw[M,hh];exact F);rw[M]at B r6;rw[Oe,eF];show∃q ev,(uG (qI H x.aL ⟨_,_⟩).1 (qI H x.aL ⟨_,_⟩).2.1 (uV w H (w.ev++O))).bind _=_/\_;rw[B,BQ _ _ _ (by show(w.ev++O).length+ev.length<=_;rw[cC];omega),eF];have es:H.set i q=w.c.aF.set i q:=by rw[K,gN]
   refine⟨q,O++ev,?_,by rw[cC];omega,es▸U.trans Z,r4,r5,r6⟩;show some (uV w (H.set i q) ((w.ev++O)++ev))=_;rw[es,cJ]
 unfold s5;rw[zW _ _ om,eF,hf,gdp om];simp only[Qm];rw[u7 _ _ om om,eF];cases L:(nA (w.c.aF.getD i aA.zero) x.aL).2 with
 |true=>rw[cA rfl];obtain⟨q,ev,B,r2,Z,r4,r5,r6⟩:=cL5 h hi L;rw[cIn,eF,B,BQ _ _ _ (by simp only;omega),eF];have hg:(w.c.aF.set i q).getD i aA.zero=q:=rK _ _ _ _ hi;exact k1 (w.c.aF.set i q) ev Z r2 (by rw[hg];exact r4) (by rw[hg];exact r5) ⟨q,rfl⟩
 |false=>rw[bZ Om];have:=k1 w.c.aF [] (EC h) (by simp) rfl L ⟨_,(KE _ _ aA.zero hi).symm⟩;rw[eO]at this;exact this
structure OkW (t:List aA) (y:aG):Prop where
 e:vE y.bJ.bU=true
 le:y.bF.aP.length<=1000
 at_:∀L b,qG y.bJ.bU=some (L,b)->∀a∈L,∃i,i<t.length/\(t.getD i aA.zero).aB.name=a.name
 cov:∀i,i<t.length->covA (t.getD i aA.zero).aB (getH (t.getD i aA.zero).aS y.aL) (mS y.bF.aP (t.getD i aA.zero).aB.name)=true
def OkW.kept{p:aK}{t H:List aA}{y:aG}(h:OkW t y)(k:Kept p t H)(U:y.aL≠p):OkW H y:=by
 refine⟨h.e,h.le,λ L b O a V=>?_,λ i K=>?_⟩
 .obtain⟨i,K,e⟩:=h.at_ L b O a V;exact⟨i,by rw[k.len];exact K,by rw[k.res i K];exact e⟩
 .rw[k.len]at K;rw[k.res i K];exact Kl (k.cov i K _ U) (h.cov i K)
structure Good (w:bB):Prop where
 v:ValidT w.c.aF
 len:w.c.aD.length<=8
 nd:(w.c.aD.map (·.aL)).Nodup
 ok:∀y∈w.c.aD,y.bI=true->OkW w.c.aF y
def cntW(l:List aG):Nat:=l.countP (·.bI)
def bud(w:bB):Nat:=w.ev.length+2000*cntW w.c.aD
def cLa(l:List aG):cntW l<=l.length:=List.countP_le_length
def Vu{l:List aG}{i:Nat}(h:i<l.length)(y:aG):cntW (l.set i y)+(if(l.getD i aG.zero).bI then 1 else 0)=cntW l+(if y.bI then 1 else 0):=by
 unfold cntW;induction l generalizing i with
 |nil=>cases h
 |cons x l H=>
  cases i with
  |zero=>simp only[List.set_cons_zero,List.countP_cons,List.getD_cons_zero];omega
  |succ i=>simp only[List.set_cons_succ,List.countP_cons,gT];have:=H (i:=i) (by simpa using h);omega
def oP(x:aG):aG:={x with bI:=false,bJ:=bO.zero,since:=0}
def Vv{i:Nat}{w:bB}(hi:i<w.c.aD.length):At (i:Int) w=some (w.c.now,w.c.aF,w.c.aD.set i (oP (w.c.aD.getD i aG.zero)),w.ev):=by unfold At;rw[gdp om,gdp om,gdp om];simp only[Qm,gN];rw[rK _ _ _ _ hi];rw[rK _ _ _ _ (by simpa using hi)];rfl
def ED{i:Nat}{w:bB}(hi:i<w.c.aD.length):tI (i:Int) w=some (w.c.now,w.c.aF,w.c.aD.set i {(w.c.aD.getD i aG.zero)with gen:=oO (w.c.aD.getD i aG.zero).gen},w.ev):=by unfold tI;rw[gdp om,gdp om];simp only[Qm]
def Oq(k:Int)(p:aK){w:bB}(h:w.ev.length<=1000000):j8 k p w=some (w.c.now,w.c.aF,w.c.aD,w.ev++[{bL.zero with kind:=k,aL:=p}]):=by unfold j8;rw[gdp om]
def Vw{w:bB}(hl:w.c.aD.length<=8)(O:w.c.aF.length<=1000)(U:Lens w.c.aF)(Y:∀y∈w.c.aD,y.bI=true->vE y.bJ.bU=true):
  ∃v,xB w=some (v,w.c.now,w.c.aF,w.c.aD,w.ev)/\(v=-1\/∃i:Nat,v=i/\i<w.c.aD.length/\(w.c.aD.getD i aG.zero).bI=true/\w.c.aF≠[]):=by
 unfold xB;obtain⟨x,B,F⟩:=nM (body:=JH w) (λ g=>∃i:Nat,g=i/\i<=w.c.aD.length) (λ g=>w.c.aD.length-g.toNat)
  (λ x=>x=.inl ()\/∃i:Nat,x=.inr ((i:Int),w.c.now,w.c.aF,w.c.aD,w.ev)/\i<w.c.aD.length/\(w.c.aD.getD i aG.zero).bI=true/\w.c.aF≠[])
  (λ g ⟨i,V,Z⟩=>by
   subst V;unfold JH
   by_cases c:i<w.c.aD.length
   .have H:0<=(i:Int)/\(i:Int)<(w.c.aD.length:Int):=om
    simp only[H.1,H.2,cW,mD,cF,cG,Qm,lY i (show i<4611686018427387904 by omega)];cases K:(w.c.aD.getD i aG.zero).bI with
    |false=>simp only[bY,cH,qm,eQ];exact .inl ⟨_,rfl,⟨i+1,rfl,c⟩,by simp only[Qm];omega⟩
    |true=>
     simp only[cG,cL];obtain⟨M,L,q1,q2,q3,q4⟩:=Oo w.c.aF (w.c.aD.getD i aG.zero).aL (w.c.aD.getD i aG.zero).bJ.bU O U;obtain⟨b,r1,r2⟩:=Ol (Y _ (mN c) K) M;rw[q1,eF,r1,eF];cases b with
     |false=>rw[bZ Om];exact .inl ⟨_,rfl,⟨i+1,rfl,c⟩,by simp only[Qm];omega⟩
     |true=>rw[cA rfl];refine .inr ⟨_,rfl,.inr ⟨i,rfl,c,K,λ hn=>?_⟩⟩;have:=r2 (q4 hn);cases this
   .right;simp only[show¬(i:Int)<(w.c.aD.length:Int)by omega,cO,bY,cH];exact⟨_,rfl,.inl rfl⟩) 0 ⟨0,rfl,by omega⟩
 rw[B];rcases F with rfl|⟨i,rfl,H,h4,h5⟩
 .exact⟨-1,rfl,.inl rfl⟩
 .exact⟨i,rfl,.inr ⟨i,rfl,H,h4,h5⟩⟩
def cLh(l:aZ)(e:bM):∃r,Dn l e=some r/\r.1.aP.length<=100:=by
 unfold Dn;obtain⟨b,O,U⟩:=BO l;rw[O,eF];cases b with
 |false=>exact⟨_,rfl,by simp[aZ.zero]⟩
 |true=>
  have H:=U rfl;have:=H.le;have:=H.ls;simp only[cR,bY,cH];rw[gdp om,gdp om,gdp om];obtain⟨Y,B,_⟩:=BO ⟨l.aP++[e],l.bH⟩;rw[B,eF];cases Y with
  |false=>exact⟨_,rfl,by simp[aZ.zero]⟩
  |true=>exact⟨_,rfl,by simp;omega⟩
def Left(x:aG)(t H:List aA)(O:List aO):Prop:=∀j,j<t.length->
 (getH (H.getD j aA.zero).aS x.aL=mS x.bF.aP (t.getD j aA.zero).aB.name/\(nA (H.getD j aA.zero) x.aL).2=false)\/
 (H.getD j aA.zero=t.getD j aA.zero/\∀a∈O,a.name≠(t.getD j aA.zero).aB.name)
def Left.cov{x:aG}{t H:List aA}{O:List aO}(h:Left x t H O)(k:Kept x.aL t H)(U:∀i,i<t.length->covA (t.getD i aA.zero).aB (getH (t.getD i aA.zero).aS x.aL) (mS x.bF.aP (t.getD i aA.zero).aB.name)=true):
  ∀i,i<t.length->covA (t.getD i aA.zero).aB (getH (H.getD i aA.zero).aS x.aL) (mS x.bF.aP (t.getD i aA.zero).aB.name)=true:=by
 intro i K;rcases h i K with⟨e,_⟩|⟨e,_⟩
 .rw[<-e,<-k.res i K];exact zT (w6 ((qA _).1 (k.v.each _ (mN (z:=aA.zero) (by rw[k.len];exact K)))).1.hv x.aL)
 .rw[e];exact U i K
def Vx{x:aG}{w:bB}{t:List aA}(h:ValidT t)(k:Kept x.aL t w.c.aF){M:List aO}(L:Left x t w.c.aF M)(O:x.bF.aP.length<=1000)(U:w.ev.length<=1000000)
  (hc:∀i,i<t.length->covA (t.getD i aA.zero).aB (getH (t.getD i aA.zero).aS x.aL) (mS x.bF.aP (t.getD i aA.zero).aB.name)=true) {a:aO} (ha:∃i,i<t.length/\(t.getD i aA.zero).aB.name=a.name):
  ∃Y ev,s5 x a.name w=some (uV w Y (w.ev++ev))/\ev.length<=40/\Kept x.aL t Y/\Left x t Y (M++[a]):=by
 obtain⟨i,K,V⟩:=ha;have H:i<w.c.aF.length:=by rw[k.len];exact K
 have Z:=k.res i K;obtain⟨q,ev,B,h2,h3,h4,h5,h6⟩:=cL9 x k.v H O U (by rw[Z];exact L.cov k hc i K);rw[Z]at B h4;rw[V]at B;refine⟨_,ev,B,h2,k.trans h3,λ j hj=>?_⟩
 by_cases e:i=j
 .subst e;left;rw[rK _ _ _ _ H];exact⟨h4,h5⟩
 .rw[KL _ _ _ _ _ e];rcases L j hj with F|⟨F,h8⟩
  .exact .inl F
  .refine .inr ⟨F,λ b hb=>?_⟩;rcases cX.1 hb with hb|hb
   .exact h8 b hb
   .rw[dO]at hb;subst hb;rw[<-V];exactλ he=>e (NV h.asc K hj he)
def Vy{i:Nat}{w:bB}(g:Good w)(hi:i<w.c.aD.length)(V:(w.c.aD.getD i aG.zero).bI=true)(hb:bud w<=500000):
  ∃H ev L,zM (i:Int) w=some ⟨⟨w.c.now,H,w.c.aD.set i (oP (w.c.aD.getD i aG.zero))⟩,w.ev++ev⟩/\ev.length<=320/\Kept (w.c.aD.getD i aG.zero).aL w.c.aF H/\
   qG (w.c.aD.getD i aG.zero).bJ.bU=some (L,true)/\Left (w.c.aD.getD i aG.zero) w.c.aF H L:=by
 have ok:=g.ok _ (mN hi) V;obtain⟨L,Z,a2,Y⟩:=BP (w.c.aD.getD i aG.zero).bJ.bU;have B:w.ev.length<=500000:=by unfold bud at hb;omega
 unfold zM;rw[gdp om];simp only[Qm];rw[Z,eF];obtain⟨x,h1,h2⟩:=nM (body:=JP (i:Int) w L) (λ g=>∃(k:Nat) (H:List aA) (ev:List bL),g=((k:Int),uV w H (w.ev++ev))/\k<=L.length/\ev.length<=40*k/\Kept (w.c.aD.getD i aG.zero).aL w.c.aF H/\Left (w.c.aD.getD i aG.zero) w.c.aF H (L.take k))
  (λ g=>L.length-g.1.toNat) (λ x=>∃(H:List aA) (ev:List bL),x=uV w H (w.ev++ev)/\ev.length<=320/\Kept (w.c.aD.getD i aG.zero).aL w.c.aF H/\Left (w.c.aD.getD i aG.zero) w.c.aF H L)
  (λ g ⟨k,H,ev,hg,hk,F,hK,O⟩=>by
   subst hg;unfold JP
   by_cases c:k<L.length
   .left;have M:0<=(k:Int)/\(k:Int)<(L.length:Int):=om
    simp only[M.1,M.2,cW,mD,cF,cG,Qm,lY k (show k<4611686018427387904 by omega)];obtain⟨K,U,r1,r2,r3,r4⟩:=Vx (w:=uV w H (w.ev++ev)) g.v hK O ok.le (by show(w.ev++ev).length<=_;rw[cC];omega) ok.cov (ok.at_ L _ Y _ (mN (z:=aO.zero) c));rw[r1,eF];refine⟨_,rfl,⟨k+1,K,ev++U,?_,c,by rw[cC];omega,r3,?_⟩,by simp only[Qm];omega⟩
    .show(((k+1:Nat):Int),uV (uV w H (w.ev++ev)) K ((w.ev++ev)++U))=_;rw[cJ];rfl
    .rw[vU aO.zero c];exact r4
   .right;have e:k=L.length:=om
    simp only[show¬(k:Int)<(L.length:Int)by omega,cO,bY,cH];exact⟨_,rfl,H,ev,rfl,by omega,hK,by rw[e,eT]at O;exact O⟩) (0,w) ⟨0,w.c.aF,[],by rw[eO];rfl,by omega,by simp,EC g.v,λ j hj=>.inr ⟨rfl,λ a ha=>by cases ha⟩⟩
 obtain⟨H,ev,rfl,F,hK,O⟩:=h2;rw[h1,eF];unfold M3;rw[Vv (w:=uV w H (w.ev++ev)) hi,eF];exact⟨H,ev,L,rfl,F,hK,by rw[Y,ok.e],O⟩
def Good.upd{w:bB}(g:Good w){i:Nat}(hi:i<w.c.aD.length){Y:List aA}(k:Kept (w.c.aD.getD i aG.zero).aL w.c.aF Y){y:aG}(L:y.aL=(w.c.aD.getD i aG.zero).aL)(V:y.bI=true->OkW Y y)(n:Int)(ev:List bL):
  Good ⟨⟨n,Y,w.c.aD.set i y⟩,ev⟩:=by
 have H:(w.c.aD.set i y).map (·.aL)=w.c.aD.map (·.aL):=by
  rw[kU,L];have:(w.c.aD.map (·.aL)).getD i aK.zero=(w.c.aD.getD i aG.zero).aL:=by rw[cB,cV,cB,cE hi];rfl
  rw[<-this];exact KE _ _ _ (by simpa using hi)
 refine⟨k.v,by simpa using g.len,by show((w.c.aD.set i y).map (·.aL)).Nodup;rw[H];exact g.nd,λ z Z O=>?_⟩;obtain⟨j,U,e⟩:=fY.1 (show z∈w.c.aD.set i y from Z);rw[dS]at U
 by_cases c:i=j
 .subst c;rw[List.getElem_set_self]at e;subst e;exact V O
 .rw[List.getElem_set_ne c]at e;have hm:z∈w.c.aD:=e▸iK U;refine(g.ok z hm O).kept k λ B=>?_;have F:=fE.1 g.nd;have M:(w.c.aD.map (·.aL))[i]'(by simpa using hi)=(w.c.aD.getD i aG.zero).aL:=by
   rw[jQ,cB,cE hi];rfl
  have K:(w.c.aD.map (·.aL))[j]'(by simpa using U)=z.aL:=by rw[jQ,e]
  rcases jX i j with h|h
  .exact F i j (by simpa using hi) (by simpa using U) h (by rw[M,K,B])
  .exact F j i (by simpa using U) (by simpa using hi) om (by rw[M,K,B])
def Good.lens{w:bB}(g:Good w):w.c.aF.length<=1000/\Lens w.c.aF:=g.v.lens'
def Good.sat{w:bB}(g:Good w):∃v,xB w=some (v,w.c.now,w.c.aF,w.c.aD,w.ev)/\(v=-1\/∃i:Nat,v=i/\i<w.c.aD.length/\(w.c.aD.getD i aG.zero).bI=true/\w.c.aF≠[]):=
 Vw g.len g.lens.1 g.lens.2 λ y H K=>(g.ok y H K).e
def midW(w:bB)(i:Nat)(t:List aA)(y:aG)(ev:List bL):bB:=⟨⟨w.c.now,t,w.c.aD.set i y⟩,ev⟩
def cLk{i:Nat}{w:bB}(g:Good w)(hi:i<w.c.aD.length)(hw:(w.c.aD.getD i aG.zero).bI=true)(hb:bud w<=500000){L:List aO}(hL:L.length<=8)(Y:qG (w.c.aD.getD i aG.zero).bJ.bU=some (L,true)){O:List Bool}(hk:O.length=L.length){ev0:List bL}(h0:ev0.length<=w.ev.length+1):
  ∃H y ev,lS (GC ((i:Int),w) O L) (0,midW w i w.c.aF (w.c.aD.getD i aG.zero) ev0)=some (midW w i H y ev)/\Kept (w.c.aD.getD i aG.zero).aL w.c.aF H/\y.aL=(w.c.aD.getD i aG.zero).aL/\ev.length<=w.ev.length+321:=by
 have ok:=g.ok _ (mN hi) hw;have p0:w.ev.length<=500000:=by unfold bud at hb;omega
 obtain⟨x,h1,h2⟩:=nM (body:=GC ((i:Int),w) O L) (λ g=>∃(k:Nat) (H:List aA) (y:aG) (ev:List bL) (B:List aO),g=((k:Int),midW w i H y ev)/\k<=L.length/\ev.length<=w.ev.length+1+40*k/\Kept (w.c.aD.getD i aG.zero).aL w.c.aF H/\
   Left (w.c.aD.getD i aG.zero) w.c.aF H B/\y.aL=(w.c.aD.getD i aG.zero).aL/\y.bF.aP.length<=1000)
  (λ g=>L.length-g.1.toNat) (λ x=>∃(H:List aA) (y:aG) (ev:List bL),x=midW w i H y ev/\Kept (w.c.aD.getD i aG.zero).aL w.c.aF H/\y.aL=(w.c.aD.getD i aG.zero).aL/\ev.length<=w.ev.length+321)
  (λ g' ⟨k,H,y,ev,B,hg,hkl,he,hK,K,Z,V⟩=>by
   subst hg;unfold GC
   by_cases c:k<L.length
   .left;have M:0<=(k:Int)/\(k:Int)<(L.length:Int):=om
    have h4:(k:Int)<(O.length:Int):=om
    simp only[M.1,M.2,h4,cW,mD,cF,cG,Qm,lY k (show k<4611686018427387904 by omega)];cases hkp:O.getD k false with
    |false=>simp only[dK,cG];obtain⟨t2,x0,r1,r2,r3,r4⟩:=Vx (w:=midW w i H y ev) g.v hK K ok.le (by show ev.length<=_;omega) ok.cov (ok.at_ L _ Y _ (mN (z:=aO.zero) c));rw[r1,eF];exact⟨_,rfl,⟨k+1,t2,y,ev++x0,B++[L.getD k aO.zero],rfl,c,by rw[cC];omega,r3,r4,Z,V⟩,by simp only[Qm];omega⟩
    |true=>
     simp only[cR,bY,cH];obtain⟨j,hj,hn⟩:=ok.at_ L _ Y _ (mN (z:=aO.zero) c);have y0:j<H.length:=by rw[hK.len];exact hj
     have F:=hK.find g.v hj;rw[hn]at F;have h6:=y3 hK.v.lens y0;have hl':=hK.v.lens'.1;have z0:((w.c.aD.set i y).getD i aG.zero)=y:=rK _ _ _ _ hi;show∃u0,(rY H (L.getD k aO.zero).name).bind _=_/\_;rw[zW _ _ om,eF,F];show∃u0,gd (0<=(j:Int)/\(j:Int)<(H.length:Int)) ((rI (H.getD (j:Int).toNat aA.zero) _).bind _)=_/\_;rw[gdp om];simp only[Qm];rw[vP _ _ om,eF];have U:0<=(i:Int)/\(i:Int)<(((midW w i H y ev).c.aD.length:Nat):Int):=by show _/\(i:Int)<(((w.c.aD.set i y).length:Nat):Int);rw[dS];omega
     have v0:(midW w i H y ev).c.aD.getD i aG.zero=y:=z0;rw[gdp U,v0,x9 _ _ om,eF];split
     .rw[gdp U];obtain⟨rr,e1,e2⟩:=cLh y.bF ⟨(L.getD k aO.zero).name,mS y.bF.aP (L.getD k aO.zero).name,getH (H.getD j aA.zero).aS (w.c.aD.getD i aG.zero).aL⟩;rw[e1,eF,gdp U];refine⟨_,rfl,⟨k+1,H,{y with bF:=rr.1},ev,B,?_,c,by omega,hK,K,Z,by show rr.1.aP.length<=_;omega⟩,by simp only[Qm];omega⟩;show(((k+1:Nat):Int),(⟨(⟨w.c.now,H,((w.c.aD.set i y).set i _)⟩:bC),ev⟩:bB))=_;rw[gN];rfl
     .exact⟨_,rfl,⟨k+1,H,y,ev,B,rfl,c,by omega,hK,K,Z,V⟩,by simp only[Qm];omega⟩
   .right;simp only[show¬(k:Int)<(L.length:Int)by omega,cO,bY,cH];exact⟨_,rfl,H,y,ev,rfl,hK,Z,by omega⟩) (0,midW w i w.c.aF (w.c.aD.getD i aG.zero) ev0) ⟨0,w.c.aF,w.c.aD.getD i aG.zero,ev0,[],rfl,by omega,by omega,EC g.v,λ j hj=>.inr ⟨rfl,λ a ha=>by cases ha⟩,rfl,ok.le⟩
 obtain⟨H,y,ev,rfl,M,h4,h5⟩:=h2;exact⟨H,y,ev,h1,M,h4,h5⟩
structure Less (w w':bB):Prop where
 good:Good w'
 len:w'.c.aD.length=w.c.aD.length
 cnt:cntW w'.c.aD<=cntW w.c.aD
 bud:bud w'<=bud w
def cLl(w:bB)(i:Nat)(hi:i<w.c.aD.length)(ev:List bL):midW w i w.c.aF (w.c.aD.getD i aG.zero) ev=⟨⟨w.c.now,w.c.aF,w.c.aD⟩,ev⟩:=by unfold midW;rw[KE _ _ _ hi]
def cLm{i:Nat}{w:bB}(g:Good w)(hi:i<w.c.aD.length)(K:(w.c.aD.getD i aG.zero).bI=true)(hb:bud w<=500000):
  ∃v w',DT ((i:Int),w)=some (.inl (v,w'))/\Less w w'/\cntW w'.c.aD<cntW w.c.aD/\(v=-1\/∃k:Nat,v=k/\k<w'.c.aD.length/\(w'.c.aD.getD k aG.zero).bI=true):=by
 have ok:=g.ok _ (mN hi) K;have F:w.ev.length<=500000:=by unfold bud at hb;omega
 unfold DT;have M:0<=(i:Int)/\(i:Int)<(w.c.aD.length:Int):=om
 simp only[M.1,M.2,cW,mD,cF,cG,Qm];rw[Oq _ _ om,eF];obtain⟨bs,L',q1,q2,q3,_⟩:=Oo w.c.aF (w.c.aD.getD i aG.zero).aL (w.c.aD.getD i aG.zero).bJ.bU g.lens.1 g.lens.2;obtain⟨L,a1,a2,V⟩:=BP (w.c.aD.getD i aG.zero).bJ.bU;rw[q1,eF];obtain⟨h0,p1,p2⟩:=cK9 ok.e bs V;rw[p1,eF,a1,eF];obtain⟨H,y,ev,Z,r2,r3,r4⟩:=cLk g hi K hb a2 (by rw[V,ok.e]) p2 (ev0:=w.ev++[{bL.zero with kind:=2,aL:=(w.c.aD.getD i aG.zero).aL}]) (by simp);rw[cLl w i hi]at Z;rw[Z,eF];unfold M4;have U:((midW w i H y ev).c.aD.getD i aG.zero)=y:=rK _ _ _ _ hi;have Y:i<(midW w i H y ev).c.aD.length:=by show i<(w.c.aD.set i y).length;rw[dS];exact hi
 rw[Vv (w:=midW w i H y ev) Y,eF,U];have e1:(midW w i H y ev).c.aD.set i (oP y)=w.c.aD.set i (oP y):=by show(w.c.aD.set i y).set i _=_;rw[gN]
 rw[e1];have B:i<(w.c.aD.set i (oP y)).length:=by rw[dS];exact hi
 rw[ED (w:=⟨⟨_,_,w.c.aD.set i (oP y)⟩,_⟩) B,eF];simp only[rK _ _ _ _ hi,gN];have O:Good ⟨⟨w.c.now,H,w.c.aD.set i {oP y with gen:=oO (oP y).gen}⟩,ev⟩:=g.upd hi r2 (y:={oP y with gen:=oO (oP y).gen}) r3 (λ h=>by cases h) _ _;have x0:cntW (w.c.aD.set i {oP y with gen:=oO (oP y).gen})+1=cntW w.c.aD:=by
  have:=Vu hi {oP y with gen:=oO (oP y).gen};rw[K]at this
  simpa [oP]using this
 obtain⟨v,s1,s2⟩:=O.sat;show∃v w',(xB ⟨⟨w.c.now,H,w.c.aD.set i {oP y with gen:=oO (oP y).gen}⟩,ev⟩).bind _=_/\_;rw[s1,eF];refine⟨v,_,rfl,⟨O,by show(w.c.aD.set i _).length=_;rw[dS],by show cntW (w.c.aD.set i _)<=_;omega,by show ev.length+2000*cntW (w.c.aD.set i _)<=w.ev.length+2000*cntW w.c.aD;omega⟩,by show cntW (w.c.aD.set i _)<_;omega,?_⟩;rcases s2 with h|⟨k,h5,h6,h7,_⟩
 .exact .inl h
 .exact .inr ⟨k,h5,h6,h7⟩
def Less.refl{w:bB}(g:Good w):Less w w:=⟨g,rfl,dE _,dE _⟩
def Less.trans{a b c:bB}(h:Less a b)(k:Less b c):Less a c:=⟨k.good,k.len.trans h.len,dF k.cnt h.cnt,dF k.bud h.bud⟩
def KN{w:bB}(g:Good w)(hb:bud w<=500000):∃w',rO w=some w'/\Less w w':=by
 unfold rO;obtain⟨v,O,U⟩:=g.sat;rw[O,eF];obtain⟨x,Y,B⟩:=nM (body:=DT) (λ z=>Less w z.2/\(z.1=-1\/∃k:Nat,z.1=k/\k<z.2.c.aD.length/\(z.2.c.aD.getD k aG.zero).bI=true)) (λ z=>cntW z.2.c.aD) (λ x=>Less w x)
  (λ z ⟨K,L⟩=>by
   obtain⟨v,F⟩:=z;simp only at K L;rcases L with rfl|⟨k,rfl,M,H⟩
   .right;exact⟨F,rfl,K⟩
   .left;obtain⟨v',w',V,Z,e3,e4⟩:=cLm K.good M H (dF K.bud hb);exact⟨(v',w'),V,⟨K.trans Z,e4⟩,e3⟩) (v,w) ⟨Less.refl g,by
   rcases U with h|⟨k,h5,h6,h7,_⟩
   .exact .inl h
   .exact .inr ⟨k,h5,h6,h7⟩⟩
 refine⟨x,?_,B⟩;show(lS _ (v,w)).bind _=_;rw[Y];rfl
def cLo{w:bB}(H:w.c.aF=[])(K:w.c.aD.length<=8)(O:∀y∈w.c.aD,y.bI=true->vE y.bJ.bU=true):rO w=some w:=by
 unfold rO;obtain⟨v,U,Y⟩:=Vw K (by rw[H];simp) (by rw[H];intro q h;cases h) O;rw[U,eF];rcases Y with rfl|⟨k,_,_,_,h⟩
 .rw[mF];rfl
 .exact absurd H h
def Vz{w:bB}(V:w.c.aD.length<=8):∃v,l5 w=some (v,w.c.now,w.c.aF,w.c.aD,w.ev)/\(v=-1\/∃i:Nat,v=i/\i<w.c.aD.length/\(w.c.aD.getD i aG.zero).bI=true):=by
 unfold l5;obtain⟨x,O,U⟩:=nM (body:=Im w) (λ g=>(∃i:Nat,g.2.2=i/\i<=w.c.aD.length)/\(g.1=-1\/∃i:Nat,g.1=i/\i<w.c.aD.length/\(w.c.aD.getD i aG.zero).bI=true)) (λ g=>w.c.aD.length-g.2.2.toNat)
  (λ x=>x=-1\/∃i:Nat,x=i/\i<w.c.aD.length/\(w.c.aD.getD i aG.zero).bI=true)
  (λ g ⟨⟨i,K,L⟩,hg⟩=>by
   obtain⟨b,Y,B⟩:=g;simp only at K hg;subst K;unfold Im
   by_cases c:i<w.c.aD.length
   .left;have H:0<=(i:Int)/\(i:Int)<(w.c.aD.length:Int):=om
    simp only[H.1,H.2,cW,mD,cF,cG,Qm,lY i (show i<4611686018427387904 by omega)];split
    .rename_i h;simp only[bX]at h;exact⟨_,rfl,⟨⟨i+1,rfl,c⟩,.inr ⟨i,rfl,c,h.1.1.1⟩⟩,by simp only[Qm];omega⟩
    .exact⟨_,rfl,⟨⟨i+1,rfl,c⟩,hg⟩,by simp only[Qm];omega⟩
   .right;simp only[show¬(i:Int)<(w.c.aD.length:Int)by omega,cO,bY,cH];exact⟨_,rfl,hg⟩) (-1,0,0) ⟨⟨0,rfl,by omega⟩,.inl rfl⟩
 rw[O,eF];exact⟨x,rfl,U⟩
def VA{i:Nat}{w:bB}(g:Good w)(hi:i<w.c.aD.length)(K:(w.c.aD.getD i aG.zero).bI=true)(hb:bud w<=500000):
  ∃U H,zM (i:Int) w=some U/\tI (i:Int) U=some (H.c.now,H.c.aF,H.c.aD,H.ev)/\Good H/\H.c.aD.length=w.c.aD.length/\cntW H.c.aD<cntW w.c.aD/\bud H+1000<=bud w:=by
 obtain⟨Y,ev,L,M,Z,V,_,_⟩:=Vy g hi K hb;have O:i<(w.c.aD.set i (oP (w.c.aD.getD i aG.zero))).length:=by rw[dS];exact hi
 have B:=ED (w:=⟨⟨w.c.now,Y,w.c.aD.set i (oP (w.c.aD.getD i aG.zero))⟩,w.ev++ev⟩) O;simp only[rK _ _ _ _ hi,gN]at B;have F:cntW (w.c.aD.set i {oP (w.c.aD.getD i aG.zero)with gen:=oO (oP (w.c.aD.getD i aG.zero)).gen})+1=cntW w.c.aD:=by
  have:=Vu hi {oP (w.c.aD.getD i aG.zero)with gen:=oO (oP (w.c.aD.getD i aG.zero)).gen};rw[K]at this
  simpa [oP]using this
 refine⟨_,⟨⟨w.c.now,Y,w.c.aD.set i {oP (w.c.aD.getD i aG.zero)with gen:=oO (oP (w.c.aD.getD i aG.zero)).gen}⟩,w.ev++ev⟩,M,B,g.upd hi V (y:={oP (w.c.aD.getD i aG.zero)with gen:=oO (oP (w.c.aD.getD i aG.zero)).gen}) rfl (λ h=>by cases h) _ _,by simp,by show cntW (w.c.aD.set i _)<_;omega,?_⟩;show(w.ev++ev).length+2000*cntW (w.c.aD.set i _)+1000<=w.ev.length+2000*cntW w.c.aD;rw[cC];omega
def Good.ev{w:bB}(g:Good w)(ev:List bL)(n:Int):Good ⟨⟨n,w.c.aF,w.c.aD⟩,ev⟩:=⟨g.v,g.len,g.nd,g.ok⟩
def cLr(n:Int){w:bB}(g:Good w)(hb:bud w<=400000):∃r,DY n w=some r/\r.2.c.aD.length<=100:=by
 unfold DY;split
 .exact⟨_,rfl,dF g.len Om⟩
 split
 .exact⟨_,rfl,dF g.len Om⟩
 have M:=g.ev w.ev (IntKind.i64.wrap (w.c.now+n));obtain⟨v,V,Z⟩:=Vz (w:=⟨⟨IntKind.i64.wrap (w.c.now+n),w.c.aF,w.c.aD⟩,w.ev⟩) g.len;rw[V,eF];obtain⟨x,h1,h2⟩:=nM (body:=JZ) (λ z=>Good z.2/\bud z.2<=400000/\(z.1=-1\/∃k:Nat,z.1=k/\k<z.2.c.aD.length/\(z.2.c.aD.getD k aG.zero).bI=true)) (λ z=>cntW z.2.c.aD) (λ x=>x.c.aD.length<=8)
  (λ z ⟨hg,K,L⟩=>by
   obtain⟨v,H⟩:=z;simp only at hg K L;rcases L with rfl|⟨k,rfl,hk,U⟩
   .right;exact⟨H,rfl,hg.len⟩
   .left;have h0:H.ev.length<=400000:=by unfold bud at K;omega
    unfold JZ;have Y:0<=(k:Int)/\(k:Int)<(H.c.aD.length:Int):=om
    simp only[Y.1,Y.2,cW,mD,cF,cG,Qm];rw[Oq _ _ om,eF];have gn:=hg.ev (H.ev++[{bL.zero with kind:=4,aL:=(H.c.aD.getD k aG.zero).aL}]) H.c.now;obtain⟨wa,B,r1,r2,r3,r4,r5,r6⟩:=VA (w:=⟨⟨H.c.now,H.c.aF,H.c.aD⟩,H.ev++[{bL.zero with kind:=4,aL:=(H.c.aD.getD k aG.zero).aL}]⟩) gn hk U (by unfold bud at K⊢;simp only[cC,Km];omega);have x0:bud B+999<=bud H:=by
     have:bud (⟨⟨H.c.now,H.c.aF,H.c.aD⟩,H.ev++[{bL.zero with kind:=4,aL:=(H.c.aD.getD k aG.zero).aL}]⟩:bB)=bud H+1:=by unfold bud;simp only[cC,Km];omega
     omega
    rw[r1,eF,r2,eF];obtain⟨F,s1,O⟩:=KN r3 om;show∃g',(rO B).bind _=_/\_;rw[s1,eF];obtain⟨v2,e3,e4⟩:=Vz O.good.len;rw[e3,eF];refine⟨_,rfl,⟨O.good.ev _ _,?_,e4⟩,?_⟩
    .have:=O.bud;show bud F<=_;omega
    .have:=O.cnt;show cntW F.c.aD<cntW H.c.aD;exact Nat.lt_of_le_of_lt this r5) (v,⟨⟨IntKind.i64.wrap (w.c.now+n),w.c.aF,w.c.aD⟩,w.ev⟩) ⟨M,hb,Z⟩
 show∃r,(lS _ (v,_)).bind _=some r/\_;rw[h1];exact⟨_,rfl,dF h2 Om⟩
def cLs(p:aK)(cost:Int){w:bB}(L:w.c.aD.length<=8):∃r,n8 p cost w=some r/\r.2.c.aD.length<=100:=by
 unfold n8;split
 .exact⟨_,rfl,by simp only;omega⟩
 obtain⟨v,O,_⟩:=On w.c.aD p om;rw[O,eF];split
 .exact⟨_,rfl,by simp only;omega⟩
 split
 .exact⟨_,rfl,by simp only;omega⟩
 rw[gdp om];obtain⟨x,H,U⟩:=nM (body:=I0) (λ g=>0<=g.1/\g.1<(g.2.length:Int)/\g.2.length<=100) (λ g=>g.1.toNat) (λ x=>x.length<=100) (λ g ⟨K,O,H⟩=>by
  obtain⟨i,l⟩:=g;simp only at K O H;unfold I0
  by_cases c:0<i
  .have e:IntKind.i64.wrap (i-1)=i-1:=mB om om;simp only[c,cF,e,cL];rw[gdp (by intro;omega),gdp (by intro;omega)];split
   .left;rw[gdp ⟨K,O⟩,gdp om,gdp ⟨K,O⟩,gdp om];exact⟨_,rfl,⟨by simp only;omega,by simp only[dS];omega,by simp only[dS];exact H⟩,by simp only;omega⟩
   .exact .inr ⟨_,rfl,H⟩
  .simp only[c,cO,eQ,bY,cH];rw[gdp (by intro h;cases h),gdp (by intro h;cases h)];exact .inr ⟨_,rfl,H⟩) (IntKind.i64.wrap (((w.c.aD.length+1:Nat):Int)-1),w.c.aD++[{aG.zero with aL:=p,cost:=cost}])
  ⟨by simp only;rw[mB om om];omega,by simp only[cC,Km];rw[mB om om];omega,by simp only[cC,Km];omega⟩
 rw[H,eF];exact⟨_,rfl,U⟩
def Good.other{w:bB}(g:Good w){i j:Nat}(hi:i<w.c.aD.length)(H:j<w.c.aD.length)(h:i≠j):(w.c.aD.getD j aG.zero).aL≠(w.c.aD.getD i aG.zero).aL:=by
 intro e;have U:=fE.1 g.nd;have gg:∀k,(O:k<w.c.aD.length)->(w.c.aD.map (·.aL))[k]'(by simpa using O)=(w.c.aD.getD k aG.zero).aL:=λ k O=>by rw[jQ,cB,cE O];rfl
 rcases jX i j with c|c
 .exact U i j (by simpa using hi) (by simpa using H) c (by rw[gg i hi,gg j H,e])
 .exact U j i (by simpa using H) (by simpa using hi) om (by rw[gg i hi,gg j H,e])
def cLt{t:List aA}(h:ValidT t)(p:aK):Kept p t (remT t p).1:=by
 have L:=cJ4 h p;rw[Og h]at L⊢;have H:∀i,i<t.length->(t.map (remN · p)).getD i aA.zero=remN (t.getD i aA.zero) p:=λ i K=>by rw[cB,cV,cB,cE K];rfl
 refine⟨L,by simp,λ i K=>?_,λ i K x O=>?_⟩
 .show((t.map (remN · p)).getD i aA.zero).aB=_;rw[H i K];exact KF (h.each _ (mN K)) p
 .show covA _ (getH ((t.map (remN · p)).getD i aA.zero).aS x) _=true;rw[H i K];exact(Ul (h.each _ (mN K)) O).1
def VB{i:Nat}{w:bB}(g:Good w)(hi:i<w.c.aD.length)(hb:bud w<=400000):∃r,D2 (i:Int) w=some r/\r.c.aD.length<=100:=by
 unfold D2;have Y:w.ev.length<=400000:=by unfold bud at hb;omega
 have L:=g.len;have B:=cJ5 g.v (w.c.aD.getD i aG.zero).aL;rw[gdp om,cJ0,eF];simp only[Qm];rw[BQ _ _ _ om,eF];have F:IntKind.i64.wrap ((i:Int)+1)=((i+1:Nat):Int):=lY i om;simp only[F,Qm];rw[gdp ⟨by omega,by omega,by omega,trivial⟩,gdp om,gdp (by simp only[dC,eH];omega)];rw[Oq _ _ (by show(w.ev++_).length<=_;rw[cC];omega),eF];have H:(w.c.aD.take i++(w.c.aD.drop (i+1)).take (w.c.aD.length-(i+1))).Sublist w.c.aD:=by
  have e:w.c.aD=w.c.aD.take i++w.c.aD.drop i:=(eV _ _).symm
  conv=>rhs;rw[e]
  refine(List.Sublist.refl _).append ((List.take_sublist _ _).trans ?_);rw[show w.c.aD.drop (i+1)=(w.c.aD.drop i).drop 1 by rw[fF]];exact List.drop_sublist _ _
 have k:=cLt g.v (w.c.aD.getD i aG.zero).aL;have K:∀y∈w.c.aD.take i++(w.c.aD.drop (i+1)).take (w.c.aD.length-(i+1)),∃j,j<w.c.aD.length/\i≠j/\w.c.aD.getD j aG.zero=y:=λ y hy=>by
  rcases cX.1 hy with hy|hy
  .obtain⟨j,O,e⟩:=vV (z:=aG.zero) hy;rw[dC]at O;refine⟨j,by omega,by omega,?_⟩;rw[<-e,Tw _ _ _ _ om]
  .obtain⟨j,O,e⟩:=vV (z:=aG.zero) (iD hy);rw[eH]at O;refine⟨i+1+j,by omega,by omega,?_⟩;rw[<-e,cB,cB,eC]
 have M:Good ⟨⟨w.c.now,(remT w.c.aF (w.c.aD.getD i aG.zero).aL).1,w.c.aD.take i++(w.c.aD.drop (i+1)).take (w.c.aD.length-(i+1))⟩,(w.ev++(remT w.c.aF (w.c.aD.getD i aG.zero).aL).2)++[{bL.zero with kind:=5,aL:=(w.c.aD.getD i aG.zero).aL}]⟩:=by refine⟨k.v,dF H.length_le L,g.nd.sublist (H.map _),λ y hy V=>?_⟩;obtain⟨j,O,U,rfl⟩:=K y hy;exact(g.ok _ (mN O) V).kept k (g.other hi O U)
 have hc:cntW (w.c.aD.take i++(w.c.aD.drop (i+1)).take (w.c.aD.length-(i+1)))<=cntW w.c.aD:=H.countP_le;obtain⟨w',Z,h9⟩:=KN M (by unfold bud at hb⊢;simp only[cC,Km];omega);exact⟨w',by show(rO _).bind _=_;rw[Z];rfl,dF h9.good.len Om⟩
def cLv{q:aA}{p:aK}{a:aC}{pr:Int}(O:(pV q p a pr).2.2=0)(x:aK):covA q.aB (getH (pV q p a pr).1.aS x) (getH q.aS x)=true:=by
 obtain⟨U,_,_,_,_,h⟩:=Kn O;rcases h with⟨_,e⟩|⟨_,_,e,H⟩|⟨_,_,_,e,H⟩
 .rw[e];exact zT (w6 U.hv x)
 .rw[e,vR];exact GW H x
 .rw[e,vR];exact GW H x
def VC{t:List aA}{nm:ByteArray}{f:aA->ResT}(H:∀q,(f q).2.2≠0->(f q).1=[]/\(f q).2.1=[])(h:(atT t nm f).2.2≠0):(atT t nm f).1=[]/\(atT t nm f).2.1=[]:=by
 unfold atT at h⊢;split
 .exact⟨rfl,rfl⟩
 .rename_i O;rw[bZ O]at h;split
  .exact⟨rfl,rfl⟩
  .rename_i K;rw[bZ K]at h;exact H _ h
def VD{t:List aA}{nm:ByteArray}{x:aA×List aX×Int}{ev:List bL}(h:(putT t nm x ev).2.2≠0):(putT t nm x ev).1=[]/\(putT t nm x ev).2.1=[]:=by
 unfold putT at h⊢;split
 .rename_i c;rw[cA c]at h;exact absurd rfl h
 .exact⟨rfl,rfl⟩
def cLy{t:List aA}(h:ValidT t)(p:aK)(a:aO)(pr:Int):(tT t p a pr).2.1.length<=20/\((tT t p a pr).1=[]\/∀O,Kept O t (tT t p a pr).1):=by
 by_cases e:(tT t p a pr).2.2=0
 .obtain⟨i,L,Z,h2,U,B,h5,Y⟩:=cJg e;have H:=h.each _ (mN (z:=aA.zero) L);have F:=BL H (.claim p a.aJ pr U);refine⟨?_,.inr λ O=>by rw[B]at Y⊢;exact KM h L Y F.2 λ x _=>cLv U x⟩;unfold tT at e⊢;obtain⟨_,M,_,_,_,V⟩:=Hg e;rw[V]at e⊢;cases K:uU t p with
  |true=>rw[K,cA rfl]at e;exact absurd e Om
  |false=>rw[K,bZ Om]at e;rw[bZ Om,(Hh e).2];have:=(Ut (t.getD M aA.zero) p a.aJ pr).2.2.2;show([]++sV _ _).length<=20;rw[lD,Ey];omega
 .have:=VC (t:=t) (nm:=a.name) (f:=λ q=>if uU t p=true then errT 4 else putT t a.name (pV q p a.aJ pr) []) (λ q H=>by
   cases K:uU t p with
   |true=>exact⟨rfl,rfl⟩
   |false=>rw[K,bZ Om]at H;rw[bZ Om];exact VD H) e
  exact⟨by rw[show(tT t p a pr).2.1=[]from this.2];simp,.inl this.1⟩
def cLz{t:List aA}(h:ValidT t)(p:aK)(a:aO):(qI t p a).2.1.length<=20/\((qI t p a).1=[]\/Kept p t (qI t p a).1):=by
 by_cases e:(qI t p a).2.2=0
 .obtain⟨Y,O⟩:(∃i:Nat,i<t.length/\(nZ (t.getD i aA.zero) p a.aJ).2.2=0/\(qI t p a).1=t.set i (nZ (t.getD i aA.zero) p a.aJ).1)/\(qI t p a).2.1.length<=20:=by
   unfold qI at e⊢;obtain⟨_,i,B,F,U,M⟩:=Hg e;rw[M]at e⊢;obtain⟨V,Z⟩:=Hh e;rw[Z,B,EA];refine⟨⟨i,F,V,rfl⟩,?_⟩;have:=(NP (t.getD i aA.zero) p a.aJ).2.2.2;show((if getH (t.getD i aA.zero).aS p=a.aJ then([]:List bL)else[BJ p a.name a.aJ])++sV _ _).length<=20;rw[cC,Ey];have:(if getH (t.getD i aA.zero).aS p=a.aJ then([]:List bL)else[BJ p a.name a.aJ]).length<=1:=by split<;>simp
   omega
  obtain⟨i,K,U,h4⟩:=Y;obtain⟨_,_,_,_,L⟩:=Vj e;have H:=h.each _ (mN (z:=aA.zero) K);have hs:=BL H (.lower p a.aJ U);obtain⟨_,_,hz,hw,hc,_⟩:=Er U;have he:=Vs H hz hw hc;exact⟨O,.inr (by rw[h4]at L⊢;exact KM h K L hs.2 he.2.1)⟩
 .have:=VC (t:=t) (nm:=a.name) (f:=λ q=>putT t a.name (nZ q p a.aJ) (if getH q.aS p=a.aJ then[]else[BJ p a.name a.aJ])) (λ q H=>VD H) e;exact⟨by rw[show(qI t p a).2.1=[]from this.2];simp,.inl this.1⟩
end Ab
end Go.Proofs.YtfmnjkfhahfhgaaGreatDoor
