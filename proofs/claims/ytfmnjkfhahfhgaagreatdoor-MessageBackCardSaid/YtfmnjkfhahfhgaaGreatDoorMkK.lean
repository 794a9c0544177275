import Derived.Test.YtfmnjkfhahfhgaaGreatDoorMkJ
namespace Go.Proofs.YtfmnjkfhahfhgaaGreatDoor
namespace Ab
set_option linter.defProp false
set_option linter.unusedVariables false
set_option linter.unusedSimpArgs false
def PQ{lim over x:Int}(h:okI x)(K:x<=lim){r:List Int}(H:Src (encI x++r)):sF lim over ⟨encI x++r,0⟩=some (x,⟨r,0⟩):=by unfold sF;rw[bX (by simp)];simp only;rw[Cu h H,eF,bX (by simp),gdp (by simp only[cA];omega),bX (by simpa using K),mB (by have:=h.1;omega) (by have:=h.2;omega)];simp only[Qm,fE]
def L3{x:Int}(h:okI x){r:List Int}(H:Src (encI x++r)):sS ⟨encI x++r,0⟩=some (x,⟨r,0⟩):=by unfold sS;rw[PQ h h.2 H];rfl
def cSz{p:aK}(h:mP p=true){r:List Int}(H:Src (encP p++r)):z8 ⟨encP p++r,0⟩=some (p,⟨r,0⟩):=by unfold z8;rw[bX (by simp)];simp only;rw[O9 h H,eF,bX (by simp),gdp (by simp only[cA];omega)];simp only[Qm,fE]
def Xs{x:aO}(h:okL' x){r:List Int}(H:Src (encL x++r)):Ad ⟨encL x++r,0⟩=some (x,⟨r,0⟩):=by
 obtain⟨Y,O,U⟩:=h;have hb:encL x++r=encT x.name++(encI x.aJ.mode++(encI x.aJ.aU++r)):=by unfold encL;simp only[cG]
 rw[hb]at H⊢;unfold Ad;rw[bX (by simp)];simp only;rw[O8 om H,eF,bX (by simp),gdp (by simp only[cA];omega)];simp only[Qm,fE];rw[L3 O H.right,eF];simp only;rw[L3 U H.right.right];rfl
def cT1(d:Bool)(r:List Int)(H:r.length<=1000000000):u7 ⟨(if d=true then 1 else 0)::r,0⟩=some (d,⟨r,0⟩):=by
 unfold u7;rw[bX (by simp),bX (by simp<;>omega),gdp (by simp<;>omega)];cases d
 .rw[bX (by simp),gdp (by simp<;>omega),gdp (by simp<;>omega)];rfl
 .rw[bX (by simp),gdp (by simp<;>omega),gdp (by simp<;>omega)];rfl
def Xt{s:aH}(h:nZ s=true){r:List Int}(K:r.length<=1000000000)(H:Src (encI ((encS s).length:Int)++(encS s++r))):Cc ⟨encI ((encS s).length:Int)++(encS s++r),0⟩=some (s,⟨r,0⟩):=by have O:=Cw (AE h).1;unfold Cc;rw[L3 (by unfold okI;omega) H,eF,bX (by simp),bX (by simp only[cA,cC];omega)];simp only;rw[gdp ⟨by decide,by omega,by simp only[cA];omega,trivial⟩,lF,List.take_left,cIp (AE h).1 om,h,cB rfl,eF,bX (by simp),gdp (by simp only[cA];omega),fE]
def Xu(v1:Int×aR)(U:v1.1<=1000):∀(l:List aP) (r:List Int) (i:Nat) (acc:List aP),(∀o∈l,optV o=true)->(i:Int)+l.length=v1.1->acc.length<=i->(l.flatMap encO++r).length<=1000000000->Src (l.flatMap encO++r)->
  lY (pZ v1) ((i:Int),⟨l.flatMap encO++r,0⟩,acc)=some (.inl (⟨r,0⟩,acc++l))
 |[],r,i,acc,_,H,_,_,_=>by
  have:pZ v1 ((i:Int),⟨([]:List aP).flatMap encO++r,0⟩,acc)=some (.inr (.inl (⟨r,0⟩,acc))):=by unfold pZ;rw[bX (by simp at H⊢;omega)];rfl
  rw[mJ,this];simp
 |o::l,r,i,acc,O,H,Y,K,L=>by
  rw[lH]at H;simp only[eQ,cG]at K L⊢;have e:=cSw (O o (.head _)) K L;have:pZ v1 ((i:Int),⟨encO o++(l.flatMap encO++r),0⟩,acc)=some (.inl (((i+1:Nat):Int),⟨l.flatMap encO++r,0⟩,acc++[o])):=by unfold pZ;rw[cB (by simp only[cC];omega)];simp only;rw[e,eF,bX (by simp),gdp (by simp only[cA];omega),gdp om];simp only[Qm,fE];rw[mF i om]
  rw[mJ,this];simp only;rw[Xu v1 U l r (i+1) (acc++[o]) (λ x V=>O x (.tail _ V)) om (by simp;omega) (by rw[cA]at K;omega) L.right,cG];rfl
def cT4{l:List aP}(O:l.length<=40)(ho:∀o∈l,optV o=true){r:List Int}(K:(l.flatMap encO++r).length<=1000000000)(H:Src (encI (l.length:Int)++(l.flatMap encO++r))):yC ⟨encI (l.length:Int)++(l.flatMap encO++r),0⟩=some (l,⟨r,0⟩):=by unfold yC;rw[PQ (by unfold okI;omega) om H,eF];simp only;have:=Xu ((l.length:Int),⟨l.flatMap encO++r,0⟩) (by simp only;omega) l r 0 [] ho (by simp) (by simp) K H.right;rw[show((0:Int),(⟨l.flatMap encO++r,0⟩:aR),([]:List aP))=(((0:Nat):Int),⟨l.flatMap encO++r,0⟩,[])from rfl,this];rfl
def AK(m:aL)(c:Nat)(w:aL):aL:=match c with
 |80=>{w with aM:=m.aM}
 |71=>{w with gen:=m.gen}
 |82=>{w with round:=m.round}
 |69=>{w with epoch:=m.epoch}
 |89=>{w with bC:=m.bC}
 |83=>{w with site:=m.site}
 |73=>{w with inc:=m.inc}
 |66=>{w with label:=m.label}
 |65=>{w with aZ:=m.aZ}
 |97=>{w with aZ:=m.aZ}
 |68=>{w with done:=m.done}
 |78=>{w with state:=m.state}
 |76=>{w with state:=m.state}
 |79=>{w with options:=m.options}
 |_=>w
noncomputable def Fx(c:Int)(H:aR)(w:aL):Option (aR×aL):=
 if(oA c nums).isSome=true then(oM ((oA c nums).getD bM.zero).of).bind λ k=>(sS H).bind λ v=>some (v.2,sP w k (IntKind.i64.wrap (v.1-((oA c nums).getD bM.zero).plus)))
 else tO c H w
def CO{c:Int}{n:bM}{k:Nat}{x:Int}(H:oA c nums=some n)(O:oM n.of=some k)(h:okI x){r:List Int}(U:Src (encI x++r))(w:aL):Fx c ⟨encI x++r,0⟩ w=some (⟨r,0⟩,sP w k (IntKind.i64.wrap (x-n.plus))):=by unfold Fx;rw[H];simp only[Option.isSome_some,cH,Xm,O,qm];rw[L3 h U];rfl
def CP{c:Int}(O:oA c nums=none)(H:aR)(w:aL):Fx c H w=tO c H w:=by unfold Fx;rw[O];rfl
def Xv{x:aO}(h:nY x.name=true)(H:okA x.aJ):okL' x:=⟨wX h,H⟩
def cTa{m w:aL}{c:Nat}(M:c∈uU)(U:pV m c=true){r:List Int}(V:r.length<=1000000)(O:Src (encF m c++r)):Fx (c:Int) ⟨encF m c++r,0⟩ w=some (⟨r,0⟩,AK m c w):=by
 have F:∀{lo hi x:Int},inN lo hi x=true->0<=lo->hi<=1073741824->okI x/\IntKind.i64.wrap (x-0)=x:=λ{lo hi x} k K Y=>by have:=tU k K Y;exact⟨this,by rw[Int.sub_zero,mB (by have:=this.1;omega) (by have:=this.2;omega)]⟩
 unfold uU at M;simp only[cL,eX,iI]at M;rcases M with rfl|rfl|rfl|rfl|rfl|rfl|rfl|rfl|rfl|rfl|rfl|rfl|rfl|rfl
 .rw[CP rfl];unfold tO;rw[cB Om,show encF m 80=encP m.aM from rfl,cSz (p:=m.aM) U O];rfl
 .obtain⟨Y,B⟩:=F (lo:=0) (hi:=1073741824) (x:=m.gen) U Om Om;rw[show encF m 71=encI m.gen from rfl,CO (n:=⟨64,0,1073741824,0⟩) (k:=0) rfl rfl Y O,B];rfl
 .obtain⟨Y,B⟩:=F (lo:=0) (hi:=1073741824) (x:=m.round) U Om Om;rw[show encF m 82=encI m.round from rfl,CO (n:=⟨65,0,1073741824,0⟩) (k:=1) rfl rfl Y O,B];rfl
 .obtain⟨Y,B⟩:=F (lo:=0) (hi:=1073741824) (x:=m.epoch) U Om Om;rw[show encF m 69=encI m.epoch from rfl,CO (n:=⟨66,0,1073741824,0⟩) (k:=2) rfl rfl Y O,B];rfl
 .obtain⟨Y,B⟩:=F (lo:=0) (hi:=7) (x:=m.bC) U Om Om;rw[show encF m 89=encI m.bC from rfl,CO (n:=⟨67,0,7,0⟩) (k:=3) rfl rfl Y O,B];rfl
 .obtain⟨Y,B⟩:=F (lo:=0) (hi:=3) (x:=m.site) U Om Om;rw[show encF m 83=encI m.site from rfl,CO (n:=⟨68,0,3,0⟩) (k:=4) rfl rfl Y O,B];rfl
 .obtain⟨Y,B⟩:=F (lo:=1) (hi:=99) (x:=m.inc) U Om Om;rw[show encF m 73=encI m.inc from rfl,CO (n:=⟨69,1,99,0⟩) (k:=5) rfl rfl Y O,B];rfl
 .have k:inN (-1) 99 m.label=true:=by
   have:(inN (-1) 99 m.label&&!decide (m.label=0))=true:=U;rw[bY]at this;exact this.1
  have k':=LX.1 k;rw[show encF m 66=encI (m.label+1)from rfl,CO (n:=⟨70,-1,99,1⟩) (k:=6) rfl rfl (by unfold okI;omega) O,show IntKind.i64.wrap (m.label+1-1)=m.label by rw[mB om om];omega];rfl
 .rw[CP rfl];have H:(nY m.aZ.name&&oO m.aZ.aJ)=true:=U;rw[bY]at H;unfold tO vM;rw[bX Om,cB Om,cB Om,show encF m 65=encL m.aZ from rfl,Xs (Xv H.1 (yW H.2)) O];rfl
 .rw[CP rfl];have H:(nY m.aZ.name&&(decide (m.aZ.aJ=aC.zero)||oO m.aZ.aJ))=true:=U;rw[bY]at H;unfold tO vM;rw[bX Om,bX Om,cB Om,show encF m 97=encL m.aZ from rfl,Xs (Xv H.1 (PD H.2)) O];rfl
 .rw[CP rfl];unfold tO vM;rw[bX Om,bX Om,bX Om,cB Om];rw[show encF m 68++r=(if m.done=true then 1 else 0)::r from rfl,cT1 m.done r om];rfl
 .rw[CP rfl];have H:(decide (m.state.aF.length=0)&&nZ m.state)=true:=U;rw[bY]at H;have hb:encF m 78++r=encI ((encS m.state).length:Int)++(encS m.state++r):=cG _ _ _;rw[hb]at O⊢;unfold tO vM k9;rw[bX Om,bX Om,bX Om,bX Om,cB Om,cB Om,Xt H.2 om O];rfl
 .rw[CP rfl];have H:(decide (m.state.aY.length=0)&&nZ m.state)=true:=U;rw[bY]at H;have hb:encF m 76++r=encI ((encS m.state).length:Int)++(encS m.state++r):=cG _ _ _;rw[hb]at O⊢;unfold tO vM k9;rw[bX Om,bX Om,bX Om,bX Om,bX Om,cB Om,Xt H.2 om O];rfl
 .rw[CP rfl];have H:(decide (m.options.length<=40)&&m.options.all optV)=true:=U;rw[bY,cC,dQ]at H;have hb:encF m 79++r=encI (m.options.length:Int)++(m.options.flatMap encO++r):=cG _ _ _;rw[hb]at O⊢;have Z:=H.1;have h1:(m.options.flatMap encO).length<=20000*m.options.length:=vT λ x L=>PB (Io (H.2 x L));unfold tO vM k9;rw[bX Om,bX Om,bX Om,bX Om,bX Om,bX Om,cB Om,cT4 H.1 H.2 (by rw[cA];omega) O];rfl
def Xw:∀(m:aL) (l:List UInt8) (w:aL),(l.foldl (λ w b=>AK m b.toNat w) w).kind=w.kind
 |m,[],w=>rfl
 |m,b::l,w=>by rw[lP,Xw m l];unfold AK;split<;>rfl
def cTc{m:aL}(h:tF m=true):(nE m.kind).foldl (λ w b=>AK m b.toNat w) {aL.zero with kind:=m.kind}=m:=by
 unfold tF at h;simp only[bY,cC]at h;obtain⟨O,_,hb⟩:=h;have eL:=Ft m.kind O;obtain⟨kind,aM,gen,aZ,bC,K,U,Y,M,B,done,F,H⟩:=m;simp only at O eL hb⊢;rcases W8 O with rfl|rfl|rfl|rfl|rfl|rfl|rfl|rfl|rfl|rfl|rfl|rfl|rfl|rfl|rfl
 all_goals
  have e:=eL.trans rfl;rw[e]at hb⊢;simp only[bY,Pw,cOl,Fq,List.foldl_cons,List.foldl_nil,cC]at hb⊢;simp[clrF,AK,aL.zero]at hb|-
  grind
def cTd(m:aL)(c:Nat):nP (encF m c):=by
 unfold encF;have H:∀x:aO,nP (encL x):=λ x=>(O7 _).app ((pD _).app (pD _));have O:∀o:aP,nP (encO o):=λ o=>(Fh _).app ((pD _).app ((pD _).app ((pD _).app (nP.flat H _))));split
 all_goals first|exact Fh _|exact pD _|exact H _|exact(pD _).app (V6 _)|exact(pD _).app (nP.flat O _)|exact nP.nil|skip
 intro x K;rw[dP]at K;split at K<;>omega
def cTe(m:aL):nP (encM m):=(pD _).app (nP.flat (λ b=>cTd m _) _)
def cTf{m:aL}(h:tF m=true)(z0:(encM m).length<=4064){r:List Int}(hr:nP r)(hl:r.length<=1000):tB (encM m++r)=if r=[]then As (⟨[],0⟩,m)else some (aL.zero,6):=by
 obtain⟨hk,hf⟩:=PF h;have h5:=PE m.kind;have L:(encM m++r).length<=6000:=by rw[cA];omega
 have B:Src (encM m++r):=⟨(cTe m).app hr,by omega⟩;have hb:encM m++r=encI m.kind++((nE m.kind).flatMap (λ b=>encF m b.toNat)++r):=cG _ _ _;rw[hb]at B L⊢;rw[cA]at L;have H:=B.right;unfold tB;rw[show({aR.zero with b:=encI m.kind++((nE m.kind).flatMap (λ b=>encF m b.toNat)++r)}:aR)=⟨encI m.kind++((nE m.kind).flatMap (λ b=>encF m b.toNat)++r),0⟩from rfl,PQ (by unfold okI;omega) hk.2 B,eF];simp only;rw[bX (by simp),bX (by unfold Dj;simp;omega),CG,eF,gdp om];have F:lY (qR (m.kind,⟨(nE m.kind).flatMap (λ b=>encF m b.toNat)++r,0⟩) nums) (0,⟨(nE m.kind).flatMap (λ b=>encF m b.toNat)++r,0⟩,{aL.zero with kind:=m.kind})=some (.inl (⟨r,0⟩,m)):=by
  have e0:(⟨(nE m.kind).flatMap (λ b=>encF m b.toNat)++r,0⟩,{aL.zero with kind:=m.kind})=((⟨((nE m.kind).drop 0).flatMap (λ b=>encF m b.toNat)++r,0⟩,((nE m.kind).take 0).foldl (λ w b=>AK m b.toNat w) {aL.zero with kind:=m.kind}):aR×aL):=rfl;rw[e0];have O:((Arr.get nD m.kind.toNat ⟨#[]⟩).size:Int)=((nE m.kind).length:Int):=by unfold nE;rw[yV]
  refine Pt (body:=qR _ nums) (nE m.kind).length (λ k=>(⟨((nE m.kind).drop k).flatMap (λ b=>encF m b.toNat)++r,0⟩,((nE m.kind).take k).foldl (λ w b=>AK m b.toNat w) {aL.zero with kind:=m.kind})) _ (λ i Z=>?_) ?_
  .have M:=Xw m ((nE m.kind).take i) {aL.zero with kind:=m.kind};have U:=l5 (nE m.kind) i 0 Z;have V:=mS (z:=(0:UInt8)) Z;have Y:Src (encF m ((nE m.kind).getD i 0).toNat++(((nE m.kind).drop (i+1)).flatMap (λ b=>encF m b.toNat)++r)):=by
    have hx:(nE m.kind).flatMap (λ b=>encF m b.toNat)++r=((nE m.kind).take i).flatMap (λ b=>encF m b.toNat)++(encF m ((nE m.kind).getD i 0).toNat++(((nE m.kind).drop (i+1)).flatMap (λ b=>encF m b.toNat)++r)):=by
     conv=>lhs;rw[<-eO i (nE m.kind),U]
     simp only[jE,eQ,cG]
    rw[hx]at H;exact H.right
   have h0:(((nE m.kind).drop (i+1)).flatMap (λ b=>encF m b.toNat)++r).length<=1000000:=by
    have hx:((nE m.kind).flatMap (λ b=>encF m b.toNat)++r).length=(((nE m.kind).take (i+1)).flatMap (λ b=>encF m b.toNat)).length+(((nE m.kind).drop (i+1)).flatMap (λ b=>encF m b.toNat)++r).length:=by
     conv=>lhs;rw[<-eO (i+1) (nE m.kind)]
     simp only[jE,cG,cA]
    omega
   have K:=cTa (w:=((nE m.kind).take i).foldl (λ w b=>AK m b.toNat w) {aL.zero with kind:=m.kind}) (hf _ V).1 (hf _ V).2 h0 Y;unfold qR;simp only;rw[M,O,cB (by simp only[cC];omega),gdp (by simp only;omega),gdp om,U];have x0:(Arr.get nD m.kind.toNat ⟨#[]⟩).toList=nE m.kind:=rfl;simp only[Qm,x0,eQ,cG];rw[vV 0 Z,List.foldl_append];unfold Fx at K;split
   .rename_i c1;rw[cB c1]at K;obtain⟨k,y0,K⟩:=pE K;obtain⟨v,hv,K⟩:=pE K;rw[y0,eF,hv,eF];simp only[cJ,dH]at K;unfold yJ;rw[K.1,K.2,bX (by simp),mF i om];rfl
   .rename_i c1;rw[bX c1]at K;rw[K,eF];unfold yJ;rw[bX (by simp),mF i om];rfl
  .unfold qR;simp only;rw[O,bX (by simp),iO,eV,cTc h];rfl
 rw[F,eF];simp only
 by_cases c:r=[]
 .rw[cB c,c]
 .rw[bX c];unfold As;rw[cB (by
   have:r.length≠0:=λ k=>c (gS.1 k);simp only[dA,dF];omega)]
def Xx{m:aL}(h:rH m=true){r:List Int}(O:nP r)(K:r.length<=1000):tB (encM m++r)=some (if r=[]then(m,0)else(aL.zero,6)):=by
 have H:=h;unfold rH at H;rw[bY,cC]at H;rw[cTf H.1 om O K]
 by_cases c:r=[]
 .rw[cB c,cB c];unfold As;rw[bX (by simp),Ip,h];rfl
 .rw[bX c,bX c]
def cTh(m:aL):Ce m=some (if rH m=true then(encM m,0)else([],2)):=by
 unfold Ce;rw[Ip,eF];cases h:rH m with
 |false=>rfl
 |true=>have H:=h;unfold rH at H;rw[bY]at H;rw[bX Om,PG H.1];rfl
def cTi(l t H:List Int)(hm:nP H):E1 l t H=some true:=by
 unfold E1
 by_cases c:(l.length<=300/\t.length<=20)/\H.length≠0/\H.length<=100
 .rw[bX (by rw[Xh];simp only[dS,dA,cC,dF];omega)];obtain⟨m,u,e,B⟩:=cRf c.1.1 c.1.2;rw[e,eF];simp only;rw[cTh,eF,cR5 B,eF];cases K:rH m with
  |false=>rw[PL];rfl
  |true=>
   have L:(encM m).length<=4064:=by have F:=K;unfold rH at F;rw[bY,cC]at F;omega
   have O:=Xx K (r:=[]) nP.nil (by simp);rw[eE,cB rfl]at O;have M:=Xx K hm om;rw[bX (λ k=>c.2.1 (by rw[k];rfl))]at M;simp only[cH,cR,bZ,cI];rw[O,eF,gdp om,gdp om,M,eF];simp only[cF,cR,jG,dL,cH];rw[cR6 B,eF,bX Om];have U:=vX (body:=HH (encM m,0)) (encM m).length (λ _=>true) (λ i Z=>by
    unfold HH;have Y:(encM m).drop i≠[]:=λ k=>by have:=dZ List.length k;rw[dC]at this;simp at this;omega
    obtain⟨x,V⟩:=cSs (b:=(encM m).take i) (u:=(encM m).drop i) (m:=m) (by rw[eO];omega) Y (by rw[eO];exact O);rw[cB (by simp only[cC];omega),gdp (by simp only;omega)];simp only[Qm];rw[V,eF,bX (by simp),mB om om];rfl) (by unfold HH;simp)
   rw[U];simp only[dQ,fD,cH,qm];unfold N6;rw[PL];rfl
 .rw[cB (by rw[Xh];simp only[dS,dA,cC,dF];omega),PL];rfl
end Ab
end Go.Proofs.YtfmnjkfhahfhgaaGreatDoor
