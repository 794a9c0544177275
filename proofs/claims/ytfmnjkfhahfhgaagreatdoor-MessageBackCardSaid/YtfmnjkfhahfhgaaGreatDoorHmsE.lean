import Derived.Test.YtfmnjkfhahfhgaaGreatDoorWsO
namespace Go.Proofs.YtfmnjkfhahfhgaaGreatDoor
namespace Ab
set_option linter.defProp false
set_option linter.unusedVariables false
set_option linter.unusedSimpArgs false
noncomputable def n8(m:aL)(c:Int)(w:aL):Option (aL⊕(aL⊕Bool)):=if(oA c nums).isSome=true then(oM ((oA c nums).getD bM.zero).of).bind λ v3=>if ((decide ((nI m v3)<((oA c nums).getD bM.zero).low))||(decide (((oA c nums).getD bM.zero).high<(nI m v3))))||((decide (c=66))&&(decide ((nI m v3)=0)))then some (.inr (.inr false))else(oM ((oA c nums).getD bM.zero).of).bind λ v4=>some (.inl (sP w v4 0))else(uO m c).bind λ v5=>if !v5 then some (.inr (.inr false))else(A4 c w).bind λ v6=>some (.inl v6)
def WP(k:Int):(Arr.get nD k.toNat ⟨#[]⟩).size<=5:=by
 have h:∀i:Nat,i<16->(Arr.get nD i ⟨#[]⟩).size<=5:=by decide
 by_cases H:k.toNat<16
 .exact h _ H
 .unfold Arr.get oV;rw[bX H];decide
def cP3(m:aL)(U:0<=m.kind)(Y:m.kind<16)(w:aL):
  lY (EK m nums) (0,w)=walk (λ _ b w=>n8 m ((b.toNat:Nat):Int) w) (λ w=>.inl w) (Arr.get nD m.kind.toNat ⟨#[]⟩).toList 0 w:=by
 have B:((Arr.get nD m.kind.toNat ⟨#[]⟩).toList.length:Int)=((Arr.get nD m.kind.toNat ⟨#[]⟩).size:Int):=by rw[yV]
 have M:=WP m.kind;have H:=wP (body:=EK m nums) (Arr.get nD m.kind.toNat ⟨#[]⟩).toList 0 (λ i (w:aL)=>((i:Int),w)) (λ _ b w=>n8 m ((b.toNat:Nat):Int) w) (λ w=>.inl w)
  (λ i w hi=>by
   unfold EK;have O:0<=(i:Int)/\(i:Int)<((Arr.get nD m.kind.toNat ⟨#[]⟩).size:Int):=om
   simp only[O.1,O.2,U,Y,cX,mL,cF,cH,Qm];rw[mF i om];obtain⟨c,F⟩:∃c,((((Arr.get nD m.kind.toNat ⟨#[]⟩).toList.getD i 0).toNat:Nat):Int)=c:=⟨_,rfl⟩;simp only[F];unfold n8;split
   .cases oM ((oA c nums).getD bM.zero).of with
    |none=>rfl
    |some k=>simp only[qm];split<;>rfl
   .cases uO m c with
    |none=>rfl
    |some v=>
     simp only[qm];split
     .rfl
     .cases A4 c w<;>rfl)
  (λ w=>by unfold EK;rw[B,bX (by simp)]) w
 rw[show((0,w):Int×aL)=(λ(i:Nat) (w:aL)=>((i:Int),w)) 0 w from rfl,H]
def Py(a:aC):Bl a=oO a:=by
 unfold Bl oO pR rB sQ
 by_cases h:a.mode=0<;>simp[h]
def optL(l:List aO)(i:Nat):Bool:=nY (l.getD i aO.zero).name&&((decide (i=0)||decide (ltN (l.getD (i-1) aO.zero).name (l.getD i aO.zero).name))&&(decide ((l.getD i aO.zero).aJ=aC.zero)||oO (l.getD i aO.zero).aJ))
def optV(a:aP):Bool:=(mP a.aM&&(decide (a.label=-1)||(decide (1<=a.label)&&decide (a.label<=99))))&&((decide (1<=a.cost)&&(decide (a.cost<=1073741824)&&decide (a.lower.length<=8)))&&(List.range a.lower.length).all (optL a.lower))
def LU(a:aP):a8 a=some (optV a):=by
 unfold a8 optV;cases c1:mP a.aM with
 |false=>rw[cB (by simp)];rfl
 |true=>
  by_cases c2:a.label=-1\/1<=a.label/\a.label<=99
  .rw[bX (by simp;omega)];have H:(decide (a.label=-1)||(decide (1<=a.label)&&decide (a.label<=99)))=true:=by simpa using c2
   rw[H]
   by_cases O:1<=a.cost/\a.cost<=1073741824/\a.lower.length<=8
   .rw[bX (by simp;omega),vX a.lower.length (optL a.lower) (λ i hi=>by
     unfold JT optL;have Y:0<=(i:Int)/\(i:Int)<(a.lower.length:Int):=om
     simp only[Y.1,Y.2,cX,mL,cF,cH,lF];rw[mB (x:=(i:Int)+1) om om,HN,eF];obtain⟨x,hx⟩:∃x,a.lower.getD i aO.zero=x:=⟨_,rfl⟩;simp only[hx,Py]
     by_cases B:i=0
     .subst B;rw[mD (by simp)];rcases hb (nY x.name)with b1|b1<;>rcases hb (oO x.aJ)with b2|b2<;>by_cases U:x.aJ=aC.zero<;>simp[b1,b2,U]
     .rw[l6 i om om,mD (by intro _;omega)];simp only[show(0:Int)<(i:Int)by omega,cF,cN,lF,B,cP,dT];unfold ltN;rcases hb (nY x.name)with b1|b1<;>rcases hb (Op.bytesLess (a.lower.getD (i-1) aO.zero).name.toList x.name.toList)with b4|b4<;>rcases hb (oO x.aJ)with b2|b2<;>by_cases U:x.aJ=aC.zero<;>simp[b1,b2,U,b4,-List.getD_eq_getElem?_getD]) (by unfold JT;simp),eF]
    rw[cQ O.1,cQ O.2.1,cQ O.2.2];cases(List.range a.lower.length).all (optL a.lower)<;>rfl
   .rw[cB (by simp;omega)];have:(decide (1<=a.cost)&&(decide (a.cost<=1073741824)&&decide (a.lower.length<=8)))=false:=by
     rw[dJ];intro h;simp at h;omega
    rw[this];rfl
  .rw[cB (by simp;omega)];have H:(decide (a.label=-1)||(decide (1<=a.label)&&decide (a.label<=99)))=false:=by
    rw[dJ];intro h;simp at h;omega
   rw[H];rfl
def WQ{x y:List UInt8}(h:Op.bytesLess x y=true):Op.bytesLess y x=false:=by rw[dJ];intro k;have:=OS h k;rw[Lp]at this;cases this
def cP7(x y:ByteArray):(Op.bytesLess y.toList x.toList||y.toList==x.toList)=!Op.bytesLess x.toList y.toList:=by
 by_cases e:x=y
 .subst e;simp[Lp]
 .have H:¬y.toList=x.toList:=λ k=>e (zL.1 k).symm;rcases WK (x:=x.toList) (y:=y.toList) (λ k=>H k.symm)with k|k
  .rw[k,WQ k];simp[H]
  .rw[k,WQ k];rfl
def WR(a:aC):nX a=decide (a=aC.zero):=by
 unfold nX;obtain⟨m,u⟩:=a;unfold aC.zero
 by_cases h:m=0<;>by_cases k:u=0<;>simp[h,k]
def Pz(a:aP):d5 a=some (optV a):=by
 unfold d5 optV;rw[wQ]
 by_cases c:(mP a.aM=true/\(a.label=-1\/1<=a.label/\a.label<=99))/\(1<=a.cost/\a.cost<=1073741824/\a.lower.length<=8)
 .obtain⟨⟨U,c2⟩,H⟩:=c;have F:(decide (a.label=-1)||(decide (1<=a.label)&&decide (a.label<=99)))=true:=by simpa using c2
  rw[bX (by simp[U];omega),vX a.lower.length (optL a.lower) (λ i hi=>by
   unfold Kf optL;have Y:0<=(i:Int)/\(i:Int)<(a.lower.length:Int):=om
   simp only[Y.1,Y.2,cX,mL,cF,cH,lF];rw[mB (x:=(i:Int)+1) om om,E5,eF];obtain⟨x,hx⟩:∃x,a.lower.getD i aO.zero=x:=⟨_,rfl⟩;simp only[hx,WR,cP7];rw[show pR x.aJ=oO x.aJ from rfl]
   by_cases B:i=0
   .subst B;rw[mD (by simp)];rcases hb (nY x.name)with b1|b1<;>rcases hb (oO x.aJ)with b2|b2<;>by_cases O:x.aJ=aC.zero<;>simp[b1,b2,O]
   .rw[l6 i om om,mD (by intro _;omega)];simp only[show(0:Int)<(i:Int)by omega,cF,cN,lF,B,cP,dT];unfold ltN;rcases hb (nY x.name)with b1|b1<;>rcases hb (Op.bytesLess (a.lower.getD (i-1) aO.zero).name.toList x.name.toList)with b4|b4<;>rcases hb (oO x.aJ)with b2|b2<;>by_cases O:x.aJ=aC.zero<;>simp[b1,b2,O,b4,-List.getD_eq_getElem?_getD]) (by unfold Kf;simp),eF]
  rw[U,F,cQ H.1,cQ H.2.1,cQ H.2.2];cases(List.range a.lower.length).all (optL a.lower)<;>rfl
 .rw[cB (by
   rcases hb (mP a.aM)with b|b
   .simp[b]at c⊢;omega
   .simp[b])]
  symm
  congr 1;rw[dJ];intro h;simp only[bY,dS,cC]at h;exact c ⟨⟨h.1.1,h.1.2⟩,h.2.1⟩
def inN(lo hi x:Int):Bool:=decide (lo<=x)&&decide (x<=hi)
def pV(m:aL)(c:Nat):Bool:=match c with
 |80=>mP m.aM
 |71=>inN 0 1073741824 m.gen
 |82=>inN 0 1073741824 m.round
 |69=>inN 0 1073741824 m.epoch
 |89=>inN 0 7 m.bC
 |83=>inN 0 3 m.site
 |73=>inN 1 99 m.inc
 |66=>inN (-1) 99 m.label&&!decide (m.label=0)
 |65=>nY m.aZ.name&&oO m.aZ.aJ
 |97=>nY m.aZ.name&&(decide (m.aZ.aJ=aC.zero)||oO m.aZ.aJ)
 |78=>decide (m.state.aF.length=0)&&nZ m.state
 |76=>decide (m.state.aY.length=0)&&nZ m.state
 |79=>decide (m.options.length<=40)&&m.options.all optV
 |_=>true
def clrF(c:Nat)(w:aL):aL:=match c with
 |80=>{w with aM:=aK.zero}
 |71=>{w with gen:=0}
 |82=>{w with round:=0}
 |69=>{w with epoch:=0}
 |89=>{w with bC:=0}
 |83=>{w with site:=0}
 |73=>{w with inc:=0}
 |66=>{w with label:=0}
 |65=>{w with aZ:=aO.zero}
 |97=>{w with aZ:=aO.zero}
 |68=>{w with done:=false}
 |78=>{w with state:=aH.zero}
 |76=>{w with state:=aH.zero}
 |79=>{w with options:=[]}
 |_=>w
def uU:List Nat:=[80,71,82,69,89,83,73,66,65,97,68,78,76,79]
def CI(m w:aL)(c:Int)(n:bM)(k:Nat)(H:oA c nums=some n)(O:oM n.of=some k):
  n8 m c w=some (if(!(decide (nI m k<n.low)||decide (n.high<nI m k)||(decide (c=66)&&decide (nI m k=0))))=true then .inl (sP w k 0)else .inr (.inr false)):=by
 unfold n8;rw[H];simp only[Option.isSome_some,cH,Xm,O,qm];cases(decide (nI m k<n.low)||decide (n.high<nI m k)||(decide (c=66)&&decide (nI m k=0)))<;>rfl
def CJ(m w:aL)(c:Int)(b:Bool)(w':aL)(H:oA c nums=none)(O:uO m c=some b)(U:A4 c w=some w'):
  n8 m c w=some (if b=true then .inl w' else .inr (.inr false)):=by
 unfold n8;rw[H];simp only[oc,bZ,cI,O,U,qm];cases b<;>rfl
def CK(lo hi x:Int)(d:Bool):(!(decide (x<lo)||decide (hi<x)||d))=(inN lo hi x&&!d):=by unfold inN;rw[dR];cases d<;>simp
def PA{α:Type}(l:List α)(z:α)(p:α->Bool):((List.range l.length).all λ i=>p (l.getD i z))=l.all p:=by
 rw[dR,dQ,dQ];constructor
 .intro h x hx;obtain⟨i,hi,rfl⟩:=gJ hx;have:=h i (eH.2 hi);rwa [IX _ _ _ hi]at this
 .intro h i hi;exact h _ (mS (eH.1 hi))
def cPg(m:aL):uO m 79=some (decide (m.options.length<=40)&&m.options.all optV):=by
 unfold uO;rw[bX Om,bX Om,bX Om,bX Om,bX Om,cB Om]
 by_cases h:m.options.length<=40
 .rw[bX (by simp;omega),vX m.options.length (λ i=>optV (m.options.getD i aP.zero)) (λ i hi=>by
   unfold KE;have H:0<=(i:Int)/\(i:Int)<(m.options.length:Int):=om
   simp only[H.1,H.2,cX,mL,cF,cH,lF];rw[LU,eF,mB om om];cases optV (m.options.getD i aP.zero)<;>rfl) (by unfold KE;simp),eF,PA m.options aP.zero optV,cQ h]
  cases m.options.all optV<;>rfl
 .rw[cB (by simp;omega),fC h];rfl
def cPh(m w:aL)(c:Nat)(H:c∈uU):n8 m (c:Int) w=some (if pV m c=true then .inl (clrF c w)else .inr (.inr false)):=by
 unfold uU at H;simp only[cL,eX,iI]at H;rcases H with rfl|rfl|rfl|rfl|rfl|rfl|rfl|rfl|rfl|rfl|rfl|rfl|rfl|rfl
 .exact CJ m w 80 _ _ rfl rfl rfl
 .rw[CI m w _ ⟨64,0,1073741824,0⟩ 0 rfl rfl,CK];simp[pV,clrF,nI,sP]
 .rw[CI m w _ ⟨65,0,1073741824,0⟩ 1 rfl rfl,CK];simp[pV,clrF,nI,sP]
 .rw[CI m w _ ⟨66,0,1073741824,0⟩ 2 rfl rfl,CK];simp[pV,clrF,nI,sP]
 .rw[CI m w _ ⟨67,0,7,0⟩ 3 rfl rfl,CK];simp[pV,clrF,nI,sP]
 .rw[CI m w _ ⟨68,0,3,0⟩ 4 rfl rfl,CK];simp[pV,clrF,nI,sP]
 .rw[CI m w _ ⟨69,1,99,0⟩ 5 rfl rfl,CK];simp[pV,clrF,nI,sP]
 .rw[CI m w _ ⟨70,-1,99,1⟩ 6 rfl rfl,CK];simp[pV,clrF,nI,sP]
 .refine CJ m w 65 _ _ rfl ?_ rfl;unfold uO;rw[bX Om,cB Om,HN,eF,Py];rfl
 .refine CJ m w 97 _ _ rfl ?_ rfl;unfold uO;rw[bX Om,bX Om,cB Om,HN,eF,Py];rfl
 .exact CJ m w 68 _ _ rfl rfl rfl
 .refine CJ m w 78 _ _ rfl ?_ rfl;unfold uO;rw[bX Om,bX Om,bX Om,cB Om]
  by_cases h:m.state.aF.length=0
  .rw[cB (by simp[h]),Lv,eF];simp[pV,h]
  .rw[bX (by simp[h]),eF];simp[pV,h]
 .refine CJ m w 76 _ _ rfl ?_ rfl;unfold uO;rw[bX Om,bX Om,bX Om,bX Om,cB Om]
  by_cases h:m.state.aY.length=0
  .rw[cB (by simp[h]),Lv,eF];simp[pV,h]
  .rw[bX (by simp[h]),eF];simp[pV,h]
 .exact CJ m w 79 _ _ rfl (cPg m) rfl
def WS(m:aL):∀(l:List UInt8) (i:Nat) (w:aL),(∀b∈l,b.toNat∈uU)->walk (λ _ b w=>n8 m ((b.toNat:Nat):Int) w) (λ w=>Sum.inl (β:=Bool) w) l i w=some (if(l.all λ b=>pV m b.toNat)=true then .inl (l.foldl (λ w b=>clrF b.toNat w) w)else .inr false)
 |[],i,w,_=>rfl
 |b::l,i,w,h=>by
  simp only[walk];rw[cPh m w _ (h b (.head _))];cases hf:pV m b.toNat with
  |false=>simp[hf]
  |true=>simp only[cH];rw[WS m l (i+1) _ λ x hx=>h x (.tail _ hx)];simp[hf]
def nE(k:Int):List UInt8:=(Arr.get nD k.toNat ⟨#[]⟩).toList
def WT{k:Int}(h:k<16):∀b∈nE k,b.toNat∈uU:=by
 have g:∀i:Nat,i<16->∀b∈(Arr.get nD i ⟨#[]⟩).data.toList,b.toNat∈uU:=by decide
 unfold nE;rw[lG];exact g k.toNat om
def tF(m:aL):Bool:=(decide (1<=m.kind)&&decide (m.kind<=15))&&(((nE m.kind).all λ b=>pV m b.toNat)&&Fq ((nE m.kind).foldl (λ w b=>clrF b.toNat w) {m with kind:=0}))
def cPl(m:aL):EL m=some (tF m):=by
 unfold EL tF Dj
 by_cases h:1<=m.kind/\m.kind<=15
 .rw[bX (by simp;omega),CG,eF,mD om,cP3 m om om,WS m (Arr.get nD m.kind.toNat ⟨#[]⟩).toList 0 _ (WT (k:=m.kind) om),eF];rw[cQ h.1,cQ h.2];cases hf:(nE m.kind).all λ b=>pV m b.toNat with
  |false=>rw[show((Arr.get nD m.kind.toNat ⟨#[]⟩).toList.all λ b=>pV m b.toNat)=false from hf];rfl
  |true=>rw[show((Arr.get nD m.kind.toNat ⟨#[]⟩).toList.all λ b=>pV m b.toNat)=true from hf];simp only[cH,KW,cOn,qm,cN];rfl
 .rw[cB (by simp;omega)];have:(decide (1<=m.kind)&&decide (m.kind<=15))=false:=by rw[dJ];intro k;simp at k;omega
  rw[this];rfl
def oS{l:List Int}{x:Int}(h:okI x)(O:room l (encI x)):pH l (IntKind.u64.wrap x)=some (l++encI x)/\pQ l (IntKind.u64.wrap x)=some (l++encI x):=by unfold room at O;obtain⟨H,U⟩:=h;rw[yU x H om];have:x=((x.toNat:Nat):Int):=(iN H).symm;unfold encI;rw[this,lF];exact⟨V3 om om,V1 om om⟩
def LV{l:List Int}{s:ByteArray}(h:s.size<=1024)(H:room l (encT s)):Bn l s=some (l++encT s)/\DG l s=some (l++encT s):=LQ h H
def LW{l:List Int}{p:aK}(h:mP p=true)(O:room l (encP p)):y5 l p=some (l++encP p)/\Bp l p=some (l++encP p):=by
 obtain⟨Y,B,F⟩:=Ib h;unfold encP at O⊢;have M:=O.left.left;have r2:=O.left.right;have U:=O.right;rw[<-cG]at U;constructor
 .unfold y5;have t1:∀H:List Int,room H (encI p.site)->xW p (0,H)=some (.inl (1,H++encI p.site)):=λ H ha=>by
   unfold xW;rw[cB (by simp),gdp (by simp)];show((pH H (IntKind.u64.wrap p.site)).bind λ v1=>some (Sum.inl (IntKind.i64.wrap (0+1),v1)))=_;rw[(oS Y ha).1];rfl
  have t2:∀H:List Int,room H (encI p.inc)->xW p (1,H)=some (.inl (2,H++encI p.inc)):=λ H ha=>by unfold xW;rw[cB (by simp),gdp (by simp)];show((pH H (IntKind.u64.wrap p.inc)).bind λ v1=>some (Sum.inl (IntKind.i64.wrap (1+1),v1)))=_;rw[(oS B ha).1];rfl
  have t3:∀H:List Int,room H (encI p.num)->xW p (2,H)=some (.inl (3,H++encI p.num)):=λ H ha=>by unfold xW;rw[cB (by simp),gdp (by simp)];show((pH H (IntKind.u64.wrap p.num)).bind λ v1=>some (Sum.inl (IntKind.i64.wrap (2+1),v1)))=_;rw[(oS F ha).1];rfl
  have t4:∀H:List Int,xW p (3,H)=some (.inr H):=λ H=>by unfold xW;rw[bX (by simp)]
  have hlen:l.length<=4294967296:=by unfold room at O;omega
  rw[gdp hlen,bX (by simp[h]),mJ,t1 l M];simp only;rw[mJ,t2 _ r2];simp only;rw[mJ,t3 _ U];simp only;rw[mJ,t4];simp only[cG];rfl
 .unfold Bp;rw[wQ,bX (by simp[h]),(yX Y M).2,eF,(yX B r2).2,eF,(oS F U).2];simp only[cG];rfl
def Fr{α:Type}{body:Int×List Int->Option ((Int×List Int)⊕List Int)}{enc:α->List Int}{ok:α->Prop}(l:List α)(z:α)(hlen:l.length<=1000)
  (Y:∀(i:Nat) acc,i<l.length->ok (l.getD i z)->room acc (enc (l.getD i z))->body ((i:Int),acc)=some (.inl (((i+1:Nat):Int),acc++enc (l.getD i z))))
  (B:∀acc,body ((l.length:Int),acc)=some (.inr acc)) (O:∀x∈l,ok x) (acc:List Int) (F:room acc (l.flatMap enc)):lY body (0,acc)=some (acc++l.flatMap enc):=by
 have U:∀k i (acc:List Int),i+k=l.length->room acc ((l.drop i).flatMap enc)->lY body ((i:Int),acc)=some (acc++(l.drop i).flatMap enc):=by
  intro k;induction k with
  |zero=>
   intro i acc hi _;have:i=l.length:=om
   subst this;rw[mJ,iO,B];simp
  |succ k M=>
   intro i acc hi H;have hlt:i<l.length:=om
   rw[l5 l i z hlt]at H⊢;rw[eQ]at H⊢;rw[mJ,Y i acc hlt (O _ (mS (z:=z) hlt)) H.left];simp only;rw[M (i+1) _ om H.right,cG]
 exact U l.length 0 acc om F
def encL(x:aO):List Int:=encT x.name++(encI x.aJ.mode++encI x.aJ.aU)
def encO(a:aP):List Int:=encP a.aM++(encI (a.label+1)++(encI a.cost++(encI (a.lower.length:Int)++a.lower.flatMap encL)))
def okL'(x:aO):Prop:=x.name.size<=12/\okA x.aJ
structure OkO (a:aP):Prop where
 p:mP a.aM=true
 l:-1<=a.label/\a.label<=99
 c:okI a.cost
 n:a.lower.length<=8
 e:∀x∈a.lower,okL' x
def Io{a:aP}(h:optV a=true):OkO a:=by
 unfold optV at h;simp only[bY,dS,cC]at h;obtain⟨⟨H,B⟩,⟨F,O,U⟩,Y⟩:=h;refine⟨H,by omega,⟨by omega,O⟩,U,λ x hx=>?_⟩;obtain⟨i,hi,rfl⟩:=gJ hx;have:=dQ.1 Y i (eH.2 hi);unfold optL at this;rw[IX _ _ _ hi]at this;simp only[bY,dS,cC]at this;refine⟨wX this.1,?_⟩;rcases this.2.2 with k|k
 .rw[k];unfold okA okI aC.zero;simp
 .exact yW k
def cPq{x:aO}(h:okL' x):(encL x).length<=2000:=by have H:=Ie (s:=x.name) (by have:=h.1;omega);have O:=nU h.2.1;have U:=nU h.2.2;unfold encL;simp only[cA];omega
def PB{a:aP}(h:OkO a):(encO a).length<=20000:=by have H:=AF h.p;have O:=nU (x:=a.label+1) (by have:=h.l;unfold okI;omega);have U:=nU h.c;have Y:=nU (x:=(a.lower.length:Int)) (by have:=h.n;unfold okI;omega);have B:(a.lower.flatMap encL).length<=2000*a.lower.length:=vT λ x hx=>cPq (h.e x hx);have F:=h.n;unfold encO;simp only[cA];omega
def WU{a:aP}(h:optV a=true){l:List Int}(H:room l (encO a)):BI l a=some (l++encO a)/\BS l a=some (l++encO a):=by
 have O:=Io h;have hl:=O.l;have hn:=O.n;have h0:room l (encO a):=H;have hlen:l.length<=4294967296:=by unfold room at H;omega
 have Y:okI (a.label+1):=by unfold okI;omega
 have B:okI (a.lower.length:Int):=by unfold okI;omega
 unfold encO at H⊢;have w:IntKind.i64.wrap (a.label+1)=a.label+1:=mB om om;have F:=H.left
 replace H:=H.right
 have M:=H.left
 replace H:=H.right
 have r3:=H.left
 replace H:=H.right
 have r4:=H.left
 replace H:=H.right
 constructor
 .unfold BI Dq;rw[gdp hlen,eF,LU,eF,h,bX Om,(LW O.p F).1,eF,w,(oS Y M).1,eF,(oS O.c r3).1,eF,(oS B r4).1,eF];rw[Fr (body:=GP a) (enc:=encL) (ok:=okL') a.lower aO.zero om (λ i U hi hx ha=>by
   unfold encL at ha⊢;unfold GP;simp only;rw[cB (by simpa using hi),gdp om];simp only[lF];rw[(LV (by have:=hx.1;omega) ha.left).1,eF,(oS hx.2.1 ha.right.left).1,eF,(oS hx.2.2 ha.right.right).1,eF,mF i om];simp only[cG]) (λ U=>by unfold GP;simp) O.e _ H,eF]
  unfold NF;simp only[cG]
 .unfold BS;rw[gdp hlen,Pz,eF,h,bX Om,(LW O.p F).2,eF,w,(oS Y M).2,eF,(oS O.c r3).2,eF,(oS B r4).2,eF];rw[Fr (body:=G2 a) (enc:=encL) (ok:=okL') a.lower aO.zero om (λ i U hi hx ha=>by
   unfold encL at ha⊢;unfold G2;simp only;rw[cB (by simpa using hi),gdp om];simp only[lF];rw[(LV (by have:=hx.1;omega) ha.left).2,eF,(oS hx.2.1 ha.right.left).2,eF,(oS hx.2.2 ha.right.right).2,eF,mF i om];simp only[cG]) (λ U=>by unfold G2;simp) O.e _ H,eF]
  unfold NL;simp only[cG]
def encF(m:aL)(c:Nat):List Int:=match c with
 |80=>encP m.aM
 |71=>encI m.gen
 |82=>encI m.round
 |69=>encI m.epoch
 |89=>encI m.bC
 |83=>encI m.site
 |73=>encI m.inc
 |66=>encI (m.label+1)
 |65=>encT m.aZ.name++(encI m.aZ.aJ.mode++encI m.aZ.aJ.aU)
 |97=>encT m.aZ.name++(encI m.aZ.aJ.mode++encI m.aZ.aJ.aU)
 |68=>[if m.done=true then 1 else 0]
 |78=>encI ((encS m.state).length:Int)++encS m.state
 |76=>encI ((encS m.state).length:Int)++encS m.state
 |79=>encI (m.options.length:Int)++m.options.flatMap encO
 |_=>[]
def LX{lo hi x:Int}:inN lo hi x=true↔lo<=x/\x<=hi:=by unfold inN;simp
def tU{lo hi x:Int}(h:inN lo hi x=true)(H:0<=lo)(O:hi<=1073741824):okI x:=by have:=LX.1 h;unfold okI;omega
def PD{a:aC}(h:(decide (a=aC.zero)||oO a)=true):okA a:=by
 rw[dS]at h;rcases h with k|k
 .rw[gH k];unfold okA okI aC.zero;simp
 .exact yW k
def cPw{m:aL}{c:Nat}(F:c∈uU)(H:pV m c=true):(encF m c).length<=1000000:=by
 have O:∀{lo hi x:Int},inN lo hi x=true->0<=lo->hi<=1073741824->(encI x).length<=1000000:=λ h h0 U=>by have:=nU (tU h h0 U);omega
 have Y:m.aZ.name.size<=12->okA m.aZ.aJ->(encT m.aZ.name++(encI m.aZ.aJ.mode++encI m.aZ.aJ.aU)).length<=1000000:=λ h k=>by have U:=Ie (s:=m.aZ.name) om;have M:=nU k.1;have h3:=nU k.2;simp only[cA];omega
 have B:nZ m.state=true->(encI ((encS m.state).length:Int)++encS m.state).length<=1000000:=λ h=>by have U:=Cw (AE h).1;have M:=nU (x:=((encS m.state).length:Int)) (by unfold okI;omega);simp only[cA];omega
 unfold uU at F;simp only[cL,eX,iI]at F;rcases F with rfl|rfl|rfl|rfl|rfl|rfl|rfl|rfl|rfl|rfl|rfl|rfl|rfl|rfl
 .have:=AF (p:=m.aM) H;show(encP m.aM).length<=_;omega
 .exact O H Om Om
 .exact O H Om Om
 .exact O H Om Om
 .exact O H Om Om
 .exact O H Om Om
 .exact O H Om Om
 .have h:(inN (-1) 99 m.label&&!decide (m.label=0))=true:=H;rw[bY]at h;have U:=LX.1 h.1;have:=nU (x:=m.label+1) (by unfold okI;omega);show(encI (m.label+1)).length<=_;omega
 .have h:(nY m.aZ.name&&oO m.aZ.aJ)=true:=H;rw[bY]at h;exact Y (wX h.1) (yW h.2)
 .have h:(nY m.aZ.name&&(decide (m.aZ.aJ=aC.zero)||oO m.aZ.aJ))=true:=H;rw[bY]at h;exact Y (wX h.1) (PD h.2)
 .show([if m.done=true then 1 else 0]:List Int).length<=_;simp
 .have h:(decide (m.state.aF.length=0)&&nZ m.state)=true:=H;rw[bY]at h;exact B h.2
 .have h:(decide (m.state.aY.length=0)&&nZ m.state)=true:=H;rw[bY]at h;exact B h.2
 .have h:(decide (m.options.length<=40)&&m.options.all optV)=true:=H;rw[bY,cC,dQ]at h;have U:(m.options.flatMap encO).length<=20000*m.options.length:=vT λ x hx=>PB (Io (h.2 x hx));have M:=nU (x:=(m.options.length:Int)) (by have:=h.1;unfold okI;omega);show(encI (m.options.length:Int)++m.options.flatMap encO).length<=_;have:=h.1;simp only[cA];omega
noncomputable def Fs(m:aL)(c:Int)(acc:List Int):Option (List Int):=if(oA c nums).isSome=true then(oM ((oA c nums).getD bM.zero).of).bind λ v3=>pH acc (IntKind.u64.wrap (IntKind.i64.wrap ((nI m v3)+((oA c nums).getD bM.zero).plus)))else vI m c acc
def CL(m:aL)(c:Int)(acc:List Int)(n:bM)(k:Nat)(O:oA c nums=some n)(U:oM n.of=some k)(H:okI (nI m k+n.plus))(Y:room acc (encI (nI m k+n.plus))):
  Fs m c acc=some (acc++encI (nI m k+n.plus)):=by
 unfold Fs;rw[O];simp only[Option.isSome_some,cH,Xm,U,qm];rw[mB (by have:=H.1;omega) (by have:=H.2;omega),(oS H Y).1]
def CM(m:aL)(c:Int)(acc:List Int)(H:oA c nums=none):Fs m c acc=vI m c acc:=by unfold Fs;rw[H];rfl
def cQ0(m:aL)(c:Nat)(acc:List Int)(F:c∈uU)(O:pV m c=true)(H:room acc (encF m c)):Fs m (c:Int) acc=some (acc++encF m c):=by
 have U:m.aZ.name.size<=12->okA m.aZ.aJ->room acc (encT m.aZ.name++(encI m.aZ.aJ.mode++encI m.aZ.aJ.aU))->
   ((Bn acc m.aZ.name).bind λ v2=>(pH v2 (IntKind.u64.wrap m.aZ.aJ.mode)).bind λ v3=>(pH v3 (IntKind.u64.wrap m.aZ.aJ.aU)).bind λ v4=>some v4)=some (acc++(encT m.aZ.name++(encI m.aZ.aJ.mode++encI m.aZ.aJ.aU))):=λ h k H=>by
  rw[(LV om H.left).1,eF,(oS k.1 H.right.left).1,eF,(oS k.2 H.right.right).1,eF];simp only[cG]
 have Y:nZ m.state=true->room acc (encI ((encS m.state).length:Int)++encS m.state)->
   ((BZ m.state).bind λ v5=>(pH acc (IntKind.u64.wrap (v5.1.length:Int))).bind λ v6=>gd (v6.length+v5.1.length<=4294967296)<|some (v6++v5.1))=some (acc++(encI ((encS m.state).length:Int)++encS m.state)):=λ h H=>by
  have M:=Cw (AE h).1;rw[cOz,h,cB rfl,eF,(oS (by unfold okI;omega) H.left).1,eF];have:=H.right;unfold room at this;rw[gdp (by simp only;omega),cG]
 unfold uU at F;simp only[cL,eX,iI]at F;rcases F with rfl|rfl|rfl|rfl|rfl|rfl|rfl|rfl|rfl|rfl|rfl|rfl|rfl|rfl
 .rw[CM m _ acc rfl];unfold vI;rw[cB Om,(LW (p:=m.aM) O H).1];rfl
 .have e:=CL m 71 acc ⟨64,0,1073741824,0⟩ 0 rfl rfl;simp only[nI,iR]at e;exact e (tU (lo:=0) (hi:=1073741824) O Om Om) H
 .have e:=CL m 82 acc ⟨65,0,1073741824,0⟩ 1 rfl rfl;simp only[nI,iR]at e;exact e (tU (lo:=0) (hi:=1073741824) O Om Om) H
 .have e:=CL m 69 acc ⟨66,0,1073741824,0⟩ 2 rfl rfl;simp only[nI,iR]at e;exact e (tU (lo:=0) (hi:=1073741824) O Om Om) H
 .have e:=CL m 89 acc ⟨67,0,7,0⟩ 3 rfl rfl;simp only[nI,iR]at e;exact e (tU (lo:=0) (hi:=7) O Om Om) H
 .have e:=CL m 83 acc ⟨68,0,3,0⟩ 4 rfl rfl;simp only[nI,iR]at e;exact e (tU (lo:=0) (hi:=3) O Om Om) H
 .have e:=CL m 73 acc ⟨69,1,99,0⟩ 5 rfl rfl;simp only[nI,iR]at e;exact e (tU (lo:=1) (hi:=99) O Om Om) H
 .have h:(inN (-1) 99 m.label&&!decide (m.label=0))=true:=O;rw[bY]at h;have M:=LX.1 h.1;exact CL m 66 acc ⟨70,-1,99,1⟩ 6 rfl rfl (by simp only[nI];unfold okI;omega) H
 .have h:(nY m.aZ.name&&oO m.aZ.aJ)=true:=O;rw[bY]at h;rw[CM m _ acc rfl];unfold vI yD;rw[bX Om,cB Om,cB Om];exact U (wX h.1) (yW h.2) H
 .have h:(nY m.aZ.name&&(decide (m.aZ.aJ=aC.zero)||oO m.aZ.aJ))=true:=O;rw[bY]at h;rw[CM m _ acc rfl];unfold vI yD;rw[bX Om,bX Om,cB Om];exact U (wX h.1) (PD h.2) H
 .rw[CM m _ acc rfl];unfold vI yD;rw[bX Om,bX Om,bX Om,cB Om];have hl:acc.length+1<=4294967296:=by unfold room at H;omega
  show _=some (acc++[if m.done=true then 1 else 0]);cases m.done with
  |true=>rw[cB rfl,gdp hl];rfl
  |false=>rw[bX Om,gdp hl];rfl
 .have h:(decide (m.state.aF.length=0)&&nZ m.state)=true:=O;rw[bY]at h;rw[CM m _ acc rfl];unfold vI yD B1;rw[bX Om,bX Om,bX Om,bX Om,cB Om,cB Om];exact Y h.2 H
 .have h:(decide (m.state.aY.length=0)&&nZ m.state)=true:=O;rw[bY]at h;rw[CM m _ acc rfl];unfold vI yD B1;rw[bX Om,bX Om,bX Om,bX Om,bX Om,cB Om];exact Y h.2 H
 .have h:(decide (m.options.length<=40)&&m.options.all optV)=true:=O;rw[bY,cC,dQ]at h;rw[CM m _ acc rfl];unfold vI yD B1;rw[bX Om,bX Om,bX Om,bX Om,bX Om,bX Om,cB Om];have B:room acc (encI (m.options.length:Int)++m.options.flatMap encO):=H;have h0:=h.1;rw[(oS (by unfold okI;omega) B.left).1,eF];rw[Fr (body:=He m) (enc:=encO) (ok:=λ a=>optV a=true) m.options aP.zero om (λ i acc hi hx ha=>by
   unfold He;simp only;rw[cB (by simpa using hi),gdp om];simp only[lF];rw[(WU hx ha).1,eF,mF i om]) (λ acc=>by unfold He;simp) h.2 _ B.right,eF]
  unfold KH;rw[cG];rfl
def encM(m:aL):List Int:=encI m.kind++(nE m.kind).flatMap λ b=>encF m b.toNat
def PE(k:Int):(nE k).length<=5:=by unfold nE;rw[yV];exact WP k
def PF{m:aL}(h:tF m=true):(1<=m.kind/\m.kind<=15)/\∀b∈nE m.kind,b.toNat∈uU/\pV m b.toNat=true:=by unfold tF at h;simp only[bY,cC,dQ]at h;exact⟨h.1,λ b hb=>⟨WT om b hb,h.2.1 b hb⟩⟩
def cQ3{m:aL}(h:tF m=true):room (encI m.kind) ((nE m.kind).flatMap λ b=>encF m b.toNat):=by obtain⟨O,H⟩:=PF h;have U:=nU (x:=m.kind) (by unfold okI;omega);have Y:((nE m.kind).flatMap λ b=>encF m b.toNat).length<=1000000*(nE m.kind).length:=vT λ b hb=>cPw (H b hb).1 (H b hb).2;have B:=PE m.kind;unfold room;omega
def PG{m:aL}(h:tF m=true):B2 m=some (encM m):=by
 obtain⟨h1,F⟩:=PF h;have M:=cQ3 h;have U:room [] (encI m.kind):=by unfold room at*;simp;omega
 have h5:=PE m.kind;unfold B2;rw[CG,eF,(oS (by unfold okI;omega) U).1,eF,mD om,lJ];have H:((nE m.kind).length:Int)=((Arr.get nD m.kind.toNat ⟨#[]⟩).size:Int):=by unfold nE;rw[yV]
 rw[Fr (body:=Hf m nums) (enc:=λ b:UInt8=>encF m b.toNat) (ok:=λ b=>b.toNat∈uU/\pV m b.toNat=true) (nE m.kind) 0 om (λ i O hi hx ha=>by
  unfold Hf;have Y:0<=(i:Int)/\(i:Int)<((Arr.get nD m.kind.toNat ⟨#[]⟩).size:Int):=om
  have B:0<=m.kind/\m.kind<16:=om
  simp only[Y.1,Y.2,B.1,B.2,cX,mL,cF,cH,lF];rw[mF i om];have hg:(Arr.get nD m.kind.toNat ⟨#[]⟩).toList=nE m.kind:=rfl;have e:=cQ0 m _ O hx.1 hx.2 ha;rw[hg];unfold Fs at e;split at e
  .rename_i H;rw[cB H];cases hn:oM ((oA (((nE m.kind).getD i 0).toNat:Int) nums).getD bM.zero).of with
   |none=>rw[hn]at e;cases e
   |some k=>rw[hn,eF]at e;rw[eF,e];rfl
  .rename_i H;rw[bX H,e];rfl) (λ O=>by unfold Hf;rw[H,bX (by simp)]) F _ M]
 rfl
def rH(m:aL):Bool:=tF m&&decide (((encM m).length:Int)<=4064)
def Ip(m:aL):Cd m=some (rH m):=by
 unfold Cd rH;rw[cPl,eF];cases h:tF m with
 |false=>rfl
 |true=>rw[cB rfl,PG h];rfl
end Ab
end Go.Proofs.YtfmnjkfhahfhgaaGreatDoor
