import Derived.Test.YtdlfhmkmnjbihaaGreatDoorHeF
namespace Go.Proofs.YtdlfhmkmnjbihaaGreatDoor
namespace Ab
set_option linter.unusedVariables false
set_option linter.unusedSimpArgs false
theorem zcl8(a:List aO)(ha:a.length<=9223372036854775807):zd7 a a=some true:=by
 unfold zd7;rw[bN (by simp),zJ8 a.length (λ _=>true) (λ i hi=>by
  unfold zY3;have h3:0<=(i:Int)/\(i:Int)<(a.length:Int):=by omega
  simp only[h3.1,h3.2,cN,zl3,bU,bT,Int.toNat_natCast];rw[zk8 (by omega) (by omega)];rfl) (by unfold zY3;simp)]
 simp[zan0]
theorem zbP2(l:List bB)(hl:l.length<=1000000)(h:∀o∈l,o.lower.length<=9223372036854775807):zf4 l l=some true:=by
 unfold zf4;rw[bN (by simp),zJ8 l.length (λ _=>true) (λ i hi=>by
  unfold zR7 zp3;have h3:0<=(i:Int)/\(i:Int)<(l.length:Int):=by omega
  simp only[h3.1,h3.2,cN,zl3,bU,bT,Int.toNat_natCast,fT];rw[zcl8 _ (h _ (zm9 hi)),Option.bind_some,Option.bind_some,zk8 (by omega) (by omega)];rfl) (by unfold zR7;simp)]
 simp[zac5]
theorem zbd2(l:List bB):zf4 l []=some (decide (l=[])):=by
 cases l with
 |nil=>exact zbj1
 |cons a l=>unfold zf4;rw[bO (by simp;omega),fF (by simp)]
theorem zbI8(m w:aK)(v1 v2:Bool)(h1:zr0 m.state w.state=some v1)(h2:zf4 m.options w.options=some v2):zu7 m w=some (scal m w&&(v1&&v2)):=by unfold zu7;rw[h1,h2];show((if scal m w=true then some v1 else some false).bind λ v1=>(if(scal m w&&v1)=true then some v2 else some false).bind λ v2=>some ((scal m w&&v1)&&v2))=_;cases scal m w<;>cases v1<;>cases v2<;>rfl
theorem zcl9(m:aK):∀(l:List UInt8) (w:aK),(w.state=m.state\/w.state=aS.zero)->(w.options=m.options\/w.options=[])->
  ((l.foldl (λ w b=>cpF m b.toNat w) w).state=m.state\/(l.foldl (λ w b=>cpF m b.toNat w) w).state=aS.zero)/\((l.foldl (λ w b=>cpF m b.toNat w) w).options=m.options\/(l.foldl (λ w b=>cpF m b.toNat w) w).options=[])
 |[],w,h1,h2=>⟨h1,h2⟩
 |b::l,w,h1,h2=>by
  rw[List.foldl_cons];refine zcl9 m l _ ?_ ?_
  .unfold cpF;split<;>first|exact h1|exact .inl rfl
  .unfold cpF;split<;>first|exact h2|exact .inl rfl
structure FitM (m:aK):Prop where
 q:m.state.aG.length<=1000000
 s:Lens m.state.aG
 n:m.state.bA.length<=1000000
 w:∀n∈m.state.bA,widE n.bK=true
 o:m.options.length<=1000000
 l:∀o∈m.options,o.lower.length<=9223372036854775807
theorem zcY2{m:aK}(h:FitM m):∃b,zD5 m=some b:=by
 by_cases hk:1<=m.kind/\m.kind<=15
 .obtain⟨e1,e2⟩:=zcl9 m (zs9 m.kind) {aK.zero with kind:=m.kind} (.inr rfl) (.inr rfl);obtain⟨v1,h1⟩:∃v1,zr0 m.state ((zs9 m.kind).foldl (λ w b=>cpF m b.toNat w) {aK.zero with kind:=m.kind}).state=some v1:=by
   rcases e1 with e|e<;>rw[e]
   .exact⟨_,zcl2 m.state h.q h.s h.n h.w⟩
   .exact⟨_,zaT1 m.state h.q h.s⟩
  obtain⟨v2,h2⟩:∃v2,zf4 m.options ((zs9 m.kind).foldl (λ w b=>cpF m b.toNat w) {aK.zero with kind:=m.kind}).options=some v2:=by
   rcases e2 with e|e<;>rw[e]
   .exact⟨_,zbP2 m.options h.o h.l⟩
   .exact⟨_,zbd2 m.options⟩
  exact⟨_,zV9 m hk (zbI8 m _ v1 v2 h1 h2)⟩
 .have e:zs9 m.kind=[]:=by
   rw[zN6]
   repeat rw[bN (by omega)]
  have e2:((zb8 m.kind).toList==(⟨#[]⟩:ByteArray).toList)=true:=by
   have h0:(⟨#[]⟩:ByteArray).toList=[]:=by rw[ByteArray.toList_eq]
   rw[h0];show(zs9 m.kind==[])=true;rw[e];rfl
  unfold zD5;simp only[e2,cI,bP,bV,Option.bind_some,fV,bT];exact⟨_,rfl⟩
theorem zcP0(m:aK)(hk:kK m.kind)(hq:m.state.aG.length<=1000000)(hs:Lens m.state.aG):zD5 m=some (zaf3 m):=by
 obtain⟨kind,aI,gen,aW,aX,inc,round,epoch,site,label,done,state,options⟩:=m;simp only at hk hq hs;have s1:=zaT1 state hq hs;have s2:=zbd2 options;rcases hk with rfl|rfl|rfl
 .have e:zs9 1=[80,71,65,89]:=by rw[zN6];rfl
  have e2:zx2 1=[80,71,65,89]:=by unfold zx2;rw[ByteArray.toList_eq];rfl
  rw[zV9 _ (by simp only;omega) (zbI8 _ _ _ _ (by simp only[e];exact s1) (by simp only[e];exact s2))];unfold zaf3 zW2 encM zbS8;simp only[e,e2];congr 1;rw[cJ];simp only[bM,zaH2,zbf8,scal,List.foldl_cons,List.foldl_nil,List.all_cons,List.all_nil,dV,gH,bQ];simp[zap4,zK5,encR,encF,cpF,clrF,aK.zero]
  grind
 .have e:zs9 2=[80,71,65]:=by rw[zN6];rfl
  have e2:zx2 2=[80,71,97]:=by unfold zx2;rw[ByteArray.toList_eq];rfl
  rw[zV9 _ (by simp only;omega) (zbI8 _ _ _ _ (by simp only[e];exact s1) (by simp only[e];exact s2))];unfold zaf3 zW2 encM zbS8;simp only[e,e2];congr 1;rw[cJ];simp only[bM,zaH2,zbf8,scal,List.foldl_cons,List.foldl_nil,List.all_cons,List.all_nil,dV,gH,bQ];simp[zap4,zK5,encR,encF,cpF,clrF,aK.zero]
  grind
 .have e:zs9 5=[83,73]:=by rw[zN6];rfl
  have e2:zx2 5=[83,73]:=by unfold zx2;rw[ByteArray.toList_eq];rfl
  rw[zV9 _ (by simp only;omega) (zbI8 _ _ _ _ (by simp only[e];exact s1) (by simp only[e];exact s2))];unfold zaf3 zW2 encM zbS8;simp only[e,e2];congr 1;rw[cJ];simp only[bM,zaH2,zbf8,scal,List.foldl_cons,List.foldl_nil,List.all_cons,List.all_nil,dV,gH,bQ];simp[zap4,zK5,encR,encF,cpF,clrF,aK.zero,inN]
  grind
theorem zcm0(h:bC)(m:aK)(ht:h.tags.length<=1000000)(hm:FitM m):zN3 h m=some (zM7 h m):=by
 by_cases hk:kK m.kind
 .exact zby0 h m ht hk (zcP0 m hk hm.q hm.s)
 .obtain⟨b,hb⟩:=zcY2 hm;unfold zN3 zM7;rw[zbq0 h ht,Option.bind_some];have n1:¬m.kind=1:=λ k=>hk (.inl k);have n2:¬m.kind=2:=λ k=>hk (.inr (.inl k));have n5:¬m.kind=5:=λ k=>hk (.inr (.inr k));cases zS5 h with
  |false=>rfl
  |true=>simp only[cI,bP,bV,reduceCtorEq];rw[hb,Option.bind_some,bO (by simp[n1,n2,n5]),bN n1,bN n2,bN n5];split<;>rfl
theorem zdE2{h:bC}{m:aK}(e:(zM7 h m).2.2.2≠0):zM7 h m=errH (zM7 h m).2.2.2:=by
 unfold zM7 at e⊢;split
 .rfl
 split
 .rfl
 rename_i c1 c2;rw[bN c1,bN c2]at e;split
 .rename_i k;rw[bO k]at e;unfold zap5 at e|-
  by_cases c:(zE9 h.aG m.aI m.aW m.aX).2.2=0
  .simp only[c,bT]at e;exact absurd rfl e
  .simp only[c,bV];rfl
 rename_i k1;rw[bN k1]at e;split
 .rename_i k;rw[bO k]at e;unfold zU0 at e|-
  by_cases hf:zr8 h.aG m.aW.name<0
  .simp only[hf,bT];rfl
  simp only[hf,bV]at e⊢;obtain⟨c,hc⟩:∃c,(if(zB2 (h.aG.getD (zr8 h.aG m.aW.name).toNat aA.zero) m.aI).2=true then zE3 h.aG m.aI m.aW.name else(h.aG,[],0))=c:=⟨_,rfl⟩;simp only[hc]at e|-
  by_cases c0:c.2.2=0
  .simp only[c0,bT]at e;exact absurd rfl e
  .simp only[c0,bV];rfl
 rename_i k2;rw[bN k2]at e;split
 .rename_i k;rw[bO k]at e;exact absurd rfl e
 .rfl
def zbD4(p:bD):Prop:=p.message.state=aS.zero/\p.message.options=[]
theorem zbg7(l:List bF)(ev:List aY)(x:aF):∀p∈zW3 l ev x,zbD4 p:=by intro p hp;unfold zW3 at hp;obtain⟨e,_,rfl⟩:=cD.1 hp;exact⟨rfl,rfl⟩
theorem zcY3(h:bC)(m:aK):∀p∈(zM7 h m).2.1,zbD4 p:=by
 have hz:∀e,∀p∈(errH e).2.1,zbD4 p:=λ e p hp=>nomatch (show p∈([]:List bD)from hp);have hc:∀(q:bD) (l:List bD),zbD4 q->(∀p∈l,zbD4 p)->∀p∈q::l,zbD4 p:=λ q l h1 h2 p hp=>by
  rcases bX.1 hp with rfl|hp
  .exact h1
  .exact h2 p hp
 unfold zM7;split
 .exact hz _
 split
 .exact hz _
 split
 .unfold zap5
  by_cases c:(zE9 h.aG m.aI m.aW m.aX).2.2=0
  .simp only[c,bT];exact hc _ _ ⟨rfl,rfl⟩ (zbg7 _ _ _)
  .simp only[c,bV];exact hz _
 split
 .unfold zU0
  by_cases hf:zr8 h.aG m.aW.name<0
  .simp only[hf,bT];exact hz _
  simp only[hf,bV];obtain⟨c,hc'⟩:∃c,(if(zB2 (h.aG.getD (zr8 h.aG m.aW.name).toNat aA.zero) m.aI).2=true then zE3 h.aG m.aI m.aW.name else(h.aG,[],0))=c:=⟨_,rfl⟩;simp only[hc']
  by_cases c0:c.2.2=0
  .simp only[c0,bT];exact hc _ _ ⟨rfl,rfl⟩ (zbg7 _ _ _)
  .simp only[c0,bV];exact hz _
 split
 .exact zbg7 _ _ _
 .exact hz _
theorem zbr6(l:List bD)(hl:l.length<=9000000)(h:∀p∈l,zbD4 p):zv5 l l=some true:=by
 unfold zv5;rw[bN (by simp),zJ8 l.length (λ _=>true) (λ i hi=>by
  unfold zZ2;have h3:0<=(i:Int)/\(i:Int)<(l.length:Int):=by omega
  have hp:=h _ (zm9 (z:=bD.zero) hi);simp only[h3.1,h3.2,cN,zl3,bU,bT,Int.toNat_natCast,fK];rw[zaW3 _ _ hp.1 hp.1 hp.2 hp.2,Option.bind_some,zk8 (by omega) (by omega)];simp[scal]) (by unfold zZ2;simp)]
 simp[zan6]
theorem zdE3(h:bC)(m:aK):(zM7 h m).2.1.length<=(zM7 h m).2.2.1.length+1:=by
 have hz:∀e,(errH e).2.1.length<=(errH e).2.2.1.length+1:=λ e=>by simp[errH]
 unfold zM7;split
 .exact hz _
 split
 .exact hz _
 split
 .unfold zap5
  by_cases c:(zE9 h.aG m.aI m.aW m.aX).2.2=0
  .simp only[c,bT,List.length_cons];have:=zay1 h.tags (zE9 h.aG m.aI m.aW m.aX).2.1 m.aI;omega
  .simp only[c,bV];exact hz _
 split
 .unfold zU0
  by_cases hf:zr8 h.aG m.aW.name<0
  .simp only[hf,bT];exact hz _
  simp only[hf,bV];obtain⟨c,hc⟩:∃c,(if(zB2 (h.aG.getD (zr8 h.aG m.aW.name).toNat aA.zero) m.aI).2=true then zE3 h.aG m.aI m.aW.name else(h.aG,[],0))=c:=⟨_,rfl⟩;simp only[hc]
  by_cases c0:c.2.2=0
  .simp only[c0,bT,List.length_cons];have:=zay1 h.tags (if(zF0 c.1 m.aI m.aW).2.2=0 then((zF0 c.1 m.aI m.aW).1,c.2.1++(zF0 c.1 m.aI m.aW).2.1)else(c.1,c.2.1)).2 m.aI;omega
  .simp only[c0,bV];exact hz _
 split
 .have:=zay1 h.tags (zaf2 h.aG m.site m.inc).2 aF.zero;exact Nat.le_succ_of_le this
 .exact hz _
theorem zcm1{h:bC}{m:aK}:(zs6 (zM7 h m).1 (zM7 h m).1=some true/\zv5 (zM7 h m).2.1 (zM7 h m).2.1=some true)/\zc6 (zM7 h m).2.2.1 (zM7 h m).2.2.1=some true:=by
 by_cases e:(zM7 h m).2.2.2=0
 .have g:=zcv2 e;have hv:zS5 h=true:=by
   by_cases hv:zS5 h=true
   .exact hv
   .unfold zM7 at e;rw[bO (by simpa using hv)]at e;exact absurd e (by decide)
  have g0:=(zaW4 h).1 hv;have h8:=g.v.len;have ht:=g.small;have he:=zdQ0 (m:=m) g0;have hp:=zdE3 h m;refine⟨⟨?_,zbr6 _ (by omega) (zcY3 h m)⟩,?_⟩
  .rw[zbx7 _ _ (by omega) g.v.lens (by omega),cB rfl]
  .rw[zbx5 _ _ he,cB rfl]
 .rw[zdE2 e];refine⟨⟨?_,zbr6 _ (by simp[errH]) λ p hp=>nomatch (show p∈([]:List bD)from hp)⟩,?_⟩
  .rw[zbx7 _ _ (by simp[errH,bC.zero]) (λ q hq=>nomatch (show q∈([]:List aA)from hq)) (by simp[errH,bC.zero]),cB rfl]
  .rw[zbx5 _ _ (by simp[errH]),cB rfl]
theorem zcp7{cat:List aD}(hc:cat.length=6)(hs:∀r∈cat,zh1 r=true){u:bJ}(hu:TapeOk u):
  ∃m n,zm2 cat u=some (m,zab0 (n+1) u)/\kK m.kind/\m.state=aS.zero/\m.options=[]:=by
 have o1:=zP5 hu;have o2:=zP5 o1;have o3:=zP5 o2;have o4:=zP5 o3;have o5:=zP5 o4;have o6:=zP5 o5;have o7:=zP5 o6;have r1:=zaf8 (cat.length:Int) u (by omega);have hsh:=hs _ (zm9 (z:=aD.zero) (show(zai9 (cat.length:Int) u).toNat<cat.length by omega));unfold zm2;rw[zac9 _ _ hu (by omega) (by omega),Option.bind_some,zb0 r1];simp only;rw[zac9 3 _ o1 (by decide) (by decide),Option.bind_some];simp only;rw[zac9 2 _ o2 (by decide) (by decide),Option.bind_some];simp only;rw[zac9 2 _ o3 (by decide) (by decide),Option.bind_some];simp only;rw[zac9 9 _ o4 (by decide) (by decide),Option.bind_some];simp only;rw[zac9 9 _ o5 (by decide) (by decide),Option.bind_some];simp only;split
 .rw[zac9 8 _ o6 (by decide) (by decide),Option.bind_some];simp only;rw[zbp1 _ _ hsh,Option.bind_some,zac9 3 _ o7 (by decide) (by decide),Option.bind_some];exact⟨_,7,rfl,.inl rfl,rfl,rfl⟩
 .split
  .split
   .rw[zac9 8 _ o6 (by decide) (by decide),Option.bind_some];simp only;rw[zbp1 _ _ hsh,Option.bind_some];exact⟨_,6,rfl,.inr (.inl rfl),rfl,rfl⟩
   .exact⟨_,5,rfl,.inr (.inl rfl),rfl,rfl⟩
  .rw[zac9 3 _ o6 (by decide) (by decide),Option.bind_some];simp only;rw[zac9 3 _ o7 (by decide) (by decide),Option.bind_some];exact⟨_,7,rfl,.inr (.inr rfl),rfl,rfl⟩
theorem zcP1:∀{l:List aZ},(∀k∈l,widE k=true)->widL l=true
 |[],_=>by simp only[widL]
 |k::l,h=>by simp only[widL,bM];exact⟨h k (.head _),zcP1 λ x hx=>h x (.tail _ hx)⟩
theorem zcv4:∀(n:Nat) (e:aZ) (d:Int),_root_.SizeOf.sizeOf e<n->∃b,zY1 n e d=some b/\(b=true->widE e=true)
 |0,e,d,h=>absurd h (by omega)
 |n+1,e,d,h=>by
  show∃b,zaj1 (zY1 n) e d=some b/\_;unfold zaj1
  by_cases c:d=0\/10<e.bE.length
  .rw[bO (by simp;omega)];exact⟨false,rfl,λ h=>by cases h⟩
  .rw[bN (by simp;omega)];have hk:∀i,i<e.bE.length->∃b,zY1 n (e.bE.getD i aZ.zero) (IntKind.i64.wrap (d-1))=some b/\(b=true->widE (e.bE.getD i aZ.zero)=true):=λ i hi=>zcv4 n _ _ (by have:=zcN6 (zm9 (z:=aZ.zero) hi);omega);rw[zJ8 e.bE.length (λ i=>(zY1 n (e.bE.getD i aZ.zero) (IntKind.i64.wrap (d-1))).getD false) (λ i hi=>by
    unfold zaA6;have h3:0<=(i:Int)/\(i:Int)<(e.bE.length:Int):=by omega
    simp only[h3.1,h3.2,cN,zl3,bU,bT,Int.toNat_natCast];obtain⟨b,hb,_⟩:=hk i hi;rw[hb,Option.bind_some,zk8 (by omega) (by omega),Option.getD_some];cases b<;>rfl) (by unfold zaA6;simp)]
   cases ha:(List.range e.bE.length).all (λ i=>(zY1 n (e.bE.getD i aZ.zero) (IntKind.i64.wrap (d-1))).getD false)with
   |false=>exact⟨false,rfl,λ h=>by cases h⟩
   |true=>refine⟨true,rfl,λ _=>?_⟩;rw[zde8,bM,bQ];refine⟨by omega,zcP1 λ k hk'=>?_⟩;obtain⟨i,hi,rfl⟩:=dU hk';obtain⟨b,hb,hw⟩:=hk i hi;have:=cS.1 ha i (dH.2 hi);rw[hb,Option.getD_some]at this;rw[zB3 _ _ _ hi]at hw;exact hw this
theorem zcY4(s:aS):∃b,zm7 s=some b/\(b=true->(s.aG.length<=10/\Lens s.aG)/\s.bA.length<=10/\∀n∈s.bA,widE n.bK=true):=by
 unfold zm7
 by_cases h10:10<s.aG.length\/10<s.bA.length
 .rw[bO (by simp;omega)];exact⟨false,rfl,λ h=>by cases h⟩
 .rw[bN (by simp;omega),zJ8 s.aG.length (λ i=>decide ((s.aG.getD i aA.zero).aL.length<=10/\(s.aG.getD i aA.zero).aH.length<=10/\(s.aG.getD i aA.zero).aU.length<=10)) (λ i hi=>by
   unfold zW9;have h3:0<=(i:Int)/\(i:Int)<(s.aG.length:Int):=by omega
   simp only[h3.1,h3.2,cN,zl3,bU,bT,Int.toNat_natCast];rw[zk8 (by omega) (by omega),zb0 (by intro _;trivial),zb0 (by intro _;trivial)]
   by_cases e:(s.aG.getD i aA.zero).aL.length<=10/\(s.aG.getD i aA.zero).aH.length<=10/\(s.aG.getD i aA.zero).aU.length<=10
   .rw[bN (by simp[-List.getD_eq_getElem?_getD];omega),bO (cB e)]
   .rw[bO (by simp[-List.getD_eq_getElem?_getD];omega),bN (by rw[bQ];exact e)]) (by unfold zW9;simp)]
  cases hq:(List.range s.aG.length).all (λ i=>decide ((s.aG.getD i aA.zero).aL.length<=10/\(s.aG.getD i aA.zero).aH.length<=10/\(s.aG.getD i aA.zero).aU.length<=10))with
  |false=>exact⟨false,rfl,λ h=>by cases h⟩
  |true=>
   have hk:∀i,i<s.bA.length->∃b,zo3 (s.bA.getD i bI.zero).bK 5=some b/\(b=true->widE (s.bA.getD i bI.zero).bK=true):=λ i hi=>zcv4 _ _ _ (dY _);simp only[bT,Option.bind_some];unfold zai2;rw[zJ8 s.bA.length (λ i=>(zo3 (s.bA.getD i bI.zero).bK 5).getD false) (λ i hi=>by
    unfold zai1;have h3:0<=(i:Int)/\(i:Int)<(s.bA.length:Int):=by omega
    simp only[h3.1,h3.2,cN,zl3,bU,bT,Int.toNat_natCast];obtain⟨b,hb,_⟩:=hk i hi;rw[hb,Option.bind_some,zk8 (by omega) (by omega),Option.getD_some];cases b<;>rfl) (by unfold zai1;simp)]
   cases hn:(List.range s.bA.length).all (λ i=>(zo3 (s.bA.getD i bI.zero).bK 5).getD false)with
   |false=>exact⟨false,rfl,λ h=>by cases h⟩
   |true=>
    refine⟨true,rfl,λ _=>⟨⟨by omega,λ q hq'=>?_⟩,by omega,λ n hn'=>?_⟩⟩
    .obtain⟨i,hi,rfl⟩:=dU hq';have:=cS.1 hq i (dH.2 hi);rw[bQ,zB3 _ _ _ hi]at this;omega
    .obtain⟨i,hi,rfl⟩:=dU hn';obtain⟨b,hb,hw⟩:=hk i hi;have:=cS.1 hn i (dH.2 hi);rw[hb,Option.getD_some]at this;rw[zB3 _ _ _ hi]at hw;exact hw this
theorem zcY5{l:List Int}(hl:l.length<=1000000):zc1 (zP3 (zbj2 (zbj0 l),zab0 8 (zbj0 l))) (zab0 8 (zbj0 l),zcO7 (zbj0 l))=some (.inl ()):=by
 have hu:=zcL4 hl;obtain⟨x,hx,rfl⟩:=zaR1 (body:=zP3 (zbj2 (zbj0 l),zab0 8 (zbj0 l))) (λ w=>TapeOk w.1/\GoodH w.2) (λ w=>w.1.l.length-w.1.at_.toNat) (λ x=>x=.inl ()) (by
  rintro⟨u,w⟩ ⟨ho,g⟩;simp only at ho g;unfold zP3 zd4;simp only[Option.bind_some]
  by_cases hm:u.at_<(u.l.length:Int)
  .rw[bO (cB hm)];obtain⟨m,n,e,hk,z1,z2⟩:=zcp7 (zcv3 (zbj0 l)) (zcB8 (zbj0 l)) ho;have hs:=g.small;rw[e,Option.bind_some];simp only;rw[zaD0 w m (by omega),Option.bind_some,zby0 w m (by omega) hk (zcN9 m hk z1 z2),Option.bind_some];obtain⟨⟨s1,s2⟩,s3⟩:=zcm1 (h:=w) (m:=m);simp only[bU,bT,s1,s2,s3,Option.bind_some,cI,dI,fB,bP,bV]
   by_cases e0:(zM7 w m).2.2.2=0
   .rw[bO (cB e0)];exact .inl ⟨(zab0 (n+1) u,(zM7 w m).1),rfl,⟨zbH5 _ ho,zcv2 e0⟩,zcl7 ho hm n⟩
   .rw[bN (by simpa using e0)];exact .inl ⟨(zab0 (n+1) u,w),rfl,⟨zbH5 _ ho,g⟩,zcl7 ho hm n⟩
  .rw[bN (by simpa using hm)];exact .inr ⟨_,rfl,rfl⟩) (zab0 8 (zbj0 l),zcO7 (zbj0 l)) ⟨zbH5 8 hu,zcX9 _⟩
 exact hx
theorem hHp(h:bC)(m:aK)(l:List Int)(hopt:∀o∈m.options,o.lower.length<=9223372036854775807):zJ6 h m l=some true:=by
 unfold zJ6;cases hL:zag3 l with
 |false=>simp[zaD1]
 |true=>
  have hl:l.length<=1000000:=by unfold zag3 at hL;simp at hL;omega
  rw[bO rfl,zcW9,Option.bind_some];cases hs:zcj4 h with
  |false=>simp[zaD1]
  |true=>
   obtain⟨b,hb,hf⟩:=zcY4 m.state;simp only[cI,fB,dI,bT,hb,Option.bind_some,dK];cases b with
   |false=>simp[zaD1]
   |true=>
    by_cases h20:20<m.options.length
    .rw[bO (by simp;omega),zaD1];rfl
    .rw[bN (by simp;omega)];obtain⟨⟨q1,q2⟩,q3,q4⟩:=hf rfl;have fit:FitM m:=⟨by omega,q2,by omega,q4,by omega,hopt⟩;have sh:=zcM3 hs;have ht:h.tags.length<=1000000:=by omega
     rw[zaD0 h m ht,Option.bind_some,zcm0 h m ht fit,Option.bind_some];obtain⟨⟨s1,s2⟩,s3⟩:=zcm1 (h:=h) (m:=m);simp only[bU,bT,s1,s2,s3,Option.bind_some,cI,dI,fB,bP,bV];rw[show({bJ.zero with l:=l}:bJ)=zbj0 l from rfl,zdZ7 _ (zcL4 hl),Option.bind_some];simp only;rw[zcA7,zef3,Option.bind_some];simp only;rw[zcY5 hl,Option.bind_some];unfold zao1;rw[zaD1];rfl
end Ab
end Go.Proofs.YtdlfhmkmnjbihaaGreatDoor
