import Derived.Test.YtdlfhmkmnjbihaaGreatDoorHkD
import Derived.Test.YtdlfhmkmnjbihaaGreatDoorHeD
namespace Go.Proofs.YtdlfhmkmnjbihaaGreatDoor
namespace Ab
set_option linter.unusedVariables false
set_option linter.unusedSimpArgs false
theorem zcE5(a:aC):zK6 a=zaT5 a:=by
 unfold zK6 zaT5 zU9 zr5 zv7
 by_cases h:a.mode=0<;>simp[h]
theorem zaQ3(a:aC):zd6 a=decide (a=aC.zero):=by
 unfold zd6;obtain⟨m,u⟩:=a;unfold aC.zero
 by_cases h:m=0<;>by_cases k:u=0<;>simp[h,k]
def zu7(k:Int):List UInt8:=(zb1 k).toList
theorem zcf1:zu7 1=[80,71,65,89]:=by unfold zu7;rw[ByteArray.toList_eq];rfl
theorem zcf2:zu7 2=[80,71,65]:=by unfold zu7;rw[ByteArray.toList_eq];rfl
theorem zcf3:zu7 5=[83,73]:=by unfold zu7;rw[ByteArray.toList_eq];rfl
def zbV9:List Nat:=[80,71,65,89,83,73]
theorem zaL2{k:Int}(hk:kK k):(zu7 k).length<=4/\(∀b∈zu7 k,b.toNat∈zbV9)/\zu7 k≠[]:=by
 rcases hk with rfl|rfl|rfl
 .rw[zcf1];decide
 .rw[zcf2];decide
 .rw[zcf3];decide
def cpF(m:aJ)(c:Nat)(w:aJ):aJ:=match c with
 |80=>{w with aI:=m.aI}
 |71=>{w with gen:=m.gen}
 |65=>{w with aY:=m.aY}
 |89=>{w with aV:=m.aV}
 |83=>{w with site:=m.site}
 |73=>{w with inc:=m.inc}
 |_=>w
theorem zaU2(k:Int):(zb1 k).size=(zu7 k).length:=by unfold zu7;rw[zau7]
theorem zbo7(k:Int){i:Nat}(hi:i<(zu7 k).length):(((zb1 k).toList.map λ b=>(b.toNat:Int)).getD i 0)=((((zu7 k).getD i 0).toNat:Nat):Int):=by rw[zA5 _ _ _ (by rw[cH];exact hi),List.getElem_map,zA5 _ _ _ hi];rfl
theorem zcJ8(m:aJ):∀(l:List UInt8) (i:Nat) (w:aJ),walk (λ _ b w=>some (Sum.inl (β:=aJ) (cpF m (b:UInt8).toNat w))) (λ w=>w) l i w=some (l.foldl (λ w b=>cpF m b.toNat w) w)
 |[],i,w=>rfl
 |b::l,i,w=>by simp only[walk,List.foldl_cons];exact zcJ8 m l (i+1) _
theorem zdq4(m:aJ)(hk:kK m.kind):zn5 m=some ((zu7 m.kind).foldl (λ w b=>cpF m b.toNat w) {aJ.zero with kind:=m.kind}):=by
 unfold zn5;obtain⟨h5,hc,_⟩:=zaL2 hk;have hlen:(((zb1 m.kind).toList.map λ b=>(b.toNat:Int)).length:Int)=((zu7 m.kind).length:Int):=by rw[cH];rfl
 have key:=zad7 (body:=zZ5 m) (zu7 m.kind) 0 (λ i (w:aJ)=>((i:Int),w)) (λ _ b w=>some (.inl (cpF m b.toNat w))) (λ w=>w)
  (λ i w hi=>by
   unfold zZ5;rw[hlen];have h3:0<=(i:Int)/\(i:Int)<((zu7 m.kind).length:Int):=by omega
   simp only[h3.1,h3.2,cP,zk1,bV,bS,Int.toNat_natCast,zbo7 m.kind hi,zd0 i (show i<4611686018427387904 by omega)];have hm:=hc _ (zh4 (z:=0) hi);generalize((zu7 m.kind).getD i 0).toNat=c at hm;unfold zbV9 at hm;simp only[bY,eE,iD]at hm;rcases hm with rfl|rfl|rfl|rfl|rfl|rfl<;>rfl)
  (λ w=>by unfold zZ5;rw[hlen,bL (by simp)]) {aJ.zero with kind:=m.kind}
 rw[za6 (by rw[zaU2];omega),show((0,{aJ.zero with kind:=m.kind}):Int×aJ)=(λ(i:Nat) (w:aJ)=>((i:Int),w)) 0 {aJ.zero with kind:=m.kind}from rfl,key,zcJ8];rfl
def zaL3(m:aJ)(c:Nat):Bool:=match c with
 |80=>zb6 m.aI
 |71=>inN 0 1073741824 m.gen
 |65=>zW8 m.aY.name&&(((decide (m.aY.aK=aC.zero)&&!decide (m.kind=1))&&!decide (m.kind=4))||zaT5 m.aY.aK)
 |89=>inN 0 7 m.aV
 |83=>decide (0<=m.site)&&decide (m.site<4)
 |73=>inN 1 99 m.inc
 |_=>true
theorem zdh0(m:aJ)(c:Nat)(hc:c∈zbV9):zs8 m (c:Int)=some (zaL3 m c):=by
 unfold zbV9 at hc;simp only[bY,eE,iD]at hc;rcases hc with rfl|rfl|rfl|rfl|rfl|rfl
 .unfold zs8;rw[bM (by decide),zaO5];rfl
 .rfl
 .unfold zs8;rw[bL (by decide),bL (by decide),bM (by decide),zbk0,Option.bind_some,zaQ3,zcE5];rfl
 .rfl
 .rfl
 .rfl
theorem zbt5:∀(k:Nat) (n:Int) (l:List Int),0<=n->n<128^(k+1)->l.length+k<=4294967290->∃y l',zc0 zy7 (n,l)=some (y,l')/\l'.length<=l.length+k
 |0,n,l,h0,h,hl=>⟨n,l,by rw[zg9];unfold zy7;rw[bL (by simp;omega)],by omega⟩
 |k+1,n,l,h0,h,hl=>by
  by_cases c:128<=n
  .obtain⟨y,l',h1,h2⟩:=zbt5 k (n.fdiv (2^7)) (l++[zac3 .or .u8 (IntKind.u8.wrap (zac3 .and .u64 n 127)) 128]) (by rw[fA _ (by decide)];omega) (by
    rw[fA _ (by decide)];rw[Int.pow_succ]at h;omega) (by simp only[bP,List.length_singleton];omega)
   refine⟨y,l',?_,by simp only[bP,List.length_singleton]at h2;omega⟩;rw[zg9];have e:zy7 (n,l)=some (.inl (n.fdiv (2^7),l++[zac3 .or .u8 (IntKind.u8.wrap (zac3 .and .u64 n 127)) 128])):=by unfold zy7;rw[bM (by simpa using c),za6 (by simp only;omega)]
   rw[e];exact h1
  .refine⟨n,l,?_,by omega⟩;rw[zg9];unfold zy7;rw[bL (by simpa using c)]
theorem zV6{l:List Int}(hl:l.length<=100000)(y:Int):∃r,zb3 l (IntKind.u64.wrap y)=some r/\r.length<=l.length+10:=by
 obtain⟨x,hx⟩:∃x,IntKind.u64.wrap y=x:=⟨_,rfl⟩;have h0:0<=x/\x<18446744073709551616:=by rw[<-hx,IntKind.wrap_u64];omega
 rw[hx];unfold zb3;obtain⟨y',l',h1,h2⟩:=zbt5 9 x l h0.1 (by omega) (by omega);rw[za6 (by omega),h1,Option.bind_some];unfold zad0;exact⟨_,za6 (by simp only;omega),by simp only[bP,List.length_singleton];omega⟩
theorem zbD2{l:List Int}(hl:l.length<=100000)(y:Int):∃r,zf2 l (IntKind.u64.wrap y)=some r/\r.length<=l.length+10:=zV6 hl y
theorem zcw4{l:List Int}(hl:l.length<=100000){s:ByteArray}(hs:s.size<=12):∃r,zg3 l s=some r/\r.length<=l.length+30:=by unfold zg3;obtain⟨r,h1,h2⟩:=zV6 hl (s.size:Int);have h3:=zau7 s;rw[h1,Option.bind_some,za6 (by omega)];exact⟨_,rfl,by simp only[bP,cH];omega⟩
theorem zcw5{l:List Int}(hl:l.length<=5000)(p:aF):∃r,zg2 l p=some r/\r.length<=l.length+300:=by
 unfold zg2;split
 .exact⟨l,za6 (by omega),by omega⟩
 .obtain⟨r1,e1,l1⟩:=zbD2 (l:=l) (by omega) p.site;obtain⟨r2,e2,l2⟩:=zbD2 (l:=r1) (by omega) p.inc;obtain⟨r3,e3,l3⟩:=zV6 (l:=r2) (by omega) p.num;rw[e1,Option.bind_some,e2,Option.bind_some,e3,Option.bind_some];exact⟨r3,rfl,by omega⟩
theorem zcE6{m:aJ}(hk:kK m.kind)(h:∀b∈zu7 m.kind,zaL3 m b.toNat=true):∃r,zn0 m=some r/\r.length<=4064:=by
 obtain⟨h5,hc,_⟩:=zaL2 hk;have hlen:(((zb1 m.kind).toList.map λ b=>(b.toNat:Int)).length:Int)=((zu7 m.kind).length:Int):=by rw[cH];rfl
 unfold zn0;obtain⟨r0,e0,l0⟩:=zV6 (l:=[]) (by simp) m.kind;obtain⟨r,h1,h2⟩:=zby1 (body:=zF1 m) (zu7 m.kind).length (λ i acc hi ha=>by
  unfold zF1;rw[hlen];have h3:0<=(i:Int)/\(i:Int)<((zu7 m.kind).length:Int):=by omega
  simp only[h3.1,h3.2,cP,zk1,bV,bS,Int.toNat_natCast,zbo7 m.kind hi];rw[zd0 i (by omega)];have hm:=zh4 (z:=(0:UInt8)) hi;have hf:=h _ hm;have hm:=hc _ hm;generalize((zu7 m.kind).getD i 0).toNat=c at hm hf;unfold zbV9 at hm;simp only[bY,eE,iD]at hm;rcases hm with rfl|rfl|rfl|rfl|rfl|rfl
  .obtain⟨r,e,k⟩:=zcw5 ha m.aI;rw[bM (by decide),e];exact⟨r,rfl,k⟩
  .obtain⟨r,e,k⟩:=zV6 (l:=acc) (by omega) m.gen;rw[bL (by decide),bM (by decide),e];exact⟨r,rfl,by omega⟩
  .have hn:(zW8 m.aY.name&&(((decide (m.aY.aK=aC.zero)&&!decide (m.kind=1))&&!decide (m.kind=4))||zaT5 m.aY.aK))=true:=hf;rw[bK]at hn;obtain⟨r1,e1,l1⟩:=zcw4 (l:=acc) (by omega) (zce2 hn.1);obtain⟨r2,e2,l2⟩:=zV6 (l:=r1) (by omega) m.aY.aK.mode;obtain⟨r3,e3,l3⟩:=zV6 (l:=r2) (by omega) m.aY.aK.aU;rw[bL (by decide),bL (by decide),bM (by decide),e1,Option.bind_some,e2,Option.bind_some,e3];exact⟨r3,rfl,by omega⟩
  .obtain⟨r,e,k⟩:=zV6 (l:=acc) (by omega) m.aV;rw[bL (by decide),bL (by decide),bL (by decide),bM (by decide),e];exact⟨r,rfl,by omega⟩
  .obtain⟨r,e,k⟩:=zV6 (l:=acc) (by omega) m.site;rw[bL (by decide),bL (by decide),bL (by decide),bL (by decide),bL (by decide),bM (by decide),e];exact⟨r,rfl,by omega⟩
  .obtain⟨r,e,k⟩:=zV6 (l:=acc) (by omega) m.inc;rw[bL (by decide),bL (by decide),bL (by decide),bL (by decide),bL (by decide),bL (by decide),bM (by decide),e];exact⟨r,rfl,by omega⟩) (λ acc=>by unfold zF1;rw[hlen,bL (by simp)]) (zu7 m.kind).length 0 r0 (by omega) (by simp only[List.length_nil]at l0;omega)
 rw[e0,Option.bind_some,za6 (by rw[zaU2];omega),show((0,r0):Int×List Int)=(((0:Nat):Int),r0)from rfl,h1,Option.bind_some];exact⟨r,rfl,by simp only[List.length_nil]at l0;omega⟩
theorem zcS3{α:Type}(l:List α)(z:α)(p:α->Bool):((List.range l.length).all λ i=>p (l.getD i z))=l.all p:=by
 rw[cI,dB,dB];constructor
 .intro h x hx;obtain⟨i,hi,rfl⟩:=eA hx;have:=h i (dN.2 hi);rwa [zA5 _ _ _ hi]at this
 .intro h i hi;exact h _ (zh4 (dN.1 hi))
theorem zaG3(m:aJ)(hk:kK m.kind){b:Bool}(he:zx2 m ((zu7 m.kind).foldl (λ w b=>cpF m b.toNat w) {aJ.zero with kind:=m.kind})=some b):
  zB9 m=some (b&&((zu7 m.kind).all λ c=>zaL3 m c.toNat)):=by
 obtain⟨h5,hc,hn0⟩:=zaL2 hk;have hne:((zb1 m.kind).toList==(⟨#[]⟩:ByteArray).toList)=false:=by
  have h0:(⟨#[]⟩:ByteArray).toList=[]:=by rw[ByteArray.toList_eq]
  rw[h0];show(zu7 m.kind==[])=false;rw[beq_eq_false_iff_ne];exact hn0
 have hlen:(((zb1 m.kind).toList.map λ b=>(b.toNat:Int)).length:Int)=((zu7 m.kind).length:Int):=by rw[cH];rfl
 unfold zB9;simp only[hne,dU,bS,zdq4 m hk,Option.bind_some,he,dW];cases b with
 |false=>rfl
 |true=>
  rw[bL (by decide),za6 (by rw[zaU2];omega),zU7 (zu7 m.kind).length (λ i=>zaL3 m ((zu7 m.kind).getD i 0).toNat) (λ i hi=>by
   unfold zag7;rw[hlen];have h3:0<=(i:Int)/\(i:Int)<((zu7 m.kind).length:Int):=by omega
   simp only[h3.1,h3.2,cP,zk1,bV,bS,Int.toNat_natCast,zbo7 m.kind hi];rw[zdh0 m _ (hc _ (zh4 (z:=0) hi)),Option.bind_some,zj5 (by omega) (by omega)];cases zaL3 m ((zu7 m.kind).getD i 0).toNat<;>rfl) (by unfold zag7;rw[hlen];simp),Option.bind_some,zcS3 (zu7 m.kind) 0 (λ c=>zaL3 m c.toNat)]
  cases hf:(zu7 m.kind).all λ c=>zaL3 m c.toNat with
  |false=>rfl
  |true=>obtain⟨r,e,k⟩:=zcE6 hk (λ c hc'=>dB.1 hf c hc');simp only[bS,zat3,cA];rw[e,Option.bind_some,bZ (by omega)]
theorem zbW0(s:aZ)(hq:s.aG.length<=1000000)(hs:Lens s.aG):zv3 s aZ.zero=some (zbo0 s):=by
 unfold zv3 zbo0;rw[zbk3 _ _ hq (λ q h=>hs q h),Option.bind_some]
 by_cases c:s.aG=[]
 .by_cases d:s.bG=[]
  .rw[bL (by simp[c,d,aZ.zero]),zU7 0 (λ _=>true) (λ i hi=>by omega) (by unfold zaz5;simp[d])];simp[zaz4,c,d]
  .rw[bM (by simp[c,d,aZ.zero])];simp[c,d]
 .rw[bM (by simp[c,aZ.zero])];simp[c]
theorem zbG1:zh2 [] []=some true:=by unfold zh2;rw[bL (by simp),zU7 0 (λ _=>true) (λ i hi=>by omega) (by unfold zai5;simp)];simp[zai4]
def scal(m w:aJ):Bool:=((((((((((decide (m.kind=w.kind))&&(decide (m.aI=w.aI)))&&(decide (m.gen=w.gen)))&&(decide (m.aY=w.aY)))&&(decide (m.aV=w.aV)))&&(decide (m.inc=w.inc)))&&(decide (m.round=w.round)))&&(decide (m.epoch=w.epoch)))&&(decide (m.site=w.site)))&&(decide (m.label=w.label)))&&(decide (m.done=w.done))
theorem zbd9(m w:aJ)(h1:m.state=aZ.zero)(h2:w.state=aZ.zero)(h3:m.options=[])(h4:w.options=[]):zx2 m w=some (scal m w):=by unfold zx2;rw[h1,h2,h3,h4,zbW0 aZ.zero (by simp[aZ.zero]) (λ q hq=>(nomatch hq)),zbG1];show((if scal m w=true then some (zbo0 aZ.zero)else some false).bind λ v1=>(if(scal m w&&v1)=true then some true else some false).bind λ v2=>some ((scal m w&&v1)&&v2))=_;cases scal m w<;>rfl
theorem zcw6(m:aJ)(hk:kK m.kind)(h1:m.state=aZ.zero)(h3:m.options=[]):zB9 m=some (zN5 m):=by
 obtain⟨kind,aI,gen,aY,aV,inc,round,epoch,site,label,done,state,options⟩:=m;simp only at hk h1 h3;have hk0:=hk;subst h1 h3;have hz:zbo0 aZ.zero=true:=rfl;rcases hk with rfl|rfl|rfl
 .have e:=zcf1;have e2:zG4 1=[80,71,65,89]:=by unfold zG4;rw[ByteArray.toList_eq];rfl
  rw[zaG3 _ hk0 (zbd9 _ _ rfl (by simp only[e];rfl) rfl (by simp only[e];rfl))];unfold zN5;simp only[e,e2];congr 1;rw[cI];simp only[bK,zaP7,zbo1,scal,List.foldl_cons,List.foldl_nil,List.all_cons,List.all_nil,eG,iV,bQ];simp[zaL3,zai7,cpF,clrF,hz,aJ.zero]
  grind
 .have e:=zcf2;have e2:zG4 2=[80,71,97]:=by unfold zG4;rw[ByteArray.toList_eq];rfl
  rw[zaG3 _ hk0 (zbd9 _ _ rfl (by simp only[e];rfl) rfl (by simp only[e];rfl))];unfold zN5;simp only[e,e2];congr 1;rw[cI];simp only[bK,zaP7,zbo1,scal,List.foldl_cons,List.foldl_nil,List.all_cons,List.all_nil,eG,iV,bQ];simp[zaL3,zai7,cpF,clrF,hz,aJ.zero]
  grind
 .have e:=zcf3;have e2:zG4 5=[83,73]:=by unfold zG4;rw[ByteArray.toList_eq];rfl
  rw[zaG3 _ hk0 (zbd9 _ _ rfl (by simp only[e];rfl) rfl (by simp only[e];rfl))];unfold zN5;simp only[e,e2];congr 1;rw[cI];simp only[bK,zaP7,zbo1,scal,List.foldl_cons,List.foldl_nil,List.all_cons,List.all_nil,eG,iV,bQ];simp[zaL3,zai7,cpF,clrF,hz,aJ.zero,inN]
  grind
theorem zcS4(h:aX)(hl:h.aG.length<=1000)(hs:Lens h.aG):zc0 (zR8 h) (0,(⟨[],aX.zero.tags⟩:aX))=some ⟨h.aG,[]⟩:=by
 have e:=zby3 (body:=zR8 h) h.aG aA.zero (λ _=>true) (λ i s=>((i:Int),(⟨s,[]⟩:aX))) (λ s=>(⟨s,[]⟩:aX)) (λ i s hi hs'=>by
  have hq:=hs _ (zh4 (z:=aA.zero) hi);unfold zR8;have h3:0<=(i:Int)/\(i:Int)<(h.aG.length:Int):=by omega
  have h1:s.length+1<=4294967296:=by omega
  simp only[h1,h3.1,h3.2,cP,zk1,bV,bS,Int.toNat_natCast,zd0 i (show i<4611686018427387904 by omega)];rw[zaj7 _ (by omega) (by omega) (by omega),Option.bind_some]) (λ s=>by unfold zR8;simp)
 rw[show((0,(⟨[],aX.zero.tags⟩:aX)):Int×aX)=(λ(i:Nat) (s:List aA)=>((i:Int),(⟨s,[]⟩:aX))) 0 []from rfl,e];simp
theorem zbZ5(h:aX)(hl:h.aG.length<=1000)(hs:Lens h.aG)(ht:h.tags.length<=1000000):zm8 h=some h:=by unfold zm8;rw[zcS4 h hl hs,Option.bind_some];unfold zay8;rw[za6 (by omega)]
theorem zaQ4(l:List bA)(x:bA)(hl:l.length<=1000000):∀(k i:Nat) (d:Bool) (o:List bA),i+k=l.length->o.length<=2*i->((l.drop i).Pairwise ltT)->∃d' o',zc0 (zw8 l x) (d,(i:Int),o)=some (d',o')/\o'++(if d'=true then[]else[x])=o++insT x d (l.drop i)/\o'.length<=o.length+2*k
 |0,i,d,o,hi,ho,hp=>by
  have:i=l.length:=by omega
  subst this;refine⟨d,o,?_,?_,by omega⟩
  .rw[zg9];unfold zw8;rw[bL (by simp)]
  .rw[jU];rfl
 |k+1,i,d,o,hi,ho,hp=>by
  have hlt:i<l.length:=by omega
  rw[zan2 l i bA.zero hlt]at hp⊢;have hp':=cG.1 hp;obtain⟨t,ht⟩:∃t,l.getD i bA.zero=t:=⟨_,rfl⟩;rw[ht]at hp';have h3:0<=(i:Int)/\(i:Int)<(l.length:Int):=by omega
  have hkey:((decide (t.aI=x.aI))&&(t.name.toList==x.name.toList))=decide (keyT t=keyT x):=by
   unfold keyT
   by_cases e1:t.aI=x.aI<;>by_cases e2:t.name=x.name<;>simp[e1,e2,zL9]
  by_cases c:keyT t=keyT x
  .have n:¬ltT t x:=λ z=>zaB7 z c;have hstep:zw8 l x (d,(i:Int),o)=some (.inl (d,((i+1:Nat):Int),o)):=by
    unfold zw8;simp only[h3.1,h3.2,cP,zk1,bV,bS,Int.toNat_natCast,ht,hkey,c,zd0 i (show i<4611686018427387904 by omega)]
   cases d with
   |true=>obtain⟨d',o',h1,h2,h4⟩:=zaQ4 l x hl k (i+1) true o (by omega) (by omega) hp'.2;refine⟨d',o',by rw[zg9,hstep];exact h1,?_,by omega⟩;rw[h2,ht];simp[insT,c]
   |false=>
    obtain⟨d',o',h1,h2,h4⟩:=zaQ4 l x hl k (i+1) false o (by omega) (by omega) hp'.2;refine⟨d',o',by rw[zg9,hstep];exact h1,?_,by omega⟩;rw[h2,ht];have hafter:∀y∈l.drop (i+1),ltT x y:=λ y hy=>(zcw0 c).1 (hp'.1 y hy);have hf:∀(m:List bA),(∀y∈m,ltT x y)->insT x false m=x::m:=by
     intro m hm;cases m with
     |nil=>rfl
     |cons y m=>
      have hy:=hm y (.head _);have ny:¬ltT y x:=λ z=>zbT8 x (zbf8 hy z);have ky:keyT y≠keyT x:=λ z=>zaB7 hy z.symm;have hr:∀(m:List bA),(∀y∈m,ltT x y)->insT x true m=m:=by
       intro m hm;rw[zbg4];exact iB.2 λ z hz=>by
        have:keyT z≠keyT x:=λ e=>zaB7 (hm z hz) e.symm
        simpa using this
      simp[insT,ny,ky,hr m λ z hz=>hm z (.tail _ hz)]
    have hr2:insT x true (l.drop (i+1))=l.drop (i+1):=by
     rw[zbg4];exact iB.2 λ z hz=>by
      have:keyT z≠keyT x:=λ e=>zaB7 (hafter z hz) e.symm
      simpa using this
    rw[hf _ hafter];simp[insT,c,n,hr2]
  .have hless:=zcJ0 x t
   by_cases n:ltT t x
   .have nx:¬ltT x t:=λ z=>zbT8 x (zbf8 z n);have hstep:zw8 l x (d,(i:Int),o)=some (.inl (d,((i+1:Nat):Int),o++[t])):=by
     unfold zw8;have h1:o.length+1<=4294967296:=by omega
     simp only[h1,h3.1,h3.2,cP,zk1,bV,bS,Int.toNat_natCast,ht,hkey,c,dL,bN,bU,hless,nx,gZ,zd0 i (show i<4611686018427387904 by omega)]
    obtain⟨d',o',h1,h2,h4⟩:=zaQ4 l x hl k (i+1) d (o++[t]) (by omega) (by simp only[bP,List.length_singleton];omega) hp'.2;refine⟨d',o',by rw[zg9,hstep];exact h1,?_,by simp only[bP,List.length_singleton]at h4;omega⟩;rw[h2,ht];simp[insT,c,n]
   .have nx:ltT x t:=(zbx9 c).resolve_left n;cases d with
    |true=>
     have hstep:zw8 l x (true,(i:Int),o)=some (.inl (true,((i+1:Nat):Int),o++[t])):=by
      unfold zw8;have h1:o.length+1<=4294967296:=by omega
      simp only[h1,h3.1,h3.2,cP,zk1,bV,bS,Int.toNat_natCast,ht,hkey,c,dL,bN,bU,cW,gR,zd0 i (show i<4611686018427387904 by omega)]
     obtain⟨d',o',h1,h2,h4⟩:=zaQ4 l x hl k (i+1) true (o++[t]) (by omega) (by simp only[bP,List.length_singleton];omega) hp'.2;refine⟨d',o',by rw[zg9,hstep];exact h1,?_,by simp only[bP,List.length_singleton]at h4;omega⟩;rw[h2,ht];simp[insT,c,n]
    |false=>
     have hstep:zw8 l x (false,(i:Int),o)=some (.inl (true,((i+1:Nat):Int),(o++[x])++[t])):=by
      unfold zw8;have h1:o.length+1<=4294967296:=by omega
      have h2:o.length+1+1<=4294967296:=by omega
      simp only[h1,h2,h3.1,h3.2,cP,zk1,bV,bS,Int.toNat_natCast,ht,hkey,c,dL,bN,bU,hless,nx,dU,iH,zd0 i (show i<4611686018427387904 by omega)]
     obtain⟨d',o',h1,h2,h4⟩:=zaQ4 l x hl k (i+1) true ((o++[x])++[t]) (by omega) (by simp only[bP,List.length_singleton];omega) hp'.2;refine⟨d',o',by rw[zg9,hstep];exact h1,?_,by simp only[bP,List.length_singleton]at h4;omega⟩;rw[h2,ht];simp[insT,c,n]
theorem zck9(l:List bA)(x:bA)(hl:l.length<=1000000)(hp:l.Pairwise ltT):zt5 l x=some (insT x false l):=by
 unfold zt5;obtain⟨d',o',h1,h2,h4⟩:=zaQ4 l x hl l.length 0 false [] (by omega) (by simp) hp;rw[show((false,0,[]):Bool×Int×List bA)=(false,((0:Nat):Int),[])from rfl,h1,Option.bind_some];unfold zaE8;rw[List.nil_append,eZ]at h2;rw[<-h2];cases d' with
 |true=>simp
 |false=>show gd (o'.length+1<=4294967296) (some (o'++[x]))=_;rw[za6 (by simp only[List.length_nil]at h4;omega)];rfl
theorem zbe0(h:aX)(hV:ValidT h.aG)(ht:h.tags.length<=1000000):zr4 h=some ⟨h.aG,h.tags.filter λ t=>inT h.aG t⟩:=by
 unfold zr4;have h8:=hV.len;rw[zbc2 h.tags bA.zero (λ t=>inT h.aG t) (λ i o hi ho=>by
  unfold zag5;have h3:0<=(i:Int)/\(i:Int)<(h.tags.length:Int):=by omega
  have h1:o.length+1<=4294967296:=by omega
  simp only[h1,h3.1,h3.2,cP,zk1,bV,bS,Int.toNat_natCast,zd0 i (show i<4611686018427387904 by omega)];obtain⟨t,e⟩:∃t,h.tags.getD i bA.zero=t:=⟨_,rfl⟩;simp only[e];rw[zE6 _ _ (by omega),Option.bind_some];unfold inT;rcases zak1 (t:=h.aG) (nm:=t.name)with f|⟨j,f,hj,_⟩
  .rw[f,za6 (by intro k;exact absurd k (by decide))];simp
  .rw[f,za6 (by intro _;omega),bM (by simp)];have hm:=zo6 (hV.each _ (zh4 (z:=aA.zero) hj));simp only[Int.toNat_natCast];rw[zaq6 _ _ (by omega) (by omega) (by omega),Option.bind_some];rcases hb (hasQ (h.aG.getD j aA.zero) t.aI)with b|b<;>simp[b,-List.getD_eq_getElem?_getD]) (λ o=>by unfold zag5;simp),Option.bind_some]
 rfl
theorem zcE7{h:aX}{p:aF}{n:ByteArray}{has:Bool}{u:List aA}(g:GoodH h)(gu:GoodH ⟨u,zar3 h.tags p n has⟩):(h.tags.filter λ t=>inT u t)=zar3 h.tags p n has:=by
 unfold zar3;refine List.filter_congr λ t ht=>?_;rw[cI,zbI2 gu.v,<-gu.same];unfold zar3;simp only[bW,cV];constructor
 .rintro⟨x,⟨hx,hc⟩,hk⟩;rw[<-hk];exact hc
 .exactλ hc=>⟨t,⟨ht,hc⟩,rfl⟩
theorem zcw7{h:aX}{f:bA->Bool}{u:List aA}(g:GoodH h)(gu:GoodH ⟨u,h.tags.filter f⟩)(hf:∀a b,keyT a=keyT b->f a=f b):(h.tags.filter λ t=>inT u t)=h.tags.filter f:=by
 refine List.filter_congr λ t ht=>?_;rw[cI,zbI2 gu.v,<-gu.same];simp only[bW,cV];constructor
 .rintro⟨x,⟨hx,hc⟩,hk⟩;rw[<-hf x t hk];exact hc
 .exactλ hc=>⟨t,⟨ht,hc⟩,rfl⟩
theorem zdh1(x:bA){p:aF}{n:ByteArray}(hp:p≠x.aI):∀(d:Bool) (l:List bA),genT (insT x d l) p n=genT l p n:=by
 have hx:isT p n x=false:=by unfold isT;simp;exactλ e=>absurd e.symm hp
 have key:∀(d:Bool) (l:List bA),(insT x d l).find? (isT p n)=l.find? (isT p n):=by
  intro d l;induction l generalizing d with
  |nil=>cases d<;>simp[insT,hx]
  |cons t l ih=>
   simp only[insT,List.find?_append,ih,List.find?_cons];have h1:(if d=false/\¬ltT t x then[x]else[]).find? (isT p n)=none:=by split<;>simp[hx]
   rw[h1]
   by_cases k:keyT t=keyT x
   .have ht:isT p n t=false:=by
     rw[dO];intro e;have:=zbI0.1 e;rw[this]at k;exact hp (cU Prod.fst k)
    simp[k,ht]
   .cases ht:isT p n t<;>simp[k,ht]
 intro d l;unfold genT;rw[key]
theorem zcw8(x:bA)(l:List bA)(ev:List aS):zE2 (insT x false l) ev x.aI=zE2 l ev x.aI:=by unfold zE2;refine jC λ e he=>?_;have:=(cV.1 he).2;unfold zbU5 at this;simp only[bK,cK,cS]at this;unfold zaL0;rw[zdh1 x this.2]
theorem zaW1(u:List aA)(tg:List bA)(m:aJ)(b:Bool){i:Nat}(hV:ValidT u)(hf:zm5 u m.aY.name=i):zn1 ⟨u,tg⟩ m b=some (zr0 m (getH (u.getD i aA.zero).aL m.aI) b):=by unfold zn1;have h8:=hV.len;obtain⟨hi,_⟩:=zbt1 hf;have hq:=zo6 (hV.each _ (zh4 (z:=aA.zero) hi));simp only;rw[zE6 _ _ (by omega),Option.bind_some,hf,za6 (by omega)];simp only[Int.toNat_natCast];rw[zx5 _ _ (by omega),Option.bind_some];rfl
theorem zcE8{q:aA}{p:aF}{a:aC}{pr:Int}(h:(zy0 q p a pr).2.2=0):(!zd6 (getH (zy0 q p a pr).1.aL p)&&zk3 q.aB (getH (zy0 q p a pr).1.aL p) a)=!(zt0 (zy0 q p a pr).1 p).2:=by
 obtain⟨hs,_,_,hf,hw,hh⟩:=zau1 h;have hnz:=zR3 hf;have cz:∀x:aC,covA q.aB x a=true->(!zd6 x&&zk3 q.aB x a)=true:=λ x hx=>by
  have:x≠aC.zero:=by
   rcases((zX1 _ _ _).1 hx).2.2 with k|k
   .exact absurd k hnz
   .exact k.1
  rw[zaQ3,fU this];exact hx
 have gen:∀(y:aA) (w:aM),SoundP y->w∈ordQ y->w.aI=p->covA q.aB w.aK a=true->getH y.aL p=getH q.aL p->covA q.aB (getH q.aL p) a=false->
   (!zd6 (getH (zt2 y).1.aL p)&&zk3 q.aB (getH (zt2 y).1.aL p) a)=!(zt0 (zt2 y).1 p).2:=by
  intro y w hy hwm hwp hcov hgy hnc;have hwant:(zt0 (zt2 y).1 p)=zt0 (advS y) p:=rfl;have hhold:(zt2 y).1.aL=(advS y).aL:=rfl;rw[hwant,hhold];obtain⟨ws,e1,e2⟩:=zaP3 y;cases hc:(zt0 (advS y) p).2 with
  |true=>
   obtain⟨w',hw',hp'⟩:=(zbs1 _ _).1 hc;have hns:∀v∈ws,v.aI≠p:=λ v hv e=>by have hnd:=hy.nd;rw[e1,dX,gL]at hnd;exact hnd.2.2 _ (bW.2 ⟨v,hv,rfl⟩) _ (bW.2 ⟨w',hw',rfl⟩) (e.trans hp'.symm)
   have hsame:getH (advS y).aL p=getH y.aL p:=by
    rw[adv_holds,e2]
    clear e1 e2
    have:∀(l:List aO) (ws:List aM),(∀v∈ws,v.aI≠p)->getH ((ws.map zbQ7).foldl (λ l g=>setL l g.aI g.aK) l) p=getH l p:=by
     intro l ws;induction ws generalizing l with
     |nil=>intro _;rfl
     |cons v ws ih=>intro hv;rw[cN,List.foldl_cons,ih _ λ z hz=>hv z (.tail _ hz)];exact zD0 (λ e=>hv v (.head _) e.symm) _ _
    exact this _ _ hns
   rw[hsame,hgy];have:zk3 q.aB (getH q.aL p) a=false:=hnc;rw[this,gZ];rfl
  |false=>
   have hin:w∈ws:=by
    rw[e1]at hwm;rcases cF.1 hwm with k|k
    .exact k
    .exact absurd hwp (zaq3.1 hc w k)
   have hg:zbQ7 w∈advG y:=by rw[e2];exact bW.2 ⟨w,hin,rfl⟩
   have:=(zcC1 y hy _ hg).1;rw[show(zbQ7 w).aI=p from hwp,show(zbQ7 w).aK=w.aK from rfl]at this;rw[this];exact cz _ hcov
 rcases hh with⟨hc,e⟩|⟨hc,hz,e,hs'⟩|⟨hc,hz,_,e,hs'⟩
 .rw[e];simp only;rw[hw];exact cz _ hc
 .rw[e];refine gen (claimC q p a) ⟨p,zae3 q.aB (getH q.aL p) a,0,0⟩ hs' ?_ rfl ?_ rfl hc
  .unfold ordQ claimC;exact cO _ (cC _ (.head _))
  .have hfit:zb0 q.aB (getH q.aL p)=true:=by
    rcases(perm_iff _ _).1 (zaP2 hs.hv p)with k|k
    .exact absurd k.2 hz
    .exact k
   exact(zbQ6 hfit hf hc).2.2.1
 .rw[e];refine gen (claimW q p a pr) ⟨p,a,pr,0⟩ hs' ?_ rfl (zbe9 (zG8 hf)) rfl hc;unfold ordQ claimW zaA3;exact cC _ (cC _ (.head _))
theorem zcS5{h:aX}{m:aJ}(g:GoodH h)(hp:zb6 m.aI=true)(hg:0<=m.gen/\m.gen<=1073741824):
    ((zJ6 h.aG m.aI m.aY m.aV).bind λ v4=>
    (if(!decide (v4.2.2=0))=true then
     some ({aX.zero with},[],[],v4.2.2)
    else
     (zt5 (({h with aG:=v4.1}).tags) (⟨m.aI,m.aY.name,m.gen⟩:bA)).bind λ v5=>
     (zf6 (({{h with aG:=v4.1}with tags:=v5}).aG) m.aY.name).bind λ v6=>
     gd (0<=v6/\v6<((({{h with aG:=v4.1}with tags:=v5}).aG).length:Int))<|
     (zg7 ((({{h with aG:=v4.1}with tags:=v5}).aG).getD v6.toNat aA.zero) m.aI).bind λ v7=>
     (zn1 ({{h with aG:=v4.1}with tags:=v5}) m ((!(zd6 v7))&&(zk3 (((({{h with aG:=v4.1}with tags:=v5}).aG).getD v6.toNat aA.zero).aB) v7 m.aY.aK))).bind λ v8=>
     (zi6 ({{h with aG:=v4.1}with tags:=v5}) v4.2.1 m.aI).bind λ v9=>
     gd (1+v9.length<=4294967296)<|
     some ({{h with aG:=v4.1}with tags:=v5},([v8]++v9),v4.2.1,0)))=some (zai8 h m):=by
  unfold zai8;have ht:=g.small;have hs:=zaT1 g.v.small m.aI m.aY m.aV;rw[zbS9,Option.bind_some]
  by_cases e:(zv1 h.aG m.aI m.aY m.aV).2.2=0
  · obtain⟨i,hi,hn,hf,e0,h1,_,hv⟩:=zbf7 e
    have hi':i<(zv1 h.aG m.aI m.aY m.aV).1.length:=by rw[h1,dP];exact hi
    have hq1:(zv1 h.aG m.aI m.aY m.aV).1.getD i aA.zero=(zy0 (h.aG.getD i aA.zero) m.aI m.aY.aK m.aV).1:=by rw[h1,zx6 _ _ _ _ hi]
    have hr:=(zD1 (g.v.each _ (zh4 (z:=aA.zero) hi)) (.claim m.aI m.aY.aK m.aV e0)).2;have hn':((zv1 h.aG m.aI m.aY m.aV).1.getD i aA.zero).aB.name=m.aY.name:=by rw[hq1,hr];exact hn
    have hf':zm5 (zv1 h.aG m.aI m.aY m.aV).1 m.aY.name=i:=by rw[<-hn'];exact zar0 hv.asc hi'
    have hq:=zo6 (hv.each _ (zh4 (z:=aA.zero) hi'));have h8:=hv.len;have hins:=zcu7 (⟨m.aI,m.aY.name,m.gen⟩:bA) false h.tags;simp only[bN,bU]at hins;rw[bL (nd0 e),bM e];simp only;rw[zck9 _ _ (by omega) g.asc,Option.bind_some];rw[zE6 _ _ (by omega),Option.bind_some,hf',za6 (by omega)];simp only[Int.toNat_natCast];rw[zx5 _ _ (by omega),Option.bind_some,zaW1 _ _ _ _ hv hf',Option.bind_some];have hgl:=zaf0 (insT (⟨m.aI,m.aY.name,m.gen⟩:bA) false h.tags) (zv1 h.aG m.aI m.aY m.aV).2.1 m.aI;have:=hs.2.2;rw[zaz8 _ _ _ (by simp only;omega) this,Option.bind_some];simp only;rw[za6 (by omega)];have hgi:=zcw8 (⟨m.aI,m.aY.name,m.gen⟩:bA) h.tags (zv1 h.aG m.aI m.aY m.aV).2.1;simp only at hgi;rw[hgi];have hd:=zcE8 e0;rw[<-hq1]at hd;have hres:((zv1 h.aG m.aI m.aY m.aV).1.getD i aA.zero).aB=(h.aG.getD i aA.zero).aB:=by rw[hq1,hr]
    rw[<-hres]at hd;rw[hd];rfl
  .rw[bM (nd1 e),bL e];rfl
theorem zcS6{t:List aA}{p:aF}{a:bF}{i:Nat}(hV:ValidT t)(hf:zm5 t a.name=i)(hw:(zt0 (t.getD i aA.zero) p).2=false)(ha:a.aK=aC.zero\/True):
    (if getH (t.getD i aA.zero).aL p≠a.aK/\(a.aK=aC.zero\/covA (t.getD i aA.zero).aB (getH (t.getD i aA.zero).aL p) a.aK=true)then(zu4 t p a).2.2=0
     else(zu4 t p a).2.2=0->(zu4 t p a).1=t/\(zu4 t p a).2.1=[]):=by
  obtain⟨hi,hn⟩:=zbt1 hf;have hq:=hV.each _ (zh4 (z:=aA.zero) hi);have hs:=((zp4 _).1 hq).1;have hL:zu4 t p a=putT t a.name (zv0 (t.getD i aA.zero) p a.aK) (if getH (t.getD i aA.zero).aL p=a.aK then[]else[zbS6 p a.name a.aK]):=by unfold zu4 atT;rw[(zs4 t).2 hV,bL (by decide),hf,bL (by omega),Int.toNat_natCast]
  by_cases c:getH (t.getD i aA.zero).aL p≠a.aK/\(a.aK=aC.zero\/covA (t.getD i aA.zero).aB (getH (t.getD i aA.zero).aL p) a.aK=true)
  · rw[bM c,hL]
    have hz:getH (t.getD i aA.zero).aL p≠aC.zero:=by
      rcases c.2 with k|k
      .rw[k]at c;exact c.1
      · intro z
        rcases((zX1 _ _ _).1 k).2.2 with y|y
        .rw[y]at c;exact c.1 z
        .exact y.1 z
    have hcov:covA (t.getD i aA.zero).aB (getH (t.getD i aA.zero).aL p) a.aK=true:=by
      rcases c.2 with k|k
      .rw[k];exact zcd2 (zaP2 hs.hv p) (zbR8 hq)
      .exact k
    have e:zv0 (t.getD i aA.zero) p a.aK=zt2 (zaa7 (t.getD i aA.zero) p a.aK):=by unfold zv0;rw[hq,bL (by decide),bL hz,hw,bL (by decide),hcov,bL (by decide),bL c.1]
    unfold putT;rw[e,bM (show(zt2 (zaa7 (t.getD i aA.zero) p a.aK)).2.2=0 from rfl)]
  · rw[bL c]
    intro h;rw[hL]at h⊢;obtain⟨e0,e1⟩:=zae9 h;obtain⟨_,_,hz,_,hcov,hh⟩:=zaa1 e0;have heq:getH (t.getD i aA.zero).aL p=a.aK:=eK λ k=>c ⟨k,.inr hcov⟩;rcases hh with⟨_,e⟩|⟨k,_⟩
    · rw[e1,e,hf,zU6,bM heq]
      exact⟨zaK9 _ _ _ hi,rfl⟩
    .exact absurd heq k
theorem zbe1{h0:aX}{m:aJ}{i:Nat}(g:GoodH h0){u:List aA}{ev:List aS}(hin:zm5 u m.aY.name=i)(gu:GoodH ⟨u,zar3 h0.tags m.aI m.aY.name (decide (m.aI∈zu6 (u.getD i aA.zero)))⟩)(he:ev.length<=1000000):
    zZ6 m (⟨u,h0.tags⟩,ev)=some (⟨u,zar3 h0.tags m.aI m.aY.name (decide (m.aI∈zu6 (u.getD i aA.zero)))⟩,zr0 m (getH (u.getD i aA.zero).aL m.aI) true::zE2 h0.tags ev m.aI,ev,0):=by
  have ht:=g.small;have hgl:=zaf0 h0.tags ev m.aI;unfold zZ6;simp only;rw[zaW1 _ _ _ _ gu.v hin,Option.bind_some,zaz8 _ _ _ (by simp only;omega) he,Option.bind_some];simp only;rw[za6 (by omega),zbe0 ⟨u,h0.tags⟩ gu.v (by simp only;omega),Option.bind_some];simp only;rw[zcE7 g gu];rfl
theorem zcl0{t:List aA}{p:aF}{nm:ByteArray}{i:Nat}(hf:zm5 t nm=i)(h:(zt9 t p nm).2.2=0):(zt0 ((zt9 t p nm).1.getD i aA.zero) p).2=false:=by
  unfold zt9 at h⊢;obtain⟨hv,j,h1,h2,h3,e⟩:=zaA5 h;have:j=i:=by omega
  subst this;rw[e]at h⊢;obtain⟨e0,e1⟩:=zae9 h;rw[e1,h1,zU6];show(zt0 ((t.set j (zw7 (t.getD j aA.zero) p).1).getD j aA.zero) p).2=false;rw[zx6 _ _ _ _ h2];obtain⟨_,_,_,ec,hs⟩:=zZ1 e0;rw[ec];show(zt0 (advS (zM1 (t.getD j aA.zero) p)) p).2=false;obtain⟨ws,o1,_⟩:=zaP3 (zM1 (t.getD j aA.zero) p);refine zaq3.2 λ w hw k=>?_;have hm:w∈ordQ (zM1 (t.getD j aA.zero) p):=by rw[o1];exact cC _ hw
  unfold ordQ zM1 at hm;simp only[cF,zaB5]at hm;rcases hm with hm|hm
  .exact hm.2 k
  .exact hm.2 k
theorem zaW2{h:aX}{m:aJ}{i:Nat}(g:GoodH h){u:List aA}{ev:List aS}(hl:i<h.aG.length)(hn:(h.aG.getD i aA.zero).aB.name=m.aY.name)(ho:Only h.aG u i m.aI)
    (hin:hasQ (u.getD i aA.zero) m.aI=true->hasQ (h.aG.getD i aA.zero) m.aI=true) (hw:(zt0 (u.getD i aA.zero) m.aI).2=false) (he:ev.length<=1000):
    zS3 m (i:Int) (⟨u,h.tags⟩,ev)=some (
      let w:=zu4 u m.aI m.aY
      let r:=if w.2.2=0 then(w.1,ev++w.2.1)else(u,ev)
      let q:=r.1.getD i aA.zero
      (⟨r.1,zar3 h.tags m.aI m.aY.name (decide (m.aI∈zu6 q))⟩,zr0 m (getH q.aL m.aI) true::zE2 h.tags r.2 m.aI,r.2,0)):=by
  have hiu:i<u.length:=by rw[ho.len];exact hl
  have hfu:zm5 u m.aY.name=i:=by rw[<-hn,<-ho.name i hl];exact zar0 ho.v.asc hiu
  have hq:=zo6 (ho.v.each _ (zh4 (z:=aA.zero) hiu));have key:=zcS6 (a:=m.aY) ho.v hfu hw (.inr trivial);have hev:=zbg1 ho.v m.aI m.aY;have gu:GoodH ⟨u,zar3 h.tags m.aI m.aY.name (decide (m.aI∈zu6 (u.getD i aA.zero)))⟩:=zbg5 g hl ho hin hn;unfold zS3;simp only;rw[za6 (by omega)];simp only[Int.toNat_natCast];rw[zx5 _ _ (by omega),Option.bind_some,za6 (by intro _;omega)]
  by_cases c:getH (u.getD i aA.zero).aL m.aI≠m.aY.aK/\(m.aY.aK=aC.zero\/covA (u.getD i aA.zero).aB (getH (u.getD i aA.zero).aL m.aI) m.aY.aK=true)
  · rw[bM c]at key
    rw[bM (by
      rw[zaQ3];have:covA (u.getD i aA.zero).aB (getH (u.getD i aA.zero).aL m.aI) m.aY.aK=zk3 (u.getD i aA.zero).aB (getH (u.getD i aA.zero).aL m.aI) m.aY.aK:=rfl;rw[<-this];simp only[bK,cK,cS,dT,bQ];exact c),zbT0,Option.bind_some,bL (nd0 key),za6 (by omega)]
    simp only[key,bS];have ho2:=ho.trans (zbd2 hfu key);have gu2:=zbg5 g hl ho2 (λ k=>hin (zcv9 hfu key k)) hn;have hf2:zm5 (zu4 u m.aI m.aY).1 m.aY.name=i:=by rw[<-hn,<-ho2.name i hl];exact zar0 ho2.v.asc (by rw[ho2.len];exact hl)
    exact zbe1 g hf2 gu2 (by rw[bP];omega)
  · rw[bL c]at key
    rw[bL (by
      rw[zaQ3];have:covA (u.getD i aA.zero).aB (getH (u.getD i aA.zero).aL m.aI) m.aY.aK=zk3 (u.getD i aA.zero).aB (getH (u.getD i aA.zero).aL m.aI) m.aY.aK:=rfl;rw[<-this];simp only[bK,cK,cS,dT,bQ];exact c)]
    by_cases l0:(zu4 u m.aI m.aY).2.2=0
    · obtain⟨k1,k2⟩:=key l0
      simp only[l0,bS,k1,k2,fB];exact zbe1 g hfu gu (by omega)
    · simp only[l0,bU]
      exact zbe1 g hfu gu (by omega)
theorem zbZ6 (h:aX) (m:aJ) (ht:h.tags.length<=1000000) (hk:kK m.kind) (h1:m.state=aZ.zero) (h3:m.options=[]):zZ0 h m=some (zN1 h m):=by
  unfold zZ0 zN1;rw[zbc0 h ht,Option.bind_some];cases hv:zR4 h with
  |false=>rfl
  |true=>
    have g:=(zan5 h).1 hv;have hV:=g.v;have h8:=hV.len;simp only[cW,bN,bU,reduceCtorEq];rw[zcw6 m hk h1 h3,Option.bind_some];cases hm:zN5 m with
    |false=>rfl
    |true=>
      have hkk:(((!decide (m.kind=1))&&(!decide (m.kind=2)))&&(!decide (m.kind=5)))=false:=by rcases hk with k|k|k<;>rw[k]<;>rfl
      rw[hkk];simp only[cW,gJ,bN,bU,reduceCtorEq];rw[zbZ5 h (by omega) hV.lens ht,Option.bind_some]
      by_cases k1:m.kind=1
      · have hp:=zcJ7 hm (.inl k1)
        rw[bM (bZ k1),bM k1];exact zcS5 g hp.1 hp.2
      . rw [bL (by simpa using k1),bL k1]
        by_cases k2:m.kind=2
        · rw[bM (bZ k2),bM k2]
          unfold zS7;rw[zE6 _ _ (by omega),Option.bind_some];rcases zak1 (t:=h.aG) (nm:=m.aY.name)with f|⟨i,f,hi,hn⟩
          .rw[f,bM (by decide),bM (by decide)];rfl
          · have hq:=zo6 (hV.each _ (zh4 (z:=aA.zero) hi))
            rw[f,bL (by simp),bL (by omega),za6 (by omega)];simp only[Int.toNat_natCast];rw[zS4 _ _ (by omega) (by omega),Option.bind_some];rcases hb (zt0 (h.aG.getD i aA.zero) m.aI).2 with hw|hw
            rotate_left
            · simp only[hw,bN,bU,bS]
              rw[zaW2 g hi hn (Only.refl hV i m.aI) id hw (by simp)]
            · simp only[hw,bS]
              rw[zbF3,Option.bind_some]
              by_cases e:(zt9 h.aG m.aI m.aY.name).2.2=0
              · have he:=zaT6 hV m.aI m.aY.name
                rw[bL (nd0 e),za6 (by omega)];simp only[bS,e];exact zaW2 g hi hn (zaU1 f e) (zby8 f e) (zcl0 f e) (by omega)
              · rw[bM (nd1 e)]
                simp only[e,bU];rfl
        · have k5:m.kind=5:=by rcases hk with k|k|k;exact absurd k k1;exact absurd k k2;exact k
          rw[bL (by simpa using k2),bL k2,bM k5];unfold zbc7;have gp:=zbV4 (m:=m) g;have hv':=zaB9 hV m.site m.inc;rw[zbT5,Option.bind_some,zaz8 _ _ _ (by simp only;omega) (zar2 _ _ _).2.2,Option.bind_some,zbe0 _ (by exact hv') (by simp only;omega),Option.bind_some];simp only;rw[zcw7 (f:=λ t=>decide (t.aI∈zl7 (zA9 h.aG m.site m.inc).1)) g gp (λ a b e=>by
            have:a.aI=b.aI:=cU Prod.fst e;simp only[this])]
theorem zbZ7{cat:List aD}(hc:cat.length=6)(hs:∀r∈cat,zd3 r=true){u:bB}(hu:TapeOk u):
  ∃m n,zj9 cat u=some (m,zH2 (n+1) u)/\kK m.kind/\m.state=aZ.zero/\m.options=[]:=by
 have o1:=zy2 hu;have o2:=zy2 o1;have o3:=zy2 o2;have o4:=zy2 o3;have o5:=zy2 o4;have o6:=zy2 o5;have o7:=zy2 o6;have r1:=zU5 (cat.length:Int) u (by omega);have hsh:=hs _ (zh4 (z:=aD.zero) (show(zX7 (cat.length:Int) u).toNat<cat.length by omega));unfold zj9;rw[zA2 _ _ hu (by omega) (by omega),Option.bind_some,za6 r1];simp only;rw[zA2 3 _ o1 (by decide) (by decide),Option.bind_some];simp only;rw[zA2 2 _ o2 (by decide) (by decide),Option.bind_some];simp only;rw[zA2 2 _ o3 (by decide) (by decide),Option.bind_some];simp only;rw[zA2 9 _ o4 (by decide) (by decide),Option.bind_some];simp only;rw[zA2 9 _ o5 (by decide) (by decide),Option.bind_some];simp only;split
 .rw[zA2 8 _ o6 (by decide) (by decide),Option.bind_some];simp only;rw[zaq7 _ _ hsh,Option.bind_some,zA2 3 _ o7 (by decide) (by decide),Option.bind_some];exact⟨_,7,rfl,.inl rfl,rfl,rfl⟩
 .split
  .split
   .rw[zA2 8 _ o6 (by decide) (by decide),Option.bind_some];simp only;rw[zaq7 _ _ hsh,Option.bind_some];exact⟨_,6,rfl,.inr (.inl rfl),rfl,rfl⟩
   .exact⟨_,5,rfl,.inr (.inl rfl),rfl,rfl⟩
  .rw[zA2 3 _ o6 (by decide) (by decide),Option.bind_some];simp only;rw[zA2 3 _ o7 (by decide) (by decide),Option.bind_some];exact⟨_,7,rfl,.inr (.inr rfl),rfl,rfl⟩
def zs1(a b:Int):aJ:={aJ.zero with kind:=5,inc:=(IntKind.i64.wrap (1+((IntKind.i64.wrap b).tmod 3))),site:=((IntKind.i64.wrap a).tmod 3)}
theorem zcl1{a b:Int}(ha:0<=a/\a<256)(hb:0<=b/\b<256):zN5 (zs1 a b)=true:=by
 have e1:IntKind.i64.wrap a=a:=zj5 (by omega) (by omega);have e2:IntKind.i64.wrap b=b:=zj5 (by omega) (by omega);have t1:a.tmod 3=a% 3:=jJ ha.1;have t2:b.tmod 3=b% 3:=jJ hb.1;have e3:IntKind.i64.wrap (1+b% 3)=1+b% 3:=zj5 (by omega) (by omega);unfold zs1 zN5;rw[e1,e2,t1,t2,e3];have e5:zG4 5=[83,73]:=by unfold zG4;rw[ByteArray.toList_eq];rfl
 have hz:zbo0 aZ.zero=true:=rfl;simp only[e5,List.all_cons,List.all_nil,List.foldl_cons,List.foldl_nil];simp[zai7,clrF,zbo1,aJ.zero,inN,hz,zaP7];omega
theorem zbz5{h:aX}(g:GoodH h){a b:Int}(ha:0<=a/\a<256)(hb':0<=b/\b<256):zB6 a b h=some true:=by
 have hV:=g.v;have h8:=hV.len;have hs:=g.small;have e:zN1 h (zs1 a b)=zbc7 h (zs1 a b):=by unfold zN1;rw[(zan5 h).2 g,zcl1 ha hb',bL (by decide),bL (by decide),bL (show¬(zs1 a b).kind=1 by show¬(5:Int)=1;decide),bL (show¬(zs1 a b).kind=2 by show¬(5:Int)=2;decide),bM (show(zs1 a b).kind=5 from rfl)]
 have hv:=zaB9 hV (zs1 a b).site (zs1 a b).inc;have hr:=zaT4 hV (zs1 a b).site (zs1 a b).inc;have hp:=zbD0 hV (zs1 a b).site (zs1 a b).inc;have hlen:(zA9 h.aG (zs1 a b).site (zs1 a b).inc).1.length=h.aG.length:=by rw[hr,zce1]
 have hpl:=hV.bJ;have hold:∀p:aF,(decide (p.site=(zs1 a b).site)&&decide (p.inc<(zs1 a b).inc))=oldP (zs1 a b).site (zs1 a b).inc p:=λ p=>rfl;unfold zB6;rw[show({aJ.zero with kind:=5,inc:=(IntKind.i64.wrap (1+((IntKind.i64.wrap b).tmod 3))),site:=((IntKind.i64.wrap a).tmod 3)}:aJ)=zs1 a b from rfl,zai0 h _ (by omega) (.inr (.inr rfl)),Option.bind_some,e];unfold zbc7;simp only;rw[bL (by simp[hlen]),zae6 hv.len hv.each,Option.bind_some,hp];have hlp:((zl7 h.aG).filter λ p=>!oldP (zs1 a b).site (zs1 a b).inc p).length<=8:=eV (gD _ _) hpl;rw[zU7 ((zl7 h.aG).filter λ p=>!oldP (zs1 a b).site (zs1 a b).inc p).length (λ _=>true) (λ i hi=>by
  unfold zR1;have h3:0<=(i:Int)/\(i:Int)<(((zl7 h.aG).filter λ p=>!oldP (zs1 a b).site (zs1 a b).inc p).length:Int):=by omega
  have hm:=(cV.1 (zh4 (z:=aF.zero) hi)).2;rw[show({aJ.zero with kind:=5,inc:=(IntKind.i64.wrap (1+((IntKind.i64.wrap b).tmod 3))),site:=((IntKind.i64.wrap a).tmod 3)}:aJ)=zs1 a b from rfl];simp only[h3.1,h3.2,cP,zk1,bV,bS,Int.toNat_natCast,hold];rw[bL (by rw[fR];simpa using hm),zj5 (by omega) (by omega)]) (by unfold zR1;simp),zaG2,bM rfl,Option.bind_some]
 unfold zR0;rw[zae6 hV.len hV.each,Option.bind_some];rw[zU7 (zl7 h.aG).length (λ _=>true) (λ i hi=>by
  unfold zB5;have h3:0<=(i:Int)/\(i:Int)<((zl7 h.aG).length:Int):=by omega
  rw[show({aJ.zero with kind:=5,inc:=(IntKind.i64.wrap (1+((IntKind.i64.wrap b).tmod 3))),site:=((IntKind.i64.wrap a).tmod 3)}:aJ)=zs1 a b from rfl];simp only[h3.1,h3.2,cP,zk1,bV,bS,Int.toNat_natCast,hold];cases ho:oldP (zs1 a b).site (zs1 a b).inc ((zl7 h.aG).getD i aF.zero)with
  |true=>rw[bM rfl,zj5 (by omega) (by omega)]
  |false=>
   rw[bL (by decide)];have hn:(zl7 h.aG).getD i aF.zero∉(zl7 h.aG).filter (oldP (zs1 a b).site (zs1 a b).inc):=λ k=>by have:=(cV.1 k).2;rw[ho]at this;cases this
   rw[zU7 h.aG.length (λ _=>true) (λ j hj=>by
    have hq:=hV.each _ (zh4 (z:=aA.zero) hj);have l1:=zo6 hq;have l2:=zo6 (hv.each _ (zh4 (z:=aA.zero) (show j<(zA9 h.aG (zs1 a b).site (zs1 a b).inc).1.length by rw[hlen];exact hj)));unfold zQ9;have h4:0<=(j:Int)/\(j:Int)<(h.aG.length:Int):=by omega
    simp only[h4.1,h4.2,cP,zk1,bV,bS,Int.toNat_natCast];rw[zx5 _ _ (by omega),Option.bind_some,za6 (by rw[hlen];exact⟨trivial,h4.2⟩),zx5 _ _ (by omega),Option.bind_some];have hd:(zA9 h.aG (zs1 a b).site (zs1 a b).inc).1.getD j aA.zero=remS (h.aG.getD j aA.zero) ((zl7 h.aG).filter (oldP (zs1 a b).site (zs1 a b).inc)):=by rw[hr];exact zaQ0 _ _ _ _ _ hj
    have hc:=(zbC7 _ hq hn).1;rw[<-hd]at hc;have hc':zk3 (h.aG.getD j aA.zero).aB (getH ((zA9 h.aG (zs1 a b).site (zs1 a b).inc).1.getD j aA.zero).aL ((zl7 h.aG).getD i aF.zero)) (getH (h.aG.getD j aA.zero).aL ((zl7 h.aG).getD i aF.zero))=true:=hc;rw[bL (by
     rw[hc',zaQ3,zaQ3];rcases((zX1 _ _ _).1 hc).2.2 with k|k
     .rw[bZ k];simp
     .rw[fU k.1];simp),zj5 (by omega) (by omega)]) (by unfold zQ9;simp),zaG2,bM rfl,Option.bind_some]
   unfold zaa6;rw[zj5 (by omega) (by omega)]) (by unfold zB5;simp),zaG2,bM rfl,Option.bind_some]
 unfold zQ8;simp only;have hgl:=zaf0 h.tags (zA9 h.aG (zs1 a b).site (zs1 a b).inc).2 aF.zero;have hpe:=(zar2 h.aG (zs1 a b).site (zs1 a b).inc).2.2;rw[zU7 (zE2 h.tags (zA9 h.aG (zs1 a b).site (zs1 a b).inc).2 aF.zero).length (λ _=>true) (λ i hi=>by
  unfold zQ7;have h3:0<=(i:Int)/\(i:Int)<((zE2 h.tags (zA9 h.aG (zs1 a b).site (zs1 a b).inc).2 aF.zero).length:Int):=by omega
  have hm:=zh4 (z:=aW.zero) hi;simp only[h3.1,h3.2,cP,zk1,bV,bS,Int.toNat_natCast];have hk:((zE2 h.tags (zA9 h.aG (zs1 a b).site (zs1 a b).inc).2 aF.zero).getD i aW.zero).message.kind=4:=by unfold zE2 at hm⊢;obtain⟨v,_,e⟩:=bW.1 hm;rw[<-e];rfl
  rw[bL (by rw[bZ hk];decide),zj5 (by omega) (by omega)]) (by unfold zQ7;simp),zaG2,bM rfl,Option.bind_some]
 unfold zaa5;simp only;rw[zN6];rfl
theorem zbG2(l:List Int)(a b:Int)(ha:0<=a/\a<256)(hb':0<=b/\b<256):zD4 l a b=some true:=by
 unfold zD4
 by_cases hL:zF0 l=true
 .have hl:l.length<=1000000:=by unfold zF0 at hL;simp at hL;omega
  have hu:=zbT6 hl;rw[hL,bL (by decide),show({bB.zero with l:=l}:bB)=zac0 l from rfl,zcE1 _ hu,Option.bind_some];simp only;rw[zbs5,zdg5,Option.bind_some];obtain⟨x,hx,gx⟩:=zap9 (body:=zR2 (zaQ1 (zac0 l),zH2 8 (zac0 l))) (λ w=>TapeOk w.1/\GoodH w.2) (λ w=>w.1.l.length-w.1.at_.toNat) (λ x=>GoodH x) (by
   rintro⟨u,h⟩ ⟨ho,g⟩;simp only at ho g;unfold zR2 zc1;simp only[Option.bind_some]
   by_cases hm:u.at_<(u.l.length:Int)
   .rw[bM (bZ hm)];obtain⟨m,n,e,hk,z1,z2⟩:=zbZ7 (zaQ2 (zac0 l)) (zaC2 (zac0 l)) ho;have hs:=g.small;rw[e,Option.bind_some];simp only;rw[zbZ6 h m (by omega) hk z1 z2,Option.bind_some]
    by_cases e0:(zN1 h m).2.2.2=0
    .rw[bM (by simp[e0])];exact .inl ⟨(zH2 (n+1) u,(zN1 h m).1),rfl,⟨zak0 _ ho,zby9 e0⟩,zau8 ho hm n⟩
    .rw[bL (by simp[e0])];exact .inl ⟨(zH2 (n+1) u,h),rfl,⟨zak0 _ ho,g⟩,zau8 ho hm n⟩
   .rw[bL (by simpa using hm)];exact .inr ⟨_,rfl,g⟩) (zH2 8 (zac0 l),zce8 (zac0 l)) ⟨zak0 8 hu,zbo4 _⟩
  rw[hx,Option.bind_some];exact zbz5 gx ha hb'
 .rw[bM (by simpa using hL),zN6];rfl
end Ab
end Go.Proofs.YtdlfhmkmnjbihaaGreatDoor
