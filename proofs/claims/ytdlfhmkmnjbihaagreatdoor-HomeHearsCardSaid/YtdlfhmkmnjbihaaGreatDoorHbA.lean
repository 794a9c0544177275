import Derived.Test.YtdlfhmkmnjbihaaGreatDoorTabA
import Derived.Test.YtdlfhmkmnjbihaaGreatDoorHm33
namespace Go.Proofs.YtdlfhmkmnjbihaaGreatDoor
namespace Ab
set_option linter.unusedVariables false
set_option linter.unusedSimpArgs false
theorem zbN7(x:aF)(s:List aF)(hs:s.Pairwise ltP)(hx:x∉s)(hl:s.length<=1000000):zc1 (zO3) ((s.length:Int),s++[x])=some (zaL2 x s):=by
 obtain⟨r,h1,h2⟩:=zaR1 (body:=zO3) (λ g=>∃pre post:List aF,g=((pre.length:Int),pre++x::post)/\pre++post=s/\∀y∈post,ltP x y) (λ g=>g.1.toNat) (λ r=>r=zaL2 x s) (by
  rintro g ⟨pre,post,rfl,hp,hpost⟩;have hpl:pre.length+post.length=s.length:=by rw[<-hp,bR]
  unfold zO3;simp only[bR,List.length_cons]
  by_cases h0:pre=[]
  .right;subst h0;refine⟨_,by rw[zb0 (by simp),zb0 (by simp),bN (by simp)],?_⟩;simp only[List.nil_append]at hp⊢;subst hp;refine zaG8 (cL.2 ⟨hpost,hs⟩) (zaH0 hs) λ y=>?_;rw[zaG9,bX]
  .obtain⟨pre',y,rfl⟩:∃p' y,pre=p'++[y]:=⟨pre.dropLast,pre.getLast h0,(List.dropLast_concat_getLast h0).symm⟩;have hk:(pre'++[y]).length=pre'.length+1:=by simp
   rw[hk]at hpl⊢;have w:IntKind.i64.wrap (((pre'.length+1:Nat):Int)-1)=(pre'.length:Int):=by rw[zk8 (by omega) (by omega)];omega
   have e1:(pre'++[y]++x::post).getD pre'.length aF.zero=y:=by simp[bS]
   have e2:(pre'++[y]++x::post).getD (pre'.length+1) aF.zero=x:=by simp[bS]
   have g1:0<=(pre'.length:Int)/\(pre'.length:Int)<((pre'.length+1+(post.length+1):Nat):Int):=by omega
   have g2:0<=((pre'.length+1:Nat):Int)/\((pre'.length+1:Nat):Int)<((pre'.length+1+(post.length+1):Nat):Int):=by omega
   have hpos:decide (0<((pre'.length+1:Nat):Int))=true:=cB (by omega);simp only[w,Int.toNat_natCast,e1,e2,hpos,cA];rw[zb0 (λ _=>g1),zb0 (λ _=>g2)];have hlt:decide (0<zt7 y x)=decide (ltP x y):=by rw[fZ];exact zce7 y x
   rw[hlt]
   by_cases hxy:ltP x y
   .left;rw[bO (cB hxy),zb0 g1,zb0 g2,zb0 g1,zb0 g2];refine⟨((pre'.length:Int),pre'++x::(y::post)),?_,⟨pre',y::post,rfl,by rw[<-hp];simp,λ z hz=>?_⟩,by simp only[Int.toNat_natCast];omega⟩
    .congr 3;rw[bZ,gP _ _ (cU _),iK,gP _ _ (by omega),show pre'.length+1-pre'.length=1 by omega];rfl
    .rcases bX.1 hz with rfl|hz
     .exact hxy
     .exact hpost z hz
   .right;refine⟨_,by rw[bN (by simpa using hxy)],?_⟩;have hyx:ltP y x:=by
     rcases zaj6 (p:=x) (q:=y) (λ e=>hx (by rw[<-hp,e];simp))with h|h
     .exact absurd h hxy
     .exact h
    rw[<-hp]at hs;obtain⟨a1,a2,a3⟩:=fE.1 hs;obtain⟨b1,b2,b3⟩:=fE.1 a1;have hpre:∀z∈pre'++[y],ltP z x:=λ z hz=>by
     rcases cP.1 hz with hz|hz
     .exact zaG0 (b3 z hz y (by simp)) hyx
     .rw[dS]at hz;rw[hz];exact hyx
    rw[<-hp];refine zaG8 (fE.2 ⟨a1,cL.2 ⟨hpost,a2⟩,λ z hz u hu=>?_⟩) (zaH0 hs) λ z=>?_
    .rcases bX.1 hu with rfl|hu
     .exact hpre z hz
     .exact a3 z hz u hu
    .rw[zaG9];simp only[cP,bX,dS];constructor
     .rintro((h|h)|h|h)
      .exact .inr (.inl (.inl h))
      .exact .inr (.inl (.inr h))
      .exact .inl h
      .exact .inr (.inr h)
     .rintro(h|(h|h)|h)
      .exact .inr (.inl h)
      .exact .inl (.inl h)
      .exact .inl (.inr h)
      .exact .inr (.inr h)) ((s.length:Int),s++[x]) ⟨s,[],by simp,by simp,by simp⟩
 rw[h1,h2]
theorem zax6(l:List aF)(hl:l.length<=1000000):zh6 l=some (zbo9 l):=by
 unfold zh6;have key:=zv8 (body:=zC7 l) l aF.zero (λ i (s:List aF)=>((i:Int),s)) (λ _ p s=>some (.inl (zaL2 p s))) (λ s=>s) (λ i s=>s.Pairwise ltP/\s.length<=i)
  (λ i s hi hs=>by
   have hlen:∀p,(zaL2 p s).length<=s.length+1:=λ p=>by
    have:=dO (zbt3 (zaH0 (p:=p) hs.1)) (l₂:=p::s) λ z hz=>by
     rcases zaG9.1 hz with rfl|h
     .exact .head _
     .exact .tail _ h
    simpa using this
   refine⟨?_,λ s' h=>?_⟩
   .unfold zC7;have h3:0<=(i:Int)/\(i:Int)<(l.length:Int):=by omega
    simp only[h3.1,h3.2,cN,zl3,bU,bT,Int.toNat_natCast];rw[zbc4 _ _ (by omega),Option.bind_some,zc2 i (by omega)]
    by_cases hm:l.getD i aF.zero∈s
    .rw[bO (cB hm),Option.map_some,zcV6 hs.1 hm];rfl
    .rw[bN (by rw[bQ];exact hm),zb0 (by omega),zbN7 _ _ hs.1 hm (by omega),Option.bind_some];unfold zan3;simp only[zc2 i (show i<4611686018427387904 by omega),Option.map_some,wmap]
   .simp only[cK,dW]at h;subst h;exact⟨zaH0 hs.1,by have:=hlen (l.getD i aF.zero);omega⟩)
  (λ s hs=>by unfold zC7;simp) [] ⟨.nil,by simp⟩
 rw[show((0,[]):Int×List aF)=(λ(i:Nat) (s:List aF)=>((i:Int),s)) 0 []from rfl,key,zbB1 (λ s p=>zaL2 p s)];rfl
theorem zav1{α β:Type}(l:List α)(z:α)(f:α->β)(s0:List β){body:Int×List β->Option ((Int×List β)⊕List β)}(hl:l.length<=1000000)(h0:s0.length<=1000000)
  (hb:∀(i:Nat) (s:List β),i<l.length->s.length<=3000000->body ((i:Int),s)=some (.inl (((i+1:Nat):Int),s++[f (l.getD i z)]))) (he:∀s,body ((l.length:Int),s)=some (.inr s)):zc1 body (0,s0)=some (s0++l.map f):=by
 have key:=zv8 (body:=body) l z (λ i (s:List β)=>((i:Int),s)) (λ i a s=>some (.inl (zbb3 s (some (f a))))) (λ s=>s) (λ i s=>s.length<=1000000+i)
  (λ i s hi hs=>⟨by rw[hb i s hi (by omega)];rfl,λ s' h=>by simp only[cK,dW]at h;subst h;simp[zbb3];omega⟩) (λ s hs=>he s) s0 (by omega)
 rw[show((0,s0):Int×List β)=(λ(i:Nat) (s:List β)=>((i:Int),s)) 0 s0 from rfl,key,zbb4 (λ a=>some (f a))];simp
theorem zbN8(l:List aT)(hl:l.length<=1000000):zf8 l=some (l.map (·.aI)):=by
 unfold zf8;rw[zav1 l aT.zero (·.aI) [] hl (by simp) (λ i s hi hs=>by
  unfold zag7;have h3:0<=(i:Int)/\(i:Int)<(l.length:Int):=by omega
  have h1:s.length+1<=4294967296:=by omega
  simp only[h1,h3.1,h3.2,cN,zl3,bU,bT,Int.toNat_natCast,zc2 i (show i<4611686018427387904 by omega)]) (λ s=>by unfold zag7;simp)]
 rfl
theorem zch4(q:aA)(h1:q.aH.length<=1000)(h2:q.aU.length<=1000):zk4 q=some ((ordQ q).map (·.aI)):=by
 unfold zk4;rw[zav1 q.aH aM.zero (·.aI) [] (by omega) (by simp) (λ i s hi hs=>by
  unfold zaq3;have h3:0<=(i:Int)/\(i:Int)<(q.aH.length:Int):=by omega
  have h1:s.length+1<=4294967296:=by omega
  simp only[h1,h3.1,h3.2,cN,zl3,bU,bT,Int.toNat_natCast,zc2 i (show i<4611686018427387904 by omega)]) (λ s=>by unfold zaq3;simp),Option.bind_some]
 unfold zaq2;rw[zav1 q.aU aM.zero (·.aI) _ (by omega) (by simp;omega) (λ i s hi hs=>by
  unfold zaq1;have h3:0<=(i:Int)/\(i:Int)<(q.aU.length:Int):=by omega
  have h1:s.length+1<=4294967296:=by omega
  simp only[h1,h3.1,h3.2,cN,zl3,bU,bT,Int.toNat_natCast,zc2 i (show i<4611686018427387904 by omega)]) (λ s=>by unfold zaq1;simp),Option.bind_some]
 unfold zaE6 ordQ;rw[eE,List.nil_append]
theorem zbp2(q:aA)(h0:q.aL.length<=1000)(h1:q.aH.length<=1000)(h2:q.aU.length<=1000):zr4 q=some (zA0 q):=by
 unfold zr4 zA0;have hl:(ordQ q).length<=2000:=by unfold ordQ;rw[bR];omega
 rw[zbN8 _ (by omega),Option.bind_some,zch4 q h1 h2,Option.bind_some,zb0 (by simp;omega),zax6 _ (by simp;omega)];rfl
theorem zaC8{t:List aA}(hl:t.length<=8)(h:∀q∈t,zi0 q=true):zv7 t=some (zq7 t):=by
 unfold zv7;have key:=zv8 (body:=zae1 t) t aA.zero (λ i (s:List aF)=>((i:Int),s)) (λ _ q s=>some (.inl (s++zA0 q))) (λ s=>s) (λ i s=>s.length<=24*i)
  (λ i s hi hs=>by
   have hq:=h _ (zm9 (z:=aA.zero) hi);have hql:=zu8 hq;have hpl:=zbc6 hq;refine⟨?_,λ s' h=>?_⟩
   .unfold zae1;have h3:0<=(i:Int)/\(i:Int)<(t.length:Int):=by omega
    simp only[h3.1,h3.2,cN,zl3,bU,bT,Int.toNat_natCast];rw[zbp2 _ (by omega) (by omega) (by omega),Option.bind_some,zb0 (by omega),zc2 i (by omega)];rfl
   .simp only[cK,dW]at h;subst h;rw[bR];omega)
  (λ s hs=>by unfold zae1;simp) [] (by simp)
 rw[show((0,[]):Int×List aF)=(λ(i:Nat) (s:List aF)=>((i:Int),s)) 0 []from rfl,key,zch3 zA0,List.nil_append,Option.bind_some];unfold zaF2;have:=zbt6 t h;rw[zax6 _ (by omega)];rfl
theorem zbp3(t:List aA):zG2 t=some (zat9 t):=by
 unfold zG2 zat9
 by_cases h8:8<t.length
 .have:¬t.length<=8:=by omega
  rw[bO (by simp;omega)];simp[this]
 .have hl:t.length<=8:=by omega
  rw[bN (by simp;omega),zbB6 t hl (λ i hi=>by
   unfold zar7;have h3:0<=(i:Int)/\(i:Int)<(t.length:Int):=by omega
   simp only[h3.1,h3.2,cN,fK,zl3,bU,bT,Int.toNat_natCast,zao6,Option.bind_some,zc2 i (by omega)]
   by_cases e0:i=0
   .subst e0;rw[zb0 (by simp)];cases zi0 (t.getD 0 aA.zero)<;>simp
   .rw[zX8 i (by omega) (by omega),zb0 (by intro _;omega)];simp only[Int.toNat_natCast,show(0:Int)<(i:Int)by omega,bU,cA,e0,iB];unfold ltN;rcases hb (zi0 (t.getD i aA.zero))with b1|b1<;>rcases hb (Op.bytesLess (t.getD (i-1) aA.zero).aB.name.toList (t.getD i aA.zero).aB.name.toList)with b2|b2<;>simp[b1,b2,-List.getD_eq_getElem?_getD]) (by unfold zar7;simp)]
  simp only[hl,bU,cA];cases hw:ascW t none<;>rfl
theorem zaf1(t:List aA):zD2 t=some (zK4 t):=by
 unfold zD2 zK4;rw[zbp3,Option.bind_some];cases hp:zat9 t with
 |false=>rfl
 |true=>obtain⟨h1,h2,_⟩:=(zaS1 t).1 hp;rw[bO rfl,zaC8 h1 h2,Option.bind_some,cA];congr 1;rw[cJ];simp;omega
theorem zN5(t:List aA)(nm:ByteArray)(hl:t.length<=1000000):zh4 t nm=some (zr8 t nm):=by
 unfold zh4;rw[zct6 t aA.zero (isN nm) (λ i hi=>by
  unfold zav6 isN;have h3:0<=(i:Int)/\(i:Int)<(t.length:Int):=by omega
  simp only[h3.1,h3.2,cN,zl3,bU,bT,Int.toNat_natCast,zc2 i (by omega)];split<;>rfl) (by unfold zav6;simp)]
 unfold zr8;cases t.findIdx? (isN nm)<;>rfl
theorem zcW5(a b:List aA)(h:a.length=b.length)(hl:a.length<=1000000)(hs:∀q∈a,q.aL.length<=1000/\q.aH.length<=1000/\q.aU.length<=1000):
  zc1 (zX0 a b) 0=some (if a=b then .inl ()else .inr false):=by
 have key:zc1 (zX0 a b) 0=some ((zG5 (λ i=>if decide (a.getD i aA.zero=b.getD i aA.zero)=true then none else some (Sum.inr false)) a.length 0).getD (Sum.inl ())):=by
  refine zE8 a.length _ (Sum.inl ()) (λ i hi=>?_) ?_
  .have hq:=hs _ (zm9 (z:=aA.zero) hi);unfold zX0;rw[bO (by simpa using hi),zb0 (by omega),zb0 (by omega),zk8 (by omega) (by omega)];simp only[Int.toNat_natCast];rw[zco4 _ _ (by omega) (by omega) (by omega),Option.bind_some]
   by_cases hx:a.getD i aA.zero=b.getD i aA.zero
   .simp only[hx,bU,cI,bP,bV,bT]
   .simp only[hx,cV,dI,bT,bP,bV]
  .unfold zX0;rw[bN (by simp)]
 rw[key,zM5,<-dZ,zdA9 a b aA.zero h]
 by_cases e:a=b<;>simp[e]
theorem zaY3(a b:List aA)(hl:a.length<=1000000)(hs:∀q∈a,q.aL.length<=1000/\q.aH.length<=1000/\q.aU.length<=1000):zq0 a b=some (decide (a=b)):=by
 unfold zq0
 by_cases h:a.length=b.length
 .rw[bN (by simp[h]),zcW5 a b h hl hs]
  by_cases e:a=b<;>simp[e,zaM0]
 .have:¬a=b:=λ e=>h (by rw[e]);rw[bO (by simp;omega),fF this]
theorem zbx5(a b:List aY)(ha:a.length<=1000000):zc6 a b=some (decide (a=b)):=by
 unfold zc6
 by_cases h:a.length=b.length
 .rw[bN (by simp[h])];exact zbs3 a b aY.zero (by omega) h (λ i=>rfl)
 .have:¬a=b:=λ e=>h (by rw[e]);rw[bO (by simp;omega),fF this]
def zcA1(nm:ByteArray)(h:aT):aY:=⟨1,h.aI,nm,h.aJ⟩
def zah7(nm:ByteArray)(l:List aT):List aY:=l.map (zcA1 nm)
def zdC4(p:aF)(nm:ByteArray)(a:aC):aY:=⟨3,p,nm,a⟩
theorem zdd6(nm:ByteArray)(l:List aT)(hl:l.length<=1000000):zg5 nm l=some (zah7 nm l):=by
 unfold zg5;rw[zav1 l aT.zero (zcA1 nm) [] hl (by simp) (λ i s hi hs=>by
  unfold zal0;have h3:0<=(i:Int)/\(i:Int)<(l.length:Int):=by omega
  have h1:s.length+1<=4294967296:=by omega
  simp only[h1,h3.1,h3.2,cN,zl3,bU,bT,Int.toNat_natCast,zc2 i (show i<4611686018427387904 by omega)];rfl) (λ s=>by unfold zal0;simp)]
 rfl
theorem zcK8(nm:ByteArray)(l:List aT)(ev:List aY)(hl:l.length<=1000000)(he:ev.length<=1000000):ze5 nm l ev=some (ev++zah7 nm l):=by
 unfold ze5;rw[zav1 l aT.zero (zcA1 nm) ev hl he (λ i s hi hs=>by
  unfold zag6;have h3:0<=(i:Int)/\(i:Int)<(l.length:Int):=by omega
  have h1:s.length+1<=4294967296:=by omega
  simp only[h1,h3.1,h3.2,cN,zl3,bU,bT,Int.toNat_natCast,zc2 i (show i<4611686018427387904 by omega)];rfl) (λ s=>by unfold zag6;simp)]
 rfl
theorem zcK9(nm:ByteArray)(l:List aT)(ev:List aY)(hl:l.length<=1000000)(he:ev.length<=1000000):zf6 nm l ev=some (ev++zah7 nm l):=by have e:zf6 nm l ev=ze5 nm l ev:=rfl;rw[e];exact zcK8 nm l ev hl he
theorem zaI2(nm:ByteArray)(l:List aT)(hl:l.length<=1000000):ze6 nm l=some (zah7 nm l):=by
 unfold ze6;rw[zav1 l aT.zero (zcA1 nm) [] hl (by simp) (λ i s hi hs=>by
  unfold zal1;have h3:0<=(i:Int)/\(i:Int)<(l.length:Int):=by omega
  have h1:s.length+1<=4294967296:=by omega
  simp only[h1,h3.1,h3.2,cN,fK,zl3,bU,bT,Int.toNat_natCast,zc2 i (show i<4611686018427387904 by omega)];rfl) (λ s=>by unfold zal1;simp)]
 rfl
def zaM8(t:List aA)(i:Int)(q:aA):List aA:=if 0<=i then t.set i.toNat q else t
def Lens(t:List aA):Prop:=∀q∈t,q.aL.length<=1000/\q.aH.length<=1000/\q.aU.length<=1000
theorem zcA2(t:List aA)(hl:t.length<=1000)(hs:Lens t):zc1 (zU9 t) (0,List.replicate t.length aA.zero)=some t:=by
 obtain⟨x,hx,hp⟩:=zaR1 (body:=zU9 t) (λ g=>∃i:Nat,i<=t.length/\g.1=(i:Int)/\g.2.length=t.length/\g.2.take i=t.take i) (λ g=>t.length-g.1.toNat) (λ x=>x=t) (by
  rintro⟨gi,s⟩ ⟨i,hi,h1,h2,h3⟩;simp only at h1 h2 h3;subst h1;unfold zU9
  by_cases hlt:i<t.length
  .left;have hq:=hs _ (zm9 (z:=aA.zero) hlt);have g3:0<=(i:Int)/\(i:Int)<(t.length:Int):=by omega
   have g4:0<=(i:Int)/\(i:Int)<((s.length:Nat):Int):=by omega
   refine⟨(((i+1:Nat):Int),s.set i (t.getD i aA.zero)),?_,⟨i+1,by omega,rfl,by simp[h2],?_⟩,by simp only[Int.toNat_natCast];omega⟩
   .simp only[Int.toNat_natCast,zc2 i (show i<4611686018427387904 by omega)];rw[bO (cB g3.2),zb0 g3,zb0 (by omega),zb0 (by omega),zb0 (by omega),zb0 g4]
   .simp only;rw[zaO8 (z:=aA.zero) (show i<(s.set i (t.getD i aA.zero)).length by rw[eA];omega),iN (cU _),h3,zaI1 _ _ _ _ (by omega),zaO8 (z:=aA.zero) hlt]
  .right;have:i=t.length:=by omega
   subst this;refine⟨s,by rw[bN (by simp)],?_⟩;rw[dN (by omega),fH]at h3;exact h3) (0,List.replicate t.length aA.zero) ⟨0,by omega,rfl,by simp,by simp⟩
 rw[hx,hp]
theorem zT9(t:List aA)(i:Int)(q:aA)(hl:t.length<=1000)(hs:Lens t)(hi:i<t.length):zd6 t i q=some (zaM8 t i q):=by
 unfold zd6;rw[zb0 (by omega),Int.toNat_natCast,zcA2 t hl hs,Option.bind_some];unfold zax1 zaM8
 by_cases h0:0<=i
 .rw[bO (cB h0),zb0 (by omega),bO h0]
 .rw[bN (by simpa using h0),bN h0]
theorem zbB7(t:List aA)(i:Int)(q:aA)(hl:t.length<=1000)(hs:Lens t)(hi:i<t.length):zd3 t i q=some (zaM8 t i q):=by have e:zd3 t i q=zd6 t i q:=rfl;rw[e];exact zT9 t i q hl hs hi
theorem zaH1(t:List aA)(i:Int)(q:aA)(hl:t.length<=1000)(h0:0<=i)(hi:i<t.length):ze1 t i q=some (zaM8 t i q):=by unfold ze1 zaM8;rw[zb0 (by omega),zb0 (by omega),bO h0]
theorem ValidT.lens{t:List aA}(h:ValidT t):Lens t:=λ q hq=>by have:=zu8 (h.each q hq);omega
abbrev ResT:=List aA×List aY×Int
def errT(e:Int):ResT:=([],[],e)
def putT(t:List aA)(nm:ByteArray)(x:aA×List aT×Int)(ev:List aY):ResT:=if x.2.2=0 then(zaM8 t (zr8 t nm) x.1,ev++zah7 nm x.2.1,0)else errT x.2.2
def atT(t:List aA)(nm:ByteArray)(f:aA->ResT):ResT:=if zK4 t=false then errT 2 else if zr8 t nm<0 then errT 10 else f (t.getD (zr8 t nm).toNat aA.zero)
def zbi9(t:List aA)(p:aF):Bool:=decide (8<=(zq7 t).length)&&!decide (p∈zq7 t)
def zE9(t:List aA)(p:aF)(a:aO)(pr:Int):ResT:=atT t a.name λ q=>if zbi9 t p=true then errT 4 else putT t a.name (zI6 q p a.aJ pr) []
def zE3(t:List aA)(p:aF)(nm:ByteArray):ResT:=atT t nm λ q=>putT t nm (zI3 q p) []
def zF0(t:List aA)(p:aF)(a:aO):ResT:=atT t a.name λ q=>putT t a.name (zE2 q p a.aJ) (if getH q.aL p=a.aJ then[]else[zdC4 p a.name a.aJ])
theorem nd0{P:Prop}[Decidable P](h:P):¬((!decide P)=true):=by simp[h]
theorem nd1{P:Prop}[Decidable P](h:¬P):(!decide P)=true:=by simp[h]
theorem zbp4(t:List aA)(nm:ByteArray):zah2 t nm=some (if zK4 t=false then(0,2)else if zr8 t nm<0 then(0,10)else(zr8 t nm,0)):=by
 unfold zah2;rw[zaC7,Option.bind_some];cases hv:zK4 t with
 |false=>rfl
 |true=>
  have hl:=((zx3 t).1 hv).len;rw[ifNT,ifTF,zaY2 _ _ (by omega),Option.bind_some]
  by_cases hf:zr8 t nm<0
  .rw[bO (cB hf),bO hf]
  .rw[bN (by simpa using hf),bN hf]
theorem zax7{t:List aA}{nm:ByteArray}(h:¬zr8 t nm<0):0<=zr8 t nm/\zr8 t nm<t.length:=by
 rcases zav0 (t:=t) (nm:=nm)with h1|⟨i,h1,h2,_⟩
 .omega
 .omega
theorem zbf3{t:List aA}(h:ValidT t){nm:ByteArray}(hf:¬zr8 t nm<0):zi0 (t.getD (zr8 t nm).toNat aA.zero)=true:=by have:=zax7 hf;exact h.each _ (zm9 (by omega))
theorem zdO8{t:List aA}(h:ValidT t)(p:aF):((!decide (p∈zq7 t))&&(decide (8<=((zq7 t).length:Int))))=zbi9 t p:=by unfold zbi9;rw[Bool.and_comm];congr 1;rw[fZ];omega
theorem zch5(t:List aA)(p:aF)(a:aO)(pr:Int):zaj4 t p a pr=some (zE9 t p a pr):=by
 unfold zaj4 zE9 atT;rw[zbp4,Option.bind_some];cases hv:zK4 t with
 |false=>rfl
 |true=>
  have h:=(zx3 t).1 hv;have hl:=h.len;have hpl:=h.bL;simp only[eG,bV]
  by_cases hf:zr8 t a.name<0
  .rw[bO hf,bO hf];rfl
  .have hr:=zax7 hf;have hs:=zbf3 h hf;have hsh:=zbf1 (t.getD (zr8 t a.name).toNat aA.zero) p a.aJ pr;simp only[bN hf,bU,cI,bP,bV,zap0 hl h.each,Option.bind_some,zas9 (zq7 t) p (by omega),zdO8 h p];cases hfu:zbi9 t p with
   |true=>rfl
   |false=>
    simp only[bP,bV];rw[zb0 (by omega),zcg4,Option.bind_some];unfold putT
    by_cases e:(zI6 (t.getD (zr8 t a.name).toNat aA.zero) p a.aJ pr).2.2=0
    .rw[bN (nd0 e),bO e,zT9 _ _ _ (by omega) h.lens (by omega),Option.bind_some,zdd6 _ _ (by have:=hsh.2.2.2;omega)];rfl
    .rw[bO (nd1 e),bN e];rfl
theorem zbV1(t:List aA)(p:aF)(nm:ByteArray):zae4 t p nm=some (zE3 t p nm):=by
 unfold zae4 zE3 atT;rw[zbp4,Option.bind_some];cases hv:zK4 t with
 |false=>rfl
 |true=>
  have h:=(zx3 t).1 hv;have hl:=h.len;simp only[eG,bV]
  by_cases hf:zr8 t nm<0
  .rw[bO hf,bO hf];rfl
  .have hr:=zax7 hf;have hsh:=zaY0 (t.getD (zr8 t nm).toNat aA.zero) p;simp only[bN hf,bU,cI,bP,bV];rw[zb0 (by omega),zbU7,Option.bind_some];unfold putT
   by_cases e:(zI3 (t.getD (zr8 t nm).toNat aA.zero) p).2.2=0
   .rw[bN (nd0 e),bO e,zT9 _ _ _ (by omega) h.lens (by omega),Option.bind_some,zdd6 _ _ (by have:=hsh.2.2.2;omega)];rfl
   .rw[bO (nd1 e),bN e];rfl
theorem zcW6{q:aA}{p:aF}{a:aC}(h:(zE2 q p a).2.2=0)(e:getH q.aL p=a):(zE2 q p a).2.1=[]:=by
 obtain⟨_,_,_,_,_,hh⟩:=zaG7 h;rcases hh with⟨_,e2⟩|⟨hne,_,_⟩
 .rw[e2]
 .exact absurd e hne
theorem zch6(t:List aA)(p:aF)(a:aO):zaj5 t p a=some (zF0 t p a):=by
 unfold zaj5 zF0 atT;rw[zbp4,Option.bind_some];cases hv:zK4 t with
 |false=>rfl
 |true=>
  have h:=(zx3 t).1 hv;have hl:=h.len;simp only[eG,bV]
  by_cases hf:zr8 t a.name<0
  .rw[bO hf,bO hf];rfl
  .have hr:=zax7 hf;have hs:=zbf3 h hf;have hql:=zu8 hs;have hsh:=zbf2 (t.getD (zr8 t a.name).toNat aA.zero) p a.aJ;simp only[bN hf,bU,cI,bP,bV];rw[zb0 (by omega),zcg6,Option.bind_some];unfold putT
   by_cases e:(zE2 (t.getD (zr8 t a.name).toNat aA.zero) p a.aJ).2.2=0
   .rw[bN (nd0 e),bO e,zb0 (by omega),zN4 _ _ (by omega),Option.bind_some]
    by_cases e2:getH (t.getD (zr8 t a.name).toNat aA.zero).aL p=a.aJ
    .rw[bO (cB e2.symm),bO e2,zT9 _ _ _ (by omega) h.lens (by omega),Option.bind_some,zcW6 e e2];rfl
    .rw[bN (by rw[bQ];exactλ h=>e2 h.symm),bN e2,zT9 _ _ _ (by omega) h.lens (by omega),Option.bind_some,zcK8 _ _ _ (by have:=hsh.2.2.2;omega) (by simp)];rfl
   .rw[bO (nd1 e),bN e];rfl
theorem zch7(t:List aA)(p:aF)(a:aO)(pr:Int):zS8 t p a pr=some (zE9 t p a pr):=by
 unfold zS8 zE9 atT;rw[zaf1,Option.bind_some];cases hv:zK4 t with
 |false=>rfl
 |true=>
  have h:=(zx3 t).1 hv;have hl:=h.len;have hpl:=h.bL;rw[ifNT,ifTF,zN5 _ _ (by omega),Option.bind_some]
  by_cases hf:zr8 t a.name<0
  .rw[bO (cB hf),bO hf];rfl
  .have hr:=zax7 hf;have hsh:=zbf1 (t.getD (zr8 t a.name).toNat aA.zero) p a.aJ pr;rw[bN (by rw[bQ];exact hf),bN hf,zaC8 hl h.each,Option.bind_some,zbc4 _ _ (by omega)];have e8:decide (((zq7 t).length:Int)=8)=decide (8<=(zq7 t).length):=by rw[fZ];omega
   rw[e8];have hfu:zbi9 t p=(decide (8<=(zq7 t).length)&&!decide (p∈zq7 t)):=rfl;have hb2:((if decide (8<=(zq7 t).length)=true then some (decide (p∈zq7 t))else some false):Option Bool).bind (λ v4=>if(decide (8<=(zq7 t).length)&&!v4)=true then some (([],[],4):ResT)else gd (0<=zr8 t a.name/\zr8 t a.name<(t.length:Int))<|(zI7 (t.getD (zr8 t a.name).toNat aA.zero) p a.aJ pr).bind λ v5=>if(!decide (v5.2.2=0))=true then some (([],[],v5.2.2):ResT)else(ze1 t (zr8 t a.name) v5.1).bind λ v6=>(ze6 a.name v5.2.1).bind λ v7=>some ((v6,v7,0):ResT))=
     if zbi9 t p=true then some (errT 4)else gd (0<=zr8 t a.name/\zr8 t a.name<(t.length:Int))<|(zI7 (t.getD (zr8 t a.name).toNat aA.zero) p a.aJ pr).bind λ v5=>if(!decide (v5.2.2=0))=true then some (([],[],v5.2.2):ResT)else(ze1 t (zr8 t a.name) v5.1).bind λ v6=>(ze6 a.name v5.2.1).bind λ v7=>some ((v6,v7,0):ResT):=by
    rw[hfu]
    by_cases h8:8<=(zq7 t).length
    .simp only[h8,bU,bT,Option.bind_some,cA];rfl
    .simp only[h8,cV,bP,bV,Option.bind_some,eT]
   refine Eq.trans hb2 ?_;cases hfu2:zbi9 t p with
   |true=>rfl
   |false=>
    rw[ifFT,zb0 (by omega),zcg5,Option.bind_some];unfold putT;simp only[bP,bV]
    by_cases e:(zI6 (t.getD (zr8 t a.name).toNat aA.zero) p a.aJ pr).2.2=0
    .rw[bN (nd0 e),bO e,zaH1 _ _ _ (by omega) (by omega) (by omega),Option.bind_some,zaI2 _ _ (by have:=hsh.2.2.2;omega)];rfl
    .rw[bO (nd1 e),bN e];rfl
theorem zbV2(t:List aA)(p:aF)(nm:ByteArray):zV4 t p nm=some (zE3 t p nm):=by
 unfold zV4 zE3 atT;rw[zaf1,Option.bind_some];cases hv:zK4 t with
 |false=>rfl
 |true=>
  have h:=(zx3 t).1 hv;have hl:=h.len;rw[ifNT,ifTF,zN5 _ _ (by omega),Option.bind_some]
  by_cases hf:zr8 t nm<0
  .rw[bO (cB hf),bO hf];rfl
  .have hr:=zax7 hf;have hsh:=zaY0 (t.getD (zr8 t nm).toNat aA.zero) p;rw[bN (by rw[bQ];exact hf),bN hf,zb0 (by omega),zbU8,Option.bind_some];unfold putT;dsimp only
   by_cases e:(zI3 (t.getD (zr8 t nm).toNat aA.zero) p).2.2=0
   .rw[bN (nd0 e),bO e,zaH1 _ _ _ (by omega) (by omega) (by omega),Option.bind_some,zaI2 _ _ (by have:=hsh.2.2.2;omega)];rfl
   .rw[bO (nd1 e),bN e];rfl
theorem zch8(t:List aA)(p:aF)(a:aO):zS9 t p a=some (zF0 t p a):=by
 unfold zS9 zF0 atT;rw[zaf1,Option.bind_some];cases hv:zK4 t with
 |false=>rfl
 |true=>
  have h:=(zx3 t).1 hv;have hl:=h.len;rw[ifNT,ifTF,zN5 _ _ (by omega),Option.bind_some]
  by_cases hf:zr8 t a.name<0
  .rw[bO (cB hf),bO hf];rfl
  .have hr:=zax7 hf;have hs:=zbf3 h hf;have hql:=zu8 hs;have hsh:=zbf2 (t.getD (zr8 t a.name).toNat aA.zero) p a.aJ;rw[bN (by rw[bQ];exact hf),bN hf,zb0 (by omega),zT2 _ _ (by omega),Option.bind_some,zb0 (by omega),zcg7,Option.bind_some];unfold putT;have k1:∀ev:List aY,ev.length<=1->(zE2 (t.getD (zr8 t a.name).toNat aA.zero) p a.aJ).2.2=0->zT7 t a (zr8 t a.name) (zE2 (t.getD (zr8 t a.name).toNat aA.zero) p a.aJ) ev=some (zaM8 t (zr8 t a.name) (zE2 (t.getD (zr8 t a.name).toNat aA.zero) p a.aJ).1,ev++zah7 a.name (zE2 (t.getD (zr8 t a.name).toNat aA.zero) p a.aJ).2.1,0):=λ ev hev e=>by
    unfold zT7;have hg:(zah7 a.name (zE2 (t.getD (zr8 t a.name).toNat aA.zero) p a.aJ).2.1).length<=16:=by unfold zah7;rw[cO];exact hsh.2.2.2
    rw[zaH1 _ _ _ (by omega) (by omega) (by omega),Option.bind_some,zaI2 _ _ (by have:=hsh.2.2.2;omega),Option.bind_some,zb0 (by omega)]
   dsimp only
   by_cases e:(zE2 (t.getD (zr8 t a.name).toNat aA.zero) p a.aJ).2.2=0
   .rw[bN (nd0 e),bO e]
    by_cases e2:getH (t.getD (zr8 t a.name).toNat aA.zero).aL p=a.aJ
    .rw[bN (nd0 e2),bO e2,k1 [] (by simp) e]
    .rw[bO (nd1 e2),bN e2,zb0 (by decide),k1 _ (by simp) e];rfl
   .rw[bO (nd1 e),bN e];rfl
def ascR:List aD->Option ByteArray->Bool
 |[],_=>true
 |r::l,pv=>resV r&&((match pv with|none=>true|some n=>decide (ltN n r.name))&&ascR l (some r.name))
theorem zcL0:∀(l:List aD) (pv:Option ByteArray),ascR l pv=true↔(∀r∈l,resV r=true)/\l.Pairwise (λ a b=>ltN a.name b.name)/\∀n,pv=some n->∀r∈l,ltN n r.name
 |[],pv=>by simp only[ascR,dX,iD,fK,iA,fU,kI];exact .nil
 |q::t,pv=>by
  simp only[ascR,bM];rw[zcL0 t (some q.name)];constructor
  .rintro⟨h1,h2,h3,h4,h5⟩;refine⟨λ x hx=>?_,cL.2 ⟨λ x hx=>h5 _ rfl x hx,h4⟩,λ n hn x hx=>?_⟩
   .rcases bX.1 hx with rfl|hx
    .exact h1
    .exact h3 x hx
   .subst hn;simp only[bQ]at h2;rcases bX.1 hx with rfl|hx
    .exact h2
    .exact zbN6 h2 (h5 _ rfl x hx)
  .rintro⟨h1,h2,h3⟩;have h2':=cL.1 h2;refine⟨h1 q (.head _),?_,λ x hx=>h1 x (.tail _ hx),h2'.2,λ n hn x hx=>by cases hn;exact h2'.1 x hx⟩;cases pv with
   |none=>rfl
   |some n=>exact cB (h3 n rfl q (.head _))
def catV(l:List aD):Bool:=decide (l.length<=8)&&ascR l none
theorem zav2(l:List aD):catV l=true↔l.length<=8/\(∀r∈l,resV r=true)/\l.Pairwise (λ a b=>ltN a.name b.name):=by unfold catV;rw[bM,bQ,zcL0];simp
theorem zdl6(t0:List aD):∀(t prev:List aD),t0=prev++t->
  walk (λ i q (_:Unit)=>some (if resV q=true/\(i=0\/ltN (t0.getD (i-1) aD.zero).name q.name)then Sum.inl ()else Sum.inr (Sum.inr (α:=Unit) false))) (λ _=>Sum.inl (β:=Bool) ()) t prev.length ()=
   some (if ascR t (prev.getLast?.map (·.name))=true then .inl ()else .inr false):=by
 intro t;induction t with
 |nil=>intro prev _;simp[walk,ascR]
 |cons q t ih=>
  intro prev ht;simp only[walk];have hq:(prev.length=0\/ltN (t0.getD (prev.length-1) aD.zero).name q.name)↔(match prev.getLast?.map (·.name)with|none=>true|some n=>decide (ltN n q.name))=true:=by
   by_cases hp:prev=[]
   .subst hp;simp
   .have h1:=zct5 prev (q::t) aD.zero hp;rw[ht,h1,jF hp];have:prev.length≠0:=λ e=>hp (cR e);simp[this]
  by_cases e:resV q=true/\(prev.length=0\/ltN (t0.getD (prev.length-1) aD.zero).name q.name)
  .rw[bO e];have:=ih (prev++[q]) (by rw[ht];simp);rw[show(prev++[q]).length=prev.length+1 by simp]at this;simp only;have h2:ascR (q::t) (prev.getLast?.map (·.name))=ascR t (some q.name):=by simp only[ascR,e.1,hq.1 e.2,cA]
   rw[this,h2];simp
  .rw[bN e];rw[hq]at e;have hf:ascR (q::t) (prev.getLast?.map (·.name))=false:=by
    rw[cY];intro hh;simp only[ascR,bM]at hh;exact e ⟨hh.1,hh.2.1⟩
   rw[hf];rfl
theorem zcL1{body:Int->Option (Int⊕(Unit⊕Bool))}(t:List aD)(hl:t.length<=8)
  (hb:∀i:Nat,i<t.length->body (i:Int)=some (if resV (t.getD i aD.zero)=true/\(i=0\/ltN (t.getD (i-1) aD.zero).name (t.getD i aD.zero).name)then .inl ((i+1:Nat):Int)else .inr (.inr false)))
  (he:body (t.length:Int)=some (.inr (.inl ()))):zc1 body 0=some (if ascR t none=true then .inl ()else .inr false):=by
 have key:=zV7 (body:=body) t aD.zero (λ i (_:Unit)=>(i:Int)) (λ i q _=>some (if resV q=true/\(i=0\/ltN (t.getD (i-1) aD.zero).name q.name)then Sum.inl ()else Sum.inr (Sum.inr (α:=Unit) false))) (λ _=>Sum.inl (β:=Bool) ())
  (λ i s hi=>by
   rw[hb i hi,Option.map_some];split<;>rfl) (λ s=>he) ()
 have:=zdl6 t t [] rfl;rw[show(0:Int)=(λ(i:Nat) (_:Unit)=>(i:Int)) 0 ()from rfl,key];exact this
theorem zbc8(t:List aD):zn2 t=some (catV t):=by
 unfold zn2 catV
 by_cases h8:8<t.length
 .have:¬t.length<=8:=by omega
  rw[bO (by simp;omega)];simp[this]
 .have hl:t.length<=8:=by omega
  rw[bN (by simp;omega),zcL1 t hl (λ i hi=>by
   unfold zah0;have h3:0<=(i:Int)/\(i:Int)<(t.length:Int):=by omega
   simp only[h3.1,h3.2,cN,fK,zl3,bU,bT,Int.toNat_natCast,zaR4,Option.bind_some,zc2 i (by omega)]
   by_cases e0:i=0
   .subst e0;rw[zb0 (by simp)];cases resV (t.getD 0 aD.zero)<;>simp
   .rw[zX8 i (by omega) (by omega),zb0 (by intro _;omega)];simp only[Int.toNat_natCast,show(0:Int)<(i:Int)by omega,bU,cA,e0,iB];unfold ltN;rcases hb (resV (t.getD i aD.zero))with b1|b1<;>rcases hb (Op.bytesLess (t.getD (i-1) aD.zero).name.toList (t.getD i aD.zero).name.toList)with b2|b2<;>simp[b1,b2,-List.getD_eq_getElem?_getD]) (by unfold zah0;simp)]
  simp only[hl,bU,cA];cases hw:ascR t none<;>rfl
theorem zbp5(t:List aD):zu1 t=some (catV t):=by
 unfold zu1 catV
 by_cases h8:8<t.length
 .have:¬t.length<=8:=by omega
  rw[bO (by simp;omega)];simp[this]
 .have hl:t.length<=8:=by omega
  rw[bN (by simp;omega),zcL1 t hl (λ i hi=>by
   unfold zar3;have h3:0<=(i:Int)/\(i:Int)<(t.length:Int):=by omega
   simp only[h3.1,h3.2,cN,fK,zl3,bU,bT,Int.toNat_natCast,zbG4,Option.bind_some,zc2 i (by omega)]
   by_cases e0:i=0
   .subst e0;rw[zb0 (by simp)];cases resV (t.getD 0 aD.zero)<;>simp
   .rw[zX8 i (by omega) (by omega),zb0 (by intro _;omega)];simp only[Int.toNat_natCast,show(0:Int)<(i:Int)by omega,bU,cA,e0,iB];unfold ltN;rcases hb (resV (t.getD i aD.zero))with b1|b1<;>rcases hb (Op.bytesLess (t.getD (i-1) aD.zero).name.toList (t.getD i aD.zero).name.toList)with b2|b2<;>simp[b1,b2,-List.getD_eq_getElem?_getD]) (by unfold zar3;simp)]
  simp only[hl,bU,cA];cases hw:ascR t none<;>rfl
def newT(l:List aD):List aA×Int:=if catV l=true then(l.map zak3,0)else([],1)
theorem zcA3(l:List aD):zH8 l=some (newT l):=by
 unfold zH8 newT;rw[zbp5,Option.bind_some];cases h:catV l with
 |false=>rfl
 |true=>
  have hl:=((zav2 l).1 h).1;rw[ifNT,zav1 l aD.zero zak3 [] (by omega) (by simp) (λ i s hi hs=>by
   unfold zaB7;have h3:0<=(i:Int)/\(i:Int)<(l.length:Int):=by omega
   have h1:s.length+1<=4294967296:=by omega
   simp only[h1,h3.1,h3.2,cN,zl3,bU,bT,Int.toNat_natCast,zc2 i (show i<4611686018427387904 by omega)];rfl) (λ s=>by unfold zaB7;simp)]
  rfl
theorem zcA4(l:List aD):zB1 l=some (newT l):=by
 unfold zB1 newT;rw[zbc8,Option.bind_some];cases h:catV l with
 |false=>rfl
 |true=>
  obtain⟨hl,hv,_⟩:=(zav2 l).1 h;have key:=zv8 (body:=zan5 l) l aD.zero (λ i (s:List aA)=>((i:Int),s)) (λ _ r s=>some (.inl (s++[zak3 r]))) (λ s=>.inl s) (λ i s=>s.length=i)
   (λ i s hi hs=>by
    refine⟨?_,λ s' h=>by simp only[cK,dW]at h;subst h;simp[hs]⟩;unfold zan5;have h3:0<=(i:Int)/\(i:Int)<(l.length:Int):=by omega
    have h1:s.length+1<=4294967296:=by omega
    have hr:newQ (l.getD i aD.zero)=(zak3 (l.getD i aD.zero),0):=by unfold newQ;rw[bO (hv _ (zm9 hi))];rfl
    simp only[h1,h3.1,h3.2,cN,zl3,bU,bT,Int.toNat_natCast,zc2 i (show i<4611686018427387904 by omega),zcy9,hr,Option.bind_some,cI,bP,bV];rfl)
   (λ s hs=>by unfold zan5;simp) [] rfl
  have fold:∀(l:List aD) (i:Nat) (s:List aA),walk (λ(_:Nat) r (s:List aA)=>some (Sum.inl (β:=List aA⊕List aA×Int) (s++[zak3 r]))) (λ s=>Sum.inl s) l i s=some (.inl (s++l.map zak3)):=by
   intro l;induction l with
   |nil=>intro i s;simp[walk]
   |cons r l ih=>intro i s;simp only[walk,cX];rw[ih (i+1),bZ];rfl
  rw[ifNT,show((0,[]):Int×List aA)=(λ(i:Nat) (s:List aA)=>((i:Int),s)) 0 []from rfl,key,fold];rfl
structure Small (t:List aA):Prop where
 len:t.length<=20
 lens:Lens t
def zch9(x:ResT):Prop:=x.1.length<=1000000/\Lens x.1/\x.2.1.length<=1000000
theorem zbf4(e:Int):zch9 (errT e):=⟨by simp[errT],λ q hq=>(nomatch hq),by simp[errT]⟩
theorem zdC5(t:List aA)(i:Int)(q:aA):(zaM8 t i q).length=t.length:=by unfold zaM8;split<;>simp
theorem zdl7{t:List aA}(h:Lens t)(i:Int){q:aA}(hq:q.aL.length<=1000/\q.aH.length<=1000/\q.aU.length<=1000):Lens (zaM8 t i q):=λ x hx=>by
 unfold zaM8 at hx;split at hx
 .rcases iM hx with hx|rfl
  .exact h x hx
  .exact hq
 .exact h x hx
theorem zcW7{t:List aA}(h:Small t)(nm:ByteArray)(x:aA×List aT×Int)(ev:List aY)(hx:zaX9 x)(hev:ev.length<=1):zch9 (putT t nm x ev):=by
 obtain⟨h1,h2,h3,h4⟩:=hx;have hl:=h.len;unfold putT;split
 .refine⟨by rw[zdC5];omega,zdl7 h.lens _ ⟨by omega,by omega,by omega⟩,?_⟩;unfold zah7;rw[bR,cO];omega
 .exact zbf4 _
theorem zdl8{t:List aA}(nm:ByteArray){f:aA->ResT}(h:∀q,zch9 (f q)):zch9 (atT t nm f):=by
 unfold atT;split
 .exact zbf4 _
 .split
  .exact zbf4 _
  .exact h _
theorem zbB8{t:List aA}(h:Small t)(p:aF)(a:aO)(pr:Int):zch9 (zE9 t p a pr):=zdl8 _ λ q=>by
 split
 .exact zbf4 _
 .exact zcW7 h _ _ _ (zbf1 _ _ _ _) (by simp)
theorem zaY4{α:Type}(l:List α)(i:Nat)(z:α)(h:i<l.length):l.set i (l.getD i z)=l:=by rw[bS,bW h,Option.getD_some,List.set_getElem_self]
theorem zcL2{body:Int×List aA×List aY->Option ((Int×List aA×List aY)⊕(List aA×List aY))}(t:List aA)(f:aA->aA)(e:aA->List aY)(hl:t.length<=1000)(he:∀q∈t,(e q).length<=100)
  (hb:∀(i:Nat) (s:List aA) (ev:List aY),i<t.length->s.length=t.length->s.getD i aA.zero=t.getD i aA.zero->ev.length<=100000->body ((i:Int),s,ev)=some (.inl (((i+1:Nat):Int),s.set i (f (t.getD i aA.zero)),ev++e (t.getD i aA.zero))))
  (hend:∀(s:List aA) (ev:List aY),s.length=t.length->body ((t.length:Int),s,ev)=some (.inr (s,ev))):zc1 body (0,t,[])=some (t.map f,t.flatMap e):=by
 have hev:∀i,i<=t.length->((t.take i).flatMap e).length<=100*i:=by
  intro i;induction i with
  |zero=>intro _;simp
  |succ i ih=>intro hi;rw[zaO8 (z:=aA.zero) (by omega),List.flatMap_append,bR];have:=ih (by omega);have h2:=he _ (zm9 (z:=aA.zero) (show i<t.length by omega));simp only[dV,gH,eR];omega
 obtain⟨x,hx,hp⟩:=zaR1 (body:=body) (λ g=>∃i:Nat,i<=t.length/\g=((i:Int),(t.take i).map f++t.drop i,(t.take i).flatMap e)) (λ g=>t.length-g.1.toNat) (λ x=>x=(t.map f,t.flatMap e)) (by
  rintro g ⟨i,hi,rfl⟩;have hsl:((t.take i).map f++t.drop i).length=t.length:=by rw[bR,cO,dT,eU];omega
  by_cases hlt:i<t.length
  .left;have hml:((t.take i).map f).length=i:=by rw[cO,dT];omega
   have hd:t.drop i=t.getD i aA.zero::t.drop (i+1):=by rw[fL hlt,bS,bW hlt];rfl
   have hg:((t.take i).map f++t.drop i).getD i aA.zero=t.getD i aA.zero:=by rw[bS,eJ (by omega),hml,iK,hd];rfl
   refine⟨_,hb i _ _ hlt hsl hg (by have:=hev i hi;omega),⟨i+1,by omega,?_⟩,by simp only[Int.toNat_natCast];omega⟩;rw[zaO8 (z:=aA.zero) hlt,eE,List.flatMap_append];congr 2
   .rw[gP _ _ (by omega),hml,iK,hd];simp
   .simp
  .right;have:i=t.length:=by omega
   subst this;refine⟨_,hend _ _ hsl,?_⟩;simp) (0,t,[]) ⟨0,by omega,by simp⟩
 rw[hx,hp]
def remE(p:aF)(q:aA):List aY:=if(zC4 q p).2.2=0 then(if getH q.aL p=aC.zero then[]else[zdC4 p q.aB.name aC.zero])++zah7 q.aB.name (zC4 q p).2.1 else[]
def remT(t:List aA)(p:aF):List aA×List aY:=if zK4 t=true then(t.map (remN · p),t.flatMap (remE p))else([],[])
theorem zbS1(nm:ByteArray)(l:List aT):(zah7 nm l).length=l.length:=by unfold zah7;rw[cO]
theorem zci0(p:aF)(q:aA):(remE p q).length<=17:=by
 unfold remE;have:=(zaY1 q p).2.2.2;split
 .rw[bR,zbS1];split<;>simp<;>omega
 .simp
theorem zci1{q:aA}(h:zi0 q=true)(p:aF):(remN q p).aB=q.aB:=
 (zcJ9 h (p:=p) (x:={p with num:=p.num+1}) λ e=>by
  have h1:p.num+1=p.num:=dC aF.num e;omega).2
theorem zbV3(t:List aA)(p:aF):zO9 t p=some (remT t p):=by
 unfold zO9 remT;rw[zaC7,Option.bind_some];cases hv:zK4 t with
 |false=>rfl
 |true=>
  have h:=(zx3 t).1 hv;have hl:=h.len;rw[ifNT,bO rfl,zbB7 _ _ _ (by omega) h.lens (by omega),Option.bind_some];unfold zaM8;rw[bN (by decide),zcL2 t (remN · p) (remE p) (by omega) (λ q _=>by have:=zci0 p q;omega) (λ i s ev hi hs hg hev=>by
   have hq:=h.each _ (zm9 (z:=aA.zero) hi);have hql:=zu8 hq;have hsh:=(zaY1 (t.getD i aA.zero) p).2.2.2;have h3:0<=(i:Int)/\(i:Int)<(t.length:Int):=by omega
   have h4:0<=(i:Int)/\(i:Int)<((s.length:Nat):Int):=by omega
   unfold zaa1;simp only[Int.toNat_natCast];rw[bO (cB h3.2),zb0 h3,zbU9,Option.bind_some];unfold remE remN
   by_cases e:(zC4 (t.getD i aA.zero) p).2.2=0
   .rw[bN (nd0 e),bO e,bO e,zN4 _ _ (by omega),Option.bind_some]
    by_cases e2:getH (t.getD i aA.zero).aL p=aC.zero
    .rw[bN (nd0 e2),bO e2];unfold zaa0;simp only[Int.toNat_natCast];rw[zcK9 _ _ _ (by omega) (by omega),Option.bind_some,zb0 h4,zc2 i (by omega),List.nil_append]
    .rw[bO (nd1 e2),bN e2,zb0 (by omega)];unfold zaa0;simp only[Int.toNat_natCast];rw[zcK9 _ _ _ (by omega) (by simp;omega),Option.bind_some,zb0 h4,zc2 i (by omega),bZ];rfl
   .rw[bO (nd1 e),bN e,bN e,zc2 i (by omega),eR,<-hg,zaY4 _ _ _ (by omega)]) (λ s ev hs=>by
   unfold zaa1;rw[bN (by simp)])]
  rfl
theorem zbV4(t:List aA)(p:aF):zO5 t p=some (remT t p):=by
 unfold zO5 remT;rw[zaf1,Option.bind_some];cases hv:zK4 t with
 |false=>rfl
 |true=>
  have h:=(zx3 t).1 hv;have hl:=h.len;rw[ifNT,bO rfl,zb0 (by omega),zcL2 t (remN · p) (remE p) (by omega) (λ q _=>by have:=zci0 p q;omega) (λ i s ev hi hs hg hev=>by
   have hq:=h.each _ (zm9 (z:=aA.zero) hi);have hql:=zu8 hq;have hsh:=(zaY1 (t.getD i aA.zero) p).2.2.2;have h4:0<=(i:Int)/\(i:Int)<((s.length:Nat):Int):=by omega
   have hn:=zci1 hq p;unfold zZ4;simp only[Int.toNat_natCast,hg];rw[bO (cB h4.2),zb0 h4,zaC6 _ _ (by omega) (by omega) (by omega),Option.bind_some];cases hp:hasQ (t.getD i aA.zero) p with
   |false=>
    have e:=zaX8 hq hp;have e1:(zC4 (t.getD i aA.zero) p).2.2≠0:=by rw[e];decide
    unfold remE remN;rw[bN e1,bN e1,bO (show(!false)=true from rfl),zc2 i (by omega),eR,<-hg,zaY4 _ _ _ (by omega)]
   |true=>
    have e:=zcK7 hq hp;rw[ifNT,zb0 h4,zT2 _ _ (by omega),Option.bind_some];have hz:zh5 (getH (t.getD i aA.zero).aL p)=decide (getH (t.getD i aA.zero).aL p=aC.zero):=rfl;rw[hz];unfold remE;rw[bO e.1];have k2:∀ev':List aY,ev'.length<=1000000->zZ3 p ((i:Int),s,ev) ev'=some (.inl (((i+1:Nat):Int),s.set i (remN (t.getD i aA.zero) p),ev'++zah7 (t.getD i aA.zero).aB.name (zC4 (t.getD i aA.zero) p).2.1)):=λ ev' hev'=>by unfold zZ3;simp only[Int.toNat_natCast,hg];rw[zb0 h4,zbV0,Option.bind_some,zb0 h4,e.2,hn,zaI2 _ _ (by omega),Option.bind_some,zb0 (by rw[zbS1];omega),zc2 i (by omega)]
    by_cases e2:getH (t.getD i aA.zero).aL p=aC.zero
    .rw[bN (nd0 e2),bO e2,k2 _ (by omega),List.nil_append]
    .rw[bO (nd1 e2),bN e2,zb0 h4,zb0 (by omega),k2 _ (by simp;omega),bZ];rfl) (λ s ev hs=>by
   unfold zZ4;simp only;rw[bN (by rw[bQ,hs];omega)])]
  rfl
theorem zap1{t:List aA}(h:∀q∈t,zi0 q=true){p:aF}:p∈zq7 t↔∃q∈t,hasQ q p=true:=by
 unfold zq7;rw[zbt2,fI];constructor
 .rintro⟨q,hq,hp⟩;exact⟨q,hq,(zao9 ((zt4 q).1 (h q hq)).1).1 hp⟩
 .rintro⟨q,hq,hp⟩;exact⟨q,hq,(zao9 ((zt4 q).1 (h q hq)).1).2 hp⟩
theorem zbf5(t:List aA):(zq7 t).Nodup:=zbt3 (zaO7 _)
theorem ValidT.map{t:List aA}(h:ValidT t)(f:aA->aA)(h1:∀q∈t,zi0 (f q)=true)(h2:∀q∈t,(f q).aB=q.aB)(h3:∀q∈t,∀p,hasQ (f q) p=true->hasQ q p=true):ValidT (t.map f):=by
 have he:∀q∈t.map f,zi0 q=true:=λ q hq=>by obtain⟨x,hx,rfl⟩:=cD.1 hq;exact h1 x hx
 refine⟨by rw[cO];exact h.len,he,?_,?_⟩
 .have:=h.asc;unfold AscN at*;rw[iH];exact this.imp_of_mem λ{a b} ha hb hab=>by rw[h2 a ha,h2 b hb];exact hab
 .refine fG (dO (zbf5 _) λ x hx=>?_) h.bL;obtain⟨q,hq,hp⟩:=(zap1 he).1 hx;obtain⟨y,hy,rfl⟩:=cD.1 hq;exact(zap1 h.each).2 ⟨y,hy,h3 y hy x hp⟩
theorem zcA5{t:List aA}(h:ValidT t)(p:aF):remT t p=(t.map (remN · p),t.flatMap (remE p)):=by unfold remT;rw[bO ((zx3 t).2 h)]
theorem zci2{t:List aA}(h:ValidT t)(p:aF):ValidT (remT t p).1:=by rw[zcA5 h];exact h.map _ (λ q hq=>zaN9 (h.each q hq) p) (λ q hq=>zci1 (h.each q hq) p) λ q hq x hx=>((zcK0 (h.each q hq) p x).1 hx).1
theorem zbX2{t:List aA}(h:ValidT t)(p:aF):(remT t p).2.length<=136:=by
 rw[zcA5 h];have:∀l:List aA,(l.flatMap (remE p)).length<=17*l.length:=by
  intro l;induction l with
  |nil=>simp
  |cons q l ih=>rw[dV,bR,List.length_cons];have:=zci0 p q;omega
 have h1:=this t;have h2:=h.len;show(t.flatMap (remE p)).length<=136;omega
def oldP(a b:Int)(p:aF):Bool:=decide (p.site=a)&&decide (p.inc<b)
def zG0(a b:Int)(s:List aA×List aY)(p:aF):List aA×List aY:=if oldP a b p=true then((remT s.1 p).1,s.2++(remT s.1 p).2)else s
def zaf2(t:List aA)(a b:Int):List aA×List aY:=if zK4 t=true then(zq7 t).foldl (zG0 a b) (t,[])else([],[])
theorem zci3{body:List aA×Int×List aY->Option ((List aA×Int×List aY)⊕(List aA×List aY))}{t:List aA}(h:ValidT t)(a b:Int)
  (hb:∀(i:Nat) (s:List aA) (ev:List aY),i<(zq7 t).length->ValidT s->ev.length<=136*i->body (s,(i:Int),ev)=some (.inl ((zG0 a b (s,ev) ((zq7 t).getD i aF.zero)).1,((i+1:Nat):Int),(zG0 a b (s,ev) ((zq7 t).getD i aF.zero)).2)))
  (hend:∀(s:List aA) (ev:List aY),body (s,((zq7 t).length:Int),ev)=some (.inr (s,ev))):zc1 body (t,0,[])=some ((zq7 t).foldl (zG0 a b) (t,[])):=by
 have key:=zv8 (body:=body) (zq7 t) aF.zero (λ i (s:List aA×List aY)=>(s.1,(i:Int),s.2)) (λ _ p s=>some (.inl (zG0 a b s p))) (λ s=>s) (λ i s=>ValidT s.1/\s.2.length<=136*i)
  (λ i s hi hs=>⟨by rw[hb i s.1 s.2 hi hs.1 hs.2];rfl,λ s' h=>by
   simp only[cK,dW]at h;subst h;unfold zG0;split
   .have:=zbX2 hs.1 ((zq7 t).getD i aF.zero);exact⟨zci2 hs.1 _,by rw[bR];omega⟩
   .exact⟨hs.1,by have:=hs.2;omega⟩⟩)
  (λ s hs=>hend s.1 s.2) (t,[]) ⟨h,by simp⟩
 rw[show((t,0,[]):List aA×Int×List aY)=(λ(i:Nat) (s:List aA×List aY)=>(s.1,(i:Int),s.2)) 0 (t,[])from rfl,key,zbB1 (zG0 a b)]
theorem zci4(t:List aA)(a b:Int):zab6 t a b=some (zaf2 t a b):=by
 unfold zab6 zaf2;rw[zaC7,Option.bind_some];cases hv:zK4 t with
 |false=>rfl
 |true=>
  have h:=(zx3 t).1 hv;have hl:=h.len;have hpl:=h.bL;rw[ifNT,bO rfl,zT9 _ _ _ (by omega) h.lens (by omega),Option.bind_some,zap0 hl h.each,Option.bind_some];unfold zaM8;rw[bN (by decide),zci3 h a b (λ i s ev hi hs hev=>by
   have h3:0<=(i:Int)/\(i:Int)<((zq7 t).length:Int):=by omega
   have hre:=zbX2 hs ((zq7 t).getD i aF.zero);unfold zas4 zG0 oldP;simp only[Int.toNat_natCast];rw[bO (cB h3.2),zb0 h3];have eb:(!decide (((zq7 t).getD i aF.zero).site=a)||decide (b<=((zq7 t).getD i aF.zero).inc))=!(decide (((zq7 t).getD i aF.zero).site=a)&&decide (((zq7 t).getD i aF.zero).inc<b)):=by rw[Bool.not_and];congr 1;rw[<-decide_not,fZ];omega
   rw[eb];cases hc:(decide (((zq7 t).getD i aF.zero).site=a)&&decide (((zq7 t).getD i aF.zero).inc<b))with
   |false=>rw[bO (show(!false)=true from rfl)];simp only[bP,bV,zc2 i (show i<4611686018427387904 by omega)]
   |true=>rw[ifNT,zbV3,Option.bind_some,zb0 (by omega),zc2 i (by omega)];simp only[bT]) (λ s ev=>by
   unfold zas4;rw[bN (by simp)])]
  rfl
theorem zci5(t:List aA)(a b:Int):zab8 t a b=some (zaf2 t a b):=by
 unfold zab8 zaf2;rw[zaf1,Option.bind_some];cases hv:zK4 t with
 |false=>rfl
 |true=>
  have h:=(zx3 t).1 hv;have hl:=h.len;have hpl:=h.bL;rw[ifNT,bO rfl,zaC8 hl h.each,Option.bind_some,zci3 h a b (λ i s ev hi hs hev=>by
   have h3:0<=(i:Int)/\(i:Int)<((zq7 t).length:Int):=by omega
   have hre:=zbX2 hs ((zq7 t).getD i aF.zero);unfold zas6 zG0 oldP;simp only[Int.toNat_natCast];rw[bO (cB h3.2),zb0 h3,zb0 (λ _=>h3)];cases hc:(decide (((zq7 t).getD i aF.zero).site=a)&&decide (((zq7 t).getD i aF.zero).inc<b))with
   |false=>rw[bN (by decide),bN (by decide),zc2 i (by omega)]
   |true=>rw[bO rfl,bO rfl,zb0 h3,zbV4,Option.bind_some,zb0 (by omega),zc2 i (by omega)]) (λ s ev=>by
   unfold zas6;rw[bN (by simp)])]
  rfl
theorem zct7(a b:Int):∀(ps:List aF) {s:List aA×List aY},ValidT s.1->ValidT (ps.foldl (zG0 a b) s).1/\(ps.foldl (zG0 a b) s).2.length<=s.2.length+136*ps.length
 |[],s,h=>⟨h,by simp⟩
 |p::ps,s,h=>by
  have h1:ValidT (zG0 a b s p).1/\(zG0 a b s p).2.length<=s.2.length+136:=by
   unfold zG0;split
   .have:=zbX2 h p;exact⟨zci2 h p,by rw[bR];omega⟩
   .exact⟨h,by omega⟩
  have h2:=zct7 a b ps h1.1;rw[List.foldl_cons,List.length_cons];exact⟨h2.1,by omega⟩
theorem zbf6(t:List aA)(a b:Int):(zaf2 t a b).1.length<=1000000/\Lens (zaf2 t a b).1/\(zaf2 t a b).2.length<=1000000:=by
 cases hv:zK4 t with
 |false=>unfold zaf2;rw[hv];exact⟨by simp,λ q hq=>(nomatch hq),by simp⟩
 |true=>have h:=(zx3 t).1 hv;have h1:=zct7 a b (zq7 t) (s:=(t,[])) h;have h2:=h.bL;have h3:=h1.1.len;have h4:=h1.2;simp only[List.length_nil]at h4;unfold zaf2;rw[bO hv];exact⟨by omega,h1.1.lens,by omega⟩
theorem zci6{q:aA}(hs:SoundP q){w:aM}(hw:w∈ordQ q):za3 w.aI=true/\zb4 q.aB w.aJ=true/\(zw0 w.aI q.aL).length+1<=8:=by
 have hvh:=(zR3 _ _).1 hs.hv;rcases cP.1 hw with h|h
 .obtain⟨h1,h2,_⟩:=hs.cg w h;refine⟨(hvh.2.2.1.each _ (zaR9 h1)).1,h2,?_⟩;have:=zbN2 (zbs7 hs.hv) h1;omega
 .have h1:=hs.wg w h;have h2:=((zaG4 _).1 hs.wv).2.1 w h;refine⟨?_,h1.1,?_⟩
  .rw[<-zaN7]at h2;unfold zz6 at h2;rw[zao3]at h2;simp only[bM]at h2;exact h2.1.1.1.1.1
  .have:=hs.wl;have h3:=zaR2 w.aI q.aL;have:0<q.aU.length:=List.length_pos_of_mem h;omega
inductive StepQ (q:aA):aA->Prop where
 |same:StepQ q q
 |claim (p:aF) (a:aC) (pr:Int) (h:(zI6 q p a pr).2.2=0):StepQ q (zI6 q p a pr).1
 |cancel (p:aF) (h:(zI3 q p).2.2=0):StepQ q (zI3 q p).1
 |lower (p:aF) (a:aC) (h:(zE2 q p a).2.2=0):StepQ q (zE2 q p a).1
 |remove (p:aF) (h:(zC4 q p).2.2=0):StepQ q (zC4 q p).1
theorem zab1{q x:aA}(h:zi0 q=true)(hx:StepQ q x):zi0 x=true/\x.aB=q.aB:=by
 have hr:∀y:aA,(zw5 y).1.aB=y.aB:=λ y=>(zbe9 y).2;cases hx with
 |same=>exact⟨h,rfl⟩
 |claim p a pr h0=>
  obtain⟨_,_,_,_,_,hh⟩:=zbc2 h0;rcases hh with⟨_,e⟩|⟨_,_,e,hs⟩|⟨_,_,_,e,hs⟩
  .rw[e];exact⟨h,rfl⟩
  .rw[e,hr];exact⟨zY0 hs,rfl⟩
  .rw[e,hr];exact⟨zY0 hs,rfl⟩
 |cancel p h0=>obtain⟨_,_,_,e,hs⟩:=zaG6 h0;rw[e,hr];exact⟨zY0 hs,rfl⟩
 |lower p a h0=>
  obtain⟨_,_,_,_,_,hh⟩:=zaG7 h0;rcases hh with⟨_,e⟩|⟨_,e,hs⟩
  .rw[e];exact⟨h,rfl⟩
  .rw[e,hr];exact⟨zY0 hs,rfl⟩
 |remove p h0=>obtain⟨_,_,_,e,hs⟩:=zbB3 h0;rw[e,hr];exact⟨zY0 hs,rfl⟩
theorem zaf9(q:aA)(x:aF):hasQ (zw5 q).1 x=hasQ q x:=by rw[zbf0,zdd3,zdd2]
theorem zct8{q:aA}{p:aF}{a:aC}{pr:Int}(h:(zI6 q p a pr).2.2=0){x:aF}(hx:hasQ (zI6 q p a pr).1 x=true):hasQ q x=true\/x=p:=by
 obtain⟨_,_,_,_,_,hh⟩:=zbc2 h;rcases hh with⟨_,e⟩|⟨_,_,e,_⟩|⟨_,_,_,e,_⟩
 .rw[e]at hx;exact .inl hx
 .rw[e,zaf9,zt2]at hx;rcases hx with⟨w,hw,ew⟩|hx
  .unfold ordQ claimC at hw;simp only[cP,dS]at hw;rcases hw with(hw|hw)|hw
   .exact .inl ((zt2 q x).2 (.inl ⟨w,cW _ hw,ew⟩))
   .rw[hw]at ew;exact .inr ew.symm
   .exact .inl ((zt2 q x).2 (.inl ⟨w,cG _ hw,ew⟩))
  .exact .inl ((zt2 q x).2 (.inr hx))
 .rw[e,zaf9,zt2]at hx;rcases hx with⟨w,hw,ew⟩|hx
  .unfold ordQ claimW zaM7 at hw;simp only[cP,bX,cD]at hw;rcases hw with hw|hw|hw|⟨y,hy,rfl⟩
   .exact .inl ((zt2 q x).2 (.inl ⟨w,cW _ hw,ew⟩))
   .exact .inl ((zt2 q x).2 (.inl ⟨w,cG _ (jD hw),ew⟩))
   .rw[hw]at ew;exact .inr ew.symm
   .exact .inl ((zt2 q x).2 (.inl ⟨y,cG _ (jE hy),ew⟩))
  .exact .inl ((zt2 q x).2 (.inr hx))
theorem zbB9{q:aA}{p:aF}(h:(zI3 q p).2.2=0){x:aF}(hx:hasQ (zI3 q p).1 x=true):hasQ q x=true:=by
 obtain⟨_,_,_,e,_⟩:=zaG6 h;rw[e,zaf9,zt2]at hx;rcases hx with⟨w,hw,ew⟩|hx
 .unfold ordQ zah6 at hw;simp only[cP,zaV6]at hw;rcases hw with hw|hw
  .exact(zt2 q x).2 (.inl ⟨w,cW _ hw.1,ew⟩)
  .exact(zt2 q x).2 (.inl ⟨w,cG _ hw.1,ew⟩)
 .exact(zt2 q x).2 (.inr hx)
theorem zbN9{q:aA}{p:aF}{a:aC}(h:(zE2 q p a).2.2=0){x:aF}(hx:hasQ (zE2 q p a).1 x=true):hasQ q x=true:=by
 obtain⟨_,_,hp,_,_,hh⟩:=zaG7 h;rcases hh with⟨_,e⟩|⟨_,e,_⟩
 .rw[e]at hx;exact hx
 .rw[e,zaf9,zt2]at hx;rcases hx with hx|hx
  .exact(zt2 q x).2 (.inl hx)
  .refine(zt2 q x).2 (.inr ?_)
   by_cases e:x=p
   .rw[e];exact hp
   .unfold zaC4 at hx;rwa [zJ7 e]at hx
theorem ValidT.set{t:List aA}(h:ValidT t){i:Nat}(hi:i<t.length){q:aA}(p:aF)(h1:zi0 q=true)(h2:q.aB=(t.getD i aA.zero).aB)(h3:∀x,hasQ q x=true->x∈zq7 t\/x=p)
  (h4:zbi9 t p=false):ValidT (t.set i q):=by
 have he:∀y∈t.set i q,zi0 y=true:=λ y hy=>by
  rcases iM hy with hy|rfl
  .exact h.each y hy
  .exact h1
 refine⟨by rw[eA];exact h.len,he,?_,?_⟩
 .have ha:=h.asc;unfold AscN at*;rw[fY]at ha⊢;have hr:∀k (hk:k<(t.set i q).length),((t.set i q)[k]).aB=(t[k]'(by rw[eA]at hk;exact hk)).aB:=λ k hk=>by
   rw[List.getElem_set];split
   .next e=>subst e;rw[h2,bS,bW hi];rfl
   .rfl
  intro a b hla hlb hab;rw[hr a hla,hr b hlb];exact ha a b _ _ hab
 .have hsub:∀x∈zq7 (t.set i q),x∈zq7 t\/x=p:=λ x hx=>by
   obtain⟨y,hy,hp⟩:=(zap1 he).1 hx;rcases iM hy with hy|rfl
   .exact .inl ((zap1 h.each).2 ⟨y,hy,hp⟩)
   .exact h3 x hp
  have hpl:=h.bL
  by_cases hp:p∈zq7 t
  .refine fG (dO (zbf5 _) (l₂:=zq7 t) λ x hx=>?_) hpl;rcases hsub x hx with hx|rfl
   .exact hx
   .exact hp
  .have h5:(zq7 t).length<8:=by
    unfold zbi9 at h4;simp only[hp,cV,dI,eK,dA]at h4;omega
   have:=dO (zbf5 (t.set i q)) (l₂:=p::zq7 t) λ x hx=>by
    rcases hsub x hx with hx|rfl
    .exact .tail _ hx
    .exact .head _
   rw[List.length_cons]at this;omega
theorem zat0{t:List aA}(h:ValidT t){i:Nat}(hi:i<t.length){x:aF}(hx:hasQ (t.getD i aA.zero) x=true):x∈zq7 t:=(zap1 h.each).2 ⟨_,zm9 hi,hx⟩
theorem zdd7{t:List aA}{p:aF}(h:p∈zq7 t):zbi9 t p=false:=by unfold zbi9;simp[h]
theorem zbS2{t:List aA}{nm:ByteArray}{f:aA->ResT}(h:(atT t nm f).2.2=0):ValidT t/\∃i:Nat,zr8 t nm=i/\i<t.length/\(t.getD i aA.zero).aB.name=nm/\atT t nm f=f (t.getD i aA.zero):=by
 unfold atT at h⊢;cases hv:zK4 t with
 |false=>rw[hv,bO rfl]at h;exact absurd h (by decide)
 |true=>
  rw[hv,bN (by decide)]at h;rw[bN (by decide)]
  by_cases hf:zr8 t nm<0
  .rw[bO hf]at h;exact absurd h (by decide)
  .rw[bN hf];rcases zav0 (t:=t) (nm:=nm)with h1|⟨i,h1,h2,h3⟩
   .omega
   .exact⟨(zx3 t).1 hv,i,h1,h2,h3,by rw[h1];rfl⟩
theorem zbf7{t:List aA}{nm:ByteArray}{x:aA×List aT×Int}{ev:List aY}(h:(putT t nm x ev).2.2=0):x.2.2=0/\putT t nm x ev=(zaM8 t (zr8 t nm) x.1,ev++zah7 nm x.2.1,0):=by
 unfold putT at h|-
 by_cases e:x.2.2=0
 .rw[bO e];exact⟨e,rfl⟩
 .rw[bN e]at h;exact absurd h e
theorem zaC9(t:List aA)(i:Nat)(q:aA):zaM8 t (i:Int) q=t.set i q:=by unfold zaM8;rw[bO (by omega)];rfl
theorem zbO0{t:List aA}{p:aF}{a:aO}{pr:Int}(h:(zE9 t p a pr).2.2=0):∃i:Nat,i<t.length/\(t.getD i aA.zero).aB.name=a.name/\zr8 t a.name=i/\(zI6 (t.getD i aA.zero) p a.aJ pr).2.2=0/\(zE9 t p a pr).1=t.set i (zI6 (t.getD i aA.zero) p a.aJ pr).1/\ValidT t/\ValidT (zE9 t p a pr).1:=by
 unfold zE9 at h⊢;obtain⟨hv,i,h1,h2,h3,e⟩:=zbS2 h;rw[e]at h⊢;cases hfu:zbi9 t p with
 |true=>rw[hfu,bO rfl]at h;exact absurd h (by decide)
 |false=>
  rw[hfu,bN (by decide)]at h;rw[bN (by decide)];obtain⟨e0,e1⟩:=zbf7 h;rw[e1,h1,zaC9];have hq:=hv.each _ (zm9 (z:=aA.zero) h2);have hs:=zab1 hq (.claim p a.aJ pr e0);refine⟨i,h2,h3,rfl,e0,rfl,hv,hv.set h2 p hs.1 hs.2 (λ x hx=>?_) hfu⟩;rcases zct8 e0 hx with hx|hx
  .exact .inl (zat0 hv h2 hx)
  .exact .inr hx
theorem zbC0{t:List aA}{p:aF}{nm:ByteArray}(h:(zE3 t p nm).2.2=0):∃i:Nat,i<t.length/\(zE3 t p nm).1=t.set i (zI3 (t.getD i aA.zero) p).1/\ValidT t/\ValidT (zE3 t p nm).1:=by
 unfold zE3 at h⊢;obtain⟨hv,i,h1,h2,h3,e⟩:=zbS2 h;rw[e]at h⊢;obtain⟨e0,e1⟩:=zbf7 h;rw[e1,h1,zaC9];have hq:=hv.each _ (zm9 (z:=aA.zero) h2);have hs:=zab1 hq (.cancel p e0);obtain⟨_,_,hw,_,_⟩:=zaG6 e0;have hp:hasQ (t.getD i aA.zero) p=true:=by unfold hasQ;rw[hw];rfl
 exact⟨i,h2,rfl,hv,hv.set h2 p hs.1 hs.2 (λ x hx=>.inl (zat0 hv h2 (zbB9 e0 hx))) (zdd7 (zat0 hv h2 hp))⟩
theorem zct9{t:List aA}{p:aF}{a:aO}(h:(zF0 t p a).2.2=0):∃i:Nat,i<t.length/\(zF0 t p a).1=t.set i (zE2 (t.getD i aA.zero) p a.aJ).1/\ValidT t/\ValidT (zF0 t p a).1:=by unfold zF0 at h⊢;obtain⟨hv,i,h1,h2,h3,e⟩:=zbS2 h;rw[e]at h⊢;obtain⟨e0,e1⟩:=zbf7 h;rw[e1,h1,zaC9];have hq:=hv.each _ (zm9 (z:=aA.zero) h2);have hs:=zab1 hq (.lower p a.aJ e0);obtain⟨_,_,hp0,_,_,_⟩:=zaG7 e0;have hp:hasQ (t.getD i aA.zero) p=true:=(zt2 _ _).2 (.inr hp0);exact⟨i,h2,rfl,hv,hv.set h2 p hs.1 hs.2 (λ x hx=>.inl (zat0 hv h2 (zbN9 e0 hx))) (zdd7 (zat0 hv h2 hp))⟩
theorem zdd8:∀(n:Nat) (u:bJ),(zab0 n u).l=u.l
 |0,_=>rfl
 |n+1,u=>by rw[zab0,zdd8 n,zdO7]
theorem zcL3:∀(n:Nat) {u:bJ},TapeOk u->u.at_<=(zab0 n u).at_
 |0,_,_=>kF _
 |n+1,u,h=>by
  rw[zab0];refine Int.le_trans ?_ (zcL3 n (zP5 h));unfold zT3;split
  .exact kF _
  .simp only;omega
def zbj0(l:List Int):bJ:={bJ.zero with l:=l}
theorem zcL4{l:List Int}(h:l.length<=1000000):TapeOk (zbj0 l):=⟨h,by show 0<=(0:Int)/\(0:Int)<=l.length;omega⟩
theorem zdC6(u:bJ):(catL u).Pairwise (λ a b=>ltN a.name b.name):=by
 have h:∀x y:UInt8,x<y->ltN ⟨#[x]⟩ ⟨#[y]⟩:=by intro x y hxy;unfold ltN;rw[ByteArray.toList_eq,ByteArray.toList_eq];simp[Op.bytesLess,hxy]
 unfold catL;simp only[cL,bX,dX,gF,forall_eq_or_imp,forall_eq,List.Pairwise.nil,iA,iD,fK];refine⟨⟨?_,?_,?_,?_,?_⟩,⟨?_,?_,?_,?_⟩,⟨?_,?_,?_⟩,⟨?_,?_⟩,?_⟩<;>exact h _ _ (by decide)
theorem zdC7(u:bJ):catV (catL u)=true:=by rw[zav2];exact⟨by show 6<=8;decide,zcW3 u,zdC6 u⟩
theorem zcu0{r:aD}(x:aF):hasQ (zak3 r) x=false:=by
 rw[cY,Ne,zt2];rintro(⟨w,hw,_⟩|h)
 .cases hw
 .exact h rfl
theorem zdl9{l:List aD}(h:catV l=true):ValidT (l.map zak3):=by
 obtain⟨h1,h2,h3⟩:=(zav2 l).1 h;have he:∀q∈l.map zak3,zi0 q=true:=λ q hq=>by obtain⟨r,hr,rfl⟩:=cD.1 hq;exact zco9 (h2 r hr)
 refine⟨by rw[cO];exact h1,he,?_,?_⟩
 .unfold AscN;rw[iH];exact h3
 .have:zq7 (l.map zak3)=[]:=by
   refine List.eq_nil_iff_forall_not_mem.2 λ x hx=>?_;obtain⟨q,hq,hp⟩:=(zap1 he).1 hx;obtain⟨r,_,rfl⟩:=cD.1 hq;rw[zcu0]at hp;cases hp
  rw[this];exact fM _
theorem zbH6:∀(ps:List aF) {q:aA},zi0 q=true->(remS q ps).aB=q.aB
 |[],_,_=>rfl
 |p::ps,q,h=>by show(remS (remN q p) ps).aB=_;rw[zbH6 ps (zaN9 h p),zci1 h]
def zaS2(t:List aA)(ps:List aF):List aA:=t.map (remS · ps)
theorem zbp6{t:List aA}(h:ValidT t)(ps:List aF):ValidT (zaS2 t ps):=
 h.map _ (λ q hq=>zbH3 ps (h.each q hq)) (λ q hq=>zbH6 ps (h.each q hq)) λ q hq x hx=>((zbc3 ps (h.each q hq) x).1 hx).1
theorem zdm0(t:List aA)(ps:List aF):(zaS2 t ps).length=t.length:=by unfold zaS2;rw[cO]
theorem zdm1(t:List aA):zaS2 t []=t:=by unfold zaS2;have:(λ q=>remS q [])=id:=rfl;rw[this,List.map_id]
theorem zcW8{t:List aA}(h:ValidT t)(ps:List aF)(p:aF):(remT (zaS2 t ps) p).1=zaS2 t (ps++[p]):=by rw[zcA5 (zbp6 h ps)];unfold zaS2;rw[jJ];refine jG λ q _=>?_;exact(zdl5 q ps p).symm
theorem zcL5{t:List aA}(h:ValidT t)(ps:List aF){x:aF}:x∈zq7 (zaS2 t ps)↔x∈zq7 t/\x∉ps:=by
 rw[zap1 (zbp6 h ps).each,zap1 h.each];unfold zaS2;constructor
 .rintro⟨q,hq,hp⟩;obtain⟨y,hy,rfl⟩:=cD.1 hq;have:=(zbc3 ps (h.each y hy) x).1 hp;exact⟨⟨y,hy,this.1⟩,this.2⟩
 .rintro⟨⟨y,hy,hp⟩,hn⟩;exact⟨_,cD.2 ⟨y,hy,rfl⟩,(zbc3 ps (h.each y hy) x).2 ⟨hp,hn⟩⟩
theorem zbC1{t:List aA}(h:ValidT t)(a b:Int):∀(ps done:List aF) (ev:List aY),(ps.foldl (zG0 a b) (zaS2 t done,ev)).1=zaS2 t (done++ps.filter (oldP a b))
 |[],done,ev=>by simp
 |p::ps,done,ev=>by
  rw[List.foldl_cons];unfold zG0;cases e:oldP a b p with
  |true=>rw[bO rfl,zcW8 h,List.filter_cons_of_pos e];have:=zbC1 h a b ps (done++[p]) (ev++(remT (zaS2 t done) p).2);unfold zG0 at this;rw[this,bZ];rfl
  |false=>rw[bN (by decide),List.filter_cons_of_neg (by rw[e];decide)];have:=zbC1 h a b ps done ev;unfold zG0 at this;exact this
theorem zbC2{t:List aA}(h:ValidT t)(a b:Int):(zaf2 t a b).1=zaS2 t ((zq7 t).filter (oldP a b)):=by unfold zaf2;rw[bO ((zx3 t).2 h)];have:=zbC1 h a b (zq7 t) [] [];rw[zdm1]at this;rw[this,List.nil_append]
theorem zcL6{t:List aA}(h:ValidT t)(a b:Int):zq7 (zaf2 t a b).1=(zq7 t).filter λ p=>!oldP a b p:=by
 rw[zbC2 h];refine zaG8 (zaO7 _) ((zaO7 _).sublist eX) λ x=>?_;rw[zcL5 h,dM,dM];constructor
 .rintro⟨h1,h2⟩;refine⟨h1,?_⟩;rw[cQ,<-gB];exactλ e=>h2 ⟨h1,e⟩
 .rintro⟨h1,h2⟩;rw[cQ]at h2;exact⟨h1,λ e=>by rw[e.2]at h2;cases h2⟩
theorem zci7:∀{x y:List UInt8},x≠y->Op.bytesLess x y=true\/Op.bytesLess y x=true
 |[],[],h=>absurd rfl h
 |[],b::y,_=>.inl rfl
 |a::x,[],_=>.inr rfl
 |a::x,b::y,h=>by
  simp only[Op.bytesLess,dE,bQ,bM,dB]
  by_cases e:a=b
  .subst e;rcases zci7 (x:=x) (y:=y) (λ k=>h (by rw[k]))with k|k
   .exact .inl (.inr ⟨rfl,k⟩)
   .exact .inr (.inr ⟨rfl,k⟩)
  .rcases Nat.lt_or_ge a.toNat b.toNat with k|k
   .exact .inl (.inl (UInt8.lt_iff_toNat_lt.2 k))
   .refine .inr (.inl (UInt8.lt_iff_toNat_lt.2 ?_));have:a.toNat≠b.toNat:=λ k=>e (UInt8.toNat_inj.1 k);omega
theorem zdm2{a b:ByteArray}(h:a≠b):ltN a b\/ltN b a:=zci7 λ k=>h (zQ2.1 k)
theorem zci8(a:ByteArray):¬ltN a a:=λ h=>zcA0 h rfl
def ltT(a b:bF):Prop:=ltP a.aI b.aI\/a.aI=b.aI/\ltN a.name b.name
instance(a b:bF):Decidable (ltT a b):=by unfold ltT;infer_instance
def keyT(a:bF):aF×ByteArray:=(a.aI,a.name)
theorem zci9(a:bF):¬ltT a a:=by
 rintro(h|⟨_,h⟩)
 .exact zV8 _ h
 .exact zci8 _ h
theorem zbt7{a b c:bF}(h:ltT a b)(k:ltT b c):ltT a c:=by
 rcases h with h|⟨h1,h2⟩<;>rcases k with k|⟨k1,k2⟩
 .exact .inl (zaG0 h k)
 .exact .inl (k1▸h)
 .exact .inl (h1▸k)
 .exact .inr ⟨h1.trans k1,zbN6 h2 k2⟩
theorem zaO0{a b:bF}(h:ltT a b):keyT a≠keyT b:=by
 intro e;have e1:a.aI=b.aI:=dC Prod.fst e;have e2:a.name=b.name:=dC Prod.snd e;rcases h with h|⟨_,h⟩
 .rw[e1]at h;exact zV8 _ h
 .rw[e2]at h;exact zci8 _ h
theorem zbO1{a b:bF}(h:keyT a≠keyT b):ltT a b\/ltT b a:=by
 by_cases e:a.aI=b.aI
 .rcases zdm2 (a:=a.name) (b:=b.name) (λ k=>h (Prod.ext e k))with k|k
  .exact .inl (.inr ⟨e,k⟩)
  .exact .inr (.inr ⟨e.symm,k⟩)
 .rcases zaj6 e with k|k
  .exact .inl (.inl k)
  .exact .inr (.inl k)
def cmpT(a b:bF):Int:=if ltT a b then-1 else if keyT a=keyT b then 0 else 1
theorem zdO9(a b:ByteArray):zO1 a b=if ltN a b then-1 else if a=b then 0 else 1:=by
 unfold zO1 zL6 ltN;simp only[iZ,cI,bP,bV]
 by_cases h:Op.bytesLess a.toList b.toList=true
 .simp only[h,bT]
 .simp only[h,bV,dK]
  by_cases e:a=b
  .subst e;simp[zbc5]
  .have:¬a.toList=b.toList:=λ k=>e (zQ2.1 k);have h':Op.bytesLess a.toList b.toList=false:=by simpa using h
   simp[e,this,h']
theorem zbp7(a b:bF):zh8 a b=some (cmpT a b):=by
 unfold zh8 cmpT ltT keyT;rw[zae6,Option.bind_some,zbG0,zdO9]
 by_cases h1:ltP a.aI b.aI
 .simp[h1]
 .by_cases h2:ltP b.aI a.aI
  .have e:a.aI≠b.aI:=λ e=>by rw[e]at h2;exact zV8 _ h2
   simp[h1,h2,e]
  .have e:a.aI=b.aI:=eP λ k=>by rcases zaj6 k with k|k;exact h1 k;exact h2 k
   simp[e,zV8]
theorem zdd9(a b:bF):zaq7 a b=decide (ltT a b):=by
 unfold zaq7 ltT;rw[show zt7 a.aI b.aI=cmpP a.aI b.aI from rfl,zbG0]
 by_cases h1:ltP a.aI b.aI
 .simp[h1]
 .by_cases h2:ltP b.aI a.aI
  .have e:a.aI≠b.aI:=λ e=>by rw[e]at h2;exact zV8 _ h2
   simp[h1,h2,e]
  .have e:a.aI=b.aI:=eP λ k=>by rcases zaj6 k with k|k;exact h1 k;exact h2 k
   unfold ltN;simp[e,zV8]
def isT(p:aF)(n:ByteArray)(t:bF):Bool:=decide (t.aI=p/\t.name=n)
theorem zcA6{p:aF}{n:ByteArray}{t:bF}:isT p n t=true↔keyT t=(p,n):=by unfold isT keyT;simp
def genT(l:List bF)(p:aF)(n:ByteArray):Int×Bool:=match l.find? (isT p n)with
 |some t=>(t.gen,true)
 |none=>(0,false)
theorem zcj0{α X:Type}(l:List α)(z:α)(p:α->Bool)(f:α->X){body:Int->Option (Int⊕(Unit⊕X))}
  (hb:∀i:Nat,i<l.length->body (i:Int)=some (if p (l.getD i z)=true then .inr (.inr (f (l.getD i z)))else .inl ((i+1:Nat):Int)))
  (he:body (l.length:Int)=some (.inr (.inl ()))):zc1 body 0=some (match l.find? p with|some a=>.inr (f a)|none=>.inl ()):=by
 have key:=zV7 (body:=body) l z (λ i (_:Unit)=>(i:Int)) (λ i a _=>some (if p a=true then .inr (Sum.inr (α:=Unit) (f a))else .inl ())) (λ _=>Sum.inl (β:=X) ())
  (λ i s hi=>by rw[hb i hi,Option.map_some];split<;>rfl) (λ s=>he) ()
 have fold:∀(l:List α) (i:Nat),walk (λ i a (_:Unit)=>some (if p a=true then .inr (Sum.inr (α:=Unit) (f a))else .inl ())) (λ _=>Sum.inl (β:=X) ()) l i ()=some (match l.find? p with|some a=>.inr (f a)|none=>.inl ()):=by
  intro l;induction l with
  |nil=>intro i;rfl
  |cons a l ih=>
   intro i;simp only[walk,List.find?_cons]
   by_cases hp:p a=true
   .simp[hp]
   .have hp':p a=false:=by simpa using hp
    simp only[hp',bP,bV];rw[ih (i+1)]
 rw[show(0:Int)=(λ(i:Nat) (_:Unit)=>(i:Int)) 0 ()from rfl,key];exact fold l 0
theorem zcj1(l:List bF)(p:aF)(n:ByteArray)(hl:l.length<=1000000):zg8 l p n=some (genT l p n):=by
 unfold zg8;rw[zcj0 l bF.zero (isT p n) (λ t=>(t.gen,true)) (λ i hi=>by
  unfold zal2 isT;have h3:0<=(i:Int)/\(i:Int)<(l.length:Int):=by omega
  simp only[h3.1,h3.2,cN,zl3,bU,bT,Int.toNat_natCast,zc2 i (by omega)];have e:(l.getD i bF.zero=(⟨p,n,(l.getD i bF.zero).gen⟩:bF))=((l.getD i bF.zero).aI=p/\(l.getD i bF.zero).name=n):=by generalize l.getD i bF.zero=t;cases t;simp
  simp only[e];split<;>rfl) (by unfold zal2;simp)]
 unfold genT;cases l.find? (isT p n)<;>rfl
theorem zdZ5(h:bC)(p:aF)(n:ByteArray)(hl:h.tags.length<=1000000):zn5 h p n=some (genT h.tags p n).1:=by
 unfold zn5;rw[zcj0 h.tags bF.zero (isT p n) (λ t=>t.gen) (λ i hi=>by
  unfold zaA5 isT;have h3:0<=(i:Int)/\(i:Int)<(h.tags.length:Int):=by omega
  simp only[h3.1,h3.2,cN,zl3,bU,bT,Int.toNat_natCast,zc2 i (by omega)]
  by_cases e1:(h.tags.getD i bF.zero).aI=p<;>by_cases e2:(h.tags.getD i bF.zero).name=n<;>simp[e1,e2,zQ2,-List.getD_eq_getElem?_getD]) (by unfold zaA5;simp)]
 unfold genT;cases h.tags.find? (isT p n)<;>rfl
theorem zbH7{l:List bF}{p:aF}{n:ByteArray}:(genT l p n).2=true↔(p,n)∈l.map keyT:=by
 unfold genT;cases h:l.find? (isT p n)with
 |some t=>simp only[cD,kI];exact⟨t,jP h,zcA6.1 (List.find?_some h)⟩
 |none=>simp only[bP,cD,kH];rintro⟨t,h1,h2⟩;exact absurd (zcA6.2 h2) (List.find?_eq_none.1 h t h1)
theorem zJ8{body:Int->Option (Int⊕(Unit⊕Bool))}(n:Nat)(p:Nat->Bool)(hb:∀i:Nat,i<n->body (i:Int)=some (if p i=true then .inl ((i:Int)+1)else .inr (.inr false)))
  (he:body (n:Int)=some (.inr (.inl ()))):zc1 body 0=some (if(List.range n).all p=true then .inl ()else .inr false):=by
 have key:zc1 body 0=some ((zG5 (λ i=>if p i=true then none else some (Sum.inr (α:=Unit) false)) n 0).getD (Sum.inl ())):=
  zE8 n _ (Sum.inl ()) (λ i hi=>by rw[hb i hi];cases p i<;>rfl) he
 rw[key,zM5,<-dZ];cases(List.range n).all p<;>rfl
theorem zcj2{α:Type}(p:α->Bool)(f:α->Int):∀(l:List α) (i:Nat) (s:Int),walk (λ _ a s=>some (if p a=true then Sum.inl (s+f a)else .inr (Sum.inr (α:=Int) false))) (λ s=>Sum.inl (β:=Bool) s) l i s=some (if l.all p=true then .inl (s+(l.map f).sum)else .inr false)
 |[],i,s=>by simp[walk]
 |a::l,i,s=>by
  simp only[walk]
  by_cases h:p a=true
  .simp only[h,bT];rw[zcj2 p f l (i+1) (s+f a)];simp[h,Int.add_assoc]
  .simp[h]
def okT(l:List bF)(i:Nat):Bool:=za3 (l.getD i bF.zero).aI&&(decide (0<=(l.getD i bF.zero).gen/\(l.getD i bF.zero).gen<=1073741824)&&(decide (i=0)||decide (ltT (l.getD (i-1) bF.zero) (l.getD i bF.zero))))
def zak4(t:List aA):List (aF×ByteArray):=t.flatMap λ q=>(zA0 q).map λ p=>(p,q.aB.name)
def cntP(t:List aA):Int:=(t.map λ q=>((zA0 q).length:Int)).sum
theorem zde0(t:List aA):cntP t=((zak4 t).length:Int):=by
 unfold cntP zak4;induction t with
 |nil=>rfl
 |cons q t ih=>simp only[cX,List.sum_cons,ih,dV,bR,cO];omega
def zaO1(l:List bF)(q:aA):Bool:=(zA0 q).all λ p=>(genT l p q.aB.name).2
def zS5(h:bC):Bool:=zK4 h.aG&&((List.range h.tags.length).all (okT h.tags)&&(h.aG.all (zaO1 h.tags)&&decide (cntP h.aG=(h.tags.length:Int))))
theorem zaV7(a b:bF):0<=cmpT a b↔¬ltT a b:=by
 unfold cmpT
 by_cases h:ltT a b
 .simp[h]
 .by_cases h2:keyT a=keyT b<;>simp[h,h2]
theorem zcL7(h:bC)(g1:Int×Int)(i:Nat)(hi:g1.2=i)(hl:h.tags.length<=1000000)(v:List aF)(hv:v.length<=1000)(h0:0<=g1.1)(h1:g1.1<=1000000):
  zc1 (zX4 h g1 v) (g1.1,0)=some (if v.all (λ p=>(genT h.tags p (h.aG.getD i aA.zero).aB.name).2)=true then .inl (g1.1+(v.length:Int))else .inr false):=by
 have key:=zv8 (body:=zX4 h g1 v) v aF.zero (λ i (s:Int)=>(s,(i:Int))) (λ _ p s=>some (if(genT h.tags p (h.aG.getD i aA.zero).aB.name).2=true then Sum.inl (s+1)else .inr (Sum.inr (α:=Int) false))) (λ s=>Sum.inl (β:=Bool) s)
  (λ j s=>s=g1.1+j) (λ j s hj hs=>by
   refine⟨?_,λ s' hs'=>?_⟩
   .unfold zX4;have h3:0<=(j:Int)/\(j:Int)<(v.length:Int):=by omega
    simp only[h3.1,h3.2,cN,zl3,bU,bT,Int.toNat_natCast,hi];rw[zcj1 _ _ _ hl,Option.bind_some,zc2 j (by omega),zk8 (by omega) (by omega)];cases(genT h.tags (v.getD j aF.zero) (h.aG.getD i aA.zero).aB.name).2<;>rfl
   .split at hs'
    .simp only[cK,dW]at hs';subst hs';rw[hs];omega
    .cases hs') (λ s hs=>by unfold zX4;simp) g1.1 (by simp)
 rw[show((g1.1,0):Int×Int)=(λ(i:Nat) (s:Int)=>(s,(i:Int))) 0 g1.1 from rfl,key,zcj2 (λ p=>(genT h.tags p (h.aG.getD i aA.zero).aB.name).2) (λ _=>1)];have e:(v.map λ _=>(1:Int)).sum=(v.length:Int):=by
  clear key hv
  induction v with
  |nil=>rfl
  |cons a v ih=>simp only[cX,List.sum_cons,ih,List.length_cons];omega
 rw[e]
theorem zbx6(h:bC)(hl:h.tags.length<=1000000):zS3 h=some (zS5 h):=by
 unfold zS3 zS5;rw[zaC7,Option.bind_some];cases hv:zK4 h.aG with
 |false=>rfl
 |true=>
  have hV:=(zx3 _).1 hv;rw[bN (by decide),zJ8 h.tags.length (okT h.tags) (λ i hi=>by
   unfold zaw1 okT;have h3:0<=(i:Int)/\(i:Int)<(h.tags.length:Int):=by omega
   simp only[h3.1,h3.2,cN,zl3,bU,bT,Int.toNat_natCast];rw[zk8 (x:=(i:Int)+1) (by omega) (by omega)];obtain⟨x,hx⟩:∃x,h.tags.getD i bF.zero=x:=⟨_,rfl⟩;simp only[hx];cases c1:za3 x.aI with
   |false=>simp
   |true=>
    by_cases c2:0<=x.gen/\x.gen<=1073741824
    .rw[bN (by simp;omega)]
     by_cases e0:i=0
     .subst e0;rw[zb0 (by simp)];simp[c2]
     .rw[zX8 i (by omega) (by omega),zb0 (by intro _;omega)];have p0:(0:Int)<(i:Int):=by omega
      simp only[p0,bU,bT,Int.toNat_natCast,zbp7,Option.bind_some,cA,c2,cN,e0,cV,dK]
      by_cases k:ltT (h.tags.getD (i-1) bF.zero) x
      .rw[bN (by rw[bQ,zaV7];exactλ z=>z k),bO (cB k)]
      .rw[bO (by rw[bQ,zaV7];exact k),bN (by rw[bQ];exact k)]
    .rw[bO (by simp;omega)];simp[c2]) (by unfold zaw1;simp),Option.bind_some]
  cases ho:(List.range h.tags.length).all (okT h.tags)with
  |false=>rfl
  |true=>
   simp only[bT,cA];unfold zaw0;have key:=zv8 (body:=zX5 h) h.aG aA.zero (λ i (s:Int)=>(s,(i:Int))) (λ _ q s=>some (if zaO1 h.tags q=true then Sum.inl (s+((zA0 q).length:Int))else .inr (Sum.inr (α:=Int) false))) (λ s=>Sum.inl (β:=Bool) s)
    (λ j s=>0<=s/\s<=24*j) (λ j s hj hs=>by
     have hm:=zm9 (z:=aA.zero) hj;have hpl:=zbc6 (hV.each _ hm);have hql:=zu8 (hV.each _ hm);have hl8:=hV.len;refine⟨?_,λ s' hs'=>?_⟩
     .unfold zX5;have h3:0<=(j:Int)/\(j:Int)<(h.aG.length:Int):=by omega
      simp only[h3.1,h3.2,cN,zl3,bU,bT,Int.toNat_natCast];rw[zaC5 _ (by omega) (by omega) (by omega),Option.bind_some,zcL7 h (s,(j:Int)) j rfl hl _ (by omega) hs.1 (by simp only;omega),Option.bind_some];unfold zaO1 zaM2;rw[zc2 j (by omega)];cases(zA0 (h.aG.getD j aA.zero)).all λ p=>(genT h.tags p (h.aG.getD j aA.zero).aB.name).2<;>rfl
     .split at hs'
      .simp only[cK,dW]at hs';subst hs';omega
      .cases hs') (λ s hs=>by unfold zX5;simp) 0 (by simp)
   rw[show((0,0):Int×Int)=(λ(i:Nat) (s:Int)=>(s,(i:Int))) 0 0 from rfl,key,zcj2 (zaO1 h.tags) λ q=>((zA0 q).length:Int),Option.bind_some];cases h.aG.all (zaO1 h.tags)with
   |false=>rfl
   |true=>simp only[bT,cA,Int.zero_add];rfl
def inT(t:List aA)(x:bF):Bool:=decide (0<=zr8 t x.name)&&hasQ (t.getD (zr8 t x.name).toNat aA.zero) x.aI
def zbX3(h:bC):Bool:=zK4 h.aG&&((List.range h.tags.length).all (λ i=>okT h.tags i&&inT h.aG (h.tags.getD i bF.zero))&&decide (cntP h.aG=(h.tags.length:Int)))
theorem zcL8{α:Type}(f:α->Int):∀(l:List α) (i:Nat) (s:Int),walk (λ _ a s=>some (Sum.inl (β:=Int) (s+f a))) (λ s=>s) l i s=some (s+(l.map f).sum)
 |[],i,s=>by simp[walk]
 |a::l,i,s=>by simp only[walk];rw[zcL8 f l (i+1) (s+f a)];simp[Int.add_assoc]
theorem zbV5(h:bC)(hl:h.tags.length<=1000000):zN1 h=some (zbX3 h):=by
 unfold zN1 zbX3;rw[zaf1,Option.bind_some];cases hv:zK4 h.aG with
 |false=>rfl
 |true=>
  have hV:=(zx3 _).1 hv;have hl8:=hV.len;rw[bN (by decide),zJ8 h.tags.length (λ i=>okT h.tags i&&inT h.aG (h.tags.getD i bF.zero)) (λ i hi=>by
   unfold zar9 okT;have h3:0<=(i:Int)/\(i:Int)<(h.tags.length:Int):=by omega
   simp only[h3.1,h3.2,cN,zl3,bU,bT,Int.toNat_natCast];rw[zk8 (x:=(i:Int)+1) (by omega) (by omega)];obtain⟨x,hx⟩:∃x,h.tags.getD i bF.zero=x:=⟨_,rfl⟩;simp only[hx,zao3,zdd9]
   by_cases e0:i=0
   .subst e0;rw[zb0 (by simp)];cases c1:za3 x.aI with
    |false=>simp
    |true=>
     by_cases c2:0<=x.gen/\x.gen<=1073741824
     .rw[bN (by simp;omega),zN5 _ _ (by omega),Option.bind_some];unfold inT;rcases zav0 (t:=h.aG) (nm:=x.name)with f|⟨j,f,hj,_⟩
      .rw[f,zb0 (by intro k;exact absurd k (by decide))];simp
      .rw[f,zb0 (by intro _;omega),bO (by simp)];have hm:=zu8 (hV.each _ (zm9 (z:=aA.zero) hj));simp only[Int.toNat_natCast];rw[zaC6 _ _ (by omega) (by omega) (by omega),Option.bind_some];rcases hb (hasQ (h.aG.getD j aA.zero) x.aI)with b|b<;>simp[c2,b,-List.getD_eq_getElem?_getD]
     .rw[bO (by simp;omega)];simp[c2]
   .rw[zX8 i (by omega) (by omega),zb0 (by intro _;omega)];have p0:(0:Int)<(i:Int):=by omega
    simp only[p0,bU,cA,Int.toNat_natCast,e0,cV,dK];cases c1:za3 x.aI with
    |false=>simp
    |true=>
     by_cases c2:0<=x.gen/\x.gen<=1073741824
     .by_cases k:ltT (h.tags.getD (i-1) bF.zero) x
      .rw[bN (by simp[k,-List.getD_eq_getElem?_getD]<;>omega),zN5 _ _ (by omega),Option.bind_some];unfold inT;rcases zav0 (t:=h.aG) (nm:=x.name)with f|⟨j,f,hj,_⟩
       .rw[f,zb0 (by intro k;exact absurd k (by decide))];simp
       .rw[f,zb0 (by intro _;omega),bO (by simp)];have hm:=zu8 (hV.each _ (zm9 (z:=aA.zero) hj));simp only[Int.toNat_natCast];rw[zaC6 _ _ (by omega) (by omega) (by omega),Option.bind_some];rcases hb (hasQ (h.aG.getD j aA.zero) x.aI)with b|b<;>simp[c2,k,b,-List.getD_eq_getElem?_getD]
      .rw[bO (by simp[k,-List.getD_eq_getElem?_getD])];simp[k,-List.getD_eq_getElem?_getD]
     .rw[bO (by simp;omega)];simp[c2]) (by unfold zar9;simp),Option.bind_some]
  cases ho:(List.range h.tags.length).all (λ i=>okT h.tags i&&inT h.aG (h.tags.getD i bF.zero))with
  |false=>rfl
  |true=>
   simp only[bT,cA];unfold zar8;have key:=zv8 (body:=zae2 h) h.aG aA.zero (λ i (s:Int)=>(s,(i:Int))) (λ _ q s=>some (Sum.inl (β:=Int) (s+((zA0 q).length:Int)))) (λ s=>s)
    (λ j s=>0<=s/\s<=24*j) (λ j s hj hs=>by
     have hm:=zm9 (z:=aA.zero) hj;have hpl:=zbc6 (hV.each _ hm);have hql:=zu8 (hV.each _ hm);refine⟨?_,λ s' hs'=>?_⟩
     .unfold zae2;have h3:0<=(j:Int)/\(j:Int)<(h.aG.length:Int):=by omega
      simp only[h3.1,h3.2,cN,zl3,bU,bT,Int.toNat_natCast];rw[zbp2 _ (by omega) (by omega) (by omega),Option.bind_some,zc2 j (by omega),zk8 (by omega) (by omega)];rfl
     .simp only[cK,dW]at hs';subst hs';omega) (λ s hs=>by unfold zae2;simp) 0 (by simp)
   rw[show((0,0):Int×Int)=(λ(i:Nat) (s:Int)=>(s,(i:Int))) 0 0 from rfl,key,zcL8,Option.bind_some,Int.zero_add];rfl
theorem zcL9{l:List bF}(h:∀i,0<i->i<l.length->ltT (l.getD (i-1) bF.zero) (l.getD i bF.zero)):l.Pairwise ltT:=by
 have key:∀i d,i+d+1<l.length->ltT (l.getD i bF.zero) (l.getD (i+d+1) bF.zero):=by
  intro i d;induction d with
  |zero=>intro hi;exact h (i+1) (by omega) hi
  |succ d ih=>intro hi;exact zbt7 (ih (by omega)) (h (i+(d+1)+1) (by omega) hi)
 refine fY.2 λ i j hi hj hij=>?_;have:=key i (j-i-1) (by omega);rw[show i+(j-i-1)+1=j by omega,zB3 _ _ _ hi,zB3 _ _ _ hj]at this;exact this
theorem zcj3{l:List bF}(h:l.Pairwise ltT):(l.map keyT).Nodup:=iH.2 (h.imp λ hab=>zaO0 hab)
theorem zbp8{t:List aA}(h:AscN t):(zak4 t).Nodup:=by refine List.pairwise_flatMap.2 ⟨λ q _=>iH.2 ((zbt3 (zaO7 _)).imp λ hab e=>hab (dC Prod.fst e)),h.imp λ{a b} hab x hx y hy e=>?_⟩;obtain⟨p,_,rfl⟩:=cD.1 hx;obtain⟨p',_,e'⟩:=cD.1 hy;rw[<-e']at e;exact zcA0 hab (dC Prod.snd e)
theorem zaO9{t:List aA}{p:aF}{n:ByteArray}:(p,n)∈zak4 t↔∃q∈t,q.aB.name=n/\p∈zA0 q:=by
 unfold zak4;rw[fI];constructor
 .rintro⟨q,h1,h2⟩;obtain⟨p',h3,e⟩:=cD.1 h2;refine⟨q,h1,dC Prod.snd e,?_⟩;rw[<-show p'=p from dC Prod.fst e];exact h3
 .rintro⟨q,h1,rfl,h3⟩;exact⟨q,h1,cD.2 ⟨p,h3,rfl⟩⟩
theorem zbX4{t:List aA}(h:ValidT t)(x:bF):inT t x=true↔keyT x∈zak4 t:=by
 unfold inT keyT;rw[zaO9,bM,bQ];constructor
 .rintro⟨h1,h2⟩;rcases zav0 (t:=t) (nm:=x.name)with f|⟨j,f,hj,hn⟩
  .omega
  .rw[f,Int.toNat_natCast]at h2;have hm:=zm9 (z:=aA.zero) hj;exact⟨_,hm,hn,(zao9 ((zt4 _).1 (h.each _ hm)).1).2 h2⟩
 .rintro⟨q,h1,h2,h3⟩;obtain⟨i,hi,rfl⟩:=dU h1;have hf:=zbc7 h.asc hi;rw[zB3 _ _ _ hi,h2]at hf;rw[hf,Int.toNat_natCast,zB3 _ _ _ hi];exact⟨by omega,(zao9 ((zt4 _).1 (h.each _ h1)).1).1 h3⟩
theorem zbp9{α:Type}{a b:List α}(ha:a.Nodup)(h:∀x∈a,x∈b)(hl:b.length<=a.length):∀x∈b,x∈a:=λ x hx=>eP λ hn=>by
 have:(x::a).length<=b.length:=dO (gS.2 ⟨hn,ha⟩) (by
  intro y hy;rcases bX.1 hy with rfl|hy
  .exact hx
  .exact h y hy)
 rw[List.length_cons]at this;omega
theorem zcM0(h:bC):zbX3 h=zS5 h:=by
 unfold zbX3 zS5;cases hv:zK4 h.aG with
 |false=>rfl
 |true=>
  have hV:=(zx3 _).1 hv;simp only[cA];rw[cJ];simp only[bM,cS,dH,bQ,zde0,Int.natCast_inj];have hK:(∀x,x<h.tags.length->okT h.tags x=true)->(h.tags.map keyT).Nodup:=λ ha=>zcj3 (zcL9 λ i h0 hi=>by
   have:=ha i hi;unfold okT at this;simp only[bM,dE,bQ]at this;rcases this.2.2 with k|k
   .omega
   .exact k)
  constructor
  .rintro⟨h1,h2⟩;refine⟨λ x hx=>(h1 x hx).1,λ q hq=>?_,h2⟩;have hb:=zbp9 (hK λ x hx=>(h1 x hx).1) (b:=zak4 h.aG) (λ x hx=>by
    obtain⟨y,hy,rfl⟩:=cD.1 hx;obtain⟨i,hi,rfl⟩:=dU hy;have:=(h1 i hi).2;rw[zB3 _ _ _ hi]at this;exact(zbX4 hV _).1 this) (by rw[cO];omega)
   unfold zaO1;rw[cS];intro p hp;exact zbH7.2 (hb _ (zaO9.2 ⟨q,hq,rfl,hp⟩))
  .rintro⟨h1,h2,h3⟩;refine⟨λ x hx=>⟨h1 x hx,?_⟩,h3⟩;have hb:=zbp9 (zbp8 hV.asc) (b:=h.tags.map keyT) (λ x hx=>by
    obtain⟨p,n⟩:=x;obtain⟨q,hq,rfl,hp⟩:=zaO9.1 hx;have:=h2 q hq;unfold zaO1 at this;rw[cS]at this;exact zbH7.1 (this p hp)) (by rw[cO];omega)
   rw[zB3 _ _ _ hx];exact(zbX4 hV _).2 (hb _ (cD.2 ⟨_,hX hx,rfl⟩))
theorem zbq0(h:bC)(hl:h.tags.length<=1000000):zN1 h=some (zS5 h):=by rw[zbV5 h hl,zcM0]
theorem zbq1{α X:Type}(p:α->Bool)(fin:List α->X):∀(l:List α) (i:Nat) (s:List α),walk (λ _ a s=>some (.inl (if p a=true then s++[a]else s))) fin l i s=some (fin (s++l.filter p))
 |[],i,s=>by simp[walk]
 |a::l,i,s=>by
  simp only[walk,hI];rw[zbq1 p fin l (i+1)]
  by_cases h:p a=true<;>simp[h]
theorem zbq2{α:Type}(l:List α)(z:α)(p:α->Bool){body:Int×List α->Option ((Int×List α)⊕List α)}
  (hb:∀(i:Nat) (s:List α),i<l.length->s.length<=i->body ((i:Int),s)=some (.inl (((i+1:Nat):Int),if p (l.getD i z)=true then s++[l.getD i z]else s)))
  (he:∀s,body ((l.length:Int),s)=some (.inr s)):zc1 body (0,[])=some (l.filter p):=by
 have key:=zv8 (body:=body) l z (λ i (s:List α)=>((i:Int),s)) (λ _ a s=>some (.inl (if p a=true then s++[a]else s))) (λ s=>s) (λ i s=>s.length<=i)
  (λ i s hi hs=>by
   refine⟨?_,λ s' hs'=>?_⟩
   .rw[hb i s hi hs];rfl
   .simp only[cK,dW]at hs';subst hs';split
    .rw[bR,List.length_singleton];omega
    .omega) (λ s _=>he s) [] (by simp)
 rw[show((0,[]):Int×List α)=(λ(i:Nat) (s:List α)=>((i:Int),s)) 0 []from rfl,key,zbq1];rfl
def atL(l:List aD)(s:Int):List aD:=l.filter λ r=>decide (r.home=s)
theorem zcp0(l:List aD)(s:Int)(hl:l.length<=1000000):zl5 l s=some (atL l s):=by
 unfold zl5 atL;rw[zbq2 l aD.zero (λ r=>decide (r.home=s)) (λ i o hi ho=>by
  unfold zav3;have h3:0<=(i:Int)/\(i:Int)<(l.length:Int):=by omega
  have h1:o.length+1<=4294967296:=by omega
  simp only[h1,h3.1,h3.2,cN,zl3,bU,bT,Int.toNat_natCast,zc2 i (show i<4611686018427387904 by omega)]
  by_cases e:(l.getD i aD.zero).home=s<;>simp[e,-List.getD_eq_getElem?_getD]) (λ o=>by unfold zav3;simp),Option.bind_some]
 rfl
theorem zcM1(l:List aD)(s:Int)(hl:l.length<=1000000):zq5 l s=some (atL l s):=by
 unfold zq5 atL;rw[zbq2 l aD.zero (λ r=>decide (r.home=s)) (λ i o hi ho=>by
  unfold zaI0;have h3:0<=(i:Int)/\(i:Int)<(l.length:Int):=by omega
  have h1:o.length+1<=4294967296:=by omega
  simp only[h1,h3.1,h3.2,cN,zl3,bU,bT,Int.toNat_natCast,zc2 i (show i<4611686018427387904 by omega)]
  by_cases e:(l.getD i aD.zero).home=s<;>simp[e,-List.getD_eq_getElem?_getD]) (λ o=>by unfold zaI0;simp),Option.bind_some]
 rfl
theorem zdP0{l:List aD}(h:catV l=true)(s:Int):catV (atL l s)=true:=by obtain⟨h1,h2,h3⟩:=(zav2 l).1 h;refine(zav2 _).2 ⟨fG (iG _ _) h1,λ r hr=>h2 r (dM.1 hr).1,h3.sublist eX⟩
def newH(l:List aD)(s:Int):bC×Int:=if catV l=true/\0<=s/\s<4 then({bC.zero with aG:=(newT (atL l s)).1},0)else(bC.zero,1)
theorem zde1{l:List aD}(h:catV l=true)(s:Int):(newT (atL l s)).2=0:=by unfold newT;rw[bO (zdP0 h s)]
theorem zcM2(l:List aD)(s:Int):zab4 l s=some (newH l s):=by
 unfold zab4 newH;rw[zbc8,Option.bind_some];cases h:catV l with
 |false=>rfl
 |true=>
  have hl:=((zav2 l).1 h).1
  by_cases hs:0<=s/\s<4
  .rw[bN (by simp;omega),bO ⟨rfl,hs⟩,zcp0 l s (by omega),Option.bind_some,zcA4,Option.bind_some,zde1 h,bN (by decide)]
  .rw[bO (by simp;omega),bN (by omega)]
theorem zcA7(l:List aD)(s:Int):zaf6 l s=some (newH l s):=by
 unfold zaf6 newH;rw[zbp5,Option.bind_some];cases h:catV l with
 |false=>rfl
 |true=>
  have hl:=((zav2 l).1 h).1
  by_cases hs:0<=s/\s<4
  .rw[bN (by simp;omega),bO ⟨rfl,hs⟩,zcM1 l s (by omega),Option.bind_some,zcA3,Option.bind_some,zde1 h,bN (by decide)]
  .rw[bO (by simp;omega),bN (by omega)]
instance:DecidableEq bC:=λ a b=>decidable_of_iff (a.aG=b.aG/\a.tags=b.tags) ⟨λ h=>bC.ext h.1 h.2,λ h=>by rw[h];exact⟨rfl,rfl⟩⟩
theorem zbx7(a b:bC)(hl:a.aG.length<=1000000)(hs:Lens a.aG)(ht:a.tags.length<=1000000):zs6 a b=some (decide (a=b)):=by
 unfold zs6;rw[zaY3 _ _ hl (λ q hq=>hs q hq),Option.bind_some]
 by_cases e:a.aG=b.aG
 .by_cases h:a.tags.length=b.tags.length
  .rw[bN (by simp[e,h])];refine(zbs3 a.tags b.tags bF.zero (by omega) h (λ i=>rfl)).trans ?_;congr 1;rw[fZ];exact⟨λ k=>bC.ext e k,λ k=>by rw[k]⟩
  .have:¬a=b:=λ k=>h (by rw[k]);rw[bO (by simp[e];omega),fF this]
 .have:¬a=b:=λ k=>e (by rw[k]);rw[bO (by simp[e]),fF this]
def zcj4(h:bC):Bool:=decide (h.aG.length<=10)&&((List.range h.aG.length).all (λ i=>decide ((h.aG.getD i aA.zero).aL.length<=10/\(h.aG.getD i aA.zero).aH.length<=10/\(h.aG.getD i aA.zero).aU.length<=10))&&decide (h.tags.length<=80))
theorem zcW9(h:bC):zo8 h=some (zcj4 h):=by
 unfold zo8 zm7 zcj4
 by_cases h10:10<h.aG.length
 .rw[bO (by simp;omega),Option.bind_some,fF (show¬h.aG.length<=10 by omega)];rfl
 .rw[bN (by simp[aS.zero];omega),zJ8 h.aG.length (λ i=>decide ((h.aG.getD i aA.zero).aL.length<=10/\(h.aG.getD i aA.zero).aH.length<=10/\(h.aG.getD i aA.zero).aU.length<=10)) (λ i hi=>by
   unfold zW9;have h3:0<=(i:Int)/\(i:Int)<(h.aG.length:Int):=by omega
   simp only[h3.1,h3.2,cN,zl3,bU,bT,Int.toNat_natCast];rw[zk8 (by omega) (by omega),zb0 (by intro _;trivial),zb0 (by intro _;trivial)]
   by_cases e:(h.aG.getD i aA.zero).aL.length<=10/\(h.aG.getD i aA.zero).aH.length<=10/\(h.aG.getD i aA.zero).aU.length<=10
   .rw[bN (by simp[-List.getD_eq_getElem?_getD];omega),bO (cB e)]
   .rw[bO (by simp[-List.getD_eq_getElem?_getD];omega),bN (by rw[bQ];exact e)]) (by unfold zW9;simp),Option.bind_some]
  rw[cB (show h.aG.length<=10 by omega),cA];cases ho:(List.range h.aG.length).all (λ i=>decide ((h.aG.getD i aA.zero).aL.length<=10/\(h.aG.getD i aA.zero).aH.length<=10/\(h.aG.getD i aA.zero).aU.length<=10))with
  |false=>rfl
  |true=>simp only[bT];unfold zai2;rw[zJ8 0 (λ _=>true) (λ i hi=>by omega) (by unfold zai1;simp[aS.zero])];simp[zaL9];omega
theorem zcM3{h:bC}(k:zcj4 h=true):h.aG.length<=10/\Lens h.aG/\h.tags.length<=80:=by unfold zcj4 at k;simp only[bM,bQ,cS,dH]at k;refine⟨k.1,λ q hq=>?_,k.2.2⟩;obtain⟨i,hi,rfl⟩:=dU hq;have:=k.2.1 i hi;rw[zB3 _ _ _ hi]at this;omega
def nums:List (Int×bH):=[(71,⟨187,0,1073741824,0⟩),(82,⟨188,0,1073741824,0⟩),(69,⟨189,0,1073741824,0⟩),(89,⟨190,0,7,0⟩),(83,⟨191,0,3,0⟩),(73,⟨192,1,99,0⟩),(66,⟨193,-1,99,1⟩)]
theorem zcA8:zc3=some nums:=rfl
def zcM4(m:aK):Bool:=nums.all λ e=>decide (zi9 m ((zu0 e.2.of).getD 0)=0)
theorem zaH2(m:aK):zcM4 m=true↔m.gen=0/\m.round=0/\m.epoch=0/\m.aX=0/\m.site=0/\m.inc=0/\m.label=0:=by unfold zcM4 nums;simp only[List.all_cons,List.all_nil,eK,bM,bQ];rfl
def zbO2(s:aS):Bool:=decide (s.aG.length=0)&&decide (s.bA.length=0)
def zbf8(m:aK):Bool:=zcM4 m&&(zbO2 m.state&&(decide (m.options.length=0)&&(decide (m.kind=0)&&(decide (m.aI=aF.zero)&&(decide (m.aW=aO.zero)&&!m.done)))))
theorem zdC8(m:aK):zk0 m=some (zbf8 m):=by
 unfold zk0;rw[zcA8,Option.bind_some];refine zdL2 λ q hq=>?_;have key:∀l:List (Int×bH),(∀e∈l,(zu0 e.2.of).isSome=true)->
   zbw8 (zag9 m) (λ g1:Unit=>(Sum.inl ():Unit⊕Bool)) l ()=some (if l.all (λ e=>decide (zi9 m ((zu0 e.2.of).getD 0)=0))=true then .inl ()else .inr false):=by
  intro l;induction l with
  |nil=>intro _;rfl
  |cons e l ih=>
   intro h;simp only[zbw8,zag9];obtain⟨k,hk⟩:=iP.1 (h e (.head _));rw[hk,Option.bind_some]
   by_cases h0:zi9 m k=0
   .rw[bN (by simp[h0])];simp only[ih λ x hx=>h x (.tail _ hx),List.all_cons,hk,Option.getD_some,h0,bU,cA]
   .rw[bO (by simp[h0])];simp[hk,h0]
 have hm:∀i,i∈q↔i<7:=λ i=>by rw[hq.mem_iff,dH];rfl
 rw[key _ (λ e he=>by
  obtain⟨i,hi,rfl⟩:=cD.1 he;have:=(hm i).1 hi
  match i,this with
  |0,_=>rfl
  |1,_=>rfl
  |2,_=>rfl
  |3,_=>rfl
  |4,_=>rfl
  |5,_=>rfl
  |6,_=>rfl),Option.bind_some]
 have hz:((q.map (nums.getD · (0,bH.zero))).all λ e=>decide (zi9 m ((zu0 e.2.of).getD 0)=0))=zcM4 m:=by
  rw[cJ,zaH2,cS];constructor
  .intro h;have g:∀i,i<7->zi9 m ((zu0 (nums.getD i (0,bH.zero)).2.of).getD 0)=0:=λ i hi=>iI (h _ (cD.2 ⟨i,(hm i).2 hi,rfl⟩));exact⟨g 0 (by omega),g 1 (by omega),g 2 (by omega),g 3 (by omega),g 4 (by omega),g 5 (by omega),g 6 (by omega)⟩
  .rintro⟨h0,h1,h2,h3,h4,h5,h6⟩ e he;obtain⟨i,hi,rfl⟩:=cD.1 he;have:=(hm i).1 hi;rw[bQ]
   match i,this with
   |0,_=>exact h0
   |1,_=>exact h1
   |2,_=>exact h2
   |3,_=>exact h3
   |4,_=>exact h4
   |5,_=>exact h5
   |6,_=>exact h6
 rw[hz];unfold zbf8;cases zcM4 m with
 |false=>rfl
 |true=>
  simp only[bT,cA];unfold zag8 zbO2
  by_cases a:m.state.aG.length=0<;>by_cases b:m.state.bA.length=0<;>by_cases c:m.options.length=0<;>simp[a,b,c,gJ]
end Ab
end Go.Proofs.YtdlfhmkmnjbihaaGreatDoor
