import Derived.Test.YtdlfhmkmnjbihaaGreatDoorTabA
import Derived.Test.YtdlfhmkmnjbihaaGreatDoorHm27
namespace Go.Proofs.YtdlfhmkmnjbihaaGreatDoor
namespace Ab
set_option linter.unusedVariables false
set_option linter.unusedSimpArgs false
theorem zbx7(x:aF)(s:List aF)(hs:s.Pairwise ltP)(hx:x∉s)(hl:s.length<=1000000):zc0 (zK9) ((s.length:Int),s++[x])=some (zay5 x s):=by
 obtain⟨r,h1,h2⟩:=zap9 (body:=zK9) (λ g=>∃pre post:List aF,g=((pre.length:Int),pre++x::post)/\pre++post=s/\∀y∈post,ltP x y) (λ g=>g.1.toNat) (λ r=>r=zay5 x s) (by
  rintro g ⟨pre,post,rfl,hp,hpost⟩;have hpl:pre.length+post.length=s.length:=by rw[<-hp,bP]
  unfold zK9;simp only[bP,List.length_cons]
  by_cases h0:pre=[]
  .right;subst h0;refine⟨_,by rw[za6 (by simp),za6 (by simp),bL (by simp)],?_⟩;simp only[List.nil_append]at hp⊢;subst hp;refine zau2 (cG.2 ⟨hpost,hs⟩) (zau4 hs) λ y=>?_;rw[zau3,bY]
  .obtain⟨pre',y,rfl⟩:∃p' y,pre=p'++[y]:=⟨pre.dropLast,pre.getLast h0,(List.dropLast_concat_getLast h0).symm⟩;have hk:(pre'++[y]).length=pre'.length+1:=by simp
   rw[hk]at hpl⊢;have w:IntKind.i64.wrap (((pre'.length+1:Nat):Int)-1)=(pre'.length:Int):=by rw[zj5 (by omega) (by omega)];omega
   have e1:(pre'++[y]++x::post).getD pre'.length aF.zero=y:=by simp[bO]
   have e2:(pre'++[y]++x::post).getD (pre'.length+1) aF.zero=x:=by simp[bO]
   have g1:0<=(pre'.length:Int)/\(pre'.length:Int)<((pre'.length+1+(post.length+1):Nat):Int):=by omega
   have g2:0<=((pre'.length+1:Nat):Int)/\((pre'.length+1:Nat):Int)<((pre'.length+1+(post.length+1):Nat):Int):=by omega
   have hpos:decide (0<((pre'.length+1:Nat):Int))=true:=bZ (by omega);simp only[w,Int.toNat_natCast,e1,e2,hpos,cA];rw[za6 (λ _=>g1),za6 (λ _=>g2)];have hlt:decide (0<zq8 y x)=decide (ltP x y):=by rw[fQ];exact zbP3 y x
   rw[hlt]
   by_cases hxy:ltP x y
   .left;rw[bM (bZ hxy),za6 g1,za6 g2,za6 g1,za6 g2];refine⟨((pre'.length:Int),pre'++x::(y::post)),?_,⟨pre',y::post,rfl,by rw[<-hp];simp,λ z hz=>?_⟩,by simp only[Int.toNat_natCast];omega⟩
    .congr 3;rw[dE,gE _ _ (cQ _),hB,gE _ _ (by omega),show pre'.length+1-pre'.length=1 by omega];rfl
    .rcases bY.1 hz with rfl|hz
     .exact hxy
     .exact hpost z hz
   .right;refine⟨_,by rw[bL (by simpa using hxy)],?_⟩;have hyx:ltP y x:=by
     rcases zaa0 (p:=x) (q:=y) (λ e=>hx (by rw[<-hp,e];simp))with h|h
     .exact absurd h hxy
     .exact h
    rw[<-hp]at hs;obtain⟨a1,a2,a3⟩:=jB.1 hs;obtain⟨b1,b2,b3⟩:=jB.1 a1;have hpre:∀z∈pre'++[y],ltP z x:=λ z hz=>by
     rcases cF.1 hz with hz|hz
     .exact zat5 (b3 z hz y (by simp)) hyx
     .rw[dK]at hz;rw[hz];exact hyx
    rw[<-hp];refine zau2 (jB.2 ⟨a1,cG.2 ⟨hpost,a2⟩,λ z hz u hu=>?_⟩) (zau4 hs) λ z=>?_
    .rcases bY.1 hu with rfl|hu
     .exact hpre z hz
     .exact a3 z hz u hu
    .rw[zau3];simp only[cF,bY,dK];constructor
     .rintro((h|h)|h|h)
      .exact .inr (.inl (.inl h))
      .exact .inr (.inl (.inr h))
      .exact .inl h
      .exact .inr (.inr h)
     .rintro(h|(h|h)|h)
      .exact .inr (.inl h)
      .exact .inl (.inl h)
      .exact .inl (.inr h)
      .exact .inr (.inr h)) ((s.length:Int),s++[x]) ⟨s,[],by simp,by simp,by simp⟩
 rw[h1,h2]
theorem zaF8(l:List aF)(hl:l.length<=1000000):zh6 l=some (zbk2 l):=by
 unfold zh6;have key:=zv6 (body:=zy8 l) l aF.zero (λ i (s:List aF)=>((i:Int),s)) (λ _ p s=>some (.inl (zay5 p s))) (λ s=>s) (λ i s=>s.Pairwise ltP/\s.length<=i)
  (λ i s hi hs=>by
   have hlen:∀p,(zay5 p s).length<=s.length+1:=λ p=>by
    have:=dH (zbf3 (zau4 (p:=p) hs.1)) (l₂:=p::s) λ z hz=>by
     rcases zau3.1 hz with rfl|h
     .exact .head _
     .exact .tail _ h
    simpa using this
   refine⟨?_,λ s' h=>?_⟩
   .unfold zy8;have h3:0<=(i:Int)/\(i:Int)<(l.length:Int):=by omega
    simp only[h3.1,h3.2,cP,zk1,bV,bS,Int.toNat_natCast];rw[zaP5 _ _ (by omega),Option.bind_some,zd0 i (by omega)]
    by_cases hm:l.getD i aF.zero∈s
    .rw[bM (bZ hm),Option.map_some,zcC3 hs.1 hm];rfl
    .rw[bL (by rw[bQ];exact hm),za6 (by omega),zbx7 _ _ hs.1 hm (by omega),Option.bind_some];unfold zad2;simp only[zd0 i (show i<4611686018427387904 by omega),Option.map_some,wmap]
   .simp only[cJ,dQ]at h;subst h;exact⟨zau4 hs.1,by have:=hlen (l.getD i aF.zero);omega⟩)
  (λ s hs=>by unfold zy8;simp) [] ⟨.nil,by simp⟩
 rw[show((0,[]):Int×List aF)=(λ(i:Nat) (s:List aF)=>((i:Int),s)) 0 []from rfl,key,zbn3 (λ s p=>zay5 p s)];rfl
theorem zay6{α β:Type}(l:List α)(z:α)(f:α->β)(s0:List β){body:Int×List β->Option ((Int×List β)⊕List β)}(hl:l.length<=1000000)(h0:s0.length<=1000000)
  (hb:∀(i:Nat) (s:List β),i<l.length->s.length<=3000000->body ((i:Int),s)=some (.inl (((i+1:Nat):Int),s++[f (l.getD i z)]))) (he:∀s,body ((l.length:Int),s)=some (.inr s)):zc0 body (0,s0)=some (s0++l.map f):=by
 have key:=zv6 (body:=body) l z (λ i (s:List β)=>((i:Int),s)) (λ i a s=>some (.inl (zaO2 s (some (f a))))) (λ s=>s) (λ i s=>s.length<=1000000+i)
  (λ i s hi hs=>⟨by rw[hb i s hi (by omega)];rfl,λ s' h=>by simp only[cJ,dQ]at h;subst h;simp[zaO2];omega⟩) (λ s hs=>he s) s0 (by omega)
 rw[show((0,s0):Int×List β)=(λ(i:Nat) (s:List β)=>((i:Int),s)) 0 s0 from rfl,key,zaO3 (λ a=>some (f a))];simp
theorem zbx8(l:List aO)(hl:l.length<=1000000):ze6 l=some (l.map (·.aI)):=by
 unfold ze6;rw[zay6 l aO.zero (·.aI) [] hl (by simp) (λ i s hi hs=>by
  unfold zY4;have h3:0<=(i:Int)/\(i:Int)<(l.length:Int):=by omega
  have h1:s.length+1<=4294967296:=by omega
  simp only[h1,h3.1,h3.2,cP,zk1,bV,bS,Int.toNat_natCast,zd0 i (show i<4611686018427387904 by omega)]) (λ s=>by unfold zY4;simp)]
 rfl
theorem zbS3(q:aA)(h1:q.aH.length<=1000)(h2:q.aT.length<=1000):zi1 q=some ((ordQ q).map (·.aI)):=by
 unfold zi1;rw[zay6 q.aH aM.zero (·.aI) [] (by omega) (by simp) (λ i s hi hs=>by
  unfold zaf8;have h3:0<=(i:Int)/\(i:Int)<(q.aH.length:Int):=by omega
  have h1:s.length+1<=4294967296:=by omega
  simp only[h1,h3.1,h3.2,cP,zk1,bV,bS,Int.toNat_natCast,zd0 i (show i<4611686018427387904 by omega)]) (λ s=>by unfold zaf8;simp),Option.bind_some]
 unfold zaf7;rw[zay6 q.aT aM.zero (·.aI) _ (by omega) (by simp;omega) (λ i s hi hs=>by
  unfold zaf6;have h3:0<=(i:Int)/\(i:Int)<(q.aT.length:Int):=by omega
  have h1:s.length+1<=4294967296:=by omega
  simp only[h1,h3.1,h3.2,cP,zk1,bV,bS,Int.toNat_natCast,zd0 i (show i<4611686018427387904 by omega)]) (λ s=>by unfold zaf6;simp),Option.bind_some]
 unfold zas5 ordQ;rw[dX,List.nil_append]
theorem zar1(q:aA)(h0:q.aL.length<=1000)(h1:q.aH.length<=1000)(h2:q.aT.length<=1000):zr3 q=some (zu6 q):=by
 unfold zr3 zu6;have hl:(ordQ q).length<=2000:=by unfold ordQ;rw[bP];omega
 rw[zbx8 _ (by omega),Option.bind_some,zbS3 q h1 h2,Option.bind_some,za6 (by simp;omega),zaF8 _ (by simp;omega)];rfl
theorem zae6{t:List aA}(hl:t.length<=8)(h:∀q∈t,ze7 q=true):zt7 t=some (zl7 t):=by
 unfold zt7;have key:=zv6 (body:=zW4 t) t aA.zero (λ i (s:List aF)=>((i:Int),s)) (λ _ q s=>some (.inl (s++zu6 q))) (λ s=>s) (λ i s=>s.length<=24*i)
  (λ i s hi hs=>by
   have hq:=h _ (zh4 (z:=aA.zero) hi);have hql:=zo6 hq;have hpl:=zau5 hq;refine⟨?_,λ s' h=>?_⟩
   .unfold zW4;have h3:0<=(i:Int)/\(i:Int)<(t.length:Int):=by omega
    simp only[h3.1,h3.2,cP,zk1,bV,bS,Int.toNat_natCast];rw[zar1 _ (by omega) (by omega) (by omega),Option.bind_some,za6 (by omega),zd0 i (by omega)];rfl
   .simp only[cJ,dQ]at h;subst h;rw[bP];omega)
  (λ s hs=>by unfold zW4;simp) [] (by simp)
 rw[show((0,[]):Int×List aF)=(λ(i:Nat) (s:List aF)=>((i:Int),s)) 0 []from rfl,key,zbS2 zu6,List.nil_append,Option.bind_some];unfold zat1;have:=zbH7 t h;rw[zaF8 _ (by omega)];rfl
theorem zbS4(t:List aA):zJ5 t=some (zbn6 t):=by
 unfold zJ5 zbn6
 by_cases h8:8<t.length
 .have:¬t.length<=8:=by omega
  rw[bM (by simp;omega)];simp[this]
 .have hl:t.length<=8:=by omega
  rw[bL (by simp;omega),zbS1 t hl (λ i hi=>by
   unfold zah1;have h3:0<=(i:Int)/\(i:Int)<(t.length:Int):=by omega
   simp only[h3.1,h3.2,cP,fI,zk1,bV,bS,Int.toNat_natCast,zae2,Option.bind_some,zd0 i (by omega)]
   by_cases e0:i=0
   .subst e0;rw[za6 (by simp)];cases ze7 (t.getD 0 aA.zero)<;>simp
   .rw[zan3 i (by omega) (by omega),za6 (by intro _;omega)];simp only[Int.toNat_natCast,show(0:Int)<(i:Int)by omega,bV,cA,e0,iF];unfold ltN;rcases hb (ze7 (t.getD i aA.zero))with b1|b1<;>rcases hb (Op.bytesLess (t.getD (i-1) aA.zero).aB.name.toList (t.getD i aA.zero).aB.name.toList)with b2|b2<;>simp[b1,b2,-List.getD_eq_getElem?_getD]) (by unfold zah1;simp)]
  simp only[hl,bV,cA];cases hw:ascW t none<;>rfl
theorem zX3(t:List aA):zx4 t=some (zH4 t):=by
 unfold zx4 zH4;rw[zbS4,Option.bind_some];cases hp:zbn6 t with
 |false=>rfl
 |true=>obtain⟨h1,h2,_⟩:=(zbS0 t).1 hp;rw[bM rfl,zae6 h1 h2,Option.bind_some,cA];congr 1;rw[cI];simp;omega
theorem zE6(t:List aA)(nm:ByteArray)(hl:t.length<=1000000):zf6 t nm=some (zm5 t nm):=by
 unfold zf6;rw[zcd6 t aA.zero (isN nm) (λ i hi=>by
  unfold zak5 isN;have h3:0<=(i:Int)/\(i:Int)<(t.length:Int):=by omega
  simp only[h3.1,h3.2,cP,zk1,bV,bS,Int.toNat_natCast,zd0 i (by omega)];split<;>rfl) (by unfold zak5;simp)]
 unfold zm5;cases t.findIdx? (isN nm)<;>rfl
theorem zcD2(a b:List aA)(h:a.length=b.length)(hl:a.length<=1000000)(hs:∀q∈a,q.aL.length<=1000/\q.aH.length<=1000/\q.aT.length<=1000):
  zc0 (zR9 a b) 0=some (if a=b then .inl ()else .inr false):=by
 have key:zc0 (zR9 a b) 0=some ((zC2 (λ i=>if decide (a.getD i aA.zero=b.getD i aA.zero)=true then none else some (Sum.inr false)) a.length 0).getD (Sum.inl ())):=by
  refine zD5 a.length _ (Sum.inl ()) (λ i hi=>?_) ?_
  .have hq:=hs _ (zh4 (z:=aA.zero) hi);unfold zR9;rw[bM (by simpa using hi),za6 (by omega),za6 (by omega),zj5 (by omega) (by omega)];simp only[Int.toNat_natCast];rw[zbX8 _ _ (by omega) (by omega) (by omega),Option.bind_some]
   by_cases hx:a.getD i aA.zero=b.getD i aA.zero
   .simp only[hx,bV,cW,bN,bU,bS]
   .simp only[hx,dL,dU,bS,bN,bU]
  .unfold zR9;rw[bL (by simp)]
 rw[key,zM7,<-dS,zdd6 a b aA.zero h]
 by_cases e:a=b<;>simp[e]
theorem zbk3(a b:List aA)(hl:a.length<=1000000)(hs:∀q∈a,q.aL.length<=1000/\q.aH.length<=1000/\q.aT.length<=1000):zp7 a b=some (decide (a=b)):=by
 unfold zp7
 by_cases h:a.length=b.length
 .rw[bL (by simp[h]),zcD2 a b h hl hs]
  by_cases e:a=b<;>simp[e,zaz2]
 .have:¬a=b:=λ e=>h (by rw[e]);rw[bM (by simp;omega),fU this]
def zbS5(nm:ByteArray)(h:aO):aS:=⟨1,h.aI,nm,h.aK⟩
def zw2(nm:ByteArray)(l:List aO):List aS:=l.map (zbS5 nm)
def zbS6(p:aF)(nm:ByteArray)(a:aC):aS:=⟨3,p,nm,a⟩
theorem zcI7(nm:ByteArray)(l:List aO)(hl:l.length<=1000000):zf7 nm l=some (zw2 nm l):=by
 unfold zf7;rw[zay6 l aO.zero (zbS5 nm) [] hl (by simp) (λ i s hi hs=>by
  unfold zab2;have h3:0<=(i:Int)/\(i:Int)<(l.length:Int):=by omega
  have h1:s.length+1<=4294967296:=by omega
  simp only[h1,h3.1,h3.2,cP,zk1,bV,bS,Int.toNat_natCast,zd0 i (show i<4611686018427387904 by omega)];rfl) (λ s=>by unfold zab2;simp)]
 rfl
theorem zcs7(nm:ByteArray)(l:List aO)(ev:List aS)(hl:l.length<=1000000)(he:ev.length<=1000000):ze0 nm l ev=some (ev++zw2 nm l):=by
 unfold ze0;rw[zay6 l aO.zero (zbS5 nm) ev hl he (λ i s hi hs=>by
  unfold zY3;have h3:0<=(i:Int)/\(i:Int)<(l.length:Int):=by omega
  have h1:s.length+1<=4294967296:=by omega
  simp only[h1,h3.1,h3.2,cP,zk1,bV,bS,Int.toNat_natCast,zd0 i (show i<4611686018427387904 by omega)];rfl) (λ s=>by unfold zY3;simp)]
 rfl
theorem zcs8(nm:ByteArray)(l:List aO)(ev:List aS)(hl:l.length<=1000000)(he:ev.length<=1000000):zf1 nm l ev=some (ev++zw2 nm l):=by have e:zf1 nm l ev=ze0 nm l ev:=rfl;rw[e];exact zcs7 nm l ev hl he
theorem zav9(nm:ByteArray)(l:List aO)(hl:l.length<=1000000):zd9 nm l=some (zw2 nm l):=by
 unfold zd9;rw[zay6 l aO.zero (zbS5 nm) [] hl (by simp) (λ i s hi hs=>by
  unfold zab3;have h3:0<=(i:Int)/\(i:Int)<(l.length:Int):=by omega
  have h1:s.length+1<=4294967296:=by omega
  simp only[h1,h3.1,h3.2,cP,fI,zk1,bV,bS,Int.toNat_natCast,zd0 i (show i<4611686018427387904 by omega)];rfl) (λ s=>by unfold zab3;simp)]
 rfl
def zaA4(t:List aA)(i:Int)(q:aA):List aA:=if 0<=i then t.set i.toNat q else t
def Lens(t:List aA):Prop:=∀q∈t,q.aL.length<=1000/\q.aH.length<=1000/\q.aT.length<=1000
theorem zcj7(t:List aA)(hl:t.length<=1000)(hs:Lens t):zc0 (zP3 t) (0,List.replicate t.length aA.zero)=some t:=by
 obtain⟨x,hx,hp⟩:=zap9 (body:=zP3 t) (λ g=>∃i:Nat,i<=t.length/\g.1=(i:Int)/\g.2.length=t.length/\g.2.take i=t.take i) (λ g=>t.length-g.1.toNat) (λ x=>x=t) (by
  rintro⟨gi,s⟩ ⟨i,hi,h1,h2,h3⟩;simp only at h1 h2 h3;subst h1;unfold zP3
  by_cases hlt:i<t.length
  .left;have hq:=hs _ (zh4 (z:=aA.zero) hlt);have g3:0<=(i:Int)/\(i:Int)<(t.length:Int):=by omega
   have g4:0<=(i:Int)/\(i:Int)<((s.length:Nat):Int):=by omega
   refine⟨(((i+1:Nat):Int),s.set i (t.getD i aA.zero)),?_,⟨i+1,by omega,rfl,by simp[h2],?_⟩,by simp only[Int.toNat_natCast];omega⟩
   .simp only[Int.toNat_natCast,zd0 i (show i<4611686018427387904 by omega)];rw[bM (bZ g3.2),za6 g3,za6 (by omega),za6 (by omega),za6 (by omega),za6 g4]
   .simp only;rw[zaC8 (z:=aA.zero) (show i<(s.set i (t.getD i aA.zero)).length by rw[dP];omega),iA (cQ _),h3,zav7 _ _ _ _ (by omega),zaC8 (z:=aA.zero) hlt]
  .right;have:i=t.length:=by omega
   subst this;refine⟨s,by rw[bL (by simp)],?_⟩;rw[dG (by omega),fC]at h3;exact h3) (0,List.replicate t.length aA.zero) ⟨0,by omega,rfl,by simp,by simp⟩
 rw[hx,hp]
theorem zO9(t:List aA)(i:Int)(q:aA)(hl:t.length<=1000)(hs:Lens t)(hi:i<t.length):zc9 t i q=some (zaA4 t i q):=by
 unfold zc9;rw[za6 (by omega),Int.toNat_natCast,zcj7 t hl hs,Option.bind_some];unfold zam0 zaA4
 by_cases h0:0<=i
 .rw[bM (bZ h0),za6 (by omega),bM h0]
 .rw[bL (by simpa using h0),bL h0]
theorem zbn7(t:List aA)(i:Int)(q:aA)(hl:t.length<=1000)(hs:Lens t)(hi:i<t.length):zc8 t i q=some (zaA4 t i q):=by have e:zc8 t i q=zc9 t i q:=rfl;rw[e];exact zO9 t i q hl hs hi
theorem zau6(t:List aA)(i:Int)(q:aA)(hl:t.length<=1000)(h0:0<=i)(hi:i<t.length):zd4 t i q=some (zaA4 t i q):=by unfold zd4 zaA4;rw[za6 (by omega),za6 (by omega),bM h0]
theorem ValidT.lens{t:List aA}(h:ValidT t):Lens t:=λ q hq=>by have:=zo6 (h.each q hq);omega
abbrev ResT:=List aA×List aS×Int
def errT(e:Int):ResT:=([],[],e)
def putT(t:List aA)(nm:ByteArray)(x:aA×List aO×Int)(ev:List aS):ResT:=if x.2.2=0 then(zaA4 t (zm5 t nm) x.1,ev++zw2 nm x.2.1,0)else errT x.2.2
def atT(t:List aA)(nm:ByteArray)(f:aA->ResT):ResT:=if zH4 t=false then errT 2 else if zm5 t nm<0 then errT 10 else f (t.getD (zm5 t nm).toNat aA.zero)
def zaI6(t:List aA)(p:aF):Bool:=decide (8<=(zl7 t).length)&&!decide (p∈zl7 t)
def zv1(t:List aA)(p:aF)(a:bF)(pr:Int):ResT:=atT t a.name λ q=>if zaI6 t p=true then errT 4 else putT t a.name (zy0 q p a.aK pr) []
def zt9(t:List aA)(p:aF)(nm:ByteArray):ResT:=atT t nm λ q=>putT t nm (zw7 q p) []
def zu4(t:List aA)(p:aF)(a:bF):ResT:=atT t a.name λ q=>putT t a.name (zv0 q p a.aK) (if getH q.aL p=a.aK then[]else[zbS6 p a.name a.aK])
theorem nd0{P:Prop}[Decidable P](h:P):¬((!decide P)=true):=by simp[h]
theorem nd1{P:Prop}[Decidable P](h:¬P):(!decide P)=true:=by simp[h]
theorem zbb2(t:List aA)(nm:ByteArray):zV0 t nm=some (if zH4 t=false then(0,2)else if zm5 t nm<0 then(0,10)else(zm5 t nm,0)):=by
 unfold zV0;rw[zaq9,Option.bind_some];cases hv:zH4 t with
 |false=>rfl
 |true=>
  have hl:=((zs4 t).1 hv).len;rw[ifNT,ifTF,zaK8 _ _ (by omega),Option.bind_some]
  by_cases hf:zm5 t nm<0
  .rw[bM (bZ hf),bM hf]
  .rw[bL (by simpa using hf),bL hf]
theorem zam6{t:List aA}{nm:ByteArray}(h:¬zm5 t nm<0):0<=zm5 t nm/\zm5 t nm<t.length:=by
 rcases zak1 (t:=t) (nm:=nm)with h1|⟨i,h1,h2,_⟩
 .omega
 .omega
theorem zaS9{t:List aA}(h:ValidT t){nm:ByteArray}(hf:¬zm5 t nm<0):ze7 (t.getD (zm5 t nm).toNat aA.zero)=true:=by have:=zam6 hf;exact h.each _ (zh4 (by omega))
theorem zdp4{t:List aA}(h:ValidT t)(p:aF):((!decide (p∈zl7 t))&&(decide (8<=((zl7 t).length:Int))))=zaI6 t p:=by unfold zaI6;rw[Bool.and_comm];congr 1;rw[fQ];omega
theorem zbS7(t:List aA)(p:aF)(a:bF)(pr:Int):zV1 t p a pr=some (zv1 t p a pr):=by
 unfold zV1 zv1 atT;rw[zbb2,Option.bind_some];cases hv:zH4 t with
 |false=>rfl
 |true=>
  have h:=(zs4 t).1 hv;have hl:=h.len;have hpl:=h.bJ;simp only[dY,bU]
  by_cases hf:zm5 t a.name<0
  .rw[bM hf,bM hf];rfl
  .have hr:=zam6 hf;have hs:=zaS9 h hf;have hsh:=zaS7 (t.getD (zm5 t a.name).toNat aA.zero) p a.aK pr;simp only[bL hf,bV,cW,bN,bU,zaq8 hl h.each,Option.bind_some,zah8 (zl7 t) p (by omega),zdp4 h p];cases hfu:zaI6 t p with
   |true=>rfl
   |false=>
    simp only[bN,bU];rw[za6 (by omega),zbR2,Option.bind_some];unfold putT
    by_cases e:(zy0 (t.getD (zm5 t a.name).toNat aA.zero) p a.aK pr).2.2=0
    .rw[bL (nd0 e),bM e,zO9 _ _ _ (by omega) h.lens (by omega),Option.bind_some,zcI7 _ _ (by have:=hsh.2.2.2;omega)];rfl
    .rw[bM (nd1 e),bL e];rfl
theorem zbF2(t:List aA)(p:aF)(nm:ByteArray):zQ0 t p nm=some (zt9 t p nm):=by
 unfold zQ0 zt9 atT;rw[zbb2,Option.bind_some];cases hv:zH4 t with
 |false=>rfl
 |true=>
  have h:=(zs4 t).1 hv;have hl:=h.len;simp only[dY,bU]
  by_cases hf:zm5 t nm<0
  .rw[bM hf,bM hf];rfl
  .have hr:=zam6 hf;have hsh:=zaK6 (t.getD (zm5 t nm).toNat aA.zero) p;simp only[bL hf,bV,cW,bN,bU];rw[za6 (by omega),zbE8,Option.bind_some];unfold putT
   by_cases e:(zw7 (t.getD (zm5 t nm).toNat aA.zero) p).2.2=0
   .rw[bL (nd0 e),bM e,zO9 _ _ _ (by omega) h.lens (by omega),Option.bind_some,zcI7 _ _ (by have:=hsh.2.2.2;omega)];rfl
   .rw[bM (nd1 e),bL e];rfl
theorem zcD3{q:aA}{p:aF}{a:aC}(h:(zv0 q p a).2.2=0)(e:getH q.aL p=a):(zv0 q p a).2.1=[]:=by
 obtain⟨_,_,_,_,_,hh⟩:=zaa1 h;rcases hh with⟨_,e2⟩|⟨hne,_,_⟩
 .rw[e2]
 .exact absurd e hne
theorem zbS8(t:List aA)(p:aF)(a:bF):zV2 t p a=some (zu4 t p a):=by
 unfold zV2 zu4 atT;rw[zbb2,Option.bind_some];cases hv:zH4 t with
 |false=>rfl
 |true=>
  have h:=(zs4 t).1 hv;have hl:=h.len;simp only[dY,bU]
  by_cases hf:zm5 t a.name<0
  .rw[bM hf,bM hf];rfl
  .have hr:=zam6 hf;have hs:=zaS9 h hf;have hql:=zo6 hs;have hsh:=zaS8 (t.getD (zm5 t a.name).toNat aA.zero) p a.aK;simp only[bL hf,bV,cW,bN,bU];rw[za6 (by omega),zbR4,Option.bind_some];unfold putT
   by_cases e:(zv0 (t.getD (zm5 t a.name).toNat aA.zero) p a.aK).2.2=0
   .rw[bL (nd0 e),bM e,za6 (by omega),zJ8 _ _ (by omega),Option.bind_some]
    by_cases e2:getH (t.getD (zm5 t a.name).toNat aA.zero).aL p=a.aK
    .rw[bM (bZ e2.symm),bM e2,zO9 _ _ _ (by omega) h.lens (by omega),Option.bind_some,zcD3 e e2];rfl
    .rw[bL (by rw[bQ];exactλ h=>e2 h.symm),bL e2,zO9 _ _ _ (by omega) h.lens (by omega),Option.bind_some,zcs7 _ _ _ (by have:=hsh.2.2.2;omega) (by simp)];rfl
   .rw[bM (nd1 e),bL e];rfl
theorem zbS9(t:List aA)(p:aF)(a:bF)(pr:Int):zJ6 t p a pr=some (zv1 t p a pr):=by
 unfold zJ6 zv1 atT;rw[zX3,Option.bind_some];cases hv:zH4 t with
 |false=>rfl
 |true=>
  have h:=(zs4 t).1 hv;have hl:=h.len;have hpl:=h.bJ;rw[ifNT,ifTF,zE6 _ _ (by omega),Option.bind_some]
  by_cases hf:zm5 t a.name<0
  .rw[bM (bZ hf),bM hf];rfl
  .have hr:=zam6 hf;have hsh:=zaS7 (t.getD (zm5 t a.name).toNat aA.zero) p a.aK pr;rw[bL (by rw[bQ];exact hf),bL hf,zae6 hl h.each,Option.bind_some,zaP5 _ _ (by omega)];have e8:decide (((zl7 t).length:Int)=8)=decide (8<=(zl7 t).length):=by rw[fQ];omega
   rw[e8];have hfu:zaI6 t p=(decide (8<=(zl7 t).length)&&!decide (p∈zl7 t)):=rfl;have hb2:((if decide (8<=(zl7 t).length)=true then some (decide (p∈zl7 t))else some false):Option Bool).bind (λ v4=>if(decide (8<=(zl7 t).length)&&!v4)=true then some (([],[],4):ResT)else gd (0<=zm5 t a.name/\zm5 t a.name<(t.length:Int))<|(zC1 (t.getD (zm5 t a.name).toNat aA.zero) p a.aK pr).bind λ v5=>if(!decide (v5.2.2=0))=true then some (([],[],v5.2.2):ResT)else(zd4 t (zm5 t a.name) v5.1).bind λ v6=>(zd9 a.name v5.2.1).bind λ v7=>some ((v6,v7,0):ResT))=
     if zaI6 t p=true then some (errT 4)else gd (0<=zm5 t a.name/\zm5 t a.name<(t.length:Int))<|(zC1 (t.getD (zm5 t a.name).toNat aA.zero) p a.aK pr).bind λ v5=>if(!decide (v5.2.2=0))=true then some (([],[],v5.2.2):ResT)else(zd4 t (zm5 t a.name) v5.1).bind λ v6=>(zd9 a.name v5.2.1).bind λ v7=>some ((v6,v7,0):ResT):=by
    rw[hfu]
    by_cases h8:8<=(zl7 t).length
    .simp only[h8,bV,bS,Option.bind_some,cA];rfl
    .simp only[h8,dL,bN,bU,Option.bind_some,gR]
   refine Eq.trans hb2 ?_;cases hfu2:zaI6 t p with
   |true=>rfl
   |false=>
    rw[ifFT,za6 (by omega),zbR3,Option.bind_some];unfold putT;simp only[bN,bU]
    by_cases e:(zy0 (t.getD (zm5 t a.name).toNat aA.zero) p a.aK pr).2.2=0
    .rw[bL (nd0 e),bM e,zau6 _ _ _ (by omega) (by omega) (by omega),Option.bind_some,zav9 _ _ (by have:=hsh.2.2.2;omega)];rfl
    .rw[bM (nd1 e),bL e];rfl
theorem zbF3(t:List aA)(p:aF)(nm:ByteArray):zL3 t p nm=some (zt9 t p nm):=by
 unfold zL3 zt9 atT;rw[zX3,Option.bind_some];cases hv:zH4 t with
 |false=>rfl
 |true=>
  have h:=(zs4 t).1 hv;have hl:=h.len;rw[ifNT,ifTF,zE6 _ _ (by omega),Option.bind_some]
  by_cases hf:zm5 t nm<0
  .rw[bM (bZ hf),bM hf];rfl
  .have hr:=zam6 hf;have hsh:=zaK6 (t.getD (zm5 t nm).toNat aA.zero) p;rw[bL (by rw[bQ];exact hf),bL hf,za6 (by omega),zbE9,Option.bind_some];unfold putT;dsimp only
   by_cases e:(zw7 (t.getD (zm5 t nm).toNat aA.zero) p).2.2=0
   .rw[bL (nd0 e),bM e,zau6 _ _ _ (by omega) (by omega) (by omega),Option.bind_some,zav9 _ _ (by have:=hsh.2.2.2;omega)];rfl
   .rw[bM (nd1 e),bL e];rfl
theorem zbT0(t:List aA)(p:aF)(a:bF):zJ7 t p a=some (zu4 t p a):=by
 unfold zJ7 zu4 atT;rw[zX3,Option.bind_some];cases hv:zH4 t with
 |false=>rfl
 |true=>
  have h:=(zs4 t).1 hv;have hl:=h.len;rw[ifNT,ifTF,zE6 _ _ (by omega),Option.bind_some]
  by_cases hf:zm5 t a.name<0
  .rw[bM (bZ hf),bM hf];rfl
  .have hr:=zam6 hf;have hs:=zaS9 h hf;have hql:=zo6 hs;have hsh:=zaS8 (t.getD (zm5 t a.name).toNat aA.zero) p a.aK;rw[bL (by rw[bQ];exact hf),bL hf,za6 (by omega),zx5 _ _ (by omega),Option.bind_some,za6 (by omega),zbR5,Option.bind_some];unfold putT;have k1:∀ev:List aS,ev.length<=1->(zv0 (t.getD (zm5 t a.name).toNat aA.zero) p a.aK).2.2=0->zO8 t a (zm5 t a.name) (zv0 (t.getD (zm5 t a.name).toNat aA.zero) p a.aK) ev=some (zaA4 t (zm5 t a.name) (zv0 (t.getD (zm5 t a.name).toNat aA.zero) p a.aK).1,ev++zw2 a.name (zv0 (t.getD (zm5 t a.name).toNat aA.zero) p a.aK).2.1,0):=λ ev hev e=>by
    unfold zO8;have hg:(zw2 a.name (zv0 (t.getD (zm5 t a.name).toNat aA.zero) p a.aK).2.1).length<=16:=by unfold zw2;rw[cH];exact hsh.2.2.2
    rw[zau6 _ _ _ (by omega) (by omega) (by omega),Option.bind_some,zav9 _ _ (by have:=hsh.2.2.2;omega),Option.bind_some,za6 (by omega)]
   dsimp only
   by_cases e:(zv0 (t.getD (zm5 t a.name).toNat aA.zero) p a.aK).2.2=0
   .rw[bL (nd0 e),bM e]
    by_cases e2:getH (t.getD (zm5 t a.name).toNat aA.zero).aL p=a.aK
    .rw[bL (nd0 e2),bM e2,k1 [] (by simp) e]
    .rw[bM (nd1 e2),bL e2,za6 (by decide),k1 _ (by simp) e];rfl
   .rw[bM (nd1 e),bL e];rfl
def ascR:List aD->Option ByteArray->Bool
 |[],_=>true
 |r::l,pv=>resV r&&((match pv with|none=>true|some n=>decide (ltN n r.name))&&ascR l (some r.name))
theorem zcs9:∀(l:List aD) (pv:Option ByteArray),ascR l pv=true↔(∀r∈l,resV r=true)/\l.Pairwise (λ a b=>ltN a.name b.name)/\∀n,pv=some n->∀r∈l,ltN n r.name
 |[],pv=>by simp only[ascR,eE,iG,fI,gV,fX,kG];exact .nil
 |q::t,pv=>by
  simp only[ascR,bK];rw[zcs9 t (some q.name)];constructor
  .rintro⟨h1,h2,h3,h4,h5⟩;refine⟨λ x hx=>?_,cG.2 ⟨λ x hx=>h5 _ rfl x hx,h4⟩,λ n hn x hx=>?_⟩
   .rcases bY.1 hx with rfl|hx
    .exact h1
    .exact h3 x hx
   .subst hn;simp only[bQ]at h2;rcases bY.1 hx with rfl|hx
    .exact h2
    .exact zbx6 h2 (h5 _ rfl x hx)
  .rintro⟨h1,h2,h3⟩;have h2':=cG.1 h2;refine⟨h1 q (.head _),?_,λ x hx=>h1 x (.tail _ hx),h2'.2,λ n hn x hx=>by cases hn;exact h2'.1 x hx⟩;cases pv with
   |none=>rfl
   |some n=>exact bZ (h3 n rfl q (.head _))
def catV(l:List aD):Bool:=decide (l.length<=8)&&ascR l none
theorem zae7(l:List aD):catV l=true↔l.length<=8/\(∀r∈l,resV r=true)/\l.Pairwise (λ a b=>ltN a.name b.name):=by unfold catV;rw[bK,bQ,zcs9];simp
theorem zcP9(t0:List aD):∀(t prev:List aD),t0=prev++t->
  walk (λ i q (_:Unit)=>some (if resV q=true/\(i=0\/ltN (t0.getD (i-1) aD.zero).name q.name)then Sum.inl ()else Sum.inr (Sum.inr (α:=Unit) false))) (λ _=>Sum.inl (β:=Bool) ()) t prev.length ()=
   some (if ascR t (prev.getLast?.map (·.name))=true then .inl ()else .inr false):=by
 intro t;induction t with
 |nil=>intro prev _;simp[walk,ascR]
 |cons q t ih=>
  intro prev ht;simp only[walk];have hq:(prev.length=0\/ltN (t0.getD (prev.length-1) aD.zero).name q.name)↔(match prev.getLast?.map (·.name)with|none=>true|some n=>decide (ltN n q.name))=true:=by
   by_cases hp:prev=[]
   .subst hp;simp
   .have h1:=zcd5 prev (q::t) aD.zero hp;rw[ht,h1,jA hp];have:prev.length≠0:=λ e=>hp (cL e);simp[this]
  by_cases e:resV q=true/\(prev.length=0\/ltN (t0.getD (prev.length-1) aD.zero).name q.name)
  .rw[bM e];have:=ih (prev++[q]) (by rw[ht];simp);rw[show(prev++[q]).length=prev.length+1 by simp]at this;simp only;have h2:ascR (q::t) (prev.getLast?.map (·.name))=ascR t (some q.name):=by simp only[ascR,e.1,hq.1 e.2,cA]
   rw[this,h2];simp
  .rw[bL e];rw[hq]at e;have hf:ascR (q::t) (prev.getLast?.map (·.name))=false:=by
    rw[dO];intro hh;simp only[ascR,bK]at hh;exact e ⟨hh.1,hh.2.1⟩
   rw[hf];rfl
theorem zct0{body:Int->Option (Int⊕(Unit⊕Bool))}(t:List aD)(hl:t.length<=8)
  (hb:∀i:Nat,i<t.length->body (i:Int)=some (if resV (t.getD i aD.zero)=true/\(i=0\/ltN (t.getD (i-1) aD.zero).name (t.getD i aD.zero).name)then .inl ((i+1:Nat):Int)else .inr (.inr false)))
  (he:body (t.length:Int)=some (.inr (.inl ()))):zc0 body 0=some (if ascR t none=true then .inl ()else .inr false):=by
 have key:=zad7 (body:=body) t aD.zero (λ i (_:Unit)=>(i:Int)) (λ i q _=>some (if resV q=true/\(i=0\/ltN (t.getD (i-1) aD.zero).name q.name)then Sum.inl ()else Sum.inr (Sum.inr (α:=Unit) false))) (λ _=>Sum.inl (β:=Bool) ())
  (λ i s hi=>by
   rw[hb i hi,Option.map_some];split<;>rfl) (λ s=>he) ()
 have:=zcP9 t t [] rfl;rw[show(0:Int)=(λ(i:Nat) (_:Unit)=>(i:Int)) 0 ()from rfl,key];exact this
theorem zaP6(t:List aD):zo4 t=some (catV t):=by
 unfold zo4 catV
 by_cases h8:8<t.length
 .have:¬t.length<=8:=by omega
  rw[bM (by simp;omega)];simp[this]
 .have hl:t.length<=8:=by omega
  rw[bL (by simp;omega),zct0 t hl (λ i hi=>by
   unfold zY7;have h3:0<=(i:Int)/\(i:Int)<(t.length:Int):=by omega
   simp only[h3.1,h3.2,cP,fI,zk1,bV,bS,Int.toNat_natCast,zaF1,Option.bind_some,zd0 i (by omega)]
   by_cases e0:i=0
   .subst e0;rw[za6 (by simp)];cases resV (t.getD 0 aD.zero)<;>simp
   .rw[zan3 i (by omega) (by omega),za6 (by intro _;omega)];simp only[Int.toNat_natCast,show(0:Int)<(i:Int)by omega,bV,cA,e0,iF];unfold ltN;rcases hb (resV (t.getD i aD.zero))with b1|b1<;>rcases hb (Op.bytesLess (t.getD (i-1) aD.zero).name.toList (t.getD i aD.zero).name.toList)with b2|b2<;>simp[b1,b2,-List.getD_eq_getElem?_getD]) (by unfold zY7;simp)]
  simp only[hl,bV,cA];cases hw:ascR t none<;>rfl
theorem zbb3(t:List aD):zw9 t=some (catV t):=by
 unfold zw9 catV
 by_cases h8:8<t.length
 .have:¬t.length<=8:=by omega
  rw[bM (by simp;omega)];simp[this]
 .have hl:t.length<=8:=by omega
  rw[bL (by simp;omega),zct0 t hl (λ i hi=>by
   unfold zag2;have h3:0<=(i:Int)/\(i:Int)<(t.length:Int):=by omega
   simp only[h3.1,h3.2,cP,fI,zk1,bV,bS,Int.toNat_natCast,zbr3,Option.bind_some,zd0 i (by omega)]
   by_cases e0:i=0
   .subst e0;rw[za6 (by simp)];cases resV (t.getD 0 aD.zero)<;>simp
   .rw[zan3 i (by omega) (by omega),za6 (by intro _;omega)];simp only[Int.toNat_natCast,show(0:Int)<(i:Int)by omega,bV,cA,e0,iF];unfold ltN;rcases hb (resV (t.getD i aD.zero))with b1|b1<;>rcases hb (Op.bytesLess (t.getD (i-1) aD.zero).name.toList (t.getD i aD.zero).name.toList)with b2|b2<;>simp[b1,b2,-List.getD_eq_getElem?_getD]) (by unfold zag2;simp)]
  simp only[hl,bV,cA];cases hw:ascR t none<;>rfl
def newT(l:List aD):List aA×Int:=if catV l=true then(l.map zV5,0)else([],1)
theorem zcj8(l:List aD):zT1 l=some (newT l):=by
 unfold zT1 newT;rw[zbb3,Option.bind_some];cases h:catV l with
 |false=>rfl
 |true=>
  have hl:=((zae7 l).1 h).1;rw[ifNT,zay6 l aD.zero zV5 [] (by omega) (by simp) (λ i s hi hs=>by
   unfold zap5;have h3:0<=(i:Int)/\(i:Int)<(l.length:Int):=by omega
   have h1:s.length+1<=4294967296:=by omega
   simp only[h1,h3.1,h3.2,cP,zk1,bV,bS,Int.toNat_natCast,zd0 i (show i<4611686018427387904 by omega)];rfl) (λ s=>by unfold zap5;simp)]
  rfl
theorem zcj9(l:List aD):zD9 l=some (newT l):=by
 unfold zD9 newT;rw[zaP6,Option.bind_some];cases h:catV l with
 |false=>rfl
 |true=>
  obtain⟨hl,hv,_⟩:=(zae7 l).1 h;have key:=zv6 (body:=zad5 l) l aD.zero (λ i (s:List aA)=>((i:Int),s)) (λ _ r s=>some (.inl (s++[zV5 r]))) (λ s=>.inl s) (λ i s=>s.length=i)
   (λ i s hi hs=>by
    refine⟨?_,λ s' h=>by simp only[cJ,dQ]at h;subst h;simp[hs]⟩;unfold zad5;have h3:0<=(i:Int)/\(i:Int)<(l.length:Int):=by omega
    have h1:s.length+1<=4294967296:=by omega
    have hr:newQ (l.getD i aD.zero)=(zV5 (l.getD i aD.zero),0):=by unfold newQ;rw[bM (hv _ (zh4 hi))];rfl
    simp only[h1,h3.1,h3.2,cP,zk1,bV,bS,Int.toNat_natCast,zd0 i (show i<4611686018427387904 by omega),zci6,hr,Option.bind_some,cW,bN,bU];rfl)
   (λ s hs=>by unfold zad5;simp) [] rfl
  have fold:∀(l:List aD) (i:Nat) (s:List aA),walk (λ(_:Nat) r (s:List aA)=>some (Sum.inl (β:=List aA⊕List aA×Int) (s++[zV5 r]))) (λ s=>Sum.inl s) l i s=some (.inl (s++l.map zV5)):=by
   intro l;induction l with
   |nil=>intro i s;simp[walk]
   |cons r l ih=>intro i s;simp only[walk,cN];rw[ih (i+1),dE];rfl
  rw[ifNT,show((0,[]):Int×List aA)=(λ(i:Nat) (s:List aA)=>((i:Int),s)) 0 []from rfl,key,fold];rfl
theorem zde9(l:List aD):Lens (newT l).1:=λ q hq=>by
 unfold newT at hq;split at hq
 .obtain⟨r,_,rfl⟩:=bW.1 hq;exact⟨by simp[zV5,aA.zero],by simp[zV5,aA.zero],by simp[zV5,aA.zero]⟩
 .cases hq
theorem zdp5(l:List aD):(newT l).1.length<=8:=by
 unfold newT;split
 .next h=>rw[cH];exact((zae7 l).1 h).1
 .simp
structure Small (t:List aA):Prop where
 len:t.length<=20
 lens:Lens t
def zbT1(x:ResT):Prop:=x.1.length<=1000000/\Lens x.1/\x.2.1.length<=1000000
theorem zaT0(e:Int):zbT1 (errT e):=⟨by simp[errT],λ q hq=>(nomatch hq),by simp[errT]⟩
theorem zdf0(t:List aA)(i:Int)(q:aA):(zaA4 t i q).length=t.length:=by unfold zaA4;split<;>simp
theorem zcQ0{t:List aA}(h:Lens t)(i:Int){q:aA}(hq:q.aL.length<=1000/\q.aH.length<=1000/\q.aT.length<=1000):Lens (zaA4 t i q):=λ x hx=>by
 unfold zaA4 at hx;split at hx
 .rcases hX hx with hx|rfl
  .exact h x hx
  .exact hq
 .exact h x hx
theorem zcD4{t:List aA}(h:Small t)(nm:ByteArray)(x:aA×List aO×Int)(ev:List aS)(hx:zaK5 x)(hev:ev.length<=1):zbT1 (putT t nm x ev):=by
 obtain⟨h1,h2,h3,h4⟩:=hx;have hl:=h.len;unfold putT;split
 .refine⟨by rw[zdf0];omega,zcQ0 h.lens _ ⟨by omega,by omega,by omega⟩,?_⟩;unfold zw2;rw[bP,cH];omega
 .exact zaT0 _
theorem zcQ1{t:List aA}(nm:ByteArray){f:aA->ResT}(h:∀q,zbT1 (f q)):zbT1 (atT t nm f):=by
 unfold atT;split
 .exact zaT0 _
 .split
  .exact zaT0 _
  .exact h _
theorem zaT1{t:List aA}(h:Small t)(p:aF)(a:bF)(pr:Int):zbT1 (zv1 t p a pr):=zcQ1 _ λ q=>by
 split
 .exact zaT0 _
 .exact zcD4 h _ _ _ (zaS7 _ _ _ _) (by simp)
theorem zaK9{α:Type}(l:List α)(i:Nat)(z:α)(h:i<l.length):l.set i (l.getD i z)=l:=by rw[bO,bR h,Option.getD_some,List.set_getElem_self]
theorem zct1{body:Int×List aA×List aS->Option ((Int×List aA×List aS)⊕(List aA×List aS))}(t:List aA)(f:aA->aA)(e:aA->List aS)(hl:t.length<=1000)(he:∀q∈t,(e q).length<=100)
  (hb:∀(i:Nat) (s:List aA) (ev:List aS),i<t.length->s.length=t.length->s.getD i aA.zero=t.getD i aA.zero->ev.length<=100000->body ((i:Int),s,ev)=some (.inl (((i+1:Nat):Int),s.set i (f (t.getD i aA.zero)),ev++e (t.getD i aA.zero))))
  (hend:∀(s:List aA) (ev:List aS),s.length=t.length->body ((t.length:Int),s,ev)=some (.inr (s,ev))):zc0 body (0,t,[])=some (t.map f,t.flatMap e):=by
 have hev:∀i,i<=t.length->((t.take i).flatMap e).length<=100*i:=by
  intro i;induction i with
  |zero=>intro _;simp
  |succ i ih=>intro hi;rw[zaC8 (z:=aA.zero) (by omega),List.flatMap_append,bP];have:=ih (by omega);have h2:=he _ (zh4 (z:=aA.zero) (show i<t.length by omega));simp only[eG,iV,fB];omega
 obtain⟨x,hx,hp⟩:=zap9 (body:=body) (λ g=>∃i:Nat,i<=t.length/\g=((i:Int),(t.take i).map f++t.drop i,(t.take i).flatMap e)) (λ g=>t.length-g.1.toNat) (λ x=>x=(t.map f,t.flatMap e)) (by
  rintro g ⟨i,hi,rfl⟩;have hsl:((t.take i).map f++t.drop i).length=t.length:=by rw[bP,cH,dM,eO];omega
  by_cases hlt:i<t.length
  .left;have hml:((t.take i).map f).length=i:=by rw[cH,dM];omega
   have hd:t.drop i=t.getD i aA.zero::t.drop (i+1):=by rw[fE hlt,bO,bR hlt];rfl
   have hg:((t.take i).map f++t.drop i).getD i aA.zero=t.getD i aA.zero:=by rw[bO,eC (by omega),hml,hB,hd];rfl
   refine⟨_,hb i _ _ hlt hsl hg (by have:=hev i hi;omega),⟨i+1,by omega,?_⟩,by simp only[Int.toNat_natCast];omega⟩;rw[zaC8 (z:=aA.zero) hlt,dX,List.flatMap_append];congr 2
   .rw[gE _ _ (by omega),hml,hB,hd];simp
   .simp
  .right;have:i=t.length:=by omega
   subst this;refine⟨_,hend _ _ hsl,?_⟩;simp) (0,t,[]) ⟨0,by omega,by simp⟩
 rw[hx,hp]
def remE(p:aF)(q:aA):List aS:=if(zw1 q p).2.2=0 then(if getH q.aL p=aC.zero then[]else[zbS6 p q.aB.name aC.zero])++zw2 q.aB.name (zw1 q p).2.1 else[]
def remT(t:List aA)(p:aF):List aA×List aS:=if zH4 t=true then(t.map (remN · p),t.flatMap (remE p))else([],[])
theorem zbC9(nm:ByteArray)(l:List aO):(zw2 nm l).length=l.length:=by unfold zw2;rw[cH]
theorem zbT2(p:aF)(q:aA):(remE p q).length<=17:=by
 unfold remE;have:=(zaK7 q p).2.2.2;split
 .rw[bP,zbC9];split<;>simp<;>omega
 .simp
theorem zbb4{q:aA}(h:ze7 q=true)(p:aF):(remN q p).aB=q.aB:=
 (zbC6 h (p:=p) (x:={p with num:=p.num+1}) λ e=>by
  have h1:p.num+1=p.num:=cU aF.num e;omega).2
theorem zbF4(t:List aA)(p:aF):zG0 t p=some (remT t p):=by
 unfold zG0 remT;rw[zaq9,Option.bind_some];cases hv:zH4 t with
 |false=>rfl
 |true=>
  have h:=(zs4 t).1 hv;have hl:=h.len;rw[ifNT,bM rfl,zbn7 _ _ _ (by omega) h.lens (by omega),Option.bind_some];unfold zaA4;rw[bL (by decide),zct1 t (remN · p) (remE p) (by omega) (λ q _=>by have:=zbT2 p q;omega) (λ i s ev hi hs hg hev=>by
   have hq:=h.each _ (zh4 (z:=aA.zero) hi);have hql:=zo6 hq;have hsh:=(zaK7 (t.getD i aA.zero) p).2.2.2;have h3:0<=(i:Int)/\(i:Int)<(t.length:Int):=by omega
   have h4:0<=(i:Int)/\(i:Int)<((s.length:Nat):Int):=by omega
   unfold zU0;simp only[Int.toNat_natCast];rw[bM (bZ h3.2),za6 h3,zbF0,Option.bind_some];unfold remE remN
   by_cases e:(zw1 (t.getD i aA.zero) p).2.2=0
   .rw[bL (nd0 e),bM e,bM e,zJ8 _ _ (by omega),Option.bind_some]
    by_cases e2:getH (t.getD i aA.zero).aL p=aC.zero
    .rw[bL (nd0 e2),bM e2];unfold zT9;simp only[Int.toNat_natCast];rw[zcs8 _ _ _ (by omega) (by omega),Option.bind_some,za6 h4,zd0 i (by omega),List.nil_append]
    .rw[bM (nd1 e2),bL e2,za6 (by omega)];unfold zT9;simp only[Int.toNat_natCast];rw[zcs8 _ _ _ (by omega) (by simp;omega),Option.bind_some,za6 h4,zd0 i (by omega),dE];rfl
   .rw[bM (nd1 e),bL e,bL e,zd0 i (by omega),fB,<-hg,zaK9 _ _ _ (by omega)]) (λ s ev hs=>by
   unfold zU0;rw[bL (by simp)])]
  rfl
theorem zbF5(t:List aA)(p:aF):zG1 t p=some (remT t p):=by
 unfold zG1 remT;rw[zX3,Option.bind_some];cases hv:zH4 t with
 |false=>rfl
 |true=>
  have h:=(zs4 t).1 hv;have hl:=h.len;rw[ifNT,bM rfl,za6 (by omega),zct1 t (remN · p) (remE p) (by omega) (λ q _=>by have:=zbT2 p q;omega) (λ i s ev hi hs hg hev=>by
   have hq:=h.each _ (zh4 (z:=aA.zero) hi);have hql:=zo6 hq;have hsh:=(zaK7 (t.getD i aA.zero) p).2.2.2;have h4:0<=(i:Int)/\(i:Int)<((s.length:Nat):Int):=by omega
   have hn:=zbb4 hq p;unfold zU2;simp only[Int.toNat_natCast,hg];rw[bM (bZ h4.2),za6 h4,zaq6 _ _ (by omega) (by omega) (by omega),Option.bind_some];cases hp:hasQ (t.getD i aA.zero) p with
   |false=>
    have e:=zav8 hq hp;have e1:(zw1 (t.getD i aA.zero) p).2.2≠0:=by rw[e];decide
    unfold remE remN;rw[bL e1,bL e1,bM (show(!false)=true from rfl),zd0 i (by omega),fB,<-hg,zaK9 _ _ _ (by omega)]
   |true=>
    have e:=zcs5 hq hp;rw[ifNT,za6 h4,zx5 _ _ (by omega),Option.bind_some];have hz:zd6 (getH (t.getD i aA.zero).aL p)=decide (getH (t.getD i aA.zero).aL p=aC.zero):=rfl;rw[hz];unfold remE;rw[bM e.1];have k2:∀ev':List aS,ev'.length<=1000000->zU1 p ((i:Int),s,ev) ev'=some (.inl (((i+1:Nat):Int),s.set i (remN (t.getD i aA.zero) p),ev'++zw2 (t.getD i aA.zero).aB.name (zw1 (t.getD i aA.zero) p).2.1)):=λ ev' hev'=>by unfold zU1;simp only[Int.toNat_natCast,hg];rw[za6 h4,zbF1,Option.bind_some,za6 h4,e.2,hn,zav9 _ _ (by omega),Option.bind_some,za6 (by rw[zbC9];omega),zd0 i (by omega)]
    by_cases e2:getH (t.getD i aA.zero).aL p=aC.zero
    .rw[bL (nd0 e2),bM e2,k2 _ (by omega),List.nil_append]
    .rw[bM (nd1 e2),bL e2,za6 h4,za6 (by omega),k2 _ (by simp;omega),dE];rfl) (λ s ev hs=>by
   unfold zU2;simp only;rw[bL (by rw[bQ,hs];omega)])]
  rfl
theorem zae8{t:List aA}(h:∀q∈t,ze7 q=true){p:aF}:p∈zl7 t↔∃q∈t,hasQ q p=true:=by
 unfold zl7;rw[zbf2,eD];constructor
 .rintro⟨q,hq,hp⟩;exact⟨q,hq,(zae5 ((zp4 q).1 (h q hq)).1).1 hp⟩
 .rintro⟨q,hq,hp⟩;exact⟨q,hq,(zae5 ((zp4 q).1 (h q hq)).1).2 hp⟩
theorem zaT2(t:List aA):(zl7 t).Nodup:=zbf3 (zaC7 _)
theorem ValidT.map{t:List aA}(h:ValidT t)(f:aA->aA)(h1:∀q∈t,ze7 (f q)=true)(h2:∀q∈t,(f q).aB=q.aB)(h3:∀q∈t,∀p,hasQ (f q) p=true->hasQ q p=true):ValidT (t.map f):=by
 have he:∀q∈t.map f,ze7 q=true:=λ q hq=>by obtain⟨x,hx,rfl⟩:=bW.1 hq;exact h1 x hx
 refine⟨by rw[cH];exact h.len,he,?_,?_⟩
 .have:=h.asc;unfold AscN at*;rw[gX];exact this.imp_of_mem λ{a b} ha hb hab=>by rw[h2 a ha,h2 b hb];exact hab
 .refine eV (dH (zaT2 _) λ x hx=>?_) h.bJ;obtain⟨q,hq,hp⟩:=(zae8 he).1 hx;obtain⟨y,hy,rfl⟩:=bW.1 hq;exact(zae8 h.each).2 ⟨y,hy,h3 y hy x hp⟩
theorem zbf5{t:List aA}(h:ValidT t)(p:aF):remT t p=(t.map (remN · p),t.flatMap (remE p)):=by unfold remT;rw[bM ((zs4 t).2 h)]
theorem zaF9{t:List aA}(h:ValidT t)(p:aF):ValidT (remT t p).1:=by rw[zbf5 h];exact h.map _ (λ q hq=>zaq4 (h.each q hq) p) (λ q hq=>zbb4 (h.each q hq) p) λ q hq x hx=>((zbQ8 (h.each q hq) p x).1 hx).1
theorem zbH9{t:List aA}(h:ValidT t)(p:aF):(remT t p).2.length<=136:=by
 rw[zbf5 h];have:∀l:List aA,(l.flatMap (remE p)).length<=17*l.length:=by
  intro l;induction l with
  |nil=>simp
  |cons q l ih=>rw[eG,bP,List.length_cons];have:=zbT2 p q;omega
 have h1:=this t;have h2:=h.len;show(t.flatMap (remE p)).length<=136;omega
def oldP(a b:Int)(p:aF):Bool:=decide (p.site=a)&&decide (p.inc<b)
def zu0(a b:Int)(s:List aA×List aS)(p:aF):List aA×List aS:=if oldP a b p=true then((remT s.1 p).1,s.2++(remT s.1 p).2)else s
def zA9(t:List aA)(a b:Int):List aA×List aS:=if zH4 t=true then(zl7 t).foldl (zu0 a b) (t,[])else([],[])
theorem zbT3{body:List aA×Int×List aS->Option ((List aA×Int×List aS)⊕(List aA×List aS))}{t:List aA}(h:ValidT t)(a b:Int)
  (hb:∀(i:Nat) (s:List aA) (ev:List aS),i<(zl7 t).length->ValidT s->ev.length<=136*i->body (s,(i:Int),ev)=some (.inl ((zu0 a b (s,ev) ((zl7 t).getD i aF.zero)).1,((i+1:Nat):Int),(zu0 a b (s,ev) ((zl7 t).getD i aF.zero)).2)))
  (hend:∀(s:List aA) (ev:List aS),body (s,((zl7 t).length:Int),ev)=some (.inr (s,ev))):zc0 body (t,0,[])=some ((zl7 t).foldl (zu0 a b) (t,[])):=by
 have key:=zv6 (body:=body) (zl7 t) aF.zero (λ i (s:List aA×List aS)=>(s.1,(i:Int),s.2)) (λ _ p s=>some (.inl (zu0 a b s p))) (λ s=>s) (λ i s=>ValidT s.1/\s.2.length<=136*i)
  (λ i s hi hs=>⟨by rw[hb i s.1 s.2 hi hs.1 hs.2];rfl,λ s' h=>by
   simp only[cJ,dQ]at h;subst h;unfold zu0;split
   .have:=zbH9 hs.1 ((zl7 t).getD i aF.zero);exact⟨zaF9 hs.1 _,by rw[bP];omega⟩
   .exact⟨hs.1,by have:=hs.2;omega⟩⟩)
  (λ s hs=>hend s.1 s.2) (t,[]) ⟨h,by simp⟩
 rw[show((t,0,[]):List aA×Int×List aS)=(λ(i:Nat) (s:List aA×List aS)=>(s.1,(i:Int),s.2)) 0 (t,[])from rfl,key,zbn3 (zu0 a b)]
theorem zbT4(t:List aA)(a b:Int):zO4 t a b=some (zA9 t a b):=by
 unfold zO4 zA9;rw[zaq9,Option.bind_some];cases hv:zH4 t with
 |false=>rfl
 |true=>
  have h:=(zs4 t).1 hv;have hl:=h.len;have hpl:=h.bJ;rw[ifNT,bM rfl,zO9 _ _ _ (by omega) h.lens (by omega),Option.bind_some,zaq8 hl h.each,Option.bind_some];unfold zaA4;rw[bL (by decide),zbT3 h a b (λ i s ev hi hs hev=>by
   have h3:0<=(i:Int)/\(i:Int)<((zl7 t).length:Int):=by omega
   have hre:=zbH9 hs ((zl7 t).getD i aF.zero);unfold zah4 zu0 oldP;simp only[Int.toNat_natCast];rw[bM (bZ h3.2),za6 h3];have eb:(!decide (((zl7 t).getD i aF.zero).site=a)||decide (b<=((zl7 t).getD i aF.zero).inc))=!(decide (((zl7 t).getD i aF.zero).site=a)&&decide (((zl7 t).getD i aF.zero).inc<b)):=by rw[Bool.not_and];congr 1;rw[<-decide_not,fQ];omega
   rw[eb];cases hc:(decide (((zl7 t).getD i aF.zero).site=a)&&decide (((zl7 t).getD i aF.zero).inc<b))with
   |false=>rw[bM (show(!false)=true from rfl)];simp only[bN,bU,zd0 i (show i<4611686018427387904 by omega)]
   |true=>rw[ifNT,zbF4,Option.bind_some,za6 (by omega),zd0 i (by omega)];simp only[bS]) (λ s ev=>by
   unfold zah4;rw[bL (by simp)])]
  rfl
theorem zbT5(t:List aA)(a b:Int):zV3 t a b=some (zA9 t a b):=by
 unfold zV3 zA9;rw[zX3,Option.bind_some];cases hv:zH4 t with
 |false=>rfl
 |true=>
  have h:=(zs4 t).1 hv;have hl:=h.len;have hpl:=h.bJ;rw[ifNT,bM rfl,zae6 hl h.each,Option.bind_some,zbT3 h a b (λ i s ev hi hs hev=>by
   have h3:0<=(i:Int)/\(i:Int)<((zl7 t).length:Int):=by omega
   have hre:=zbH9 hs ((zl7 t).getD i aF.zero);unfold zah5 zu0 oldP;simp only[Int.toNat_natCast];rw[bM (bZ h3.2),za6 h3,za6 (λ _=>h3)];cases hc:(decide (((zl7 t).getD i aF.zero).site=a)&&decide (((zl7 t).getD i aF.zero).inc<b))with
   |false=>rw[bL (by decide),bL (by decide),zd0 i (by omega)]
   |true=>rw[bM rfl,bM rfl,za6 h3,zbF5,Option.bind_some,za6 (by omega),zd0 i (by omega)]) (λ s ev=>by
   unfold zah5;rw[bL (by simp)])]
  rfl
theorem zcd7(a b:Int):∀(ps:List aF) {s:List aA×List aS},ValidT s.1->ValidT (ps.foldl (zu0 a b) s).1/\(ps.foldl (zu0 a b) s).2.length<=s.2.length+136*ps.length
 |[],s,h=>⟨h,by simp⟩
 |p::ps,s,h=>by
  have h1:ValidT (zu0 a b s p).1/\(zu0 a b s p).2.length<=s.2.length+136:=by
   unfold zu0;split
   .have:=zbH9 h p;exact⟨zaF9 h p,by rw[bP];omega⟩
   .exact⟨h,by omega⟩
  have h2:=zcd7 a b ps h1.1;rw[List.foldl_cons,List.length_cons];exact⟨h2.1,by omega⟩
theorem zar2(t:List aA)(a b:Int):(zA9 t a b).1.length<=1000000/\Lens (zA9 t a b).1/\(zA9 t a b).2.length<=1000000:=by
 cases hv:zH4 t with
 |false=>unfold zA9;rw[hv];exact⟨by simp,λ q hq=>(nomatch hq),by simp⟩
 |true=>have h:=(zs4 t).1 hv;have h1:=zcd7 a b (zl7 t) (s:=(t,[])) h;have h2:=h.bJ;have h3:=h1.1.len;have h4:=h1.2;simp only[List.length_nil]at h4;unfold zA9;rw[bM hv];exact⟨by omega,h1.1.lens,by omega⟩
inductive StepQ (q:aA):aA->Prop where
 |same:StepQ q q
 |claim (p:aF) (a:aC) (pr:Int) (h:(zy0 q p a pr).2.2=0):StepQ q (zy0 q p a pr).1
 |cancel (p:aF) (h:(zw7 q p).2.2=0):StepQ q (zw7 q p).1
 |lower (p:aF) (a:aC) (h:(zv0 q p a).2.2=0):StepQ q (zv0 q p a).1
 |remove (p:aF) (h:(zw1 q p).2.2=0):StepQ q (zw1 q p).1
theorem zD1{q x:aA}(h:ze7 q=true)(hx:StepQ q x):ze7 x=true/\x.aB=q.aB:=by
 have hr:∀y:aA,(zt2 y).1.aB=y.aB:=λ y=>(zaS4 y).2;cases hx with
 |same=>exact⟨h,rfl⟩
 |claim p a pr h0=>
  obtain⟨_,_,_,_,_,hh⟩:=zau1 h0;rcases hh with⟨_,e⟩|⟨_,_,e,hs⟩|⟨_,_,_,e,hs⟩
  .rw[e];exact⟨h,rfl⟩
  .rw[e,hr];exact⟨zS6 hs,rfl⟩
  .rw[e,hr];exact⟨zS6 hs,rfl⟩
 |cancel p h0=>obtain⟨_,_,_,e,hs⟩:=zZ1 h0;rw[e,hr];exact⟨zS6 hs,rfl⟩
 |lower p a h0=>
  obtain⟨_,_,_,_,_,hh⟩:=zaa1 h0;rcases hh with⟨_,e⟩|⟨_,e,hs⟩
  .rw[e];exact⟨h,rfl⟩
  .rw[e,hr];exact⟨zS6 hs,rfl⟩
 |remove p h0=>obtain⟨_,_,_,e,hs⟩:=zaS5 h0;rw[e,hr];exact⟨zS6 hs,rfl⟩
theorem zH3(q:aA)(x:aF):hasQ (zt2 q).1 x=hasQ q x:=by rw[zaB6,zcI4,zcI3]
theorem zcd8{q:aA}{p:aF}{a:aC}{pr:Int}(h:(zy0 q p a pr).2.2=0){x:aF}(hx:hasQ (zy0 q p a pr).1 x=true):hasQ q x=true\/x=p:=by
 obtain⟨_,_,_,_,_,hh⟩:=zau1 h;rcases hh with⟨_,e⟩|⟨_,_,e,_⟩|⟨_,_,_,e,_⟩
 .rw[e]at hx;exact .inl hx
 .rw[e,zH3,zp5]at hx;rcases hx with⟨w,hw,ew⟩|hx
  .unfold ordQ claimC at hw;simp only[cF,dK]at hw;rcases hw with(hw|hw)|hw
   .exact .inl ((zp5 q x).2 (.inl ⟨w,cO _ hw,ew⟩))
   .rw[hw]at ew;exact .inr ew.symm
   .exact .inl ((zp5 q x).2 (.inl ⟨w,cC _ hw,ew⟩))
  .exact .inl ((zp5 q x).2 (.inr hx))
 .rw[e,zH3,zp5]at hx;rcases hx with⟨w,hw,ew⟩|hx
  .unfold ordQ claimW zaA3 at hw;simp only[cF,bY,bW]at hw;rcases hw with hw|hw|hw|⟨y,hy,rfl⟩
   .exact .inl ((zp5 q x).2 (.inl ⟨w,cO _ hw,ew⟩))
   .exact .inl ((zp5 q x).2 (.inl ⟨w,cC _ (iY hw),ew⟩))
   .rw[hw]at ew;exact .inr ew.symm
   .exact .inl ((zp5 q x).2 (.inl ⟨y,cC _ (iZ hy),ew⟩))
  .exact .inl ((zp5 q x).2 (.inr hx))
theorem zaT3{q:aA}{p:aF}(h:(zw7 q p).2.2=0){x:aF}(hx:hasQ (zw7 q p).1 x=true):hasQ q x=true:=by
 obtain⟨_,_,_,e,_⟩:=zZ1 h;rw[e,zH3,zp5]at hx;rcases hx with⟨w,hw,ew⟩|hx
 .unfold ordQ zM1 at hw;simp only[cF,zaB5]at hw;rcases hw with hw|hw
  .exact(zp5 q x).2 (.inl ⟨w,cO _ hw.1,ew⟩)
  .exact(zp5 q x).2 (.inl ⟨w,cC _ hw.1,ew⟩)
 .exact(zp5 q x).2 (.inr hx)
theorem zbf6{q:aA}{p:aF}{a:aC}(h:(zv0 q p a).2.2=0){x:aF}(hx:hasQ (zv0 q p a).1 x=true):hasQ q x=true:=by
 obtain⟨_,_,hp,_,_,hh⟩:=zaa1 h;rcases hh with⟨_,e⟩|⟨_,e,_⟩
 .rw[e]at hx;exact hx
 .rw[e,zH3,zp5]at hx;rcases hx with hx|hx
  .exact(zp5 q x).2 (.inl hx)
  .refine(zp5 q x).2 (.inr ?_)
   by_cases e:x=p
   .rw[e];exact hp
   .unfold zaa7 at hx;rwa [zD0 e]at hx
theorem ValidT.set{t:List aA}(h:ValidT t){i:Nat}(hi:i<t.length){q:aA}(p:aF)(h1:ze7 q=true)(h2:q.aB=(t.getD i aA.zero).aB)(h3:∀x,hasQ q x=true->x∈zl7 t\/x=p)
  (h4:zaI6 t p=false):ValidT (t.set i q):=by
 have he:∀y∈t.set i q,ze7 y=true:=λ y hy=>by
  rcases hX hy with hy|rfl
  .exact h.each y hy
  .exact h1
 refine⟨by rw[dP];exact h.len,he,?_,?_⟩
 .have ha:=h.asc;unfold AscN at*;rw[fP]at ha⊢;have hr:∀k (hk:k<(t.set i q).length),((t.set i q)[k]).aB=(t[k]'(by rw[dP]at hk;exact hk)).aB:=λ k hk=>by
   rw[List.getElem_set];split
   .next e=>subst e;rw[h2,bO,bR hi];rfl
   .rfl
  intro a b hla hlb hab;rw[hr a hla,hr b hlb];exact ha a b _ _ hab
 .have hsub:∀x∈zl7 (t.set i q),x∈zl7 t\/x=p:=λ x hx=>by
   obtain⟨y,hy,hp⟩:=(zae8 he).1 hx;rcases hX hy with hy|rfl
   .exact .inl ((zae8 h.each).2 ⟨y,hy,hp⟩)
   .exact h3 x hp
  have hpl:=h.bJ
  by_cases hp:p∈zl7 t
  .refine eV (dH (zaT2 _) (l₂:=zl7 t) λ x hx=>?_) hpl;rcases hsub x hx with hx|rfl
   .exact hx
   .exact hp
  .have h5:(zl7 t).length<8:=by
    unfold zaI6 at h4;simp only[hp,dL,dU,eP,cS]at h4;omega
   have:=dH (zaT2 (t.set i q)) (l₂:=p::zl7 t) λ x hx=>by
    rcases hsub x hx with hx|rfl
    .exact .tail _ hx
    .exact .head _
   rw[List.length_cons]at this;omega
theorem zah9{t:List aA}(h:ValidT t){i:Nat}(hi:i<t.length){x:aF}(hx:hasQ (t.getD i aA.zero) x=true):x∈zl7 t:=(zae8 h.each).2 ⟨_,zh4 hi,hx⟩
theorem zcI8{t:List aA}{p:aF}(h:p∈zl7 t):zaI6 t p=false:=by unfold zaI6;simp[h]
theorem zaA5{t:List aA}{nm:ByteArray}{f:aA->ResT}(h:(atT t nm f).2.2=0):ValidT t/\∃i:Nat,zm5 t nm=i/\i<t.length/\(t.getD i aA.zero).aB.name=nm/\atT t nm f=f (t.getD i aA.zero):=by
 unfold atT at h⊢;cases hv:zH4 t with
 |false=>rw[hv,bM rfl]at h;exact absurd h (by decide)
 |true=>
  rw[hv,bL (by decide)]at h;rw[bL (by decide)]
  by_cases hf:zm5 t nm<0
  .rw[bM hf]at h;exact absurd h (by decide)
  .rw[bL hf];rcases zak1 (t:=t) (nm:=nm)with h1|⟨i,h1,h2,h3⟩
   .omega
   .exact⟨(zs4 t).1 hv,i,h1,h2,h3,by rw[h1];rfl⟩
theorem zae9{t:List aA}{nm:ByteArray}{x:aA×List aO×Int}{ev:List aS}(h:(putT t nm x ev).2.2=0):x.2.2=0/\putT t nm x ev=(zaA4 t (zm5 t nm) x.1,ev++zw2 nm x.2.1,0):=by
 unfold putT at h|-
 by_cases e:x.2.2=0
 .rw[bM e];exact⟨e,rfl⟩
 .rw[bL e]at h;exact absurd h e
theorem zU6(t:List aA)(i:Nat)(q:aA):zaA4 t (i:Int) q=t.set i q:=by unfold zaA4;rw[bM (by omega)];rfl
theorem zbf7{t:List aA}{p:aF}{a:bF}{pr:Int}(h:(zv1 t p a pr).2.2=0):∃i:Nat,i<t.length/\(t.getD i aA.zero).aB.name=a.name/\zm5 t a.name=i/\(zy0 (t.getD i aA.zero) p a.aK pr).2.2=0/\(zv1 t p a pr).1=t.set i (zy0 (t.getD i aA.zero) p a.aK pr).1/\ValidT t/\ValidT (zv1 t p a pr).1:=by
 unfold zv1 at h⊢;obtain⟨hv,i,h1,h2,h3,e⟩:=zaA5 h;rw[e]at h⊢;cases hfu:zaI6 t p with
 |true=>rw[hfu,bM rfl]at h;exact absurd h (by decide)
 |false=>
  rw[hfu,bL (by decide)]at h;rw[bL (by decide)];obtain⟨e0,e1⟩:=zae9 h;rw[e1,h1,zU6];have hq:=hv.each _ (zh4 (z:=aA.zero) h2);have hs:=zD1 hq (.claim p a.aK pr e0);refine⟨i,h2,h3,rfl,e0,rfl,hv,hv.set h2 p hs.1 hs.2 (λ x hx=>?_) hfu⟩;rcases zcd8 e0 hx with hx|hx
  .exact .inl (zah9 hv h2 hx)
  .exact .inr hx
theorem zbn8{t:List aA}{p:aF}{nm:ByteArray}(h:(zt9 t p nm).2.2=0):∃i:Nat,i<t.length/\(zt9 t p nm).1=t.set i (zw7 (t.getD i aA.zero) p).1/\ValidT t/\ValidT (zt9 t p nm).1:=by
 unfold zt9 at h⊢;obtain⟨hv,i,h1,h2,h3,e⟩:=zaA5 h;rw[e]at h⊢;obtain⟨e0,e1⟩:=zae9 h;rw[e1,h1,zU6];have hq:=hv.each _ (zh4 (z:=aA.zero) h2);have hs:=zD1 hq (.cancel p e0);obtain⟨_,_,hw,_,_⟩:=zZ1 e0;have hp:hasQ (t.getD i aA.zero) p=true:=by unfold hasQ;rw[hw];rfl
 exact⟨i,h2,rfl,hv,hv.set h2 p hs.1 hs.2 (λ x hx=>.inl (zah9 hv h2 (zaT3 e0 hx))) (zcI8 (zah9 hv h2 hp))⟩
theorem zcd9{t:List aA}{p:aF}{a:bF}(h:(zu4 t p a).2.2=0):∃i:Nat,i<t.length/\(zu4 t p a).1=t.set i (zv0 (t.getD i aA.zero) p a.aK).1/\ValidT t/\ValidT (zu4 t p a).1:=by unfold zu4 at h⊢;obtain⟨hv,i,h1,h2,h3,e⟩:=zaA5 h;rw[e]at h⊢;obtain⟨e0,e1⟩:=zae9 h;rw[e1,h1,zU6];have hq:=hv.each _ (zh4 (z:=aA.zero) h2);have hs:=zD1 hq (.lower p a.aK e0);obtain⟨_,_,hp0,_,_,_⟩:=zaa1 e0;have hp:hasQ (t.getD i aA.zero) p=true:=(zp5 _ _).2 (.inr hp0);exact⟨i,h2,rfl,hv,hv.set h2 p hs.1 hs.2 (λ x hx=>.inl (zah9 hv h2 (zbf6 e0 hx))) (zcI8 (zah9 hv h2 hp))⟩
theorem zcI9:∀(n:Nat) (u:bB),(zH2 n u).l=u.l
 |0,_=>rfl
 |n+1,u=>by rw[zH2,zcI9 n,zdp3]
theorem zct2:∀(n:Nat) {u:bB},TapeOk u->u.at_<=(zH2 n u).at_
 |0,_,_=>kE _
 |n+1,u,h=>by
  rw[zH2];refine Int.le_trans ?_ (zct2 n (zy2 h));unfold zO5;split
  .exact kE _
  .simp only;omega
def zac0(l:List Int):bB:={bB.zero with l:=l}
theorem zbT6{l:List Int}(h:l.length<=1000000):TapeOk (zac0 l):=⟨h,by show 0<=(0:Int)/\(0:Int)<=l.length;omega⟩
theorem zdf1(u:bB):(catL u).Pairwise (λ a b=>ltN a.name b.name):=by
 have h:∀x y:UInt8,x<y->ltN ⟨#[x]⟩ ⟨#[y]⟩:=by intro x y hxy;unfold ltN;rw[ByteArray.toList_eq,ByteArray.toList_eq];simp[Op.bytesLess,hxy]
 unfold catL;simp only[cG,bY,eE,iD,forall_eq_or_imp,forall_eq,List.Pairwise.nil,gV,iG,fI];refine⟨⟨?_,?_,?_,?_,?_⟩,⟨?_,?_,?_,?_⟩,⟨?_,?_,?_⟩,⟨?_,?_⟩,?_⟩<;>exact h _ _ (by decide)
theorem zdf2(u:bB):catV (catL u)=true:=by rw[zae7];exact⟨by show 6<=8;decide,zcD0 u,zdf1 u⟩
theorem zce0{r:aD}(x:aF):hasQ (zV5 r) x=false:=by
 rw[dO,Ne,zp5];rintro(⟨w,hw,_⟩|h)
 .cases hw
 .exact h rfl
theorem zcQ2{l:List aD}(h:catV l=true):ValidT (l.map zV5):=by
 obtain⟨h1,h2,h3⟩:=(zae7 l).1 h;have he:∀q∈l.map zV5,ze7 q=true:=λ q hq=>by obtain⟨r,hr,rfl⟩:=bW.1 hq;exact zbY3 (h2 r hr)
 refine⟨by rw[cH];exact h1,he,?_,?_⟩
 .unfold AscN;rw[gX];exact h3
 .have:zl7 (l.map zV5)=[]:=by
   refine List.eq_nil_iff_forall_not_mem.2 λ x hx=>?_;obtain⟨q,hq,hp⟩:=(zae8 he).1 hx;obtain⟨r,_,rfl⟩:=bW.1 hq;rw[zce0]at hp;cases hp
  rw[this];exact eY _
theorem zbs4:∀(ps:List aF) {q:aA},ze7 q=true->(remS q ps).aB=q.aB
 |[],_,_=>rfl
 |p::ps,q,h=>by show(remS (remN q p) ps).aB=_;rw[zbs4 ps (zaq4 h p),zbb4 h]
def zaG0(t:List aA)(ps:List aF):List aA:=t.map (remS · ps)
theorem zbb5{t:List aA}(h:ValidT t)(ps:List aF):ValidT (zaG0 t ps):=
 h.map _ (λ q hq=>zbs2 ps (h.each q hq)) (λ q hq=>zbs4 ps (h.each q hq)) λ q hq x hx=>((zaP4 ps (h.each q hq) x).1 hx).1
theorem zce1(t:List aA)(ps:List aF):(zaG0 t ps).length=t.length:=by unfold zaG0;rw[cH]
theorem zcQ3(t:List aA):zaG0 t []=t:=by unfold zaG0;have:(λ q=>remS q [])=id:=rfl;rw[this,List.map_id]
theorem zcD5{t:List aA}(h:ValidT t)(ps:List aF)(p:aF):(remT (zaG0 t ps) p).1=zaG0 t (ps++[p]):=by rw[zbf5 (zbb5 h ps)];unfold zaG0;rw[jF];refine jC λ q _=>?_;exact(zcP8 q ps p).symm
theorem zct3{t:List aA}(h:ValidT t)(ps:List aF){x:aF}:x∈zl7 (zaG0 t ps)↔x∈zl7 t/\x∉ps:=by
 rw[zae8 (zbb5 h ps).each,zae8 h.each];unfold zaG0;constructor
 .rintro⟨q,hq,hp⟩;obtain⟨y,hy,rfl⟩:=bW.1 hq;have:=(zaP4 ps (h.each y hy) x).1 hp;exact⟨⟨y,hy,this.1⟩,this.2⟩
 .rintro⟨⟨y,hy,hp⟩,hn⟩;exact⟨_,bW.2 ⟨y,hy,rfl⟩,(zaP4 ps (h.each y hy) x).2 ⟨hp,hn⟩⟩
theorem zbn9{t:List aA}(h:ValidT t)(a b:Int):∀(ps done:List aF) (ev:List aS),(ps.foldl (zu0 a b) (zaG0 t done,ev)).1=zaG0 t (done++ps.filter (oldP a b))
 |[],done,ev=>by simp
 |p::ps,done,ev=>by
  rw[List.foldl_cons];unfold zu0;cases e:oldP a b p with
  |true=>rw[bM rfl,zcD5 h,List.filter_cons_of_pos e];have:=zbn9 h a b ps (done++[p]) (ev++(remT (zaG0 t done) p).2);unfold zu0 at this;rw[this,dE];rfl
  |false=>rw[bL (by decide),List.filter_cons_of_neg (by rw[e];decide)];have:=zbn9 h a b ps done ev;unfold zu0 at this;exact this
theorem zaT4{t:List aA}(h:ValidT t)(a b:Int):(zA9 t a b).1=zaG0 t ((zl7 t).filter (oldP a b)):=by unfold zA9;rw[bM ((zs4 t).2 h)];have:=zbn9 h a b (zl7 t) [] [];rw[zcQ3]at this;rw[this,List.nil_append]
theorem zbD0{t:List aA}(h:ValidT t)(a b:Int):zl7 (zA9 t a b).1=(zl7 t).filter λ p=>!oldP a b p:=by
 rw[zaT4 h];refine zau2 (zaC7 _) ((zaC7 _).sublist eQ) λ x=>?_;rw[zct3 h,cV,cV];constructor
 .rintro⟨h1,h2⟩;refine⟨h1,?_⟩;rw[cK,<-fR];exactλ e=>h2 ⟨h1,e⟩
 .rintro⟨h1,h2⟩;rw[cK]at h2;exact⟨h1,λ e=>by rw[e.2]at h2;cases h2⟩
theorem zct4:∀{x y:List UInt8},x≠y->Op.bytesLess x y=true\/Op.bytesLess y x=true
 |[],[],h=>absurd rfl h
 |[],b::y,_=>.inl rfl
 |a::x,[],_=>.inr rfl
 |a::x,b::y,h=>by
  simp only[Op.bytesLess,dT,bQ,bK,dA]
  by_cases e:a=b
  .subst e;rcases zct4 (x:=x) (y:=y) (λ k=>h (by rw[k]))with k|k
   .exact .inl (.inr ⟨rfl,k⟩)
   .exact .inr (.inr ⟨rfl,k⟩)
  .rcases Nat.lt_or_ge a.toNat b.toNat with k|k
   .exact .inl (.inl (UInt8.lt_iff_toNat_lt.2 k))
   .refine .inr (.inl (UInt8.lt_iff_toNat_lt.2 ?_));have:a.toNat≠b.toNat:=λ k=>e (UInt8.toNat_inj.1 k);omega
theorem zcQ4{a b:ByteArray}(h:a≠b):ltN a b\/ltN b a:=zct4 λ k=>h (zL9.1 k)
theorem zbT7(a:ByteArray):¬ltN a a:=λ h=>zbx5 h rfl
def ltT(a b:bA):Prop:=ltP a.aI b.aI\/a.aI=b.aI/\ltN a.name b.name
instance(a b:bA):Decidable (ltT a b):=by unfold ltT;infer_instance
def keyT(a:bA):aF×ByteArray:=(a.aI,a.name)
theorem zbT8(a:bA):¬ltT a a:=by
 rintro(h|⟨_,h⟩)
 .exact zQ1 _ h
 .exact zbT7 _ h
theorem zbf8{a b c:bA}(h:ltT a b)(k:ltT b c):ltT a c:=by
 rcases h with h|⟨h1,h2⟩<;>rcases k with k|⟨k1,k2⟩
 .exact .inl (zat5 h k)
 .exact .inl (k1▸h)
 .exact .inl (h1▸k)
 .exact .inr ⟨h1.trans k1,zbx6 h2 k2⟩
theorem zaB7{a b:bA}(h:ltT a b):keyT a≠keyT b:=by
 intro e;have e1:a.aI=b.aI:=cU Prod.fst e;have e2:a.name=b.name:=cU Prod.snd e;rcases h with h|⟨_,h⟩
 .rw[e1]at h;exact zQ1 _ h
 .rw[e2]at h;exact zbT7 _ h
theorem zbx9{a b:bA}(h:keyT a≠keyT b):ltT a b\/ltT b a:=by
 by_cases e:a.aI=b.aI
 .rcases zcQ4 (a:=a.name) (b:=b.name) (λ k=>h (Prod.ext e k))with k|k
  .exact .inl (.inr ⟨e,k⟩)
  .exact .inr (.inr ⟨e.symm,k⟩)
 .rcases zaa0 e with k|k
  .exact .inl (.inl k)
  .exact .inr (.inl k)
def cmpT(a b:bA):Int:=if ltT a b then-1 else if keyT a=keyT b then 0 else 1
theorem zdp6(a b:ByteArray):zK5 a b=if ltN a b then-1 else if a=b then 0 else 1:=by
 unfold zK5 zI2 ltN;simp only[iS,cW,bN,bU]
 by_cases h:Op.bytesLess a.toList b.toList=true
 .simp only[h,bS]
 .simp only[h,bU,dW]
  by_cases e:a=b
  .subst e;simp[zbx4]
  .have:¬a.toList=b.toList:=λ k=>e (zL9.1 k);have h':Op.bytesLess a.toList b.toList=false:=by simpa using h
   simp[e,this,h']
theorem zbb6(a b:bA):zi0 a b=some (cmpT a b):=by
 unfold zi0 cmpT ltT keyT;rw[zat6,Option.bind_some,zbq9,zdp6]
 by_cases h1:ltP a.aI b.aI
 .simp[h1]
 .by_cases h2:ltP b.aI a.aI
  .have e:a.aI≠b.aI:=λ e=>by rw[e]at h2;exact zQ1 _ h2
   simp[h1,h2,e]
  .have e:a.aI=b.aI:=eK λ k=>by rcases zaa0 k with k|k;exact h1 k;exact h2 k
   simp[e,zQ1]
theorem zcJ0(a b:bA):zag0 a b=decide (ltT a b):=by
 unfold zag0 ltT;rw[show zq8 a.aI b.aI=cmpP a.aI b.aI from rfl,zbq9]
 by_cases h1:ltP a.aI b.aI
 .simp[h1]
 .by_cases h2:ltP b.aI a.aI
  .have e:a.aI≠b.aI:=λ e=>by rw[e]at h2;exact zQ1 _ h2
   simp[h1,h2,e]
  .have e:a.aI=b.aI:=eK λ k=>by rcases zaa0 k with k|k;exact h1 k;exact h2 k
   unfold ltN;simp[e,zQ1]
def isT(p:aF)(n:ByteArray)(t:bA):Bool:=decide (t.aI=p/\t.name=n)
theorem zbI0{p:aF}{n:ByteArray}{t:bA}:isT p n t=true↔keyT t=(p,n):=by unfold isT keyT;simp
def genT(l:List bA)(p:aF)(n:ByteArray):Int×Bool:=match l.find? (isT p n)with
 |some t=>(t.gen,true)
 |none=>(0,false)
theorem zbT9{α X:Type}(l:List α)(z:α)(p:α->Bool)(f:α->X){body:Int->Option (Int⊕(Unit⊕X))}
  (hb:∀i:Nat,i<l.length->body (i:Int)=some (if p (l.getD i z)=true then .inr (.inr (f (l.getD i z)))else .inl ((i+1:Nat):Int)))
  (he:body (l.length:Int)=some (.inr (.inl ()))):zc0 body 0=some (match l.find? p with|some a=>.inr (f a)|none=>.inl ()):=by
 have key:=zad7 (body:=body) l z (λ i (_:Unit)=>(i:Int)) (λ i a _=>some (if p a=true then .inr (Sum.inr (α:=Unit) (f a))else .inl ())) (λ _=>Sum.inl (β:=X) ())
  (λ i s hi=>by rw[hb i hi,Option.map_some];split<;>rfl) (λ s=>he) ()
 have fold:∀(l:List α) (i:Nat),walk (λ i a (_:Unit)=>some (if p a=true then .inr (Sum.inr (α:=Unit) (f a))else .inl ())) (λ _=>Sum.inl (β:=X) ()) l i ()=some (match l.find? p with|some a=>.inr (f a)|none=>.inl ()):=by
  intro l;induction l with
  |nil=>intro i;rfl
  |cons a l ih=>
   intro i;simp only[walk,List.find?_cons]
   by_cases hp:p a=true
   .simp[hp]
   .have hp':p a=false:=by simpa using hp
    simp only[hp',bN,bU];rw[ih (i+1)]
 rw[show(0:Int)=(λ(i:Nat) (_:Unit)=>(i:Int)) 0 ()from rfl,key];exact fold l 0
theorem zbU0(l:List bA)(p:aF)(n:ByteArray)(hl:l.length<=1000000):zh0 l p n=some (genT l p n):=by
 unfold zh0;rw[zbT9 l bA.zero (isT p n) (λ t=>(t.gen,true)) (λ i hi=>by
  unfold zab6 isT;have h3:0<=(i:Int)/\(i:Int)<(l.length:Int):=by omega
  simp only[h3.1,h3.2,cP,zk1,bV,bS,Int.toNat_natCast,zd0 i (by omega)];have e:(l.getD i bA.zero=(⟨p,n,(l.getD i bA.zero).gen⟩:bA))=((l.getD i bA.zero).aI=p/\(l.getD i bA.zero).name=n):=by generalize l.getD i bA.zero=t;cases t;simp
  simp only[e];split<;>rfl) (by unfold zab6;simp)]
 unfold genT;cases l.find? (isT p n)<;>rfl
theorem zdz3(h:aX)(p:aF)(n:ByteArray)(hl:h.tags.length<=1000000):zm9 h p n=some (genT h.tags p n).1:=by
 unfold zm9;rw[zbT9 h.tags bA.zero (isT p n) (λ t=>t.gen) (λ i hi=>by
  unfold zao8 isT;have h3:0<=(i:Int)/\(i:Int)<(h.tags.length:Int):=by omega
  simp only[h3.1,h3.2,cP,zk1,bV,bS,Int.toNat_natCast,zd0 i (by omega)]
  by_cases e1:(h.tags.getD i bA.zero).aI=p<;>by_cases e2:(h.tags.getD i bA.zero).name=n<;>simp[e1,e2,zL9,-List.getD_eq_getElem?_getD]) (by unfold zao8;simp)]
 unfold genT;cases h.tags.find? (isT p n)<;>rfl
theorem zbb7{l:List bA}{p:aF}{n:ByteArray}:(genT l p n).2=true↔(p,n)∈l.map keyT:=by
 unfold genT;cases h:l.find? (isT p n)with
 |some t=>simp only[bW,kG];exact⟨t,hJ h,zbI0.1 (jZ h)⟩
 |none=>simp only[bN,bW,false_iff];rintro⟨t,h1,h2⟩;exact absurd (zbI0.2 h2) (List.find?_eq_none.1 h t h1)
theorem zU7{body:Int->Option (Int⊕(Unit⊕Bool))}(n:Nat)(p:Nat->Bool)(hb:∀i:Nat,i<n->body (i:Int)=some (if p i=true then .inl ((i:Int)+1)else .inr (.inr false)))
  (he:body (n:Int)=some (.inr (.inl ()))):zc0 body 0=some (if(List.range n).all p=true then .inl ()else .inr false):=by
 have key:zc0 body 0=some ((zC2 (λ i=>if p i=true then none else some (Sum.inr (α:=Unit) false)) n 0).getD (Sum.inl ())):=
  zD5 n _ (Sum.inl ()) (λ i hi=>by rw[hb i hi];cases p i<;>rfl) he
 rw[key,zM7,<-dS];cases(List.range n).all p<;>rfl
theorem zbU1{α:Type}(p:α->Bool)(f:α->Int):∀(l:List α) (i:Nat) (s:Int),walk (λ _ a s=>some (if p a=true then Sum.inl (s+f a)else .inr (Sum.inr (α:=Int) false))) (λ s=>Sum.inl (β:=Bool) s) l i s=some (if l.all p=true then .inl (s+(l.map f).sum)else .inr false)
 |[],i,s=>by simp[walk]
 |a::l,i,s=>by
  simp only[walk]
  by_cases h:p a=true
  .simp only[h,bS];rw[zbU1 p f l (i+1) (s+f a)];simp[h,Int.add_assoc]
  .simp[h]
def okT(l:List bA)(i:Nat):Bool:=zb6 (l.getD i bA.zero).aI&&(decide (0<=(l.getD i bA.zero).gen/\(l.getD i bA.zero).gen<=1073741824)&&(decide (i=0)||decide (ltT (l.getD (i-1) bA.zero) (l.getD i bA.zero))))
def zG3(t:List aA):List (aF×ByteArray):=t.flatMap λ q=>(zu6 q).map λ p=>(p,q.aB.name)
def cntP(t:List aA):Int:=(t.map λ q=>((zu6 q).length:Int)).sum
theorem zcJ1(t:List aA):cntP t=((zG3 t).length:Int):=by
 unfold cntP zG3;induction t with
 |nil=>rfl
 |cons q t ih=>simp only[cN,List.sum_cons,ih,eG,bP,cH];omega
def zaB8(l:List bA)(q:aA):Bool:=(zu6 q).all λ p=>(genT l p q.aB.name).2
def zR4(h:aX):Bool:=zH4 h.aG&&((List.range h.tags.length).all (okT h.tags)&&(h.aG.all (zaB8 h.tags)&&decide (cntP h.aG=(h.tags.length:Int))))
theorem zaI7(a b:bA):0<=cmpT a b↔¬ltT a b:=by
 unfold cmpT
 by_cases h:ltT a b
 .simp[h]
 .by_cases h2:keyT a=keyT b<;>simp[h,h2]
theorem zct5(h:aX)(g1:Int×Int)(i:Nat)(hi:g1.2=i)(hl:h.tags.length<=1000000)(v:List aF)(hv:v.length<=1000)(h0:0<=g1.1)(h1:g1.1<=1000000):
  zc0 (zS0 h g1 v) (g1.1,0)=some (if v.all (λ p=>(genT h.tags p (h.aG.getD i aA.zero).aB.name).2)=true then .inl (g1.1+(v.length:Int))else .inr false):=by
 have key:=zv6 (body:=zS0 h g1 v) v aF.zero (λ i (s:Int)=>(s,(i:Int))) (λ _ p s=>some (if(genT h.tags p (h.aG.getD i aA.zero).aB.name).2=true then Sum.inl (s+1)else .inr (Sum.inr (α:=Int) false))) (λ s=>Sum.inl (β:=Bool) s)
  (λ j s=>s=g1.1+j) (λ j s hj hs=>by
   refine⟨?_,λ s' hs'=>?_⟩
   .unfold zS0;have h3:0<=(j:Int)/\(j:Int)<(v.length:Int):=by omega
    simp only[h3.1,h3.2,cP,zk1,bV,bS,Int.toNat_natCast,hi];rw[zbU0 _ _ _ hl,Option.bind_some,zd0 j (by omega),zj5 (by omega) (by omega)];cases(genT h.tags (v.getD j aF.zero) (h.aG.getD i aA.zero).aB.name).2<;>rfl
   .split at hs'
    .simp only[cJ,dQ]at hs';subst hs';rw[hs];omega
    .cases hs') (λ s hs=>by unfold zS0;simp) g1.1 (by simp)
 rw[show((g1.1,0):Int×Int)=(λ(i:Nat) (s:Int)=>(s,(i:Int))) 0 g1.1 from rfl,key,zbU1 (λ p=>(genT h.tags p (h.aG.getD i aA.zero).aB.name).2) (λ _=>1)];have e:(v.map λ _=>(1:Int)).sum=(v.length:Int):=by
  clear key hv
  induction v with
  |nil=>rfl
  |cons a v ih=>simp only[cN,List.sum_cons,ih,List.length_cons];omega
 rw[e]
theorem zaw0(h:aX)(hl:h.tags.length<=1000000):zC8 h=some (zR4 h):=by
 unfold zC8 zR4;rw[zaq9,Option.bind_some];cases hv:zH4 h.aG with
 |false=>rfl
 |true=>
  have hV:=(zs4 _).1 hv;rw[bL (by decide),zU7 h.tags.length (okT h.tags) (λ i hi=>by
   unfold zal2 okT;have h3:0<=(i:Int)/\(i:Int)<(h.tags.length:Int):=by omega
   simp only[h3.1,h3.2,cP,zk1,bV,bS,Int.toNat_natCast];rw[zj5 (x:=(i:Int)+1) (by omega) (by omega)];obtain⟨x,hx⟩:∃x,h.tags.getD i bA.zero=x:=⟨_,rfl⟩;simp only[hx];cases c1:zb6 x.aI with
   |false=>simp
   |true=>
    by_cases c2:0<=x.gen/\x.gen<=1073741824
    .rw[bL (by simp;omega)]
     by_cases e0:i=0
     .subst e0;rw[za6 (by simp)];simp[c2]
     .rw[zan3 i (by omega) (by omega),za6 (by intro _;omega)];have p0:(0:Int)<(i:Int):=by omega
      simp only[p0,bV,bS,Int.toNat_natCast,zbb6,Option.bind_some,cA,c2,cP,e0,dL,dW]
      by_cases k:ltT (h.tags.getD (i-1) bA.zero) x
      .rw[bL (by rw[bQ,zaI7];exactλ z=>z k),bM (bZ k)]
      .rw[bM (by rw[bQ,zaI7];exact k),bL (by rw[bQ];exact k)]
    .rw[bM (by simp;omega)];simp[c2]) (by unfold zal2;simp),Option.bind_some]
  cases ho:(List.range h.tags.length).all (okT h.tags)with
  |false=>rfl
  |true=>
   simp only[bS,cA];unfold zal1;have key:=zv6 (body:=zS1 h) h.aG aA.zero (λ i (s:Int)=>(s,(i:Int))) (λ _ q s=>some (if zaB8 h.tags q=true then Sum.inl (s+((zu6 q).length:Int))else .inr (Sum.inr (α:=Int) false))) (λ s=>Sum.inl (β:=Bool) s)
    (λ j s=>0<=s/\s<=24*j) (λ j s hj hs=>by
     have hm:=zh4 (z:=aA.zero) hj;have hpl:=zau5 (hV.each _ hm);have hql:=zo6 (hV.each _ hm);have hl8:=hV.len;refine⟨?_,λ s' hs'=>?_⟩
     .unfold zS1;have h3:0<=(j:Int)/\(j:Int)<(h.aG.length:Int):=by omega
      simp only[h3.1,h3.2,cP,zk1,bV,bS,Int.toNat_natCast];rw[zaq5 _ (by omega) (by omega) (by omega),Option.bind_some,zct5 h (s,(j:Int)) j rfl hl _ (by omega) hs.1 (by simp only;omega),Option.bind_some];unfold zaB8 zaz6;rw[zd0 j (by omega)];cases(zu6 (h.aG.getD j aA.zero)).all λ p=>(genT h.tags p (h.aG.getD j aA.zero).aB.name).2<;>rfl
     .split at hs'
      .simp only[cJ,dQ]at hs';subst hs';omega
      .cases hs') (λ s hs=>by unfold zS1;simp) 0 (by simp)
   rw[show((0,0):Int×Int)=(λ(i:Nat) (s:Int)=>(s,(i:Int))) 0 0 from rfl,key,zbU1 (zaB8 h.tags) λ q=>((zu6 q).length:Int),Option.bind_some];cases h.aG.all (zaB8 h.tags)with
   |false=>rfl
   |true=>simp only[bS,cA,Int.zero_add];rfl
def inT(t:List aA)(x:bA):Bool:=decide (0<=zm5 t x.name)&&hasQ (t.getD (zm5 t x.name).toNat aA.zero) x.aI
def zbI1(h:aX):Bool:=zH4 h.aG&&((List.range h.tags.length).all (λ i=>okT h.tags i&&inT h.aG (h.tags.getD i bA.zero))&&decide (cntP h.aG=(h.tags.length:Int)))
theorem zct6{α:Type}(f:α->Int):∀(l:List α) (i:Nat) (s:Int),walk (λ _ a s=>some (Sum.inl (β:=Int) (s+f a))) (λ s=>s) l i s=some (s+(l.map f).sum)
 |[],i,s=>by simp[walk]
 |a::l,i,s=>by simp only[walk];rw[zct6 f l (i+1) (s+f a)];simp[Int.add_assoc]
theorem zbF6(h:aX)(hl:h.tags.length<=1000000):zC0 h=some (zbI1 h):=by
 unfold zC0 zbI1;rw[zX3,Option.bind_some];cases hv:zH4 h.aG with
 |false=>rfl
 |true=>
  have hV:=(zs4 _).1 hv;have hl8:=hV.len;rw[bL (by decide),zU7 h.tags.length (λ i=>okT h.tags i&&inT h.aG (h.tags.getD i bA.zero)) (λ i hi=>by
   unfold zah3 okT;have h3:0<=(i:Int)/\(i:Int)<(h.tags.length:Int):=by omega
   simp only[h3.1,h3.2,cP,zk1,bV,bS,Int.toNat_natCast];rw[zj5 (x:=(i:Int)+1) (by omega) (by omega)];obtain⟨x,hx⟩:∃x,h.tags.getD i bA.zero=x:=⟨_,rfl⟩;simp only[hx,zaO5,zcJ0]
   by_cases e0:i=0
   .subst e0;rw[za6 (by simp)];cases c1:zb6 x.aI with
    |false=>simp
    |true=>
     by_cases c2:0<=x.gen/\x.gen<=1073741824
     .rw[bL (by simp;omega),zE6 _ _ (by omega),Option.bind_some];unfold inT;rcases zak1 (t:=h.aG) (nm:=x.name)with f|⟨j,f,hj,_⟩
      .rw[f,za6 (by intro k;exact absurd k (by decide))];simp
      .rw[f,za6 (by intro _;omega),bM (by simp)];have hm:=zo6 (hV.each _ (zh4 (z:=aA.zero) hj));simp only[Int.toNat_natCast];rw[zaq6 _ _ (by omega) (by omega) (by omega),Option.bind_some];rcases hb (hasQ (h.aG.getD j aA.zero) x.aI)with b|b<;>simp[c2,b,-List.getD_eq_getElem?_getD]
     .rw[bM (by simp;omega)];simp[c2]
   .rw[zan3 i (by omega) (by omega),za6 (by intro _;omega)];have p0:(0:Int)<(i:Int):=by omega
    simp only[p0,bV,cA,Int.toNat_natCast,e0,dL,dW];cases c1:zb6 x.aI with
    |false=>simp
    |true=>
     by_cases c2:0<=x.gen/\x.gen<=1073741824
     .by_cases k:ltT (h.tags.getD (i-1) bA.zero) x
      .rw[bL (by simp[k,-List.getD_eq_getElem?_getD]<;>omega),zE6 _ _ (by omega),Option.bind_some];unfold inT;rcases zak1 (t:=h.aG) (nm:=x.name)with f|⟨j,f,hj,_⟩
       .rw[f,za6 (by intro k;exact absurd k (by decide))];simp
       .rw[f,za6 (by intro _;omega),bM (by simp)];have hm:=zo6 (hV.each _ (zh4 (z:=aA.zero) hj));simp only[Int.toNat_natCast];rw[zaq6 _ _ (by omega) (by omega) (by omega),Option.bind_some];rcases hb (hasQ (h.aG.getD j aA.zero) x.aI)with b|b<;>simp[c2,k,b,-List.getD_eq_getElem?_getD]
      .rw[bM (by simp[k,-List.getD_eq_getElem?_getD])];simp[k,-List.getD_eq_getElem?_getD]
     .rw[bM (by simp;omega)];simp[c2]) (by unfold zah3;simp),Option.bind_some]
  cases ho:(List.range h.tags.length).all (λ i=>okT h.tags i&&inT h.aG (h.tags.getD i bA.zero))with
  |false=>rfl
  |true=>
   simp only[bS,cA];unfold zah2;have key:=zv6 (body:=zW6 h) h.aG aA.zero (λ i (s:Int)=>(s,(i:Int))) (λ _ q s=>some (Sum.inl (β:=Int) (s+((zu6 q).length:Int)))) (λ s=>s)
    (λ j s=>0<=s/\s<=24*j) (λ j s hj hs=>by
     have hm:=zh4 (z:=aA.zero) hj;have hpl:=zau5 (hV.each _ hm);have hql:=zo6 (hV.each _ hm);refine⟨?_,λ s' hs'=>?_⟩
     .unfold zW6;have h3:0<=(j:Int)/\(j:Int)<(h.aG.length:Int):=by omega
      simp only[h3.1,h3.2,cP,zk1,bV,bS,Int.toNat_natCast];rw[zar1 _ (by omega) (by omega) (by omega),Option.bind_some,zd0 j (by omega),zj5 (by omega) (by omega)];rfl
     .simp only[cJ,dQ]at hs';subst hs';omega) (λ s hs=>by unfold zW6;simp) 0 (by simp)
   rw[show((0,0):Int×Int)=(λ(i:Nat) (s:Int)=>(s,(i:Int))) 0 0 from rfl,key,zct6,Option.bind_some,Int.zero_add];rfl
theorem zct7{l:List bA}(h:∀i,0<i->i<l.length->ltT (l.getD (i-1) bA.zero) (l.getD i bA.zero)):l.Pairwise ltT:=by
 have key:∀i d,i+d+1<l.length->ltT (l.getD i bA.zero) (l.getD (i+d+1) bA.zero):=by
  intro i d;induction d with
  |zero=>intro hi;exact h (i+1) (by omega) hi
  |succ d ih=>intro hi;exact zbf8 (ih (by omega)) (h (i+(d+1)+1) (by omega) hi)
 refine fP.2 λ i j hi hj hij=>?_;have:=key i (j-i-1) (by omega);rw[show i+(j-i-1)+1=j by omega,zA5 _ _ _ hi,zA5 _ _ _ hj]at this;exact this
theorem zbU2{l:List bA}(h:l.Pairwise ltT):(l.map keyT).Nodup:=gX.2 (h.imp λ hab=>zaB7 hab)
theorem zbb8{t:List aA}(h:AscN t):(zG3 t).Nodup:=by refine List.pairwise_flatMap.2 ⟨λ q _=>gX.2 ((zbf3 (zaC7 _)).imp λ hab e=>hab (cU Prod.fst e)),h.imp λ{a b} hab x hx y hy e=>?_⟩;obtain⟨p,_,rfl⟩:=bW.1 hx;obtain⟨p',_,e'⟩:=bW.1 hy;rw[<-e']at e;exact zbx5 hab (cU Prod.snd e)
theorem zaC9{t:List aA}{p:aF}{n:ByteArray}:(p,n)∈zG3 t↔∃q∈t,q.aB.name=n/\p∈zu6 q:=by
 unfold zG3;rw[eD];constructor
 .rintro⟨q,h1,h2⟩;obtain⟨p',h3,e⟩:=bW.1 h2;refine⟨q,h1,cU Prod.snd e,?_⟩;rw[<-show p'=p from cU Prod.fst e];exact h3
 .rintro⟨q,h1,rfl,h3⟩;exact⟨q,h1,bW.2 ⟨p,h3,rfl⟩⟩
theorem zbI2{t:List aA}(h:ValidT t)(x:bA):inT t x=true↔keyT x∈zG3 t:=by
 unfold inT keyT;rw[zaC9,bK,bQ];constructor
 .rintro⟨h1,h2⟩;rcases zak1 (t:=t) (nm:=x.name)with f|⟨j,f,hj,hn⟩
  .omega
  .rw[f,Int.toNat_natCast]at h2;have hm:=zh4 (z:=aA.zero) hj;exact⟨_,hm,hn,(zae5 ((zp4 _).1 (h.each _ hm)).1).2 h2⟩
 .rintro⟨q,h1,h2,h3⟩;obtain⟨i,hi,rfl⟩:=eA h1;have hf:=zar0 h.asc hi;rw[zA5 _ _ _ hi,h2]at hf;rw[hf,Int.toNat_natCast,zA5 _ _ _ hi];exact⟨by omega,(zae5 ((zp4 _).1 (h.each _ h1)).1).1 h3⟩
theorem zbb9{α:Type}{a b:List α}(ha:a.Nodup)(h:∀x∈a,x∈b)(hl:b.length<=a.length):∀x∈b,x∈a:=λ x hx=>eK λ hn=>by
 have:(x::a).length<=b.length:=dH (gH.2 ⟨hn,ha⟩) (by
  intro y hy;rcases bY.1 hy with rfl|hy
  .exact hx
  .exact h y hy)
 rw[List.length_cons]at this;omega
theorem zct8(h:aX):zbI1 h=zR4 h:=by
 unfold zbI1 zR4;cases hv:zH4 h.aG with
 |false=>rfl
 |true=>
  have hV:=(zs4 _).1 hv;simp only[cA];rw[cI];simp only[bK,dB,dN,bQ,zcJ1,Int.natCast_inj];have hK:(∀x,x<h.tags.length->okT h.tags x=true)->(h.tags.map keyT).Nodup:=λ ha=>zbU2 (zct7 λ i h0 hi=>by
   have:=ha i hi;unfold okT at this;simp only[bK,dT,bQ]at this;rcases this.2.2 with k|k
   .omega
   .exact k)
  constructor
  .rintro⟨h1,h2⟩;refine⟨λ x hx=>(h1 x hx).1,λ q hq=>?_,h2⟩;have hb:=zbb9 (hK λ x hx=>(h1 x hx).1) (b:=zG3 h.aG) (λ x hx=>by
    obtain⟨y,hy,rfl⟩:=bW.1 hx;obtain⟨i,hi,rfl⟩:=eA hy;have:=(h1 i hi).2;rw[zA5 _ _ _ hi]at this;exact(zbI2 hV _).1 this) (by rw[cH];omega)
   unfold zaB8;rw[dB];intro p hp;exact zbb7.2 (hb _ (zaC9.2 ⟨q,hq,rfl,hp⟩))
  .rintro⟨h1,h2,h3⟩;refine⟨λ x hx=>⟨h1 x hx,?_⟩,h3⟩;have hb:=zbb9 (zbb8 hV.asc) (b:=h.tags.map keyT) (λ x hx=>by
    obtain⟨p,n⟩:=x;obtain⟨q,hq,rfl,hp⟩:=zaC9.1 hx;have:=h2 q hq;unfold zaB8 at this;rw[dB]at this;exact zbb7.1 (this p hp)) (by rw[cH];omega)
   rw[zA5 _ _ _ hx];exact(zbI2 hV _).2 (hb _ (bW.2 ⟨_,gT hx,rfl⟩))
theorem zbc0(h:aX)(hl:h.tags.length<=1000000):zC0 h=some (zR4 h):=by rw[zbF6 h hl,zct8]
theorem zbc1{α X:Type}(p:α->Bool)(fin:List α->X):∀(l:List α) (i:Nat) (s:List α),walk (λ _ a s=>some (.inl (if p a=true then s++[a]else s))) fin l i s=some (fin (s++l.filter p))
 |[],i,s=>by simp[walk]
 |a::l,i,s=>by
  simp only[walk,gS];rw[zbc1 p fin l (i+1)]
  by_cases h:p a=true<;>simp[h]
theorem zbc2{α:Type}(l:List α)(z:α)(p:α->Bool){body:Int×List α->Option ((Int×List α)⊕List α)}
  (hb:∀(i:Nat) (s:List α),i<l.length->s.length<=i->body ((i:Int),s)=some (.inl (((i+1:Nat):Int),if p (l.getD i z)=true then s++[l.getD i z]else s)))
  (he:∀s,body ((l.length:Int),s)=some (.inr s)):zc0 body (0,[])=some (l.filter p):=by
 have key:=zv6 (body:=body) l z (λ i (s:List α)=>((i:Int),s)) (λ _ a s=>some (.inl (if p a=true then s++[a]else s))) (λ s=>s) (λ i s=>s.length<=i)
  (λ i s hi hs=>by
   refine⟨?_,λ s' hs'=>?_⟩
   .rw[hb i s hi hs];rfl
   .simp only[cJ,dQ]at hs';subst hs';split
    .rw[bP,List.length_singleton];omega
    .omega) (λ s _=>he s) [] (by simp)
 rw[show((0,[]):Int×List α)=(λ(i:Nat) (s:List α)=>((i:Int),s)) 0 []from rfl,key,zbc1];rfl
def atL(l:List aD)(s:Int):List aD:=l.filter λ r=>decide (r.home=s)
theorem zbY4(l:List aD)(s:Int)(hl:l.length<=1000000):zk5 l s=some (atL l s):=by
 unfold zk5 atL;rw[zbc2 l aD.zero (λ r=>decide (r.home=s)) (λ i o hi ho=>by
  unfold zak4;have h3:0<=(i:Int)/\(i:Int)<(l.length:Int):=by omega
  have h1:o.length+1<=4294967296:=by omega
  simp only[h1,h3.1,h3.2,cP,zk1,bV,bS,Int.toNat_natCast,zd0 i (show i<4611686018427387904 by omega)]
  by_cases e:(l.getD i aD.zero).home=s<;>simp[e,-List.getD_eq_getElem?_getD]) (λ o=>by unfold zak4;simp),Option.bind_some]
 rfl
theorem zct9(l:List aD)(s:Int)(hl:l.length<=1000000):zo7 l s=some (atL l s):=by
 unfold zo7 atL;rw[zbc2 l aD.zero (λ r=>decide (r.home=s)) (λ i o hi ho=>by
  unfold zav5;have h3:0<=(i:Int)/\(i:Int)<(l.length:Int):=by omega
  have h1:o.length+1<=4294967296:=by omega
  simp only[h1,h3.1,h3.2,cP,zk1,bV,bS,Int.toNat_natCast,zd0 i (show i<4611686018427387904 by omega)]
  by_cases e:(l.getD i aD.zero).home=s<;>simp[e,-List.getD_eq_getElem?_getD]) (λ o=>by unfold zav5;simp),Option.bind_some]
 rfl
theorem zdp7{l:List aD}(h:catV l=true)(s:Int):catV (atL l s)=true:=by obtain⟨h1,h2,h3⟩:=(zae7 l).1 h;refine(zae7 _).2 ⟨eV (gD _ _) h1,λ r hr=>h2 r (cV.1 hr).1,h3.sublist eQ⟩
def newH(l:List aD)(s:Int):aX×Int:=if catV l=true/\0<=s/\s<4 then({aX.zero with aG:=(newT (atL l s)).1},0)else(aX.zero,1)
theorem zcJ2{l:List aD}(h:catV l=true)(s:Int):(newT (atL l s)).2=0:=by unfold newT;rw[bM (zdp7 h s)]
theorem zaI8(l:List aD)(s:Int):zP8 l s=some (newH l s):=by
 unfold zP8 newH;rw[zaP6,Option.bind_some];cases h:catV l with
 |false=>rfl
 |true=>
  have hl:=((zae7 l).1 h).1
  by_cases hs:0<=s/\s<4
  .rw[bL (by simp;omega),bM ⟨rfl,hs⟩,zbY4 l s (by omega),Option.bind_some,zcj9,Option.bind_some,zcJ2 h,bL (by decide)]
  .rw[bM (by simp;omega),bL (by omega)]
theorem zbs5(l:List aD)(s:Int):zT2 l s=some (newH l s):=by
 unfold zT2 newH;rw[zbb3,Option.bind_some];cases h:catV l with
 |false=>rfl
 |true=>
  have hl:=((zae7 l).1 h).1
  by_cases hs:0<=s/\s<4
  .rw[bL (by simp;omega),bM ⟨rfl,hs⟩,zct9 l s (by omega),Option.bind_some,zcj8,Option.bind_some,zcJ2 h,bL (by decide)]
  .rw[bM (by simp;omega),bL (by omega)]
theorem zcQ5(l:List aD)(s:Int):(newH l s).1.aG.length<=8/\Lens (newH l s).1.aG/\(newH l s).1.tags=[]:=by
 unfold newH;split
 .exact⟨zdp5 _,zde9 _,rfl⟩
 .exact⟨by simp[aX.zero],λ q hq=>(nomatch hq),rfl⟩
instance:DecidableEq aX:=λ a b=>decidable_of_iff (a.aG=b.aG/\a.tags=b.tags) ⟨λ h=>aX.ext h.1 h.2,λ h=>by rw[h];exact⟨rfl,rfl⟩⟩
theorem zbY5(a b:aX)(hl:a.aG.length<=1000000)(hs:Lens a.aG)(ht:a.tags.length<=1000000):zt4 a b=some (decide (a=b)):=by
 unfold zt4;rw[zbk3 _ _ hl (λ q hq=>hs q hq),Option.bind_some]
 by_cases e:a.aG=b.aG
 .by_cases h:a.tags.length=b.tags.length
  .rw[bL (by simp[e,h])];refine(zbv8 a.tags b.tags bA.zero (by omega) h (λ i=>rfl)).trans ?_;congr 1;rw[fQ];exact⟨λ k=>aX.ext e k,λ k=>by rw[k]⟩
  .have:¬a=b:=λ k=>h (by rw[k]);rw[bM (by simp[e];omega),fU this]
 .have:¬a=b:=λ k=>e (by rw[k]);rw[bM (by simp[e]),fU this]
def zbU3(h:aX):Bool:=decide (h.aG.length<=10)&&((List.range h.aG.length).all (λ i=>decide ((h.aG.getD i aA.zero).aL.length<=10/\(h.aG.getD i aA.zero).aH.length<=10/\(h.aG.getD i aA.zero).aT.length<=10))&&decide (h.tags.length<=80))
theorem zcD6(h:aX):zo9 h=some (zbU3 h):=by
 unfold zo9 zn9 zbU3
 by_cases h10:10<h.aG.length
 .rw[bM (by simp;omega),Option.bind_some,fU (show¬h.aG.length<=10 by omega)];rfl
 .rw[bL (by simp[aZ.zero];omega),zU7 h.aG.length (λ i=>decide ((h.aG.getD i aA.zero).aL.length<=10/\(h.aG.getD i aA.zero).aH.length<=10/\(h.aG.getD i aA.zero).aT.length<=10)) (λ i hi=>by
   unfold zal0;have h3:0<=(i:Int)/\(i:Int)<(h.aG.length:Int):=by omega
   simp only[h3.1,h3.2,cP,zk1,bV,bS,Int.toNat_natCast];rw[zj5 (by omega) (by omega),za6 (by intro _;trivial),za6 (by intro _;trivial)]
   by_cases e:(h.aG.getD i aA.zero).aL.length<=10/\(h.aG.getD i aA.zero).aH.length<=10/\(h.aG.getD i aA.zero).aT.length<=10
   .rw[bL (by simp[-List.getD_eq_getElem?_getD];omega),bM (bZ e)]
   .rw[bM (by simp[-List.getD_eq_getElem?_getD];omega),bL (by rw[bQ];exact e)]) (by unfold zal0;simp),Option.bind_some]
  rw[bZ (show h.aG.length<=10 by omega),cA];cases ho:(List.range h.aG.length).all (λ i=>decide ((h.aG.getD i aA.zero).aL.length<=10/\(h.aG.getD i aA.zero).aH.length<=10/\(h.aG.getD i aA.zero).aT.length<=10))with
  |false=>rfl
  |true=>simp only[bS];unfold zak9;rw[zU7 0 (λ _=>true) (λ i hi=>by omega) (by unfold zaz1;simp[aZ.zero])];simp[zaz0];omega
theorem zcu0{h:aX}(k:zbU3 h=true):h.aG.length<=10/\Lens h.aG/\h.tags.length<=80:=by unfold zbU3 at k;simp only[bK,bQ,dB,dN]at k;refine⟨k.1,λ q hq=>?_,k.2.2⟩;obtain⟨i,hi,rfl⟩:=eA hq;have:=k.2.1 i hi;rw[zA5 _ _ _ hi]at this;omega
def nums:List (Int×bD):=[(71,⟨187,0,1073741824,0⟩),(82,⟨188,0,1073741824,0⟩),(69,⟨189,0,1073741824,0⟩),(89,⟨190,0,7,0⟩),(83,⟨191,0,3,0⟩),(73,⟨192,1,99,0⟩),(66,⟨193,-1,99,1⟩)]
theorem zck0:zc2=some nums:=rfl
def zcu1(m:aJ):Bool:=nums.all λ e=>decide (zm3 m ((zq2 e.2.of).getD 0)=0)
theorem zaP7(m:aJ):zcu1 m=true↔m.gen=0/\m.round=0/\m.epoch=0/\m.aV=0/\m.site=0/\m.inc=0/\m.label=0:=by unfold zcu1 nums;simp only[List.all_cons,List.all_nil,eP,bK,bQ];rfl
def zbo0(s:aZ):Bool:=decide (s.aG.length=0)&&decide (s.bG.length=0)
def zbo1(m:aJ):Bool:=zcu1 m&&(zbo0 m.state&&(decide (m.options.length=0)&&(decide (m.kind=0)&&(decide (m.aI=aF.zero)&&(decide (m.aY=bF.zero)&&!m.done)))))
theorem zdf3(m:aJ):zj6 m=some (zbo1 m):=by
 unfold zj6;rw[zck0,Option.bind_some];refine zdm0 λ q hq=>?_;have key:∀l:List (Int×bD),(∀e∈l,(zq2 e.2.of).isSome=true)->
   zbj3 (zY6 m) (λ g1:Unit=>(Sum.inl ():Unit⊕Bool)) l ()=some (if l.all (λ e=>decide (zm3 m ((zq2 e.2.of).getD 0)=0))=true then .inl ()else .inr false):=by
  intro l;induction l with
  |nil=>intro _;rfl
  |cons e l ih=>
   intro h;simp only[zbj3,zY6];obtain⟨k,hk⟩:=iC.1 (h e (.head _));rw[hk,Option.bind_some]
   by_cases h0:zm3 m k=0
   .rw[bL (by simp[h0])];simp only[ih λ x hx=>h x (.tail _ hx),List.all_cons,hk,Option.getD_some,h0,bV,cA]
   .rw[bM (by simp[h0])];simp[hk,h0]
 have hm:∀i,i∈q↔i<7:=λ i=>by rw[hq.mem_iff,dN];rfl
 rw[key _ (λ e he=>by
  obtain⟨i,hi,rfl⟩:=bW.1 he;have:=(hm i).1 hi
  match i,this with
  |0,_=>rfl
  |1,_=>rfl
  |2,_=>rfl
  |3,_=>rfl
  |4,_=>rfl
  |5,_=>rfl
  |6,_=>rfl),Option.bind_some]
 have hz:((q.map (nums.getD · (0,bD.zero))).all λ e=>decide (zm3 m ((zq2 e.2.of).getD 0)=0))=zcu1 m:=by
  rw[cI,zaP7,dB];constructor
  .intro h;have g:∀i,i<7->zm3 m ((zq2 (nums.getD i (0,bD.zero)).2.of).getD 0)=0:=λ i hi=>iO (h _ (bW.2 ⟨i,(hm i).2 hi,rfl⟩));exact⟨g 0 (by omega),g 1 (by omega),g 2 (by omega),g 3 (by omega),g 4 (by omega),g 5 (by omega),g 6 (by omega)⟩
  .rintro⟨h0,h1,h2,h3,h4,h5,h6⟩ e he;obtain⟨i,hi,rfl⟩:=bW.1 he;have:=(hm i).1 hi;rw[bQ]
   match i,this with
   |0,_=>exact h0
   |1,_=>exact h1
   |2,_=>exact h2
   |3,_=>exact h3
   |4,_=>exact h4
   |5,_=>exact h5
   |6,_=>exact h6
 rw[hz];unfold zbo1;cases zcu1 m with
 |false=>rfl
 |true=>
  simp only[bS,cA];unfold zY5 zbo0
  by_cases a:m.state.aG.length=0<;>by_cases b:m.state.bG.length=0<;>by_cases c:m.options.length=0<;>simp[a,b,c,fW]
theorem zau7(s:ByteArray):s.toList.length=s.size:=by rw[ByteArray.toList_eq];rfl
theorem zce2{s:ByteArray}(h:zW8 s=true):s.size<=12:=by unfold zW8 at h;simp at h;omega
def zaT5(a:aC):Bool:=zU9 a
noncomputable def zbs6(m:aJ)(c:Int)(w:aJ):Option (aJ⊕(aJ⊕Bool)):=
 if(zZ3 c nums).isSome=true then
  (zq2 (((zZ3 c nums).getD bD.zero).of)).bind λ v3=>
  if(((decide ((zm3 m v3)<((zZ3 c nums).getD bD.zero).low))||(decide (((zZ3 c nums).getD bD.zero).high<(zm3 m v3))))||((decide (c=66))&&(decide ((zm3 m v3)=0))))=true then some (.inr (.inr false))
  else(zq2 (((zZ3 c nums).getD bD.zero).of)).bind λ v4=>some (.inl (zK2 w v4 0))
 else
  (zl4 m c).bind λ v5=>
  if(!v5)=true then some (.inr (.inr false))
  else(zb7 c w).bind λ v6=>some (.inl v6)
theorem zce3(k:Int):(Arr.get zu2 k.toNat ⟨#[]⟩).size<=5:=by
 have h:∀i:Nat,i<16->(Arr.get zu2 i ⟨#[]⟩).size<=5:=by decide
 by_cases hk:k.toNat<16
 .exact h _ hk
 .unfold Arr.get zE3;rw[bL hk];decide
theorem zcu2(m:aJ)(h0:0<=m.kind)(h1:m.kind<16)(w:aJ):
  zc0 (zG7 m nums) (0,w)=walk (λ _ b w=>zbs6 m ((b.toNat:Nat):Int) w) (λ w=>.inl w) (Arr.get zu2 m.kind.toNat ⟨#[]⟩).toList 0 w:=by
 have hs:((Arr.get zu2 m.kind.toNat ⟨#[]⟩).toList.length:Int)=((Arr.get zu2 m.kind.toNat ⟨#[]⟩).size:Int):=by rw[zau7]
 have h5:=zce3 m.kind;have key:=zad7 (body:=zG7 m nums) (Arr.get zu2 m.kind.toNat ⟨#[]⟩).toList 0 (λ i (w:aJ)=>((i:Int),w)) (λ _ b w=>zbs6 m ((b.toNat:Nat):Int) w) (λ w=>.inl w)
  (λ i w hi=>by
   unfold zG7;have h3:0<=(i:Int)/\(i:Int)<((Arr.get zu2 m.kind.toNat ⟨#[]⟩).size:Int):=by omega
   simp only[h3.1,h3.2,h0,h1,cP,zk1,bV,bS,Int.toNat_natCast];rw[zd0 i (by omega)];obtain⟨c,hc⟩:∃c,((((Arr.get zu2 m.kind.toNat ⟨#[]⟩).toList.getD i 0).toNat:Nat):Int)=c:=⟨_,rfl⟩;simp only[hc];unfold zbs6;split
   .cases zq2 ((zZ3 c nums).getD bD.zero).of with
    |none=>rfl
    |some k=>simp only[Option.bind_some];split<;>rfl
   .cases zl4 m c with
    |none=>rfl
    |some v=>
     simp only[Option.bind_some];split
     .rfl
     .cases zb7 c w<;>rfl)
  (λ w=>by unfold zG7;rw[hs,bL (by simp)]) w
 rw[show((0,w):Int×aJ)=(λ(i:Nat) (w:aJ)=>((i:Int),w)) 0 w from rfl,key]
end Ab
end Go.Proofs.YtdlfhmkmnjbihaaGreatDoor
