import Derived.Test.YtamndckemppjdaaGreatDoorTpI
namespace Go.Proofs.YtamndckemppjdaaGreatDoor
namespace Ab
set_option linter.unusedSimpArgs false
set_option linter.unusedVariables false
set_option maxRecDepth 100000
noncomputable section
theorem zbO0(m:Int)(hm:m=3\/m=5):∀i,i<8->zl3 ((i:Nat):Int) (zw1 (⟨#[97]⟩:ByteArray) m)=some (askc i 0 m):=
 zab6 (f:=λ i=>zl3 ((i:Nat):Int) (zw1 (⟨#[97]⟩:ByteArray) m)) (g:=λ i=>some (askc i 0 m)) (by rcases hm with rfl|rfl<;>kernel_rfl)
theorem zcn9(n:Nat)(hn:n<=8):∀m i,i+m=n->zg8 (zF1 (n:Int)) ((i:Int),asks i 3 λ _=>0)=some (asks n 3 λ _=>0)
 |0,i,h=>by
  rw[zt6];unfold zF1;have:decide ((i:Int)<(n:Int))=false:=by simp;omega
  simp only[this,cG,cV];rw[show i=n by omega]
 |m+1,i,h=>by
  rw[zt6];have e:zF1 (n:Int) ((i:Int),asks i 3 λ _=>0)=some (.inl (((i+1:Nat):Int),asks (i+1) 3 λ _=>0)):=by
   unfold zF1;have h1:decide ((i:Int)<(n:Int))=true:=by simp;omega
   simp only[h1,dM];rw[zbO0 3 (.inl rfl) i (by omega),Option.bind_some,zw6 (by rw[zau4];omega),zau5 i (by omega),zba3]
  rw[e];exact zcn9 n hn m (i+1) (by omega)
theorem zco0(n:Nat)(hn:n<=8)(l:List aX)(hl:l.length<=8):∀m i,i+m=n->zg8 (zF0 (n:Int)) ((i:Int),l++asks i 5 λ _=>0)=some (l++asks n 5 λ _=>0)
 |0,i,h=>by
  rw[zt6];unfold zF0;have:decide ((i:Int)<(n:Int))=false:=by simp;omega
  simp only[this,cG,cV];rw[show i=n by omega]
 |m+1,i,h=>by
  rw[zt6];have e:zF0 (n:Int) ((i:Int),l++asks i 5 λ _=>0)=some (.inl (((i+1:Nat):Int),l++asks (i+1) 5 λ _=>0)):=by
   unfold zF0;have h1:decide ((i:Int)<(n:Int))=true:=by simp;omega
   simp only[h1,dM];rw[zbO0 5 (.inr rfl) i (by omega),Option.bind_some,zw6 (by rw[cX,zau4];omega),zau5 i (by omega),zba3,dW]
  rw[e];exact zco0 n hn l hl m (i+1) (by omega)
def sm(k:Nat->Int):Nat->Int
 |0=>0
 |i+1=>sm k i+2*k i
def mx(k:Nat->Int):Nat->Int
 |0=>0
 |i+1=>if mx k i<2*k i then 2*k i else mx k i
theorem zco1(k:Nat->Int):∀n i,i<n->2*k i<=mx k n
 |n+1,i,h=>by
  rw[show mx k (n+1)=if mx k n<2*k n then 2*k n else mx k n from rfl]
  by_cases e:i=n
  .subst e;split<;>omega
  .have:=zco1 k n i (by omega);split<;>omega
theorem zcc5{k:Nat->Int}(hk:∀i,inC (k i)):∀n,0<n->∃i,i<n/\mx k n=2*k i
 |0,h=>absurd h (by omega)
 |1,_=>⟨0,by omega,by
  obtain⟨h1,h2⟩:=hk 0;rw[show mx k 1=if(0:Int)<2*k 0 then 2*k 0 else 0 from rfl,cQ (by omega)]⟩
 |n+2,_=>by
  obtain⟨i,h1,h2⟩:=zcc5 hk (n+1) (by omega);rw[show mx k (n+2)=if mx k (n+1)<2*k (n+1)then 2*k (n+1)else mx k (n+1)from rfl]
  by_cases e:mx k (n+1)<2*k (n+1)
  .exact⟨n+1,by omega,by rw[cQ e]⟩
  .exact⟨i,by omega,by rw[cL e];exact h2⟩
theorem zcc6{k:Nat->Int}(hk:∀i,inC (k i)):∀n:Nat,0<=sm k n/\sm k n<=200*n
 |0=>by simp[sm]
 |n+1=>by have:=zcc6 hk n;obtain⟨h1,h2⟩:=hk n;rw[show sm k (n+1)=sm k n+2*k n from rfl];omega
theorem zco2(n:Nat)(hn:n<=8)(a:List Int)(hk:∀i,inC (kap a i)):∀m i,i+m=n->zg8 (zE9 (n:Int) a) (sm (kap a) i,mx (kap a) i,(i:Int))=some (sm (kap a) n,mx (kap a) n)
 |0,i,h=>by
  rw[zt6];unfold zE9;have:decide ((i:Int)<(n:Int))=false:=by simp;omega
  simp only[this,cG,cV];rw[show i=n by omega]
 |m+1,i,h=>by
  rw[zt6];have e:zE9 (n:Int) a (sm (kap a) i,mx (kap a) i,(i:Int))=some (.inl (sm (kap a) (i+1),mx (kap a) (i+1),((i+1:Nat):Int))):=by
   have hs:=zcc6 hk i;obtain⟨g1,g2⟩:=hk i;have w1:IntKind.i64.wrap (2*kap a i)=2*kap a i:=w64 (by omega);have w2:IntKind.i64.wrap (sm (kap a) i+2*kap a i)=sm (kap a) i+2*kap a i:=w64 (by omega);unfold zE9;have h1:decide ((i:Int)<(n:Int))=true:=by simp;omega
   simp only[h1,dM];rw[(zbm2 a i).1,Option.bind_some,Option.bind_some,w1,w2,zau5 i (by omega)];rfl
  rw[e];exact zco2 n hn a hk m (i+1) (by omega)
structure UpF (n:Nat):Prop where
 lck:∀k,(zj8 1).bind zq8=some (bS 1 0 k,0)
 opn:∀k,runK (zR3 n k) (bS 1 0 k)=some (bS 1 n k,grow n k)
 ua:∀k,runK (asks n 3 (λ _=>0)++asks n 5 (λ _=>0)) (bS 1 n k)=some (upS n k,same (2*n) n k)
 sum:∀k,tot (cc n k) (2^n-1)=sm k n
theorem zaM5:∀n,n<=8->∀s,s<2^n->pc s=n-1->0<n->∃p,p<n/\s+2^p=2^n-1/\(List.range 8).filter (λ i=>(2^n-1).testBit i)=List.range n/\(List.range 8).filter (λ i=>s.testBit i)=(List.range n).filter λ i=>!(i==p):=by have h:=λ n hn=>zaM1 (zaM1 (p:=λ n=>(List.range (2^n)).all λ s=>!(pc s==n-1)||!(Nat.blt 0 n)||(List.range n).any λ p=>s+2^p==2^n-1&&decide ((List.range 8).filter (λ i=>(2^n-1).testBit i)=List.range n)&&decide ((List.range 8).filter (λ i=>s.testBit i)=(List.range n).filter λ i=>!(i==p))) (n:=9) (by kernel_rfl) n hn);intro n hn s hs hp h0;have:=h n (by omega) s hs;rw[hp]at this;have hb:Nat.blt 0 n=true:=dU h0;rw[hb]at this;simp only[gC,dS,fU,gY,cF,cY,eV,dT]at this;obtain⟨p,h1,⟨h2,h3⟩,h4⟩:=this;exact⟨p,h1,h2,h3,h4⟩
theorem zbO1(c:Nat->Int):∀(l:List Nat) (p:Nat),l.Nodup->p∈l->((l.filter λ i=>!(i==p)).map c).sum+c p=(l.map c).sum
 |a::l,p,hd,hp=>by
  rw[iX]at hd
  by_cases e:a=p
  .subst e;have:l.filter (λ i=>!(i==a))=l:=List.filter_eq_self.2 λ x hx=>by
    have:x≠a:=λ q=>hd.1 (q▸hx)
    simpa using this
   simp[gZ,this];omega
  .have hp':p∈l:=by
    rcases dB.1 hp with h|h
    .exact absurd h.symm e
    .exact h
   have ih:=zbO1 c l p hd.2 hp';simp[gZ,e];omega
theorem zbO2(c:Nat->Int){n:Nat}(hn:n<=8)(h0:0<n){s:Nat}(hs:s<2^n)(hp:pc s=n-1):∃p,p<n/\s+2^p=2^n-1/\tot c s+c p=tot c (2^n-1):=by obtain⟨p,h1,h2,h3,h4⟩:=zaM5 n hn s hs hp h0;refine⟨p,h1,h2,?_⟩;unfold tot;rw[h3,h4];exact zbO1 c _ p gD (dT.2 h1)
theorem zck9:∀n,n<=8->∀p,p<n->pc (2^n-1-2^p)=n-1/\2^n-1-2^p<2^n/\2^n-1-2^p+2^p=2^n-1:=by decide
theorem zcl0{p q:Nat}(h:2^p=2^q):p=q:=(Nat.pow_right_inj (by decide)).1 h
set_option maxHeartbeats 2000000 in
theorem zaF6{n:Nat}(hn:2<=n/\n<=8)(F:Facts false n)(U:UpF n)(a:List Int):zA2 (n:Int) a=some true:=by
 have hk:∀i,inC (kap a i):=λ i=>(zbm2 a i).2;obtain⟨L,hL,hN⟩:=dD.1 (U.lck (kap a));have hB:=zbD2 hn.2 a hk hN (U.opn _);have d0:(decide ((n:Int)<2)||decide ((8:Int)<(n:Int)))=false:=by simp;omega
 have hkd:∀x∈asks n 3 (λ _=>0)++asks n 5 (λ _=>0),x.kind=1->inC x.n:=λ x hx=>by
  rcases dV.1 hx with h|h
  .exact zaN2 x h
  .exact zaN2 x h
 have hda:=zbv7 (U.ua (kap a)) (by rw[cX,zau4,zau4];omega) (zbw2 hk) hkd;have he:endS false n (kap a)=upS n (kap a):=rfl;have hof:=zbJ0 F hk;have hst:=zbr6 F hk;have hop:=zbc8 F hn hk;rw[he]at hof hst hop;obtain⟨V,hV1,hV2,hV3,hch⟩:=zbI8 F hn hk;have hV2:pc V=n-1:=hV2;have h256:=two8 hn.2;obtain⟨p,hp,hpV,hpt⟩:=zbO2 (cc n (kap a)) hn.2 (by omega) hV1 hV2;have hcost:tot (cc n (kap a)) V=sm (kap a) n-mx (kap a) n:=by rw[U.sum]at hpt;obtain⟨i,hi,hmi⟩:=zcc5 hk n (by omega);obtain⟨q,hq,hqi⟩:=zbN4 n hn.2 i hi;obtain⟨b1,b2,b3⟩:=zck9 n hn.2 q hq;have h1:=hV3 _ b2 b1;obtain⟨r,hr,hrV,hrt⟩:=zbO2 (cc n (kap a)) hn.2 (by omega) b2 b1;have hrq:r=q:=zcl0 (by omega);subst hrq;rw[U.sum]at hrt;have h2:=zco1 (kap a) n (ordA n p) (zbN5 n hn.2 p hp);unfold cc at hpt hrt;rw[hqi]at hrt;change _+kap a (ordA n p)*2=_ at hpt;change _+kap a i*2=_ at hrt;have e1:tot (cc n (kap a)) V+kap a (ordA n p)*2=sm (kap a) n:=hpt;have e2:tot (cc n (kap a)) (2^n-1-2^r)+kap a i*2=sm (kap a) n:=hrt;omega
 obtain⟨mi,hmi,hme⟩:=zcc5 hk n (by omega);have hmb:=hk mi;have hsb:=zcc6 hk n;have hw:IntKind.i64.wrap (sm (kap a) n-mx (kap a) n)=sm (kap a) n-mx (kap a) n:=by obtain⟨g1,g2⟩:=hmb;exact w64 (by omega)
 have hw2:IntKind.i64.wrap ((n:Int)-1)=((n-1:Nat):Int):=by rw[w64 (by omega)];omega
 unfold zA2;rw[d0];simp only[cG,cV];rw[hL,Option.bind_some,hB,Option.bind_some];have hl3:=zcn9 n hn.2 n 0 (by omega);rw[show((0:Int),([]:List aX))=(((0:Nat):Int),asks 0 3 λ _=>0)from rfl,hl3,Option.bind_some];unfold zJ9;have hl2:=zco0 n hn.2 (asks n 3 λ _=>0) (by rw[zau4];omega) n 0 (by omega);rw[show asks 0 5 (λ _=>0)=[]from rfl,eN]at hl2;rw[show(0:Int)=((0:Nat):Int)from rfl,hl2,Option.bind_some];unfold zJ8;simp only[dS,cG,cV];rw[hda,Option.bind_some];simp only[dS,cG,cV];have hl1:=zco2 n hn.2 a hk n 0 (by omega);rw[show((0:Int),(0:Int),(0:Int))=(sm (kap a) 0,mx (kap a) 0,((0:Nat):Int))from rfl,hl1,Option.bind_some];unfold zaa3;rw[hof,Option.bind_some,hst,Option.bind_some,hop,Option.bind_some,hch,Option.bind_some,zaX1,Option.bind_some];simp only[dM,hst,Option.bind_some,hw,hw2,hcost,zbf5 hn.2,zbN6,hV2];simp
end
end Ab
end Go.Proofs.YtamndckemppjdaaGreatDoor
