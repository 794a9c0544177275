import Derived.Test.YtdlfhmkmnjbihaaGreatDoorHkM
import Derived.KernelRfl
namespace Go.Proofs.YtdlfhmkmnjbihaaGreatDoor
namespace Ab
set_option linter.unusedVariables false
set_option linter.unusedSimpArgs false
theorem zcu3(a:aC):zU9 a=zaT5 a:=rfl
def kK(k:Int):Prop:=k=1\/k=2\/k=5
def inN(lo hi x:Int):Bool:=decide (lo<=x)&&decide (x<=hi)
def zai7(m:aJ)(c:Nat):Bool:=match c with
 |80=>zb6 m.aI
 |71=>inN 0 1073741824 m.gen
 |89=>inN 0 7 m.aV
 |83=>inN 0 3 m.site
 |73=>inN 1 99 m.inc
 |65=>zW8 m.aY.name&&zaT5 m.aY.aK
 |97=>zW8 m.aY.name&&(decide (m.aY.aK=aC.zero)||zaT5 m.aY.aK)
 |_=>true
def clrF(c:Nat)(w:aJ):aJ:=match c with
 |80=>{w with aI:=aF.zero}
 |71=>{w with gen:=0}
 |89=>{w with aV:=0}
 |83=>{w with site:=0}
 |73=>{w with inc:=0}
 |65=>{w with aY:=bF.zero}
 |97=>{w with aY:=bF.zero}
 |_=>w
def zbo2:List Nat:=[80,71,89,83,73,65,97]
theorem zbs7(m w:aJ)(c:Int)(n:bD)(k:Nat)(h1:zZ3 c nums=some n)(h2:zq2 n.of=some k):
  zbs6 m c w=some (if(!(decide (zm3 m k<n.low)||decide (n.high<zm3 m k)||(decide (c=66)&&decide (zm3 m k=0))))=true then .inl (zK2 w k 0)else .inr (.inr false)):=by
 unfold zbs6;rw[h1];simp only[Option.isSome_some,bS,Option.getD_some,h2,Option.bind_some];cases(decide (zm3 m k<n.low)||decide (n.high<zm3 m k)||(decide (c=66)&&decide (zm3 m k=0)))<;>rfl
theorem zbU4(m w:aJ)(c:Int)(b:Bool)(w':aJ)(h1:zZ3 c nums=none)(h2:zl4 m c=some b)(h3:zb7 c w=some w'):
  zbs6 m c w=some (if b=true then .inl w' else .inr (.inr false)):=by
 unfold zbs6;rw[h1];simp only[Option.isSome_none,bN,bU,h2,h3,Option.bind_some];cases b<;>rfl
theorem zbI3(lo hi x:Int)(d:Bool):(!(decide (x<lo)||decide (hi<x)||d))=(inN lo hi x&&!d):=by unfold inN;rw[cI];cases d<;>simp
theorem zdp8(m w:aJ)(c:Nat)(hc:c∈zbo2):zbs6 m (c:Int) w=some (if zai7 m c=true then .inl (clrF c w)else .inr (.inr false)):=by
 unfold zbo2 at hc;simp only[bY,eE,iD]at hc;rcases hc with rfl|rfl|rfl|rfl|rfl|rfl|rfl
 .exact zbU4 m w 80 _ _ rfl rfl rfl
 .rw[zbs7 m w _ ⟨187,0,1073741824,0⟩ 0 rfl rfl,zbI3];simp[zai7,clrF,zm3,zK2]
 .rw[zbs7 m w _ ⟨190,0,7,0⟩ 3 rfl rfl,zbI3];simp[zai7,clrF,zm3,zK2]
 .rw[zbs7 m w _ ⟨191,0,3,0⟩ 4 rfl rfl,zbI3];simp[zai7,clrF,zm3,zK2]
 .rw[zbs7 m w _ ⟨192,1,99,0⟩ 5 rfl rfl,zbI3];simp[zai7,clrF,zm3,zK2]
 .refine zbU4 m w 65 _ _ rfl ?_ rfl;unfold zl4;rw[bL (by decide),bM (by decide),zaz7,Option.bind_some,zcu3];rfl
 .refine zbU4 m w 97 _ _ rfl ?_ rfl;unfold zl4;rw[bL (by decide),bL (by decide),bM (by decide),zaz7,Option.bind_some,zcu3];rfl
theorem zce4(m:aJ):∀(l:List UInt8) (i:Nat) (w:aJ),(∀b∈l,b.toNat∈zbo2)->walk (λ _ b w=>zbs6 m ((b.toNat:Nat):Int) w) (λ w=>Sum.inl (β:=Bool) w) l i w=some (if(l.all λ b=>zai7 m b.toNat)=true then .inl (l.foldl (λ w b=>clrF b.toNat w) w)else .inr false)
 |[],i,w,_=>rfl
 |b::l,i,w,h=>by
  simp only[walk];rw[zdp8 m w _ (h b (.head _))];cases hf:zai7 m b.toNat with
  |false=>simp[hf]
  |true=>simp only[bS];rw[zce4 m l (i+1) _ λ x hx=>h x (.tail _ hx)];simp[hf]
def zG4(k:Int):List UInt8:=(Arr.get zu2 k.toNat ⟨#[]⟩).toList
theorem zbk4{k:Int}(h:kK k):∀b∈zG4 k,b.toNat∈zbo2:=by
 have g:∀i:Nat,i=1\/i=2\/i=5->∀b∈(Arr.get zu2 i ⟨#[]⟩).data.toList,b.toNat∈zbo2:=by rintro i (rfl|rfl|rfl)<;>decide
 unfold zG4;rw[ByteArray.toList_eq];unfold kK at h;exact g k.toNat (by omega)
def zN5(m:aJ):Bool:=((zG4 m.kind).all λ b=>zai7 m b.toNat)&&zbo1 ((zG4 m.kind).foldl (λ w b=>clrF b.toNat w) {m with kind:=0})
theorem zbY6(m:aJ)(hk:kK m.kind):zq0 m=some (zN5 m):=by
 unfold zq0 zN5 zak6;have h:1<=m.kind/\m.kind<=15:=by unfold kK at hk;omega
 rw[bL (by simp;omega),zck0,Option.bind_some,za6 (by omega),zcu2 m (by omega) (by omega),zce4 m (Arr.get zu2 m.kind.toNat ⟨#[]⟩).toList 0 _ (zbk4 hk),Option.bind_some];cases hf:(zG4 m.kind).all λ b=>zai7 m b.toNat with
 |false=>rw[show((Arr.get zu2 m.kind.toNat ⟨#[]⟩).toList.all λ b=>zai7 m b.toNat)=false from hf];rfl
 |true=>rw[show((Arr.get zu2 m.kind.toNat ⟨#[]⟩).toList.all λ b=>zai7 m b.toNat)=true from hf];simp only[bS,zV7,zdf3,Option.bind_some,cA];rfl
theorem zce5:∀(k:Nat) (n:Int) (l:List Int),0<=n->n<128^(k+1)->l.length+k<=4294967290->∃y l',zc0 zw4 (n,l)=some (y,l')/\l'.length<=l.length+k
 |0,n,l,h0,h,hl=>⟨n,l,by rw[zg9];unfold zw4;rw[bL (by simp;omega)],by omega⟩
 |k+1,n,l,h0,h,hl=>by
  by_cases c:127<n
  .obtain⟨y,l',h1,h2⟩:=zce5 k (n.fdiv (2^7)) (l++[zac3 .or .u8 (IntKind.u8.wrap (zac3 .and .u64 n 127)) 128]) (by rw[fA _ (by decide)];omega) (by
    rw[fA _ (by decide)];rw[Int.pow_succ]at h;omega) (by simp only[bP,List.length_singleton];omega)
   refine⟨y,l',?_,by simp only[bP,List.length_singleton]at h2;omega⟩;rw[zg9];have e:zw4 (n,l)=some (.inl (n.fdiv (2^7),l++[zac3 .or .u8 (IntKind.u8.wrap (zac3 .and .u64 n 127)) 128])):=by unfold zw4;rw[bM (by simpa using c),za6 (by simp only;omega)]
   rw[e];exact h1
  .refine⟨n,l,?_,by omega⟩;rw[zg9];unfold zw4;rw[bL (by simpa using c)]
theorem zbf9{l:List Int}(hl:l.length<=100000)(y:Int):∃r,zb9 l (IntKind.u64.wrap y)=some r/\r.length<=l.length+10:=by
 obtain⟨x,hx⟩:∃x,IntKind.u64.wrap y=x:=⟨_,rfl⟩;have h0:0<=x/\x<18446744073709551616:=by rw[<-hx,IntKind.wrap_u64];omega
 rw[hx];unfold zb9;have ht:l.take ((l.length:Int).toNat)=l:=by rw[Int.toNat_natCast,fC]
 rw[ht,za6 (by omega)]
 by_cases c:127<x
 .rw[bM (by simpa using c),za6 (by omega)];obtain⟨y',l',h1,h2⟩:=zce5 8 (x.fdiv (2^7)) (l++[zac3 .or .u8 (IntKind.u8.wrap (zac3 .and .u64 x 127)) 128]) (by rw[fA _ (by decide)];omega) (by
   rw[fA _ (by decide)];omega) (by simp only[bP,List.length_singleton];omega)
  simp only[bP,List.length_singleton]at h2;rw[h1,Option.bind_some];unfold zK4;exact⟨_,za6 (by simp only;omega),by simp only[bP,List.length_singleton];omega⟩
 .rw[bL (by simpa using c)];exact⟨_,za6 (by omega),by simp only[bP,List.length_singleton];omega⟩
theorem zcu4{body:Int×List Int->Option ((Int×List Int)⊕List Int)}(n:Nat)
  (hs:∀(i:Nat) (acc:List Int),i<n->acc.length<=10000->∃r,body ((i:Int),acc)=some (.inl (((i+1:Nat):Int),r))/\r.length<=acc.length+100)
  (he:∀acc,body ((n:Int),acc)=some (.inr acc)):∀(k i:Nat) (acc:List Int),i+k=n->acc.length+100*k<=10000->∃r,zc0 body ((i:Int),acc)=some r/\r.length<=acc.length+100*k
 |0,i,acc,hi,hr=>by
  have:i=n:=by omega
  subst this;exact⟨acc,by rw[zg9,he],by omega⟩
 |k+1,i,acc,hi,hr=>by obtain⟨r,h1,h2⟩:=hs i acc (by omega) (by omega);obtain⟨r',h3,h4⟩:=zcu4 n hs he k (i+1) r (by omega) (by omega);refine⟨r',?_,by omega⟩;rw[zg9,h1];exact h3
theorem zdf4{l:List Int}(hl:l.length<=100000){s:ByteArray}(hs:s.size<=12):∃r,zg4 l s=some r/\r.length<=l.length+30:=by unfold zg4;obtain⟨r,h1,h2⟩:=zbf9 hl (s.size:Int);have h3:=zau7 s;rw[h1,Option.bind_some,za6 (by omega)];exact⟨_,rfl,by simp only[bP,cH];omega⟩
theorem zdf5{l:List Int}(hl:l.length<=5000)(p:aF):∃r,zi8 l p=some r/\r.length<=l.length+300:=by
 unfold zi8;rw[za6 (by omega)];split
 .exact⟨l,rfl,by omega⟩
 .obtain⟨r,h1,h2⟩:=zcu4 (body:=zK8 p) 3 (λ i acc hi ha=>by
   unfold zK8;rw[bM (by simp;omega),za6 (by simp only;omega)];obtain⟨r,h1,h2⟩:=zbf9 (l:=acc) (by omega) (Arr.get (⟨[p.site,p.inc,p.num],rfl⟩:Arr Int 3) i 0);simp only[Int.toNat_natCast];rw[h1,Option.bind_some,zd0 i (by omega)];exact⟨r,rfl,by omega⟩) (λ acc=>by unfold zK8;simp) 3 0 l (by omega) (by omega)
  rw[show((0,l):Int×List Int)=(((0:Nat):Int),l)from rfl,h1,Option.bind_some];exact⟨r,rfl,by omega⟩
noncomputable def zce6(m:aJ)(c:Int)(acc:List Int):Option (List Int):=
 if(zZ3 c nums).isSome=true then
  (zq2 (((zZ3 c nums).getD bD.zero).of)).bind λ v3=>zb9 acc (IntKind.u64.wrap (IntKind.i64.wrap ((zm3 m v3)+((zZ3 c nums).getD bD.zero).plus)))
 else zn7 m c acc
theorem zbg0(m:aJ)(c:Int)(acc:List Int)(ha:acc.length<=5000)(n:bD)(k:Nat)(h1:zZ3 c nums=some n)(h2:zq2 n.of=some k):
  ∃r,zce6 m c acc=some r/\r.length<=acc.length+300:=by
 unfold zce6;rw[h1];simp only[Option.isSome_some,bS,Option.getD_some,h2,Option.bind_some];obtain⟨r,h3,h4⟩:=zbf9 (l:=acc) (by omega) (IntKind.i64.wrap (zm3 m k+n.plus));exact⟨r,h3,by omega⟩
theorem zby0(m:aJ)(c:Int)(acc:List Int)(h1:zZ3 c nums=none):zce6 m c acc=zn7 m c acc:=by unfold zce6;rw[h1];rfl
theorem zcQ6(m:aJ)(c:Nat)(acc:List Int)(hc:c∈zbo2)(hf:zai7 m c=true)(ha:acc.length<=5000):∃r,zce6 m (c:Int) acc=some r/\r.length<=acc.length+300:=by
 have hat:zW8 m.aY.name=true->∃r,((zg4 acc m.aY.name).bind λ v2=>(zb9 v2 (IntKind.u64.wrap m.aY.aK.mode)).bind λ v3=>(zb9 v3 (IntKind.u64.wrap m.aY.aK.aU)).bind λ v4=>some v4)=some r/\r.length<=acc.length+300:=λ h=>by obtain⟨r1,e1,l1⟩:=zdf4 (l:=acc) (by omega) (zce2 h);obtain⟨r2,e2,l2⟩:=zbf9 (l:=r1) (by omega) m.aY.aK.mode;obtain⟨r3,e3,l3⟩:=zbf9 (l:=r2) (by omega) m.aY.aK.aU;rw[e1,Option.bind_some,e2,Option.bind_some,e3,Option.bind_some];exact⟨r3,rfl,by omega⟩
 unfold zbo2 at hc;simp only[bY,eE,iD]at hc;rcases hc with rfl|rfl|rfl|rfl|rfl|rfl|rfl
 .rw[zby0 m _ acc rfl];unfold zn7;obtain⟨r,e,k⟩:=zdf5 ha m.aI;rw[bM (by decide),e];exact⟨r,rfl,k⟩
 .exact zbg0 m 71 acc ha ⟨187,0,1073741824,0⟩ 0 rfl rfl
 .exact zbg0 m 89 acc ha ⟨190,0,7,0⟩ 3 rfl rfl
 .exact zbg0 m 83 acc ha ⟨191,0,3,0⟩ 4 rfl rfl
 .exact zbg0 m 73 acc ha ⟨192,1,99,0⟩ 5 rfl rfl
 .have h:(zW8 m.aY.name&&zaT5 m.aY.aK)=true:=hf;rw[bK]at h;rw[zby0 m _ acc rfl];unfold zn7 zI4;rw[bL (by decide),bM (by decide),bM (by decide)];exact hat h.1
 .have h:(zW8 m.aY.name&&(decide (m.aY.aK=aC.zero)||zaT5 m.aY.aK))=true:=hf;rw[bK]at h;rw[zby0 m _ acc rfl];unfold zn7 zI4;rw[bL (by decide),bL (by decide),bM (by decide)];exact hat h.1
theorem zcu5(k:Int):(zG4 k).length<=5:=by unfold zG4;rw[zau7];exact zce3 k
theorem zby1{body:Int×List Int->Option ((Int×List Int)⊕List Int)}(n:Nat)
  (hs:∀(i:Nat) (acc:List Int),i<n->acc.length<=5000->∃r,body ((i:Int),acc)=some (.inl (((i+1:Nat):Int),r))/\r.length<=acc.length+300)
  (he:∀acc,body ((n:Int),acc)=some (.inr acc)):∀(k i:Nat) (acc:List Int),i+k=n->acc.length+300*k<=5000->∃r,zc0 body ((i:Int),acc)=some r/\r.length<=acc.length+300*k
 |0,i,acc,hi,hr=>by
  have:i=n:=by omega
  subst this;exact⟨acc,by rw[zg9,he],by omega⟩
 |k+1,i,acc,hi,hr=>by obtain⟨r,h1,h2⟩:=hs i acc (by omega) (by omega);obtain⟨r',h3,h4⟩:=zby1 n hs he k (i+1) r (by omega) (by omega);refine⟨r',?_,by omega⟩;rw[zg9,h1];exact h3
theorem zcu6{m:aJ}(hk:kK m.kind)(h:zN5 m=true):∃r,zs9 m=some r/\r.length<=4064:=by
 have hk':0<=m.kind/\m.kind<16:=by unfold kK at hk;omega
 unfold zN5 at h;rw[bK,dB]at h;have h5:=zcu5 m.kind;have hs:((zG4 m.kind).length:Int)=((Arr.get zu2 m.kind.toNat ⟨#[]⟩).size:Int):=by unfold zG4;rw[zau7]
 unfold zs9;obtain⟨r0,e0,l0⟩:=zbf9 (l:=[]) (by simp) m.kind;obtain⟨r,h1,h2⟩:=zby1 (body:=zL0 m nums) (zG4 m.kind).length (λ i acc hi ha=>by
  unfold zL0;have h3:0<=(i:Int)/\(i:Int)<((Arr.get zu2 m.kind.toNat ⟨#[]⟩).size:Int):=by omega
  simp only[h3.1,h3.2,hk'.1,hk'.2,cP,zk1,bV,bS,Int.toNat_natCast];rw[zd0 i (by omega)];have hm:=zh4 (z:=(0:UInt8)) hi;obtain⟨r,e,k⟩:=zcQ6 m _ acc (zbk4 hk _ hm) (h.1 _ hm) ha;have hg:(Arr.get zu2 m.kind.toNat ⟨#[]⟩).toList=zG4 m.kind:=rfl;rw[hg];unfold zce6 at e;split at e
  .rename_i hs;rw[bM hs];cases hn:zq2 ((zZ3 (((zG4 m.kind).getD i 0).toNat:Int) nums).getD bD.zero).of with
   |none=>rw[hn]at e;cases e
   |some q=>rw[hn,Option.bind_some]at e;rw[Option.bind_some,e];exact⟨r,rfl,k⟩
  .rename_i hs;rw[bL hs,e];exact⟨r,rfl,k⟩) (λ acc=>by unfold zL0;rw[hs,bL (by simp)]) (zG4 m.kind).length 0 r0 (by omega) (by simp only[List.length_nil]at l0;omega)
 rw[zck0,Option.bind_some,e0,Option.bind_some,za6 (by omega),show((0,r0):Int×List Int)=(((0:Nat):Int),r0)from rfl,h1,Option.bind_some];exact⟨r,rfl,by simp only[List.length_nil]at l0;omega⟩
theorem zby2(m:aJ)(hk:kK m.kind):zC7 m=some (zN5 m):=by
 unfold zC7;rw[zbY6 m hk,Option.bind_some];cases h:zN5 m with
 |false=>rfl
 |true=>obtain⟨r,e,k⟩:=zcu6 hk h;rw[bM rfl,e,Option.bind_some,bZ (by omega)];rfl
theorem zbc3{α β X:Type}(p:α->Bool)(f:α->β)(fin:List β->X):∀(l:List α) (i:Nat) (s:List β),walk (λ _ a s=>some (.inl (if p a=true then s++[f a]else s))) fin l i s=some (fin (s++(l.filter p).map f))
 |[],i,s=>by simp[walk]
 |a::l,i,s=>by
  simp only[walk,gS];rw[zbc3 p f fin l (i+1)]
  by_cases h:p a=true<;>simp[h]
theorem zbc4{α β:Type}(l:List α)(z:α)(p:α->Bool)(f:α->β){body:Int×List β->Option ((Int×List β)⊕List β)}
  (hb:∀(i:Nat) (s:List β),i<l.length->s.length<=i->body ((i:Int),s)=some (.inl (((i+1:Nat):Int),if p (l.getD i z)=true then s++[f (l.getD i z)]else s)))
  (he:∀s,body ((l.length:Int),s)=some (.inr s)):zc0 body (0,[])=some ((l.filter p).map f):=by
 have key:=zv6 (body:=body) l z (λ i (s:List β)=>((i:Int),s)) (λ _ a s=>some (.inl (if p a=true then s++[f a]else s))) (λ s=>s) (λ i s=>s.length<=i)
  (λ i s hi hs=>by
   refine⟨?_,λ s' hs'=>?_⟩
   .rw[hb i s hi hs];rfl
   .simp only[cJ,dQ]at hs';subst hs';split
    .rw[bP,List.length_singleton];omega
    .omega) (λ s _=>he s) [] (by simp)
 rw[show((0,[]):Int×List β)=(λ(i:Nat) (s:List β)=>((i:Int),s)) 0 []from rfl,key,zbc3];rfl
def zbU5(p:aF)(e:aS):Bool:=decide (e.kind=1)&&!decide (e.aI=p)
def zaL0(l:List bA)(e:aS):aW:=⟨e.aI.site,{aJ.zero with kind:=4,aI:=e.aI,gen:=(genT l e.aI e.name).1,aY:=⟨e.name,e.aK⟩}⟩
def zE2(l:List bA)(ev:List aS)(p:aF):List aW:=(ev.filter (zbU5 p)).map (zaL0 l)
theorem zaG1(l:List bA)(ev:List aS)(p:aF)(hl:l.length<=1000000)(he:ev.length<=1000000):zj8 l ev p=some (zE2 l ev p):=by
 unfold zj8 zE2;rw[zbc4 ev aS.zero (zbU5 p) (zaL0 l) (λ i s hi hs=>by
  unfold zaf9 zbU5 zaL0;have h3:0<=(i:Int)/\(i:Int)<(ev.length:Int):=by omega
  have h1:s.length+1<=4294967296:=by omega
  simp only[h1,h3.1,h3.2,cP,zk1,bV,bS,Int.toNat_natCast,zd0 i (show i<4611686018427387904 by omega),zbU0 _ _ _ hl,Option.bind_some]
  by_cases e1:(ev.getD i aS.zero).kind=1<;>by_cases e2:(ev.getD i aS.zero).aI=p<;>simp[e1,e2,-List.getD_eq_getElem?_getD]) (λ s=>by unfold zaf9;simp),Option.bind_some]
 rfl
theorem zaz8(h:aX)(ev:List aS)(p:aF)(hl:h.tags.length<=1000000)(he:ev.length<=1000000):zi6 h ev p=some (zE2 h.tags ev p):=by
 unfold zi6 zE2;rw[zbc4 ev aS.zero (zbU5 p) (zaL0 h.tags) (λ i s hi hs=>by
  unfold zab7 zbU5 zaL0;have h3:0<=(i:Int)/\(i:Int)<(ev.length:Int):=by omega
  have h1:s.length+1<=4294967296:=by omega
  simp only[h1,h3.1,h3.2,cP,zk1,bV,bS,Int.toNat_natCast,zd0 i (show i<4611686018427387904 by omega),zdz3 _ _ _ hl,Option.bind_some]
  by_cases e1:(ev.getD i aS.zero).kind=1<;>by_cases e2:(ev.getD i aS.zero).aI=p<;>simp[e1,e2,-List.getD_eq_getElem?_getD]) (λ s=>by unfold zab7;simp),Option.bind_some]
 rfl
theorem zaf0(l:List bA)(ev:List aS)(p:aF):(zE2 l ev p).length<=ev.length:=by unfold zE2;rw[cH];exact gD _ _
def insT(x:bA):Bool->List bA->List bA
 |d,[]=>if d=true then[]else[x]
 |d,t::l=>(if d=false/\¬ltT t x then[x]else[])++((if keyT t=keyT x then[]else[t])++insT x (d||!decide (ltT t x)) l)
theorem zcu7(x:bA):∀(d:Bool) (l:List bA),(insT x d l).length<=l.length+(if d=true then 0 else 1)
 |d,[]=>by cases d<;>simp[insT]
 |d,t::l=>by
  have h:=zcu7 x (d||!decide (ltT t x)) l;simp only[insT,bP,List.length_cons]
  by_cases e:keyT t=keyT x<;>by_cases k:ltT t x<;>cases d<;>simp[e,k]at h⊢<;>omega
theorem zaP8(a b:bA):cmpT a b=0↔keyT a=keyT b:=by
 unfold cmpT
 by_cases h:ltT a b
 .simp[h,zaB7 h]
 .by_cases h2:keyT a=keyT b<;>simp[h,h2]
theorem zcu8(l:List bA)(x:bA)(hl:l.length<=1000000):zc0 (zI5 l x) (false,0,[])=some ((walk (X:=Bool×List bA) (λ(_:Nat) t (s:Bool×List bA)=>some (.inl (s.1||!decide (ltT t x),s.2++((if s.1=false/\¬ltT t x then[x]else[])++(if keyT t=keyT x then[]else[t]))))) (λ s=>s) l 0 (false,[])).getD (false,[])):=by
 have key:=zv6 (body:=zI5 l x) l bA.zero (λ i (s:Bool×List bA)=>(s.1,(i:Int),s.2)) (λ(_:Nat) t (s:Bool×List bA)=>some (.inl (s.1||!decide (ltT t x),s.2++((if s.1=false/\¬ltT t x then[x]else[])++(if keyT t=keyT x then[]else[t]))))) (λ s=>s)
  (λ i s=>s.2.length<=2*i) (λ i s hi hs=>by
   refine⟨?_,λ s' hs'=>?_⟩
   .obtain⟨d,o⟩:=s;simp only at hs;unfold zI5;have h3:0<=(i:Int)/\(i:Int)<(l.length:Int):=by omega
    simp only[h3.1,h3.2,cP,zk1,bV,bS,Int.toNat_natCast,zbb6,Option.bind_some];obtain⟨t,ht⟩:∃t,l.getD i bA.zero=t:=⟨_,rfl⟩;simp only[ht];unfold zag3;simp only[zd0 i (show i<4611686018427387904 by omega),Int.toNat_natCast,ht]
    by_cases k:ltT t x
    .have k2:keyT t≠keyT x:=zaB7 k;rw[bL (by simp[zaI7,k]),bM (by simp[zaP8,k2]),za6 (by omega)];simp[k,k2,wmap]
    .cases d with
     |true=>
      rw[bL (by simp)]
      by_cases k2:keyT t=keyT x
      .rw[bL (by simp[zaP8,k2])];simp[k,k2,wmap]
      .rw[bM (by simp[zaP8,k2]),za6 (by omega)];simp[k,k2,wmap]
     |false=>
      rw[bM (by simp[zaI7,k]),za6 (by omega)]
      by_cases k2:keyT t=keyT x
      .rw[bL (by simp[zaP8,k2])];simp[k,k2,wmap]
      .rw[bM (by simp[zaP8,k2]),za6 (by simp only[bP,List.length_singleton];omega)];simp[k,k2,wmap]
   .simp only[cJ,dQ]at hs';subst hs';simp only[bP];have a1:(if s.1=false/\¬ltT (l.getD i bA.zero) x then[x]else[]).length<=1:=by split<;>simp
    have a2:(if keyT (l.getD i bA.zero)=keyT x then[]else[l.getD i bA.zero]).length<=1:=by split<;>simp
    omega) (λ s hs=>by unfold zI5;simp) (false,[]) (by simp)
 rw[show((false,0,[]):Bool×Int×List bA)=(λ(i:Nat) (s:Bool×List bA)=>(s.1,(i:Int),s.2)) 0 (false,[])from rfl,key];have:∀(l:List bA) (i:Nat) (s:Bool×List bA),∃r,walk (X:=Bool×List bA) (λ(_:Nat) t (s:Bool×List bA)=>some (.inl (s.1||!decide (ltT t x),s.2++((if s.1=false/\¬ltT t x then[x]else[])++(if keyT t=keyT x then[]else[t]))))) (λ s=>s) l i s=some r:=by
  intro l;induction l with
  |nil=>intro i s;exact⟨_,rfl⟩
  |cons t l ih=>intro i s;simp only[walk];exact ih _ _
 obtain⟨r,hr⟩:=this l 0 (false,[]);rw[hr];rfl
theorem zbD1(x:bA):∀(l:List bA) (i:Nat) (d:Bool) (o:List bA),∃d' o',walk (X:=Bool×List bA) (λ(_:Nat) t (s:Bool×List bA)=>some (.inl (s.1||!decide (ltT t x),s.2++((if s.1=false/\¬ltT t x then[x]else[])++(if keyT t=keyT x then[]else[t]))))) (λ s=>s) l i (d,o)=some (d',o')/\o'++(if d'=true then[]else[x])=o++insT x d l/\o'.length<=o.length+2*l.length
 |[],i,d,o=>⟨d,o,rfl,rfl,by simp⟩
 |t::l,i,d,o=>by
  simp only[walk];obtain⟨d',o',h1,h2,h3⟩:=zbD1 x l (i+1) (d||!decide (ltT t x)) (o++((if d=false/\¬ltT t x then[x]else[])++(if keyT t=keyT x then[]else[t])));refine⟨d',o',h1,?_,?_⟩
  .rw[h2];simp only[insT,dE]
  .have a1:(if d=false/\¬ltT t x then[x]else[]).length<=1:=by split<;>simp
   have a2:(if keyT t=keyT x then[]else[t]).length<=1:=by split<;>simp
   simp only[bP,List.length_cons]at h3⊢;omega
theorem zcQ7(l:List bA)(x:bA)(hl:l.length<=1000000):zr8 l x=some (insT x false l):=by
 unfold zr8;obtain⟨d',o',h1,h2,h3⟩:=zbD1 x l 0 false [];rw[zcu8 l x hl,h1,Option.getD_some,Option.bind_some];unfold zas7;rw[List.nil_append]at h2;rw[<-h2];cases d' with
 |true=>simp
 |false=>show gd (o'.length+1<=4294967296) (some (o'++[x]))=_;rw[za6 (by simp only[List.length_nil]at h3;omega)];rfl
abbrev ResH:=aX×List aW×List aS×Int
def errH(e:Int):ResH:=(aX.zero,[],[],e)
theorem ValidT.small{t:List aA}(h:ValidT t):Small t:=⟨by have:=h.len;omega,h.lens⟩
def zai8(h:aX)(m:aJ):ResH:=
 let v:=zv1 h.aG m.aI m.aY m.aV
 if v.2.2=0 then
  let q:=v.1.getD (zm5 v.1 m.aY.name).toNat aA.zero
  (⟨v.1,insT ⟨m.aI,m.aY.name,m.gen⟩ false h.tags⟩,zr0 m (getH q.aL m.aI) (!(zt0 q m.aI).2)::zE2 h.tags v.2.1 m.aI,v.2.1,0)
 else errH v.2.2
theorem zbY7(h:aX)(m:aJ)(hV:ValidT h.aG)(ht:h.tags.length<=1000000):zU3 h m=some (zai8 h m):=by
 unfold zU3 zai8;have hs:=zaT1 hV.small m.aI m.aY m.aV;rw[zbS7,Option.bind_some]
 by_cases e:(zv1 h.aG m.aI m.aY m.aV).2.2=0
 .obtain⟨i,hi,hn,hf,e0,h1,_,hv⟩:=zbf7 e;have hlen:(zv1 h.aG m.aI m.aY m.aV).1.length=h.aG.length:=by rw[h1,dP]
  have hi':i<(zv1 h.aG m.aI m.aY m.aV).1.length:=by omega
  have hn':((zv1 h.aG m.aI m.aY m.aV).1.getD i aA.zero).aB.name=m.aY.name:=by rw[h1,zav7 _ _ _ _ hi,(zD1 (hV.each _ (zh4 (z:=aA.zero) hi)) (.claim m.aI m.aY.aK m.aV e0)).2];exact hn
  have hf':zm5 (zv1 h.aG m.aI m.aY m.aV).1 m.aY.name=i:=by rw[<-hn'];exact zar0 hv.asc hi'
  have hq:=zo6 (hv.each _ (zh4 (z:=aA.zero) hi'));rw[bL (nd0 e),bM e,zaK8 _ _ (by have:=hv.len;omega),Option.bind_some,hf',bM (by simp),za6 (by omega)];simp only[Int.toNat_natCast];rw[zJ8 _ _ (by omega),Option.bind_some,za6 (by omega),zal5 _ _ (by omega) (by omega),Option.bind_some];unfold zal3;have hg:=zaf0 h.tags (zv1 h.aG m.aI m.aY m.aV).2.1 m.aI;have:=hs.2.2;rw[zaG1 _ _ _ ht this,Option.bind_some,za6 (by omega),zcQ7 _ _ ht,Option.bind_some];rfl
 .rw[bM (nd1 e),bL e];rfl
theorem zbY8(t:List aA)(hl:t.length<=1000000)(hs:Lens t):zn8 t=some t:=by
 unfold zn8;rw[zay6 t aA.zero id [] hl (by simp) (λ i s hi hs'=>by
  have hq:=hs _ (zh4 (z:=aA.zero) hi);unfold zak8 za5 za3;have h3:0<=(i:Int)/\(i:Int)<(t.length:Int):=by omega
  have h1:s.length+1<=4294967296:=by omega
  have a1:(t.getD i aA.zero).aL.length<=4294967296:=by omega
  have a2:(t.getD i aA.zero).aH.length<=4294967296:=by omega
  have a3:(t.getD i aA.zero).aT.length<=4294967296:=by omega
  simp only[h1,h3.1,h3.2,a1,a2,a3,cP,zk1,bV,bS,Int.toNat_natCast,zd0 i (show i<4611686018427387904 by omega),Option.bind_some];rfl) (λ s=>by unfold zak8;simp),Option.bind_some]
 unfold zay9;simp
def zar3(l:List bA)(p:aF)(n:ByteArray)(has:Bool):List bA:=l.filter λ t=>has||!decide (keyT t=(p,n))
theorem zby3{α G X:Type}(l:List α)(z:α)(p:α->Bool)(mk:Nat->List α->G)(fin:List α->X){body:G->Option (G⊕X)}
  (hb:∀(i:Nat) (s:List α),i<l.length->s.length<=i->body (mk i s)=some (.inl (mk (i+1) (if p (l.getD i z)=true then s++[l.getD i z]else s))))
  (he:∀s,body (mk l.length s)=some (.inr (fin s))):zc0 body (mk 0 [])=some (fin (l.filter p)):=by
 rw[zv6 (body:=body) l z mk (λ _ a s=>some (.inl (if p a=true then s++[a]else s))) fin (λ i s=>s.length<=i)
  (λ i s hi hs=>by
   refine⟨?_,λ s' hs'=>?_⟩
   .rw[hb i s hi hs];rfl
   .simp only[cJ,dQ]at hs';subst hs';split
    .rw[bP,List.length_singleton];omega
    .omega) (λ s _=>he s) [] (by simp),zbc1]
 rfl
theorem zbY9(l:List bA)(p:aF)(n:ByteArray)(has:Bool)(hl:l.length<=1000000):
  ze4 l (!has) ({bA.zero with aI:=p,name:=n})=some (zar3 l p n has,!has,{bA.zero with aI:=p,name:=n}):=by
 unfold ze4 zar3;have e:=zby3 (body:=zK7 l) l bA.zero (λ t=>has||!decide (keyT t=(p,n))) (λ i s=>((i:Int),!has,({bA.zero with aI:=p,name:=n}:bA),s)) (λ s=>(!has,({bA.zero with aI:=p,name:=n}:bA),s)) (λ i s hi hs=>by
  unfold zK7 zc5;have h3:0<=(i:Int)/\(i:Int)<(l.length:Int):=by omega
  have h1:s.length+1<=4294967296:=by omega
  simp only[h1,h3.1,h3.2,cP,zk1,bV,bS,Int.toNat_natCast,zd0 i (show i<4611686018427387904 by omega),Option.bind_some];obtain⟨t,ht⟩:∃t,l.getD i bA.zero=t:=⟨_,rfl⟩;simp only[ht];have k:(({t with gen:=0}:bA)={bA.zero with aI:=p,name:=n})=(keyT t=(p,n)):=by obtain⟨a,b,c⟩:=t;simp[keyT,bA.zero]
  simp only[k];cases has<;>by_cases k2:keyT t=(p,n)<;>simp[k2]) (λ s=>by unfold zK7;simp)
 rw[show((0,!has,{bA.zero with aI:=p,name:=n},[]):Int×Bool×bA×List bA)=(λ(i:Nat) (s:List bA)=>((i:Int),!has,({bA.zero with aI:=p,name:=n}:bA),s)) 0 []from rfl,e];rfl
theorem zbU6(l:List bA)(ps:List aF)(hl:l.length<=1000000)(hp:ps.length<=1000000):
  zq6 l ps=some (l.filter (λ t=>decide (t.aI∈ps)),ps):=by
 unfold zq6;have e:=zby3 (body:=zH8 l) l bA.zero (λ t=>decide (t.aI∈ps)) (λ i s=>((i:Int),ps,s)) (λ s=>(ps,s)) (λ i s hi hs=>by
  unfold zH8 zp9;have h3:0<=(i:Int)/\(i:Int)<(l.length:Int):=by omega
  have h1:s.length+1<=4294967296:=by omega
  simp only[h1,h3.1,h3.2,cP,zk1,bV,bS,Int.toNat_natCast,zd0 i (show i<4611686018427387904 by omega),zah8 _ _ hp,Option.bind_some]
  by_cases k2:(l.getD i bA.zero).aI∈ps<;>simp[k2,-List.getD_eq_getElem?_getD]) (λ s=>by unfold zH8;simp)
 rw[show((0,ps,[]):Int×List aF×List bA)=(λ(i:Nat) (s:List bA)=>((i:Int),ps,s)) 0 []from rfl,e];rfl
theorem zcJ3{t:List aA}{nm:ByteArray}{x:aA×List aO×Int}(ev:List aS)(hx:zaK5 x):(putT t nm x ev).2.1.length<=ev.length+16:=by
 have:=hx.2.2.2;unfold putT;split
 .simp only[zw2,bP,cH];omega
 .simp[errT]
theorem zbg1{t:List aA}(h:ValidT t)(p:aF)(a:bF):(zu4 t p a).2.1.length<=17:=by
 unfold zu4 atT;split
 .simp[errT]
 .split
  .simp[errT]
  .refine eV (zcJ3 _ (zaS8 _ _ _)) ?_;split<;>simp
theorem zaT6{t:List aA}(h:ValidT t)(p:aF)(n:ByteArray):(zt9 t p n).2.1.length<=17:=by
 unfold zt9 atT;split
 .simp[errT]
 .split
  .simp[errT]
  .exact eV (zcJ3 _ (zaK6 _ _)) (by simp)
def zS7(h:aX)(m:aJ):ResH:=
 let i:=zm5 h.aG m.aY.name
 if i<0 then errH 10 else
 let c:=if(zt0 (h.aG.getD i.toNat aA.zero) m.aI).2=true then zt9 h.aG m.aI m.aY.name else(h.aG,[],0)
 if c.2.2=0 then
  let w:=zu4 c.1 m.aI m.aY
  let r:=if w.2.2=0 then(w.1,c.2.1++w.2.1)else(c.1,c.2.1)
  let q:=r.1.getD i.toNat aA.zero
  (⟨r.1,zar3 h.tags m.aI m.aY.name (decide (m.aI∈zu6 q))⟩,zr0 m (getH q.aL m.aI) true::zE2 h.tags r.2 m.aI,r.2,0)
 else errH c.2.2
theorem zbc5(h:aX)(m:aJ)(i:Nat)(t:List aA)(ev:List aS)(hV:ValidT t)(hi:i<t.length)(ht:h.tags.length<=1000000)(he:ev.length<=1000000):
  zI8 h m i (t,ev)=some (⟨t,zar3 h.tags m.aI m.aY.name (decide (m.aI∈zu6 (t.getD i aA.zero)))⟩,zr0 m (getH (t.getD i aA.zero).aL m.aI) true::zE2 h.tags ev m.aI,ev,0):=by
 unfold zI8;have hq:=zo6 (hV.each _ (zh4 (z:=aA.zero) hi));have hp:=zau5 (hV.each _ (zh4 (z:=aA.zero) hi));have hg:=zaf0 h.tags ev m.aI;simp only[Int.toNat_natCast];rw[za6 (by omega),zaq5 _ (by omega) (by omega) (by omega),Option.bind_some,zah8 _ _ (by omega),Option.bind_some,zbY9 _ _ _ _ ht,Option.bind_some,za6 (by omega),zJ8 _ _ (by omega),Option.bind_some,zaG1 _ _ _ ht he,Option.bind_some,za6 (by omega)];rfl
theorem zbc6(h:aX)(m:aJ)(i:Nat)(t:List aA)(ev:List aS)(hV:ValidT t)(hi:i<t.length)(ht:h.tags.length<=1000000)(he:ev.length<=500000):
  zI9 h m i (t,ev)=some (
   let w:=zu4 t m.aI m.aY
   let r:=if w.2.2=0 then(w.1,ev++w.2.1)else(t,ev)
   let q:=r.1.getD i aA.zero
   (⟨r.1,zar3 h.tags m.aI m.aY.name (decide (m.aI∈zu6 q))⟩,zr0 m (getH q.aL m.aI) true::zE2 h.tags r.2 m.aI,r.2,0)):=by
 unfold zI9;simp only;rw[zbS8,Option.bind_some];have hs:=zbg1 hV m.aI m.aY
 by_cases e:(zu4 t m.aI m.aY).2.2=0
 .obtain⟨j,hj,h1,_,hv⟩:=zcd9 e;rw[bM (bZ e),za6 (by omega),zbc5 h m i _ _ hv (by rw[h1,dP];exact hi) ht (by rw[bP];omega)];simp only[e,bS]
 .rw[bL (by simpa using e),zbc5 h m i _ _ hV hi ht (by omega)];simp only[e,bU]
theorem zby4(h:aX)(m:aJ)(hV:ValidT h.aG)(ht:h.tags.length<=1000000):zH1 h m=some (zS7 h m):=by
 unfold zH1 zS7;have hl8:=hV.len;rw[zaK8 _ _ (by omega),Option.bind_some];rcases zak1 (t:=h.aG) (nm:=m.aY.name)with f|⟨i,f,hi,hn⟩
 .rw[f,bM (by decide),bM (by decide)];rfl
 .have hq:=zo6 (hV.each _ (zh4 (z:=aA.zero) hi));rw[f,bL (by simp),bL (by omega),zbY8 _ (by omega) hV.lens,Option.bind_some,za6 (by omega)];simp only[Int.toNat_natCast];rw[zal5 _ _ (by omega) (by omega),Option.bind_some];rcases hb (zt0 (h.aG.getD i aA.zero) m.aI).2 with hw|hw
  rotate_left
  .simp only[hw,bN,bU];rw[zbc6 h m i _ _ hV hi ht (by simp)];simp
  .simp only[hw,bS];rw[zbF2,Option.bind_some]
   by_cases e:(zt9 h.aG m.aI m.aY.name).2.2=0
   .obtain⟨j,hj,h1,_,hv⟩:=zbn8 e;have he:=zaT6 hV m.aI m.aY.name;rw[bL (nd0 e),za6 (by omega),zbc6 h m i _ _ hv (by rw[h1,dP];exact hi) ht (by omega)];simp only[bS,e]
   .rw[bM (nd1 e)];simp only[bS,e,bU];rfl
def zbc7(h:aX)(m:aJ):ResH:=
 let v:=zA9 h.aG m.site m.inc
 (⟨v.1,h.tags.filter λ t=>decide (t.aI∈zl7 v.1)⟩,zE2 h.tags v.2 aF.zero,v.2,0)
theorem zaB9{t:List aA}(h:ValidT t)(a b:Int):ValidT (zA9 t a b).1:=by rw[zaT4 h];exact zbb5 h _
theorem zbZ0(h:aX)(m:aJ)(hV:ValidT h.aG)(ht:h.tags.length<=1000000):zU4 h m=some (zbc7 h m):=by unfold zU4 zbc7;have hv:=zaB9 hV m.site m.inc;have hp:=hv.bJ;rw[zbT4,Option.bind_some,zaq8 hv.len hv.each,Option.bind_some,zbU6 _ _ ht (by omega),Option.bind_some,zaG1 _ _ _ ht (zar2 _ _ _).2.2,Option.bind_some]
def zN1(h:aX)(m:aJ):ResH:=
 if zR4 h=false then errH 2 else if zN5 m=false then errH 1
 else if m.kind=1 then zai8 h m else if m.kind=2 then zS7 h m else if m.kind=5 then zbc7 h m else errH 1
theorem zbc8{h:aX}(k:zR4 h=true):ValidT h.aG:=by unfold zR4 at k;rw[bK]at k;exact(zs4 _).1 k.1
theorem zai0(h:aX)(m:aJ)(ht:h.tags.length<=1000000)(hk:kK m.kind):zz0 h m=some (zN1 h m):=by
 unfold zz0 zN1;rw[zaw0 h ht,Option.bind_some];cases hv:zR4 h with
 |false=>rfl
 |true=>
  have hV:=zbc8 hv;simp only[cW,bN,bU,reduceCtorEq];rw[zby2 m hk,Option.bind_some];cases hm:zN5 m with
  |false=>rfl
  |true=>
   simp only[cW,bN,bU,reduceCtorEq]
   by_cases k1:m.kind=1
   .rw[bM (bZ k1),bM k1,zbY7 h m hV ht];rfl
   .rw[bL (by simpa using k1),bL k1]
    by_cases k2:m.kind=2
    .rw[bM (bZ k2),bM k2,zby4 h m hV ht];rfl
    .rw[bL (by simpa using k2),bL k2]
     by_cases k5:m.kind=5
     .rw[bM (bZ k5),bM k5,zbZ0 h m hV ht];rfl
     .rw[bL (by simpa using k5),bL k5];rfl
def aP:aF:=⟨0,1,1⟩
def aQ:aF:=⟨1,1,1⟩
def aN:ByteArray:=⟨#[97]⟩
def aR:aD:=⟨aN,1,1,1⟩
def aH0:aX:=⟨[⟨aR,[],[],[],0⟩],[]⟩
def aM1:aJ:=zO2 aP 1 5
def aM2:aJ:=zO2 aQ 4 3
def aM3:aJ:={aJ.zero with kind:=2,aI:=aP,gen:=2,aY:={bF.zero with name:=aN}}
def aH1:aX:=⟨[⟨aR,[⟨aP,⟨5,0⟩⟩],[],[],1⟩],[⟨aP,aN,1⟩]⟩
def aH2:aX:=(zai8 aH1 aM2).1
theorem e0:newH zY1 1=(aH0,0):=by kernel_rfl
theorem p1:zN5 aM1=true:=by kernel_rfl
theorem v0:zR4 aH0=true:=by kernel_rfl
theorem c1:zai8 aH0 aM1=(aH1,[zr0 aM1 ⟨5,0⟩ true],[⟨1,aP,aN,⟨5,0⟩⟩],0):=by kernel_rfl
theorem v1:zR4 aH1=true:=by kernel_rfl
theorem p2:zN5 aM2=true:=by kernel_rfl
theorem v2:zR4 aH2=true:=by kernel_rfl
theorem p3:zN5 aM3=true:=by kernel_rfl
theorem l3:(zS7 aH2 aM3).1.tags.length<=1000000:=by
 have:decide ((zS7 aH2 aM3).1.tags.length<=1000000)=true:=by kernel_rfl
 exact iO this
theorem l2:aH2.tags.length<=1000000:=by
 have:decide (aH2.tags.length<=1000000)=true:=by kernel_rfl
 exact iO this
theorem t1:zz0 aH0 (zO2 (⟨0,1,1⟩:aF) 1 5)=some (zai8 aH0 aM1):=by
 have e:zN1 aH0 aM1=zai8 aH0 aM1:=by unfold zN1;rw[v0,p1,bL (by decide),bL (by decide),bM (show aM1.kind=1 from rfl)]
 exact(zai0 aH0 aM1 (by decide) (.inl rfl)).trans (by rw[e])
theorem t2:zz0 aH1 (zO2 (⟨1,1,1⟩:aF) 4 3)=some (zai8 aH1 aM2):=by
 have e:zN1 aH1 aM2=zai8 aH1 aM2:=by unfold zN1;rw[v1,p2,bL (by decide),bL (by decide),bM (show aM2.kind=1 from rfl)]
 exact(zai0 aH1 aM2 (by decide) (.inl rfl)).trans (by rw[e])
theorem t3:zz0 (zai8 aH1 aM2).1 ({aJ.zero with kind:=2,aI:=(⟨0,1,1⟩:aF),gen:=2,aY:={bF.zero with name:=(⟨#[97]⟩:ByteArray)}})=some (zS7 aH2 aM3):=by
 have e:zN1 aH2 aM3=zS7 aH2 aM3:=by unfold zN1;rw[v2,p3,bL (by decide),bL (by decide),bL (by decide),bM (show aM3.kind=2 from rfl)]
 exact(zai0 aH2 aM3 l2 (.inr (.inl rfl))).trans (by rw[e])
theorem zN6:zw0=some true:=by
 unfold zw0;rw[zaI8,e0,Option.bind_some];simp only;rw[t1,Option.bind_some,c1];simp only;rw[t2,Option.bind_some,t3,Option.bind_some,zaw0 _ l3]
 kernel_rfl
theorem zck1(l:List aD)(s:Int)(h:aX):zS2 l s h=some true:=by
 unfold zS2
 by_cases hl:20<l.length
 .rw[bL (by simp;omega),Option.bind_some,bM (by simp),zN6];rfl
 .rw[bM (by simp;omega),zcD6,Option.bind_some];cases hs:zbU3 h with
  |false=>rw[bM (by simp),zN6];rfl
  |true=>obtain⟨h1,h2,h3⟩:=zcu0 hs;obtain⟨n1,n2,n3⟩:=zcQ5 l s;rw[bL (by simp;omega),zaI8,Option.bind_some,zbs5,Option.bind_some,zN6,Option.bind_some];simp only[bV,iH,cA,bS];rw[zbY5 _ _ (by omega) n2 (by rw[n3];simp),Option.bind_some];simp only[bV,bS];rw[zaw0 _ (by omega),Option.bind_some,zbc0 _ (by omega),Option.bind_some];simp
end Ab
end Go.Proofs.YtdlfhmkmnjbihaaGreatDoor
