import Derived.Test.YtdlfhmkmnjbihaaGreatDoorHm8
import Derived.Test.YtdlfhmkmnjbihaaGreatDoorSort
import Derived.Test.YtdlfhmkmnjbihaaGreatDoorHm10
namespace Go.Proofs.YtdlfhmkmnjbihaaGreatDoor
namespace Ab
open IntKind (i64 u64 u8)
set_option linter.unusedSimpArgs false
set_option linter.defProp false
set_option linter.unusedVariables false
set_option maxRecDepth 100000
set_option maxHeartbeats 1000000
noncomputable section
attribute [local irreducible] zk2 zd1 za7 zd5 zd8 za4 zo7 ze9 zl8 zi1 zc1 zk8 zh8 zd4 zk5 za2 zf9 zc9 zf7 za3 zh5 zc5 zc7 zf6 zk9 zd9 zm9 zh3 zf0 zh1 zd7 za5 ze0 zc8 zd2 zl5 ze1 zo2 zb3 zj1 zj0 ze8 zp1 zi2 zk6 zh0 zc2 zb7 zb9 zj3 zg6 zi3 zf1 zi5 ze6 zg0 zm7 zl0 zf2 za9 za8 zf3 zg7 zb4 zp2 zm8 zc3 zj4 zj8 zf4 zn5 zh2 zg2 zg3 zl6 zj6 zg4 zn8 zg8 zh9 zi6 zn9 zc6 zg5 ze4 zf5 zo0
def zo9(a0:aX):Option Bool:=
 (zn9 ({aZ.zero with aG:=a0.aG})).bind λ v1=>
 some (v1&&decide ((a0.tags.length:Int)<=80))
instance zdb2(a0:aX):OkP (zo9 a0) 8 [ga a0] (λ r=>.bool r):=⟨λ r h=>by
 refine zW0 Tryz.f8 [] λ E hG hN hK=>?_;have hm:Mk (zo9 a0):=trivial;unfold zo9 at h;exact gogo⟩
attribute [local irreducible] zo9
def zp0(a0:aA):Option (List aM):=
 (za9 [a0.aH,a0.aT]).bind λ v1=>
 some v1
instance zdb3(a0:aA):OkP (zp0 a0) 136 [ga a0] (λ r=>la r):=ok1 (zp0.eq_1 a0) Tryz.f136 []
attribute [local irreducible] zp0
def ltS(x y:aF):Prop:=x.site<y.site\/x.site=y.site/\(x.inc<y.inc\/x.inc=y.inc/\x.num<y.num)
instance(x y:aF):Decidable (ltS x y):=by unfold ltS;infer_instance
def cmpS(x y:aF):Int:=if ltS x y then-1 else if ltS y x then 1 else 0
theorem zaM7(x y:aF):ltOf cmpS x y=decide (ltS x y):=by
 unfold ltOf cmpS
 by_cases h:ltS x y
 .simp[h]
 .by_cases h2:ltS y x<;>simp[h,h2]
theorem zdb4:Go.Sort.SWO (ltOf cmpS) where
 irrefl x:=by rw[zaM7];simp[ltS]
 trans x y z h1 h2:=by rw[zaM7,bQ]at*;unfold ltS at*;omega
 ntrans x y z h1 h2:=by rw[zaM7,cS]at*;unfold ltS at*;omega
theorem zcB0(x y:aF)(h1:ltOf cmpS x y=false)(h2:ltOf cmpS y x=false):x=y:=by rw[zaM7,cS]at*;unfold ltS at*;rw[aF.ext_iff];omega
theorem zdn7(p q:aF):zc3 p q=some (cmpS p q):=by
 unfold zc3 zf0;have e:∀(x y z:Int) (i:Nat) (h:[x,y,z].length=3),Arr.get (⟨[x,y,z],h⟩:Arr Int 3) i 0=match i with|0=>x|1=>y|_=>z:=by
  intro x y z i h
  match i with
  |0=>rfl
  |1=>rfl
  |2=>rfl
  |n+3=>
    have:¬(n+3<3):=by omega
    simp[Arr.get,zE3,this]
 have w1:i64.wrap (0+1)=1:=by decide
 have w2:i64.wrap (1+1)=2:=by decide
 have w3:i64.wrap (2+1)=3:=by decide
 have s3:zm1 ⟨[p.site,p.inc,p.num],rfl⟩ ⟨[q.site,q.inc,q.num],rfl⟩ 3=some (.inr (.inl ())):=by unfold zm1;simp
 have s2:zm1 ⟨[p.site,p.inc,p.num],rfl⟩ ⟨[q.site,q.inc,q.num],rfl⟩ 2=some (if p.num<q.num then .inr (.inr (-1))else if q.num<p.num then .inr (.inr 1)else .inl 3):=by
  unfold zm1;rw[bM (by decide),za6 (by decide),za6 (by decide),za6 (by decide)];simp only[e,show(2:Int).toNat=2 from rfl,bQ,w3]
  by_cases h:p.num<q.num
  .simp[h]
  .by_cases h2:q.num<p.num<;>simp[h,h2]
 have s1:zm1 ⟨[p.site,p.inc,p.num],rfl⟩ ⟨[q.site,q.inc,q.num],rfl⟩ 1=some (if p.inc<q.inc then .inr (.inr (-1))else if q.inc<p.inc then .inr (.inr 1)else .inl 2):=by
  unfold zm1;rw[bM (by decide),za6 (by decide),za6 (by decide),za6 (by decide)];simp only[e,show(1:Int).toNat=1 from rfl,bQ,w2]
  by_cases h:p.inc<q.inc
  .simp[h]
  .by_cases h2:q.inc<p.inc<;>simp[h,h2]
 have s0:zm1 ⟨[p.site,p.inc,p.num],rfl⟩ ⟨[q.site,q.inc,q.num],rfl⟩ 0=some (if p.site<q.site then .inr (.inr (-1))else if q.site<p.site then .inr (.inr 1)else .inl 1):=by
  unfold zm1;rw[bM (by decide),za6 (by decide),za6 (by decide),za6 (by decide)];simp only[e,show(0:Int).toNat=0 from rfl,bQ,w1]
  by_cases h:p.site<q.site
  .simp[h]
  .by_cases h2:q.site<p.site<;>simp[h,h2]
 unfold cmpS ltS
 by_cases a1:p.site<q.site
 .rw[zg9,s0];simp[a1]
 · by_cases a2:q.site<p.site
   · rw[zg9,s0]
     have:¬p.site=q.site:=by omega
     simp[a1,a2,this]
   · have h1:p.site=q.site:=by omega
     by_cases b1:p.inc<q.inc
     .rw[zg9,s0];simp only[a1,a2,bU];rw[zg9,s1];simp[b1,h1]
     · by_cases b2:q.inc<p.inc
       · have:¬p.inc=q.inc:=by omega
         rw[zg9,s0];simp only[a1,a2,bU];rw[zg9,s1];simp[b1,b2,h1,this]
       · have h2:p.inc=q.inc:=by omega
         rw[zg9,s0];simp only[a1,a2,bU];rw[zg9,s1];simp only[b1,b2,bU];rw[zg9,s2]
         by_cases c1:p.num<q.num
         .simp[c1,h1,h2]
         · by_cases c2:q.num<p.num
           .simp[c1,c2,h1,h2]
           .simp only[c1,c2,bU];rw[zg9,s3];simp[h1,h2,zY2]
def zay0(j1:Unit):Option Bool:=
 some true
def zD8(a0:ByteArray)(g1:Int):Option (Int⊕(Unit⊕Bool)):=
 (if(decide (g1<(a0.size:Int)))=true then
  gd (0<=g1/\g1<(a0.size:Int))<|
  (if(!(zz8 ((a0.toList.getD g1.toNat 0).toNat:Int)))=true then
   some (.inr (.inr false))
  else
   some (.inl (i64.wrap (g1+1))))
 else
  some (.inr (.inl ())))
def zi7(a0:ByteArray):Option Bool:=
 gd ((!(decide ((a0.size:Int)<1)||decide (12<(a0.size:Int))))=true->0<=0/\0<(a0.size:Int))<|
 (if(((decide ((a0.size:Int)<1)||decide (12<(a0.size:Int)))||(!(zK3 ((a0.toList.getD 0 0).toNat:Int))))||zD7 a0)=true then
  some false
 else
  (zc0 (zD8 a0) 0).bind (λ|.inl z=>zay0 z|.inr z=>some z))
@[reducible,instance] def zdQ1 a0:=mkJ (zi7 a0) 0 (@zay0.eq_1) λ(j1:Unit)=>⟨[],[],0⟩
@[reducible,instance] def zdQ2 (a0:ByteArray) {T:Type} (x:T):=mkL x (@zD8.eq_1 a0) λ(g1:Int)=>⟨[(0,.str a0),(3,.int .i64 g1)],[],0⟩
instance zcB1(a0:ByteArray):OkP (zi7 a0) 128 [.str a0] (λ r=>.bool r):=ok1 (zi7.eq_1 a0) Tryz.f128 []
attribute [local irreducible] zi7
def zag0(a0 a1:bA):Bool:=
 (if(!decide (zq8 a0.aI a1.aI=0))=true then
  (decide (zq8 a0.aI a1.aI<0))
 else
  (Op.bytesLess a0.name.toList a1.name.toList))
instance zdi8(a0 a1:bA):OkT 47 [.agg (bA.enc a0),.agg (bA.enc a1)] (.bool (zag0 a0 a1)):=ok2 (λ r=>.bool r) (zag0.eq_1 a0 a1) Tryz.f47 []
def zp3:List ByteArray:=[(⟨#[97]⟩:ByteArray),(⟨#[98]⟩:ByteArray),(⟨#[99]⟩:ByteArray),(⟨#[100]⟩:ByteArray)]
def zai6(j1:bB×(List aD)):Option (bB×(List aD)):=
 (zb4 8 j1.1).bind λ v1=>
 (zb4 4 v1.2).bind λ v2=>
 gd (j1.2.length+1<=4294967296)<|
 (zb4 3 v2.2).bind λ v3=>
 (zb4 4 v3.2).bind λ v4=>
 gd (j1.2.length+1+1<=4294967296)<|
 some (v4.2,((j1.2++[(⟨(⟨#[112]⟩:ByteArray),2,i64.wrap (1+v1.1),v2.1⟩:aD)])++[(⟨(⟨#[113]⟩:ByteArray),2,i64.wrap (1+v3.1),v4.1⟩:aD)]))
def zG6(g1:Int×bB×(List aD)):Option ((Int×bB×(List aD))⊕(bB×(List aD))):=
 (if(decide (g1.1<(zp3.length:Int)))=true then
  gd (0<=g1.1/\g1.1<(zp3.length:Int))<|
  (zb4 4 g1.2.1).bind λ v5=>
  gd (g1.2.2.length+1<=4294967296)<|
  some (.inl ((i64.wrap (g1.1+1)),v5.2,(g1.2.2++[(⟨(zp3.getD g1.1.toNat ⟨#[]⟩),1,1,v5.1⟩:aD)])))
 else
  some (.inr (g1.2.1,g1.2.2)))
def zj7(a0:bB):Option (bB×(List aD)):=
 (zc0 zG6 (0,a0,[])).bind (λ z=>zai6 z)
@[reducible,instance] def zdQ3 (a0:bB):=mkJ (zj7 a0) 0 (@zai6.eq_1) λ(j1:bB×(List aD))=>⟨[(0,.ptr 0 0 0),(3,.own 1 0 j1.2.length)],[(0,bx j1.1),(1,sx j1.2)],2⟩
@[reducible,instance] def zdQ4 {T:Type} (x:T):=mkL x (@zG6.eq_1) λ(g1:Int×bB×(List aD))=>⟨[(0,.ptr 0 0 0),(3,.own 1 0 g1.2.2.length),(4,.full (zp3.map eS)),(5,.int .i64 g1.1)],[(0,bx g1.2.1),(1,sx g1.2.2)],2⟩
instance zbm2(a0:bB):OkM (zj7 a0) 65 [.ptr 0 0 0] [(0,bx a0)] 1 (λ r=>.own 1 0 r.2.length) (λ r=>[(0,bx r.1),(1,sx r.2)]) 2:=⟨λ r h=>by
 refine zZ4 Tryz.f65 [(2,1),(3,1)] [.own 1 0 r.2.length] λ E hG hN hK=>?_;have hm:Mk (zj7 a0):=trivial;unfold zj7 at h;refine za0 (za1 hG ?_);refine za0 (za1 hG ?_);refine za0 (za1 hG ?_);refine g_gh (.cast 4 (.full (zp3.map eS))) ?_;exact gogo⟩
attribute [local irreducible] zj7
def zaZ2(j1:Unit):Option Int:=
 some 0
def zap1(a0 a1 g1:Int):Option (Int⊕(Unit⊕Int)):=
 (if(decide (g1<=5))=true then
  (if(zP6 g1 a0&&zP6 g1 a1)=true then
   some (.inr (.inr g1))
  else
   some (.inl (i64.wrap (g1+1))))
 else
  some (.inr (.inl ())))
def zs6(a0 a1:Int):Option Int:=
 (zc0 (zap1 a0 a1) 1).bind (λ|.inl z=>zaZ2 z|.inr z=>some z)
@[reducible,instance] def zdQ5 a0 a1:=mkJ (zs6 a0 a1) 0 (@zaZ2.eq_1) λ(j1:Unit)=>⟨[],[],0⟩
@[reducible,instance] def zdQ6 (a0 a1:Int) {T:Type} (x:T):=mkL x (@zap1.eq_1 a0 a1) λ(g1:Int)=>⟨[(0,.int .i64 a0),(1,.int .i64 a1),(5,.int .i64 g1)],[],0⟩
instance zdn8(a0 a1:Int):OkP (zs6 a0 a1) 223 [.int .i64 a0,.int .i64 a1] (λ r=>.int .i64 r):=ok1 (zs6.eq_1 a0 a1) Tryz.f223 []
attribute [local irreducible] zs6
def zc4(a0:aD):Option Bool:=
 (zc6 a0.name).bind λ v1=>
 some (((v1&&zd3 a0)&&decide (0<=a0.home))&&decide (a0.home<4))
instance zbX2(a0:aD):OkP (zc4 a0) 75 [ga a0] (λ r=>.bool r):=ok1 (zc4.eq_1 a0) Tryz.f75 []
attribute [local irreducible] zc4
def zb2(a0:aD)(a1:aC):Bool:=
 (zd3 a0&&(zf8 a1||zb0 a0 a1))
instance zbh3(a0:aD)(a1:aC):OkT 255 [.agg (aD.enc a0),.agg (aC.enc a1)] (.bool (zb2 a0 a1)):=ok2 (λ r=>.bool r) (zb2.eq_1 a0 a1) Tryz.f255 []
def zg1(a0:aM):Bool:=
 (((((zb6 a0.aI&&(zb0 ({aD.zero with kind:=1,aU:=1}) a0.aK||zb0 ({aD.zero with kind:=2,aU:=8}) a0.aK))&&decide (0<=a0.aV))&&decide (a0.aV<=7))&&decide (0<=a0.bE))&&decide (a0.bE<=3))
theorem zbq4(a0:aM):PFn C 261 [ga a0] (.bool (zg1 a0)):=by generalize h:zg1 a0=r;refine zW0 Tryz.f261 [] λ E hG hN hK=>?_;have hm:Mk (zg1 a0):=trivial;unfold zg1 at h;exact gogo
instance zcB2(a0:aM):OkT 261 [.agg (aM.enc a0)] (.bool (zg1 a0)):=⟨zbq4 a0⟩
def zay1(j1:(List Int)):Option (List Int):=
 some j1
def zK8(a1:aF)(g1:Int×(List Int)):Option ((Int×(List Int))⊕(List Int)):=
 (if(decide (g1.1<3))=true then
  gd (0<=g1.1/\g1.1<3)<|
  (zb9 g1.2 (u64.wrap (Arr.get (⟨[a1.site,a1.inc,a1.num],rfl⟩:Arr Int 3) g1.1.toNat 0))).bind λ v1=>
  some (.inl ((i64.wrap (g1.1+1)),v1))
 else
  some (.inr g1.2))
def zi8(a0:List Int)(a1:aF):Option (List Int):=
 gd (a0.length<=4294967296)<|
 (if(!(zb6 a1))=true then
  some a0
 else
  (zc0 (zK8 a1) (0,a0)).bind (λ z=>zay1 z))
@[reducible,instance] def zdQ7 a0 a1:=mkJ (zi8 a0 a1) 0 (@zay1.eq_1) λ(j1:(List Int))=>⟨[(5,.own 0 0 j1.length)],[(0,⟨false,1,[A.int .u8 0],j1.map (eI .u8)⟩)],1⟩
@[reducible,instance] def zdQ8 (a1:aF) {T:Type} (x:T):=mkL x (@zK8.eq_1 a1) λ(g1:Int×(List Int))=>⟨[(5,.own 0 0 g1.2.length),(20,.agg (Arr.enc (eI .i64) (⟨[a1.site,a1.inc,a1.num],rfl⟩:Arr Int 3))),(21,.int .i64 g1.1)],[(0,⟨false,1,[A.int .u8 0],g1.2.map (eI .u8)⟩)],1⟩
instance zbh4(a0:List Int)(a1:aF):OkM (zi8 a0 a1) 197 [.sl (a0.map (eI .u8)),ga a1] [] 0 (λ r=>.own 0 0 r.length) (λ r=>[(0,⟨false,1,[A.int .u8 0],r.map (eI .u8)⟩)]) 1:=okm (zi8.eq_1 a0 a1) (λ r=>[.own 0 0 r.length]) Tryz.f197 [(4,1)]
attribute [local irreducible] zi8
def zi9(a0:List aF)(a1:aF):Option Bool:=
 (za8 a0 a1).bind λ v1=>
 some v1
instance zaM8(a0:List aF)(a1:aF):OkP (zi9 a0 a1) 101 [la a0,ga a1] (λ r=>.bool r):=⟨λ r h=>by
 refine zW0 Tryz.f101 [] λ E hG hN hK=>?_;have hm:Mk (zi9 a0 a1):=trivial;unfold zi9 at h;exact gogo⟩
attribute [local irreducible] zi9
def zay2(j1:(List aF)):Option (List aF):=
 some j1
def zad2(g1:Int×(List aF))(j2:(List aF)):Option ((Int×(List aF))⊕(List aF)):=
 some (.inl ((i64.wrap (g1.1+1)),j2))
def zK9(g2:Int×(List aF)):Option ((Int×(List aF))⊕(List aF)):=
 gd (decide (0<g2.1)=true->0<=i64.wrap (g2.1-1)/\i64.wrap (g2.1-1)<((g2.2.length:Nat):Int))<|
 gd (decide (0<g2.1)=true->0<=g2.1/\g2.1<((g2.2.length:Nat):Int))<|
 (if(decide (0<g2.1)&&decide (0<zq8 (g2.2.getD ((i64.wrap (g2.1-1)).toNat) aF.zero) (g2.2.getD g2.1.toNat aF.zero)))=true then
  gd (0<=i64.wrap (g2.1-1)/\i64.wrap (g2.1-1)<((g2.2.length:Nat):Int))<|
  gd (0<=g2.1/\g2.1<((g2.2.length:Nat):Int))<|
  gd (0<=i64.wrap (g2.1-1)/\i64.wrap (g2.1-1)<((g2.2.length:Nat):Int))<|
  gd (0<=g2.1/\g2.1<((g2.2.length:Nat):Int))<|
  some (.inl ((i64.wrap (g2.1-1)),(g2.2.set ((i64.wrap (g2.1-1)).toNat) (g2.2.getD g2.1.toNat aF.zero)).set g2.1.toNat (g2.2.getD ((i64.wrap (g2.1-1)).toNat) aF.zero)))
 else
  some (.inr g2.2))
def zy8(a0:List aF)(g1:Int×(List aF)):Option ((Int×(List aF))⊕(List aF)):=
 (if(decide (g1.1<(a0.length:Int)))=true then
  gd (0<=g1.1/\g1.1<(a0.length:Int))<|
  (ze1 g1.2 (a0.getD g1.1.toNat aF.zero)).bind λ v1=>
  (if v1=true then
   some (.inl ((i64.wrap (g1.1+1)),g1.2))
  else
   gd (0<=g1.1/\g1.1<(a0.length:Int))<|
   gd (g1.2.length+1<=4294967296)<|
   (zc0 zK9 (((g1.2.length:Nat):Int),(g1.2++[(a0.getD g1.1.toNat aF.zero)]))).bind (λ z=>zad2 g1 z))
 else
  some (.inr g1.2))
def zh6(a0:List aF):Option (List aF):=
 (zc0 (zy8 a0) (0,[])).bind (λ z=>zay2 z)
@[reducible,instance] def zdQ9 a0:=mkJ (zh6 a0) 0 (@zay2.eq_1) λ(j1:(List aF))=>⟨[(3,.own 0 0 j1.length)],[(0,sx j1)],1⟩
@[reducible,instance] def zdR0 (a0:List aF) (g1:Int×(List aF)) {T1:Type} (v1:T1):=mkJ (zy8 a0 g1,v1) 2 (@zad2.eq_1 g1) λ(j2:(List aF))=>⟨[(0,la a0),(3,.own 0 0 j2.length),(4,.int .i64 g1.1)],[(0,sx j2)],1⟩
@[reducible,instance] def zdR1 (a0:List aF) (g1:Int×(List aF)) {T1:Type} (v1:T1):=mkL (zy8 a0 g1,v1) (@zK9.eq_1) λ(g2:Int×(List aF))=>⟨[(0,la a0),(3,.own 0 0 g2.2.length),(4,.int .i64 g1.1),(5,.int .i64 g2.1)],[(0,sx g2.2)],1⟩
@[reducible,instance] def zdR2 (a0:List aF) {T:Type} (x:T):=mkL x (@zy8.eq_1 a0) λ(g1:Int×(List aF))=>⟨[(0,la a0),(3,.own 0 0 g1.2.length),(4,.int .i64 g1.1)],[(0,sx g1.2)],1⟩
instance zcB3(a0:List aF):OkP (zh6 a0) 68 [la a0] (λ r=>la r):=ok1 (zh6.eq_1 a0) Tryz.f68 [(3,1)]
attribute [local irreducible] zh6
def zap2(j1:(List aF)):Option (List aF):=
 some j1
def zap3(g1:Int×(List aF))(j2:(List aF)):Option ((Int×(List aF))⊕(List aF)):=
 some (.inl ((i64.wrap (g1.1+1)),j2))
def zap4(g2:Int×(List aF)):Option ((Int×(List aF))⊕(List aF)):=
 gd (decide (0<g2.1)=true->0<=i64.wrap (g2.1-1)/\i64.wrap (g2.1-1)<((g2.2.length:Nat):Int))<|
 gd (decide (0<g2.1)=true->0<=g2.1/\g2.1<((g2.2.length:Nat):Int))<|
 (if(decide (0<g2.1)&&decide (0<zq8 (g2.2.getD ((i64.wrap (g2.1-1)).toNat) aF.zero) (g2.2.getD g2.1.toNat aF.zero)))=true then
  gd (0<=i64.wrap (g2.1-1)/\i64.wrap (g2.1-1)<((g2.2.length:Nat):Int))<|
  gd (0<=g2.1/\g2.1<((g2.2.length:Nat):Int))<|
  gd (0<=i64.wrap (g2.1-1)/\i64.wrap (g2.1-1)<((g2.2.length:Nat):Int))<|
  gd (0<=g2.1/\g2.1<((g2.2.length:Nat):Int))<|
  some (.inl ((i64.wrap (g2.1-1)),(g2.2.set ((i64.wrap (g2.1-1)).toNat) (g2.2.getD g2.1.toNat aF.zero)).set g2.1.toNat (g2.2.getD ((i64.wrap (g2.1-1)).toNat) aF.zero)))
 else
  some (.inr g2.2))
def zN2(a0:List aF)(g1:Int×(List aF)):Option ((Int×(List aF))⊕(List aF)):=
 (if(decide (g1.1<(a0.length:Int)))=true then
  gd (0<=g1.1/\g1.1<(a0.length:Int))<|
  (ze1 g1.2 (a0.getD g1.1.toNat aF.zero)).bind λ v1=>
  (if v1=true then
   some (.inl ((i64.wrap (g1.1+1)),g1.2))
  else
   gd (0<=g1.1/\g1.1<(a0.length:Int))<|
   gd (g1.2.length+1<=4294967296)<|
   (zc0 zap4 (((g1.2.length:Nat):Int),(g1.2++[(a0.getD g1.1.toNat aF.zero)]))).bind (λ z=>zap3 g1 z))
 else
  some (.inr g1.2))
def zh7(a0:List aF):Option (List aF):=
 (zc0 (zN2 a0) (0,[])).bind (λ z=>zap2 z)
@[reducible,instance] def zdR3 a0:=mkJ (zh7 a0) 0 (@zap2.eq_1) λ(j1:(List aF))=>⟨[(3,.own 0 0 j1.length)],[(0,sx j1)],1⟩
@[reducible,instance] def zdR4 (a0:List aF) (g1:Int×(List aF)) {T1:Type} (v1:T1):=mkJ (zN2 a0 g1,v1) 2 (@zap3.eq_1 g1) λ(j2:(List aF))=>⟨[(0,la a0),(3,.own 0 0 j2.length),(4,.int .i64 g1.1)],[(0,sx j2)],1⟩
@[reducible,instance] def zdR5 (a0:List aF) (g1:Int×(List aF)) {T1:Type} (v1:T1):=mkL (zN2 a0 g1,v1) (@zap4.eq_1) λ(g2:Int×(List aF))=>⟨[(0,la a0),(3,.own 0 0 g2.2.length),(4,.int .i64 g1.1),(5,.int .i64 g2.1)],[(0,sx g2.2)],1⟩
@[reducible,instance] def zdR6 (a0:List aF) {T:Type} (x:T):=mkL x (@zN2.eq_1 a0) λ(g1:Int×(List aF))=>⟨[(0,la a0),(3,.own 0 0 g1.2.length),(4,.int .i64 g1.1)],[(0,sx g1.2)],1⟩
instance zcl4(a0:List aF):OkM (zh7 a0) 68 [la a0] [] 0 (λ r=>.own 0 0 r.length) (λ r=>[(0,sx r)]) 1:=okm (zh7.eq_1 a0) (λ r=>[.own 0 0 r.length]) Tryz.f68 [(2,1),(3,1)]
attribute [local irreducible] zh7
attribute [local irreducible] zi0 zp7 zq1 zo8 zn0
def zaE6(j1:Unit):Option Bool:=
 some true
def zY7(a0:List aD)(g1:Int):Option (Int⊕(Unit⊕Bool)):=
 (if(decide (g1<(a0.length:Int)))=true then
  gd (0<=g1/\g1<(a0.length:Int))<|
  (zc4 (a0.getD g1.toNat aD.zero)).bind λ v1=>
  gd ((v1&&decide (0<g1))=true->0<=i64.wrap (g1-1)/\i64.wrap (g1-1)<(a0.length:Int))<|
  (if((!v1)||(decide (0<g1)&&(!Op.bytesLess ((a0.getD ((i64.wrap (g1-1)).toNat) aD.zero).name).toList ((a0.getD g1.toNat aD.zero).name).toList)))=true then
   some (.inr (.inr false))
  else
   some (.inl (i64.wrap (g1+1))))
 else
  some (.inr (.inl ())))
def zo4(a0:List aD):Option Bool:=
 (if(decide (8<(a0.length:Int)))=true then
  some false
 else
  (zc0 (zY7 a0) 0).bind (λ|.inl z=>zaE6 z|.inr z=>some z))
@[reducible,instance] def zed0 a0:=mkJ (zo4 a0) 0 (@zaE6.eq_1) λ(j1:Unit)=>⟨[],[],0⟩
@[reducible,instance] def zed1 (a0:List aD) {T:Type} (x:T):=mkL x (@zY7.eq_1 a0) λ(g1:Int)=>⟨[(0,la a0),(8,la a0),(9,.int .i64 (a0.length:Int)),(10,.int .i64 g1)],[],0⟩
instance zcN7(a0:List aD):OkP (zo4 a0) 33 [la a0] (λ r=>.bool r):=ok1 (zo4.eq_1 a0) Tryz.f33 []
attribute [local irreducible] zo4
def zo5(a0:aD)(a1 a2:aC):Option Bool:=
 (if((!(zb2 a0 a1))||(!(zb2 a0 a2)))=true then
  some false
 else
  (if(zf8 a1||zf8 a2)=true then
   some (zf8 a2)
  else
   (if(decide (a0.kind=1))=true then
    (zl6 a1.mode a2.mode).bind λ v1=>
    some v1
   else
    some (decide (a2.aU<=a1.aU)))))
instance zaM9(a0:aD)(a1 a2:aC):OkP (zo5 a0 a1 a2) 203 [ga a0,ga a1,ga a2] (λ r=>.bool r):=ok1 (zo5.eq_1 a0 a1 a2) Tryz.f203 []
attribute [local irreducible] zo5
def zam4(j3:(List Int)):Option (List Int):=
 some j3
@[go_sem] def zdw2(j3:(List Int)):St:=⟨[(0,.own 1 0 j3.length)],[(1,⟨false,1,[A.int .u8 0],j3.map (eI .u8)⟩)],2⟩
def zaE7(a0:aJ)(g1:Int×(List Int)):Option ((Int×(List Int))⊕(List Int)):=
 (if(decide (g1.1<(a0.options.length:Int)))=true then
  gd (0<=g1.1/\g1.1<(a0.options.length:Int))<|
  (zh1 g1.2 (a0.options.getD g1.1.toNat bC.zero)).bind λ v8=>
  some (.inl ((i64.wrap (g1.1+1)),v8))
 else
  some (.inr g1.2))
@[go_sem] def zdw3(a0:aJ)(g1:Int×(List Int)):St:=⟨[(0,.own 1 0 g1.2.length),(76,la a0.options),(77,.int .i64 (a0.options.length:Int)),(78,.int .i64 g1.1)],[(1,⟨false,1,[A.int .u8 0],g1.2.map (eI .u8)⟩)],2⟩
def zY8(a0:aJ)(a1:Int)(a2:List Int)(j2:Bool):Option (List Int):=
 (if j2=true then
  (zd8 a0.state).bind λ v5=>
  (zb9 a2 (u64.wrap (v5.1.length:Int))).bind λ v6=>
  gd (v6.length+v5.1.length<=4294967296)<|
  some (v6++v5.1)
 else
  (if(decide (a1=79))=true then
   (zb9 a2 (u64.wrap (a0.options.length:Int))).bind λ v7=>
   (zc0 (zaE7 a0) (0,v7)).bind (λ z=>zam4 z)
  else
   some a2))
@[go_sem] def zdw4(a0:aJ)(a1:Int)(a2:List Int)(j2:Bool):St:=⟨[(0,.own 1 0 a2.length),(4,.ptr 2 0 0),(11,.int .u8 a1),(50,.bool j2)],[(1,⟨false,1,[A.int .u8 0],a2.map (eI .u8)⟩),(2,bx a0)],3⟩
def zI4(a0:aJ)(a1:Int)(a2:List Int)(j1:Bool):Option (List Int):=
 (if j1=true then
  (zg4 a2 a0.aY.name).bind λ v2=>
  (zb9 v2 (u64.wrap a0.aY.aK.mode)).bind λ v3=>
  (zb9 v3 (u64.wrap a0.aY.aK.aU)).bind λ v4=>
  some v4
 else
  (if(decide (a1=68))=true then
   (if a0.done=true then
    gd (a2.length+1<=4294967296)<|
    some (a2++[1])
   else
    gd (a2.length+1<=4294967296)<|
    some (a2++[0]))
  else
   (if(decide (a1=78))=true then
    zY8 a0 a1 a2 (decide (a1=78))
   else
    zY8 a0 a1 a2 (decide (a1=76)))))
@[go_sem] def zdw5(a0:aJ)(a1:Int)(a2:List Int)(j1:Bool):St:=⟨[(0,.own 1 0 a2.length),(4,.ptr 2 0 0),(11,.int .u8 a1),(18,.bool j1)],[(1,⟨false,1,[A.int .u8 0],a2.map (eI .u8)⟩),(2,bx a0)],3⟩
def zn7(a0:aJ)(a1:Int)(a2:List Int):Option (List Int):=
 (if(decide (a1=80))=true then
  (zi8 a2 a0.aI).bind λ v1=>
  some v1
 else
  (if(decide (a1=65))=true then
   zI4 a0 a1 a2 (decide (a1=65))
  else
   zI4 a0 a1 a2 (decide (a1=97))))
theorem zbq5(a0:aJ)(a1:Int)(a2:List Int)(r:(List Int))(h:zn7 a0 a1 a2=some r):MFn C 145 [.own 0 0 a2.length,ga a0,.int .u8 a1] [(0,⟨false,1,[A.int .u8 0],a2.map (eI .u8)⟩)] 1 (.own 1 0 r.length) [(1,⟨false,1,[A.int .u8 0],r.map (eI .u8)⟩)] 2:=by
 refine zZ4 Tryz.f145 [(6,1)] [.own 1 0 r.length] λ E hG hN hK=>?_;unfold zn7 at h;refine za0 (za1 hG ?_);refine za0 (za0 (za1 hG ?_));refine zw6 (za0 (za1 hG ?_));refine ze5 rfl hG h (λ _ h=>?_) (λ _ h=>?_)
 · refine za1 hG ?_
   obtain⟨v1,hv1,h⟩:=zb8 h;refine zp6 [] [(0,3)] [0] ((zbh4 a2 a0.aI).ok _ hv1) rfl rfl ?_;refine za0 (za1 hG ?_);refine zm2 ?_;exact zE4 [(1,3)] h
 refine za0 (za0 (za1 hG ?_));refine zak2 (zdw5 a0 a1 a2) (λ v=>zI4 a0 a1 a2 v=some r) rfl hG h ?_ (λ _ h=>?_) (λ _ h=>?_)
 · intro j1 h
   unfold zI4 at h;refine g_st ?_;refine ze5 rfl hG h (λ _ h=>?_) (λ _ h=>?_)
   · refine za0 (za1 hG ?_)
     obtain⟨v2,hv2,h⟩:=zb8 h;refine zp6 [] [(0,3)] [0] ((zbh1 a2 a0.aY.name).ok _ hv2) rfl rfl ?_;refine za0 (za1 hG ?_);obtain⟨v3,hv3,h⟩:=zb8 h;refine zp6 [] [(0,4)] [0] (zA7 _ _ _ hv3) rfl rfl ?_;refine za1 hG ?_;obtain⟨v4,hv4,h⟩:=zb8 h;refine zp6 [] [(0,5)] [0] (zA7 _ _ _ hv4) rfl rfl ?_;refine za0 (za1 hG ?_);refine zm2 ?_;exact zE4 [(1,5)] h
   refine za0 (za1 hG ?_);refine ze5 rfl hG h (λ _ h=>?_) (λ _ h=>?_)
   · refine za0 (za0 (za1 hG ?_))
     refine ze5 rfl hG h (λ _ h=>?_) (λ _ h=>?_)
     · refine za0 ?_
       obtain⟨hb1,h⟩:=ze3 h;refine za1 hG ?_;refine zm2 ?_;exact zE4 [(1,3)] h
     refine ze2 ?_;refine za0 ?_;obtain⟨hb2,h⟩:=ze3 h;refine za1 hG ?_;refine zm2 ?_;exact zE4 [(1,3)] h
   refine za0 (za0 (za1 hG ?_));refine zak2 (zdw4 a0 a1 a2) (λ v=>zY8 a0 a1 a2 v=some r) rfl hG h ?_ (λ _ h=>?_) (λ _ h=>?_)
   · intro j2 h
     unfold zY8 at h;refine g_st ?_;refine ze5 rfl hG h (λ _ h=>?_) (λ _ h=>?_)
     · refine za0 (za1 hG ?_)
       obtain⟨v5,hv5,h⟩:=zb8 h;refine zm4 (λ hg=>zbg7 _ _ hv5) ?_;refine za0 (za1 hG ?_);obtain⟨v6,hv6,h⟩:=zb8 h;refine zp6 [] [(0,3)] [0] (zA7 _ _ _ hv6) rfl rfl ?_;obtain⟨hb3,h⟩:=ze3 h;refine za1 hG ?_;refine za0 (za1 hG ?_);refine zm2 ?_;exact zE4 [(1,4)] h
     refine za0 (za1 hG ?_);refine ze5 rfl hG h (λ _ h=>?_) (λ _ h=>?_)
     · refine za0 (za1 hG ?_)
       obtain⟨v7,hv7,h⟩:=zb8 h;refine zp6 [] [(0,3)] [0] (zA7 _ _ _ hv7) rfl rfl ?_;refine za0 (za1 hG ?_);refine zy5 zdw2 (λ v=>zam4 v=some r) ?_ ?_
       · intro j3 h
         unfold zam4 at h;refine g_st ?_;refine za0 (za1 hG ?_);refine zm2 ?_;exact zE4 [(1,1)] h
       refine zal7 (zdw3 a0) hK [(1,3)] h (λ x_l1 h g1 y_l1 h_l1 hx_l1=>?_);unfold zaE7 at h_l1;refine g_st ?_;refine za0 (za1 hG ?_);refine za0 ?_;refine ze5 rfl hG h_l1 (λ _ h_l1=>?_) (λ _ h_l1=>?_)
       · refine ze2 ?_
         refine za0 (zw6 (za0 ?_));obtain⟨hb4,h_l1⟩:=ze3 h_l1;refine za1 hG ?_;refine za1 hG ?_;obtain⟨v8,hv8,h_l1⟩:=zb8 h_l1;refine zp6 [] [(0,3)] [0] (zbl8 _ _ _ hv8) rfl rfl ?_;refine za1 hG ?_;exact zM4 hK [(1,3)] h_l1
       refine zA6 ?_;cases h_l1;cases hx_l1 _ rfl;exact zs2 hK [(1,1)] g1.2 (by exact h)
     refine ze2 ?_;refine za0 (za1 hG ?_);refine zm2 ?_;exact zE4 [(1,1)] h
   · refine ze2 ?_
     exact zs2 hK [(1,1),(2,2)] (decide (a1=78)) (by exact h)
   refine za1 hG ?_;exact zs2 hK [(1,1),(2,2)] (decide (a1=76)) (by exact h)
 · refine ze2 ?_
   exact zs2 hK [(1,0),(2,1)] (decide (a1=65)) (by exact h)
 refine za1 hG ?_;exact zs2 hK [(1,0),(2,1)] (decide (a1=97)) (by exact h)
attribute [local irreducible] zn7
def zi4(a0:aD):Option Bool:=
 (zi7 a0.name).bind λ v1=>
 some (((v1&&zE9 a0)&&decide (0<=a0.home))&&decide (a0.home<4))
instance zci2(a0:aD):OkP (zi4 a0) 77 [ga a0] (λ r=>.bool r):=ok1 (zi4.eq_1 a0) Tryz.f77 []
attribute [local irreducible] zi4
def zaV6(j1:Unit):Option Bool:=
 some true
def zaV7(a0 a1:aX)(g1:Int):Option (Int⊕(Unit⊕Bool)):=
 (if(decide (g1<(a0.tags.length:Int)))=true then
  gd (0<=g1/\g1<(a0.tags.length:Int))<|
  gd (0<=g1/\g1<(a1.tags.length:Int))<|
  (if(!decide (a0.tags.getD g1.toNat bA.zero=a1.tags.getD g1.toNat bA.zero))=true then
   some (.inr (.inr false))
  else
   some (.inl (i64.wrap (g1+1))))
 else
  some (.inr (.inl ())))
def zt4(a0 a1:aX):Option Bool:=
 (zp7 a0.aG a1.aG).bind λ v1=>
 (if((!v1)||(!decide ((a0.tags.length:Int)=(a1.tags.length:Int))))=true then
  some false
 else
  (zc0 (zaV7 a0 a1) 0).bind (λ|.inl z=>zaV6 z|.inr z=>some z))
@[reducible,instance] def zdR7 a0 a1 {T1:Type} (v1:T1):=mkJ (zt4 a0 a1,v1) 0 (@zaV6.eq_1) λ(j1:Unit)=>⟨[],[],0⟩
@[reducible,instance] def zdR8 (a0 a1:aX) {T:Type} (x:T):=mkL x (@zaV7.eq_1 a0 a1) λ(g1:Int)=>⟨[(2,.ptr 0 0 0),(3,.ptr 1 0 0),(5,.int .i64 g1)],[(0,bx a0),(1,bx a1)],2⟩
instance zdi9(a0 a1:aX):OkP (zt4 a0 a1) 12 [ga a0,ga a1] (λ r=>.bool r):=ok1 (zt4.eq_1 a0 a1) Tryz.f12 []
attribute [local irreducible] zt4
def zj9(a0:List aD)(a1:bB):Option (aJ×bB):=
 (zb4 (a0.length:Int) a1).bind λ v1=>
 gd (0<=v1.1/\v1.1<(a0.length:Int))<|
 (zb4 3 v1.2).bind λ v2=>
 (zb4 2 v2.2).bind λ v3=>
 (zb4 2 v3.2).bind λ v4=>
 (zb4 9 v4.2).bind λ v5=>
 (zb4 9 v5.2).bind λ v6=>
 (if(decide (v6.1<5))=true then
  (zb4 8 v6.2).bind λ v7=>
  (zo8 (a0.getD v1.1.toNat aD.zero) v7.1).bind λ v8=>
  (zb4 3 v7.2).bind λ v9=>
  some ({{{aJ.zero with kind:=1,aI:=(⟨v2.1,i64.wrap (1+v3.1),i64.wrap (1+v4.1)⟩:aF),gen:=v5.1,aY:={bF.zero with name:=(a0.getD v1.1.toNat aD.zero).name}}with aY:={({aJ.zero with kind:=1,aI:=(⟨v2.1,i64.wrap (1+v3.1),i64.wrap (1+v4.1)⟩:aF),gen:=v5.1,aY:={bF.zero with name:=(a0.getD v1.1.toNat aD.zero).name}}).aY with aK:=v8}}with aV:=v9.1},v9.2)
 else
  (if(decide (v6.1<8))=true then
   (if(decide (v6.1=7))=true then
    (zb4 8 v6.2).bind λ v10=>
    (zo8 (a0.getD v1.1.toNat aD.zero) v10.1).bind λ v11=>
    some ({{{aJ.zero with kind:=1,aI:=(⟨v2.1,i64.wrap (1+v3.1),i64.wrap (1+v4.1)⟩:aF),gen:=v5.1,aY:={bF.zero with name:=(a0.getD v1.1.toNat aD.zero).name}}with kind:=2}with aY:={({{aJ.zero with kind:=1,aI:=(⟨v2.1,i64.wrap (1+v3.1),i64.wrap (1+v4.1)⟩:aF),gen:=v5.1,aY:={bF.zero with name:=(a0.getD v1.1.toNat aD.zero).name}}with kind:=2}).aY with aK:=v11}},v10.2)
   else
    some ({{aJ.zero with kind:=1,aI:=(⟨v2.1,i64.wrap (1+v3.1),i64.wrap (1+v4.1)⟩:aF),gen:=v5.1,aY:={bF.zero with name:=(a0.getD v1.1.toNat aD.zero).name}}with kind:=2},v6.2))
  else
   (zb4 3 v6.2).bind λ v12=>
   (zb4 3 v12.2).bind λ v13=>
   some ({aJ.zero with kind:=5,inc:=(i64.wrap (1+v13.1)),site:=v12.1},v13.2)))
instance zaA2(a0:List aD)(a1:bB):OkM (zj9 a0 a1) 23 [.ptr 0 0 0,la a0] [(0,bx a1)] 1 (λ r=>ga r.1) (λ r=>[(0,bx r.2)]) 1:=okm (zj9.eq_1 a0 a1) (λ r=>[ga r.1]) Tryz.f23 []
attribute [local irreducible] zj9
def zq9(a0:aA):Option (List aF):=
 (ze6 a0.aL).bind λ v1=>
 (zi1 a0).bind λ v2=>
 gd (v1.length+v2.length<=4294967296)<|
 (zh7 (v1++v2)).bind λ v3=>
 some v3
instance zbq6(a0:aA):OkM (zq9 a0) 24 [ga a0] [] 0 (λ r=>.own 0 0 r.length) (λ r=>[(0,sx r)]) 1:=okm (zq9.eq_1 a0) (λ r=>[.own 0 0 r.length]) Tryz.f24 [(2,1),(9,1)]
attribute [local irreducible] zq9
end
end Ab
end Go.Proofs.YtdlfhmkmnjbihaaGreatDoor
