import Derived.Test.YtdlfhmkmnjbihaaGreatDoorHm6
import Derived.Test.YtdlfhmkmnjbihaaGreatDoorHm9
import Derived.Test.YtdlfhmkmnjbihaaGreatDoorSort
namespace Go.Proofs.YtdlfhmkmnjbihaaGreatDoor
namespace Ab
open IntKind (i64 u64 u8)
set_option linter.unusedSimpArgs false
set_option linter.defProp false
set_option linter.unusedVariables false
set_option maxRecDepth 100000
set_option maxHeartbeats 1000000
noncomputable section
attribute [local irreducible] zl5 zj8 zl7 zd1 zg5 zi1 zf5 zm6 zl8 zk4 ze1 ze6 zn5 zd4 zo3 za2 zg8 zg6 za5 zf6 ze4 zg3 zd7 zn0 zc9 zc6 zp8 zh0 zf7 zl6 zd5 zb1 ze0 zd6 za4 zj9 ze5 zh4 zd2 zb3 zf9 zd8 za8 zc3 ze2 zb9 zb2 zk9 za6 zc8 zd3 zk3 zf8 zd9 zk6 zi5 zq5 zc4 za9 ze7 zi3 zg0 zn1 zb7 zq4 zl4 zf1 zb6 zl1 ze8 zk7 zn7 zf2 zl0 zk0 zn8 ze9 zi6 zp3 zj5 zj0 zh2 zi7 zm7 zc5 zg1 zk1 zj1 za7 ze3 zf0 zo7 zm3
def zc7(a0:aD):Option Bool:=
 (zc5 a0.name).bind λ v1=>
 some (((v1&&zh1 a0)&&decide (0<=a0.home))&&decide (a0.home<4))
instance zcn9(a0:aD):OkP (zc7 a0) 75 [ga a0] (λ r=>.bool r):=ok1 (zc7.eq_1 a0) Tryz.f75 []
attribute [local irreducible] zc7
def ltS(x y:aF):Prop:=x.site<y.site\/x.site=y.site/\(x.inc<y.inc\/x.inc=y.inc/\x.num<y.num)
instance(x y:aF):Decidable (ltS x y):=by unfold ltS;infer_instance
def cmpS(x y:aF):Int:=if ltS x y then-1 else if ltS y x then 1 else 0
theorem zaZ8(x y:aF):ltOf cmpS x y=decide (ltS x y):=by
 unfold ltOf cmpS
 by_cases h:ltS x y
 .simp[h]
 .by_cases h2:ltS y x<;>simp[h,h2]
theorem zdx7:Go.Sort.SWO (ltOf cmpS) where
 irrefl x:=by rw[zaZ8];simp[ltS]
 trans x y z h1 h2:=by rw[zaZ8,bQ]at*;unfold ltS at*;omega
 ntrans x y z h1 h2:=by rw[zaZ8,dA]at*;unfold ltS at*;omega
theorem zcT8(x y:aF)(h1:ltOf cmpS x y=false)(h2:ltOf cmpS y x=false):x=y:=by rw[zaZ8,dA]at*;unfold ltS at*;rw[aF.ext_iff];omega
theorem zdM8(p q:aF):zc4 p q=some (cmpS p q):=by
 unfold zc4 zf7;have e:∀(x y z:Int) (i:Nat) (h:[x,y,z].length=3),Arr.get (⟨[x,y,z],h⟩:Arr Int 3) i 0=match i with|0=>x|1=>y|_=>z:=by
  intro x y z i h
  match i with
  |0=>rfl
  |1=>rfl
  |2=>rfl
  |n+3=>
    have:¬(n+3<3):=by omega
    simp[Arr.get,zI4,this]
 have w1:i64.wrap (0+1)=1:=by decide
 have w2:i64.wrap (1+1)=2:=by decide
 have w3:i64.wrap (2+1)=3:=by decide
 have s3:zp9 ⟨[p.site,p.inc,p.num],rfl⟩ ⟨[q.site,q.inc,q.num],rfl⟩ 3=some (.inr (.inl ())):=by unfold zp9;simp
 have s2:zp9 ⟨[p.site,p.inc,p.num],rfl⟩ ⟨[q.site,q.inc,q.num],rfl⟩ 2=some (if p.num<q.num then .inr (.inr (-1))else if q.num<p.num then .inr (.inr 1)else .inl 3):=by
  unfold zp9;rw[bO (by decide),zb0 (by decide),zb0 (by decide),zb0 (by decide)];simp only[e,show(2:Int).toNat=2 from rfl,bQ,w3]
  by_cases h:p.num<q.num
  .simp[h]
  .by_cases h2:q.num<p.num<;>simp[h,h2]
 have s1:zp9 ⟨[p.site,p.inc,p.num],rfl⟩ ⟨[q.site,q.inc,q.num],rfl⟩ 1=some (if p.inc<q.inc then .inr (.inr (-1))else if q.inc<p.inc then .inr (.inr 1)else .inl 2):=by
  unfold zp9;rw[bO (by decide),zb0 (by decide),zb0 (by decide),zb0 (by decide)];simp only[e,show(1:Int).toNat=1 from rfl,bQ,w2]
  by_cases h:p.inc<q.inc
  .simp[h]
  .by_cases h2:q.inc<p.inc<;>simp[h,h2]
 have s0:zp9 ⟨[p.site,p.inc,p.num],rfl⟩ ⟨[q.site,q.inc,q.num],rfl⟩ 0=some (if p.site<q.site then .inr (.inr (-1))else if q.site<p.site then .inr (.inr 1)else .inl 1):=by
  unfold zp9;rw[bO (by decide),zb0 (by decide),zb0 (by decide),zb0 (by decide)];simp only[e,show(0:Int).toNat=0 from rfl,bQ,w1]
  by_cases h:p.site<q.site
  .simp[h]
  .by_cases h2:q.site<p.site<;>simp[h,h2]
 unfold cmpS ltS
 by_cases a1:p.site<q.site
 .rw[zh3,s0];simp[a1]
 · by_cases a2:q.site<p.site
   · rw[zh3,s0]
     have:¬p.site=q.site:=by omega
     simp[a1,a2,this]
   · have h1:p.site=q.site:=by omega
     by_cases b1:p.inc<q.inc
     .rw[zh3,s0];simp only[a1,a2,bV];rw[zh3,s1];simp[b1,h1]
     · by_cases b2:q.inc<p.inc
       · have:¬p.inc=q.inc:=by omega
         rw[zh3,s0];simp only[a1,a2,bV];rw[zh3,s1];simp[b1,b2,h1,this]
       · have h2:p.inc=q.inc:=by omega
         rw[zh3,s0];simp only[a1,a2,bV];rw[zh3,s1];simp only[b1,b2,bV];rw[zh3,s2]
         by_cases c1:p.num<q.num
         .simp[c1,h1,h2]
         · by_cases c2:q.num<p.num
           .simp[c1,c2,h1,h2]
           .simp only[c1,c2,bV];rw[zh3,s3];simp[h1,h2,zag4]
def zaK6(j1:Unit):Option Bool:=
 some true
def zH3(a0:ByteArray)(g1:Int):Option (Int⊕(Unit⊕Bool)):=
 (if(decide (g1<(a0.size:Int)))=true then
  gd (0<=g1/\g1<(a0.size:Int))<|
  (if(!(zD8 ((a0.toList.getD g1.toNat 0).toNat:Int)))=true then
   some (.inr (.inr false))
  else
   some (.inl (i64.wrap (g1+1))))
 else
  some (.inr (.inl ())))
def zg2(a0:ByteArray):Option Bool:=
 gd ((!(decide ((a0.size:Int)<1)||decide (12<(a0.size:Int))))=true->0<=0/\0<(a0.size:Int))<|
 (if(((decide ((a0.size:Int)<1)||decide (12<(a0.size:Int)))||(!(zO0 ((a0.toList.getD 0 0).toNat:Int))))||zH2 a0)=true then
  some false
 else
  (zc1 (zH3 a0) 0).bind (λ|.inl z=>zaK6 z|.inr z=>some z))
@[reducible,instance] def zeq8 a0:=mkJ (zg2 a0) 0 (@zaK6.eq_1) λ(j1:Unit)=>⟨[],[],0⟩
@[reducible,instance] def zeq9 (a0:ByteArray) {T:Type} (x:T):=mkL x (@zH3.eq_1 a0) λ(g1:Int)=>⟨[(0,.str a0),(3,.int .i64 g1)],[],0⟩
instance zaQ3(a0:ByteArray):OkP (zg2 a0) 128 [.str a0] (λ r=>.bool r):=ok1 (zg2.eq_1 a0) Tryz.f128 []
attribute [local irreducible] zg2
def zz6(a0:aM):Bool:=
 (((((zl9 a0.aI&&zu4 a0.aJ)&&decide (0<=a0.aX))&&decide (a0.aX<=7))&&decide (0<=a0.bG))&&decide (a0.bG<=3))
instance zcT9(a0:aM):OkT 227 [.agg (aM.enc a0)] (.bool (zz6 a0)):=ok2 (λ r=>.bool r) (zz6.eq_1 a0) Tryz.f227 []
def zaQ4(a1:aF)(a2:aC)(j1:Bool×(List aT)):Option (List aT):=
 (if(!j1.1)=true then
  gd (j1.2.length+1<=4294967296)<|
  some (j1.2++[(⟨a1,a2⟩:aT)])
 else
  some j1.2)
def zan2(a0:List aT)(a1:aF)(a2:aC)(g1:Bool×Int×(List aT)):Option ((Bool×Int×(List aT))⊕(Bool×(List aT))):=
 (if(decide (g1.2.1<(a0.length:Int)))=true then
  gd (0<=g1.2.1/\g1.2.1<(a0.length:Int))<|
  (if(decide ((a0.getD g1.2.1.toNat aT.zero).aI=a1))=true then
   some (.inl (g1.1,i64.wrap (g1.2.1+1),g1.2.2))
  else
   gd ((!g1.1)=true->0<=g1.2.1/\g1.2.1<(a0.length:Int))<|
   (if((!g1.1)&&decide (0<zt7 ((a0.getD g1.2.1.toNat aT.zero).aI) a1))=true then
    gd (g1.2.2.length+1<=4294967296)<|
    gd (0<=g1.2.1/\g1.2.1<(a0.length:Int))<|
    gd (g1.2.2.length+1+1<=4294967296)<|
    some (.inl (true,i64.wrap (g1.2.1+1),((g1.2.2++[(⟨a1,a2⟩:aT)])++[(a0.getD g1.2.1.toNat aT.zero)])))
   else
    gd (0<=g1.2.1/\g1.2.1<(a0.length:Int))<|
    gd (g1.2.2.length+1<=4294967296)<|
    some (.inl (g1.1,i64.wrap (g1.2.1+1),(g1.2.2++[(a0.getD g1.2.1.toNat aT.zero)])))))
 else
  some (.inr (g1.1,g1.2.2)))
def zr1(a0:List aT)(a1:aF)(a2:aC):Option (List aT):=
 (zc1 (zan2 a0 a1 a2) ((zh5 a2),0,[])).bind (λ z=>zaQ4 a1 a2 z)
@[reducible,instance] def zer0 a0 (a1:aF) (a2:aC):=mkJ (zr1 a0 a1 a2) 0 (@zaQ4.eq_1 a1 a2) λ(j1:Bool×(List aT))=>⟨[(4,.ptr 0 0 0),(5,.ptr 1 0 0),(7,.own 2 0 j1.2.length),(8,.bool j1.1)],[(0,bx a1),(1,bx a2),(2,sx j1.2)],3⟩
@[reducible,instance] def zer1 (a0:List aT) (a1:aF) (a2:aC) {T:Type} (x:T):=mkL x (@zan2.eq_1 a0 a1 a2) λ(g1:Bool×Int×(List aT))=>⟨[(0,la a0),(4,.ptr 0 0 0),(5,.ptr 1 0 0),(7,.own 2 0 g1.2.2.length),(8,.bool g1.1),(9,.int .i64 g1.2.1)],[(0,bx a1),(1,bx a2),(2,sx g1.2.2)],3⟩
instance zdM9(a0:List aT)(a1:aF)(a2:aC):OkP (zr1 a0 a1 a2) 171 [la a0,ga a1,ga a2] (λ r=>la r):=ok1 (zr1.eq_1 a0 a1 a2) Tryz.f171 [(7,1)]
attribute [local irreducible] zr1
def zbm8(j1:Unit):Option Int:=
 some 0
def zaB0(a0 a1 g1:Int):Option (Int⊕(Unit⊕Int)):=
 (if(decide (g1<=5))=true then
  (if(zV0 g1 a0&&zV0 g1 a1)=true then
   some (.inr (.inr g1))
  else
   some (.inl (i64.wrap (g1+1))))
 else
  some (.inr (.inl ())))
def zt3(a0 a1:Int):Option Int:=
 (zc1 (zaB0 a0 a1) 1).bind (λ|.inl z=>zbm8 z|.inr z=>some z)
@[reducible,instance] def zer2 a0 a1:=mkJ (zt3 a0 a1) 0 (@zbm8.eq_1) λ(j1:Unit)=>⟨[],[],0⟩
@[reducible,instance] def zer3 (a0 a1:Int) {T:Type} (x:T):=mkL x (@zaB0.eq_1 a0 a1) λ(g1:Int)=>⟨[(0,.int .i64 a0),(1,.int .i64 a1),(5,.int .i64 g1)],[],0⟩
instance zdN0(a0 a1:Int):OkP (zt3 a0 a1) 223 [.int .i64 a0,.int .i64 a1] (λ r=>.int .i64 r):=ok1 (zt3.eq_1 a0 a1) Tryz.f223 []
attribute [local irreducible] zt3
def zp4(a0:aD)(a1:Int):Option aC:=
 (if(decide (a0.kind=1))=true then
  (zq4 a1).bind λ v1=>
  some ({aC.zero with mode:=v1})
 else
  (zp8 a1 a0.aV).bind λ v2=>
  some ({aC.zero with aV:=(i64.wrap (1+v2))}))
instance zdx8(a0:aD)(a1:Int):OkP (zp4 a0 a1) 67 [ga a0,.int .i64 a1] (λ r=>ga r):=ok1 (zp4.eq_1 a0 a1) Tryz.f67 []
attribute [local irreducible] zp4
def zc0(a0:aD)(a1:aC):Bool:=
 (zh1 a0&&(zk5 a1||zb4 a0 a1))
instance zbu9(a0:aD)(a1:aC):OkT 255 [.agg (aD.enc a0),.agg (aC.enc a1)] (.bool (zc0 a0 a1)):=ok2 (λ r=>.bool r) (zc0.eq_1 a0 a1) Tryz.f255 []
def zf3(a0:aO):Option Bool:=
 (zc5 a0.name).bind λ v1=>
 some (v1&&(zb4 ({aD.zero with kind:=1,aV:=1}) a0.aJ||zb4 ({aD.zero with kind:=2,aV:=8}) a0.aJ))
instance zbm9(a0:aO):OkP (zf3 a0) 284 [ga a0] (λ r=>.bool r):=⟨λ r h=>by
 refine zW4 Tryz.f284 [] λ E hG hN hK=>?_;have hm:Mk (zf3 a0):=trivial;unfold zf3 at h;exact gogo⟩
attribute [local irreducible] zf3
def zaQ5(j1:(List Int)):Option (List Int):=
 some j1
def zy4(a1:aF)(g1:(List Int)×Int):Option (((List Int)×Int)⊕(List Int)):=
 (if(decide (g1.2<3))=true then
  gd (0<=g1.2/\g1.2<3)<|
  (zd5 g1.1 (u64.wrap (Arr.get (⟨[a1.site,a1.inc,a1.num],rfl⟩:Arr Int 3) g1.2.toNat 0))).bind λ v1=>
  some (.inl (v1,i64.wrap (g1.2+1)))
 else
  some (.inr g1.1))
def zj2(a0:List Int)(a1:aF):Option (List Int):=
 gd (a0.length<=4294967296)<|
 (if(!(za3 a1))=true then
  some a0
 else
  (zc1 (zy4 a1) (a0,0)).bind (λ z=>zaQ5 z))
@[reducible,instance] def zer4 (a0:List Int) (a1:aF):=mkJ (zj2 a0 a1) 0 (@zaQ5.eq_1) λ(j1:(List Int))=>⟨[(5,.sl (j1.map (eI .u8)))],[],0⟩
@[reducible,instance] def zer5 (a1:aF) {T:Type} (x:T):=mkL x (@zy4.eq_1 a1) λ(g1:(List Int)×Int)=>⟨[(5,.sl (g1.1.map (eI .u8))),(20,.agg (Arr.enc (eI .i64) (⟨[a1.site,a1.inc,a1.num],rfl⟩:Arr Int 3))),(21,.int .i64 g1.2)],[],0⟩
instance zdj2(a0:List Int)(a1:aF):OkP (zj2 a0 a1) 197 [.sl (a0.map (eI .u8)),ga a1] (λ r=>.sl (r.map (eI .u8))):=⟨λ r h=>by
 refine zW4 Tryz.f197 [(27,1)] λ E hG hN hK=>?_;have hm:Mk (zj2 a0 a1):=trivial;unfold zj2 at h;refine za0 (za1 hG ?_);refine za0 ?_;obtain⟨hb2,h⟩:=zg4 h;refine za1 hG ?_;refine g_gh (.fz [1]) ?_;exact gogo⟩
attribute [local irreducible] zj2
def zk2(a0:List aF)(a1:aF):Option Bool:=
 (za7 a0 a1).bind λ v1=>
 some v1
instance zaZ9(a0:List aF)(a1:aF):OkP (zk2 a0 a1) 101 [la a0,ga a1] (λ r=>.bool r):=⟨λ r h=>by
 refine zW4 Tryz.f101 [] λ E hG hN hK=>?_;have hm:Mk (zk2 a0 a1):=trivial;unfold zk2 at h;exact gogo⟩
attribute [local irreducible] zk2
def zr2(a0:aA)(a1:aF):Option Bool:=
 (zi6 a0 a1).bind λ v1=>
 ((if(!v1.2)=true then zk7 a0 a1 else some aC.zero)).bind λ v2=>
 some (v1.2||(!(zh5 v2)))
instance zdN1(a0:aA)(a1:aF):OkP (zr2 a0 a1) 48 [ga a0,ga a1] (λ r=>.bool r):=ok1 (zr2.eq_1 a0 a1) Tryz.f48 []
attribute [local irreducible] zr2
def zaM0(j1:Unit):Option Bool:=
 some true
def zX0(a0 a1:List aA)(g1:Int):Option (Int⊕(Unit⊕Bool)):=
 (if(decide (g1<(a0.length:Int)))=true then
  gd (0<=g1/\g1<(a0.length:Int))<|
  gd (0<=g1/\g1<(a1.length:Int))<|
  (zo7 (a0.getD g1.toNat aA.zero) (a1.getD g1.toNat aA.zero)).bind λ v1=>
  (if(!v1)=true then
   some (.inr (.inr false))
  else
   some (.inl (i64.wrap (g1+1))))
 else
  some (.inr (.inl ())))
def zq0(a0 a1:List aA):Option Bool:=
 (if(!decide ((a0.length:Int)=(a1.length:Int)))=true then
  some false
 else
  (zc1 (zX0 a0 a1) 0).bind (λ|.inl z=>zaM0 z|.inr z=>some z))
@[reducible,instance] def zer6 a0 a1:=mkJ (zq0 a0 a1) 0 (@zaM0.eq_1) λ(j1:Unit)=>⟨[],[],0⟩
@[reducible,instance] def zer7 (a0 a1:List aA) {T:Type} (x:T):=mkL x (@zX0.eq_1 a0 a1) λ(g1:Int)=>⟨[(0,la a0),(1,la a1),(5,.int .i64 g1)],[],0⟩
instance zdH8(a0 a1:List aA):OkP (zq0 a0 a1) 39 [la a0,la a1] (λ r=>.bool r):=ok1 (zq0.eq_1 a0 a1) Tryz.f39 []
attribute [local irreducible] zq0
def zaB1(j1:(List aF)):Option (List aF):=
 some j1
def zaB2(g1:Int×(List aF))(j2:(List aF)):Option ((Int×(List aF))⊕(List aF)):=
 some (.inl ((i64.wrap (g1.1+1)),j2))
def zaB3(g2:Int×(List aF)):Option ((Int×(List aF))⊕(List aF)):=
 gd (decide (0<g2.1)=true->0<=i64.wrap (g2.1-1)/\i64.wrap (g2.1-1)<((g2.2.length:Nat):Int))<|
 gd (decide (0<g2.1)=true->0<=g2.1/\g2.1<((g2.2.length:Nat):Int))<|
 (if(decide (0<g2.1)&&decide (0<zt7 (g2.2.getD ((i64.wrap (g2.1-1)).toNat) aF.zero) (g2.2.getD g2.1.toNat aF.zero)))=true then
  gd (0<=i64.wrap (g2.1-1)/\i64.wrap (g2.1-1)<((g2.2.length:Nat):Int))<|
  gd (0<=g2.1/\g2.1<((g2.2.length:Nat):Int))<|
  gd (0<=i64.wrap (g2.1-1)/\i64.wrap (g2.1-1)<((g2.2.length:Nat):Int))<|
  gd (0<=g2.1/\g2.1<((g2.2.length:Nat):Int))<|
  some (.inl ((i64.wrap (g2.1-1)),(g2.2.set ((i64.wrap (g2.1-1)).toNat) (g2.2.getD g2.1.toNat aF.zero)).set g2.1.toNat (g2.2.getD ((i64.wrap (g2.1-1)).toNat) aF.zero)))
 else
  some (.inr g2.2))
def zS1(a0:List aF)(g1:Int×(List aF)):Option ((Int×(List aF))⊕(List aF)):=
 (if(decide (g1.1<(a0.length:Int)))=true then
  gd (0<=g1.1/\g1.1<(a0.length:Int))<|
  (ze4 g1.2 (a0.getD g1.1.toNat aF.zero)).bind λ v1=>
  (if v1=true then
   some (.inl ((i64.wrap (g1.1+1)),g1.2))
  else
   gd (0<=g1.1/\g1.1<(a0.length:Int))<|
   gd (g1.2.length+1<=4294967296)<|
   (zc1 zaB3 (((g1.2.length:Nat):Int),(g1.2++[(a0.getD g1.1.toNat aF.zero)]))).bind (λ z=>zaB2 g1 z))
 else
  some (.inr g1.2))
def zg7(a0:List aF):Option (List aF):=
 (zc1 (zS1 a0) (0,[])).bind (λ z=>zaB1 z)
@[reducible,instance] def zer8 a0:=mkJ (zg7 a0) 0 (@zaB1.eq_1) λ(j1:(List aF))=>⟨[(3,.own 0 0 j1.length)],[(0,sx j1)],1⟩
@[reducible,instance] def zer9 (a0:List aF) (g1:Int×(List aF)) {T1:Type} (v1:T1):=mkJ (zS1 a0 g1,v1) 2 (@zaB2.eq_1 g1) λ(j2:(List aF))=>⟨[(0,la a0),(3,.own 0 0 j2.length),(4,.int .i64 g1.1)],[(0,sx j2)],1⟩
@[reducible,instance] def zes0 (a0:List aF) (g1:Int×(List aF)) {T1:Type} (v1:T1):=mkL (zS1 a0 g1,v1) (@zaB3.eq_1) λ(g2:Int×(List aF))=>⟨[(0,la a0),(3,.own 0 0 g2.2.length),(4,.int .i64 g1.1),(5,.int .i64 g2.1)],[(0,sx g2.2)],1⟩
@[reducible,instance] def zes1 (a0:List aF) {T:Type} (x:T):=mkL x (@zS1.eq_1 a0) λ(g1:Int×(List aF))=>⟨[(0,la a0),(3,.own 0 0 g1.2.length),(4,.int .i64 g1.1)],[(0,sx g1.2)],1⟩
instance zcC8(a0:List aF):OkM (zg7 a0) 68 [la a0] [] 0 (λ r=>.own 0 0 r.length) (λ r=>[(0,sx r)]) 1:=okm (zg7.eq_1 a0) (λ r=>[.own 0 0 r.length]) Tryz.f68 [(2,1),(3,1)]
attribute [local irreducible] zg7
def zt1:List ByteArray:=[(⟨#[97]⟩:ByteArray),(⟨#[98]⟩:ByteArray),(⟨#[99]⟩:ByteArray),(⟨#[100]⟩:ByteArray)]
def zat7(j1:bJ×(List aD)):Option (bJ×(List aD)):=
 (zb7 8 j1.1).bind λ v1=>
 (zb7 4 v1.2).bind λ v2=>
 gd (j1.2.length+1<=4294967296)<|
 (zb7 3 v2.2).bind λ v3=>
 (zb7 4 v3.2).bind λ v4=>
 gd (j1.2.length+1+1<=4294967296)<|
 some (v4.2,((j1.2++[(⟨(⟨#[112]⟩:ByteArray),2,i64.wrap (1+v1.1),v2.1⟩:aD)])++[(⟨(⟨#[113]⟩:ByteArray),2,i64.wrap (1+v3.1),v4.1⟩:aD)]))
def zJ9(g1:Int×bJ×(List aD)):Option ((Int×bJ×(List aD))⊕(bJ×(List aD))):=
 (if(decide (g1.1<(zt1.length:Int)))=true then
  gd (0<=g1.1/\g1.1<(zt1.length:Int))<|
  (zb7 4 g1.2.1).bind λ v5=>
  gd (g1.2.2.length+1<=4294967296)<|
  some (.inl ((i64.wrap (g1.1+1)),v5.2,(g1.2.2++[(⟨(zt1.getD g1.1.toNat ⟨#[]⟩),1,1,v5.1⟩:aD)])))
 else
  some (.inr (g1.2.1,g1.2.2)))
def zj7(a0:bJ):Option (bJ×(List aD)):=
 (zc1 zJ9 (0,a0,[])).bind (λ z=>zat7 z)
@[reducible,instance] def zes2 (a0:bJ):=mkJ (zj7 a0) 0 (@zat7.eq_1) λ(j1:bJ×(List aD))=>⟨[(0,.ptr 0 0 0),(3,.own 1 0 j1.2.length)],[(0,bx j1.1),(1,sx j1.2)],2⟩
@[reducible,instance] def zes3 {T:Type} (x:T):=mkL x (@zJ9.eq_1) λ(g1:Int×bJ×(List aD))=>⟨[(0,.ptr 0 0 0),(3,.own 1 0 g1.2.2.length),(4,.full (zt1.map eS)),(5,.int .i64 g1.1)],[(0,bx g1.2.1),(1,sx g1.2.2)],2⟩
instance zbz8(a0:bJ):OkM (zj7 a0) 65 [.ptr 0 0 0] [(0,bx a0)] 1 (λ r=>.own 1 0 r.2.length) (λ r=>[(0,bx r.1),(1,sx r.2)]) 2:=⟨λ r h=>by
 refine zU4 Tryz.f65 [(2,1),(3,1)] [.own 1 0 r.2.length] λ E hG hN hK=>?_;have hm:Mk (zj7 a0):=trivial;unfold zj7 at h;refine za0 (za1 hG ?_);refine za0 (za1 hG ?_);refine za0 (za1 hG ?_);refine g_gh (.cast 4 (.full (zt1.map eS))) ?_;exact gogo⟩
attribute [local irreducible] zj7
def zi4(a0:aM):Bool:=
 (((((za3 a0.aI&&(zb4 ({aD.zero with kind:=1,aV:=1}) a0.aJ||zb4 ({aD.zero with kind:=2,aV:=8}) a0.aJ))&&decide (0<=a0.aX))&&decide (a0.aX<=7))&&decide (0<=a0.bG))&&decide (a0.bG<=3))
theorem zbF5(a0:aM):PFn C 261 [ga a0] (.bool (zi4 a0)):=by generalize h:zi4 a0=r;refine zW4 Tryz.f261 [] λ E hG hN hK=>?_;have hm:Mk (zi4 a0):=trivial;unfold zi4 at h;exact gogo
instance zcU0(a0:aM):OkT 261 [.agg (aM.enc a0)] (.bool (zi4 a0)):=⟨zbF5 a0⟩
def zh8(a0 a1:bF):Option Int:=
 (zc4 a0.aI a1.aI).bind λ v1=>
 (if(!decide (v1=0))=true then
  some v1
 else
  some (zO1 a0.name a1.name))
instance zcQ7(a0 a1:bF):OkP (zh8 a0 a1) 42 [ga a0,ga a1] (λ r=>.int .i64 r):=ok1 (zh8.eq_1 a0 a1) Tryz.f42 []
attribute [local irreducible] zh8
def zaK7(j1:(List Int)):Option (List Int):=
 some j1
def zw2(a1:aF)(g1:Int×(List Int)):Option ((Int×(List Int))⊕(List Int)):=
 (if(decide (g1.1<3))=true then
  gd (0<=g1.1/\g1.1<3)<|
  (zb2 g1.2 (u64.wrap (Arr.get (⟨[a1.site,a1.inc,a1.num],rfl⟩:Arr Int 3) g1.1.toNat 0))).bind λ v1=>
  some (.inl ((i64.wrap (g1.1+1)),v1))
 else
  some (.inr g1.2))
def zi2(a0:List Int)(a1:aF):Option (List Int):=
 gd (a0.length<=4294967296)<|
 (if(!(za3 a1))=true then
  some a0
 else
  (zc1 (zw2 a1) (0,a0)).bind (λ z=>zaK7 z))
@[reducible,instance] def zes4 a0 a1:=mkJ (zi2 a0 a1) 0 (@zaK7.eq_1) λ(j1:(List Int))=>⟨[(5,.own 0 0 j1.length)],[(0,⟨false,1,[A.int .u8 0],j1.map (eI .u8)⟩)],1⟩
@[reducible,instance] def zes5 (a1:aF) {T:Type} (x:T):=mkL x (@zw2.eq_1 a1) λ(g1:Int×(List Int))=>⟨[(5,.own 0 0 g1.2.length),(20,.agg (Arr.enc (eI .i64) (⟨[a1.site,a1.inc,a1.num],rfl⟩:Arr Int 3))),(21,.int .i64 g1.1)],[(0,⟨false,1,[A.int .u8 0],g1.2.map (eI .u8)⟩)],1⟩
instance zbv0(a0:List Int)(a1:aF):OkM (zi2 a0 a1) 197 [.sl (a0.map (eI .u8)),ga a1] [] 0 (λ r=>.own 0 0 r.length) (λ r=>[(0,⟨false,1,[A.int .u8 0],r.map (eI .u8)⟩)]) 1:=okm (zi2.eq_1 a0 a1) (λ r=>[.own 0 0 r.length]) Tryz.f197 [(4,1)]
attribute [local irreducible] zi2
def zaB4(j1:(List Int)):Option (List Int):=
 some j1
def zJ2(a90:(List Int->aZ->Option (List Int)))(a1:aZ)(g1:(List Int)×Int):Option (((List Int)×Int)⊕(List Int)):=
 (if(decide (g1.2<(a1.bE.length:Int)))=true then
  gd (0<=g1.2/\g1.2<(a1.bE.length:Int))<|
  (a90 g1.1 (a1.bE.getD g1.2.toNat aZ.zero)).bind λ v5=>
  some (.inl (v5,i64.wrap (g1.2+1)))
 else
  some (.inr g1.1))
def zF8(a90:(List Int->aZ->Option (List Int)))(a0:List Int)(a1:aZ):Option (List Int):=
 (zb6 a0 [a1.k]).bind λ v1=>
 (if(decide (a1.k=0))=true then
  (zj1 v1 a1.aW.name).bind λ v2=>
  (zb6 v2 [a1.aW.aJ.mode,a1.aW.aJ.aV]).bind λ v3=>
  some v3
 else
  (zb6 v1 [(a1.bE.length:Int)]).bind λ v4=>
  (zc1 (zJ2 a90 a1) (v4,0)).bind (λ z=>zaB4 z))
def zH4:Nat->(List Int->aZ->Option (List Int))
 |0=>λ _ _=>none
 |n+1=>zF8 (zH4 n)
def zj3(a0:List Int)(a1:aZ):Option (List Int):=zH4 (_root_.SizeOf.sizeOf a1+1) a0 a1
@[reducible,instance] def zes6 (a90:(List Int->aZ->Option (List Int))) (a0:List Int) (a1:aZ) {T1:Type} (v1:T1) {T2:Type} (v4:T2):=mkJ ((zF8 a90 a0 a1,v1),v4) 0 (@zaB4.eq_1) λ(j1:(List Int))=>⟨[(0,.sl (j1.map (eI .u8)))],[],0⟩
@[reducible,instance] def zes7 (a90:(List Int->aZ->Option (List Int))) (a1:aZ) {T:Type} (x:T):=mkL x (@zJ2.eq_1 a90 a1) λ(g1:(List Int)×Int)=>⟨[(0,.sl (g1.1.map (eI .u8))),(37,la a1.bE),(38,.int .i64 (a1.bE.length:Int)),(39,.int .i64 g1.2)],[],0⟩
abbrev zac6(g:(List Int->aZ->Option (List Int))):Prop:=∀(a0:List Int) (a1:aZ),OkP (g a0 a1) 253 [.sl (a0.map (eI .u8)),.agg (aZ.enc a1)] (λ r=>.sl (r.map (eI .u8)))
theorem zbk4(a90:(List Int->aZ->Option (List Int)))(hrc:zac6 a90):zac6 (zF8 a90):=λ a0 a1=>ok1 (zF8.eq_1 a90 a0 a1) Tryz.f253 []
theorem zbk5:∀n,zac6 (zH4 n):=zbl7 (λ _ _=>⟨λ _ h=>nomatch h⟩) λ n=>zbk4 _
instance zcI0:zac6 zj3:=λ a0 a1=>zbk5 _ a0 a1
attribute [local irreducible] zj3
def zbx2(j1:Unit):Option Int:=
 some 0
def zaj2(a0 a1 g1:Int):Option (Int⊕(Unit⊕Int)):=
 (if(decide (g1<=5))=true then
  (zl4 g1 a0).bind λ v1=>
  ((if v1=true then zl4 g1 a1 else some false)).bind λ v2=>
  (if(v1&&v2)=true then
   some (.inr (.inr g1))
  else
   some (.inl (i64.wrap (g1+1))))
 else
  some (.inr (.inl ())))
def zu9(a0 a1:Int):Option Int:=
 (zc1 (zaj2 a0 a1) 1).bind (λ|.inl z=>zbx2 z|.inr z=>some z)
@[reducible,instance] def zes8 a0 a1:=mkJ (zu9 a0 a1) 0 (@zbx2.eq_1) λ(j1:Unit)=>⟨[],[],0⟩
@[reducible,instance] def zes9 (a0 a1:Int) {T:Type} (x:T):=mkL x (@zaj2.eq_1 a0 a1) λ(g1:Int)=>⟨[(0,.int .i64 a0),(1,.int .i64 a1),(5,.int .i64 g1)],[],0⟩
instance zdR5(a0 a1:Int):OkP (zu9 a0 a1) 259 [.int .i64 a0,.int .i64 a1] (λ r=>.int .i64 r):=ok1 (zu9.eq_1 a0 a1) Tryz.f259 []
attribute [local irreducible] zu9
def zv3(a0:aD)(a1:aC):Bool:=
 (zJ1 a0&&(zh5 a1||zy0 a0 a1))
instance zcU1(a0:aD)(a1:aC):OkT 73 [.agg (aD.enc a0),.agg (aC.enc a1)] (.bool (zv3 a0 a1)):=ok2 (λ r=>.bool r) (zv3.eq_1 a0 a1) Tryz.f73 []
def zaK8(j1:(List aF)):Option (List aF):=
 some j1
def zan3(g1:Int×(List aF))(j2:(List aF)):Option ((Int×(List aF))⊕(List aF)):=
 some (.inl ((i64.wrap (g1.1+1)),j2))
def zO3(g2:Int×(List aF)):Option ((Int×(List aF))⊕(List aF)):=
 gd (decide (0<g2.1)=true->0<=i64.wrap (g2.1-1)/\i64.wrap (g2.1-1)<((g2.2.length:Nat):Int))<|
 gd (decide (0<g2.1)=true->0<=g2.1/\g2.1<((g2.2.length:Nat):Int))<|
 (if(decide (0<g2.1)&&decide (0<zt7 (g2.2.getD ((i64.wrap (g2.1-1)).toNat) aF.zero) (g2.2.getD g2.1.toNat aF.zero)))=true then
  gd (0<=i64.wrap (g2.1-1)/\i64.wrap (g2.1-1)<((g2.2.length:Nat):Int))<|
  gd (0<=g2.1/\g2.1<((g2.2.length:Nat):Int))<|
  gd (0<=i64.wrap (g2.1-1)/\i64.wrap (g2.1-1)<((g2.2.length:Nat):Int))<|
  gd (0<=g2.1/\g2.1<((g2.2.length:Nat):Int))<|
  some (.inl ((i64.wrap (g2.1-1)),(g2.2.set ((i64.wrap (g2.1-1)).toNat) (g2.2.getD g2.1.toNat aF.zero)).set g2.1.toNat (g2.2.getD ((i64.wrap (g2.1-1)).toNat) aF.zero)))
 else
  some (.inr g2.2))
def zC7(a0:List aF)(g1:Int×(List aF)):Option ((Int×(List aF))⊕(List aF)):=
 (if(decide (g1.1<(a0.length:Int)))=true then
  gd (0<=g1.1/\g1.1<(a0.length:Int))<|
  (ze4 g1.2 (a0.getD g1.1.toNat aF.zero)).bind λ v1=>
  (if v1=true then
   some (.inl ((i64.wrap (g1.1+1)),g1.2))
  else
   gd (0<=g1.1/\g1.1<(a0.length:Int))<|
   gd (g1.2.length+1<=4294967296)<|
   (zc1 zO3 (((g1.2.length:Nat):Int),(g1.2++[(a0.getD g1.1.toNat aF.zero)]))).bind (λ z=>zan3 g1 z))
 else
  some (.inr g1.2))
def zh6(a0:List aF):Option (List aF):=
 (zc1 (zC7 a0) (0,[])).bind (λ z=>zaK8 z)
@[reducible,instance] def zet0 a0:=mkJ (zh6 a0) 0 (@zaK8.eq_1) λ(j1:(List aF))=>⟨[(3,.own 0 0 j1.length)],[(0,sx j1)],1⟩
@[reducible,instance] def zet1 (a0:List aF) (g1:Int×(List aF)) {T1:Type} (v1:T1):=mkJ (zC7 a0 g1,v1) 2 (@zan3.eq_1 g1) λ(j2:(List aF))=>⟨[(0,la a0),(3,.own 0 0 j2.length),(4,.int .i64 g1.1)],[(0,sx j2)],1⟩
@[reducible,instance] def zet2 (a0:List aF) (g1:Int×(List aF)) {T1:Type} (v1:T1):=mkL (zC7 a0 g1,v1) (@zO3.eq_1) λ(g2:Int×(List aF))=>⟨[(0,la a0),(3,.own 0 0 g2.2.length),(4,.int .i64 g1.1),(5,.int .i64 g2.1)],[(0,sx g2.2)],1⟩
@[reducible,instance] def zet3 (a0:List aF) {T:Type} (x:T):=mkL x (@zC7.eq_1 a0) λ(g1:Int×(List aF))=>⟨[(0,la a0),(3,.own 0 0 g1.2.length),(4,.int .i64 g1.1)],[(0,sx g1.2)],1⟩
instance zcU2(a0:List aF):OkP (zh6 a0) 68 [la a0] (λ r=>la r):=ok1 (zh6.eq_1 a0) Tryz.f68 [(3,1)]
attribute [local irreducible] zh6
def zm1(a0:List Int)(a1:aC):Option (List Int):=
 (zj5 a0 a1.mode).bind λ v1=>
 (zj5 v1 a1.aV).bind λ v2=>
 some v2
instance zdq4(a0:List Int)(a1:aC):OkP (zm1 a0 a1) 221 [.sl (a0.map (eI .u8)),ga a1] (λ r=>.sl (r.map (eI .u8))):=ok1 (zm1.eq_1 a0 a1) Tryz.f221 []
attribute [local irreducible] zm1
end
end Ab
end Go.Proofs.YtdlfhmkmnjbihaaGreatDoor
