import Derived.Test.YtdlfhmkmnjbihaaGreatDoorHm22
import Derived.Test.YtdlfhmkmnjbihaaGreatDoorHm17
import Derived.Test.YtdlfhmkmnjbihaaGreatDoorHm13
namespace Go.Proofs.YtdlfhmkmnjbihaaGreatDoor
namespace Ab
open IntKind (i64 u64 u8)
set_option linter.unusedSimpArgs false
set_option linter.defProp false
set_option linter.unusedVariables false
set_option maxRecDepth 100000
set_option maxHeartbeats 1000000
noncomputable section
attribute [local irreducible] zk2 zd1 za7 zd5 zd8 za4 zo7 ze9 zl8 zi1 zc1 zk8 zh8 zd4 zk5 za2 zf9 zc9 zf7 za3 zh5 zc5 zc7 zf6 zk9 zd9 zm9 zh3 zf0 zh1 zd7 za5 ze0 zc8 zd2 zl5 ze1 zo2 zb3 zj1 zj0 ze8 zp1 zi2 zk6 zh0 zc2 zb7 zb9 zj3 zg6 zi3 zf1 zi5 ze6 zg0 zm7 zl0 zf2 za9 za8 zf3 zg7 zb4 zp2 zm8 zc3 zj4 zj8 zf4 zn5 zh2 zg2 zg3 zl6 zj6 zg4 zn8 zg8 zh9 zi6 zn9 zc6 zg5 ze4 zf5 zo0 zn3 zl4 zu5 zq3 zn1 zi0 zp7 zq1 zo8 zn0 zo9 zp0 zi7 zj7 zs6 zc4 zi8 zi9 zh6 zh7 zk4 zs7 zr8 zp9 zr2 zr3 zr4 zr1 zb5 zn6 zn2 zk7 zt5
def zv8(a0:aA)(a1 a2:aC)(a3:aF):Option (ByteArray×Int×Int×Int×Int×aC×aC×aF×(List aO)×(List aM)×(List aM)):=
 (zs7 a0.aB a1 a2).bind λ v1=>
 gd (a0.aH.length+1<=4294967296)<|
 some (a0.aB.name,a0.aB.kind,a0.aB.aU,a0.aB.home,a0.gen,a1,a2,a3,a0.aL,a0.aT,(a0.aH++[{aM.zero with aI:=a3,aK:=v1}]))
instance zbh6(a0:aA)(a1 a2:aC)(a3:aF):OkM (zv8 a0 a1 a2 a3) 206 [.ptr 0 0 0,.ptr 1 0 0,.ptr 2 0 0,.ptr 3 0 0] [(0,⟨false,8,aA.enc aA.zero,[[.str a0.aB.name,.int .i64 a0.aB.kind,.int .i64 a0.aB.aU,.int .i64 a0.aB.home,.own 4 0 a0.aL.length,.own 5 0 a0.aH.length,.own 6 0 a0.aT.length,.int .i64 a0.gen]]⟩),(1,bx a1),(2,bx a2),(3,bx a3),(4,sx a0.aL),(5,sx a0.aH),(6,sx a0.aT)] 7 (λ r=>.tup []) (λ r=>[(0,⟨false,8,aA.enc aA.zero,[[.str r.1,.int .i64 r.2.1,.int .i64 r.2.2.1,.int .i64 r.2.2.2.1,.own 4 0 r.2.2.2.2.2.2.2.2.1.length,.own 7 0 r.2.2.2.2.2.2.2.2.2.2.length,.own 6 0 r.2.2.2.2.2.2.2.2.2.1.length,.int .i64 r.2.2.2.2.1]]⟩),(1,bx r.2.2.2.2.2.1),(2,bx r.2.2.2.2.2.2.1),(3,bx r.2.2.2.2.2.2.2.1),(4,sx r.2.2.2.2.2.2.2.2.1),(6,sx r.2.2.2.2.2.2.2.2.2.1),(7,sx r.2.2.2.2.2.2.2.2.2.2)]) 8:=okm (zv8.eq_1 a0 a1 a2 a3) (λ r=>[]) Tryz.f206 []
attribute [local irreducible] zv8
def zas0(j1:(List aF)×(List bA)):Option ((List bA)×(List aF)):=
 some (j1.2,j1.1)
def zH8(a0:List bA)(g1:Int×(List aF)×(List bA)):Option ((Int×(List aF)×(List bA))⊕((List aF)×(List bA))):=
 (if(decide (g1.1<(a0.length:Int)))=true then
  gd (0<=g1.1/\g1.1<(a0.length:Int))<|
  (zp9 (a0.getD g1.1.toNat bA.zero) g1.2.1).bind λ v1=>
  (if(!v1.1)=true then
   gd (g1.2.2.length+1<=4294967296)<|
   some (.inl ((i64.wrap (g1.1+1)),v1.2,(g1.2.2++[(a0.getD g1.1.toNat bA.zero)])))
  else
   some (.inl ((i64.wrap (g1.1+1)),v1.2,g1.2.2)))
 else
  some (.inr (g1.2.1,g1.2.2)))
def zq6(a0:List bA)(a1:List aF):Option ((List bA)×(List aF)):=
 (zc0 (zH8 a0) (0,a1,[])).bind (λ z=>zas0 z)
@[reducible,instance] def zdV2 (a0:List bA) (a1:List aF):=mkJ (zq6 a0 a1) 0 (@zas0.eq_1) λ(j1:(List aF)×(List bA))=>⟨[(5,.own 1 0 j1.2.length)],[(0,⟨false,1,[A.sl ([].map aF.enc)],[[A.sl (j1.1.map aF.enc)]]⟩),(1,sx j1.2)],2⟩
@[reducible,instance] def zdV3 (a0:List bA) {T:Type} (x:T):=mkL x (@zH8.eq_1 a0) λ(g1:Int×(List aF)×(List bA))=>⟨[(1,.clo 105 [.ptr 0 0 0]),(5,.own 1 0 g1.2.2.length),(8,la a0),(9,.int .i64 (a0.length:Int)),(10,.int .i64 g1.1)],[(0,⟨false,1,[A.sl ([].map aF.enc)],[[A.sl (g1.2.1.map aF.enc)]]⟩),(1,sx g1.2.2)],2⟩
instance zaZ8(a0:List bA)(a1:List aF):OkM (zq6 a0 a1) 102 [la a0,.clo 105 [.ptr 0 0 0]] [(0,⟨false,1,[A.sl ([].map aF.enc)],[[A.sl (a1.map aF.enc)]]⟩)] 1 (λ r=>la r.1) (λ r=>[(0,⟨false,1,[A.sl ([].map aF.enc)],[[A.sl (r.2.map aF.enc)]]⟩)]) 1:=⟨λ r h=>by
 refine zZ4 Tryz.f102 [(5,1),(16,1)] [la r.1] λ E hG hN hK=>?_;have hm:Mk (zq6 a0 a1):=trivial;unfold zq6 at h;refine za0 (za1 hG ?_);refine za0 (za1 hG ?_);refine za0 (za0 (za1 hG ?_));refine zaw7 hm h (λ j1 hm h=>?_) ?_
 · try refine g_st ?_
   refine za0 (za1 hG ?_);refine g_gh (.fz [1]) ?_;exact gogo
 exact gogo⟩
attribute [local irreducible] zq6
def zat0(a0:aD)(a1:List aO)(j1:Unit):Option Bool:=
 (ze9 a1).bind λ v1=>
 (zk7 a0 v1).bind λ v2=>
 some v2
def zW3(a0:aD)(a1:List aO)(g1:Int):Option (Int⊕(Unit⊕Bool)):=
 (if(decide (g1<(a1.length:Int)))=true then
  gd (0<=g1/\g1<(a1.length:Int))<|
  gd (zn4 ((a1.getD g1.toNat aO.zero).aI)=true->0<=g1/\g1<(a1.length:Int))<|
  gd (((!((!(zn4 ((a1.getD g1.toNat aO.zero).aI)))||(!(zu3 a0 ((a1.getD g1.toNat aO.zero).aK)))))&&decide (0<g1))=true->0<=i64.wrap (g1-1)/\i64.wrap (g1-1)<(a1.length:Int))<|
  gd (((!((!(zn4 ((a1.getD g1.toNat aO.zero).aI)))||(!(zu3 a0 ((a1.getD g1.toNat aO.zero).aK)))))&&decide (0<g1))=true->0<=g1/\g1<(a1.length:Int))<|
  (if(((!(zn4 ((a1.getD g1.toNat aO.zero).aI)))||(!(zu3 a0 ((a1.getD g1.toNat aO.zero).aK))))||(decide (0<g1)&&decide (0<=zq8 ((a1.getD ((i64.wrap (g1-1)).toNat) aO.zero).aI) ((a1.getD g1.toNat aO.zero).aI))))=true then
   some (.inr (.inr false))
  else
   some (.inl (i64.wrap (g1+1))))
 else
  some (.inr (.inl ())))
def zv9(a0:aD)(a1:List aO):Option Bool:=
 (if((!(zE9 a0))||decide (8<(a1.length:Int)))=true then
  some false
 else
  (zc0 (zW3 a0 a1) 0).bind (λ|.inl z=>zat0 a0 a1 z|.inr z=>some z))
@[reducible,instance] def zdV4 (a0:aD) (a1:List aO):=mkJ (zv9 a0 a1) 0 (@zat0.eq_1 a0 a1) λ(j1:Unit)=>⟨[(1,la a1),(2,.ptr 0 0 0)],[(0,bx a0)],1⟩
@[reducible,instance] def zdV5 (a0:aD) (a1:List aO) {T:Type} (x:T):=mkL x (@zW3.eq_1 a0 a1) λ(g1:Int)=>⟨[(1,la a1),(2,.ptr 0 0 0),(5,.int .i64 g1)],[(0,bx a0)],1⟩
instance zdc2(a0:aD)(a1:List aO):OkP (zv9 a0 a1) 245 [ga a0,la a1] (λ r=>.bool r):=ok1 (zv9.eq_1 a0 a1) Tryz.f245 []
attribute [local irreducible] zv9
def zat1(j1:(List aF)):Option (List aF):=
 (zh6 j1).bind λ v1=>
 some v1
def zW4(a0:List aA)(g1:Int×(List aF)):Option ((Int×(List aF))⊕(List aF)):=
 (if(decide (g1.1<(a0.length:Int)))=true then
  gd (0<=g1.1/\g1.1<(a0.length:Int))<|
  (zr3 (a0.getD g1.1.toNat aA.zero)).bind λ v2=>
  gd (g1.2.length+v2.length<=4294967296)<|
  some (.inl ((i64.wrap (g1.1+1)),(g1.2++v2)))
 else
  some (.inr g1.2))
def zt7(a0:List aA):Option (List aF):=
 (zc0 (zW4 a0) (0,[])).bind (λ z=>zat1 z)
@[reducible,instance] def zdV6 a0:=mkJ (zt7 a0) 0 (@zat1.eq_1) λ(j1:(List aF))=>⟨[(3,.own 0 0 j1.length)],[(0,sx j1)],1⟩
@[reducible,instance] def zdV7 (a0:List aA) {T:Type} (x:T):=mkL x (@zW4.eq_1 a0) λ(g1:Int×(List aF))=>⟨[(0,la a0),(3,.own 0 0 g1.2.length),(4,.int .i64 g1.1)],[(0,sx g1.2)],1⟩
instance zdc3(a0:List aA):OkP (zt7 a0) 28 [la a0] (λ r=>la r):=ok1 (zt7.eq_1 a0) Tryz.f28 [(3,1)]
attribute [local irreducible] zt7
attribute [local irreducible] zo4 zo5 zn7 zi4 zt4 zj9 zq9 zy9 zt6 zq0 zq4 zp8 zv3 zs8
def zaj4(j1:Unit):Option Bool:=
 some true
def zx1(a0:aA)(g1:Int):Option (Int⊕(Unit⊕Bool)):=
 (if(decide (g1<(a0.aH.length:Int)))=true then
  gd (0<=g1/\g1<(a0.aH.length:Int))<|
  (zj4 a0 ((a0.aH.getD g1.toNat aM.zero).aI)).bind λ v1=>
  (zk2 a0.aH ((a0.aH.getD g1.toNat aM.zero).aI)).bind λ v2=>
  (if((!decide (v2=g1))||zf8 v1)=true then
   some (.inr (.inr false))
  else
   ((if(zb0 a0.aB ((a0.aH.getD g1.toNat aM.zero).aK))=true then zo5 a0.aB ((a0.aH.getD g1.toNat aM.zero).aK) v1 else some false)).bind λ v3=>
   (if(((!(zb0 a0.aB ((a0.aH.getD g1.toNat aM.zero).aK)))||(!v3))||decide ((a0.aH.getD g1.toNat aM.zero).aK=v1))=true then
    some (.inr (.inr false))
   else
    (if((!decide ((a0.aH.getD g1.toNat aM.zero).aV=0))||(!decide ((a0.aH.getD g1.toNat aM.zero).bE=0)))=true then
     some (.inr (.inr false))
    else
     some (.inl (i64.wrap (g1+1))))))
 else
  some (.inr (.inl ())))
def zo1(a0:aA):Option Bool:=
 (if(decide (8<(a0.aH.length:Int)))=true then
  some false
 else
  (zc0 (zx1 a0) 0).bind (λ|.inl z=>zaj4 z|.inr z=>some z))
@[reducible,instance] def zee0 a0:=mkJ (zo1 a0) 0 (@zaj4.eq_1) λ(j1:Unit)=>⟨[],[],0⟩
@[reducible,instance] def zee1 (a0:aA) {T:Type} (x:T):=mkL x (@zx1.eq_1 a0) λ(g1:Int)=>⟨[(1,.ptr 0 0 0),(11,la a0.aH),(12,.int .i64 (a0.aH.length:Int)),(13,.int .i64 g1)],[(0,bx a0)],1⟩
instance zci3(a0:aA):OkP (zo1 a0) 231 [ga a0] (λ r=>.bool r):=ok1 (zo1.eq_1 a0) Tryz.f231 []
attribute [local irreducible] zo1
def zx2(a0 a1:aJ):Option Bool:=
 ((if((((((((((decide (a0.kind=a1.kind)&&decide (a0.aI=a1.aI))&&decide (a0.gen=a1.gen))&&decide (a0.aY=a1.aY))&&decide (a0.aV=a1.aV))&&decide (a0.inc=a1.inc))&&decide (a0.round=a1.round))&&decide (a0.epoch=a1.epoch))&&decide (a0.site=a1.site))&&decide (a0.label=a1.label))&&decide (a0.done=a1.done))=true then zv3 a0.state a1.state else some false)).bind λ v1=>
 ((if(((((((((((decide (a0.kind=a1.kind)&&decide (a0.aI=a1.aI))&&decide (a0.gen=a1.gen))&&decide (a0.aY=a1.aY))&&decide (a0.aV=a1.aV))&&decide (a0.inc=a1.inc))&&decide (a0.round=a1.round))&&decide (a0.epoch=a1.epoch))&&decide (a0.site=a1.site))&&decide (a0.label=a1.label))&&decide (a0.done=a1.done))&&v1)=true then zh2 a0.options a1.options else some false)).bind λ v2=>
 some ((((((((((((decide (a0.kind=a1.kind)&&decide (a0.aI=a1.aI))&&decide (a0.gen=a1.gen))&&decide (a0.aY=a1.aY))&&decide (a0.aV=a1.aV))&&decide (a0.inc=a1.inc))&&decide (a0.round=a1.round))&&decide (a0.epoch=a1.epoch))&&decide (a0.site=a1.site))&&decide (a0.label=a1.label))&&decide (a0.done=a1.done))&&v1)&&v2)
instance zdc4(a0 a1:aJ):OkP (zx2 a0 a1) 64 [ga a0,ga a1] (λ r=>.bool r):=ok1 (zx2.eq_1 a0 a1) Tryz.f64 []
attribute [local irreducible] zx2
def zC6(a0:aD)(a1 a2:aC):Option aC:=
 (if((!(zr6 a0 a1))||(!(zr6 a0 a2)))=true then
  some ({aC.zero with})
 else
  (if(zk3 a0 a1 a2)=true then
   some a1
  else
   (if(zk3 a0 a2 a1)=true then
    some a2
   else
    (zs6 a1.mode a2.mode).bind λ v1=>
    some ({aC.zero with mode:=v1}))))
instance zbX3(a0:aD)(a1 a2:aC):OkP (zC6 a0 a1 a2) 167 [ga a0,ga a1,ga a2] (λ r=>ga r):=ok1 (zC6.eq_1 a0 a1 a2) Tryz.f167 []
attribute [local irreducible] zC6
def zap6(j1:Int)(j2:(List aM)):Option ((List aM)×Int×Int):=
 some (j2,j1,0)
def zT3(a0:List aM)(g1:Int×(List aM)):Option ((Int×(List aM))⊕(List aM)):=
 (if(decide (g1.1<(a0.length:Int)))=true then
  gd (0<=g1.1/\g1.1<(a0.length:Int))<|
  gd (g1.2.length+1<=4294967296)<|
  some (.inl ((i64.wrap (g1.1+1)),(g1.2++[{(a0.getD g1.1.toNat aM.zero)with bE:=(i64.wrap ((a0.getD g1.1.toNat aM.zero).bE+1))}])))
 else
  some (.inr g1.2))
def zT4(a0:List aM)(a1:aM)(j1:Int):Option ((List aM)×Int×Int):=
 gd (0<=0/\0<=j1/\j1<=(a0.length:Int))<|
 gd ((a0.take j1.toNat).length<=4294967296)<|
 gd ((a0.take j1.toNat).length+1<=4294967296)<|
 (zc0 (zT3 a0) (j1,(a0.take j1.toNat++[a1]))).bind (λ z=>zap6 j1 z)
def zab8(a0:List aM)(a1:aM)(g2:Int):Option (Int⊕Int):=
 gd (decide (0<g2)=true->0<=i64.wrap (g2-1)/\i64.wrap (g2-1)<(a0.length:Int))<|
 gd ((decide (0<g2)&&decide ((a0.getD ((i64.wrap (g2-1)).toNat) aM.zero).aV<a1.aV))=true->0<=i64.wrap (g2-1)/\i64.wrap (g2-1)<(a0.length:Int))<|
 (if((decide (0<g2)&&decide ((a0.getD ((i64.wrap (g2-1)).toNat) aM.zero).aV<a1.aV))&&decide ((a0.getD ((i64.wrap (g2-1)).toNat) aM.zero).bE<3))=true then
  some (.inl (i64.wrap (g2-1)))
 else
  some (.inr g2))
def zv5(a0:List aM)(a1:aM):Option ((List aM)×Int×Int):=
 (zr2 a0).bind λ v1=>
 (if(!v1)=true then
  some ([],0,2)
 else
  (if((!(zy1 a1))||(!decide (a1.bE=0)))=true then
   some ([],0,1)
  else
   (zi5 a0 a1.aI).bind λ v2=>
   (if(decide (0<=v2))=true then
    some ([],0,11)
   else
    (if(decide ((a0.length:Int)=8))=true then
     some ([],0,4)
    else
     (zc0 (zab8 a0 a1) (a0.length:Int)).bind (λ z=>zT4 a0 a1 z)))))
@[reducible,instance] def zdV8 a0 a1 (j1:Int):=mkJ (zT4 a0 a1 j1) 2 (@zap6.eq_1 j1) λ(j2:(List aM))=>⟨[(7,.int .i64 j1),(8,.own 0 0 j2.length)],[(0,sx j2)],1⟩
@[reducible,instance] def zdV9 (a0:List aM) a1 (j1:Int):=mkL (zT4 a0 a1 j1) (@zT3.eq_1 a0) λ(g1:Int×(List aM))=>⟨[(0,la a0),(7,.int .i64 j1),(8,.own 0 0 g1.2.length),(9,.int .i64 g1.1)],[(0,sx g1.2)],1⟩
@[reducible,instance] def zdW0 (a0:List aM) (a1:aM) {T1:Type} (v1:T1) {T2:Type} (v2:T2):=mkJ ((zv5 a0 a1,v1),v2) 0 (@zT4.eq_1 a0 a1) λ(j1:Int)=>⟨[(0,la a0),(3,.ptr 0 0 0),(7,.int .i64 j1)],[(0,bx a1)],1⟩
@[reducible,instance] def zdW1 (a0:List aM) (a1:aM) {T:Type} (x:T):=mkL x (@zab8.eq_1 a0 a1) λ(g2:Int)=>⟨[(0,la a0),(3,.ptr 0 0 0),(7,.int .i64 g2)],[(0,bx a1)],1⟩
instance zbE0(a0:List aM)(a1:aM):OkP (zv5 a0 a1) 169 [la a0,ga a1] (λ r=>.tup [la r.1,.int .i64 r.2.1,.int .i64 r.2.2]):=ok1 (zv5.eq_1 a0 a1) Tryz.f169 [(56,1)]
attribute [local irreducible] zv5
attribute [local irreducible] zr9 zs9 zw9 zD9 zs0 zq5 zx0
def zJ2(a0:aA):Option Bool:=
 (zc4 a0.aB).bind λ v1=>
 ((if v1=true then zs0 a0.aB a0.aL else some false)).bind λ v2=>
 ((if(v1&&v2)=true then zo1 a0 else some false)).bind λ v3=>
 ((if((v1&&v2)&&v3)=true then zr9 a0 else some false)).bind λ v4=>
 some (((((v1&&v2)&&v3)&&v4)&&decide (0<=a0.gen))&&decide (a0.gen<=1073741824))
instance zdc5(a0:aA):OkP (zJ2 a0) 179 [ga a0] (λ r=>.bool r):=ok1 (zJ2.eq_1 a0) Tryz.f179 []
attribute [local irreducible] zJ2
def zz1(a0:aA):Option (List aF):=
 (zd1 a0.aL).bind λ v1=>
 (zt6 a0).bind λ v2=>
 gd (v1.length+v2.length<=4294967296)<|
 (zq5 (v1++v2)).bind λ v3=>
 some v3
instance zaZ9(a0:aA):OkP (zz1 a0) 43 [ga a0] (λ r=>la r):=ok1 (zz1.eq_1 a0) Tryz.f43 []
attribute [local irreducible] zz1
def zat2(j1:(List aF)):Option (List aF):=
 (zq5 j1).bind λ v1=>
 some v1
def zW5(a0:List aA)(g1:Int×(List aF)):Option ((Int×(List aF))⊕(List aF)):=
 (if(decide (g1.1<(a0.length:Int)))=true then
  gd (0<=g1.1/\g1.1<(a0.length:Int))<|
  (zz1 (a0.getD g1.1.toNat aA.zero)).bind λ v2=>
  gd (g1.2.length+v2.length<=4294967296)<|
  some (.inl ((i64.wrap (g1.1+1)),(g1.2++v2)))
 else
  some (.inr g1.2))
def zx3(a0:List aA):Option (List aF):=
 (zc0 (zW5 a0) (0,[])).bind (λ z=>zat2 z)
@[reducible,instance] def zdW2 a0:=mkJ (zx3 a0) 0 (@zat2.eq_1) λ(j1:(List aF))=>⟨[(3,.own 0 0 j1.length)],[(0,sx j1)],1⟩
@[reducible,instance] def zdW3 (a0:List aA) {T:Type} (x:T):=mkL x (@zW5.eq_1 a0) λ(g1:Int×(List aF))=>⟨[(3,.own 0 0 g1.2.length),(6,la a0),(7,.int .i64 (a0.length:Int)),(8,.int .i64 g1.1)],[(0,sx g1.2)],1⟩
instance zbO1(a0:List aA):OkP (zx3 a0) 80 [la a0] (λ r=>la r):=ok1 (zx3.eq_1 a0) Tryz.f80 [(3,1)]
attribute [local irreducible] zx3
def zC7(a0:aJ):Option Bool:=
 (zq0 a0).bind λ v1=>
 ((if v1=true then zs9 a0 else some [])).bind λ v2=>
 some (v1&&decide ((v2.length:Int)<=4064))
instance zcN9(a0:aJ):OkP (zC7 a0) 50 [ga a0] (λ r=>.bool r):=ok1 (zC7.eq_1 a0) Tryz.f50 []
attribute [local irreducible] zC7
def zA1(a0:aD)(a1:List aO)(a2:aF)(a3:aC):Option Bool:=
 (zs0 a0 a1).bind λ v1=>
 some ((v1&&zb6 a2)&&zb0 a0 a3)
instance zcH8(a0:aD)(a1:List aO)(a2:aF)(a3:aC):OkP (zA1 a0 a1 a2 a3) 233 [ga a0,la a1,ga a2,ga a3] (λ r=>.bool r):=ok1 (zA1.eq_1 a0 a1 a2 a3) Tryz.f233 []
attribute [local irreducible] zA1
def zB8(a0:aD)(a1:List aO)(a2:aF)(a3:aC):Option Bool:=
 (zA1 a0 a1 a2 a3).bind λ v1=>
 ((if v1=true then zn3 a1 a2 a3 else some [])).bind λ v2=>
 ((if v1=true then zs0 a0 v2 else some false)).bind λ v3=>
 some (v1&&v3)
instance zbE1(a0:aD)(a1:List aO)(a2:aF)(a3:aC):OkP (zB8 a0 a1 a2 a3) 181 [ga a0,la a1,ga a2,ga a3] (λ r=>.bool r):=ok1 (zB8.eq_1 a0 a1 a2 a3) Tryz.f181 []
attribute [local irreducible] zB8
def zat3(a0:aJ)(j1:Unit):Option Bool:=
 (zn0 a0).bind λ v3=>
 some (decide ((v3.length:Int)<=4064))
def zag7(a0:aJ)(g1:Int):Option (Int⊕(Unit⊕Bool)):=
 (if(decide (g1<(((zb1 a0.kind).toList.map λ b=>(b.toNat:Int)).length:Int)))=true then
  gd (0<=g1/\g1<(((zb1 a0.kind).toList.map λ b=>(b.toNat:Int)).length:Int))<|
  (zs8 a0 (((zb1 a0.kind).toList.map λ b=>(b.toNat:Int)).getD g1.toNat 0)).bind λ v4=>
  (if(!v4)=true then
   some (.inr (.inr false))
  else
   some (.inl (i64.wrap (g1+1))))
 else
  some (.inr (.inl ())))
def zB9(a0:aJ):Option Bool:=
 ((if(!((zb1 a0.kind).toList==(⟨#[]⟩:ByteArray).toList))=true then zn5 a0 else some aJ.zero)).bind λ v1=>
 ((if(!((zb1 a0.kind).toList==(⟨#[]⟩:ByteArray).toList))=true then zx2 a0 v1 else some false)).bind λ v2=>
 (if(((zb1 a0.kind).toList==(⟨#[]⟩:ByteArray).toList)||(!v2))=true then
  some false
 else
  gd ((zb1 a0.kind).size<=4294967296)<|
  (zc0 (zag7 a0) 0).bind (λ|.inl z=>zat3 a0 z|.inr z=>some z))
@[reducible,instance] def zdW4 (a0:aJ) {T1:Type} (v1:T1) {T2:Type} (v2:T2):=mkJ ((zB9 a0,v1),v2) 0 (@zat3.eq_1 a0) λ(j1:Unit)=>⟨[(1,.ptr 0 0 0)],[(0,bx a0)],1⟩
@[reducible,instance] def zdW5 (a0:aJ) {T:Type} (x:T):=mkL x (@zag7.eq_1 a0) λ(g1:Int)=>⟨[(1,.ptr 0 0 0),(19,.sl (((zb1 a0.kind).toList.map λ b=>(b.toNat:Int)).map (eI .u8))),(20,.int .i64 (((zb1 a0.kind).toList.map λ b=>(b.toNat:Int)).length:Int)),(21,.int .i64 g1)],[(0,bx a0)],1⟩
instance zdc6(a0:aJ):OkP (zB9 a0) 54 [ga a0] (λ r=>.bool r):=ok1 (zB9.eq_1 a0) Tryz.f54 []
attribute [local irreducible] zB9
end
end Ab
end Go.Proofs.YtdlfhmkmnjbihaaGreatDoor
