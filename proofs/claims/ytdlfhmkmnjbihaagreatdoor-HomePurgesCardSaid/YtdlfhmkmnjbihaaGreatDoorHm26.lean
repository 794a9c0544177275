import Derived.Test.YtdlfhmkmnjbihaaGreatDoorHm13
import Derived.Test.YtdlfhmkmnjbihaaGreatDoorHm24
namespace Go.Proofs.YtdlfhmkmnjbihaaGreatDoor
namespace Ab
open IntKind (i64 u64 u8)
set_option linter.unusedSimpArgs false
set_option linter.defProp false
set_option linter.unusedVariables false
set_option maxRecDepth 100000
set_option maxHeartbeats 1000000
noncomputable section
attribute [local irreducible] zk2 zd1 za7 zd5 zd8 za4 zo7 ze9 zl8 zi1 zc1 zk8 zh8 zd4 zk5 za2 zf9 zc9 zf7 za3 zh5 zc5 zc7 zf6 zk9 zd9 zm9 zh3 zf0 zh1 zd7 za5 ze0 zc8 zd2 zl5 ze1 zo2 zb3 zj1 zj0 ze8 zp1 zi2 zk6 zh0 zc2 zb7 zb9 zj3 zg6 zi3 zf1 zi5 ze6 zg0 zm7 zl0 zf2 za9 za8 zf3 zg7 zb4 zp2 zm8 zc3 zj4 zj8 zf4 zn5 zh2 zg2 zg3 zl6 zj6 zg4 zn8 zg8 zh9 zi6 zn9 zc6 zg5 ze4 zf5 zo0 zn3 zl4 zu5 zq3 zn1 zi0 zp7 zq1 zo8 zn0 zo9 zp0 zi7 zj7 zs6 zc4 zi8 zi9 zh6 zh7 zo4 zo5 zn7 zi4 zt4 zj9 zq9 zk4 zs7 zr8 zp9 zr2 zr3 zr4 zr1 zb5 zn6 zn2 zk7 zt5 zv8 zq6 zv9 zt7
def zaN6(j2:Unit):Option Bool:=
 some true
def zag9(a0:aA)(g1:Int):Option (Int⊕(Unit⊕Bool)):=
 (if(decide (g1<(a0.aT.length:Int)))=true then
  gd (0<=g1/\g1<(a0.aT.length:Int))<|
  gd (zu3 a0.aB ((a0.aT.getD g1.toNat aM.zero).aK)=true->0<=g1/\g1<(a0.aT.length:Int))<|
  ((if(zu3 a0.aB ((a0.aT.getD g1.toNat aM.zero).aK))=true then zl8 a0.aL ((a0.aT.getD g1.toNat aM.zero).aI)else some aC.zero)).bind λ v4=>
  (if((!(zu3 a0.aB ((a0.aT.getD g1.toNat aM.zero).aK)))||(!(zd6 v4)))=true then
   some (.inr (.inr false))
  else
   some (.inl (i64.wrap (g1+1))))
 else
  some (.inr (.inl ())))
def zah0(a0:aA)(j1:Unit):Option Bool:=
 (zc0 (zag9 a0) 0).bind (λ|.inl z=>zaN6 z|.inr z=>some z)
def zO7(a0:aA)(g2:Int):Option (Int⊕(Unit⊕Bool)):=
 (if(decide (g2<(a0.aH.length:Int)))=true then
  gd (0<=g2/\g2<(a0.aH.length:Int))<|
  (zl8 a0.aL ((a0.aH.getD g2.toNat aM.zero).aI)).bind λ v5=>
  ((if(!(((((zd6 v5||(!(zu3 a0.aB ((a0.aH.getD g2.toNat aM.zero).aK))))||(!(zk3 a0.aB ((a0.aH.getD g2.toNat aM.zero).aK) v5)))||decide ((a0.aH.getD g2.toNat aM.zero).aK=v5))||(!decide ((a0.aH.getD g2.toNat aM.zero).aV=0)))||(!decide ((a0.aH.getD g2.toNat aM.zero).bE=0))))=true then zi5 a0.aH ((a0.aH.getD g2.toNat aM.zero).aI)else some 0)).bind λ v6=>
  (if((((((zd6 v5||(!(zu3 a0.aB ((a0.aH.getD g2.toNat aM.zero).aK))))||(!(zk3 a0.aB ((a0.aH.getD g2.toNat aM.zero).aK) v5)))||decide ((a0.aH.getD g2.toNat aM.zero).aK=v5))||(!decide ((a0.aH.getD g2.toNat aM.zero).aV=0)))||(!decide ((a0.aH.getD g2.toNat aM.zero).bE=0)))||(!decide (v6=g2)))=true then
   some (.inr (.inr false))
  else
   some (.inl (i64.wrap (g2+1))))
 else
  some (.inr (.inl ())))
def zz4(a0:aA):Option Bool:=
 (zi4 a0.aB).bind λ v1=>
 ((if v1=true then zv9 a0.aB a0.aL else some false)).bind λ v2=>
 ((if(!(((!v1)||(!v2))||decide (8<(a0.aH.length:Int))))=true then zr2 a0.aT else some false)).bind λ v3=>
 (if(((((((!v1)||(!v2))||decide (8<(a0.aH.length:Int)))||(!v3))||decide (8<i64.wrap ((a0.aL.length:Int)+(a0.aT.length:Int))))||decide (a0.gen<0))||decide (1073741824<a0.gen))=true then
  some false
 else
  (zc0 (zO7 a0) 0).bind (λ|.inl z=>zah0 a0 z|.inr z=>some z))
@[reducible,instance] def zdX7 a0 j1:=mkJ (zah0 a0 j1) 2 (@zaN6.eq_1) λ(j2:Unit)=>⟨[],[],0⟩
@[reducible,instance] def zdX8 (a0:aA) {T:Type} (x:T):=mkL x (@zag9.eq_1 a0) λ(g1:Int)=>⟨[(1,.ptr 0 0 0),(3,.ptr 1 0 0),(7,.int .i64 g1)],[(0,bx a0),(1,bx a0.aB)],2⟩
@[reducible,instance] def zdX9 (a0:aA) {T1:Type} (v1:T1) {T2:Type} (v2:T2) {T3:Type} (v3:T3):=mkJ (((zz4 a0,v1),v2),v3) 0 (@zah0.eq_1 a0) λ(j1:Unit)=>⟨[(1,.ptr 0 0 0),(3,.ptr 1 0 0)],[(0,bx a0),(1,bx a0.aB)],2⟩
@[reducible,instance] def zdY0 (a0:aA) {T:Type} (x:T):=mkL x (@zO7.eq_1 a0) λ(g2:Int)=>⟨[(1,.ptr 0 0 0),(3,.ptr 1 0 0),(4,.int .i64 g2)],[(0,bx a0),(1,bx a0.aB)],2⟩
instance zdc8(a0:aA):OkP (zz4 a0) 185 [ga a0] (λ r=>.bool r):=ok1 (zz4.eq_1 a0) Tryz.f185 []
attribute [local irreducible] zz4
def zN4(a0:aD)(a1:List aO)(a2:aF)(a3:aC):Option Bool:=
 (zv9 a0 a1).bind λ v1=>
 ((if((v1&&zn4 a2)&&zu3 a0 a3)=true then zq1 a1 a2 a3 else some [])).bind λ v2=>
 ((if((v1&&zn4 a2)&&zu3 a0 a3)=true then zv9 a0 v2 else some false)).bind λ v3=>
 some (((v1&&zn4 a2)&&zu3 a0 a3)&&v3)
instance zdj2(a0:aD)(a1:List aO)(a2:aF)(a3:aC):OkP (zN4 a0 a1 a2 a3) 247 [ga a0,la a1,ga a2,ga a3] (λ r=>.bool r):=ok1 (zN4.eq_1 a0 a1 a2 a3) Tryz.f247 []
attribute [local irreducible] zN4
def zz5(a0:aA):Option Bool:=
 (zz4 a0).bind λ v1=>
 (if(!v1)=true then
  some false
 else
  (zl5 a0).bind λ v2=>
  ((if v2.2=true then zN4 a0.aB a0.aL v2.1.aI v2.1.aK else some false)).bind λ v3=>
  some ((!v2.2)||(!v3)))
instance zcO3(a0:aA):OkP (zz5 a0) 186 [ga a0] (λ r=>.bool r):=ok1 (zz5.eq_1 a0) Tryz.f186 []
attribute [local irreducible] zz5
attribute [local irreducible] zy9 zt6 zq0 zq4 zp8 zv3 zs8 zo1 zx2 zC6 zv5
def zz6(a0:aA):Option Bool:=
 (zz4 a0).bind λ v1=>
 ((if v1=true then zz5 a0 else some false)).bind λ v2=>
 some (v1&&v2)
instance zbO4(a0:aA):OkP (zz6 a0) 137 [ga a0] (λ r=>.bool r):=ok1 (zz6.eq_1 a0) Tryz.f137 []
attribute [local irreducible] zz6
def zaN7(j1:Unit):Option Bool:=
 some true
def zah1(a0:List aA)(g1:Int):Option (Int⊕(Unit⊕Bool)):=
 (if(decide (g1<(a0.length:Int)))=true then
  gd (0<=g1/\g1<(a0.length:Int))<|
  (zz6 (a0.getD g1.toNat aA.zero)).bind λ v1=>
  gd ((v1&&decide (0<g1))=true->0<=i64.wrap (g1-1)/\i64.wrap (g1-1)<(a0.length:Int))<|
  gd ((v1&&decide (0<g1))=true->0<=g1/\g1<(a0.length:Int))<|
  (if((!v1)||(decide (0<g1)&&(!Op.bytesLess (((a0.getD ((i64.wrap (g1-1)).toNat) aA.zero).aB).name).toList (((a0.getD g1.toNat aA.zero).aB).name).toList)))=true then
   some (.inr (.inr false))
  else
   some (.inl (i64.wrap (g1+1))))
 else
  some (.inr (.inl ())))
def zJ5(a0:List aA):Option Bool:=
 (if(decide (8<(a0.length:Int)))=true then
  some false
 else
  (zc0 (zah1 a0) 0).bind (λ|.inl z=>zaN7 z|.inr z=>some z))
@[reducible,instance] def zdY1 a0:=mkJ (zJ5 a0) 0 (@zaN7.eq_1) λ(j1:Unit)=>⟨[],[],0⟩
@[reducible,instance] def zdY2 (a0:List aA) {T:Type} (x:T):=mkL x (@zah1.eq_1 a0) λ(g1:Int)=>⟨[(0,la a0),(3,.int .i64 g1)],[],0⟩
instance zdc9(a0:List aA):OkP (zJ5 a0) 87 [la a0] (λ r=>.bool r):=ok1 (zJ5.eq_1 a0) Tryz.f87 []
attribute [local irreducible] zJ5
def zx4(a0:List aA):Option Bool:=
 (zJ5 a0).bind λ v1=>
 ((if v1=true then zt7 a0 else some [])).bind λ v2=>
 some (v1&&decide ((v2.length:Int)<=8))
instance zbO5(a0:List aA):OkP (zx4 a0) 45 [la a0] (λ r=>.bool r):=ok1 (zx4.eq_1 a0) Tryz.f45 []
attribute [local irreducible] zx4
def zaN8(a0:aX)(j2:Int):Option Bool:=
 some (decide (j2=(a0.tags.length:Int)))
def zW6(a0:aX)(g1:Int×Int):Option ((Int×Int)⊕Int):=
 (if(decide (g1.2<(a0.aG.length:Int)))=true then
  gd (0<=g1.2/\g1.2<(a0.aG.length:Int))<|
  (zr3 (a0.aG.getD g1.2.toNat aA.zero)).bind λ v2=>
  some (.inl ((i64.wrap (g1.1+(v2.length:Int))),i64.wrap (g1.2+1)))
 else
  some (.inr g1.1))
def zah2(a0:aX)(j1:Unit):Option Bool:=
 (zc0 (zW6 a0) (0,0)).bind (λ z=>zaN8 a0 z)
def zah3(a0:aX)(g2:Int):Option (Int⊕(Unit⊕Bool)):=
 (if(decide (g2<(a0.tags.length:Int)))=true then
  gd (0<=g2/\g2<(a0.tags.length:Int))<|
  gd (((!(((!(zn4 ((a0.tags.getD g2.toNat bA.zero).aI)))||decide ((a0.tags.getD g2.toNat bA.zero).gen<0))||decide (1073741824<(a0.tags.getD g2.toNat bA.zero).gen)))&&decide (0<g2))=true->0<=i64.wrap (g2-1)/\i64.wrap (g2-1)<(a0.tags.length:Int))<|
  (if((((!(zn4 ((a0.tags.getD g2.toNat bA.zero).aI)))||decide ((a0.tags.getD g2.toNat bA.zero).gen<0))||decide (1073741824<(a0.tags.getD g2.toNat bA.zero).gen))||(decide (0<g2)&&(!(zag0 (a0.tags.getD ((i64.wrap (g2-1)).toNat) bA.zero) (a0.tags.getD g2.toNat bA.zero)))))=true then
   some (.inr (.inr false))
  else
   (zf6 a0.aG ((a0.tags.getD g2.toNat bA.zero).name)).bind λ v3=>
   gd ((!(decide (v3<0)))=true->0<=v3/\v3<(a0.aG.length:Int))<|
   ((if(!(decide (v3<0)))=true then zq3 (a0.aG.getD v3.toNat aA.zero) ((a0.tags.getD g2.toNat bA.zero).aI)else some false)).bind λ v4=>
   (if(decide (v3<0)||(!v4))=true then
    some (.inr (.inr false))
   else
    some (.inl (i64.wrap (g2+1)))))
 else
  some (.inr (.inl ())))
def zC0(a0:aX):Option Bool:=
 (zx4 a0.aG).bind λ v1=>
 (if(!v1)=true then
  some false
 else
  (zc0 (zah3 a0) 0).bind (λ|.inl z=>zah2 a0 z|.inr z=>some z))
@[reducible,instance] def zdY3 (a0:aX) j1:=mkJ (zah2 a0 j1) 2 (@zaN8.eq_1 a0) λ(j2:Int)=>⟨[(1,.ptr 0 0 0),(6,.int .i64 j2)],[(0,bx a0)],1⟩
@[reducible,instance] def zdY4 (a0:aX) {T:Type} (x:T):=mkL x (@zW6.eq_1 a0) λ(g1:Int×Int)=>⟨[(1,.ptr 0 0 0),(6,.int .i64 g1.1),(70,la a0.aG),(71,.int .i64 (a0.aG.length:Int)),(72,.int .i64 g1.2)],[(0,bx a0)],1⟩
@[reducible,instance] def zdY5 (a0:aX) {T1:Type} (v1:T1):=mkJ (zC0 a0,v1) 0 (@zah2.eq_1 a0) λ(j1:Unit)=>⟨[(1,.ptr 0 0 0)],[(0,bx a0)],1⟩
@[reducible,instance] def zdY6 (a0:aX) {T:Type} (x:T):=mkL x (@zah3.eq_1 a0) λ(g2:Int)=>⟨[(1,.ptr 0 0 0),(14,la a0.tags),(15,.int .i64 (a0.tags.length:Int)),(16,.int .i64 g2)],[(0,bx a0)],1⟩
instance zdd0(a0:aX):OkP (zC0 a0) 14 [ga a0] (λ r=>.bool r):=ok1 (zC0.eq_1 a0) Tryz.f14 []
attribute [local irreducible] zC0
def zaE9(j1:aA×(List aO)):Option (aA×(List aO)):=
 some (j1.1,j1.2)
def zP9(g1:aA×(List aO))(v4:aM×Bool)(j2:aA):Option ((aA×(List aO))⊕(aA×(List aO))):=
 (zq1 j2.aL v4.1.aI v4.1.aK).bind λ v5=>
 gd (g1.2.length+1<=4294967296)<|
 some (.inl ({j2 with aL:=v5},(g1.2++[(⟨v4.1.aI,v4.1.aK⟩:aO)])))
def zI7(g1:aA×(List aO)):Option ((aA×(List aO))⊕(aA×(List aO))):=
 (zz5 g1.1).bind λ v3=>
 (if(!v3)=true then
  (zl5 g1.1).bind λ v4=>
  (if(decide (0<(g1.1.aH.length:Int)))=true then
   gd (0<=1/\1<=(g1.1.aH.length:Int)/\(g1.1.aH.length:Int)<=(g1.1.aH.length:Int))<|
   zP9 g1 v4 ({g1.1 with aH:=(g1.1.aH.drop 1)})
  else
   gd (0<=1/\1<=(g1.1.aT.length:Int)/\(g1.1.aT.length:Int)<=(g1.1.aT.length:Int))<|
   zP9 g1 v4 ({g1.1 with aT:=(g1.1.aT.drop 1)}))
 else
  some (.inr (g1.1,g1.2)))
def zC9(a0:aA):Option (aA×(List aO)):=
 (zz4 a0).bind λ v1=>
 (if(!v1)=true then
  some ({aA.zero with},[])
 else
  (zj0 a0).bind λ v2=>
  (zc0 zI7 (v2,[])).bind (λ z=>zaE9 z))
@[reducible,instance] def zdY7 a0 {T1:Type} (v1:T1) {T2:Type} (v2:T2):=mkJ ((zC9 a0,v1),v2) 0 (@zaE9.eq_1) λ(j1:aA×(List aO))=>⟨[(1,.ptr 0 0 0),(2,.ptr 1 0 0),(4,.own 2 0 j1.2.length)],[(0,bx j1.1),(1,bx aA.zero),(2,sx j1.2)],3⟩
@[reducible,instance] def zdY8 (g1:aA×(List aO)) {T1:Type} (v3:T1) (v4:aM×Bool):=mkJ ((zI7 g1,v3),v4) 999 (@zP9.eq_1 g1 v4) λ(j2:aA)=>⟨[(1,.ptr 0 0 0),(2,.ptr 1 0 0),(4,.own 2 0 g1.2.length),(5,.ptr 3 0 0)],[(0,bx j2),(1,bx aA.zero),(2,sx g1.2),(3,bx v4.1)],4⟩
@[reducible,instance] def zdY9 {T:Type} (x:T):=mkL x (@zI7.eq_1) λ(g1:aA×(List aO))=>⟨[(1,.ptr 0 0 0),(2,.ptr 1 0 0),(4,.own 2 0 g1.2.length)],[(0,bx g1.1),(1,bx aA.zero),(2,sx g1.2)],3⟩
instance zcO4(a0:aA):OkP (zC9 a0) 224 [ga a0] (λ r=>.tup [ga r.1,la r.2]):=ok1 (zC9.eq_1 a0) Tryz.f224 [(4,1)]
attribute [local irreducible] zC9
def zv4(a0:aA):Option (aA×(List aO)×Int):=
 (zC9 a0).bind λ v1=>
 some ({v1.1 with gen:=(zaB3 a0.gen)},v1.2,0)
instance zaN9(a0:aA):OkP (zv4 a0) 168 [ga a0] (λ r=>.tup [ga r.1,la r.2.1,.int .i64 r.2.2]):=ok1 (zv4.eq_1 a0) Tryz.f168 []
attribute [local irreducible] zv4
def zC1 (a0:aA) (a1:aF) (a2:aC) (a3:Int):Option (aA×(List aO)×Int):=
 (zz6 a0).bind λ v1=>
 (if(!v1)=true then
  some ({aA.zero with},[],2)
 else
  (if(((!(zn4 a1))||decide (a3<0))||decide (7<a3))=true then
   some ({aA.zero with},[],1)
  else
   (if(!(zu3 a0.aB a2))=true then
    some ({aA.zero with},[],12)
   else
    (zh9 a0 a1).bind λ v2=>
    (if v2.2=true then
     some ({aA.zero with},[],14)
    else
     (zh8 a0).bind λ v3=>
     (zg7 v3 a1).bind λ v4=>
     (if(zk3 v3.aB v4 a2)=true then
      some (v3,[],0)
     else
      (if(!(zd6 v4))=true then
       (zC6 v3.aB v4 a2).bind λ v5=>
       gd (v3.aH.length+1<=4294967296)<|
       (zv4 (⟨(⟨v3.aB.name,v3.aB.kind,v3.aB.aU,v3.aB.home⟩:aD),v3.aL,(v3.aH++[{aM.zero with aI:=a1,aK:=v5}]),v3.aT,v3.gen⟩:aA)).bind λ v6=>
       some (v6.1,v6.2.1,v6.2.2)
      else
       (if(decide (8<=i64.wrap ((v3.aL.length:Int)+(v3.aT.length:Int))))=true then
        some ({aA.zero with},[],4)
       else
        (zv5 v3.aT ({aM.zero with aI:=a1,aK:=a2,aV:=a3})).bind λ v7=>
        (if(!decide (v7.2.2=0))=true then
         some ({aA.zero with},[],v7.2.2)
        else
         (zv4 (⟨(⟨v3.aB.name,v3.aB.kind,v3.aB.aU,v3.aB.home⟩:aD),v3.aL,v3.aH,v7.1,v3.gen⟩:aA)).bind λ v8=>
         some (v8.1,v8.2.1,v8.2.2)))))))))
instance zdd1(a0:aA)(a1:aF)(a2:aC)(a3:Int):OkP (zC1 a0 a1 a2 a3) 112 [ga a0,ga a1,ga a2,.int .i64 a3] (λ r=>.tup [ga r.1,la r.2.1,.int .i64 r.2.2]):=⟨λ r h=>by
 refine zW0 Tryz.f112 [(48,1)] λ E hG hN hK=>?_;have hm:Mk (zC1 a0 a1 a2 a3):=trivial;unfold zC1 at h;refine za0 (za1 hG ?_);refine za0 (za0 (za1 hG ?_));obtain⟨v1,hv1,h⟩:=zb8 h;have hm:=mkP hm v1;refine zm4 (λ hg=>(zbO4 a0).ok _ hv1) ?_;refine ze5 rfl hG h (λ _ h=>?_) (λ _ h=>?_)
 .exact gogo
 refine ze2 ?_;refine za0 (za0 (za1 hG ?_));refine zm4 (λ hg=>(zbl7 a1).ok) ?_;refine ze5 rfl hG h (λ _ h=>?_) (λ _ h=>?_)
 .exact gogo
 refine ze2 ?_;refine za0 (za0 (za1 hG ?_));refine zm4 (λ hg=>(zbX1 a0.aB a2).ok) ?_;refine ze5 rfl hG h (λ _ h=>?_) (λ _ h=>?_)
 .exact gogo
 refine ze2 ?_;refine za0 (za0 (za1 hG ?_));obtain⟨v2,hv2,h⟩:=zb8 h;have hm:=mkP hm v2;refine zm4 (λ hg=>(zaV4 a0 a1).ok _ hv2) ?_;refine za0 (za1 hG ?_);refine ze5 rfl hG h (λ _ h=>?_) (λ _ h=>?_)
 .exact gogo
 refine ze2 ?_;refine za0 (za1 hG ?_);obtain⟨v3,hv3,h⟩:=zb8 h;have hm:=mkP hm v3;refine zp6 [] [(0,5),(1,6),(2,7)] [0,1,2] (zbv1 _ _ hv3) rfl rfl ?_;refine g_gh (.fz [5,7]) ?_;refine za0 (za1 hG ?_);obtain⟨v4,hv4,h⟩:=zb8 h;have hm:=mkP hm v4;refine zm4 (λ hg=>(zaj3 v3 a1).ok _ hv4) ?_;refine za0 (za0 (za1 hG ?_));refine zm4 (λ hg=>(zbD9 v3.aB v4 a2).ok) ?_;refine ze5 rfl hG h (λ _ h=>?_) (λ _ h=>?_)
 .exact gogo
 refine ze2 ?_;refine za0 (za0 (za1 hG ?_));refine zm4 (λ hg=>(zbW4 v4).ok) ?_;refine ze5 rfl hG h (λ _ h=>?_) (λ _ h=>?_)
 · refine za0 (zai3 zC5 hG ?_)
   obtain⟨v5,hv5,h⟩:=zb8 h;have hm:=mkP hm v5;obtain⟨hb1,h⟩:=ze3 h;refine zH5 (λ hg=>(zbX3 v3.aB v4 a2).ok _ hv5) ?_;refine za0 (za1 hG ?_);obtain⟨v6,hv6,h⟩:=zb8 h;have hm:=mkP hm v6;have hc_v6:=(zaN9 (⟨(⟨v3.aB.name,v3.aB.kind,v3.aB.aU,v3.aB.home⟩:aD),v3.aL,(v3.aH++[{aM.zero with aI:=a1,aK:=v5}]),v3.aT,v3.gen⟩:aA)).ok _ hv6;have el_v6:∀x:aA,aA.enc x=[A.str x.aB.name,A.int .i64 x.aB.kind,A.int .i64 x.aB.aU,A.int .i64 x.aB.home,A.sl (x.aL.map aO.enc),A.sl (x.aH.map aM.enc),A.sl (x.aT.map aM.enc),A.int .i64 x.gen]:=λ x=>rfl
   try dsimp only[ga,la,En.e]at hc_v6
   rw[el_v6]at hc_v6;dsimp only at hc_v6;refine zm4 (λ hg=>by exact hc_v6) ?_;exact gogo
 refine ze2 ?_;refine za0 (za0 (za1 hG ?_));refine ze5 rfl hG h (λ _ h=>?_) (λ _ h=>?_)
 .exact gogo
 refine ze2 ?_;refine za0 (za1 hG ?_);obtain⟨v7,hv7,h⟩:=zb8 h;have hm:=mkP hm v7;refine zm4 (λ hg=>(zbE0 v3.aT ({aM.zero with aI:=a1,aK:=a2,aV:=a3})).ok _ hv7) ?_;refine za0 (za0 (za1 hG ?_));refine ze5 rfl hG h (λ _ h=>?_) (λ _ h=>?_)
 .exact gogo
 refine ze2 ?_;refine za0 (za1 hG ?_);refine za0 (za1 hG ?_);obtain⟨v8,hv8,h⟩:=zb8 h;have hm:=mkP hm v8;have hc_v8:=(zaN9 (⟨(⟨v3.aB.name,v3.aB.kind,v3.aB.aU,v3.aB.home⟩:aD),v3.aL,v3.aH,v7.1,v3.gen⟩:aA)).ok _ hv8;have el_v8:∀x:aA,aA.enc x=[A.str x.aB.name,A.int .i64 x.aB.kind,A.int .i64 x.aB.aU,A.int .i64 x.aB.home,A.sl (x.aL.map aO.enc),A.sl (x.aH.map aM.enc),A.sl (x.aT.map aM.enc),A.int .i64 x.gen]:=λ x=>rfl
 try dsimp only[ga,la,En.e]at hc_v8
 rw[el_v8]at hc_v8;dsimp only at hc_v8;refine zm4 (λ hg=>by exact hc_v8) ?_;exact gogo⟩
attribute [local irreducible] zC1
def zJ6(a0:List aA)(a1:aF)(a2:bF)(a3:Int):Option ((List aA)×(List aS)×Int):=
 (zx4 a0).bind λ v1=>
 (if(!v1)=true then
  some ([],[],2)
 else
  (zf6 a0 a2.name).bind λ v2=>
  (if(decide (v2<0))=true then
   some ([],[],10)
  else
   (zt7 a0).bind λ v3=>
   ((if(decide ((v3.length:Int)=8))=true then ze1 v3 a1 else some false)).bind λ v4=>
   (if(decide ((v3.length:Int)=8)&&(!v4))=true then
    some ([],[],4)
   else
    gd (0<=v2/\v2<(a0.length:Int))<|
    (zC1 (a0.getD v2.toNat aA.zero) a1 a2.aK a3).bind λ v5=>
    (if(!decide (v5.2.2=0))=true then
     some ([],[],v5.2.2)
    else
     (zd4 a0 v2 v5.1).bind λ v6=>
     (zd9 a2.name v5.2.1).bind λ v7=>
     some (v6,v7,0)))))
instance zdd2(a0:List aA)(a1:aF)(a2:bF)(a3:Int):OkP (zJ6 a0 a1 a2 a3) 56 [la a0,ga a1,ga a2,.int .i64 a3] (λ r=>.tup [la r.1,la r.2.1,.int .i64 r.2.2]):=ok1 (zJ6.eq_1 a0 a1 a2 a3) Tryz.f56 []
attribute [local irreducible] zJ6
def zL2(a0:aA)(a1:aF):Option (aA×(List aO)×Int):=
 (zz6 a0).bind λ v1=>
 (if(!v1)=true then
  some ({aA.zero with},[],2)
 else
  (zh9 a0 a1).bind λ v2=>
  (if(!v2.2)=true then
   some ({aA.zero with},[],10)
  else
   (zj0 a0).bind λ v3=>
   (ze8 v3.aH a1).bind λ v4=>
   (ze8 (({v3 with aH:=v4.1}).aT) a1).bind λ v5=>
   (zv4 ({{v3 with aH:=v4.1}with aT:=v5.1})).bind λ v6=>
   some (v6.1,v6.2.1,v6.2.2)))
instance zcU6(a0:aA)(a1:aF):OkP (zL2 a0 a1) 116 [ga a0,ga a1] (λ r=>.tup [ga r.1,la r.2.1,.int .i64 r.2.2]):=ok1 (zL2.eq_1 a0 a1) Tryz.f116 []
attribute [local irreducible] zL2
def zL3(a0:List aA)(a1:aF)(a2:ByteArray):Option ((List aA)×(List aS)×Int):=
 (zx4 a0).bind λ v1=>
 (if(!v1)=true then
  some ([],[],2)
 else
  (zf6 a0 a2).bind λ v2=>
  (if(decide (v2<0))=true then
   some ([],[],10)
  else
   gd (0<=v2/\v2<(a0.length:Int))<|
   (zL2 (a0.getD v2.toNat aA.zero) a1).bind λ v3=>
   (if(!decide (v3.2.2=0))=true then
    some ([],[],v3.2.2)
   else
    (zd4 a0 v2 v3.1).bind λ v4=>
    (zd9 a2 v3.2.1).bind λ v5=>
    some (v4,v5,0))))
instance zcU7(a0:List aA)(a1:aF)(a2:ByteArray):OkP (zL3 a0 a1 a2) 60 [la a0,ga a1,.str a2] (λ r=>.tup [la r.1,la r.2.1,.int .i64 r.2.2]):=ok1 (zL3.eq_1 a0 a1 a2) Tryz.f60 []
attribute [local irreducible] zL3
def zO3(a0:aA)(a1:aF)(a2:aC):Option (aA×(List aO)×Int):=
 (zz6 a0).bind λ v1=>
 (if(!v1)=true then
  some ({aA.zero with},[],2)
 else
  (zg7 a0 a1).bind λ v2=>
  (if(zd6 v2)=true then
   some ({aA.zero with},[],10)
  else
   (zh9 a0 a1).bind λ v3=>
   (if v3.2=true then
    some ({aA.zero with},[],14)
   else
    (if(!(zk3 a0.aB v2 a2))=true then
     some ({aA.zero with},[],12)
    else
     (zj0 a0).bind λ v4=>
     (if(decide (v2=a2))=true then
      some (v4,[],0)
     else
      (zq1 v4.aL a1 a2).bind λ v5=>
      (zv4 ({v4 with aL:=v5})).bind λ v6=>
      some (v6.1,v6.2.1,v6.2.2))))))
instance zbO6(a0:aA)(a1:aF)(a2:aC):OkP (zO3 a0 a1 a2) 117 [ga a0,ga a1,ga a2] (λ r=>.tup [ga r.1,la r.2.1,.int .i64 r.2.2]):=ok1 (zO3.eq_1 a0 a1 a2) Tryz.f117 []
attribute [local irreducible] zO3
def zO8(a0:List aA)(a2:bF)(v2:Int)(v4:aA×(List aO)×Int)(j1:(List aS)):Option ((List aA)×(List aS)×Int):=
 (zd4 a0 v2 v4.1).bind λ v5=>
 (zd9 a2.name v4.2.1).bind λ v6=>
 gd (j1.length+v6.length<=4294967296)<|
 some (v5,(j1++v6),0)
@[go_sem] def zdy0(a0:List aA)(a2:bF)(v2:Int)(v4:aA×(List aO)×Int)(j1:(List aS)):St:=⟨[(0,la a0),(5,.ptr 0 0 0),(9,.int .i64 v2),(11,.ptr 1 0 0),(12,la v4.2.1),(14,.own 2 0 j1.length)],[(0,bx a2),(1,bx v4.1),(2,sx j1)],3⟩
def zJ7(a0:List aA)(a1:aF)(a2:bF):Option ((List aA)×(List aS)×Int):=
 (zx4 a0).bind λ v1=>
 (if(!v1)=true then
  some ([],[],2)
 else
  (zf6 a0 a2.name).bind λ v2=>
  (if(decide (v2<0))=true then
   some ([],[],10)
  else
   gd (0<=v2/\v2<(a0.length:Int))<|
   (zg7 (a0.getD v2.toNat aA.zero) a1).bind λ v3=>
   gd (0<=v2/\v2<(a0.length:Int))<|
   (zO3 (a0.getD v2.toNat aA.zero) a1 a2.aK).bind λ v4=>
   (if(!decide (v4.2.2=0))=true then
    some ([],[],v4.2.2)
   else
    (if(!decide (v3=a2.aK))=true then
     gd (1<=4294967296)<|
     zO8 a0 a2 v2 v4 [(⟨3,a1,a2.name,a2.aK⟩:aS)]
    else
     zO8 a0 a2 v2 v4 []))))
theorem zbO7(a0:List aA)(a1:aF)(a2:bF)(r:(List aA)×(List aS)×Int)(h:zJ7 a0 a1 a2=some r):PFn C 61 [la a0,ga a1,ga a2] (.tup [la r.1,la r.2.1,.int .i64 r.2.2]):=by
 refine zW0 Tryz.f61 [(14,1)] λ E hG hN hK=>?_;unfold zJ7 at h;refine za0 (za1 hG ?_);refine za0 (za0 (za1 hG ?_));obtain⟨v1,hv1,h⟩:=zb8 h;refine zm4 (λ hg=>(zbO5 a0).ok _ hv1) ?_;refine ze5 rfl hG h (λ _ h=>?_) (λ _ h=>?_)
 · refine za0 (za1 hG ?_)
   refine zm2 ?_;exact zt1 h
 refine ze2 ?_;refine za0 (za1 hG ?_);obtain⟨v2,hv2,h⟩:=zb8 h;refine zm4 (λ hg=>(zbj5 a0 a2.name).ok _ hv2) ?_;refine za0 (za0 (za1 hG ?_));refine ze5 rfl hG h (λ _ h=>?_) (λ _ h=>?_)
 · refine za0 (za1 hG ?_)
   refine zm2 ?_;exact zt1 h
 refine ze2 ?_;refine za0 ?_;obtain⟨hb4,h⟩:=ze3 h;refine zai3 zC5 hG ?_;obtain⟨v3,hv3,h⟩:=zb8 h;refine zH5 (λ hg=>(zaj3 (a0.getD v2.toNat aA.zero) a1).ok _ hv3) ?_;refine za0 ?_;obtain⟨hb3,h⟩:=ze3 h;refine zai3 zC5 hG ?_;obtain⟨v4,hv4,h⟩:=zb8 h;refine zH5 (λ hg=>(zbO6 (a0.getD v2.toNat aA.zero) a1 a2.aK).ok _ hv4) ?_;refine za0 (za0 (za1 hG ?_));refine ze5 rfl hG h (λ _ h=>?_) (λ _ h=>?_)
 · refine za0 (za1 hG ?_)
   refine zm2 ?_;exact zt1 h
 refine ze2 ?_;refine za0 (za1 hG ?_);refine za0 (za0 (za1 hG ?_));refine zak2 (zdy0 a0 a2 v2 v4) (λ v=>zO8 a0 a2 v2 v4 v=some r) rfl hG h ?_ (λ _ h=>?_) (λ _ h=>?_)
 · intro j1 h
   unfold zO8 at h;refine g_st ?_;refine za0 (zai3 zC5 hG ?_);obtain⟨v5,hv5,h⟩:=zb8 h;refine zH5 (λ hg=>(zbv2 a0 v2 v4.1).ok _ hv5) ?_;obtain⟨v6,hv6,h⟩:=zb8 h;obtain⟨hb1,h⟩:=ze3 h;refine zH5 (λ hg=>(zbD5 a2.name v4.2.1).ok _ hv6) ?_;refine zm2 ?_;exact zt1 h
 · obtain⟨hb2,h⟩:=ze3 h
   refine za1 hG ?_;exact zs2 hK [(0,1),(1,3),(2,5)] [(⟨3,a1,a2.name,a2.aK⟩:aS)] (by exact h)
 refine ze2 ?_;exact zs2 hK [(0,1),(1,3),(2,4)] [] (by exact h)
instance zcU8(a0:List aA)(a1:aF)(a2:bF):OkP (zJ7 a0 a1 a2) 61 [la a0,ga a1,ga a2] (λ r=>.tup [la r.1,la r.2.1,.int .i64 r.2.2]):=⟨zbO7 a0 a1 a2⟩
attribute [local irreducible] zJ7
def zL4(a0:aA)(a1:aF):Option (aA×(List aO)×Int):=
 (zz6 a0).bind λ v1=>
 (if(!v1)=true then
  some ({aA.zero with},[],2)
 else
  (zq3 a0 a1).bind λ v2=>
  (if(!v2)=true then
   some ({aA.zero with},[],10)
  else
   (zj0 a0).bind λ v3=>
   (zq1 v3.aL a1 ({aC.zero with})).bind λ v4=>
   (ze8 (({v3 with aL:=v4}).aH) a1).bind λ v5=>
   (ze8 (({{v3 with aL:=v4}with aH:=v5.1}).aT) a1).bind λ v6=>
   (zv4 ({{{v3 with aL:=v4}with aH:=v5.1}with aT:=v6.1})).bind λ v7=>
   some (v7.1,v7.2.1,v7.2.2)))
instance zcU9(a0:aA)(a1:aF):OkP (zL4 a0 a1) 172 [ga a0,ga a1] (λ r=>.tup [ga r.1,la r.2.1,.int .i64 r.2.2]):=ok1 (zL4.eq_1 a0 a1) Tryz.f172 []
attribute [local irreducible] zL4
def zaI5(j1:(List aA)×(List aS)):Option ((List aA)×(List aS)):=
 some (j1.1,j1.2)
def zU1(a1:aF)(g1:Int×(List aA)×(List aS))(j2:(List aS)):Option ((Int×(List aA)×(List aS))⊕((List aA)×(List aS))):=
 gd (0<=g1.1/\g1.1<((g1.2.1.length:Nat):Int))<|
 (zL4 (g1.2.1.getD g1.1.toNat aA.zero) a1).bind λ v4=>
 gd (0<=g1.1/\g1.1<((g1.2.1.length:Nat):Int))<|
 (zd9 v4.1.aB.name v4.2.1).bind λ v5=>
 gd (j2.length+v5.length<=4294967296)<|
 some (.inl ((i64.wrap (g1.1+1)),g1.2.1.set g1.1.toNat v4.1,(j2++v5)))
def zU2(a1:aF)(g1:Int×(List aA)×(List aS)):Option ((Int×(List aA)×(List aS))⊕((List aA)×(List aS))):=
 (if(decide (g1.1<((g1.2.1.length:Nat):Int)))=true then
  gd (0<=g1.1/\g1.1<((g1.2.1.length:Nat):Int))<|
  (zq3 (g1.2.1.getD g1.1.toNat aA.zero) a1).bind λ v2=>
  (if(!v2)=true then
   some (.inl ((i64.wrap (g1.1+1)),g1.2.1,g1.2.2))
  else
   gd (0<=g1.1/\g1.1<((g1.2.1.length:Nat):Int))<|
   (zg7 (g1.2.1.getD g1.1.toNat aA.zero) a1).bind λ v3=>
   (if(!(zd6 v3))=true then
    gd (0<=g1.1/\g1.1<((g1.2.1.length:Nat):Int))<|
    gd (g1.2.2.length+1<=4294967296)<|
    zU1 a1 g1 (g1.2.2++[{aS.zero with kind:=3,aI:=a1,name:=((g1.2.1.getD g1.1.toNat aA.zero).aB).name}])
   else
    zU1 a1 g1 g1.2.2))
 else
  some (.inr (g1.2.1,g1.2.2)))
def zG1(a0:List aA)(a1:aF):Option ((List aA)×(List aS)):=
 (zx4 a0).bind λ v1=>
 (if(!v1)=true then
  some ([],[])
 else
  gd (a0.length<=4294967296)<|
  (zc0 (zU2 a1) (0,a0,[])).bind (λ z=>zaI5 z))
@[reducible,instance] def zdZ0 a0 a1 {T1:Type} (v1:T1):=mkJ (zG1 a0 a1,v1) 0 (@zaI5.eq_1) λ(j1:(List aA)×(List aS))=>⟨[(6,.own 0 0 j1.1.length),(7,.own 1 0 j1.2.length)],[(0,sx j1.1),(1,sx j1.2)],2⟩
@[reducible,instance] def zdZ1 (a1:aF) (g1:Int×(List aA)×(List aS)) {T1:Type} (v2:T1) {T2:Type} (v3:T2):=mkJ ((zU2 a1 g1,v2),v3) 999 (@zU1.eq_1 a1 g1) λ(j2:(List aS))=>⟨[(3,.ptr 0 0 0),(6,.own 1 0 g1.2.1.length),(7,.own 2 0 j2.length),(8,.int .i64 g1.1)],[(0,bx a1),(1,sx g1.2.1),(2,sx j2)],3⟩
@[reducible,instance] def zdZ2 (a1:aF) {T:Type} (x:T):=mkL x (@zU2.eq_1 a1) λ(g1:Int×(List aA)×(List aS))=>⟨[(3,.ptr 0 0 0),(6,.own 1 0 g1.2.1.length),(7,.own 2 0 g1.2.2.length),(8,.int .i64 g1.1)],[(0,bx a1),(1,sx g1.2.1),(2,sx g1.2.2)],3⟩
instance zcV0(a0:List aA)(a1:aF):OkP (zG1 a0 a1) 118 [la a0,ga a1] (λ r=>.tup [la r.1,la r.2]):=ok1 (zG1.eq_1 a0 a1) Tryz.f118 [(15,1),(7,1)]
attribute [local irreducible] zG1
end
end Ab
end Go.Proofs.YtdlfhmkmnjbihaaGreatDoor
