import Derived.Test.YtdlfhmkmnjbihaaGreatDoorHm8
namespace Go.Proofs.YtdlfhmkmnjbihaaGreatDoor
namespace Ab
open IntKind (i64 u64 u8)
set_option linter.unusedSimpArgs false
set_option linter.defProp false
set_option linter.unusedVariables false
set_option maxRecDepth 100000
set_option maxHeartbeats 1000000
noncomputable section
attribute [local irreducible] zk2 zd1 za7 zd5 zd8 za4 zo7 ze9 zl8 zi1 zc1 zk8 zh8 zd4 zk5 za2 zf9 zc9 zf7 za3 zh5 zc5 zc7 zf6 zk9 zd9 zm9 zh3 zf0 zh1 zd7 za5 ze0 zc8 zd2 zl5 ze1 zo2 zb3 zj1 zj0 ze8 zp1 zi2 zk6 zh0 zc2 zb7 zb9 zj3 zg6 zi3 zf1 zi5 ze6 zg0 zm7 zl0 zf2 za9 za8 zf3 zg7 zb4 zp2 zm8 zc3 zj4 zj8 zf4 zn5 zh2 zg2 zg3 zl6 zj6 zg4 zn8 zg8 zh9 zi6 zn9 zc6 zg5 ze4 zf5 zo0
def zi0(a0 a1:bA):Option Int:=
 (zc3 a0.aI a1.aI).bind λ v1=>
 (if(!decide (v1=0))=true then
  some v1
 else
  some (zK5 a0.name a1.name))
instance zcx8(a0 a1:bA):OkP (zi0 a0 a1) 42 [ga a0,ga a1] (λ r=>.int .i64 r):=ok1 (zi0.eq_1 a0 a1) Tryz.f42 []
attribute [local irreducible] zi0
def zaz2(j1:Unit):Option Bool:=
 some true
def zR9(a0 a1:List aA)(g1:Int):Option (Int⊕(Unit⊕Bool)):=
 (if(decide (g1<(a0.length:Int)))=true then
  gd (0<=g1/\g1<(a0.length:Int))<|
  gd (0<=g1/\g1<(a1.length:Int))<|
  (zo0 (a0.getD g1.toNat aA.zero) (a1.getD g1.toNat aA.zero)).bind λ v1=>
  (if(!v1)=true then
   some (.inr (.inr false))
  else
   some (.inl (i64.wrap (g1+1))))
 else
  some (.inr (.inl ())))
def zp7(a0 a1:List aA):Option Bool:=
 (if(!decide ((a0.length:Int)=(a1.length:Int)))=true then
  some false
 else
  (zc0 (zR9 a0 a1) 0).bind (λ|.inl z=>zaz2 z|.inr z=>some z))
@[reducible,instance] def zdP3 a0 a1:=mkJ (zp7 a0 a1) 0 (@zaz2.eq_1) λ(j1:Unit)=>⟨[],[],0⟩
@[reducible,instance] def zdP4 (a0 a1:List aA) {T:Type} (x:T):=mkL x (@zR9.eq_1 a0 a1) λ(g1:Int)=>⟨[(0,la a0),(1,la a1),(5,.int .i64 g1)],[],0⟩
instance zdi7(a0 a1:List aA):OkP (zp7 a0 a1) 39 [la a0,la a1] (λ r=>.bool r):=ok1 (zp7.eq_1 a0 a1) Tryz.f39 []
attribute [local irreducible] zp7
def zy1(a0:aM):Bool:=
 (((((zn4 a0.aI&&zK6 a0.aK)&&decide (0<=a0.aV))&&decide (a0.aV<=7))&&decide (0<=a0.bE))&&decide (a0.bE<=3))
instance zcA8(a0:aM):OkT 227 [.agg (aM.enc a0)] (.bool (zy1 a0)):=ok2 (λ r=>.bool r) (zy1.eq_1 a0) Tryz.f227 []
def zaE5(a1:aF)(a2:aC)(j1:Bool×(List aO)):Option (List aO):=
 (if(!j1.1)=true then
  gd (j1.2.length+1<=4294967296)<|
  some (j1.2++[(⟨a1,a2⟩:aO)])
 else
  some j1.2)
def zad1(a0:List aO)(a1:aF)(a2:aC)(g1:Bool×Int×(List aO)):Option ((Bool×Int×(List aO))⊕(Bool×(List aO))):=
 (if(decide (g1.2.1<(a0.length:Int)))=true then
  gd (0<=g1.2.1/\g1.2.1<(a0.length:Int))<|
  (if(decide ((a0.getD g1.2.1.toNat aO.zero).aI=a1))=true then
   some (.inl (g1.1,i64.wrap (g1.2.1+1),g1.2.2))
  else
   gd ((!g1.1)=true->0<=g1.2.1/\g1.2.1<(a0.length:Int))<|
   (if((!g1.1)&&decide (0<zq8 ((a0.getD g1.2.1.toNat aO.zero).aI) a1))=true then
    gd (g1.2.2.length+1<=4294967296)<|
    gd (0<=g1.2.1/\g1.2.1<(a0.length:Int))<|
    gd (g1.2.2.length+1+1<=4294967296)<|
    some (.inl (true,i64.wrap (g1.2.1+1),((g1.2.2++[(⟨a1,a2⟩:aO)])++[(a0.getD g1.2.1.toNat aO.zero)])))
   else
    gd (0<=g1.2.1/\g1.2.1<(a0.length:Int))<|
    gd (g1.2.2.length+1<=4294967296)<|
    some (.inl (g1.1,i64.wrap (g1.2.1+1),(g1.2.2++[(a0.getD g1.2.1.toNat aO.zero)])))))
 else
  some (.inr (g1.1,g1.2.2)))
def zq1(a0:List aO)(a1:aF)(a2:aC):Option (List aO):=
 (zc0 (zad1 a0 a1 a2) ((zd6 a2),0,[])).bind (λ z=>zaE5 a1 a2 z)
@[reducible,instance] def zdP5 a0 (a1:aF) (a2:aC):=mkJ (zq1 a0 a1 a2) 0 (@zaE5.eq_1 a1 a2) λ(j1:Bool×(List aO))=>⟨[(4,.ptr 0 0 0),(5,.ptr 1 0 0),(7,.own 2 0 j1.2.length),(8,.bool j1.1)],[(0,bx a1),(1,bx a2),(2,sx j1.2)],3⟩
@[reducible,instance] def zdP6 (a0:List aO) (a1:aF) (a2:aC) {T:Type} (x:T):=mkL x (@zad1.eq_1 a0 a1 a2) λ(g1:Bool×Int×(List aO))=>⟨[(0,la a0),(4,.ptr 0 0 0),(5,.ptr 1 0 0),(7,.own 2 0 g1.2.2.length),(8,.bool g1.1),(9,.int .i64 g1.2.1)],[(0,bx a1),(1,bx a2),(2,sx g1.2.2)],3⟩
instance zdn5(a0:List aO)(a1:aF)(a2:aC):OkP (zq1 a0 a1 a2) 171 [la a0,ga a1,ga a2] (λ r=>la r):=ok1 (zq1.eq_1 a0 a1 a2) Tryz.f171 [(7,1)]
attribute [local irreducible] zq1
def zo8(a0:aD)(a1:Int):Option aC:=
 (if(decide (a0.kind=1))=true then
  (zp2 a1).bind λ v1=>
  some ({aC.zero with mode:=v1})
 else
  (zo2 a1 a0.aU).bind λ v2=>
  some ({aC.zero with aU:=(i64.wrap (1+v2))}))
instance zda9(a0:aD)(a1:Int):OkP (zo8 a0 a1) 67 [ga a0,.int .i64 a1] (λ r=>ga r):=ok1 (zo8.eq_1 a0 a1) Tryz.f67 []
attribute [local irreducible] zo8
def zaH7(j1:(List Int)):Option (List Int):=
 some j1
def zaH8(g1:Int×(List Int))(j2:(List Int)):Option ((Int×(List Int))⊕(List Int)):=
 some (.inl ((i64.wrap (g1.1+1)),j2))
def zaH9(a0:aJ)(g2:Int×(List Int)):Option ((Int×(List Int))⊕(List Int)):=
 (if(decide (g2.1<(a0.options.length:Int)))=true then
  gd (0<=g2.1/\g2.1<(a0.options.length:Int))<|
  (zk9 g2.2 (a0.options.getD g2.1.toNat bC.zero)).bind λ v16=>
  some (.inl ((i64.wrap (g2.1+1)),v16))
 else
  some (.inr g2.2))
def zF1 (a0:aJ) (g1:Int×(List Int)):Option ((Int×(List Int))⊕(List Int)):=
 (if (decide (g1.1<(((zb1 a0.kind).toList.map λ b=>(b.toNat:Int)).length:Int)))=true then
  gd (0<=g1.1/\g1.1<(((zb1 a0.kind).toList.map λ b=>(b.toNat:Int)).length:Int))<|
  (if(decide (((zb1 a0.kind).toList.map λ b=>(b.toNat:Int)).getD g1.1.toNat 0=80))=true then
   (zg2 g1.2 a0.aI).bind λ v2=>
   some (.inl ((i64.wrap (g1.1+1)),v2))
  else
   (if(decide (((zb1 a0.kind).toList.map λ b=>(b.toNat:Int)).getD g1.1.toNat 0=71))=true then
    (zb3 g1.2 (u64.wrap a0.gen)).bind λ v3=>
    some (.inl ((i64.wrap (g1.1+1)),v3))
   else
    (if(decide (((zb1 a0.kind).toList.map λ b=>(b.toNat:Int)).getD g1.1.toNat 0=65))=true then
     (zg3 g1.2 a0.aY.name).bind λ v4=>
     (zb3 v4 (u64.wrap a0.aY.aK.mode)).bind λ v5=>
     (zb3 v5 (u64.wrap a0.aY.aK.aU)).bind λ v6=>
     some (.inl ((i64.wrap (g1.1+1)),v6))
    else
     (if(decide (((zb1 a0.kind).toList.map λ b=>(b.toNat:Int)).getD g1.1.toNat 0=89))=true then
      (zb3 g1.2 (u64.wrap a0.aV)).bind λ v7=>
      some (.inl ((i64.wrap (g1.1+1)),v7))
     else
      (if(decide (((zb1 a0.kind).toList.map λ b=>(b.toNat:Int)).getD g1.1.toNat 0=68))=true then
       (if a0.done=true then
        gd (g1.2.length+1<=4294967296)<|
        some (.inl ((i64.wrap (g1.1+1)),(g1.2++[1])))
       else
        gd (g1.2.length+1<=4294967296)<|
        some (.inl ((i64.wrap (g1.1+1)),(g1.2++[0]))))
      else
       (if(decide (((zb1 a0.kind).toList.map λ b=>(b.toNat:Int)).getD g1.1.toNat 0=83))=true then
        (zb3 g1.2 (u64.wrap a0.site)).bind λ v8=>
        some (.inl ((i64.wrap (g1.1+1)),v8))
       else
        (if(decide (((zb1 a0.kind).toList.map λ b=>(b.toNat:Int)).getD g1.1.toNat 0=73))=true then
         (zb3 g1.2 (u64.wrap a0.inc)).bind λ v9=>
         some (.inl ((i64.wrap (g1.1+1)),v9))
        else
         (if(decide (((zb1 a0.kind).toList.map λ b=>(b.toNat:Int)).getD g1.1.toNat 0=82))=true then
          (zb3 g1.2 (u64.wrap a0.round)).bind λ v10=>
          some (.inl ((i64.wrap (g1.1+1)),v10))
         else
          (if(decide (((zb1 a0.kind).toList.map λ b=>(b.toNat:Int)).getD g1.1.toNat 0=69))=true then
           (zb3 g1.2 (u64.wrap a0.epoch)).bind λ v11=>
           some (.inl ((i64.wrap (g1.1+1)),v11))
          else
           (if(decide (((zb1 a0.kind).toList.map λ b=>(b.toNat:Int)).getD g1.1.toNat 0=76))=true then
            (zb3 g1.2 (u64.wrap (i64.wrap (a0.label+1)))).bind λ v12=>
            some (.inl ((i64.wrap (g1.1+1)),v12))
           else
            (if(decide (((zb1 a0.kind).toList.map λ b=>(b.toNat:Int)).getD g1.1.toNat 0=87))=true then
             (zj1 a0.state).bind λ v13=>
             (zb3 g1.2 (u64.wrap (v13.1.length:Int))).bind λ v14=>
             gd (v14.length+v13.1.length<=4294967296)<|
             some (.inl ((i64.wrap (g1.1+1)),(v14++v13.1)))
            else
             (if(decide (((zb1 a0.kind).toList.map λ b=>(b.toNat:Int)).getD g1.1.toNat 0=79))=true then
              (zb3 g1.2 (u64.wrap (a0.options.length:Int))).bind λ v15=>
              (zc0 (zaH9 a0) (0,v15)).bind (λ z=>zaH8 g1 z)
             else
              some (.inl ((i64.wrap (g1.1+1)),g1.2))))))))))))))
 else
  some (.inr g1.2))
def zn0(a0:aJ):Option (List Int):=
 (zb3 [] (u64.wrap a0.kind)).bind λ v1=>
 gd ((zb1 a0.kind).size<=4294967296)<|
 (zc0 (zF1 a0) (0,v1)).bind (λ z=>zaH7 z)
@[reducible,instance] def zdP7 (a0:aJ) {T1:Type} (v1:T1):=mkJ (zn0 a0,v1) 0 (@zaH7.eq_1) λ(j1:(List Int))=>⟨[(3,.own 0 0 j1.length)],[(0,⟨false,1,[A.int .u8 0],j1.map (eI .u8)⟩)],1⟩
@[reducible,instance] def zdP8 (a0:aJ) (g1:Int×(List Int)) {T1:Type} (v15:T1):=mkJ (zF1 a0 g1,v15) 3 (@zaH8.eq_1 g1) λ(j2:(List Int))=>⟨[(1,.ptr 0 0 0),(3,.own 1 0 j2.length),(17,.sl (((zb1 a0.kind).toList.map λ b=>(b.toNat:Int)).map (eI .u8))),(18,.int .i64 (((zb1 a0.kind).toList.map λ b=>(b.toNat:Int)).length:Int)),(19,.int .i64 g1.1)],[(0,bx a0),(1,⟨false,1,[A.int .u8 0],j2.map (eI .u8)⟩)],2⟩
@[reducible,instance] def zdP9 (a0:aJ) (g1:Int×(List Int)) {T1:Type} (v15:T1):=mkL (zF1 a0 g1,v15) (@zaH9.eq_1 a0) λ(g2:Int×(List Int))=>⟨[(1,.ptr 0 0 0),(3,.own 1 0 g2.2.length),(17,.sl (((zb1 a0.kind).toList.map λ b=>(b.toNat:Int)).map (eI .u8))),(18,.int .i64 (((zb1 a0.kind).toList.map λ b=>(b.toNat:Int)).length:Int)),(19,.int .i64 g1.1),(136,la a0.options),(137,.int .i64 (a0.options.length:Int)),(138,.int .i64 g2.1)],[(0,bx a0),(1,⟨false,1,[A.int .u8 0],g2.2.map (eI .u8)⟩)],2⟩
@[reducible,instance] def zdQ0 (a0:aJ) {T:Type} (x:T):=mkL x (@zF1.eq_1 a0) λ(g1:Int×(List Int))=>⟨[(1,.ptr 0 0 0),(3,.own 1 0 g1.2.length),(17,.sl (((zb1 a0.kind).toList.map λ b=>(b.toNat:Int)).map (eI .u8))),(18,.int .i64 (((zb1 a0.kind).toList.map λ b=>(b.toNat:Int)).length:Int)),(19,.int .i64 g1.1)],[(0,bx a0),(1,⟨false,1,[A.int .u8 0],g1.2.map (eI .u8)⟩)],2⟩
instance zcU0(a0:aJ):OkP (zn0 a0) 109 [ga a0] (λ r=>.sl (r.map (eI .u8))):=⟨λ r h=>by
 refine zW0 Tryz.f109 [] λ E hG hN hK=>?_;have hm:Mk (zn0 a0):=trivial;unfold zn0 at h;refine za0 (za1 hG ?_);refine za0 (za1 hG ?_);obtain⟨v1,hv1,h⟩:=zb8 h;have hm:=mkP hm v1;refine zp6 [] [(0,1)] [0] (MFn.unfull1 ((zbg9 [] (u64.wrap a0.kind)).ok _ hv1)) rfl rfl ?_;exact gogo⟩
attribute [local irreducible] zn0
end
end Ab
end Go.Proofs.YtdlfhmkmnjbihaaGreatDoor
