import Derived.Test.YtogpinppgncpmaaGreatDoorHm22
import Derived.Test.YtogpinppgncpmaaGreatDoorHm18
namespace Go.Proofs.YtogpinppgncpmaaGreatDoor
namespace Ab
open IntKind (i64 u64 u8)
set_option linter.unusedSimpArgs false
set_option linter.defProp false
set_option linter.unusedVariables false
set_option maxRecDepth 100000
set_option maxHeartbeats 1000000
noncomputable section
attribute [local irreducible] zb2 za4 zd4 za6 zh1 zm5 zm4 zh2 zk4 zi2 zd7 zg4 za7 zn9 zh3 zj7 ze3 za8 zg8 zi3 zg1 zl1 zj1 za9 zf9 ze4 zh8 ze5 zk7 zk0 zk1 zn8 zg9 zm3 f_ref08_holds zj9 zc5 zf8 zd0 zd9 ze6 zn2 zm9 zg7 ze7 zg0 zb3 za0 zf2 zj3 zl8 zh9 zf3 zh4 zo0 zn0 zk2 zb4 zd1 zd2 zd6 zg3 zd8 zc3 zo7 za1 zq1 zi0 zi5 zh5 zj5 zc1 zb0 ze9 zf4 zn1 zo8 zp1 ze8 zb8 zi6 zi4 zp7 zi7 zc6 ze0 zs0 zj6 zo2 zj8 zg5 zp8 zl2 zh0 zb5 zi8 zr5 zp9 zk3 zb9 zk8 zl4 zr3 zh7 zt3 zf1 zg2 zf0 zr9 zu3 zi9 zk9 ze2 zi1 za5 zm0 zt0 zq7 zu0 zv1 zq8 zd3 zq5 zu1 zl6 ze1 zu5 zu2 zr6 zt6 zc8 zc2 zj4 zr4 zo1 zm7 zb7 zA8 zv8 zs6 zp2 zw3 zy8 zD6 zA9
def zz7 (a0:aI) (a1:List aU) (a2:aJ) (a3:aC):Option Bool :=
 (zs6 a0 a1).bind fun v1 =>
 some ((v1&&zb6 a2)&&zb1 a0 a3)
instance zcJ8 (a0:aI) (a1:List aU) (a2:aJ) (a3:aC):OkP (zz7 a0 a1 a2 a3) 174 [ga a0,la a1,ga a2,ga a3] (fun r=>.bool r):=ok1 (zz7.eq_1 a0 a1 a2 a3) Tryz.f174 []
attribute [local irreducible] zz7
def zbg8 (j1:(List aA)):Option ((List aA)×Int) :=
 some (j1,0)
def zay5 (a0:List aI) (g1:Int×(List aA)):Option ((Int×(List aA))⊕(List aA)) :=
 (if (decide (g1.1 < (a0.length:Int)))=true then
  gd (0≤g1.1∧g1.1 < (a0.length:Int)) <|
  gd (g1.2.length+1≤4294967296) <|
  some (.inl ((i64.wrap (g1.1+1)),(g1.2++[{ aA.zero with aB:=(a0.getD g1.1.toNat aI.zero) }])))
 else
  some (.inr g1.2))
def zQ3 (a0:List aI):Option ((List aA)×Int) :=
 (zw3 a0).bind fun v1 =>
 (if (!v1)=true then
  some ([],1)
 else
  (zc0 (zay5 a0) (0,[])).bind (fun z=>zbg8 z))
@[reducible,instance] def zdX4 a0 {T1:Type} (v1:T1):=mkJ (zQ3 a0,v1) 0 (@zbg8.eq_1) fun (j1:(List aA))=>⟨[(4,.own 0 0 j1.length)],[(0,sx j1)],1⟩
@[reducible,instance] def zdX5 (a0:List aI) {T:Type} (x:T):=mkL x (@zay5.eq_1 a0) fun (g1:Int×(List aA))=>⟨[(0,la a0),(4,.own 0 0 g1.2.length),(5,.int .i64 g1.1)],[(0,sx g1.2)],1⟩
instance zdp1 (a0:List aI):OkP (zQ3 a0) 96 [la a0] (fun r=>.tup [la r.1,.int .i64 r.2]):=ok1 (zQ3.eq_1 a0) Tryz.f96 [(4,1)]
attribute [local irreducible] zQ3
def zbc2 (v1 v2:aC) (v3:aC×Bool) (j1:Unit):Option Bool :=
 some (decide (v2=v1)&&(!v3.2))
def zbc3 (v1 v2:aC) (v3:aC×Bool) (v4:aC) (j2:Unit):Option (Int⊕(Unit⊕Bool)) :=
 some (.inr (.inr (decide (v2=v1)&&decide (v3.1=v4))))
def zZ6 (a0:aA) (a1:aH) (g2:Int):Option (Int⊕(Unit⊕Bool)) :=
 (if (decide (g2 < (a0.aV.length:Int)))=true then
  gd (0≤g2∧g2 < (a0.aV.length:Int)) <|
  gd (decide ((a0.aV.getD g2.toNat aT.zero).aN=a1.aN)=true→0≤g2∧g2 < (a0.aV.length:Int)) <|
  (if (decide ((a0.aV.getD g2.toNat aT.zero).aN=a1.aN)&&(!decide ((a0.aV.getD g2.toNat aT.zero).bG=a1.bF.bG)))=true then
   some (.inr (.inr false))
  else
   some (.inl (i64.wrap (g2+1))))
 else
  some (.inr (.inl ())))
def zZ7 (a0:aA) (a1:aH) (a2:List aM) (v1 v2:aC) (v3:aC×Bool) (g1:Int):Option (Int⊕(Unit⊕Bool)) :=
 (if (decide (g1 < (a2.length:Int)))=true then
  gd (0≤g1∧g1 < (a2.length:Int)) <|
  (if ((!(((a2.getD g1.toNat aM.zero).name).toList == a0.aB.name.toList))||zs4 a0.aB v1 ((a2.getD g1.toNat aM.zero).aK))=true then
   some (.inl (i64.wrap (g1+1)))
  else
   (zA8 a0.aB v1 ((a2.getD g1.toNat aM.zero).aK)).bind fun v4 =>
   (if (!v3.2)=true then
    some (.inr (.inr (decide (v2=v4))))
   else
    (zc0 (zZ6 a0 a1) 0).bind (fun|.inl z=>zbc3 v1 v2 v3 v4 z|.inr z=>some (.inr (.inr z)))))
 else
  some (.inr (.inl ())))
def zJ6 (a0:aA) (a1:aH) (a2:List aM):Option Bool :=
 (zj3 a1.bH.aP a0.aB.name).bind fun v1 =>
 (zi0 a0 a1.aN).bind fun v2 =>
 (zi4 a0 a1.aN).bind fun v3 =>
 (zc0 (zZ7 a0 a1 a2 v1 v2 v3) 0).bind (fun|.inl z=>zbc2 v1 v2 v3 z|.inr z=>some z)
@[reducible,instance] def zdX6 a0 a1 a2 (v1 v2:aC) (v3:aC×Bool):=mkJ (((zJ6 a0 a1 a2,v1),v2),v3) 0 (@zbc2.eq_1 v1 v2 v3) fun (j1:Unit)=>⟨[(7,.ptr 0 0 0),(8,.ptr 1 0 0),(10,.bool v3.2)],[(0,bx v1),(1,bx v2)],2⟩
@[reducible,instance] def zdX7 a0 a1 a2 (v1 v2:aC) (v3:aC×Bool) g1 (v4:aC):=mkJ (zZ7 a0 a1 a2 v1 v2 v3 g1,v4) 2 (@zbc3.eq_1 v1 v2 v3 v4) fun (j2:Unit)=>⟨[(7,.ptr 0 0 0),(8,.ptr 1 0 0),(9,.ptr 2 0 0),(13,.ptr 3 0 0)],[(0,bx v1),(1,bx v2),(2,bx v3.1),(3,bx v4)],4⟩
@[reducible,instance] def zdX8 (a0:aA) (a1:aH) a2 (v1 v2:aC) (v3:aC×Bool) g1 (v4:aC):=mkL (zZ7 a0 a1 a2 v1 v2 v3 g1,v4) (@zZ6.eq_1 a0 a1) fun (g2:Int)=>⟨[(3,.ptr 0 0 0),(4,.ptr 1 0 0),(7,.ptr 2 0 0),(8,.ptr 3 0 0),(9,.ptr 4 0 0),(13,.ptr 5 0 0),(14,.int .i64 g2)],[(0,bx a0),(1,bx a1),(2,bx v1),(3,bx v2),(4,bx v3.1),(5,bx v4)],6⟩
@[reducible,instance] def zdX9 (a0:aA) (a1:aH) (a2:List aM) (v1 v2:aC) (v3:aC×Bool) {T:Type} (x:T):=mkL x (@zZ7.eq_1 a0 a1 a2 v1 v2 v3) fun (g1:Int)=>⟨[(2,la a2),(3,.ptr 0 0 0),(4,.ptr 1 0 0),(7,.ptr 2 0 0),(8,.ptr 3 0 0),(9,.ptr 4 0 0),(10,.bool v3.2),(11,.int .i64 g1)],[(0,bx a0),(1,bx a1),(2,bx v1),(3,bx v2),(4,bx v3.1)],5⟩
instance zdl4 (a0:aA) (a1:aH) (a2:List aM):OkP (zJ6 a0 a1 a2) 154 [ga a0,ga a1,la a2] (fun r=>.bool r):=ok1 (zJ6.eq_1 a0 a1 a2) Tryz.f154 []
attribute [local irreducible] zJ6
attribute [local irreducible] zq6 zm6 zu7 zw2 zr7 zl5 zv6 zy3 zB9
def zP1 (a0:aA):Option Bool :=
 (zf1 a0.aB).bind fun v1 =>
 ((if v1=true then zs6 a0.aB a0.aR else some false)).bind fun v2 =>
 ((if (v1&&v2)=true then zr7 a0 else some false)).bind fun v3 =>
 ((if ((v1&&v2)&&v3)=true then zq6 a0 else some false)).bind fun v4 =>
 some (((((v1&&v2)&&v3)&&v4)&&decide (0≤a0.gen))&&decide (a0.gen≤1073741824))
instance zdd1 (a0:aA):OkP (zP1 a0) 127 [ga a0] (fun r=>.bool r):=ok1 (zP1.eq_1 a0) Tryz.f127 []
attribute [local irreducible] zP1
def zz8 (a0:aD) (a1:aJ):Option (bC×Bool) :=
 (zp2 a0.aQ a1).bind fun v1 =>
 (if (decide (0≤v1))=true then
  gd (0≤v1∧v1 < (a0.aQ.length:Int)) <|
  (zd1 (a0.aQ.getD v1.toNat bC.zero)).bind fun v2 =>
  some (v2,true)
 else
  some ({ bC.zero with  },false))
instance zbv4 (a0:aD) (a1:aJ):OkP (zz8 a0 a1) 13 [ga a0,ga a1] (fun r=>.tup [ga r.1,.bool r.2]):=⟨fun r h=>by
 refine zad2 Tryz.f13 [] fun E hG hN hK=>?_
 have hm:Mk (zz8 a0 a1):=trivial
 unfold zz8 at h
 refine za2 (za3 hG ?_)
 refine za2 (za2 (za3 hG ?_))
 obtain ⟨v1,hv1,h⟩:=zc9 h
 have hm:=mkP hm v1
 refine zq4 (fun hg=>(zaK9 a0.aQ a1).ok _ hv1) ?_
 refine za2 (za3 hG ?_)
 refine zl0 rfl hG h (fun _ h=>?_) (fun _ h=>?_)
 · refine za2 ?_
   obtain ⟨hb1,h⟩:=zd5 h
   refine za3 hG ?_
   obtain ⟨v2,hv2,h⟩:=zc9 h
   have hm:=mkP hm v2
   refine zq4 (fun hg=>(zag8 (a0.aQ.getD v1.toNat bC.zero)).ok _ hv2) ?_
   refine zt2 ?_
   exact zI9 h (by intro e; subst e; simp [aJ.enc,aM.enc,aC.enc])
 refine zj2 ?_
 refine za2 (za3 hG ?_)
 refine zt2 ?_
 exact zI9 h (by intro e; subst e; simp [aJ.enc,aM.enc,aC.enc])⟩
attribute [local irreducible] zz8
def zC4 (a0:aO):Option (List aM) :=
 (zo1 a0).bind fun v1 =>
 (if (!v1)=true then
  some []
 else
  (zq7 a0).bind fun v2 =>
  some v2)
instance zcP9 (a0:aO):OkP (zC4 a0) 45 [ga a0] (fun r=>la r):=ok1 (zC4.eq_1 a0) Tryz.f45 []
attribute [local irreducible] zC4
def zD7 (a0:List aI) (a1:bJ):Option (bM×bJ) :=
 (zb8 16 a1).bind fun v1 =>
 (zb8 6 v1.2).bind fun v2 =>
 (zp1 v2.1).bind fun v3 =>
 (if (decide (v1.1=0))=true then
  (zb8 9 v2.2).bind fun v4 =>
  some ({ { { bM.zero with aN:=v3 } with kind:=1 } with n:=(i64.wrap (1+v4.1)) },v4.2)
 else
  (if (decide (v1.1 < 9))=true then
   (zv6 a0 v2.2).bind fun v5 =>
   some ({ { { bM.zero with aN:=v3 } with kind:=2 } with bF:=v5.1 },v5.2)
  else
   (if (decide (v1.1=9))=true then
    some ({ { bM.zero with aN:=v3 } with kind:=3 },v2.2)
   else
    (if (decide (v1.1=10))=true then
     (zb8 (a0.length:Int) v2.2).bind fun v6 =>
     gd (0≤v6.1∧v6.1 < (a0.length:Int)) <|
     some ({ { { bM.zero with aN:=v3 } with kind:=4 } with name:=(a0.getD v6.1.toNat aI.zero).name },v6.2)
    else
     (if (decide (v1.1=11))=true then
      (zb8 4 v2.2).bind fun v7 =>
      some ({ { { bM.zero with aN:=v3 } with kind:=5 } with n:=(i64.wrap (1+v7.1)) },v7.2)
     else
      (if (decide (v1.1=12))=true then
       (zb8 5 v2.2).bind fun v8 =>
       some ({ { { bM.zero with aN:=v3 } with kind:=6 } with n:=v8.1 },v8.2)
      else
       (if (decide (v1.1=13))=true then
        some ({ { bM.zero with aN:=v3 } with kind:=7 },v2.2)
       else
        (if (decide (v1.1=14))=true then
         some ({ { bM.zero with aN:=v3 } with kind:=8 },v2.2)
        else
         (zb8 12 v2.2).bind fun v9 =>
         some ({ { { bM.zero with aN:=v3 } with kind:=9 } with n:=v9.1 },v9.2)))))))))
instance zcB2 (a0:List aI) (a1:bJ):OkM (zD7 a0 a1) 95 [.ptr 0 0 0,la a0] [(0,bx a1)] 1 (fun r=>ga r.1) (fun r=>[(0,bx r.2)]) 1:=okm (zD7.eq_1 a0 a1) (fun r=>[ga r.1]) Tryz.f95 []
attribute [local irreducible] zD7
end
end Ab
end Go.Proofs.YtogpinppgncpmaaGreatDoor
