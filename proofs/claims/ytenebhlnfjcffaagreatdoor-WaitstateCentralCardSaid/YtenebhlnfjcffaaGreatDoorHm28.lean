import Derived.Test.YtenebhlnfjcffaaGreatDoorHm18
import Derived.Test.YtenebhlnfjcffaaGreatDoorHm19
namespace Go.Proofs.YtenebhlnfjcffaaGreatDoor
namespace Ab
open IntKind (i64 u64 u8)
set_option linter.unusedSimpArgs false
set_option linter.defProp false
set_option linter.unusedVariables false
set_option maxRecDepth 100000
set_option maxHeartbeats 1000000
noncomputable section
attribute [local irreducible] zn8 zf5 zb5 za4 ze1 zm5 zb6 zb1 zo2 zi2 zl5 zi9 zn1 zf4 zd8 zg3 zk3 ze8 za7 zb2 zh7 zj7 zj3 zi8 zh4 zk4 zd0 zd9 zj9 zp2 zm8 zh0 zf8 ze0 ze4 zc8 za9 zk6 zh1 zo5 zh2 f_ref08_holds zc7 zl8 zg5 zh8 zn7 zg1 zi3 zf9 zb3 za0 zj2 zn3 zl9 zf0 zh5 zf1 zb7 ze2 zf2 zi6 zj8 zo7 zd6 ze5 zh9 zn4 zm3 zk2 zn9 zd7 zb9 zq5 zr0 zd4 zk7 zd1 zl3 zs0 zb0 ze9 za6 zi7 zc6 za1 zg2 zl4 zf6 zs1 zr4 zu3 zh6 zj5 zg6 zp6 zx8 zs4 ze7 zj0 zd3 ze6 zc0 zt1 zk1 zm1 zq8 zc1 zp3 zn6 zl1 zi0 zr1 zg7 zt7 zm2 zl6 zj4 zk0 zp4 zv1 zl2 zk5 zp5 zu2 za5 zm6 zq7 zi5 zt9 zo6 zt4 zn5 zq6 f_formula_holds zm0 zc3 zl0 zs2 zu0 zb8 zs9 zo8 zm7 zf7 ze3 zc5 zs3 zu1 zs5 zp0 zi1 zv9 zy7 zs8 zo4 zp7 zx4 zx0 zx5 zC9 zl7 zb4 zs7 zu9 zx9 zy8
def zF2(a0:aB):Option (List aL):=
 (zf5 a0.aP).bind λ v1=>
 (zt4 a0).bind λ v2=>
 gd (v1.length+v2.length<=4294967296)<|
 (zp0 (v1++v2)).bind λ v3=>
 some v3
instance zdr5(a0:aB):OkP (zF2 a0) 102 [ga a0] (λ r=>la r):=ok1 (zF2.eq_1 a0) Tryz.f102 []
attribute [local irreducible] zF2
def zt3(a0:aV)(a1:aF):Option Bool:=
 ((if(zw7 a1.aR&&decide (a1.since=0))=true then zx4 a0.aI a1.aK else some [])).bind λ v1=>
 ((if((zw7 a1.aR&&decide (a1.since=0))&&decide ((v1.length:Int)=0))=true then zl1 a0.aI a1.aK else some [])).bind λ v2=>
 ((if((zw7 a1.aR&&decide (a1.since=0))&&decide ((v1.length:Int)=0))=true then zm6 a1.aX else some [])).bind λ v3=>
 ((if((zw7 a1.aR&&decide (a1.since=0))&&decide ((v1.length:Int)=0))=true then za9 v2 v3 else some false)).bind λ v4=>
 some (((zw7 a1.aR&&decide (a1.since=0))&&decide ((v1.length:Int)=0))&&v4)
instance zck7(a0:aV)(a1:aF):OkP (zt3 a0 a1) 111 [ga a0,ga a1] (λ r=>.bool r):=ok1 (zt3.eq_1 a0 a1) Tryz.f111 []
attribute [local irreducible] zt3
def zbb3(j2:Unit):Option Bool:=
 some true
def zas2(a0:aB)(g1:Int):Option (Int⊕(Unit⊕Bool)):=
 (if(decide (g1<(a0.aT.length:Int)))=true then
  gd (0<=g1/\g1<(a0.aT.length:Int))<|
  gd (zv6 a0.aA ((a0.aT.getD g1.toNat aU.zero).aM)=true->0<=g1/\g1<(a0.aT.length:Int))<|
  ((if(zv6 a0.aA ((a0.aT.getD g1.toNat aU.zero).aM))=true then zo2 a0.aP ((a0.aT.getD g1.toNat aU.zero).aK)else some aC.zero)).bind λ v4=>
  (if((!(zv6 a0.aA ((a0.aT.getD g1.toNat aU.zero).aM)))||(!(zn2 v4)))=true then
   some (.inr (.inr false))
  else
   some (.inl (i64.wrap (g1+1))))
 else
  some (.inr (.inl ())))
def zas3(a0:aB)(j1:Unit):Option Bool:=
 (zc2 (zas2 a0) 0).bind (λ|.inl z=>zbb3 z|.inr z=>some z)
def zX6(a0:aB)(g2:Int):Option (Int⊕(Unit⊕Bool)):=
 (if(decide (g2<(a0.aN.length:Int)))=true then
  gd (0<=g2/\g2<(a0.aN.length:Int))<|
  (zo2 a0.aP ((a0.aN.getD g2.toNat aU.zero).aK)).bind λ v5=>
  ((if(!(((((zn2 v5||(!(zv6 a0.aA ((a0.aN.getD g2.toNat aU.zero).aM))))||(!(zu4 a0.aA ((a0.aN.getD g2.toNat aU.zero).aM) v5)))||decide ((a0.aN.getD g2.toNat aU.zero).aM=v5))||(!decide ((a0.aN.getD g2.toNat aU.zero).aZ=0)))||(!decide ((a0.aN.getD g2.toNat aU.zero).bR=0))))=true then zk6 a0.aN ((a0.aN.getD g2.toNat aU.zero).aK)else some 0)).bind λ v6=>
  (if((((((zn2 v5||(!(zv6 a0.aA ((a0.aN.getD g2.toNat aU.zero).aM))))||(!(zu4 a0.aA ((a0.aN.getD g2.toNat aU.zero).aM) v5)))||decide ((a0.aN.getD g2.toNat aU.zero).aM=v5))||(!decide ((a0.aN.getD g2.toNat aU.zero).aZ=0)))||(!decide ((a0.aN.getD g2.toNat aU.zero).bR=0)))||(!decide (v6=g2)))=true then
   some (.inr (.inr false))
  else
   some (.inl (i64.wrap (g2+1))))
 else
  some (.inr (.inl ())))
def zA1(a0:aB):Option Bool:=
 (zi5 a0.aA).bind λ v1=>
 ((if v1=true then zu9 a0.aA a0.aP else some false)).bind λ v2=>
 ((if(!(((!v1)||(!v2))||decide (8<(a0.aN.length:Int))))=true then zs9 a0.aT else some false)).bind λ v3=>
 (if(((((((!v1)||(!v2))||decide (8<(a0.aN.length:Int)))||(!v3))||decide (8<i64.wrap ((a0.aP.length:Int)+(a0.aT.length:Int))))||decide (a0.gen<0))||decide (1073741824<a0.gen))=true then
  some false
 else
  (zc2 (zX6 a0) 0).bind (λ|.inl z=>zas3 a0 z|.inr z=>some z))
@[reducible,instance] def zep2 a0 j1:=mkJ (zas3 a0 j1) 2 (@zbb3.eq_1) λ(j2:Unit)=>⟨[],[],0⟩
@[reducible,instance] def zep3 (a0:aB) {T:Type} (x:T):=mkL x (@zas2.eq_1 a0) λ(g1:Int)=>⟨[(1,.ptr 0 0 0),(3,.ptr 1 0 0),(7,.int .i64 g1)],[(0,bx a0),(1,bx a0.aA)],2⟩
@[reducible,instance] def zep4 (a0:aB) {T1:Type} (v1:T1) {T2:Type} (v2:T2) {T3:Type} (v3:T3):=mkJ (((zA1 a0,v1),v2),v3) 0 (@zas3.eq_1 a0) λ(j1:Unit)=>⟨[(1,.ptr 0 0 0),(3,.ptr 1 0 0)],[(0,bx a0),(1,bx a0.aA)],2⟩
@[reducible,instance] def zep5 (a0:aB) {T:Type} (x:T):=mkL x (@zX6.eq_1 a0) λ(g2:Int)=>⟨[(1,.ptr 0 0 0),(3,.ptr 1 0 0),(4,.int .i64 g2)],[(0,bx a0),(1,bx a0.aA)],2⟩
instance zdr6(a0:aB):OkP (zA1 a0) 238 [ga a0] (λ r=>.bool r):=ok1 (zA1.eq_1 a0) Tryz.f238 []
attribute [local irreducible] zA1
def zB2(a0:List aH)(a1:aJ):Option Int:=
 (zv9 a0).bind λ v1=>
 (if(!v1)=true then
  some 2
 else
  (zn1 a0 a1.name).bind λ v2=>
  (if(!v2.2)=true then
   some 10
  else
   (if(!(zv6 v2.1 a1.aM))=true then
    some 12
   else
    some 0)))
instance zdb9(a0:List aH)(a1:aJ):OkP (zB2 a0 a1) 189 [la a0,ga a1] (λ r=>.int .i64 r):=ok1 (zB2.eq_1 a0 a1) Tryz.f189 []
attribute [local irreducible] zB2
attribute [local irreducible] zr2 zr7 zo3 zv8 zy1 zw2
def zy3(a0:aQ)(a1:aL):Option (bP×Bool):=
 (zr7 a0.bI a1).bind λ v1=>
 (if(decide (0<=v1))=true then
  gd (0<=v1/\v1<(a0.bI.length:Int))<|
  (ze2 (a0.bI.getD v1.toNat bP.zero)).bind λ v2=>
  some (v2,true)
 else
  some ({bP.zero with},false))
instance zbB8(a0:aQ)(a1:aL):OkP (zy3 a0 a1) 12 [ga a0,ga a1] (λ r=>.tup [ga r.1,.bool r.2]):=⟨λ r h=>by
 refine zae9 Tryz.f12 [] λ E hG hN hK=>?_;have hm:Mk (zy3 a0 a1):=trivial;unfold zy3 at h;refine za3 (za8 hG ?_);refine za3 (za3 (za8 hG ?_));obtain⟨v1,hv1,h⟩:=zf3 h;have hm:=mkP hm v1;refine zw9 (λ hg=>(zbx0 a0.bI a1).ok _ hv1) ?_;refine za3 (za8 hG ?_);refine zq4 rfl hG h (λ _ h=>?_) (λ _ h=>?_)
 · refine za3 ?_
   obtain⟨hb1,h⟩:=zg8 h;refine za8 hG ?_;obtain⟨v2,hv2,h⟩:=zf3 h;have hm:=mkP hm v2;refine zw9 (λ hg=>(zbf1 (a0.bI.getD v1.toNat bP.zero)).ok _ hv2) ?_;refine zx6 ?_;exact zS5 h (by intro e;subst e;simp[aL.enc,aJ.enc,aC.enc])
 refine zo1 ?_;refine za3 (za8 hG ?_);refine zx6 ?_;exact zS5 h (by intro e;subst e;simp[aL.enc,aJ.enc,aC.enc])⟩
attribute [local irreducible] zy3
def zD2(a0:bH):Option Bool:=
 (zl7 a0.bN).bind λ v1=>
 some ((((v1&&decide (0<=a0.aZ))&&decide (a0.aZ<=7))&&decide (0<=a0.limit))&&decide (a0.limit<=1000))
instance zdc0(a0:bH):OkP (zD2 a0) 167 [ga a0] (λ r=>.bool r):=ok1 (zD2.eq_1 a0) Tryz.f167 []
attribute [local irreducible] zD2
def zN0(a0:aH)(a1:List bA)(a2:aL)(a3:aC):Option Bool:=
 (zu9 a0 a1).bind λ v1=>
 ((if((v1&&zr5 a2)&&zv6 a0 a3)=true then zt1 a1 a2 a3 else some [])).bind λ v2=>
 ((if((v1&&zr5 a2)&&zv6 a0 a3)=true then zu9 a0 v2 else some false)).bind λ v3=>
 some (((v1&&zr5 a2)&&zv6 a0 a3)&&v3)
instance zdz7(a0:aH)(a1:List bA)(a2:aL)(a3:aC):OkP (zN0 a0 a1 a2 a3) 288 [ga a0,la a1,ga a2,ga a3] (λ r=>.bool r):=ok1 (zN0.eq_1 a0 a1 a2 a3) Tryz.f288 []
attribute [local irreducible] zN0
def zB6 (a0:List aH) (a1:bL):Option (bM×bL):=
 (zb9 16 a1).bind λ v1=>
 (zb9 6 v1.2).bind λ v2=>
 (zr0 v2.1).bind λ v3=>
 (if(decide (v1.1=0))=true then
  (zb9 9 v2.2).bind λ v4=>
  some ({{{bM.zero with aK:=v3}with kind:=1}with n:=(i64.wrap (1+v4.1))},v4.2)
 else
  (if(decide (v1.1<9))=true then
   (zs8 a0 v2.2).bind λ v5=>
   some ({{{bM.zero with aK:=v3}with kind:=2}with aR:=v5.1},v5.2)
  else
   (if(decide (v1.1=9))=true then
    some ({{bM.zero with aK:=v3}with kind:=3},v2.2)
   else
    (if(decide (v1.1=10))=true then
     (zb9 (a0.length:Int) v2.2).bind λ v6=>
     gd (0<=v6.1/\v6.1<(a0.length:Int))<|
     some ({{{bM.zero with aK:=v3}with kind:=4}with name:=(a0.getD v6.1.toNat aH.zero).name},v6.2)
    else
     (if(decide (v1.1=11))=true then
      (zb9 4 v2.2).bind λ v7=>
      some ({{{bM.zero with aK:=v3}with kind:=5}with n:=(i64.wrap (1+v7.1))},v7.2)
     else
      (if(decide (v1.1=12))=true then
       (zb9 5 v2.2).bind λ v8=>
       some ({{{bM.zero with aK:=v3}with kind:=6}with n:=v8.1},v8.2)
      else
       (if(decide (v1.1=13))=true then
        some ({{bM.zero with aK:=v3}with kind:=7},v2.2)
       else
        (if(decide (v1.1=14))=true then
         some ({{bM.zero with aK:=v3}with kind:=8},v2.2)
        else
         (zb9 12 v2.2).bind λ v9=>
         some ({{{bM.zero with aK:=v3}with kind:=9}with n:=v9.1},v9.2)))))))))
instance zcL9(a0:List aH)(a1:bL):OkM (zB6 a0 a1) 75 [.ptr 0 0 0,la a0] [(0,bx a1)] 1 (λ r=>ga r.1) (λ r=>[(0,bx r.2)]) 1:=okm (zB6.eq_1 a0 a1) (λ r=>[ga r.1]) Tryz.f75 []
attribute [local irreducible] zB6
attribute [local irreducible] zy2 zz7 zi4
def zI8(a0:aB):Option Bool:=
 (zA1 a0).bind λ v1=>
 (if(!v1)=true then
  some false
 else
  (zn3 a0).bind λ v2=>
  ((if v2.2=true then zN0 a0.aA a0.aP v2.1.aK v2.1.aM else some false)).bind λ v3=>
  some ((!v2.2)||(!v3)))
instance zdc1(a0:aB):OkP (zI8 a0) 239 [ga a0] (λ r=>.bool r):=ok1 (zI8.eq_1 a0) Tryz.f239 []
attribute [local irreducible] zI8
def zE3(a0:aO):Option Bool:=
 (zi4 a0).bind λ v1=>
 some v1.2
instance zcM0(a0:aO):OkP (zE3 a0) 188 [ga a0] (λ r=>.bool r):=ok1 (zE3.eq_1 a0) Tryz.f188 []
attribute [local irreducible] zE3
def zbb4(j2:(List Bool)):Option (List Bool):=
 some j2
def zah3(a0:aO)(v1:(List aJ)×Bool)(g1:Int×(List Bool)):Option ((Int×(List Bool))⊕(List Bool)):=
 (if(decide (0<=g1.1))=true then
  gd (0<=g1.1/\g1.1<((g1.2.length:Nat):Int))<|
  (if(g1.2.getD g1.1.toNat false)=true then
   gd (0<=g1.1/\g1.1<((g1.2.length:Nat):Int))<|
   (f_ref08_holds a0 v1.1 (g1.2.set g1.1.toNat false)).bind λ v3=>
   gd (0<=g1.1/\g1.1<((g1.2.length:Nat):Int))<|
   some (.inl ((i64.wrap (g1.1-1)),(g1.2.set g1.1.toNat false).set g1.1.toNat (!v3)))
  else
   some (.inl ((i64.wrap (g1.1-1)),g1.2)))
 else
  some (.inr g1.2))
def zas4(a0:aO)(v1:(List aJ)×Bool)(j1:(List Bool)):Option (List Bool):=
 (zc2 (zah3 a0 v1) ((i64.wrap ((v1.1.length:Int)-1)),j1)).bind (λ z=>zbb4 z)
def zah4(a1:List Bool)(v1:(List aJ)×Bool)(g2:Int×(List Bool)):Option ((Int×(List Bool))⊕(List Bool)):=
 (if(decide (g2.1<(v1.1.length:Int)))=true then
  gd (decide (g2.1<(a1.length:Int))=true->0<=g2.1/\g2.1<(a1.length:Int))<|
  gd (0<=g2.1/\g2.1<((g2.2.length:Nat):Int))<|
  some (.inl ((i64.wrap (g2.1+1)),g2.2.set g2.1.toNat (decide (g2.1<(a1.length:Int))&&a1.getD g2.1.toNat false)))
 else
  some (.inr g2.2))
def zL6(a0:aO)(a1:List Bool):Option (List Bool):=
 (zi4 a0).bind λ v1=>
 gd (0<=(v1.1.length:Int)/\(v1.1.length:Int)<=(v1.1.length:Int)/\(v1.1.length:Int)<=4294967296)<|
 ((if v1.2=true then f_ref08_holds a0 v1.1 a1 else some false)).bind λ v2=>
 (if((!v1.2)||(!v2))=true then
  some (List.replicate ((v1.1.length:Int).toNat) false)
 else
  (zc2 (zah4 a1 v1) (0,List.replicate ((v1.1.length:Int).toNat) false)).bind (λ z=>zas4 a0 v1 z))
@[reducible,instance] def zep6 a0 v1 j1:=mkJ (zas4 a0 v1 j1) 2 (@zbb4.eq_1) λ(j2:(List Bool))=>⟨[(7,.own 0 0 j2.length)],[(0,⟨false,1,[A.bool false],j2.map eB⟩)],1⟩
@[reducible,instance] def zep7 (a0:aO) (v1:(List aJ)×Bool) {T:Type} (x:T):=mkL x (@zah3.eq_1 a0 v1) λ(g1:Int×(List Bool))=>⟨[(2,.ptr 0 0 0),(5,la v1.1),(7,.own 1 0 g1.2.length),(9,.int .i64 g1.1)],[(0,bx a0),(1,⟨false,1,[A.bool false],g1.2.map eB⟩)],2⟩
@[reducible,instance] def zep8 (a0:aO) a1 (v1:(List aJ)×Bool) {T1:Type} (v2:T1):=mkJ ((zL6 a0 a1,v1),v2) 0 (@zas4.eq_1 a0 v1) λ(j1:(List Bool))=>⟨[(2,.ptr 0 0 0),(5,la v1.1),(7,.own 1 0 j1.length)],[(0,bx a0),(1,⟨false,1,[A.bool false],j1.map eB⟩)],2⟩
@[reducible,instance] def zep9 (a0:aO) (a1:List Bool) (v1:(List aJ)×Bool) {T1:Type} (v2:T1):=mkL ((zL6 a0 a1,v1),v2) (@zah4.eq_1 a1 v1) λ(g2:Int×(List Bool))=>⟨[(1,.sl (a1.map eB)),(2,.ptr 0 0 0),(5,la v1.1),(7,.own 1 0 g2.2.length),(8,.int .i64 g2.1)],[(0,bx a0),(1,⟨false,1,[A.bool false],g2.2.map eB⟩)],2⟩
instance zdr7(a0:aO)(a1:List Bool):OkP (zL6 a0 a1) 253 [ga a0,.sl (a1.map eB)] (λ r=>.sl (r.map eB)):=ok1 (zL6.eq_1 a0 a1) Tryz.f253 []
attribute [local irreducible] zL6
def zF3(a0:aB):Option Bool:=
 (ze7 a0.aA).bind λ v1=>
 ((if v1=true then zs5 a0.aA a0.aP else some false)).bind λ v2=>
 ((if(v1&&v2)=true then zo4 a0 else some false)).bind λ v3=>
 ((if((v1&&v2)&&v3)=true then zr2 a0 else some false)).bind λ v4=>
 some (((((v1&&v2)&&v3)&&v4)&&decide (0<=a0.gen))&&decide (a0.gen<=1073741824))
instance zdr8(a0:aB):OkP (zF3 a0) 134 [ga a0] (λ r=>.bool r):=ok1 (zF3.eq_1 a0) Tryz.f134 []
attribute [local irreducible] zF3
def zt6(a0:aO):Option (List aJ):=
 (zl7 a0).bind λ v1=>
 (if(!v1)=true then
  some []
 else
  (zn5 a0).bind λ v2=>
  some v2)
instance zdc2(a0:aO):OkP (zt6 a0) 36 [ga a0] (λ r=>la r):=ok1 (zt6.eq_1 a0) Tryz.f36 []
attribute [local irreducible] zt6
def zbj0(v1 v2:aC)(v3:aC×Bool)(j1:Unit):Option Bool:=
 some (decide (v2=v1)&&(!v3.2))
def zbj1(v1 v2:aC)(v3:aC×Bool)(v4:aC)(j2:Unit):Option (Int⊕(Unit⊕Bool)):=
 some (.inr (.inr (decide (v2=v1)&&decide (v3.1=v4))))
def zU5(a0:aB)(a1:aF)(g2:Int):Option (Int⊕(Unit⊕Bool)):=
 (if(decide (g2<(a0.aT.length:Int)))=true then
  gd (0<=g2/\g2<(a0.aT.length:Int))<|
  gd (decide ((a0.aT.getD g2.toNat aU.zero).aK=a1.aK)=true->0<=g2/\g2<(a0.aT.length:Int))<|
  (if(decide ((a0.aT.getD g2.toNat aU.zero).aK=a1.aK)&&(!decide ((a0.aT.getD g2.toNat aU.zero).aZ=a1.aR.aZ)))=true then
   some (.inr (.inr false))
  else
   some (.inl (i64.wrap (g2+1))))
 else
  some (.inr (.inl ())))
def zaa8(a0:aB)(a1:aF)(a2:List aJ)(v1 v2:aC)(v3:aC×Bool)(g1:Int):Option (Int⊕(Unit⊕Bool)):=
 (if(decide (g1<(a2.length:Int)))=true then
  gd (0<=g1/\g1<(a2.length:Int))<|
  (if((!(((a2.getD g1.toNat aJ.zero).name).toList==a0.aA.name.toList))||zu4 a0.aA v1 ((a2.getD g1.toNat aJ.zero).aM))=true then
   some (.inl (i64.wrap (g1+1)))
  else
   (zy7 a0.aA v1 ((a2.getD g1.toNat aJ.zero).aM)).bind λ v4=>
   (if(!v3.2)=true then
    some (.inr (.inr (decide (v2=v4))))
   else
    (zc2 (zU5 a0 a1) 0).bind (λ|.inl z=>zbj1 v1 v2 v3 v4 z|.inr z=>some (.inr (.inr z)))))
 else
  some (.inr (.inl ())))
def zG2(a0:aB)(a1:aF)(a2:List aJ):Option Bool:=
 (zj7 a1.aX.aD a0.aA.name).bind λ v1=>
 (zj8 a0 a1.aK).bind λ v2=>
 (zi7 a0 a1.aK).bind λ v3=>
 (zc2 (zaa8 a0 a1 a2 v1 v2 v3) 0).bind (λ|.inl z=>zbj0 v1 v2 v3 z|.inr z=>some z)
@[reducible,instance] def zeq0 a0 a1 a2 (v1 v2:aC) (v3:aC×Bool):=mkJ (((zG2 a0 a1 a2,v1),v2),v3) 0 (@zbj0.eq_1 v1 v2 v3) λ(j1:Unit)=>⟨[(7,.ptr 0 0 0),(8,.ptr 1 0 0),(10,.bool v3.2)],[(0,bx v1),(1,bx v2)],2⟩
@[reducible,instance] def zeq1 a0 a1 a2 (v1 v2:aC) (v3:aC×Bool) g1 (v4:aC):=mkJ (zaa8 a0 a1 a2 v1 v2 v3 g1,v4) 2 (@zbj1.eq_1 v1 v2 v3 v4) λ(j2:Unit)=>⟨[(7,.ptr 0 0 0),(8,.ptr 1 0 0),(9,.ptr 2 0 0),(13,.ptr 3 0 0)],[(0,bx v1),(1,bx v2),(2,bx v3.1),(3,bx v4)],4⟩
@[reducible,instance] def zeq2 (a0:aB) (a1:aF) a2 (v1 v2:aC) (v3:aC×Bool) g1 (v4:aC):=mkL (zaa8 a0 a1 a2 v1 v2 v3 g1,v4) (@zU5.eq_1 a0 a1) λ(g2:Int)=>⟨[(3,.ptr 0 0 0),(4,.ptr 1 0 0),(7,.ptr 2 0 0),(8,.ptr 3 0 0),(9,.ptr 4 0 0),(13,.ptr 5 0 0),(14,.int .i64 g2)],[(0,bx a0),(1,bx a1),(2,bx v1),(3,bx v2),(4,bx v3.1),(5,bx v4)],6⟩
@[reducible,instance] def zeq3 (a0:aB) (a1:aF) (a2:List aJ) (v1 v2:aC) (v3:aC×Bool) {T:Type} (x:T):=mkL x (@zaa8.eq_1 a0 a1 a2 v1 v2 v3) λ(g1:Int)=>⟨[(2,la a2),(3,.ptr 0 0 0),(4,.ptr 1 0 0),(7,.ptr 2 0 0),(8,.ptr 3 0 0),(9,.ptr 4 0 0),(10,.bool v3.2),(11,.int .i64 g1)],[(0,bx a0),(1,bx a1),(2,bx v1),(3,bx v2),(4,bx v3.1)],5⟩
instance zdz8(a0:aB)(a1:aF)(a2:List aJ):OkP (zG2 a0 a1 a2) 128 [ga a0,ga a1,la a2] (λ r=>.bool r):=ok1 (zG2.eq_1 a0 a1 a2) Tryz.f128 []
attribute [local irreducible] zG2
def zbm9(j1:(List aB)):Option ((List aB)×Int):=
 some (j1,0)
def zaD4(a0:List aH)(g1:Int×(List aB)):Option ((Int×(List aB))⊕(List aB)):=
 (if(decide (g1.1<(a0.length:Int)))=true then
  gd (0<=g1.1/\g1.1<(a0.length:Int))<|
  gd (g1.2.length+1<=4294967296)<|
  some (.inl ((i64.wrap (g1.1+1)),(g1.2++[{aB.zero with aA:=(a0.getD g1.1.toNat aH.zero)}])))
 else
  some (.inr g1.2))
def zK7(a0:List aH):Option ((List aB)×Int):=
 (zv9 a0).bind λ v1=>
 (if(!v1)=true then
  some ([],1)
 else
  (zc2 (zaD4 a0) (0,[])).bind (λ z=>zbm9 z))
@[reducible,instance] def zeq4 a0 {T1:Type} (v1:T1):=mkJ (zK7 a0,v1) 0 (@zbm9.eq_1) λ(j1:(List aB))=>⟨[(4,.own 0 0 j1.length)],[(0,sx j1)],1⟩
@[reducible,instance] def zeq5 (a0:List aH) {T:Type} (x:T):=mkL x (@zaD4.eq_1 a0) λ(g1:Int×(List aB))=>⟨[(0,la a0),(4,.own 0 0 g1.2.length),(5,.int .i64 g1.1)],[(0,sx g1.2)],1⟩
instance zdE2(a0:List aH):OkP (zK7 a0) 76 [la a0] (λ r=>.tup [la r.1,.int .i64 r.2]):=ok1 (zK7.eq_1 a0) Tryz.f76 [(4,1)]
attribute [local irreducible] zK7
def zaH1(j1:(List aL)):Option (List aL):=
 (zp0 j1).bind λ v1=>
 some v1
def zah5(a0:List aB)(g1:Int×(List aL)):Option ((Int×(List aL))⊕(List aL)):=
 (if(decide (g1.1<(a0.length:Int)))=true then
  gd (0<=g1.1/\g1.1<(a0.length:Int))<|
  (zF2 (a0.getD g1.1.toNat aB.zero)).bind λ v2=>
  gd (g1.2.length+v2.length<=4294967296)<|
  some (.inl ((i64.wrap (g1.1+1)),(g1.2++v2)))
 else
  some (.inr g1.2))
def zF4(a0:List aB):Option (List aL):=
 (zc2 (zah5 a0) (0,[])).bind (λ z=>zaH1 z)
@[reducible,instance] def zeq6 a0:=mkJ (zF4 a0) 0 (@zaH1.eq_1) λ(j1:(List aL))=>⟨[(3,.own 0 0 j1.length)],[(0,sx j1)],1⟩
@[reducible,instance] def zeq7 (a0:List aB) {T:Type} (x:T):=mkL x (@zah5.eq_1 a0) λ(g1:Int×(List aL))=>⟨[(3,.own 0 0 g1.2.length),(6,la a0),(7,.int .i64 (a0.length:Int)),(8,.int .i64 g1.1)],[(0,sx g1.2)],1⟩
instance zdr9(a0:List aB):OkP (zF4 a0) 57 [la a0] (λ r=>la r):=ok1 (zF4.eq_1 a0) Tryz.f57 [(3,1)]
attribute [local irreducible] zF4
def zaL4(j1:(List Bool)):Option (List Bool):=
 some j1
def zac2(a0:List aB)(a1:aF)(v1:(List aJ))(g1:Int×(List Bool)):Option ((Int×(List Bool))⊕(List Bool)):=
 (if(decide (g1.1<(v1.length:Int)))=true then
  gd (0<=g1.1/\g1.1<(v1.length:Int))<|
  (zm5 a0 ((v1.getD g1.1.toNat aJ.zero).name)).bind λ v2=>
  gd (decide (0<=v2)=true->0<=v2/\v2<(a0.length:Int))<|
  gd (decide (0<=v2)=true->0<=v2/\v2<(a0.length:Int))<|
  ((if(decide (0<=v2))=true then zn4 (a0.getD v2.toNat aB.zero) a1.aK else some aC.zero)).bind λ v3=>
  ((if(decide (0<=v2))=true then zp5 ((a0.getD v2.toNat aB.zero).aA) v3 ((v1.getD g1.1.toNat aJ.zero).aM)else some false)).bind λ v4=>
  gd (g1.2.length+1<=4294967296)<|
  some (.inl ((i64.wrap (g1.1+1)),(g1.2++[(decide (0<=v2)&&v4)])))
 else
  some (.inr g1.2))
def zC1(a0:List aB)(a1:aF):Option (List Bool):=
 (zt6 a1.aR.bN).bind λ v1=>
 (zc2 (zac2 a0 a1 v1) (0,[])).bind (λ z=>zaL4 z)
@[reducible,instance] def zeq8 a0 a1 {T1:Type} (v1:T1):=mkJ (zC1 a0 a1,v1) 0 (@zaL4.eq_1) λ(j1:(List Bool))=>⟨[(5,.own 0 0 j1.length)],[(0,⟨false,1,[A.bool false],j1.map eB⟩)],1⟩
@[reducible,instance] def zeq9 (a0:List aB) (a1:aF) (v1:(List aJ)) {T:Type} (x:T):=mkL x (@zac2.eq_1 a0 a1 v1) λ(g1:Int×(List Bool))=>⟨[(0,la a0),(3,.ptr 0 0 0),(5,.own 1 0 g1.2.length),(12,la v1),(13,.int .i64 (v1.length:Int)),(14,.int .i64 g1.1)],[(0,bx a1),(1,⟨false,1,[A.bool false],g1.2.map eB⟩)],2⟩
instance zcM1(a0:List aB)(a1:aF):OkP (zC1 a0 a1) 171 [la a0,ga a1] (λ r=>.sl (r.map eB)):=ok1 (zC1.eq_1 a0 a1) Tryz.f171 [(5,1)]
attribute [local irreducible] zC1
def zw0(a0:aO)(a1:List Bool):Option Bool:=
 (zi4 a0).bind λ v1=>
 ((if v1.2=true then f_ref08_holds a0 v1.1 a1 else some false)).bind λ v2=>
 some (v1.2&&v2)
instance zds0(a0:aO)(a1:List Bool):OkP (zw0 a0 a1) 16 [ga a0,.sl (a1.map eB)] (λ r=>.bool r):=ok1 (zw0.eq_1 a0 a1) Tryz.f16 []
attribute [local irreducible] zw0
def zaL5(j1:Unit):Option Int:=
 some 0
def zac3(a0:List aH)(v1:(List aJ))(g1:Int):Option (Int⊕(Unit⊕Int)):=
 (if(decide (g1<(v1.length:Int)))=true then
  gd (0<=g1/\g1<(v1.length:Int))<|
  (zs7 a0 (v1.getD g1.toNat aJ.zero)).bind λ v2=>
  (if(!decide (v2=0))=true then
   some (.inr (.inr v2))
  else
   some (.inl (i64.wrap (g1+1))))
 else
  some (.inr (.inl ())))
def zC2(a0:List aH)(a1:aO):Option Int:=
 (zt6 a1).bind λ v1=>
 (if(decide ((v1.length:Int)=0))=true then
  some 1
 else
  (zc2 (zac3 a0 v1) 0).bind (λ|.inl z=>zaL5 z|.inr z=>some z))
@[reducible,instance] def zer0 a0 a1 {T1:Type} (v1:T1):=mkJ (zC2 a0 a1,v1) 0 (@zaL5.eq_1) λ(j1:Unit)=>⟨[],[],0⟩
@[reducible,instance] def zer1 (a0:List aH) (v1:(List aJ)) {T:Type} (x:T):=mkL x (@zac3.eq_1 a0 v1) λ(g1:Int)=>⟨[(0,la a0),(14,la v1),(15,.int .i64 (v1.length:Int)),(16,.int .i64 g1)],[],0⟩
instance zcM2(a0:List aH)(a1:aO):OkP (zC2 a0 a1) 168 [la a0,ga a1] (λ r=>.int .i64 r):=ok1 (zC2.eq_1 a0 a1) Tryz.f168 []
attribute [local irreducible] zC2
def zI9(a0:aO)(a1:List Bool):Option Bool:=
 (zt6 a0).bind λ v1=>
 ((if(decide (0<(v1.length:Int)))=true then f_formula_holds a0 v1 a1 else some false)).bind λ v2=>
 some (decide (0<(v1.length:Int))&&v2)
instance zdc3(a0:aO)(a1:List Bool):OkP (zI9 a0 a1) 170 [ga a0,.sl (a1.map eB)] (λ r=>.bool r):=ok1 (zI9.eq_1 a0 a1) Tryz.f170 []
attribute [local irreducible] zI9
def zaR8(j1:Unit):Option Int:=
 some 0
def zak0(a0:List aH)(v1:(List aJ)×Bool)(g1:Int):Option (Int⊕(Unit⊕Int)):=
 (if(decide (g1<(v1.1.length:Int)))=true then
  gd (0<=g1/\g1<(v1.1.length:Int))<|
  (zB2 a0 (v1.1.getD g1.toNat aJ.zero)).bind λ v2=>
  (if(!decide (v2=0))=true then
   some (.inr (.inr v2))
  else
   some (.inl (i64.wrap (g1+1))))
 else
  some (.inr (.inl ())))
def zD3(a0:List aH)(a1:aO):Option Int:=
 (zi4 a1).bind λ v1=>
 (if(!v1.2)=true then
  some 1
 else
  (zc2 (zak0 a0 v1) 0).bind (λ|.inl z=>zaR8 z|.inr z=>some z))
@[reducible,instance] def zer2 a0 a1 {T1:Type} (v1:T1):=mkJ (zD3 a0 a1,v1) 0 (@zaR8.eq_1) λ(j1:Unit)=>⟨[],[],0⟩
@[reducible,instance] def zer3 (a0:List aH) (v1:(List aJ)×Bool) {T:Type} (x:T):=mkL x (@zak0.eq_1 a0 v1) λ(g1:Int)=>⟨[(0,la a0),(5,la v1.1),(7,.int .i64 g1)],[],0⟩
instance zdc4(a0:List aH)(a1:aO):OkP (zD3 a0 a1) 126 [la a0,ga a1] (λ r=>.int .i64 r):=ok1 (zD3.eq_1 a0 a1) Tryz.f126 []
attribute [local irreducible] zD3
def zw8(a0:aO):Option (List aJ):=
 (zi4 a0).bind λ v1=>
 some v1.1
instance zds1(a0:aO):OkP (zw8 a0) 87 [ga a0] (λ r=>la r):=ok1 (zw8.eq_1 a0) Tryz.f87 []
attribute [local irreducible] zw8
end
end Ab
end Go.Proofs.YtenebhlnfjcffaaGreatDoor
