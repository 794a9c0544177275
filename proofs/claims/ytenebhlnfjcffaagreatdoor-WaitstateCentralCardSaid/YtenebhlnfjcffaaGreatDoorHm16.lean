import Derived.Test.YtenebhlnfjcffaaGreatDoorHm9
import Derived.Test.YtenebhlnfjcffaaGreatDoorHm10
import Derived.Test.YtenebhlnfjcffaaGreatDoorHm12
import Derived.Test.YtenebhlnfjcffaaGreatDoorSort
namespace Go.Proofs.YtenebhlnfjcffaaGreatDoor
namespace Ab
open IntKind (i64 u64 u8)
set_option linter.unusedSimpArgs false
set_option linter.defProp false
set_option linter.unusedVariables false
set_option maxRecDepth 100000
set_option maxHeartbeats 1000000
noncomputable section
attribute [local irreducible] zn8 zf5 zb5 za4 ze1 zm5 zb6 zb1 zo2 zi2 zl5 zi9 zn1 zf4 zd8 zg3 zk3 ze8 za7 zb2 zh7 zj7 zj3 zi8 zh4 zk4 zd0 zd9 zj9 zp2 zm8 zh0 zf8 ze0 ze4 zc8 za9 zk6 zh1 zo5 zh2 f_ref08_holds zc7 zl8 zg5 zh8 zn7 zg1 zi3 zf9 zb3 za0 zj2 zn3 zl9 zf0 zh5 zf1 zb7 ze2 zf2 zi6 zj8 zo7 zd6 ze5 zh9 zn4 zm3 zk2 zn9 zd7 zb9 zq5 zr0 zd4 zk7 zd1 zl3 zs0 zb0 ze9 za6 zi7 zc6 za1 zg2 zl4 zf6 zs1 zr4 zu3 zh6 zj5 zg6 zp6 zx8 zs4 ze7 zj0 zd3 ze6 zc0 zt1 zk1 zm1 zq8 zc1 zp3 zn6 zl1 zi0 zr1 zg7 zt7
def zal4(j1:(List aJ)):Option (Bool×(List aJ)):=
 some (true,j1)
@[go_sem] def zdM5(j1:(List aJ)):St:=⟨[],[(0,⟨false,1,[A.sl ([].map aJ.enc)],[[.own 2 0 j1.length]]⟩),(2,sx j1)],3⟩
def zO9(a90:(aO->List aJ->Option (Bool×(List aJ))))(a0:aO)(g1:Int×(List aJ)):Option ((Int×(List aJ))⊕((List aJ)⊕(Bool×(List aJ)))):=
 (if(decide (g1.1<(a0.bE.length:Int)))=true then
  gd (0<=g1.1/\g1.1<(a0.bE.length:Int))<|
  (a90 (a0.bE.getD g1.1.toNat aO.zero) g1.2).bind λ v3=>
  (if(!v3.1)=true then
   some (.inr (.inr (false,v3.2)))
  else
   some (.inl ((i64.wrap (g1.1+1)),v3.2)))
 else
  some (.inr (.inl g1.2)))
@[go_sem] def zdM6(a0:aO)(g1:Int×(List aJ)):St:=⟨[(1,.ptr 0 0 0),(44,la a0.bE),(45,.int .i64 (a0.bE.length:Int)),(46,.int .i64 g1.1)],[(0,⟨false,1,[A.sl ([].map aJ.enc)],[[.own 2 0 g1.2.length]]⟩),(2,sx g1.2)],3⟩
def zT0(a90:(aO->List aJ->Option (Bool×(List aJ))))(a0:aO)(a1:List aJ):Option (Bool×(List aJ)):=
 (if(decide ((a0.bE.length:Int)=0))=true then
  ((if(decide (a0.k=0))=true then zj0 a0.bG else some false)).bind λ v1=>
  (if(decide (a0.k=0)&&v1)=true then
   (zg1 a0.bG a1).bind λ v2=>
   some (((decide (a0.k=0)&&v1)&&decide (v2.1=0)),v2.2)
  else
   some (((decide (a0.k=0)&&v1)&&decide (0=0)),a1))
 else
  (if((decide (a0.k<1)||decide ((a0.bE.length:Int)<a0.k))||(!decide (a0.bG={aJ.zero with})))=true then
   some (false,a1)
  else
   (zc2 (zO9 a90 a0) (0,a1)).bind (λ|.inl z=>zal4 z|.inr z=>some z)))
def zy9:Nat->(aO->List aJ->Option (Bool×(List aJ)))
 |0=>λ _ _=>none
 |n+1=>zT0 (zy9 n)
def zo6(a0:aO)(a1:List aJ):Option (Bool×(List aJ)):=zy9 (_root_.SizeOf.sizeOf a0+1) a0 a1
theorem zbm5(a90:(aO->List aJ->Option (Bool×(List aJ))))(hrc:∀(a0:aO) (a1:List aJ) (r:Bool×(List aJ)),a90 a0 a1=some r->MFn C 81 [ga a0,.ptr 0 0 0] [(0,⟨false,1,[A.sl ([].map aJ.enc)],[[.own 1 0 a1.length]]⟩),(1,sx a1)] 2 (.bool r.1) [(0,⟨false,1,[A.sl ([].map aJ.enc)],[[.own 2 0 r.2.length]]⟩),(2,sx r.2)] 3)(a0:aO)(a1:List aJ)(r:Bool×(List aJ))(h:zT0 a90 a0 a1=some r):MFn C 81 [ga a0,.ptr 0 0 0] [(0,⟨false,1,[A.sl ([].map aJ.enc)],[[.own 1 0 a1.length]]⟩),(1,sx a1)] 2 (.bool r.1) [(0,⟨false,1,[A.sl ([].map aJ.enc)],[[.own 2 0 r.2.length]]⟩),(2,sx r.2)] 3:=by
 refine zaK6 Tryz.f81 [] [.bool r.1] λ E hG hN hK=>?_;unfold zT0 at h;refine za3 (za8 hG ?_);refine za3 (za3 (za8 hG ?_));refine zq4 rfl hG h (λ _ h=>?_) (λ _ h=>?_)
 · refine za3 (za8 hG ?_)
   obtain⟨v1,hv1,h⟩:=zf3 h;refine zw9 (λ hg=>(zbm2 a0.bG).ok _ (zaZ9 hg hv1)) ?_;refine zcT8 h (λ hc h=>?_) (λ hc h=>?_)
   · obtain⟨v2,hv2,h⟩:=zf3 h
     refine zcz8 hc [(0,0),(1,1)] [(2,3)] [0,1,2] ((zbw5 a0.bG a1).ok _ hv2) rfl rfl ?_;refine zx6 ?_;exact zV5 [(0,0),(2,3)] h
   refine zcz9 hc (.int .i64 0) ?_;refine zx6 ?_;exact zV5 [(0,0),(2,1)] h
 refine zo1 ?_;refine za3 (za3 (za8 hG ?_));refine zq4 rfl hG h (λ _ h=>?_) (λ _ h=>?_)
 · refine za3 (za8 hG ?_)
   refine zx6 ?_;exact zV5 [(0,0),(2,1)] h
 refine zo1 ?_;refine za3 (za3 (za8 hG ?_));refine zO8 zdM5 (λ v=>zal4 v=some r) ?_ ?_
 · intro j1 h
   unfold zal4 at h;refine g_st ?_;refine za3 (za8 hG ?_);refine zx6 ?_;exact zV5 [(0,0),(2,2)] h
 refine zau2 (zdM6 a0) hK [(0,0),(2,1)] h (λ x_l1 h g1 y_l1 h_l1 hx_l1=>?_);unfold zO9 at h_l1;refine g_st ?_;refine za3 (za8 hG ?_);refine za3 ?_;refine zq4 rfl hG h_l1 (λ _ h_l1=>?_) (λ _ h_l1=>?_)
 · refine zo1 ?_
   refine za3 (zM3 (za3 ?_));obtain⟨hb1,h_l1⟩:=zg8 h_l1;refine za8 hG ?_;refine za3 (za8 hG ?_);obtain⟨v3,hv3,h_l1⟩:=zf3 h_l1;refine zv5 [(0,0),(1,2)] [(2,4)] [0,1,2] (hrc (a0.bE.getD g1.1.toNat aO.zero) g1.2 _ hv3) rfl rfl ?_;refine zq4 rfl hG h_l1 (λ _ h_l1=>?_) (λ _ h_l1=>?_)
   · refine za3 (za8 hG ?_)
     refine zx6 ?_;cases h_l1;cases hx_l1 _ rfl;exact zV5 [(0,0),(2,4)] h
   refine zo1 ?_;refine za8 hG ?_;exact zZ9 hK [(0,0),(2,4)] h_l1
 refine zS4 ?_;cases h_l1;cases hx_l1 _ rfl;exact zJ8 hK [(0,0),(2,2)] g1.2 (by exact h)
theorem zaL3:∀(n:Nat) (a0:aO) (a1:List aJ) (r:Bool×(List aJ)),zy9 n a0 a1=some r->MFn C 81 [ga a0,.ptr 0 0 0] [(0,⟨false,1,[A.sl ([].map aJ.enc)],[[.own 1 0 a1.length]]⟩),(1,sx a1)] 2 (.bool r.1) [(0,⟨false,1,[A.sl ([].map aJ.enc)],[[.own 2 0 r.2.length]]⟩),(2,sx r.2)] 3
 |0,_,_,_,h=>nomatch h
 |n+1,a0,a1,r,h=>zbm5 (zy9 n) (zaL3 n) a0 a1 r h
instance zbm6(a0:aO)(a1:List aJ):OkM (zo6 a0 a1) 81 [ga a0,.ptr 0 0 0] [(0,⟨false,1,[A.sl ([].map aJ.enc)],[[.own 1 0 a1.length]]⟩),(1,sx a1)] 2 (λ r=>.bool r.1) (λ r=>[(0,⟨false,1,[A.sl ([].map aJ.enc)],[[.own 2 0 r.2.length]]⟩),(2,sx r.2)]) 3:=⟨λ r h=>zaL3 _ a0 a1 r h⟩
attribute [local irreducible] zo6
def zaG5(j1:(List aL)):Option (List aL):=
 some j1
def zaf8(v1:(List aU))(g1:Int×(List aL)):Option ((Int×(List aL))⊕(List aL)):=
 (if(decide (g1.1<(v1.length:Int)))=true then
  gd (0<=g1.1/\g1.1<(v1.length:Int))<|
  gd (g1.2.length+1<=4294967296)<|
  some (.inl ((i64.wrap (g1.1+1)),(g1.2++[(v1.getD g1.1.toNat aU.zero).aK])))
 else
  some (.inr g1.2))
def zt4(a0:aB):Option (List aL):=
 (zq8 a0).bind λ v1=>
 (zc2 (zaf8 v1) (0,[])).bind (λ z=>zaG5 z)
@[reducible,instance] def zej2 a0 {T1:Type} (v1:T1):=mkJ (zt4 a0,v1) 0 (@zaG5.eq_1) λ(j1:(List aL))=>⟨[(3,.own 0 0 j1.length)],[(0,sx j1)],1⟩
@[reducible,instance] def zej3 (v1:(List aU)) {T:Type} (x:T):=mkL x (@zaf8.eq_1 v1) λ(g1:Int×(List aL))=>⟨[(3,.own 0 0 g1.2.length),(7,la v1),(8,.int .i64 (v1.length:Int)),(9,.int .i64 g1.1)],[(0,sx g1.2)],1⟩
instance zdq5(a0:aB):OkP (zt4 a0) 156 [ga a0] (λ r=>la r):=ok1 (zt4.eq_1 a0) Tryz.f156 [(3,1)]
attribute [local irreducible] zt4
def zaD1(j1:(List aJ)):Option (List aJ):=
 some j1
def zaj9(a0:aO)(g1:Int×(List aJ)):Option ((Int×(List aJ))⊕(List aJ)):=
 (if(decide (g1.1<(a0.bE.length:Int)))=true then
  gd (0<=g1.1/\g1.1<(a0.bE.length:Int))<|
  (zj5 (a0.bE.getD g1.1.toNat aO.zero) g1.2).bind λ v2=>
  some (.inl ((i64.wrap (g1.1+1)),v2))
 else
  some (.inr g1.2))
def zE0(a90:(aO->Option (List aJ)))(a0:aO):Option (List aJ):=
 (if(decide ((a0.bE.length:Int)=0))=true then
  (zb0 [] a0.bG).bind λ v1=>
  (if v1=true then
   some []
  else
   gd (1<=4294967296)<|
   some [a0.bG])
 else
  (zc2 (zaj9 a0) (0,[])).bind (λ z=>zaD1 z))
def zab6:Nat->(aO->Option (List aJ))
 |0=>λ _=>none
 |n+1=>zE0 (zab6 n)
def zn5(a0:aO):Option (List aJ):=zab6 (_root_.SizeOf.sizeOf a0+1) a0
@[reducible,instance] def zej4 (a90:(aO->Option (List aJ))) (a0:aO):=mkJ (zE0 a90 a0) 0 (@zaD1.eq_1) λ(j1:(List aJ))=>⟨[(0,.own 0 0 j1.length)],[(0,sx j1)],1⟩
@[reducible,instance] def zej5 (a0:aO) {T:Type} (x:T):=mkL x (@zaj9.eq_1 a0) λ(g1:Int×(List aJ))=>⟨[(0,.own 0 0 g1.2.length),(22,la a0.bE),(23,.int .i64 (a0.bE.length:Int)),(24,.int .i64 g1.1)],[(0,sx g1.2)],1⟩
abbrev zae6(g:(aO->Option (List aJ))):Prop:=∀(a0:aO),OkM (g a0) 85 [.full ([].map aJ.enc),.agg (aO.enc a0)] [] 0 (λ r=>.sl (r.map aJ.enc)) (λ r=>[]) 0
theorem zbk1(a90:(aO->Option (List aJ)))(hrc:zae6 a90):zae6 (zE0 a90):=λ a0=>⟨λ r h=>by
 refine zaK6 Tryz.f85 [] [la r] λ E hG hN hK=>?_;have hm:Mk (zE0 a90 a0):=trivial;unfold zE0 at h;refine g_gh (.own0 0 3 (aJ.enc aJ.zero)) ?_;refine za3 (za8 hG ?_);refine za3 (za3 (za8 hG ?_));refine zq4 rfl hG h (λ _ h=>?_) (λ _ h=>?_)
 · refine za3 (za3 (za8 hG ?_))
   obtain⟨v1,hv1,h⟩:=zf3 h;have hm:=mkP hm v1;refine zw9 (λ hg=>(zau5 [] a0.bG).ok _ hv1) ?_;refine zq4 rfl hG h (λ _ h=>?_) (λ _ h=>?_)
   · refine za3 (za8 hG ?_)
     refine g_gh (.fz [0]) ?_;exact gogo
   refine zo1 ?_;refine za3 ?_;obtain⟨hb1,h⟩:=zg8 h;refine za8 hG ?_;refine g_gh (.fz [2]) ?_;exact gogo
 refine zo1 ?_;refine za3 (za3 (za8 hG ?_));refine zaB6 hm h (λ j1 hm h=>?_) ?_
 · try refine g_st ?_
   refine za3 (za8 hG ?_);refine g_gh (.fz [0]) ?_;exact gogo
 exact gogo⟩
theorem zbk2:∀n,zae6 (zab6 n):=zaQ7 (λ _=>⟨λ _ h=>nomatch h⟩) λ n=>zbk1 _
instance zcv7:zae6 zn5:=λ a0=>zbk2 _ a0
attribute [local irreducible] zn5
def zaW5(j1:Unit):Option (aC×Bool):=
 some ({aC.zero with},false)
def zab7(a1:aL)(v1:(List aU))(g1:Int):Option (Int⊕(Unit⊕(aC×Bool))):=
 (if(decide (g1<(v1.length:Int)))=true then
  gd (0<=g1/\g1<(v1.length:Int))<|
  (if(decide ((v1.getD g1.toNat aU.zero).aK=a1))=true then
   some (.inr (.inr ((v1.getD g1.toNat aU.zero).aM,true)))
  else
   some (.inl (i64.wrap (g1+1))))
 else
  some (.inr (.inl ())))
def zq6(a0:aB)(a1:aL):Option (aC×Bool):=
 (zq8 a0).bind λ v1=>
 (zc2 (zab7 a1 v1) 0).bind (λ|.inl z=>zaW5 z|.inr z=>some z)
@[reducible,instance] def zej6 a0 a1 {T1:Type} (v1:T1):=mkJ (zq6 a0 a1,v1) 0 (@zaW5.eq_1) λ(j1:Unit)=>⟨[(4,.ptr 0 0 0)],[(0,bx aC.zero)],1⟩
@[reducible,instance] def zej7 (a1:aL) (v1:(List aU)) {T:Type} (x:T):=mkL x (@zab7.eq_1 a1 v1) λ(g1:Int)=>⟨[(3,.ptr 0 0 0),(4,.ptr 1 0 0),(9,la v1),(10,.int .i64 (v1.length:Int)),(11,.int .i64 g1)],[(0,bx a1),(1,bx aC.zero)],2⟩
instance zdi9(a0:aB)(a1:aL):OkP (zq6 a0 a1) 38 [ga a0,ga a1] (λ r=>.tup [ga r.1,.bool r.2]):=ok1 (zq6.eq_1 a0 a1) Tryz.f38 []
attribute [local irreducible] zq6
def f_formula_holds(a0:aO)(a1:List aJ)(a2:List Bool):Option Bool:=
 (zn6 a0 (⟨a1,a2⟩:bS)).bind λ v1=>
 some v1
instance zdb6(a0:aO)(a1:List aJ)(a2:List Bool):OkP (f_formula_holds a0 a1 a2) 231 [ga a0,la a1,.sl (a2.map eB)] (λ r=>.bool r):=ok1 (f_formula_holds.eq_1 a0 a1 a2) Tryz.f231 []
attribute [local irreducible] f_formula_holds
def zaF1(j1:Unit):Option Bool:=
 some true
def zal5(g1:Int×Int)(j2:Unit):Option ((Int×Int)⊕(Unit⊕Bool)):=
 some (.inl (g1.1,i64.wrap (g1.2+1)))
def zH5(a1:List aC)(g1:Int×Int)(g2:Int):Option (Int⊕(Unit⊕Bool)):=
 (if(decide (g2<g1.2))=true then
  gd (0<=g1.2/\g1.2<(a1.length:Int))<|
  gd ((!(zn2 (a1.getD g1.2.toNat aC.zero)))=true->0<=g2/\g2<(a1.length:Int))<|
  gd (((!(zn2 (a1.getD g1.2.toNat aC.zero)))&&(!(zn2 (a1.getD g2.toNat aC.zero))))=true->0<=g1.2/\g1.2<(a1.length:Int))<|
  gd (((!(zn2 (a1.getD g1.2.toNat aC.zero)))&&(!(zn2 (a1.getD g2.toNat aC.zero))))=true->0<=g2/\g2<(a1.length:Int))<|
  (if(((!(zn2 (a1.getD g1.2.toNat aC.zero)))&&(!(zn2 (a1.getD g2.toNat aC.zero))))&&(!(zP6 ((a1.getD g1.2.toNat aC.zero).mode) ((a1.getD g2.toNat aC.zero).mode))))=true then
   some (.inr (.inr false))
  else
   some (.inl (i64.wrap (g2+1))))
 else
  some (.inr (.inl ())))
def zE1(a0:aH)(a1:List aC)(g1:Int×Int):Option ((Int×Int)⊕(Unit⊕Bool)):=
 (if(decide (g1.2<(a1.length:Int)))=true then
  gd (0<=g1.2/\g1.2<(a1.length:Int))<|
  (if(!(zw6 a0 (a1.getD g1.2.toNat aC.zero)))=true then
   some (.inr (.inr false))
  else
   (if(decide (a0.kind=2))=true then
    gd (0<=g1.2/\g1.2<(a1.length:Int))<|
    (if(decide (a0.aS<i64.wrap (g1.1+(a1.getD g1.2.toNat aC.zero).aS)))=true then
     some (.inr (.inr false))
    else
     some (.inl ((i64.wrap (g1.1+(a1.getD g1.2.toNat aC.zero).aS)),i64.wrap (g1.2+1))))
   else
    (zc2 (zH5 a1 g1) 0).bind (λ|.inl z=>zal5 g1 z|.inr z=>some (.inr (.inr z)))))
 else
  some (.inr (.inl ())))
def zm0(a0:aH)(a1:List aC):Option Bool:=
 (if(!(zM6 a0))=true then
  some false
 else
  (zc2 (zE1 a0 a1) (0,0)).bind (λ|.inl z=>zaF1 z|.inr z=>some z))
@[reducible,instance] def zej8 a0 a1:=mkJ (zm0 a0 a1) 0 (@zaF1.eq_1) λ(j1:Unit)=>⟨[],[],0⟩
@[reducible,instance] def zej9 (a0:aH) (a1:List aC) (g1:Int×Int):=mkJ (zE1 a0 a1 g1) 2 (@zal5.eq_1 g1) λ(j2:Unit)=>⟨[(1,la a1),(2,.ptr 0 0 0),(5,.int .i64 g1.1),(6,.int .i64 g1.2)],[(0,bx a0)],1⟩
@[reducible,instance] def zek0 (a0:aH) (a1:List aC) (g1:Int×Int):=mkL (zE1 a0 a1 g1) (@zH5.eq_1 a1 g1) λ(g2:Int)=>⟨[(1,la a1),(2,.ptr 0 0 0),(5,.int .i64 g1.1),(6,.int .i64 g1.2),(7,.int .i64 g2)],[(0,bx a0)],1⟩
@[reducible,instance] def zek1 (a0:aH) (a1:List aC) {T:Type} (x:T):=mkL x (@zE1.eq_1 a0 a1) λ(g1:Int×Int)=>⟨[(1,la a1),(2,.ptr 0 0 0),(5,.int .i64 g1.1),(6,.int .i64 g1.2)],[(0,bx a0)],1⟩
instance zcI0(a0:aH)(a1:List aC):OkP (zm0 a0 a1) 306 [ga a0,la a1] (λ r=>.bool r):=ok1 (zm0.eq_1 a0 a1) Tryz.f306 []
attribute [local irreducible] zm0
def zu4(a0:aH)(a1 a2:aC):Bool:=
 (if((!(zw6 a0 a1))||(!(zw6 a0 a2)))=true then
  false
 else
  (if(zn2 a2)=true then
   true
  else
   (if(zn2 a1)=true then
    false
   else
    (if(decide (a0.kind=1))=true then
     (zH9 a1.mode a2.mode)
    else
     (decide (a2.aS<=a1.aS))))))
instance zbN6(a0:aH)(a1 a2:aC):OkT 89 [.agg (aH.enc a0),.agg (aC.enc a1),.agg (aC.enc a2)] (.bool (zu4 a0 a1 a2)):=ok2 (λ r=>.bool r) (zu4.eq_1 a0 a1 a2) Tryz.f89 []
attribute [local irreducible] zm2 zl6 zj4 zk0 zp4 zv1 zl2
theorem zap0:SlLaysF0.n6 C.P ⟨λ|6=>103|15=>158|14=>157|28=>222|29=>223|20=>214|21=>215|22=>216|23=>217|24=>218|25=>219|26=>220|27=>221|46=>263|47=>264|48=>265|49=>266|50=>267|57=>299|n=>n,λ|22=>70|24=>38|25=>92|39=>209|53=>263|55=>162|46=>256|45=>255|50=>260|66=>291|70=>198|76=>318|77=>206|n=>n,λ n=>n⟩ where
 mixed:=zM4
 f6:=⟨ "slices.SortFunc[[]clusterlocks/api.Proc,clusterlocks/api.Proc]",by decide,Tryz.func103.trans (dG some (by kernel_rfl))⟩
 f14:=⟨ "slices.pdqsortCmpFunc[clusterlocks/api.Proc]",by decide,Tryz.func157.trans (dG some (by kernel_rfl))⟩
 f15:=Tryz.func158.trans (dG some (by kernel_rfl))
 f20:=⟨ "slices.insertionSortCmpFunc[clusterlocks/api.Proc]",by decide,Tryz.func214.trans (dG some (by kernel_rfl))⟩
 f21:=⟨ "slices.heapSortCmpFunc[clusterlocks/api.Proc]",by decide,Tryz.func215.trans (dG some (by kernel_rfl))⟩
 f22:=⟨ "slices.breakPatternsCmpFunc[clusterlocks/api.Proc]",by decide,Tryz.func216.trans (dG some (by kernel_rfl))⟩
 f23:=⟨ "slices.choosePivotCmpFunc[clusterlocks/api.Proc]",by decide,Tryz.func217.trans (dG some (by kernel_rfl))⟩
 f24:=⟨ "slices.reverseRangeCmpFunc[clusterlocks/api.Proc]",by decide,Tryz.func218.trans (dG some (by kernel_rfl))⟩
 f25:=⟨ "slices.partialInsertionSortCmpFunc[clusterlocks/api.Proc]",by decide,Tryz.func219.trans (dG some (by kernel_rfl))⟩
 f26:=⟨ "slices.partitionEqualCmpFunc[clusterlocks/api.Proc]",by decide,Tryz.func220.trans (dG some (by kernel_rfl))⟩
 f27:=⟨ "slices.partitionCmpFunc[clusterlocks/api.Proc]",by decide,Tryz.func221.trans (dG some (by kernel_rfl))⟩
 f28:=Tryz.func222.trans (dG some (by kernel_rfl))
 f29:=Tryz.func223.trans (dG some (by kernel_rfl))
 f46:=⟨ "slices.siftDownCmpFunc[clusterlocks/api.Proc]",by decide,Tryz.func263.trans (dG some (by kernel_rfl))⟩
 f47:=Tryz.func264.trans (dG some (by kernel_rfl))
 f48:=Tryz.func265.trans (dG some (by kernel_rfl))
 f49:=⟨ "slices.medianAdjacentCmpFunc[clusterlocks/api.Proc]",by decide,Tryz.func266.trans (dG some (by kernel_rfl))⟩
 f50:=⟨ "slices.medianCmpFunc[clusterlocks/api.Proc]",by decide,Tryz.func267.trans (dG some (by kernel_rfl))⟩
 f57:=⟨ "slices.order2CmpFunc[clusterlocks/api.Proc]",by decide,Tryz.func299.trans (dG some (by kernel_rfl))⟩
 t0:=Tryz.underlying0
 a0:=Tryz.isAgg0
 z0:=Tryz.sizeOf0
 v0:=Tryz.zeroValue0
 t3:=Tryz.underlying3
 a3:=Tryz.isAgg3
 z3:=Tryz.sizeOf3
 v3:=Tryz.zeroValue3
 t4:=Tryz.underlying4
 a4:=Tryz.isAgg4
 z4:=Tryz.sizeOf4
 v4:=Tryz.zeroValue4
 t5:=Tryz.underlying5
 a5:=Tryz.isAgg5
 z5:=Tryz.sizeOf5
 v5:=Tryz.zeroValue5
 t9:=Tryz.underlying9
 a9:=Tryz.isAgg9
 z9:=Tryz.sizeOf9
 v9:=Tryz.zeroValue9
 t22:=Tryz.underlying70
 a22:=Tryz.isAgg70
 z22:=Tryz.sizeOf70
 v22:=Tryz.zeroValue70
 t25:=Tryz.underlying92
 a25:=Tryz.isAgg92
 z25:=Tryz.sizeOf92
 v25:=Tryz.zeroValue92
 t39:=Tryz.underlying209
 a39:=Tryz.isAgg209
 z39:=Tryz.sizeOf209
 v39:=Tryz.zeroValue209
 t45:=Tryz.underlying255
 a45:=Tryz.isAgg255
 z45:=Tryz.sizeOf255
 v45:=Tryz.zeroValue255
 t46:=Tryz.underlying256
 a46:=Tryz.isAgg256
 z46:=Tryz.sizeOf256
 v46:=Tryz.zeroValue256
 t50:=Tryz.underlying260
 a50:=Tryz.isAgg260
 z50:=Tryz.sizeOf260
 v50:=Tryz.zeroValue260
 t53:=Tryz.underlying263
 a53:=Tryz.isAgg263
 z53:=Tryz.sizeOf263
 v53:=Tryz.zeroValue263
 t55:=Tryz.underlying162
 a55:=Tryz.isAgg162
 z55:=Tryz.sizeOf162
 v55:=Tryz.zeroValue162
 t66:=Tryz.underlying291
 a66:=Tryz.isAgg291
 z66:=Tryz.sizeOf291
 v66:=Tryz.zeroValue291
 t70:=Tryz.underlying198
 a70:=Tryz.isAgg198
 z70:=Tryz.sizeOf198
 v70:=Tryz.zeroValue198
 t76:=Tryz.underlying318
 a76:=Tryz.isAgg318
 z76:=Tryz.sizeOf318
 v76:=Tryz.zeroValue318
 t77:=Tryz.underlying206
 a77:=Tryz.isAgg206
 z77:=Tryz.sizeOf206
 v77:=Tryz.zeroValue206
def zc3(a0:List aL):Option (List aL):=gd (a0.length<=4294967296) (some (a0.mergeSort λ x y=>!decide (y.site<x.site\/y.site=x.site/\(y.inc<x.inc\/y.inc=x.inc/\y.num<x.num))))
theorem zan8(a0 r:List aL)(h:zc3 a0=some r):r.length=a0.length:=by obtain⟨_,h⟩:=zg8 h;obtain rfl:=dS h;exact jX _
theorem zan9(a0 r:List aL)(h:zc3 a0=some r):MFn C 103 [.own 0 0 a0.length,.clo 34 []] [(0,sx a0)] 1 (.tup []) [(0,sx r)] 1:=by
 obtain⟨hl,h⟩:=zg8 h;obtain rfl:=dS h;haveI:Inhabited aL:=⟨aL.zero⟩;have e:(λ x y:aL=>!decide (y.site<x.site\/y.site=x.site/\(y.inc<x.inc\/y.inc=x.inc/\y.num<x.num)))=λ x y=>!(ltOf cmpS) y x:=by funext x y;rw[zba8];exact dG not (jB.2 lB)
 rw[e];exact zcA4 zap0 aL.enc 3 aL.len (by decide) (λ x=>(aL.laws x).2.1) Tryz.isAgg38 Tryz.sizeOf38 cmpS zdq1 34 (λ x y=>(zaL0 x y).ok _ (zdE0 x y)) (enters_of Tryz.func34 (by kernel_rfl) rfl) rfl _ a0 hl (λ x _ y _=>zcL4 x y)
attribute [local irreducible] zc3
def zl0(a0 a1:aB):Option Bool:=
 ((if(decide (a0.gen=a1.gen))=true then zg6 a0 a1 else some false)).bind λ v1=>
 ((if(decide (a0.gen=a1.gen)&&v1)=true then zb3 a0.aT a1.aT else some false)).bind λ v2=>
 some ((decide (a0.gen=a1.gen)&&v1)&&v2)
instance zcr1(a0 a1:aB):OkP (zl0 a0 a1) 54 [ga a0,ga a1] (λ r=>.bool r):=ok1 (zl0.eq_1 a0 a1) Tryz.f54 []
attribute [local irreducible] zl0
def zam6(a0:aW)(j1:Unit):Option Bool:=
 (ze9 a0.aY (a0.aD.length:Int)).bind λ v1=>
 some v1
def zab8(a0:aW)(g1:Int×(List (ByteArray×aC))):Option ((Int×(List (ByteArray×aC)))⊕(Unit⊕Bool)):=
 (if(decide (g1.1<(a0.aD.length:Int)))=true then
  gd (0<=g1.1/\g1.1<(a0.aD.length:Int))<|
  (ze5 ((a0.aD.getD g1.1.toNat bC.zero).name)).bind λ v2=>
  ((if(!((!v2)||(!decide ((a0.aD.getD g1.1.toNat bC.zero).before=(mget ((a0.aD.getD g1.1.toNat bC.zero).name) g1.2).getD aC.zero))))=true then zp3 ((a0.aD.getD g1.1.toNat bC.zero).before) ((a0.aD.getD g1.1.toNat bC.zero).after)else some false)).bind λ v3=>
  (if(((!v2)||(!decide ((a0.aD.getD g1.1.toNat bC.zero).before=(mget ((a0.aD.getD g1.1.toNat bC.zero).name) g1.2).getD aC.zero)))||(!v3))=true then
   some (.inr (.inr false))
  else
   (if(decide (8<((mput ((a0.aD.getD g1.1.toNat bC.zero).name) ((a0.aD.getD g1.1.toNat bC.zero).after) g1.2).length:Int)))=true then
    some (.inr (.inr false))
   else
    some (.inl ((i64.wrap (g1.1+1)),mput ((a0.aD.getD g1.1.toNat bC.zero).name) ((a0.aD.getD g1.1.toNat bC.zero).after) g1.2))))
 else
  some (.inr (.inl ())))
def zs2(a0:aW):Option Bool:=
 (zc2 (zab8 a0) (0,[])).bind (λ|.inl z=>zam6 a0 z|.inr z=>some z)
@[reducible,instance] def zek2 (a0:aW):=mkJ (zs2 a0) 0 (@zam6.eq_1 a0) λ(j1:Unit)=>⟨[(1,.ptr 0 0 0)],[(0,bx a0)],1⟩
@[reducible,instance] def zek3 (a0:aW) {T:Type} (x:T):=mkL x (@zab8.eq_1 a0) λ(g1:Int×(List (ByteArray×aC)))=>⟨[(1,.ptr 0 0 0),(3,.mp 1),(8,la a0.aD),(9,.int .i64 (a0.aD.length:Int)),(10,.int .i64 g1.1)],[(0,bx a0),(1,⟨false,0,[A.str ⟨#[]⟩,A.bool true],g1.2.map (mS aC.enc)⟩)],2⟩
instance zdj0(a0:aW):OkP (zs2 a0) 107 [ga a0] (λ r=>.bool r):=ok1 (zs2.eq_1 a0) Tryz.f107 []
attribute [local irreducible] zs2
def zu0(a0:aH)(a1 a2:aC):Option aC:=
 (if((!(zc9 a0 a1))||(!(zc9 a0 a2)))=true then
  some ({aC.zero with})
 else
  (if(zk8 a1)=true then
   some a2
  else
   (if(zk8 a2)=true then
    some a1
   else
    (if(decide (a0.kind=1))=true then
     (zx8 a1.mode a2.mode).bind λ v1=>
     some ({aC.zero with mode:=v1})
    else
     some ({aC.zero with aS:=(if a1.aS<a2.aS then a2.aS else a1.aS)})))))
instance zdq6(a0:aH)(a1 a2:aC):OkP (zu0 a0 a1 a2) 237 [ga a0,ga a1,ga a2] (λ r=>ga r):=ok1 (zu0.eq_1 a0 a1 a2) Tryz.f237 []
attribute [local irreducible] zu0
def zG9(j1:aL):Option (Int×aL):=
 some ((-1),j1)
def zv2(a0:List aF)(g1:Int×aL):Option ((Int×aL)⊕(aL⊕(Int×aL))):=
 (if(decide (g1.1<(a0.length:Int)))=true then
  gd (0<=g1.1/\g1.1<(a0.length:Int))<|
  (zk0 (a0.getD g1.1.toNat aF.zero) g1.2).bind λ v1=>
  (if v1.1=true then
   some (.inr (.inr (g1.1,v1.2)))
  else
   some (.inl ((i64.wrap (g1.1+1)),v1.2)))
 else
  some (.inr (.inl g1.2)))
def zb8(a0:List aF)(a1:aL):Option (Int×aL):=
 (zc2 (zv2 a0) (0,a1)).bind (λ|.inl z=>zG9 z|.inr z=>some z)
@[reducible,instance] def zek4 a0 a1:=mkJ (zb8 a0 a1) 0 (@zG9.eq_1) λ(j1:aL)=>⟨[],[(0,bx j1)],1⟩
@[reducible,instance] def zek5 (a0:List aF) {T:Type} (x:T):=mkL x (@zv2.eq_1 a0) λ(g1:Int×aL)=>⟨[(0,la a0),(1,.clo 113 [.ptr 0 0 0]),(7,.int .i64 (a0.length:Int)),(8,.int .i64 g1.1)],[(0,bx g1.2)],1⟩
instance zaY7(a0:List aF)(a1:aL):OkM (zb8 a0 a1) 112 [la a0,.clo 113 [.ptr 0 0 0]] [(0,bx a1)] 1 (λ r=>.int .i64 r.1) (λ r=>[(0,bx r.2)]) 1:=okm (zb8.eq_1 a0 a1) (λ r=>[.int .i64 r.1]) Tryz.f112 [(16,1)]
attribute [local irreducible] zb8
def zba9(j1:Unit):Option Bool:=
 some true
def zar8(a0:List aU)(g1:Int):Option (Int⊕(Unit⊕Bool)):=
 (if(decide (g1<(a0.length:Int)))=true then
  gd (0<=g1/\g1<(a0.length:Int))<|
  gd (zC0 (a0.getD g1.toNat aU.zero)=true->0<=g1/\g1<(a0.length:Int))<|
  ((if(zC0 (a0.getD g1.toNat aU.zero))=true then zk6 a0 ((a0.getD g1.toNat aU.zero).aK)else some 0)).bind λ v1=>
  (if((!(zC0 (a0.getD g1.toNat aU.zero)))||(!decide (v1=g1)))=true then
   some (.inr (.inr false))
  else
   some (.inl (i64.wrap (g1+1))))
 else
  some (.inr (.inl ())))
def zs9(a0:List aU):Option Bool:=
 (if(decide (8<(a0.length:Int)))=true then
  some false
 else
  (zc2 (zar8 a0) 0).bind (λ|.inl z=>zba9 z|.inr z=>some z))
@[reducible,instance] def zek6 a0:=mkJ (zs9 a0) 0 (@zba9.eq_1) λ(j1:Unit)=>⟨[],[],0⟩
@[reducible,instance] def zek7 (a0:List aU) {T:Type} (x:T):=mkL x (@zar8.eq_1 a0) λ(g1:Int)=>⟨[(0,la a0),(3,.int .i64 g1)],[],0⟩
instance zdq7(a0:List aU):OkP (zs9 a0) 286 [la a0] (λ r=>.bool r):=ok1 (zs9.eq_1 a0) Tryz.f286 []
attribute [local irreducible] zs9
def zbb0(j2:Unit):Option Bool:=
 some true
def zaf9(a0:aW)(g1:Int):Option (Int⊕(Unit⊕Bool)):=
 (if(decide (g1<(a0.aY.length:Int)))=true then
  gd (0<=g1/\g1<(a0.aY.length:Int))<|
  gd (((!(((decide ((a0.aY.getD g1.toNat bK.zero).label<1)||decide (99<(a0.aY.getD g1.toNat bK.zero).label))||decide ((a0.aY.getD g1.toNat bK.zero).at_<0))||decide ((a0.aD.length:Int)<(a0.aY.getD g1.toNat bK.zero).at_)))&&decide (0<g1))=true->0<=i64.wrap (g1-1)/\i64.wrap (g1-1)<(a0.aY.length:Int))<|
  ((if(!((((decide ((a0.aY.getD g1.toNat bK.zero).label<1)||decide (99<(a0.aY.getD g1.toNat bK.zero).label))||decide ((a0.aY.getD g1.toNat bK.zero).at_<0))||decide ((a0.aD.length:Int)<(a0.aY.getD g1.toNat bK.zero).at_))||(decide (0<g1)&&decide ((a0.aY.getD g1.toNat bK.zero).at_<(a0.aY.getD ((i64.wrap (g1-1)).toNat) bK.zero).at_))))=true then zl9 a0.aY ((a0.aY.getD g1.toNat bK.zero).label)else some 0)).bind λ v2=>
  (if(((((decide ((a0.aY.getD g1.toNat bK.zero).label<1)||decide (99<(a0.aY.getD g1.toNat bK.zero).label))||decide ((a0.aY.getD g1.toNat bK.zero).at_<0))||decide ((a0.aD.length:Int)<(a0.aY.getD g1.toNat bK.zero).at_))||(decide (0<g1)&&decide ((a0.aY.getD g1.toNat bK.zero).at_<(a0.aY.getD ((i64.wrap (g1-1)).toNat) bK.zero).at_)))||(!decide (v2=g1)))=true then
   some (.inr (.inr false))
  else
   some (.inl (i64.wrap (g1+1))))
 else
  some (.inr (.inl ())))
def zag0(a0:aW)(j1:Unit):Option Bool:=
 (zj3 a0.aD).bind λ v1=>
 (if(decide (8<(v1.length:Int)))=true then
  some false
 else
  (zc2 (zaf9 a0) 0).bind (λ|.inl z=>zbb0 z|.inr z=>some z))
def zag1(a0:aW)(g2:Int):Option (Int⊕(Unit⊕Bool)):=
 (if(decide (g2<(a0.aD.length:Int)))=true then
  gd (0<=g2/\g2<(a0.aD.length:Int))<|
  (zi0 ((a0.aD.getD g2.toNat bC.zero).name)).bind λ v3=>
  gd (v3=true->0<=0/\0<=g2/\g2<=(a0.aD.length:Int))<|
  ((if v3=true then zj7 (a0.aD.take g2.toNat) ((a0.aD.getD g2.toNat bC.zero).name)else some aC.zero)).bind λ v4=>
  (if(((!v3)||(!decide ((a0.aD.getD g2.toNat bC.zero).before=v4)))||(!(zv7 ((a0.aD.getD g2.toNat bC.zero).before) ((a0.aD.getD g2.toNat bC.zero).after))))=true then
   some (.inr (.inr false))
  else
   some (.inl (i64.wrap (g2+1))))
 else
  some (.inr (.inl ())))
def zo8(a0:aW):Option Bool:=
 (if(decide (72<(a0.aD.length:Int))||decide (4<(a0.aY.length:Int)))=true then
  some false
 else
  (zc2 (zag1 a0) 0).bind (λ|.inl z=>zag0 a0 z|.inr z=>some z))
@[reducible,instance] def zek8 a0 j1 {T1:Type} (v1:T1):=mkJ (zag0 a0 j1,v1) 2 (@zbb0.eq_1) λ(j2:Unit)=>⟨[],[],0⟩
@[reducible,instance] def zek9 (a0:aW) {T:Type} (x:T):=mkL x (@zaf9.eq_1 a0) λ(g1:Int)=>⟨[(1,.ptr 0 0 0),(5,.int .i64 g1)],[(0,bx a0)],1⟩
@[reducible,instance] def zel0 (a0:aW):=mkJ (zo8 a0) 0 (@zag0.eq_1 a0) λ(j1:Unit)=>⟨[(1,.ptr 0 0 0)],[(0,bx a0)],1⟩
@[reducible,instance] def zel1 (a0:aW) {T:Type} (x:T):=mkL x (@zag1.eq_1 a0) λ(g2:Int)=>⟨[(1,.ptr 0 0 0),(3,.int .i64 g2)],[(0,bx a0)],1⟩
instance zbm7(a0:aW):OkP (zo8 a0) 118 [ga a0] (λ r=>.bool r):=ok1 (zo8.eq_1 a0) Tryz.f118 []
attribute [local irreducible] zo8
def zaz0(j3:(List Int)):Option (List Int):=
 some j3
def zaz1(a1:aB)(g1:(List Int)×Int):Option (((List Int)×Int)⊕(List Int)):=
 (if(decide (g1.2<(a1.aT.length:Int)))=true then
  gd (0<=g1.2/\g1.2<(a1.aT.length:Int))<|
  (zm2 g1.1 ((a1.aT.getD g1.2.toNat aU.zero).aK)).bind λ v5=>
  (zd1 v5 [((a1.aT.getD g1.2.toNat aU.zero).aM).mode,((a1.aT.getD g1.2.toNat aU.zero).aM).aS,(a1.aT.getD g1.2.toNat aU.zero).aZ,(a1.aT.getD g1.2.toNat aU.zero).bR]).bind λ v6=>
  some (.inl (v6,i64.wrap (g1.2+1)))
 else
  some (.inr g1.1))
def zag2(a1:aB)(j2:(List Int)):Option (List Int):=
 (zd1 j2 [(a1.aT.length:Int)]).bind λ v4=>
 (zc2 (zaz1 a1) (v4,0)).bind (λ z=>zaz0 z)
def zaz2(a1:aB)(g2:(List Int)×Int):Option (((List Int)×Int)⊕(List Int)):=
 (if(decide (g2.2<(a1.aN.length:Int)))=true then
  gd (0<=g2.2/\g2.2<(a1.aN.length:Int))<|
  (zm2 g2.1 ((a1.aN.getD g2.2.toNat aU.zero).aK)).bind λ v7=>
  (zd1 v7 [((a1.aN.getD g2.2.toNat aU.zero).aM).mode,((a1.aN.getD g2.2.toNat aU.zero).aM).aS]).bind λ v8=>
  some (.inl (v8,i64.wrap (g2.2+1)))
 else
  some (.inr g2.1))
def zag3(a1:aB)(j1:(List Int)):Option (List Int):=
 (zd1 j1 [(a1.aN.length:Int)]).bind λ v3=>
 (zc2 (zaz2 a1) (v3,0)).bind (λ z=>zag2 a1 z)
def zaz3(a1:aB)(g3:(List Int)×Int):Option (((List Int)×Int)⊕(List Int)):=
 (if(decide (g3.2<(a1.aP.length:Int)))=true then
  gd (0<=g3.2/\g3.2<(a1.aP.length:Int))<|
  (zm2 g3.1 ((a1.aP.getD g3.2.toNat bA.zero).aK)).bind λ v9=>
  (zd1 v9 [((a1.aP.getD g3.2.toNat bA.zero).aM).mode,((a1.aP.getD g3.2.toNat bA.zero).aM).aS]).bind λ v10=>
  some (.inl (v10,i64.wrap (g3.2+1)))
 else
  some (.inr g3.1))
def zm7(a0:List Int)(a1:aB):Option (List Int):=
 (zl3 a0 a1.aA.name).bind λ v1=>
 (zd1 v1 [a1.aA.kind,a1.aA.aS,a1.aA.home,a1.gen,(a1.aP.length:Int)]).bind λ v2=>
 (zc2 (zaz3 a1) (v2,0)).bind (λ z=>zag3 a1 z)
@[reducible,instance] def zel2 a1 j2 {T1:Type} (v4:T1):=mkJ (zag2 a1 j2,v4) 4 (@zaz0.eq_1) λ(j3:(List Int))=>⟨[(0,.sl (j3.map (eI .u8)))],[],0⟩
@[reducible,instance] def zel3 (a1:aB) {T:Type} (x:T):=mkL x (@zaz1.eq_1 a1) λ(g1:(List Int)×Int)=>⟨[(0,.sl (g1.1.map (eI .u8))),(84,la a1.aT),(85,.int .i64 (a1.aT.length:Int)),(86,.int .i64 g1.2)],[],0⟩
@[reducible,instance] def zel4 (a1:aB) j1 {T1:Type} (v3:T1):=mkJ (zag3 a1 j1,v3) 2 (@zag2.eq_1 a1) λ(j2:(List Int))=>⟨[(0,.sl (j2.map (eI .u8))),(3,.ptr 0 0 0)],[(0,bx a1)],1⟩
@[reducible,instance] def zel5 (a1:aB) {T:Type} (x:T):=mkL x (@zaz2.eq_1 a1) λ(g2:(List Int)×Int)=>⟨[(0,.sl (g2.1.map (eI .u8))),(3,.ptr 0 0 0),(58,la a1.aN),(59,.int .i64 (a1.aN.length:Int)),(60,.int .i64 g2.2)],[(0,bx a1)],1⟩
@[reducible,instance] def zel6 a0 (a1:aB) {T1:Type} (v1:T1) {T2:Type} (v2:T2):=mkJ ((zm7 a0 a1,v1),v2) 0 (@zag3.eq_1 a1) λ(j1:(List Int))=>⟨[(0,.sl (j1.map (eI .u8))),(3,.ptr 0 0 0)],[(0,bx a1)],1⟩
@[reducible,instance] def zel7 (a1:aB) {T:Type} (x:T):=mkL x (@zaz3.eq_1 a1) λ(g3:(List Int)×Int)=>⟨[(0,.sl (g3.1.map (eI .u8))),(3,.ptr 0 0 0),(32,la a1.aP),(33,.int .i64 (a1.aP.length:Int)),(34,.int .i64 g3.2)],[(0,bx a1)],1⟩
instance zcv8(a0:List Int)(a1:aB):OkP (zm7 a0 a1) 45 [.sl (a0.map (eI .u8)),ga a1] (λ r=>.sl (r.map (eI .u8))):=ok1 (zm7.eq_1 a0 a1) Tryz.f45 []
attribute [local irreducible] zm7
def zf7(a0:bD):Option (aL×bD):=
 (if(!decide (a0.bO.err=0))=true then
  some ({aL.zero with},a0)
 else
  (zu3 a0.bO.rest).bind λ v1=>
  (if(!decide (v1.2.2=0))=true then
   some ({aL.zero with},{a0 with bO:={a0.bO with err:=v1.2.2}})
  else
   gd (0<=v1.2.1/\v1.2.1<=(a0.bO.rest.length:Int)/\(a0.bO.rest.length:Int)<=(a0.bO.rest.length:Int))<|
   some (v1.1,{a0 with bO:={a0.bO with rest:=(a0.bO.rest.drop v1.2.1.toNat)}})))
instance zbQ8(a0:bD):OkM (zf7 a0) 50 [.ptr 0 0 0] [(0,bx a0)] 1 (λ r=>ga r.1) (λ r=>[(0,bx r.2)]) 1:=okm (zf7.eq_1 a0) (λ r=>[ga r.1]) Tryz.f50 []
attribute [local irreducible] zf7
def ze3(a0:bD):Option (aC×bD):=
 (zc1 a0).bind λ v1=>
 (zc1 v1.2).bind λ v2=>
 some ((⟨v1.1,v2.1⟩:aC),v2.2)
instance zaG6(a0:bD):OkM (ze3 a0) 97 [.ptr 0 0 0] [(0,bx a0)] 1 (λ r=>ga r.1) (λ r=>[(0,bx r.2)]) 1:=okm (ze3.eq_1 a0) (λ r=>[ga r.1]) Tryz.f97 []
attribute [local irreducible] ze3
def zN9(j1:aL):Option (Int×aL):=
 some ((-1),j1)
def zy4(a0:List bP)(g1:Int×aL):Option ((Int×aL)⊕(aL⊕(Int×aL))):=
 (if(decide (g1.1<(a0.length:Int)))=true then
  gd (0<=g1.1/\g1.1<(a0.length:Int))<|
  (zh6 (a0.getD g1.1.toNat bP.zero) g1.2).bind λ v1=>
  (if v1.1=true then
   some (.inr (.inr (g1.1,v1.2)))
  else
   some (.inl ((i64.wrap (g1.1+1)),v1.2)))
 else
  some (.inr (.inl g1.2)))
def zc5(a0:List bP)(a1:aL):Option (Int×aL):=
 (zc2 (zy4 a0) (0,a1)).bind (λ|.inl z=>zN9 z|.inr z=>some z)
@[reducible,instance] def zel8 a0 a1:=mkJ (zc5 a0 a1) 0 (@zN9.eq_1) λ(j1:aL)=>⟨[],[(0,bx j1)],1⟩
@[reducible,instance] def zel9 (a0:List bP) {T:Type} (x:T):=mkL x (@zy4.eq_1 a0) λ(g1:Int×aL)=>⟨[(0,la a0),(1,.clo 84 [.ptr 0 0 0]),(7,.int .i64 (a0.length:Int)),(8,.int .i64 g1.1)],[(0,bx g1.2)],1⟩
instance zbk3(a0:List bP)(a1:aL):OkM (zc5 a0 a1) 83 [la a0,.clo 84 [.ptr 0 0 0]] [(0,bx a1)] 1 (λ r=>.int .i64 r.1) (λ r=>[(0,bx r.2)]) 1:=okm (zc5.eq_1 a0 a1) (λ r=>[.int .i64 r.1]) Tryz.f83 [(16,1)]
attribute [local irreducible] zc5
def zaD2(a0:aO)(a1:List aJ)(j1:Unit):Option (Nat⊕(Bool×(List aJ))):=
 gd (a1.length+1<=4294967296)<|
 some (.inr (true,(a1++[a0.bG])))
def zam7(a0:aO)(a1:List aJ)(g1:Int):Option (Int⊕(Unit⊕(Nat⊕(Bool×(List aJ))))):=
 (if(decide (g1<((a1.length:Nat):Int)))=true then
  gd (0<=g1/\g1<((a1.length:Nat):Int))<|
  (if(decide (a1.getD g1.toNat aJ.zero=a0.bG))=true then
   some (.inr (.inr (.inr (true,a1))))
  else
   some (.inl (i64.wrap (g1+1))))
 else
  some (.inr (.inl ())))
def zaW6(j2:(List aJ)):Option (Nat⊕(Bool×(List aJ))):=
 some (.inr (true,j2))
def zab9(a90:(aO->List aJ->Option (Nat⊕(Bool×(List aJ)))))(a0:aO)(g2:Int×(List aJ)):Option ((Int×(List aJ))⊕((List aJ)⊕(Nat⊕(Bool×(List aJ))))):=
 (if(decide (g2.1<(a0.bE.length:Int)))=true then
  gd (0<=g2.1/\g2.1<(a0.bE.length:Int))<|
  (a90 (a0.bE.getD g2.1.toNat aO.zero) g2.2).bind λ v2=>match v2 with
  | .inl v2=>
   some (.inr (.inr (.inl g2.2.length)))
  | .inr v2=>
   (if(!v2.1)=true then
    some (.inr (.inr (.inl g2.2.length)))
   else
    some (.inl ((i64.wrap (g2.1+1)),v2.2)))
 else
  some (.inr (.inl g2.2)))
def zB4(a90:(aO->List aJ->Option (Nat⊕(Bool×(List aJ)))))(a0:aO)(a1:List aJ):Option (Nat⊕(Bool×(List aJ))):=
 (if(decide ((a0.bE.length:Int)=0))=true then
  ((if(decide (a0.k=0))=true then zi0 a0.bG.name else some false)).bind λ v1=>
  (if(((!decide (a0.k=0))||(!v1))||(!(zn0 a0.bG.aM)))=true then
   some (.inr (false,a1))
  else
   (zc2 (zam7 a0 a1) 0).bind (λ|.inl z=>zaD2 a0 a1 z|.inr z=>some z))
 else
  (if((decide (a0.k<1)||decide ((a0.bE.length:Int)<a0.k))||(!decide (a0.bG={aJ.zero with})))=true then
   some (.inr (false,a1))
  else
   (zc2 (zab9 a90 a0) (0,a1)).bind (λ|.inl z=>zaW6 z|.inr z=>some z)))
def zD1:Nat->(aO->List aJ->Option (Nat⊕(Bool×(List aJ))))
 |0=>λ _ _=>none
 |n+1=>zB4 (zD1 n)
def zs3(a0:aO)(a1:List aJ):Option (Nat⊕(Bool×(List aJ))):=zD1 (_root_.SizeOf.sizeOf a0+1) a0 a1
@[reducible,instance] def zem0 (a90:(aO->List aJ->Option (Nat⊕(Bool×(List aJ))))) (a0:aO) (a1:List aJ) {T1:Type} (v1:T1):=mkJ (zB4 a90 a0 a1,v1) 0 (@zaD2.eq_1 a0 a1) λ(j1:Unit)=>⟨[(0,.own 1 0 a1.length),(3,.ptr 2 0 0)],[(1,sx a1),(2,bx a0)],3⟩
@[reducible,instance] def zem1 (a0:aO) (a1:List aJ) {T:Type} (x:T):=mkL x (@zam7.eq_1 a0 a1) λ(g1:Int)=>⟨[(0,.own 1 0 a1.length),(3,.ptr 2 0 0),(6,.int .i64 g1)],[(1,sx a1),(2,bx a0)],3⟩
@[reducible,instance] def zem2 (a90:(aO->List aJ->Option (Nat⊕(Bool×(List aJ))))) (a0:aO) (a1:List aJ):=mkJ (zB4 a90 a0 a1) 2 (@zaW6.eq_1) λ(j2:(List aJ))=>⟨[(0,.own 1 0 j2.length)],[(1,sx j2)],2⟩
@[reducible,instance] def zem3 (a90:(aO->List aJ->Option (Nat⊕(Bool×(List aJ))))) (a0:aO) {T:Type} (x:T):=mkL x (@zab9.eq_1 a90 a0) λ(g2:Int×(List aJ))=>⟨[(0,.own 1 0 g2.2.length),(3,.ptr 2 0 0),(7,.int .i64 g2.1)],[(1,sx g2.2),(2,bx a0)],3⟩
abbrev zaa3(g:(aO->List aJ->Option (Nat⊕(Bool×(List aJ))))):Prop:=∀(a0:aO) (a1:List aJ),OkL (g a0 a1) 92 [.own 0 0 a1.length,.agg (aO.enc a0)] [(0,⟨false,3,aJ.enc aJ.zero,a1.map aJ.enc⟩)] 1 (λ r=>.tup [.own 1 0 r,.bool false]) (λ r=>[]) 2
abbrev zaa4(g:(aO->List aJ->Option (Nat⊕(Bool×(List aJ))))):Prop:=∀(a0:aO) (a1:List aJ),OkR (g a0 a1) 92 [.own 0 0 a1.length,.agg (aO.enc a0)] [(0,⟨false,3,aJ.enc aJ.zero,a1.map aJ.enc⟩)] 1 (λ r=>.tup [.own 1 0 r.2.length,.bool r.1]) (λ r=>[(1,⟨false,3,aJ.enc aJ.zero,r.2.map aJ.enc⟩)]) 2
theorem zbB5(a90:(aO->List aJ->Option (Nat⊕(Bool×(List aJ)))))(h0:zaa3 a90)(h1:zaa4 a90):zaa3 (zB4 a90):=λ a0 a1=>⟨λ r h=>by
 refine zaK6 Tryz.f92 [(4,1)] [.own 1 0 r,.bool false] λ E hG hN hK=>?_;have hm:Mk (zB4 a90 a0 a1):=trivial;unfold zB4 at h;exact gogo⟩
theorem zbB6(a90:(aO->List aJ->Option (Nat⊕(Bool×(List aJ)))))(h0:zaa3 a90)(h1:zaa4 a90):zaa4 (zB4 a90):=λ a0 a1=>⟨λ r h=>by
 refine zaK6 Tryz.f92 [(4,1)] [.own 1 0 r.2.length,.bool r.1] λ E hG hN hK=>?_;have hm:Mk (zB4 a90 a0 a1):=trivial;unfold zB4 at h;exact gogo⟩
theorem zbb1:∀n,zaa3 (zD1 n)/\zaa4 (zD1 n):=zaQ7 (P:=λ g=>zaa3 g/\zaa4 g) ⟨λ _ _=>⟨λ _ h=>nomatch h⟩,λ _ _=>⟨λ _ h=>nomatch h⟩⟩ λ n h=>⟨zbB5 _ h.1 h.2,zbB6 _ h.1 h.2⟩
instance zaW7:zaa3 zs3:=λ a0 a1=>(zbb1 _).1 a0 a1
instance zaW8:zaa4 zs3:=λ a0 a1=>(zbb1 _).2 a0 a1
attribute [local irreducible] zs3
def zaG7(v1:Int×bL)(j1:(List aJ)):Option (aO×bL):=
 (zr1 j1 2 v1.2).bind λ v2=>
 some (v2.1,v2.2)
def zar9(a0:List aH)(v1:Int×bL)(g1:Int×(List aJ)):Option ((Int×(List aJ))⊕(List aJ)):=
 (if(decide (g1.1<(a0.length:Int)))=true then
  gd (0<=g1.1/\g1.1<(a0.length:Int))<|
  gd (0<=g1.1/\g1.1<(a0.length:Int))<|
  gd (0<=u64.wrap (i64.wrap (3*g1.1)))<|
  (zs4 (a0.getD g1.1.toNat aH.zero) (v1.1.fdiv (2^(Nat.min (u64.wrap (i64.wrap (3*g1.1))).toNat i64.bits)))).bind λ v3=>
  gd (g1.2.length+1<=4294967296)<|
  some (.inl ((i64.wrap (g1.1+1)),(g1.2++[(⟨(a0.getD g1.1.toNat aH.zero).name,v3⟩:aJ)])))
 else
  some (.inr g1.2))
def zu1(a0:List aH)(a1:bL):Option (aO×bL):=
 (zb9 1048576 a1).bind λ v1=>
 (zc2 (zar9 a0 v1) (0,[])).bind (λ z=>zaG7 v1 z)
@[reducible,instance] def zem4 a0 a1 (v1:Int×bL):=mkJ (zu1 a0 a1,v1) 0 (@zaG7.eq_1 v1) λ(j1:(List aJ))=>⟨[(0,.ptr 0 0 0),(4,.ptr 1 0 0),(6,.own 2 0 j1.length)],[(0,bx v1.2),(1,bx aO.zero),(2,sx j1)],3⟩
@[reducible,instance] def zem5 (a0:List aH) (v1:Int×bL) {T:Type} (x:T):=mkL x (@zar9.eq_1 a0 v1) λ(g1:Int×(List aJ))=>⟨[(0,.ptr 0 0 0),(1,la a0),(4,.ptr 1 0 0),(5,.int .i64 v1.1),(6,.own 2 0 g1.2.length),(7,.int .i64 g1.1)],[(0,bx v1.2),(1,bx aO.zero),(2,sx g1.2)],3⟩
instance zbN7(a0:List aH)(a1:bL):OkM (zu1 a0 a1) 191 [.ptr 0 0 0,la a0] [(0,bx a1)] 1 (λ r=>ga r.1) (λ r=>[(0,bx r.2)]) 1:=okm (zu1.eq_1 a0 a1) (λ r=>[ga r.1]) Tryz.f191 [(6,1)]
attribute [local irreducible] zu1
end
end Ab
end Go.Proofs.YtenebhlnfjcffaaGreatDoor
