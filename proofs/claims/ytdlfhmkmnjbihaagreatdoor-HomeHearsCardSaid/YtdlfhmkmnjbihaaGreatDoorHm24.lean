import Derived.Test.YtdlfhmkmnjbihaaGreatDoorHm16
import Derived.Test.YtdlfhmkmnjbihaaGreatDoorHm26
namespace Go.Proofs.YtdlfhmkmnjbihaaGreatDoor
namespace Ab
open IntKind (i64 u64 u8)
set_option linter.unusedSimpArgs false
set_option linter.defProp false
set_option linter.unusedVariables false
set_option maxRecDepth 100000
set_option maxHeartbeats 1000000
noncomputable section
attribute [local irreducible] zl5 zj8 zl7 zd1 zg5 zi1 zf5 zm6 zl8 zk4 ze1 ze6 zn5 zd4 zo3 za2 zg8 zg6 za5 zf6 ze4 zg3 zd7 zn0 zc9 zc6 zp8 zh0 zf7 zl6 zd5 zb1 ze0 zd6 za4 zj9 ze5 zh4 zd2 zb3 zf9 zd8 za8 zc3 ze2 zb9 zb2 zk9 za6 zc8 zd3 zk3 zf8 zd9 zk6 zi5 zq5 zc4 za9 ze7 zi3 zg0 zn1 zb7 zq4 zl4 zf1 zb6 zl1 ze8 zk7 zn7 zf2 zl0 zk0 zn8 ze9 zi6 zp3 zj5 zj0 zh2 zi7 zm7 zc5 zg1 zk1 zj1 za7 ze3 zf0 zo7 zm3 zo8 zm4 zo9 zj6 zf4 zm0 zc7 zg2 zr1 zt3 zp4 zf3 zj2 zk2 zr2 zq0 zg7 zj7 zh8 zi2 zj3 zu9 zh6 zm1 zn2 zv0 zj4 zs0 zo6 zt9 zm2 zs3 zn3 zs4 zr4 zr0 zv4 zq2 zn4 zt0 zm5 zl2 zr5 zq3 zr6 zo2 zb5 zi8 zo4 zn9 zg9 zr7 zs6 zw3 zu6 zz3 zq8 zo0 zs1 zt5 zu1 zr9 zp7 zw8 zu7 zw9 zB1 zo5 zq6 zv6 zv7 zA8 zx0 zab4 zN0 zv5 zD0 zA9 zG2 zD1 zx4
def zD2(a0:List aA):Option Bool:=
 (zG2 a0).bind λ v1=>
 ((if v1=true then zv7 a0 else some [])).bind λ v2=>
 some (v1&&decide ((v2.length:Int)<=8))
instance zcd5(a0:List aA):OkP (zD2 a0) 45 [la a0] (λ r=>.bool r):=ok1 (zD2.eq_1 a0) Tryz.f45 []
attribute [local irreducible] zD2
def zba9(a0:bC)(j2:Int):Option Bool:=
 some (decide (j2=(a0.tags.length:Int)))
def zae2(a0:bC)(g1:Int×Int):Option ((Int×Int)⊕Int):=
 (if(decide (g1.2<(a0.aG.length:Int)))=true then
  gd (0<=g1.2/\g1.2<(a0.aG.length:Int))<|
  (zr4 (a0.aG.getD g1.2.toNat aA.zero)).bind λ v2=>
  some (.inl ((i64.wrap (g1.1+(v2.length:Int))),i64.wrap (g1.2+1)))
 else
  some (.inr g1.1))
def zar8(a0:bC)(j1:Unit):Option Bool:=
 (zc1 (zae2 a0) (0,0)).bind (λ z=>zba9 a0 z)
def zar9(a0:bC)(g2:Int):Option (Int⊕(Unit⊕Bool)):=
 (if(decide (g2<(a0.tags.length:Int)))=true then
  gd (0<=g2/\g2<(a0.tags.length:Int))<|
  gd (((!(((!(zl9 ((a0.tags.getD g2.toNat bF.zero).aI)))||decide ((a0.tags.getD g2.toNat bF.zero).gen<0))||decide (1073741824<(a0.tags.getD g2.toNat bF.zero).gen)))&&decide (0<g2))=true->0<=i64.wrap (g2-1)/\i64.wrap (g2-1)<(a0.tags.length:Int))<|
  (if((((!(zl9 ((a0.tags.getD g2.toNat bF.zero).aI)))||decide ((a0.tags.getD g2.toNat bF.zero).gen<0))||decide (1073741824<(a0.tags.getD g2.toNat bF.zero).gen))||(decide (0<g2)&&(!(zaq7 (a0.tags.getD ((i64.wrap (g2-1)).toNat) bF.zero) (a0.tags.getD g2.toNat bF.zero)))))=true then
   some (.inr (.inr false))
  else
   (zh4 a0.aG ((a0.tags.getD g2.toNat bF.zero).name)).bind λ v3=>
   gd ((!(decide (v3<0)))=true->0<=v3/\v3<(a0.aG.length:Int))<|
   ((if(!(decide (v3<0)))=true then zr2 (a0.aG.getD v3.toNat aA.zero) ((a0.tags.getD g2.toNat bF.zero).aI)else some false)).bind λ v4=>
   (if(decide (v3<0)||(!v4))=true then
    some (.inr (.inr false))
   else
    some (.inl (i64.wrap (g2+1)))))
 else
  some (.inr (.inl ())))
def zN1(a0:bC):Option Bool:=
 (zD2 a0.aG).bind λ v1=>
 (if(!v1)=true then
  some false
 else
  (zc1 (zar9 a0) 0).bind (λ|.inl z=>zar8 a0 z|.inr z=>some z))
@[reducible,instance] def zeA2 (a0:bC) j1:=mkJ (zar8 a0 j1) 2 (@zba9.eq_1 a0) λ(j2:Int)=>⟨[(1,.ptr 0 0 0),(6,.int .i64 j2)],[(0,bx a0)],1⟩
@[reducible,instance] def zeA3 (a0:bC) {T:Type} (x:T):=mkL x (@zae2.eq_1 a0) λ(g1:Int×Int)=>⟨[(1,.ptr 0 0 0),(6,.int .i64 g1.1),(70,la a0.aG),(71,.int .i64 (a0.aG.length:Int)),(72,.int .i64 g1.2)],[(0,bx a0)],1⟩
@[reducible,instance] def zeA4 (a0:bC) {T1:Type} (v1:T1):=mkJ (zN1 a0,v1) 0 (@zar8.eq_1 a0) λ(j1:Unit)=>⟨[(1,.ptr 0 0 0)],[(0,bx a0)],1⟩
@[reducible,instance] def zeA5 (a0:bC) {T:Type} (x:T):=mkL x (@zar9.eq_1 a0) λ(g2:Int)=>⟨[(1,.ptr 0 0 0),(14,la a0.tags),(15,.int .i64 (a0.tags.length:Int)),(16,.int .i64 g2)],[(0,bx a0)],1⟩
instance zdz7(a0:bC):OkP (zN1 a0) 14 [ga a0] (λ r=>.bool r):=ok1 (zN1.eq_1 a0) Tryz.f14 []
attribute [local irreducible] zN1
def zI7 (a0:aA) (a1:aF) (a2:aC) (a3:Int):Option (aA×(List aT)×Int):=
 (zA9 a0).bind λ v1=>
 (if(!v1)=true then
  some ({aA.zero with},[],2)
 else
  (if(((!(zl9 a1))||decide (a3<0))||decide (7<a3))=true then
   some ({aA.zero with},[],1)
  else
   (if(!(zy0 a0.aB a2))=true then
    some ({aA.zero with},[],12)
   else
    (zi6 a0 a1).bind λ v2=>
    (if v2.2=true then
     some ({aA.zero with},[],14)
    else
     (zi5 a0).bind λ v3=>
     (zk7 v3 a1).bind λ v4=>
     (if(zq1 v3.aB v4 a2)=true then
      some (v3,[],0)
     else
      (if(!(zh5 v4))=true then
       (zz3 v3.aB v4 a2).bind λ v5=>
       gd (v3.aH.length+1<=4294967296)<|
       (zx4 (⟨(⟨v3.aB.name,v3.aB.kind,v3.aB.aV,v3.aB.home⟩:aD),v3.aL,(v3.aH++[{aM.zero with aI:=a1,aJ:=v5}]),v3.aU,v3.gen⟩:aA)).bind λ v6=>
       some (v6.1,v6.2.1,v6.2.2)
      else
       (if(decide (8<=i64.wrap ((v3.aL.length:Int)+(v3.aU.length:Int))))=true then
        some ({aA.zero with},[],4)
       else
        (zt5 v3.aU ({aM.zero with aI:=a1,aJ:=a2,aX:=a3})).bind λ v7=>
        (if(!decide (v7.2.2=0))=true then
         some ({aA.zero with},[],v7.2.2)
        else
         (zx4 (⟨(⟨v3.aB.name,v3.aB.kind,v3.aB.aV,v3.aB.home⟩:aD),v3.aL,v3.aH,v7.1,v3.gen⟩:aA)).bind λ v8=>
         some (v8.1,v8.2.1,v8.2.2)))))))))
instance zdz8(a0:aA)(a1:aF)(a2:aC)(a3:Int):OkP (zI7 a0 a1 a2 a3) 112 [ga a0,ga a1,ga a2,.int .i64 a3] (λ r=>.tup [ga r.1,la r.2.1,.int .i64 r.2.2]):=⟨λ r h=>by
 refine zW4 Tryz.f112 [(48,1)] λ E hG hN hK=>?_;have hm:Mk (zI7 a0 a1 a2 a3):=trivial;unfold zI7 at h;refine za0 (za1 hG ?_);refine za0 (za0 (za1 hG ?_));obtain⟨v1,hv1,h⟩:=zd0 h;have hm:=mkP hm v1;refine zr3 (λ hg=>(zcd4 a0).ok _ hv1) ?_;refine zh9 rfl hG h (λ _ h=>?_) (λ _ h=>?_)
 .exact gogo
 refine zh7 ?_;refine za0 (za0 (za1 hG ?_));refine zr3 (λ hg=>(zbz1 a1).ok) ?_;refine zh9 rfl hG h (λ _ h=>?_) (λ _ h=>?_)
 .exact gogo
 refine zh7 ?_;refine za0 (za0 (za1 hG ?_));refine zr3 (λ hg=>(zcn7 a0.aB a2).ok) ?_;refine zh9 rfl hG h (λ _ h=>?_) (λ _ h=>?_)
 .exact gogo
 refine zh7 ?_;refine za0 (za0 (za1 hG ?_));obtain⟨v2,hv2,h⟩:=zd0 h;have hm:=mkP hm v2;refine zr3 (λ hg=>(zbT6 a0 a1).ok _ hv2) ?_;refine za0 (za1 hG ?_);refine zh9 rfl hG h (λ _ h=>?_) (λ _ h=>?_)
 .exact gogo
 refine zh7 ?_;refine za0 (za1 hG ?_);obtain⟨v3,hv3,h⟩:=zd0 h;have hm:=mkP hm v3;refine zs8 [] [(0,5),(1,6),(2,7)] [0,1,2] (zbL1 _ _ hv3) rfl rfl ?_;refine g_gh (.fz [5,7]) ?_;refine za0 (za1 hG ?_);obtain⟨v4,hv4,h⟩:=zd0 h;have hm:=mkP hm v4;refine zr3 (λ hg=>(zbx1 v3 a1).ok _ hv4) ?_;refine za0 (za0 (za1 hG ?_));refine zr3 (λ hg=>(zbT7 v3.aB v4 a2).ok) ?_;refine zh9 rfl hG h (λ _ h=>?_) (λ _ h=>?_)
 .exact gogo
 refine zh7 ?_;refine za0 (za0 (za1 hG ?_));refine zr3 (λ hg=>(zcn6 v4).ok) ?_;refine zh9 rfl hG h (λ _ h=>?_) (λ _ h=>?_)
 · refine za0 (zaE3 zK6 hG ?_)
   obtain⟨v5,hv5,h⟩:=zd0 h;have hm:=mkP hm v5;obtain⟨hb1,h⟩:=zg4 h;refine zS0 (λ hg=>(zco0 v3.aB v4 a2).ok _ hv5) ?_;refine za0 (za1 hG ?_);obtain⟨v6,hv6,h⟩:=zd0 h;have hm:=mkP hm v6;have hc_v6:=(zba8 (⟨(⟨v3.aB.name,v3.aB.kind,v3.aB.aV,v3.aB.home⟩:aD),v3.aL,(v3.aH++[{aM.zero with aI:=a1,aJ:=v5}]),v3.aU,v3.gen⟩:aA)).ok _ hv6;have el_v6:∀x:aA,aA.enc x=[A.str x.aB.name,A.int .i64 x.aB.kind,A.int .i64 x.aB.aV,A.int .i64 x.aB.home,A.sl (x.aL.map aT.enc),A.sl (x.aH.map aM.enc),A.sl (x.aU.map aM.enc),A.int .i64 x.gen]:=λ x=>rfl
   try dsimp only[ga,la,En.e]at hc_v6
   rw[el_v6]at hc_v6;dsimp only at hc_v6;refine zr3 (λ hg=>by exact hc_v6) ?_;exact gogo
 refine zh7 ?_;refine za0 (za0 (za1 hG ?_));refine zh9 rfl hG h (λ _ h=>?_) (λ _ h=>?_)
 .exact gogo
 refine zh7 ?_;refine za0 (za1 hG ?_);obtain⟨v7,hv7,h⟩:=zd0 h;have hm:=mkP hm v7;refine zr3 (λ hg=>(zbT8 v3.aU ({aM.zero with aI:=a1,aJ:=a2,aX:=a3})).ok _ hv7) ?_;refine za0 (za0 (za1 hG ?_));refine zh9 rfl hG h (λ _ h=>?_) (λ _ h=>?_)
 .exact gogo
 refine zh7 ?_;refine za0 (za1 hG ?_);refine za0 (za1 hG ?_);obtain⟨v8,hv8,h⟩:=zd0 h;have hm:=mkP hm v8;have hc_v8:=(zba8 (⟨(⟨v3.aB.name,v3.aB.kind,v3.aB.aV,v3.aB.home⟩:aD),v3.aL,v3.aH,v7.1,v3.gen⟩:aA)).ok _ hv8;have el_v8:∀x:aA,aA.enc x=[A.str x.aB.name,A.int .i64 x.aB.kind,A.int .i64 x.aB.aV,A.int .i64 x.aB.home,A.sl (x.aL.map aT.enc),A.sl (x.aH.map aM.enc),A.sl (x.aU.map aM.enc),A.int .i64 x.gen]:=λ x=>rfl
 try dsimp only[ga,la,En.e]at hc_v8
 rw[el_v8]at hc_v8;dsimp only at hc_v8;refine zr3 (λ hg=>by exact hc_v8) ?_;exact gogo⟩
attribute [local irreducible] zI7
def zS8(a0:List aA)(a1:aF)(a2:aO)(a3:Int):Option ((List aA)×(List aY)×Int):=
 (zD2 a0).bind λ v1=>
 (if(!v1)=true then
  some ([],[],2)
 else
  (zh4 a0 a2.name).bind λ v2=>
  (if(decide (v2<0))=true then
   some ([],[],10)
  else
   (zv7 a0).bind λ v3=>
   ((if(decide ((v3.length:Int)=8))=true then ze4 v3 a1 else some false)).bind λ v4=>
   (if(decide ((v3.length:Int)=8)&&(!v4))=true then
    some ([],[],4)
   else
    gd (0<=v2/\v2<(a0.length:Int))<|
    (zI7 (a0.getD v2.toNat aA.zero) a1 a2.aJ a3).bind λ v5=>
    (if(!decide (v5.2.2=0))=true then
     some ([],[],v5.2.2)
    else
     (ze1 a0 v2 v5.1).bind λ v6=>
     (ze6 a2.name v5.2.1).bind λ v7=>
     some (v6,v7,0)))))
instance zdz9(a0:List aA)(a1:aF)(a2:aO)(a3:Int):OkP (zS8 a0 a1 a2 a3) 56 [la a0,ga a1,ga a2,.int .i64 a3] (λ r=>.tup [la r.1,la r.2.1,.int .i64 r.2.2]):=ok1 (zS8.eq_1 a0 a1 a2 a3) Tryz.f56 []
attribute [local irreducible] zS8
def zV3(a0:aA)(a1:aF):Option (aA×(List aT)×Int):=
 (zA9 a0).bind λ v1=>
 (if(!v1)=true then
  some ({aA.zero with},[],2)
 else
  (zi6 a0 a1).bind λ v2=>
  (if(!v2.2)=true then
   some ({aA.zero with},[],10)
  else
   (zk6 a0).bind λ v3=>
   (zf9 v3.aH a1).bind λ v4=>
   (zf9 (({v3 with aH:=v4.1}).aU) a1).bind λ v5=>
   (zx4 ({{v3 with aH:=v4.1}with aU:=v5.1})).bind λ v6=>
   some (v6.1,v6.2.1,v6.2.2)))
instance zdq6(a0:aA)(a1:aF):OkP (zV3 a0 a1) 116 [ga a0,ga a1] (λ r=>.tup [ga r.1,la r.2.1,.int .i64 r.2.2]):=ok1 (zV3.eq_1 a0 a1) Tryz.f116 []
attribute [local irreducible] zV3
def zV4(a0:List aA)(a1:aF)(a2:ByteArray):Option ((List aA)×(List aY)×Int):=
 (zD2 a0).bind λ v1=>
 (if(!v1)=true then
  some ([],[],2)
 else
  (zh4 a0 a2).bind λ v2=>
  (if(decide (v2<0))=true then
   some ([],[],10)
  else
   gd (0<=v2/\v2<(a0.length:Int))<|
   (zV3 (a0.getD v2.toNat aA.zero) a1).bind λ v3=>
   (if(!decide (v3.2.2=0))=true then
    some ([],[],v3.2.2)
   else
    (ze1 a0 v2 v3.1).bind λ v4=>
    (ze6 a2 v3.2.1).bind λ v5=>
    some (v4,v5,0))))
instance zdq7(a0:List aA)(a1:aF)(a2:ByteArray):OkP (zV4 a0 a1 a2) 60 [la a0,ga a1,.str a2] (λ r=>.tup [la r.1,la r.2.1,.int .i64 r.2.2]):=ok1 (zV4.eq_1 a0 a1 a2) Tryz.f60 []
attribute [local irreducible] zV4
def zab5(a0:aA)(a1:aF)(a2:aC):Option (aA×(List aT)×Int):=
 (zA9 a0).bind λ v1=>
 (if(!v1)=true then
  some ({aA.zero with},[],2)
 else
  (zk7 a0 a1).bind λ v2=>
  (if(zh5 v2)=true then
   some ({aA.zero with},[],10)
  else
   (zi6 a0 a1).bind λ v3=>
   (if v3.2=true then
    some ({aA.zero with},[],14)
   else
    (if(!(zq1 a0.aB v2 a2))=true then
     some ({aA.zero with},[],12)
    else
     (zk6 a0).bind λ v4=>
     (if(decide (v2=a2))=true then
      some (v4,[],0)
     else
      (zr1 v4.aL a1 a2).bind λ v5=>
      (zx4 ({v4 with aL:=v5})).bind λ v6=>
      some (v6.1,v6.2.1,v6.2.2))))))
instance zcd6(a0:aA)(a1:aF)(a2:aC):OkP (zab5 a0 a1 a2) 117 [ga a0,ga a1,ga a2] (λ r=>.tup [ga r.1,la r.2.1,.int .i64 r.2.2]):=ok1 (zab5.eq_1 a0 a1 a2) Tryz.f117 []
attribute [local irreducible] zab5
def zT7(a0:List aA)(a2:aO)(v2:Int)(v4:aA×(List aT)×Int)(j1:(List aY)):Option ((List aA)×(List aY)×Int):=
 (ze1 a0 v2 v4.1).bind λ v5=>
 (ze6 a2.name v4.2.1).bind λ v6=>
 gd (j1.length+v6.length<=4294967296)<|
 some (v5,(j1++v6),0)
@[go_sem] def zdX0(a0:List aA)(a2:aO)(v2:Int)(v4:aA×(List aT)×Int)(j1:(List aY)):St:=⟨[(0,la a0),(5,.ptr 0 0 0),(9,.int .i64 v2),(11,.ptr 1 0 0),(12,la v4.2.1),(14,.own 2 0 j1.length)],[(0,bx a2),(1,bx v4.1),(2,sx j1)],3⟩
def zS9(a0:List aA)(a1:aF)(a2:aO):Option ((List aA)×(List aY)×Int):=
 (zD2 a0).bind λ v1=>
 (if(!v1)=true then
  some ([],[],2)
 else
  (zh4 a0 a2.name).bind λ v2=>
  (if(decide (v2<0))=true then
   some ([],[],10)
  else
   gd (0<=v2/\v2<(a0.length:Int))<|
   (zk7 (a0.getD v2.toNat aA.zero) a1).bind λ v3=>
   gd (0<=v2/\v2<(a0.length:Int))<|
   (zab5 (a0.getD v2.toNat aA.zero) a1 a2.aJ).bind λ v4=>
   (if(!decide (v4.2.2=0))=true then
    some ([],[],v4.2.2)
   else
    (if(!decide (v3=a2.aJ))=true then
     gd (1<=4294967296)<|
     zT7 a0 a2 v2 v4 [(⟨3,a1,a2.name,a2.aJ⟩:aY)]
    else
     zT7 a0 a2 v2 v4 []))))
theorem zcd7(a0:List aA)(a1:aF)(a2:aO)(r:(List aA)×(List aY)×Int)(h:zS9 a0 a1 a2=some r):PFn C 61 [la a0,ga a1,ga a2] (.tup [la r.1,la r.2.1,.int .i64 r.2.2]):=by
 refine zW4 Tryz.f61 [(14,1)] λ E hG hN hK=>?_;unfold zS9 at h;refine za0 (za1 hG ?_);refine za0 (za0 (za1 hG ?_));obtain⟨v1,hv1,h⟩:=zd0 h;refine zr3 (λ hg=>(zcd5 a0).ok _ hv1) ?_;refine zh9 rfl hG h (λ _ h=>?_) (λ _ h=>?_)
 · refine za0 (za1 hG ?_)
   refine zm8 ?_;exact zy2 h
 refine zh7 ?_;refine za0 (za1 hG ?_);obtain⟨v2,hv2,h⟩:=zd0 h;refine zr3 (λ hg=>(zcn4 a0 a2.name).ok _ hv2) ?_;refine za0 (za0 (za1 hG ?_));refine zh9 rfl hG h (λ _ h=>?_) (λ _ h=>?_)
 · refine za0 (za1 hG ?_)
   refine zm8 ?_;exact zy2 h
 refine zh7 ?_;refine za0 ?_;obtain⟨hb4,h⟩:=zg4 h;refine zaE3 zK6 hG ?_;obtain⟨v3,hv3,h⟩:=zd0 h;refine zS0 (λ hg=>(zbx1 (a0.getD v2.toNat aA.zero) a1).ok _ hv3) ?_;refine za0 ?_;obtain⟨hb3,h⟩:=zg4 h;refine zaE3 zK6 hG ?_;obtain⟨v4,hv4,h⟩:=zd0 h;refine zS0 (λ hg=>(zcd6 (a0.getD v2.toNat aA.zero) a1 a2.aJ).ok _ hv4) ?_;refine za0 (za0 (za1 hG ?_));refine zh9 rfl hG h (λ _ h=>?_) (λ _ h=>?_)
 · refine za0 (za1 hG ?_)
   refine zm8 ?_;exact zy2 h
 refine zh7 ?_;refine za0 (za1 hG ?_);refine za0 (za0 (za1 hG ?_));refine zaA2 (zdX0 a0 a2 v2 v4) (λ v=>zT7 a0 a2 v2 v4 v=some r) rfl hG h ?_ (λ _ h=>?_) (λ _ h=>?_)
 · intro j1 h
   unfold zT7 at h;refine g_st ?_;refine za0 (zaE3 zK6 hG ?_);obtain⟨v5,hv5,h⟩:=zd0 h;refine zS0 (λ hg=>(zbK7 a0 v2 v4.1).ok _ hv5) ?_;obtain⟨v6,hv6,h⟩:=zd0 h;obtain⟨hb1,h⟩:=zg4 h;refine zS0 (λ hg=>(zbT3 a2.name v4.2.1).ok _ hv6) ?_;refine zm8 ?_;exact zy2 h
 · obtain⟨hb2,h⟩:=zg4 h
   refine za1 hG ?_;exact zv9 hK [(0,1),(1,3),(2,5)] [(⟨3,a1,a2.name,a2.aJ⟩:aY)] (by exact h)
 refine zh7 ?_;exact zv9 hK [(0,1),(1,3),(2,4)] [] (by exact h)
instance zdq8(a0:List aA)(a1:aF)(a2:aO):OkP (zS9 a0 a1 a2) 61 [la a0,ga a1,ga a2] (λ r=>.tup [la r.1,la r.2.1,.int .i64 r.2.2]):=⟨zcd7 a0 a1 a2⟩
attribute [local irreducible] zS9
def zV5(a0:aA)(a1:aF):Option (aA×(List aT)×Int):=
 (zA9 a0).bind λ v1=>
 (if(!v1)=true then
  some ({aA.zero with},[],2)
 else
  (zr2 a0 a1).bind λ v2=>
  (if(!v2)=true then
   some ({aA.zero with},[],10)
  else
   (zk6 a0).bind λ v3=>
   (zr1 v3.aL a1 ({aC.zero with})).bind λ v4=>
   (zf9 (({v3 with aL:=v4}).aH) a1).bind λ v5=>
   (zf9 (({{v3 with aL:=v4}with aH:=v5.1}).aU) a1).bind λ v6=>
   (zx4 ({{{v3 with aL:=v4}with aH:=v5.1}with aU:=v6.1})).bind λ v7=>
   some (v7.1,v7.2.1,v7.2.2)))
instance zdq9(a0:aA)(a1:aF):OkP (zV5 a0 a1) 172 [ga a0,ga a1] (λ r=>.tup [ga r.1,la r.2.1,.int .i64 r.2.2]):=ok1 (zV5.eq_1 a0 a1) Tryz.f172 []
attribute [local irreducible] zV5
def zaV2(j1:(List aA)×(List aY)):Option ((List aA)×(List aY)):=
 some (j1.1,j1.2)
def zZ3(a1:aF)(g1:Int×(List aA)×(List aY))(j2:(List aY)):Option ((Int×(List aA)×(List aY))⊕((List aA)×(List aY))):=
 gd (0<=g1.1/\g1.1<((g1.2.1.length:Nat):Int))<|
 (zV5 (g1.2.1.getD g1.1.toNat aA.zero) a1).bind λ v4=>
 gd (0<=g1.1/\g1.1<((g1.2.1.length:Nat):Int))<|
 (ze6 v4.1.aB.name v4.2.1).bind λ v5=>
 gd (j2.length+v5.length<=4294967296)<|
 some (.inl ((i64.wrap (g1.1+1)),g1.2.1.set g1.1.toNat v4.1,(j2++v5)))
def zZ4(a1:aF)(g1:Int×(List aA)×(List aY)):Option ((Int×(List aA)×(List aY))⊕((List aA)×(List aY))):=
 (if(decide (g1.1<((g1.2.1.length:Nat):Int)))=true then
  gd (0<=g1.1/\g1.1<((g1.2.1.length:Nat):Int))<|
  (zr2 (g1.2.1.getD g1.1.toNat aA.zero) a1).bind λ v2=>
  (if(!v2)=true then
   some (.inl ((i64.wrap (g1.1+1)),g1.2.1,g1.2.2))
  else
   gd (0<=g1.1/\g1.1<((g1.2.1.length:Nat):Int))<|
   (zk7 (g1.2.1.getD g1.1.toNat aA.zero) a1).bind λ v3=>
   (if(!(zh5 v3))=true then
    gd (0<=g1.1/\g1.1<((g1.2.1.length:Nat):Int))<|
    gd (g1.2.2.length+1<=4294967296)<|
    zZ3 a1 g1 (g1.2.2++[{aY.zero with kind:=3,aI:=a1,name:=((g1.2.1.getD g1.1.toNat aA.zero).aB).name}])
   else
    zZ3 a1 g1 g1.2.2))
 else
  some (.inr (g1.2.1,g1.2.2)))
def zO5(a0:List aA)(a1:aF):Option ((List aA)×(List aY)):=
 (zD2 a0).bind λ v1=>
 (if(!v1)=true then
  some ([],[])
 else
  gd (a0.length<=4294967296)<|
  (zc1 (zZ4 a1) (0,a0,[])).bind (λ z=>zaV2 z))
@[reducible,instance] def zeA6 a0 a1 {T1:Type} (v1:T1):=mkJ (zO5 a0 a1,v1) 0 (@zaV2.eq_1) λ(j1:(List aA)×(List aY))=>⟨[(6,.own 0 0 j1.1.length),(7,.own 1 0 j1.2.length)],[(0,sx j1.1),(1,sx j1.2)],2⟩
@[reducible,instance] def zeA7 (a1:aF) (g1:Int×(List aA)×(List aY)) {T1:Type} (v2:T1) {T2:Type} (v3:T2):=mkJ ((zZ4 a1 g1,v2),v3) 999 (@zZ3.eq_1 a1 g1) λ(j2:(List aY))=>⟨[(3,.ptr 0 0 0),(6,.own 1 0 g1.2.1.length),(7,.own 2 0 j2.length),(8,.int .i64 g1.1)],[(0,bx a1),(1,sx g1.2.1),(2,sx j2)],3⟩
@[reducible,instance] def zeA8 (a1:aF) {T:Type} (x:T):=mkL x (@zZ4.eq_1 a1) λ(g1:Int×(List aA)×(List aY))=>⟨[(3,.ptr 0 0 0),(6,.own 1 0 g1.2.1.length),(7,.own 2 0 g1.2.2.length),(8,.int .i64 g1.1)],[(0,bx a1),(1,sx g1.2.1),(2,sx g1.2.2)],3⟩
instance zdr0(a0:List aA)(a1:aF):OkP (zO5 a0 a1) 118 [la a0,ga a1] (λ r=>.tup [la r.1,la r.2]):=ok1 (zO5.eq_1 a0 a1) Tryz.f118 [(15,1),(7,1)]
attribute [local irreducible] zO5
def zx5(a0:aD)(a1:List aT)(a2:aF)(a3:aC):Option Bool:=
 (zq8 a0 a1).bind λ v1=>
 some ((v1&&za3 a2)&&zb4 a0 a3)
instance zdc7(a0:aD)(a1:List aT)(a2:aF)(a3:aC):OkP (zx5 a0 a1 a2 a3) 233 [ga a0,la a1,ga a2,ga a3] (λ r=>.bool r):=ok1 (zx5.eq_1 a0 a1 a2 a3) Tryz.f233 []
attribute [local irreducible] zx5
def zaF3(j1:(List aF)):Option (List aF):=
 (zh6 j1).bind λ v2=>
 some v2
def zas0(a0:aS)(g1:Int×(List aF)):Option ((Int×(List aF))⊕(List aF)):=
 (if(decide (g1.1<(a0.bA.length:Int)))=true then
  gd (0<=g1.1/\g1.1<(a0.bA.length:Int))<|
  gd (g1.2.length+1<=4294967296)<|
  some (.inl ((i64.wrap (g1.1+1)),(g1.2++[(a0.bA.getD g1.1.toNat bI.zero).aI])))
 else
  some (.inr g1.2))
def zB0(a0:aS):Option (List aF):=
 (zu6 a0.aG).bind λ v1=>
 (zc1 (zas0 a0) (0,v1)).bind (λ z=>zaF3 z)
@[reducible,instance] def zeA9 a0 {T1:Type} (v1:T1):=mkJ (zB0 a0,v1) 0 (@zaF3.eq_1) λ(j1:(List aF))=>⟨[(3,.own 0 0 j1.length)],[(0,sx j1)],1⟩
@[reducible,instance] def zeB0 (a0:aS) {T:Type} (x:T):=mkL x (@zas0.eq_1 a0) λ(g1:Int×(List aF))=>⟨[(1,.ptr 0 0 0),(3,.own 1 0 g1.2.length),(4,.int .i64 g1.1)],[(0,bx a0),(1,sx g1.2)],2⟩
instance zdA0(a0:aS):OkP (zB0 a0) 219 [ga a0] (λ r=>la r):=ok1 (zB0.eq_1 a0) Tryz.f219 [(7,1)]
attribute [local irreducible] zB0
def zbn7(j1:(List aA)):Option ((List aA)×Int):=
 some (j1,0)
def zaB7(a0:List aD)(g1:Int×(List aA)):Option ((Int×(List aA))⊕(List aA)):=
 (if(decide (g1.1<(a0.length:Int)))=true then
  gd (0<=g1.1/\g1.1<(a0.length:Int))<|
  gd (g1.2.length+1<=4294967296)<|
  some (.inl ((i64.wrap (g1.1+1)),(g1.2++[{aA.zero with aB:=(a0.getD g1.1.toNat aD.zero)}])))
 else
  some (.inr g1.2))
def zH8(a0:List aD):Option ((List aA)×Int):=
 (zu1 a0).bind λ v1=>
 (if(!v1)=true then
  some ([],1)
 else
  (zc1 (zaB7 a0) (0,[])).bind (λ z=>zbn7 z))
@[reducible,instance] def zeB1 a0 {T1:Type} (v1:T1):=mkJ (zH8 a0,v1) 0 (@zbn7.eq_1) λ(j1:(List aA))=>⟨[(4,.own 0 0 j1.length)],[(0,sx j1)],1⟩
@[reducible,instance] def zeB2 (a0:List aD) {T:Type} (x:T):=mkL x (@zaB7.eq_1 a0) λ(g1:Int×(List aA))=>⟨[(0,la a0),(4,.own 0 0 g1.2.length),(5,.int .i64 g1.1)],[(0,sx g1.2)],1⟩
instance zdN5(a0:List aD):OkP (zH8 a0) 37 [la a0] (λ r=>.tup [la r.1,.int .i64 r.2]):=ok1 (zH8.eq_1 a0) Tryz.f37 [(4,1)]
attribute [local irreducible] zH8
end
end Ab
end Go.Proofs.YtdlfhmkmnjbihaaGreatDoor
