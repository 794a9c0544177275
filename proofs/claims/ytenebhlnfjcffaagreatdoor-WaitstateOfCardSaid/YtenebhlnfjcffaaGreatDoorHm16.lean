import Derived.Test.YtenebhlnfjcffaaGreatDoorHm9
import Derived.Test.YtenebhlnfjcffaaGreatDoorHm12
import Derived.Test.YtenebhlnfjcffaaGreatDoorSort
namespace Go.Proofs.YtenebhlnfjcffaaGreatDoor
namespace Ab
open IntKind (i64 u64 u8)
set_option linter.unusedSimpArgs false
set_option linter.defProp false
set_option linter.unusedVariables false
set_option maxRecDepth 100000
set_option maxHeartbeats 1000000
noncomputable section
attribute [local irreducible] zl1 ze7 zb3 za2 zd2 zj6 zb4 za8 zl5 zg4 zi6 zi7 zk5 zh8 ze1 za5 za9 zf7 zj1 zh5 zj7 zf2 ze3 zp5 zk3 zf6 zf0 zd1 zd7 zc3 za6 zi1 zf8 zl9 zf9 f_ref08_holds ze5 zg0 zl0 zf3 zg5 zf1 zb0 za0 zh0 zl2 zk4 ze4 zb5 zd3 ze6 zg8 zn2 zm1 zd8 zg1 zk6 zj5 zh7 zl3 zd0 zh1 zp9 zc8 zi0 zc5 zi4 zo6 za7 ze2 za4 zj0 zc2 za1 zf4 zi5 ze8 zn7 zo4 zq9 zg7 zh3 zf5 zm9 zt4 ze0 zg9 zc7 zd9 zb7 zr4 zh6 zj3 zp3 zo0 zb9 zm6 zk9 zi3 zg2
def zX9 (j1:(List aD)):Option (Bool×(List aD)) :=
 some (true,j1)
@[go_sem] def zcT6  (j1:(List aD)):St:=⟨[],[(0,⟨false,1,[A.sl ([].map aD.enc)],[[.own 2 0 j1.length]]⟩),(2,sx j1)],3⟩
def zG4 (a90:(aG→List aD→Option (Bool×(List aD)))) (a0:aG) (g1:Int×(List aD)):Option ((Int×(List aD))⊕((List aD)⊕(Bool×(List aD)))) :=
 (if (decide (g1.1 < (a0.aV.length:Int)))=true then
  gd (0≤g1.1∧g1.1 < (a0.aV.length:Int)) <|
  (a90 (a0.aV.getD g1.1.toNat aG.zero) g1.2).bind fun v3 =>
  (if (!v3.1)=true then
   some (.inr (.inr (false,v3.2)))
  else
   some (.inl ((i64.wrap (g1.1+1)),v3.2)))
 else
  some (.inr (.inl g1.2)))
@[go_sem] def zcT7 (a0:aG) (g1:Int×(List aD)):St:=⟨[(1,.ptr 0 0 0),(44,la a0.aV),(45,.int .i64 (a0.aV.length:Int)),(46,.int .i64 g1.1)],[(0,⟨false,1,[A.sl ([].map aD.enc)],[[.own 2 0 g1.2.length]]⟩),(2,sx g1.2)],3⟩
def zJ5 (a90:(aG→List aD→Option (Bool×(List aD)))) (a0:aG) (a1:List aD):Option (Bool×(List aD)) :=
 (if (decide ((a0.aV.length:Int)=0))=true then
  ((if (decide (a0.k=0))=true then zg9 a0.aZ else some false)).bind fun v1 =>
  (if (decide (a0.k=0)&&v1)=true then
   (zf3 a0.aZ a1).bind fun v2 =>
   some (((decide (a0.k=0)&&v1)&&decide (v2.1=0)),v2.2)
  else
   some (((decide (a0.k=0)&&v1)&&decide (0=0)),a1))
 else
  (if ((decide (a0.k < 1)||decide ((a0.aV.length:Int) < a0.k))||(!decide (a0.aZ={ aD.zero with  })))=true then
   some (false,a1)
  else
   (zc6 (zG4 a90 a0) (0,a1)).bind (fun|.inl z=>zX9 z|.inr z=>some z)))
def zt8:Nat→(aG→List aD→Option (Bool×(List aD)))
 | 0=>fun _ _=>none
 | n+1=>zJ5 (zt8 n)
def zm0 (a0:aG) (a1:List aD):Option (Bool×(List aD)):=zt8 (_root_.SizeOf.sizeOf a0+1) a0 a1
theorem zaN0 (a90:(aG→List aD→Option (Bool×(List aD)))) (hrc:∀ (a0:aG) (a1:List aD) (r:Bool×(List aD)),a90 a0 a1=some r→MFn C 81 [ga a0,.ptr 0 0 0] [(0,⟨false,1,[A.sl ([].map aD.enc)],[[.own 1 0 a1.length]]⟩),(1,sx a1)] 2 (.bool r.1) [(0,⟨false,1,[A.sl ([].map aD.enc)],[[.own 2 0 r.2.length]]⟩),(2,sx r.2)] 3) (a0:aG) (a1:List aD) (r:Bool×(List aD)) (h:zJ5 a90 a0 a1=some r):MFn C 81 [ga a0,.ptr 0 0 0] [(0,⟨false,1,[A.sl ([].map aD.enc)],[[.own 1 0 a1.length]]⟩),(1,sx a1)] 2 (.bool r.1) [(0,⟨false,1,[A.sl ([].map aD.enc)],[[.own 2 0 r.2.length]]⟩),(2,sx r.2)] 3:=by
 refine zaM3 Tryz.f81 [] [.bool r.1] fun E hG hN hK=>?_
 unfold zJ5 at h
 refine zb2 (zc0 hG ?_)
 refine zb2 (zb2 (zc0 hG ?_))
 refine zs2 rfl hG h (fun _ h=>?_) (fun _ h=>?_)
 · refine zb2 (zc0 hG ?_)
   obtain ⟨v1,hv1,h⟩:=zn1 h
   refine zA8 (fun hg=>(zaM7 a0.aZ).ok _ (zaD1 hg hv1)) ?_
   refine zcg6 h (fun hc h=>?_) (fun hc h=>?_)
   · obtain ⟨v2,hv2,h⟩:=zn1 h
     refine zbQ6 hc [(0,0),(1,1)] [(2,3)] [0,1,2] ((zaV5 a0.aZ a1).ok _ hv2) rfl rfl ?_
     refine zy1 ?_
     exact zZ9 [(0,0),(2,3)] h
   refine zbQ7 hc (.int .i64 0) ?_
   refine zy1 ?_
   exact zZ9 [(0,0),(2,1)] h
 refine zr8 ?_
 refine zb2 (zb2 (zc0 hG ?_))
 refine zs2 rfl hG h (fun _ h=>?_) (fun _ h=>?_)
 · refine zb2 (zc0 hG ?_)
   refine zy1 ?_
   exact zZ9 [(0,0),(2,1)] h
 refine zr8 ?_
 refine zb2 (zb2 (zc0 hG ?_))
 refine zO1 zcT6 (fun v=>zX9 v=some r) ?_ ?_
 · intro j1 h
   unfold zX9 at h
   refine g_st ?_
   refine zb2 (zc0 hG ?_)
   refine zy1 ?_
   exact zZ9 [(0,0),(2,2)] h
 refine zam9 (zcT7 a0) hK [(0,0),(2,1)] h (fun x_l1 h g1 y_l1 h_l1 hx_l1=>?_)
 unfold zG4 at h_l1
 refine g_st ?_
 refine zb2 (zc0 hG ?_)
 refine zb2 ?_
 refine zs2 rfl hG h_l1 (fun _ h_l1=>?_) (fun _ h_l1=>?_)
 · refine zr8 ?_
   refine zb2 (zK3 (zb2 ?_))
   obtain ⟨hb1,h_l1⟩:=zm3 h_l1
   refine zc0 hG ?_
   refine zb2 (zc0 hG ?_)
   obtain ⟨v3,hv3,h_l1⟩:=zn1 h_l1
   refine zB2 [(0,0),(1,2)] [(2,4)] [0,1,2] (hrc (a0.aV.getD g1.1.toNat aG.zero) g1.2 _ hv3) rfl rfl ?_
   refine zs2 rfl hG h_l1 (fun _ h_l1=>?_) (fun _ h_l1=>?_)
   · refine zb2 (zc0 hG ?_)
     refine zy1 ?_
     cases h_l1
     cases hx_l1 _ rfl
     exact zZ9 [(0,0),(2,4)] h
   refine zr8 ?_
   refine zc0 hG ?_
   exact zX8 hK [(0,0),(2,4)] h_l1
 refine zO2 ?_
 cases h_l1
 cases hx_l1 _ rfl
 exact zS5 hK [(0,0),(2,2)] g1.2 (by exact h)
theorem zar2:∀ (n:Nat) (a0:aG) (a1:List aD) (r:Bool×(List aD)),zt8 n a0 a1=some r→MFn C 81 [ga a0,.ptr 0 0 0] [(0,⟨false,1,[A.sl ([].map aD.enc)],[[.own 1 0 a1.length]]⟩),(1,sx a1)] 2 (.bool r.1) [(0,⟨false,1,[A.sl ([].map aD.enc)],[[.own 2 0 r.2.length]]⟩),(2,sx r.2)] 3
 | 0,_,_,_,h=>nomatch h
 | n+1,a0,a1,r,h=>zaN0 (zt8 n) (zar2 n) a0 a1 r h
instance zaN1 (a0:aG) (a1:List aD):OkM (zm0 a0 a1) 81 [ga a0,.ptr 0 0 0] [(0,⟨false,1,[A.sl ([].map aD.enc)],[[.own 1 0 a1.length]]⟩),(1,sx a1)] 2 (fun r=>.bool r.1) (fun r=>[(0,⟨false,1,[A.sl ([].map aD.enc)],[[.own 2 0 r.2.length]]⟩),(2,sx r.2)]) 3:=⟨fun r h=>zar2 _ a0 a1 r h⟩
attribute [local irreducible] zm0
def zan3 (j1:(List aH)):Option (List aH) :=
 some j1
def zT3 (v1:(List aR)) (g1:Int×(List aH)):Option ((Int×(List aH))⊕(List aH)) :=
 (if (decide (g1.1 < (v1.length:Int)))=true then
  gd (0≤g1.1∧g1.1 < (v1.length:Int)) <|
  gd (g1.2.length+1≤4294967296) <|
  some (.inl ((i64.wrap (g1.1+1)),(g1.2++[(v1.getD g1.1.toNat aR.zero).aN])))
 else
  some (.inr g1.2))
def zp6 (a0:aF):Option (List aH) :=
 (zo0 a0).bind fun v1 =>
 (zc6 (zT3 v1) (0,[])).bind (fun z=>zan3 z)
@[reducible,instance] def zdo8 a0 {T1:Type} (v1:T1):=mkJ (zp6 a0,v1) 0 (@zan3.eq_1) fun (j1:(List aH))=>⟨[(3,.own 0 0 j1.length)],[(0,sx j1)],1⟩
@[reducible,instance] def zdo9 (v1:(List aR)) {T:Type} (x:T):=mkL x (@zT3.eq_1 v1) fun (g1:Int×(List aH))=>⟨[(3,.own 0 0 g1.2.length),(7,la v1),(8,.int .i64 (v1.length:Int)),(9,.int .i64 g1.1)],[(0,sx g1.2)],1⟩
instance zcz7 (a0:aF):OkP (zp6 a0) 156 [ga a0] (fun r=>la r):=ok1 (zp6.eq_1 a0) Tryz.f156 [(3,1)]
attribute [local irreducible] zp6
def zak5 (j1:(List aD)):Option (List aD) :=
 some j1
def zW6 (a0:aG) (g1:Int×(List aD)):Option ((Int×(List aD))⊕(List aD)) :=
 (if (decide (g1.1 < (a0.aV.length:Int)))=true then
  gd (0≤g1.1∧g1.1 < (a0.aV.length:Int)) <|
  (zh3 (a0.aV.getD g1.1.toNat aG.zero) g1.2).bind fun v2 =>
  some (.inl ((i64.wrap (g1.1+1)),v2))
 else
  some (.inr g1.2))
def zy3 (a90:(aG→Option (List aD))) (a0:aG):Option (List aD) :=
 (if (decide ((a0.aV.length:Int)=0))=true then
  (za7 [] a0.aZ).bind fun v1 =>
  (if v1=true then
   some []
  else
   gd (1≤4294967296) <|
   some [a0.aZ])
 else
  (zc6 (zW6 a0) (0,[])).bind (fun z=>zak5 z))
def zQ2:Nat→(aG→Option (List aD))
 | 0=>fun _=>none
 | n+1=>zy3 (zQ2 n)
def zk7 (a0:aG):Option (List aD):=zQ2 (_root_.SizeOf.sizeOf a0+1) a0
@[reducible,instance] def zdp0 (a90:(aG→Option (List aD))) (a0:aG):=mkJ (zy3 a90 a0) 0 (@zak5.eq_1) fun (j1:(List aD))=>⟨[(0,.own 0 0 j1.length)],[(0,sx j1)],1⟩
@[reducible,instance] def zdp1 (a0:aG) {T:Type} (x:T):=mkL x (@zW6.eq_1 a0) fun (g1:Int×(List aD))=>⟨[(0,.own 0 0 g1.2.length),(22,la a0.aV),(23,.int .i64 (a0.aV.length:Int)),(24,.int .i64 g1.1)],[(0,sx g1.2)],1⟩
abbrev zS2 (g:(aG→Option (List aD))):Prop:=∀ (a0:aG),OkM (g a0) 85 [.full ([].map aD.enc),.agg (aG.enc a0)] [] 0 (fun r=>.sl (r.map aD.enc)) (fun r=>[]) 0
theorem zaK7 (a90:(aG→Option (List aD))) (hrc:zS2 a90):zS2 (zy3 a90):=fun a0=>⟨fun r h=>by
 refine zaM3 Tryz.f85 [] [la r] fun E hG hN hK=>?_
 have hm:Mk (zy3 a90 a0):=trivial
 unfold zy3 at h
 refine g_gh (.own0 0 3 (aD.enc aD.zero)) ?_
 refine zb2 (zc0 hG ?_)
 refine zb2 (zb2 (zc0 hG ?_))
 refine zs2 rfl hG h (fun _ h=>?_) (fun _ h=>?_)
 · refine zb2 (zb2 (zc0 hG ?_))
   obtain ⟨v1,hv1,h⟩:=zn1 h
   have hm:=mkP hm v1
   refine zA8 (fun hg=>(zae0 [] a0.aZ).ok _ hv1) ?_
   refine zs2 rfl hG h (fun _ h=>?_) (fun _ h=>?_)
   · refine zb2 (zc0 hG ?_)
     refine g_gh (.fz [0]) ?_
     exact gogo
   refine zr8 ?_
   refine zb2 ?_
   obtain ⟨hb1,h⟩:=zm3 h
   refine zc0 hG ?_
   refine g_gh (.fz [2]) ?_
   exact gogo
 refine zr8 ?_
 refine zb2 (zb2 (zc0 hG ?_))
 refine zaq2 hm h (fun j1 hm h=>?_) ?_
 · try refine g_st ?_
   refine zb2 (zc0 hG ?_)
   refine g_gh (.fz [0]) ?_
   exact gogo
 exact gogo⟩
theorem zaK8:∀ n,zS2 (zQ2 n):=zav6 (fun _=>⟨fun _ h=>nomatch h⟩) fun n=>zaK7 _
instance zbM7:zS2 zk7:=fun a0=>zaK8 _ a0
attribute [local irreducible] zk7
def zaA0 (j1:Unit):Option (aA×Bool) :=
 some ({ aA.zero with  },false)
def zQ3 (a1:aH) (v1:(List aR)) (g1:Int):Option (Int⊕(Unit⊕(aA×Bool))) :=
 (if (decide (g1 < (v1.length:Int)))=true then
  gd (0≤g1∧g1 < (v1.length:Int)) <|
  (if (decide ((v1.getD g1.toNat aR.zero).aN=a1))=true then
   some (.inr (.inr ((v1.getD g1.toNat aR.zero).aI,true)))
  else
   some (.inl (i64.wrap (g1+1))))
 else
  some (.inr (.inl ())))
def zn8 (a0:aF) (a1:aH):Option (aA×Bool) :=
 (zo0 a0).bind fun v1 =>
 (zc6 (zQ3 a1 v1) 0).bind (fun|.inl z=>zaA0 z|.inr z=>some z)
@[reducible,instance] def zdp2 a0 a1 {T1:Type} (v1:T1):=mkJ (zn8 a0 a1,v1) 0 (@zaA0.eq_1) fun (j1:Unit)=>⟨[(4,.ptr 0 0 0)],[(0,bx aA.zero)],1⟩
@[reducible,instance] def zdp3 (a1:aH) (v1:(List aR)) {T:Type} (x:T):=mkL x (@zQ3.eq_1 a1 v1) fun (g1:Int)=>⟨[(3,.ptr 0 0 0),(4,.ptr 1 0 0),(9,la v1),(10,.int .i64 (v1.length:Int)),(11,.int .i64 g1)],[(0,bx a1),(1,bx aA.zero)],2⟩
instance zcs6 (a0:aF) (a1:aH):OkP (zn8 a0 a1) 38 [ga a0,ga a1] (fun r=>.tup [ga r.1,.bool r.2]):=ok1 (zn8.eq_1 a0 a1) Tryz.f38 []
attribute [local irreducible] zn8
def f_formula_holds (a0:aG) (a1:List aD) (a2:List Bool):Option Bool :=
 (zk9 a0 (⟨a1,a2⟩:bN)).bind fun v1 =>
 some v1
instance zcm9 (a0:aG) (a1:List aD) (a2:List Bool):OkP (f_formula_holds a0 a1 a2) 231 [ga a0,la a1,.sl (a2.map eB)] (fun r=>.bool r):=ok1 (f_formula_holds.eq_1 a0 a1 a2) Tryz.f231 []
attribute [local irreducible] f_formula_holds
def zal7 (j1:Unit):Option Bool :=
 some true
def zY0 (g1:Int×Int) (j2:Unit):Option ((Int×Int)⊕(Unit⊕Bool)) :=
 some (.inl (g1.1,i64.wrap (g1.2+1)))
def zB9 (a1:List aA) (g1:Int×Int) (g2:Int):Option (Int⊕(Unit⊕Bool)) :=
 (if (decide (g2 < g1.2))=true then
  gd (0≤g1.2∧g1.2 < (a1.length:Int)) <|
  gd ((!(zq2 (a1.getD g1.2.toNat aA.zero)))=true→0≤g2∧g2 < (a1.length:Int)) <|
  gd (((!(zq2 (a1.getD g1.2.toNat aA.zero)))&&(!(zq2 (a1.getD g2.toNat aA.zero))))=true→0≤g1.2∧g1.2 < (a1.length:Int)) <|
  gd (((!(zq2 (a1.getD g1.2.toNat aA.zero)))&&(!(zq2 (a1.getD g2.toNat aA.zero))))=true→0≤g2∧g2 < (a1.length:Int)) <|
  (if (((!(zq2 (a1.getD g1.2.toNat aA.zero)))&&(!(zq2 (a1.getD g2.toNat aA.zero))))&&(!(zG8 ((a1.getD g1.2.toNat aA.zero).mode) ((a1.getD g2.toNat aA.zero).mode))))=true then
   some (.inr (.inr false))
  else
   some (.inl (i64.wrap (g2+1))))
 else
  some (.inr (.inl ())))
def zy4 (a0:aC) (a1:List aA) (g1:Int×Int):Option ((Int×Int)⊕(Unit⊕Bool)) :=
 (if (decide (g1.2 < (a1.length:Int)))=true then
  gd (0≤g1.2∧g1.2 < (a1.length:Int)) <|
  (if (!(zy6 a0 (a1.getD g1.2.toNat aA.zero)))=true then
   some (.inr (.inr false))
  else
   (if (decide (a0.kind=2))=true then
    gd (0≤g1.2∧g1.2 < (a1.length:Int)) <|
    (if (decide (a0.aP < i64.wrap (g1.1+(a1.getD g1.2.toNat aA.zero).aP)))=true then
     some (.inr (.inr false))
    else
     some (.inl ((i64.wrap (g1.1+(a1.getD g1.2.toNat aA.zero).aP)),i64.wrap (g1.2+1))))
   else
    (zc6 (zB9 a1 g1) 0).bind (fun|.inl z=>zY0 g1 z|.inr z=>some (.inr (.inr z)))))
 else
  some (.inr (.inl ())))
def zj2 (a0:aC) (a1:List aA):Option Bool :=
 (if (!(zE6 a0))=true then
  some false
 else
  (zc6 (zy4 a0 a1) (0,0)).bind (fun|.inl z=>zal7 z|.inr z=>some z))
@[reducible,instance] def zdp4 a0 a1:=mkJ (zj2 a0 a1) 0 (@zal7.eq_1) fun (j1:Unit)=>⟨[],[],0⟩
@[reducible,instance] def zdp5 (a0:aC) (a1:List aA) (g1:Int×Int):=mkJ (zy4 a0 a1 g1) 2 (@zY0.eq_1 g1) fun (j2:Unit)=>⟨[(1,la a1),(2,.ptr 0 0 0),(5,.int .i64 g1.1),(6,.int .i64 g1.2)],[(0,bx a0)],1⟩
@[reducible,instance] def zdp6 (a0:aC) (a1:List aA) (g1:Int×Int):=mkL (zy4 a0 a1 g1) (@zB9.eq_1 a1 g1) fun (g2:Int)=>⟨[(1,la a1),(2,.ptr 0 0 0),(5,.int .i64 g1.1),(6,.int .i64 g1.2),(7,.int .i64 g2)],[(0,bx a0)],1⟩
@[reducible,instance] def zdp7 (a0:aC) (a1:List aA) {T:Type} (x:T):=mkL x (@zy4.eq_1 a0 a1) fun (g1:Int×Int)=>⟨[(1,la a1),(2,.ptr 0 0 0),(5,.int .i64 g1.1),(6,.int .i64 g1.2)],[(0,bx a0)],1⟩
instance zbW7 (a0:aC) (a1:List aA):OkP (zj2 a0 a1) 306 [ga a0,la a1] (fun r=>.bool r):=ok1 (zj2.eq_1 a0 a1) Tryz.f306 []
attribute [local irreducible] zj2
def zu5 (a0:aC) (a1 a2:aA):Bool :=
 (if ((!(zy6 a0 a1))||(!(zy6 a0 a2)))=true then
  false
 else
  (if (zq2 a2)=true then
   true
  else
   (if (zq2 a1)=true then
    false
   else
    (if (decide (a0.kind=1))=true then
     (zC3 a1.mode a2.mode)
    else
     (decide (a2.aP≤a1.aP))))))
instance zcs7 (a0:aC) (a1 a2:aA):OkT 89 [.agg (aC.enc a0),.agg (aA.enc a1),.agg (aA.enc a2)] (.bool (zu5 a0 a1 a2)):=ok2 (fun r=>.bool r) (zu5.eq_1 a0 a1 a2) Tryz.f89 []
attribute [local irreducible] zj4 zi8 zh2 zh4 zm7 zr9
theorem zaa9:SlLaysF0.n6 C.P ⟨fun|6=>103|15=>158|14=>157|28=>222|29=>223|20=>214|21=>215|22=>216|23=>217|24=>218|25=>219|26=>220|27=>221|46=>263|47=>264|48=>265|49=>266|50=>267|57=>299|n=>n,fun|22=>70|24=>38|25=>92|39=>209|53=>263|55=>162|46=>256|45=>255|50=>260|66=>291|70=>198|76=>318|77=>206|n=>n,fun n=>n⟩ where
 mixed:=zab9
 f6:=⟨ "slices.SortFunc[[]clusterlocks/api.Proc,clusterlocks/api.Proc]",by decide,Tryz.func103.trans (cW some (by kernel_rfl))⟩
 f14:=⟨ "slices.pdqsortCmpFunc[clusterlocks/api.Proc]",by decide,Tryz.func157.trans (cW some (by kernel_rfl))⟩
 f15:=Tryz.func158.trans (cW some (by kernel_rfl))
 f20:=⟨ "slices.insertionSortCmpFunc[clusterlocks/api.Proc]",by decide,Tryz.func214.trans (cW some (by kernel_rfl))⟩
 f21:=⟨ "slices.heapSortCmpFunc[clusterlocks/api.Proc]",by decide,Tryz.func215.trans (cW some (by kernel_rfl))⟩
 f22:=⟨ "slices.breakPatternsCmpFunc[clusterlocks/api.Proc]",by decide,Tryz.func216.trans (cW some (by kernel_rfl))⟩
 f23:=⟨ "slices.choosePivotCmpFunc[clusterlocks/api.Proc]",by decide,Tryz.func217.trans (cW some (by kernel_rfl))⟩
 f24:=⟨ "slices.reverseRangeCmpFunc[clusterlocks/api.Proc]",by decide,Tryz.func218.trans (cW some (by kernel_rfl))⟩
 f25:=⟨ "slices.partialInsertionSortCmpFunc[clusterlocks/api.Proc]",by decide,Tryz.func219.trans (cW some (by kernel_rfl))⟩
 f26:=⟨ "slices.partitionEqualCmpFunc[clusterlocks/api.Proc]",by decide,Tryz.func220.trans (cW some (by kernel_rfl))⟩
 f27:=⟨ "slices.partitionCmpFunc[clusterlocks/api.Proc]",by decide,Tryz.func221.trans (cW some (by kernel_rfl))⟩
 f28:=Tryz.func222.trans (cW some (by kernel_rfl))
 f29:=Tryz.func223.trans (cW some (by kernel_rfl))
 f46:=⟨ "slices.siftDownCmpFunc[clusterlocks/api.Proc]",by decide,Tryz.func263.trans (cW some (by kernel_rfl))⟩
 f47:=Tryz.func264.trans (cW some (by kernel_rfl))
 f48:=Tryz.func265.trans (cW some (by kernel_rfl))
 f49:=⟨ "slices.medianAdjacentCmpFunc[clusterlocks/api.Proc]",by decide,Tryz.func266.trans (cW some (by kernel_rfl))⟩
 f50:=⟨ "slices.medianCmpFunc[clusterlocks/api.Proc]",by decide,Tryz.func267.trans (cW some (by kernel_rfl))⟩
 f57:=⟨ "slices.order2CmpFunc[clusterlocks/api.Proc]",by decide,Tryz.func299.trans (cW some (by kernel_rfl))⟩
 t0:=Tryz.underlying0
 a0:=Tryz.isAgg0
 z0:=Tryz.sizeOf0
 v0:=Tryz.zeroValue0
 t3:=Tryz.underlying3
 a3:=Tryz.isAgg3
 z3:=Tryz.sizeOf3
 v3:=Tryz.zeroValue3
 t4:=Tryz.underlying4
 a4:=Tryz.isAgg4
 z4:=Tryz.sizeOf4
 v4:=Tryz.zeroValue4
 t5:=Tryz.underlying5
 a5:=Tryz.isAgg5
 z5:=Tryz.sizeOf5
 v5:=Tryz.zeroValue5
 t9:=Tryz.underlying9
 a9:=Tryz.isAgg9
 z9:=Tryz.sizeOf9
 v9:=Tryz.zeroValue9
 t22:=Tryz.underlying70
 a22:=Tryz.isAgg70
 z22:=Tryz.sizeOf70
 v22:=Tryz.zeroValue70
 t25:=Tryz.underlying92
 a25:=Tryz.isAgg92
 z25:=Tryz.sizeOf92
 v25:=Tryz.zeroValue92
 t39:=Tryz.underlying209
 a39:=Tryz.isAgg209
 z39:=Tryz.sizeOf209
 v39:=Tryz.zeroValue209
 t45:=Tryz.underlying255
 a45:=Tryz.isAgg255
 z45:=Tryz.sizeOf255
 v45:=Tryz.zeroValue255
 t46:=Tryz.underlying256
 a46:=Tryz.isAgg256
 z46:=Tryz.sizeOf256
 v46:=Tryz.zeroValue256
 t50:=Tryz.underlying260
 a50:=Tryz.isAgg260
 z50:=Tryz.sizeOf260
 v50:=Tryz.zeroValue260
 t53:=Tryz.underlying263
 a53:=Tryz.isAgg263
 z53:=Tryz.sizeOf263
 v53:=Tryz.zeroValue263
 t55:=Tryz.underlying162
 a55:=Tryz.isAgg162
 z55:=Tryz.sizeOf162
 v55:=Tryz.zeroValue162
 t66:=Tryz.underlying291
 a66:=Tryz.isAgg291
 z66:=Tryz.sizeOf291
 v66:=Tryz.zeroValue291
 t70:=Tryz.underlying198
 a70:=Tryz.isAgg198
 z70:=Tryz.sizeOf198
 v70:=Tryz.zeroValue198
 t76:=Tryz.underlying318
 a76:=Tryz.isAgg318
 z76:=Tryz.sizeOf318
 v76:=Tryz.zeroValue318
 t77:=Tryz.underlying206
 a77:=Tryz.isAgg206
 z77:=Tryz.sizeOf206
 v77:=Tryz.zeroValue206
def zc1 (a0:List aH):Option (List aH):=gd (a0.length≤4294967296) (some (a0.mergeSort fun x y=>!decide (y.site < x.site∨y.site=x.site∧(y.inc < x.inc∨y.inc=x.inc∧y.num < x.num))))
theorem zZ6 (a0 r:List aH) (h:zc1 a0=some r):r.length=a0.length:=by
 obtain ⟨_,h⟩:=zm3 h
 obtain rfl:=dG h
 exact iT _
theorem zZ7 (a0 r:List aH) (h:zc1 a0=some r):MFn C 103 [.own 0 0 a0.length,.clo 34 []] [(0,sx a0)] 1 (.tup []) [(0,sx r)] 1:=by
 obtain ⟨hl,h⟩:=zm3 h
 obtain rfl:=dG h
 haveI:Inhabited aH:=⟨aH.zero⟩
 have e:(fun x y:aH=>!decide (y.site < x.site∨y.site=x.site∧(y.inc < x.inc∨y.inc=x.inc∧y.num < x.num)))=fun x y=>!(ltOf cmpS) y x:=by
  funext x y
  rw [zaD9]
  exact cW not (jA.2 jW)
 rw [e]
 exact zbR1 zaa9 aH.enc 3 aH.len (by decide) (fun x=>(aH.laws x).2.1) Tryz.isAgg38 Tryz.sizeOf38 cmpS zcz4 34 (fun x y=>(zaq9 x y).ok _ (zcN1 x y)) (enters_of Tryz.func34 (by kernel_rfl) rfl) rfl _ a0 hl (fun x _ y _=>zca2 x y)
attribute [local irreducible] zc1
def zi2 (a0 a1:aF):Option Bool :=
 ((if (decide (a0.gen=a1.gen))=true then zf5 a0 a1 else some false)).bind fun v1 =>
 ((if (decide (a0.gen=a1.gen)&&v1)=true then zb0 a0.aS a1.aS else some false)).bind fun v2 =>
 some ((decide (a0.gen=a1.gen)&&v1)&&v2)
instance zbJ3 (a0 a1:aF):OkP (zi2 a0 a1) 54 [ga a0,ga a1] (fun r=>.bool r):=ok1 (zi2.eq_1 a0 a1) Tryz.f54 []
attribute [local irreducible] zi2
def zY8 (a0:bC) (j1:Unit):Option Bool :=
 (ze2 a0.bE (a0.aJ.length:Int)).bind fun v1 =>
 some v1
def zQ4 (a0:bC) (g1:Int×(List (ByteArray×aA))):Option ((Int×(List (ByteArray×aA)))⊕(Unit⊕Bool)) :=
 (if (decide (g1.1 < (a0.aJ.length:Int)))=true then
  gd (0≤g1.1∧g1.1 < (a0.aJ.length:Int)) <|
  (zd8 ((a0.aJ.getD g1.1.toNat bB.zero).name)).bind fun v2 =>
  ((if (!((!v2)||(!decide ((a0.aJ.getD g1.1.toNat bB.zero).before=(mget ((a0.aJ.getD g1.1.toNat bB.zero).name) g1.2).getD aA.zero))))=true then zm6 ((a0.aJ.getD g1.1.toNat bB.zero).before) ((a0.aJ.getD g1.1.toNat bB.zero).after) else some false)).bind fun v3 =>
  (if (((!v2)||(!decide ((a0.aJ.getD g1.1.toNat bB.zero).before=(mget ((a0.aJ.getD g1.1.toNat bB.zero).name) g1.2).getD aA.zero)))||(!v3))=true then
   some (.inr (.inr false))
  else
   (if (decide (8 < ((mput ((a0.aJ.getD g1.1.toNat bB.zero).name) ((a0.aJ.getD g1.1.toNat bB.zero).after) g1.2).length:Int)))=true then
    some (.inr (.inr false))
   else
    some (.inl ((i64.wrap (g1.1+1)),mput ((a0.aJ.getD g1.1.toNat bB.zero).name) ((a0.aJ.getD g1.1.toNat bB.zero).after) g1.2))))
 else
  some (.inr (.inl ())))
def zo8 (a0:bC):Option Bool :=
 (zc6 (zQ4 a0) (0,[])).bind (fun|.inl z=>zY8 a0 z|.inr z=>some z)
@[reducible,instance] def zdp8 (a0:bC):=mkJ (zo8 a0) 0 (@zY8.eq_1 a0) fun (j1:Unit)=>⟨[(1,.ptr 0 0 0)],[(0,bx a0)],1⟩
@[reducible,instance] def zdp9 (a0:bC) {T:Type} (x:T):=mkL x (@zQ4.eq_1 a0) fun (g1:Int×(List (ByteArray×aA)))=>⟨[(1,.ptr 0 0 0),(3,.mp 1),(8,la a0.aJ),(9,.int .i64 (a0.aJ.length:Int)),(10,.int .i64 g1.1)],[(0,bx a0),(1,⟨false,0,[A.str ⟨#[]⟩,A.bool true],g1.2.map (mS aA.enc)⟩)],2⟩
instance zcs8 (a0:bC):OkP (zo8 a0) 107 [ga a0] (fun r=>.bool r):=ok1 (zo8.eq_1 a0) Tryz.f107 []
attribute [local irreducible] zo8
def zq5 (a0:aC) (a1 a2:aA):Option aA :=
 (if ((!(zd5 a0 a1))||(!(zd5 a0 a2)))=true then
  some ({ aA.zero with  })
 else
  (if (zk2 a1)=true then
   some a2
  else
   (if (zk2 a2)=true then
    some a1
   else
    (if (decide (a0.kind=1))=true then
     (zt4 a1.mode a2.mode).bind fun v1 =>
     some ({ aA.zero with mode:=v1 })
    else
     some ({ aA.zero with aP:=(if a1.aP < a2.aP then a2.aP else a1.aP) })))))
instance zcz8 (a0:aC) (a1 a2:aA):OkP (zq5 a0 a1 a2) 237 [ga a0,ga a1,ga a2] (fun r=>ga r):=ok1 (zq5.eq_1 a0 a1 a2) Tryz.f237 []
attribute [local irreducible] zq5
def zB4 (j1:aH):Option (Int×aH) :=
 some ((-1),j1)
def zs0 (a0:List aO) (g1:Int×aH):Option ((Int×aH)⊕(aH⊕(Int×aH))) :=
 (if (decide (g1.1 < (a0.length:Int)))=true then
  gd (0≤g1.1∧g1.1 < (a0.length:Int)) <|
  (zh4 (a0.getD g1.1.toNat aO.zero) g1.2).bind fun v1 =>
  (if v1.1=true then
   some (.inr (.inr (g1.1,v1.2)))
  else
   some (.inl ((i64.wrap (g1.1+1)),v1.2)))
 else
  some (.inr (.inl g1.2)))
def zb6 (a0:List aO) (a1:aH):Option (Int×aH) :=
 (zc6 (zs0 a0) (0,a1)).bind (fun|.inl z=>zB4 z|.inr z=>some z)
@[reducible,instance] def zdq0 a0 a1:=mkJ (zb6 a0 a1) 0 (@zB4.eq_1) fun (j1:aH)=>⟨[],[(0,bx j1)],1⟩
@[reducible,instance] def zdq1 (a0:List aO) {T:Type} (x:T):=mkL x (@zs0.eq_1 a0) fun (g1:Int×aH)=>⟨[(0,la a0),(1,.clo 113 [.ptr 0 0 0]),(7,.int .i64 (a0.length:Int)),(8,.int .i64 g1.1)],[(0,bx g1.2)],1⟩
instance zaC0 (a0:List aO) (a1:aH):OkM (zb6 a0 a1) 112 [la a0,.clo 113 [.ptr 0 0 0]] [(0,bx a1)] 1 (fun r=>.int .i64 r.1) (fun r=>[(0,bx r.2)]) 1:=okm (zb6.eq_1 a0 a1) (fun r=>[.int .i64 r.1]) Tryz.f112 [(16,1)]
attribute [local irreducible] zb6
def zaE0 (j1:Unit):Option Bool :=
 some true
def zac7 (a0:List aR) (g1:Int):Option (Int⊕(Unit⊕Bool)) :=
 (if (decide (g1 < (a0.length:Int)))=true then
  gd (0≤g1∧g1 < (a0.length:Int)) <|
  gd (zB3 (a0.getD g1.toNat aR.zero)=true→0≤g1∧g1 < (a0.length:Int)) <|
  ((if (zB3 (a0.getD g1.toNat aR.zero))=true then zi1 a0 ((a0.getD g1.toNat aR.zero).aN) else some 0)).bind fun v1 =>
  (if ((!(zB3 (a0.getD g1.toNat aR.zero)))||(!decide (v1=g1)))=true then
   some (.inr (.inr false))
  else
   some (.inl (i64.wrap (g1+1))))
 else
  some (.inr (.inl ())))
def zp7 (a0:List aR):Option Bool :=
 (if (decide (8 < (a0.length:Int)))=true then
  some false
 else
  (zc6 (zac7 a0) 0).bind (fun|.inl z=>zaE0 z|.inr z=>some z))
@[reducible,instance] def zdq2 a0:=mkJ (zp7 a0) 0 (@zaE0.eq_1) fun (j1:Unit)=>⟨[],[],0⟩
@[reducible,instance] def zdq3 (a0:List aR) {T:Type} (x:T):=mkL x (@zac7.eq_1 a0) fun (g1:Int)=>⟨[(0,la a0),(3,.int .i64 g1)],[],0⟩
instance zcz9 (a0:List aR):OkP (zp7 a0) 286 [la a0] (fun r=>.bool r):=ok1 (zp7.eq_1 a0) Tryz.f286 []
attribute [local irreducible] zp7
def zaE1 (j2:Unit):Option Bool :=
 some true
def zT4 (a0:bC) (g1:Int):Option (Int⊕(Unit⊕Bool)) :=
 (if (decide (g1 < (a0.bE.length:Int)))=true then
  gd (0≤g1∧g1 < (a0.bE.length:Int)) <|
  gd (((!(((decide ((a0.bE.getD g1.toNat bI.zero).label < 1)||decide (99 < (a0.bE.getD g1.toNat bI.zero).label))||decide ((a0.bE.getD g1.toNat bI.zero).at_ < 0))||decide ((a0.aJ.length:Int) < (a0.bE.getD g1.toNat bI.zero).at_)))&&decide (0 < g1))=true→0≤i64.wrap (g1 - 1)∧i64.wrap (g1 - 1) < (a0.bE.length:Int)) <|
  ((if (!((((decide ((a0.bE.getD g1.toNat bI.zero).label < 1)||decide (99 < (a0.bE.getD g1.toNat bI.zero).label))||decide ((a0.bE.getD g1.toNat bI.zero).at_ < 0))||decide ((a0.aJ.length:Int) < (a0.bE.getD g1.toNat bI.zero).at_))||(decide (0 < g1)&&decide ((a0.bE.getD g1.toNat bI.zero).at_ < (a0.bE.getD ((i64.wrap (g1 - 1)).toNat) bI.zero).at_))))=true then zk4 a0.bE ((a0.bE.getD g1.toNat bI.zero).label) else some 0)).bind fun v2 =>
  (if (((((decide ((a0.bE.getD g1.toNat bI.zero).label < 1)||decide (99 < (a0.bE.getD g1.toNat bI.zero).label))||decide ((a0.bE.getD g1.toNat bI.zero).at_ < 0))||decide ((a0.aJ.length:Int) < (a0.bE.getD g1.toNat bI.zero).at_))||(decide (0 < g1)&&decide ((a0.bE.getD g1.toNat bI.zero).at_ < (a0.bE.getD ((i64.wrap (g1 - 1)).toNat) bI.zero).at_)))||(!decide (v2=g1)))=true then
   some (.inr (.inr false))
  else
   some (.inl (i64.wrap (g1+1))))
 else
  some (.inr (.inl ())))
def zT5 (a0:bC) (j1:Unit):Option Bool :=
 (zh5 a0.aJ).bind fun v1 =>
 (if (decide (8 < (v1.length:Int)))=true then
  some false
 else
  (zc6 (zT4 a0) 0).bind (fun|.inl z=>zaE1 z|.inr z=>some z))
def zT6 (a0:bC) (g2:Int):Option (Int⊕(Unit⊕Bool)) :=
 (if (decide (g2 < (a0.aJ.length:Int)))=true then
  gd (0≤g2∧g2 < (a0.aJ.length:Int)) <|
  (zg2 ((a0.aJ.getD g2.toNat bB.zero).name)).bind fun v3 =>
  gd (v3=true→0≤0∧0≤g2∧g2≤(a0.aJ.length:Int)) <|
  ((if v3=true then zj1 (a0.aJ.take g2.toNat) ((a0.aJ.getD g2.toNat bB.zero).name) else some aA.zero)).bind fun v4 =>
  (if (((!v3)||(!decide ((a0.aJ.getD g2.toNat bB.zero).before=v4)))||(!(zE2 ((a0.aJ.getD g2.toNat bB.zero).before) ((a0.aJ.getD g2.toNat bB.zero).after))))=true then
   some (.inr (.inr false))
  else
   some (.inl (i64.wrap (g2+1))))
 else
  some (.inr (.inl ())))
def zp8 (a0:bC):Option Bool :=
 (if (decide (72 < (a0.aJ.length:Int))||decide (4 < (a0.bE.length:Int)))=true then
  some false
 else
  (zc6 (zT6 a0) 0).bind (fun|.inl z=>zT5 a0 z|.inr z=>some z))
@[reducible,instance] def zdq4 a0 j1 {T1:Type} (v1:T1):=mkJ (zT5 a0 j1,v1) 2 (@zaE1.eq_1) fun (j2:Unit)=>⟨[],[],0⟩
@[reducible,instance] def zdq5 (a0:bC) {T:Type} (x:T):=mkL x (@zT4.eq_1 a0) fun (g1:Int)=>⟨[(1,.ptr 0 0 0),(5,.int .i64 g1)],[(0,bx a0)],1⟩
@[reducible,instance] def zdq6 (a0:bC):=mkJ (zp8 a0) 0 (@zT5.eq_1 a0) fun (j1:Unit)=>⟨[(1,.ptr 0 0 0)],[(0,bx a0)],1⟩
@[reducible,instance] def zdq7 (a0:bC) {T:Type} (x:T):=mkL x (@zT6.eq_1 a0) fun (g2:Int)=>⟨[(1,.ptr 0 0 0),(3,.int .i64 g2)],[(0,bx a0)],1⟩
instance zcA0 (a0:bC):OkP (zp8 a0) 118 [ga a0] (fun r=>.bool r):=ok1 (zp8.eq_1 a0) Tryz.f118 []
attribute [local irreducible] zp8
def zah0 (j3:(List Int)):Option (List Int) :=
 some j3
def zah1 (a1:aF) (g1:(List Int)×Int):Option (((List Int)×Int)⊕(List Int)) :=
 (if (decide (g1.2 < (a1.aS.length:Int)))=true then
  gd (0≤g1.2∧g1.2 < (a1.aS.length:Int)) <|
  (zj4 g1.1 ((a1.aS.getD g1.2.toNat aR.zero).aN)).bind fun v5 =>
  (zc5 v5 [((a1.aS.getD g1.2.toNat aR.zero).aI).mode,((a1.aS.getD g1.2.toNat aR.zero).aI).aP,(a1.aS.getD g1.2.toNat aR.zero).aW,(a1.aS.getD g1.2.toNat aR.zero).bO]).bind fun v6 =>
  some (.inl (v6,i64.wrap (g1.2+1)))
 else
  some (.inr g1.1))
def zT7 (a1:aF) (j2:(List Int)):Option (List Int) :=
 (zc5 j2 [(a1.aS.length:Int)]).bind fun v4 =>
 (zc6 (zah1 a1) (v4,0)).bind (fun z=>zah0 z)
def zah2 (a1:aF) (g2:(List Int)×Int):Option (((List Int)×Int)⊕(List Int)) :=
 (if (decide (g2.2 < (a1.aL.length:Int)))=true then
  gd (0≤g2.2∧g2.2 < (a1.aL.length:Int)) <|
  (zj4 g2.1 ((a1.aL.getD g2.2.toNat aR.zero).aN)).bind fun v7 =>
  (zc5 v7 [((a1.aL.getD g2.2.toNat aR.zero).aI).mode,((a1.aL.getD g2.2.toNat aR.zero).aI).aP]).bind fun v8 =>
  some (.inl (v8,i64.wrap (g2.2+1)))
 else
  some (.inr g2.1))
def zT8 (a1:aF) (j1:(List Int)):Option (List Int) :=
 (zc5 j1 [(a1.aL.length:Int)]).bind fun v3 =>
 (zc6 (zah2 a1) (v3,0)).bind (fun z=>zT7 a1 z)
def zah3 (a1:aF) (g3:(List Int)×Int):Option (((List Int)×Int)⊕(List Int)) :=
 (if (decide (g3.2 < (a1.bA.length:Int)))=true then
  gd (0≤g3.2∧g3.2 < (a1.bA.length:Int)) <|
  (zj4 g3.1 ((a1.bA.getD g3.2.toNat aT.zero).aN)).bind fun v9 =>
  (zc5 v9 [((a1.bA.getD g3.2.toNat aT.zero).aI).mode,((a1.bA.getD g3.2.toNat aT.zero).aI).aP]).bind fun v10 =>
  some (.inl (v10,i64.wrap (g3.2+1)))
 else
  some (.inr g3.1))
def zj9 (a0:List Int) (a1:aF):Option (List Int) :=
 (zi4 a0 a1.aB.name).bind fun v1 =>
 (zc5 v1 [a1.aB.kind,a1.aB.aP,a1.aB.home,a1.gen,(a1.bA.length:Int)]).bind fun v2 =>
 (zc6 (zah3 a1) (v2,0)).bind (fun z=>zT8 a1 z)
@[reducible,instance] def zdq8 a1 j2 {T1:Type} (v4:T1):=mkJ (zT7 a1 j2,v4) 4 (@zah0.eq_1) fun (j3:(List Int))=>⟨[(0,.sl (j3.map (eI .u8)))],[],0⟩
@[reducible,instance] def zdq9 (a1:aF) {T:Type} (x:T):=mkL x (@zah1.eq_1 a1) fun (g1:(List Int)×Int)=>⟨[(0,.sl (g1.1.map (eI .u8))),(84,la a1.aS),(85,.int .i64 (a1.aS.length:Int)),(86,.int .i64 g1.2)],[],0⟩
@[reducible,instance] def zdr0 (a1:aF) j1 {T1:Type} (v3:T1):=mkJ (zT8 a1 j1,v3) 2 (@zT7.eq_1 a1) fun (j2:(List Int))=>⟨[(0,.sl (j2.map (eI .u8))),(3,.ptr 0 0 0)],[(0,bx a1)],1⟩
@[reducible,instance] def zdr1 (a1:aF) {T:Type} (x:T):=mkL x (@zah2.eq_1 a1) fun (g2:(List Int)×Int)=>⟨[(0,.sl (g2.1.map (eI .u8))),(3,.ptr 0 0 0),(58,la a1.aL),(59,.int .i64 (a1.aL.length:Int)),(60,.int .i64 g2.2)],[(0,bx a1)],1⟩
@[reducible,instance] def zdr2 a0 (a1:aF) {T1:Type} (v1:T1) {T2:Type} (v2:T2):=mkJ ((zj9 a0 a1,v1),v2) 0 (@zT8.eq_1 a1) fun (j1:(List Int))=>⟨[(0,.sl (j1.map (eI .u8))),(3,.ptr 0 0 0)],[(0,bx a1)],1⟩
@[reducible,instance] def zdr3 (a1:aF) {T:Type} (x:T):=mkL x (@zah3.eq_1 a1) fun (g3:(List Int)×Int)=>⟨[(0,.sl (g3.1.map (eI .u8))),(3,.ptr 0 0 0),(32,la a1.bA),(33,.int .i64 (a1.bA.length:Int)),(34,.int .i64 g3.2)],[(0,bx a1)],1⟩
instance zbM8 (a0:List Int) (a1:aF):OkP (zj9 a0 a1) 45 [.sl (a0.map (eI .u8)),ga a1] (fun r=>.sl (r.map (eI .u8))):=ok1 (zj9.eq_1 a0 a1) Tryz.f45 []
attribute [local irreducible] zj9
def ze9 (a0:aU):Option (aH×aU) :=
 (if (!decide (a0.bH.err=0))=true then
  some ({ aH.zero with  },a0)
 else
  (zq9 a0.bH.rest).bind fun v1 =>
  (if (!decide (v1.2.2=0))=true then
   some ({ aH.zero with  },{ a0 with bH:={ a0.bH with err:=v1.2.2 } })
  else
   gd (0≤v1.2.1∧v1.2.1≤(a0.bH.rest.length:Int)∧(a0.bH.rest.length:Int)≤(a0.bH.rest.length:Int)) <|
   some (v1.1,{ a0 with bH:={ a0.bH with rest:=(a0.bH.rest.drop v1.2.1.toNat) } })))
instance zbm8 (a0:aU):OkM (ze9 a0) 50 [.ptr 0 0 0] [(0,bx a0)] 1 (fun r=>ga r.1) (fun r=>[(0,bx r.2)]) 1:=okm (ze9.eq_1 a0) (fun r=>[ga r.1]) Tryz.f50 []
attribute [local irreducible] ze9
def zd6 (a0:aU):Option (aA×aU) :=
 (zb9 a0).bind fun v1 =>
 (zb9 v1.2).bind fun v2 =>
 some ((⟨v1.1,v2.1⟩:aA),v2.2)
instance zan4 (a0:aU):OkM (zd6 a0) 97 [.ptr 0 0 0] [(0,bx a0)] 1 (fun r=>ga r.1) (fun r=>[(0,bx r.2)]) 1:=okm (zd6.eq_1 a0) (fun r=>[ga r.1]) Tryz.f97 []
attribute [local irreducible] zd6
def zF5 (j1:aH):Option (Int×aH) :=
 some ((-1),j1)
def zF6 (a0:List bK) (g1:Int×aH):Option ((Int×aH)⊕(aH⊕(Int×aH))) :=
 (if (decide (g1.1 < (a0.length:Int)))=true then
  gd (0≤g1.1∧g1.1 < (a0.length:Int)) <|
  (zg7 (a0.getD g1.1.toNat bK.zero) g1.2).bind fun v1 =>
  (if v1.1=true then
   some (.inr (.inr (g1.1,v1.2)))
  else
   some (.inl ((i64.wrap (g1.1+1)),v1.2)))
 else
  some (.inr (.inl g1.2)))
def zc4 (a0:List bK) (a1:aH):Option (Int×aH) :=
 (zc6 (zF6 a0) (0,a1)).bind (fun|.inl z=>zF5 z|.inr z=>some z)
@[reducible,instance] def zdr4 a0 a1:=mkJ (zc4 a0 a1) 0 (@zF5.eq_1) fun (j1:aH)=>⟨[],[(0,bx j1)],1⟩
@[reducible,instance] def zdr5 (a0:List bK) {T:Type} (x:T):=mkL x (@zF6.eq_1 a0) fun (g1:Int×aH)=>⟨[(0,la a0),(1,.clo 84 [.ptr 0 0 0]),(7,.int .i64 (a0.length:Int)),(8,.int .i64 g1.1)],[(0,bx g1.2)],1⟩
instance zaK9 (a0:List bK) (a1:aH):OkM (zc4 a0 a1) 83 [la a0,.clo 84 [.ptr 0 0 0]] [(0,bx a1)] 1 (fun r=>.int .i64 r.1) (fun r=>[(0,bx r.2)]) 1:=okm (zc4.eq_1 a0 a1) (fun r=>[.int .i64 r.1]) Tryz.f83 [(16,1)]
attribute [local irreducible] zc4
def zak6 (a0:aG) (a1:List aD) (j1:Unit):Option (Nat⊕(Bool×(List aD))) :=
 gd (a1.length+1≤4294967296) <|
 some (.inr (true,(a1++[a0.aZ])))
def zY9 (a0:aG) (a1:List aD) (g1:Int):Option (Int⊕(Unit⊕(Nat⊕(Bool×(List aD))))) :=
 (if (decide (g1 < ((a1.length:Nat):Int)))=true then
  gd (0≤g1∧g1 < ((a1.length:Nat):Int)) <|
  (if (decide (a1.getD g1.toNat aD.zero=a0.aZ))=true then
   some (.inr (.inr (.inr (true,a1))))
  else
   some (.inl (i64.wrap (g1+1))))
 else
  some (.inr (.inl ())))
def zaA1 (j2:(List aD)):Option (Nat⊕(Bool×(List aD))) :=
 some (.inr (true,j2))
def zQ5 (a90:(aG→List aD→Option (Nat⊕(Bool×(List aD))))) (a0:aG) (g2:Int×(List aD)):Option ((Int×(List aD))⊕((List aD)⊕(Nat⊕(Bool×(List aD))))) :=
 (if (decide (g2.1 < (a0.aV.length:Int)))=true then
  gd (0≤g2.1∧g2.1 < (a0.aV.length:Int)) <|
  (a90 (a0.aV.getD g2.1.toNat aG.zero) g2.2).bind fun v2=>match v2 with
  | .inl v2 =>
   some (.inr (.inr (.inl g2.2.length)))
  | .inr v2 =>
   (if (!v2.1)=true then
    some (.inr (.inr (.inl g2.2.length)))
   else
    some (.inl ((i64.wrap (g2.1+1)),v2.2)))
 else
  some (.inr (.inl g2.2)))
def zw4 (a90:(aG→List aD→Option (Nat⊕(Bool×(List aD))))) (a0:aG) (a1:List aD):Option (Nat⊕(Bool×(List aD))) :=
 (if (decide ((a0.aV.length:Int)=0))=true then
  ((if (decide (a0.k=0))=true then zg2 a0.aZ.name else some false)).bind fun v1 =>
  (if (((!decide (a0.k=0))||(!v1))||(!(zq0 a0.aZ.aI)))=true then
   some (.inr (false,a1))
  else
   (zc6 (zY9 a0 a1) 0).bind (fun|.inl z=>zak6 a0 a1 z|.inr z=>some z))
 else
  (if ((decide (a0.k < 1)||decide ((a0.aV.length:Int) < a0.k))||(!decide (a0.aZ={ aD.zero with  })))=true then
   some (.inr (false,a1))
  else
   (zc6 (zQ5 a90 a0) (0,a1)).bind (fun|.inl z=>zaA1 z|.inr z=>some z)))
def zx4:Nat→(aG→List aD→Option (Nat⊕(Bool×(List aD))))
 | 0=>fun _ _=>none
 | n+1=>zw4 (zx4 n)
def zo9 (a0:aG) (a1:List aD):Option (Nat⊕(Bool×(List aD))):=zx4 (_root_.SizeOf.sizeOf a0+1) a0 a1
@[reducible,instance] def zdr6 (a90:(aG→List aD→Option (Nat⊕(Bool×(List aD))))) (a0:aG) (a1:List aD) {T1:Type} (v1:T1):=mkJ (zw4 a90 a0 a1,v1) 0 (@zak6.eq_1 a0 a1) fun (j1:Unit)=>⟨[(0,.own 1 0 a1.length),(3,.ptr 2 0 0)],[(1,sx a1),(2,bx a0)],3⟩
@[reducible,instance] def zdr7 (a0:aG) (a1:List aD) {T:Type} (x:T):=mkL x (@zY9.eq_1 a0 a1) fun (g1:Int)=>⟨[(0,.own 1 0 a1.length),(3,.ptr 2 0 0),(6,.int .i64 g1)],[(1,sx a1),(2,bx a0)],3⟩
@[reducible,instance] def zdr8 (a90:(aG→List aD→Option (Nat⊕(Bool×(List aD))))) (a0:aG) (a1:List aD):=mkJ (zw4 a90 a0 a1) 2 (@zaA1.eq_1) fun (j2:(List aD))=>⟨[(0,.own 1 0 j2.length)],[(1,sx j2)],2⟩
@[reducible,instance] def zdr9 (a90:(aG→List aD→Option (Nat⊕(Bool×(List aD))))) (a0:aG) {T:Type} (x:T):=mkL x (@zQ5.eq_1 a90 a0) fun (g2:Int×(List aD))=>⟨[(0,.own 1 0 g2.2.length),(3,.ptr 2 0 0),(7,.int .i64 g2.1)],[(1,sx g2.2),(2,bx a0)],3⟩
abbrev zP6 (g:(aG→List aD→Option (Nat⊕(Bool×(List aD))))):Prop:=∀ (a0:aG) (a1:List aD),OkL (g a0 a1) 92 [.own 0 0 a1.length,.agg (aG.enc a0)] [(0,⟨false,3,aD.enc aD.zero,a1.map aD.enc⟩)] 1 (fun r=>.tup [.own 1 0 r,.bool false]) (fun r=>[]) 2
abbrev zP7 (g:(aG→List aD→Option (Nat⊕(Bool×(List aD))))):Prop:=∀ (a0:aG) (a1:List aD),OkR (g a0 a1) 92 [.own 0 0 a1.length,.agg (aG.enc a0)] [(0,⟨false,3,aD.enc aD.zero,a1.map aD.enc⟩)] 1 (fun r=>.tup [.own 1 0 r.2.length,.bool r.1]) (fun r=>[(1,⟨false,3,aD.enc aD.zero,r.2.map aD.enc⟩)]) 2
theorem zaZ8 (a90:(aG→List aD→Option (Nat⊕(Bool×(List aD))))) (h0:zP6 a90) (h1:zP7 a90):zP6 (zw4 a90):=fun a0 a1=>⟨fun r h=>by
 refine zaM3 Tryz.f92 [(4,1)] [.own 1 0 r,.bool false] fun E hG hN hK=>?_
 have hm:Mk (zw4 a90 a0 a1):=trivial
 unfold zw4 at h
 exact gogo⟩
theorem zaZ9 (a90:(aG→List aD→Option (Nat⊕(Bool×(List aD))))) (h0:zP6 a90) (h1:zP7 a90):zP7 (zw4 a90):=fun a0 a1=>⟨fun r h=>by
 refine zaM3 Tryz.f92 [(4,1)] [.own 1 0 r.2.length,.bool r.1] fun E hG hN hK=>?_
 have hm:Mk (zw4 a90 a0 a1):=trivial
 unfold zw4 at h
 exact gogo⟩
theorem zaE2:∀ n,zP6 (zx4 n)∧zP7 (zx4 n):=zav6 (P:=fun g=>zP6 g∧zP7 g) ⟨fun _ _=>⟨fun _ h=>nomatch h⟩,fun _ _=>⟨fun _ h=>nomatch h⟩⟩ fun n h=>⟨zaZ8 _ h.1 h.2,zaZ9 _ h.1 h.2⟩
instance zaA2:zP6 zo9:=fun a0 a1=>(zaE2 _).1 a0 a1
instance zaA3:zP7 zo9:=fun a0 a1=>(zaE2 _).2 a0 a1
attribute [local irreducible] zo9
def zaJ6 (j1:Unit):Option Bool :=
 some true
def zaf5 (a0 a1:aK) (g1:Int):Option (Int⊕(Unit⊕Bool)) :=
 (if (decide (g1 < (a0.bF.length:Int)))=true then
  gd (0≤g1∧g1 < (a0.bF.length:Int)) <|
  gd (0≤g1∧g1 < (a1.bF.length:Int)) <|
  (zh1 (a0.bF.getD g1.toNat bK.zero) (a1.bF.getD g1.toNat bK.zero)).bind fun v2 =>
  (if (!v2)=true then
   some (.inr (.inr false))
  else
   some (.inl (i64.wrap (g1+1))))
 else
  some (.inr (.inl ())))
def zr7 (a0 a1:aK):Option Bool :=
 (zp3 a0.aM a1.aM).bind fun v1 =>
 (if ((!v1)||(!decide ((a0.bF.length:Int)=(a1.bF.length:Int))))=true then
  some false
 else
  (zc6 (zaf5 a0 a1) 0).bind (fun|.inl z=>zaJ6 z|.inr z=>some z))
@[reducible,instance] def zds0 a0 a1 {T1:Type} (v1:T1):=mkJ (zr7 a0 a1,v1) 0 (@zaJ6.eq_1) fun (j1:Unit)=>⟨[],[],0⟩
@[reducible,instance] def zds1 (a0 a1:aK) {T:Type} (x:T):=mkL x (@zaf5.eq_1 a0 a1) fun (g1:Int)=>⟨[(2,.ptr 0 0 0),(3,.ptr 1 0 0),(5,.int .i64 g1)],[(0,bx a0),(1,bx a1)],2⟩
instance zcI8 (a0 a1:aK):OkP (zr7 a0 a1) 6 [ga a0,ga a1] (fun r=>.bool r):=ok1 (zr7.eq_1 a0 a1) Tryz.f6 []
attribute [local irreducible] zr7
end
end Ab
end Go.Proofs.YtenebhlnfjcffaaGreatDoor
