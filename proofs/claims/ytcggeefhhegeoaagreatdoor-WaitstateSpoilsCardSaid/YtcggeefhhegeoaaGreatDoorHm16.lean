import Derived.Test.YtcggeefhhegeoaaGreatDoorHm11
import Derived.Test.YtcggeefhhegeoaaGreatDoorHm10
namespace Go.Proofs.YtcggeefhhegeoaaGreatDoor
namespace Ab
open IntKind (i64 u64 u8)
set_option linter.unusedSimpArgs false
set_option linter.unusedVariables false
set_option linter.defProp false
set_option maxRecDepth 100000
set_option maxHeartbeats 1000000
noncomputable section
attribute [local irreducible] zk1 za4 zd6 za7 zg5 zj4 zl7 zg2 zl8 zg1 zd7 zk9 ze5 zi3 ze3 zi6 za8 za0 ze9 zl0 zn1 zi9 zi2 zg9 zh2 zg6 zc8 zf0 zh3 zg3 zf1 zb0 zb1 zh4 zj0 zf2 zo5 f_ref08_holds zk2 zc6 zn7 zn8 zn3 ze6 zf6 zm4 zn9 zh5 zl1 zm7 zd5 zj5 ze7 zf7 zo8 zo0 zb3 zc4 zi1 zj7 zp6 zq4 zl5 zb7 zn4 zd9 zj2 zp8 zh7 za6 za1 zb8 zi0 zf8 zo1 zj8 ze1 ze4 zd8 zj9 zf9 zr5 zi7 zd3 zp7 zi8 zq1 zb6 zk0 zg8 zj3 zg4 zo4 zm9 zf5 zq9 zi5 zg7 zr7 zt0 zu8 zh1 zu4 zf3 zk7 zb9 za9 zl2 zr6 zm0 ze8 zt1 zc7 zo9 zh8 zh9 zi4 zd4 zc5
def zak3 (j1:(List aM)):Option (Bool×(List aM)) :=
 some (true,j1)
@[go_sem] def zdA0  (j1:(List aM)):St:=⟨[],[(0,⟨false,1,[A.sl ([].map aM.enc)],[[.own 2 0 j1.length]]⟩),(2,sx j1)],3⟩
def zO3 (a90:(aN→List aM→Option (Bool×(List aM)))) (a0:aN) (g1:Int×(List aM)):Option ((Int×(List aM))⊕((List aM)⊕(Bool×(List aM)))) :=
 (if (decide (g1.1 < (a0.bE.length:Int)))=true then
  gd (0≤g1.1∧g1.1 < (a0.bE.length:Int)) <|
  (a90 (a0.bE.getD g1.1.toNat aN.zero) g1.2).bind fun v3 =>
  (if (!v3.1)=true then
   some (.inr (.inr (false,v3.2)))
  else
   some (.inl ((i64.wrap (g1.1+1)),v3.2)))
 else
  some (.inr (.inl g1.2)))
@[go_sem] def zdA1 (a0:aN) (g1:Int×(List aM)):St:=⟨[(1,.ptr 0 0 0),(44,la a0.bE),(45,.int .i64 (a0.bE.length:Int)),(46,.int .i64 g1.1)],[(0,⟨false,1,[A.sl ([].map aM.enc)],[[.own 2 0 g1.2.length]]⟩),(2,sx g1.2)],3⟩
def zS2 (a90:(aN→List aM→Option (Bool×(List aM)))) (a0:aN) (a1:List aM):Option (Bool×(List aM)) :=
 (if (decide ((a0.bE.length:Int)=0))=true then
  ((if (decide (a0.k=0))=true then zi5 a0.bF else some false)).bind fun v1 =>
  (if (decide (a0.k=0)&&v1)=true then
   (zg3 a0.bF a1).bind fun v2 =>
   some (((decide (a0.k=0)&&v1)&&decide (v2.1=0)),v2.2)
  else
   some (((decide (a0.k=0)&&v1)&&decide (0=0)),a1))
 else
  (if ((decide (a0.k < 1)||decide ((a0.bE.length:Int) < a0.k))||(!decide (a0.bF={ aM.zero with  })))=true then
   some (false,a1)
  else
   (zc0 (zO3 a90 a0) (0,a1)).bind (fun|.inl z=>zak3 z|.inr z=>some z)))
def zy0:Nat→(aN→List aM→Option (Bool×(List aM)))
 | 0=>fun _ _=>none
 | n+1=>zS2 (zy0 n)
def zo6 (a0:aN) (a1:List aM):Option (Bool×(List aM)):=zy0 (_root_.SizeOf.sizeOf a0+1) a0 a1
theorem zbh6 (a90:(aN→List aM→Option (Bool×(List aM)))) (hrc:∀ (a0:aN) (a1:List aM) (r:Bool×(List aM)),a90 a0 a1=some r→MFn C 109 [ga a0,.ptr 0 0 0] [(0,⟨false,1,[A.sl ([].map aM.enc)],[[.own 1 0 a1.length]]⟩),(1,sx a1)] 2 (.bool r.1) [(0,⟨false,1,[A.sl ([].map aM.enc)],[[.own 2 0 r.2.length]]⟩),(2,sx r.2)] 3) (a0:aN) (a1:List aM) (r:Bool×(List aM)) (h:zS2 a90 a0 a1=some r):MFn C 109 [ga a0,.ptr 0 0 0] [(0,⟨false,1,[A.sl ([].map aM.enc)],[[.own 1 0 a1.length]]⟩),(1,sx a1)] 2 (.bool r.1) [(0,⟨false,1,[A.sl ([].map aM.enc)],[[.own 2 0 r.2.length]]⟩),(2,sx r.2)] 3:=by
 refine zay0 Tryz.f109 [] [.bool r.1] fun E hG hN hK=>?_
 unfold zS2 at h
 refine za2 (za5 hG ?_)
 refine za2 (za2 (za5 hG ?_))
 refine zp0 rfl hG h (fun _ h=>?_) (fun _ h=>?_)
 · refine za2 (za5 hG ?_)
   obtain ⟨v1,hv1,h⟩:=zc2 h
   refine zw4 (fun hg=>(zbh4 a0.bF).ok _ (zaU4 hg hv1)) ?_
   refine zcK3 h (fun hc h=>?_) (fun hc h=>?_)
   · obtain ⟨v2,hv2,h⟩:=zc2 h
     refine zcs8 hc [(0,0),(1,1)] [(2,3)] [0,1,2] ((zbr7 a0.bF a1).ok _ hv2) rfl rfl ?_
     refine zx8 ?_
     exact zP0 [(0,0),(2,3)] h
   refine zcs9 hc (.int .i64 0) ?_
   refine zx8 ?_
   exact zP0 [(0,0),(2,1)] h
 refine zo3 ?_
 refine za2 (za2 (za5 hG ?_))
 refine zp0 rfl hG h (fun _ h=>?_) (fun _ h=>?_)
 · refine za2 (za5 hG ?_)
   refine zx8 ?_
   exact zP0 [(0,0),(2,1)] h
 refine zo3 ?_
 refine za2 (za2 (za5 hG ?_))
 refine zO2 zdA0 (fun v=>zak3 v=some r) ?_ ?_
 · intro j1 h
   unfold zak3 at h
   refine g_st ?_
   refine za2 (za5 hG ?_)
   refine zx8 ?_
   exact zP0 [(0,0),(2,2)] h
 refine zam4 (zdA1 a0) hK [(0,0),(2,1)] h (fun x_l1 h g1 y_l1 h_l1 hx_l1=>?_)
 unfold zO3 at h_l1
 refine g_st ?_
 refine za2 (za5 hG ?_)
 refine za2 ?_
 refine zp0 rfl hG h_l1 (fun _ h_l1=>?_) (fun _ h_l1=>?_)
 · refine zo3 ?_
   refine za2 (zK9 (za2 ?_))
   obtain ⟨hb1,h_l1⟩:=zg0 h_l1
   refine za5 hG ?_
   refine za2 (za5 hG ?_)
   obtain ⟨v3,hv3,h_l1⟩:=zc2 h_l1
   refine zs1 [(0,0),(1,2)] [(2,4)] [0,1,2] (hrc (a0.bE.getD g1.1.toNat aN.zero) g1.2 _ hv3) rfl rfl ?_
   refine zp0 rfl hG h_l1 (fun _ h_l1=>?_) (fun _ h_l1=>?_)
   · refine za2 (za5 hG ?_)
     refine zx8 ?_
     cases h_l1
     cases hx_l1 _ rfl
     exact zP0 [(0,0),(2,4)] h
   refine zo3 ?_
   refine za5 hG ?_
   exact zX7 hK [(0,0),(2,4)] h_l1
 refine zR8 ?_
 cases h_l1
 cases hx_l1 _ rfl
 exact zG8 hK [(0,0),(2,2)] g1.2 (by exact h)
theorem zaH5:∀ (n:Nat) (a0:aN) (a1:List aM) (r:Bool×(List aM)),zy0 n a0 a1=some r→MFn C 109 [ga a0,.ptr 0 0 0] [(0,⟨false,1,[A.sl ([].map aM.enc)],[[.own 1 0 a1.length]]⟩),(1,sx a1)] 2 (.bool r.1) [(0,⟨false,1,[A.sl ([].map aM.enc)],[[.own 2 0 r.2.length]]⟩),(2,sx r.2)] 3
 | 0,_,_,_,h=>nomatch h
 | n+1,a0,a1,r,h=>zbh6 (zy0 n) (zaH5 n) a0 a1 r h
instance zbh7 (a0:aN) (a1:List aM):OkM (zo6 a0 a1) 109 [ga a0,.ptr 0 0 0] [(0,⟨false,1,[A.sl ([].map aM.enc)],[[.own 1 0 a1.length]]⟩),(1,sx a1)] 2 (fun r=>.bool r.1) (fun r=>[(0,⟨false,1,[A.sl ([].map aM.enc)],[[.own 2 0 r.2.length]]⟩),(2,sx r.2)]) 3:=⟨fun r h=>zaH5 _ a0 a1 r h⟩
attribute [local irreducible] zo6
def zc3 (a0:aU):Option (aC×aU) :=
 (za9 a0).bind fun v1 =>
 (za9 v1.2).bind fun v2 =>
 some ((⟨v1.1,v2.1⟩:aC),v2.2)
instance zaC2 (a0:aU):OkM (zc3 a0) 79 [.ptr 0 0 0] [(0,bx a0)] 1 (fun r=>ga r.1) (fun r=>[(0,bx r.2)]) 1:=okm (zc3.eq_1 a0) (fun r=>[ga r.1]) Tryz.f79 []
attribute [local irreducible] zc3
def zN1 (j1:aJ):Option (Int×aJ) :=
 some ((-1),j1)
def zx2 (a0:List bN) (g1:Int×aJ):Option ((Int×aJ)⊕(aJ⊕(Int×aJ))) :=
 (if (decide (g1.1 < (a0.length:Int)))=true then
  gd (0≤g1.1∧g1.1 < (a0.length:Int)) <|
  (zg8 (a0.getD g1.1.toNat bN.zero) g1.2).bind fun v1 =>
  (if v1.1=true then
   some (.inr (.inr (g1.1,v1.2)))
  else
   some (.inl ((i64.wrap (g1.1+1)),v1.2)))
 else
  some (.inr (.inl g1.2)))
def zc1 (a0:List bN) (a1:aJ):Option (Int×aJ) :=
 (zc0 (zx2 a0) (0,a1)).bind (fun|.inl z=>zN1 z|.inr z=>some z)
@[reducible,instance] def zdV6 a0 a1:=mkJ (zc1 a0 a1) 0 (@zN1.eq_1) fun (j1:aJ)=>⟨[],[(0,bx j1)],1⟩
@[reducible,instance] def zdV7 (a0:List bN) {T:Type} (x:T):=mkL x (@zx2.eq_1 a0) fun (g1:Int×aJ)=>⟨[(0,la a0),(1,.clo 88 [.ptr 0 0 0]),(7,.int .i64 (a0.length:Int)),(8,.int .i64 g1.1)],[(0,bx g1.2)],1⟩
instance zbf2 (a0:List bN) (a1:aJ):OkM (zc1 a0 a1) 87 [la a0,.clo 88 [.ptr 0 0 0]] [(0,bx a1)] 1 (fun r=>.int .i64 r.1) (fun r=>[(0,bx r.2)]) 1:=okm (zc1.eq_1 a0 a1) (fun r=>[.int .i64 r.1]) Tryz.f87 [(16,1)]
attribute [local irreducible] zc1
def zaz5 (j1:(List aM)):Option (List aM) :=
 some j1
def zaz6 (a0:aN) (g1:Int×(List aM)):Option ((Int×(List aM))⊕(List aM)) :=
 (if (decide (g1.1 < (a0.bE.length:Int)))=true then
  gd (0≤g1.1∧g1.1 < (a0.bE.length:Int)) <|
  (zj3 (a0.bE.getD g1.1.toNat aN.zero) g1.2).bind fun v2 =>
  some (.inl ((i64.wrap (g1.1+1)),v2))
 else
  some (.inr g1.2))
def zE0 (a90:(aN→Option (List aM))) (a0:aN):Option (List aM) :=
 (if (decide ((a0.bE.length:Int)=0))=true then
  (za6 [] a0.bF).bind fun v1 =>
  (if v1=true then
   some []
  else
   gd (1≤4294967296) <|
   some [a0.bF])
 else
  (zc0 (zaz6 a0) (0,[])).bind (fun z=>zaz5 z))
def zan1:Nat→(aN→Option (List aM))
 | 0=>fun _=>none
 | n+1=>zE0 (zan1 n)
def zn5 (a0:aN):Option (List aM):=zan1 (_root_.SizeOf.sizeOf a0+1) a0
@[reducible,instance] def zdV8 (a90:(aN→Option (List aM))) (a0:aN):=mkJ (zE0 a90 a0) 0 (@zaz5.eq_1) fun (j1:(List aM))=>⟨[(0,.own 0 0 j1.length)],[(0,sx j1)],1⟩
@[reducible,instance] def zdV9 (a0:aN) {T:Type} (x:T):=mkL x (@zaz6.eq_1 a0) fun (g1:Int×(List aM))=>⟨[(0,.own 0 0 g1.2.length),(22,la a0.bE),(23,.int .i64 (a0.bE.length:Int)),(24,.int .i64 g1.1)],[(0,sx g1.2)],1⟩
abbrev zae7 (g:(aN→Option (List aM))):Prop:=∀ (a0:aN),OkM (g a0) 89 [.full ([].map aM.enc),.agg (aN.enc a0)] [] 0 (fun r=>.sl (r.map aM.enc)) (fun r=>[]) 0
theorem zbf3 (a90:(aN→Option (List aM))) (hrc:zae7 a90):zae7 (zE0 a90):=fun a0=>⟨fun r h=>by
 refine zay0 Tryz.f89 [] [la r] fun E hG hN hK=>?_
 have hm:Mk (zE0 a90 a0):=trivial
 unfold zE0 at h
 refine g_gh (.own0 0 3 (aM.enc aM.zero)) ?_
 refine za2 (za5 hG ?_)
 refine za2 (za2 (za5 hG ?_))
 refine zp0 rfl hG h (fun _ h=>?_) (fun _ h=>?_)
 · refine za2 (za2 (za5 hG ?_))
   obtain ⟨v1,hv1,h⟩:=zc2 h
   have hm:=mkP hm v1
   refine zw4 (fun hg=>(zar7 [] a0.bF).ok _ hv1) ?_
   refine zp0 rfl hG h (fun _ h=>?_) (fun _ h=>?_)
   · refine za2 (za5 hG ?_)
     refine g_gh (.fz [0]) ?_
     exact gogo
   refine zo3 ?_
   refine za2 ?_
   obtain ⟨hb1,h⟩:=zg0 h
   refine za5 hG ?_
   refine g_gh (.fz [2]) ?_
   exact gogo
 refine zo3 ?_
 refine za2 (za2 (za5 hG ?_))
 refine zaj4 hm h (fun j1 hm h=>?_) ?_
 · try refine g_st ?_
   refine za2 (za5 hG ?_)
   refine g_gh (.fz [0]) ?_
   exact gogo
 exact gogo⟩
theorem zbf4:∀ n,zae7 (zan1 n):=zaM3 (fun _=>⟨fun _ h=>nomatch h⟩) fun n=>zbf3 _
instance zcp3:zae7 zn5:=fun a0=>zbf4 _ a0
attribute [local irreducible] zn5
def zaV4 (j1:Unit):Option Bool :=
 some true
def zap6 (a0:List aX) (g1:Int):Option (Int⊕(Unit⊕Bool)) :=
 (if (decide (g1 < (a0.length:Int)))=true then
  gd (0≤g1∧g1 < (a0.length:Int)) <|
  gd (zB7 (a0.getD g1.toNat aX.zero)=true→0≤g1∧g1 < (a0.length:Int)) <|
  ((if (zB7 (a0.getD g1.toNat aX.zero))=true then zl0 a0 ((a0.getD g1.toNat aX.zero).aP) else some 0)).bind fun v1 =>
  (if ((!(zB7 (a0.getD g1.toNat aX.zero)))||(!decide (v1=g1)))=true then
   some (.inr (.inr false))
  else
   some (.inl (i64.wrap (g1+1))))
 else
  some (.inr (.inl ())))
def zs8 (a0:List aX):Option Bool :=
 (if (decide (8 < (a0.length:Int)))=true then
  some false
 else
  (zc0 (zap6 a0) 0).bind (fun|.inl z=>zaV4 z|.inr z=>some z))
@[reducible,instance] def zdW0 a0:=mkJ (zs8 a0) 0 (@zaV4.eq_1) fun (j1:Unit)=>⟨[],[],0⟩
@[reducible,instance] def zdW1 (a0:List aX) {T:Type} (x:T):=mkL x (@zap6.eq_1 a0) fun (g1:Int)=>⟨[(0,la a0),(3,.int .i64 g1)],[],0⟩
instance zde9 (a0:List aX):OkP (zs8 a0) 216 [la a0] (fun r=>.bool r):=ok1 (zs8.eq_1 a0) Tryz.f216 []
attribute [local irreducible] zs8
def zu6 (a0:aH) (a1 a2:aC):Bool :=
 (if ((!(zw1 a0 a1))||(!(zw1 a0 a2)))=true then
  false
 else
  (if (zn2 a2)=true then
   true
  else
   (if (zn2 a1)=true then
    false
   else
    (if (decide (a0.kind=1))=true then
     (zS0 a1.mode a2.mode)
    else
     (decide (a2.aT≤a1.aT))))))
instance zbJ6 (a0:aH) (a1 a2:aC):OkT 201 [.agg (aH.enc a0),.agg (aC.enc a1),.agg (aC.enc a2)] (.bool (zu6 a0 a1 a2)):=ok2 (fun r=>.bool r) (zu6.eq_1 a0 a1 a2) Tryz.f201 []
def zbd7 (j1:Unit):Option Bool :=
 some true
def zU3 (a0:List aX) (g1:Int):Option (Int⊕(Unit⊕Bool)) :=
 (if (decide (g1 < (a0.length:Int)))=true then
  gd (0≤g1∧g1 < (a0.length:Int)) <|
  ((if (zm8 (a0.getD g1.toNat aX.zero))=true then zn8 a0 ((a0.getD g1.toNat aX.zero).aP) else some 0)).bind fun v1 =>
  (if ((!(zm8 (a0.getD g1.toNat aX.zero)))||(!decide (v1=g1)))=true then
   some (.inr (.inr false))
  else
   some (.inl (i64.wrap (g1+1))))
 else
  some (.inr (.inl ())))
def zu3 (a0:List aX):Option Bool :=
 (if (decide (8 < (a0.length:Int)))=true then
  some false
 else
  (zc0 (zU3 a0) 0).bind (fun|.inl z=>zbd7 z|.inr z=>some z))
@[reducible,instance] def zem1 a0:=mkJ (zu3 a0) 0 (@zbd7.eq_1) fun (j1:Unit)=>⟨[],[],0⟩
@[reducible,instance] def zem2 (a0:List aX) {T:Type} (x:T):=mkL x (@zU3.eq_1 a0) fun (g1:Int)=>⟨[(0,la a0),(8,la a0),(9,.int .i64 (a0.length:Int)),(10,.int .i64 g1)],[],0⟩
instance zdo9 (a0:List aX):OkP (zu3 a0) 229 [la a0] (fun r=>.bool r):=ok1 (zu3.eq_1 a0) Tryz.f229 []
attribute [local irreducible] zu3
def zd1 (a0:aU):Option (aJ×aU) :=
 (if (!decide (a0.bC.err=0))=true then
  some ({ aJ.zero with  },a0)
 else
  (zo9 a0.bC.rest).bind fun v1 =>
  (if (!decide (v1.2.2=0))=true then
   some ({ aJ.zero with  },{ a0 with bC:={ a0.bC with err:=v1.2.2 } })
  else
   gd (0≤v1.2.1∧v1.2.1≤(a0.bC.rest.length:Int)∧(a0.bC.rest.length:Int)≤(a0.bC.rest.length:Int)) <|
   some (v1.1,{ a0 with bC:={ a0.bC with rest:=(a0.bC.rest.drop v1.2.1.toNat) } })))
instance zbM0 (a0:aU):OkM (zd1 a0) 35 [.ptr 0 0 0] [(0,bx a0)] 1 (fun r=>ga r.1) (fun r=>[(0,bx r.2)]) 1:=okm (zd1.eq_1 a0) (fun r=>[ga r.1]) Tryz.f35 []
attribute [local irreducible] zd1
def zA3 (j1:Unit):Option Bool :=
 some true
def zr1 (a0 a1:List bN) (g1:Int):Option (Int⊕(Unit⊕Bool)) :=
 (if (decide (g1 < (a0.length:Int)))=true then
  gd (0≤g1∧g1 < (a0.length:Int)) <|
  gd (0≤g1∧g1 < (a1.length:Int)) <|
  (zg4 (a0.getD g1.toNat bN.zero) (a1.getD g1.toNat bN.zero)).bind fun v1 =>
  (if (!v1)=true then
   some (.inr (.inr false))
  else
   some (.inl (i64.wrap (g1+1))))
 else
  some (.inr (.inl ())))
def za3 (a0 a1:List bN):Option Bool :=
 (if (!decide ((a0.length:Int)=(a1.length:Int)))=true then
  some false
 else
  (zc0 (zr1 a0 a1) 0).bind (fun|.inl z=>zA3 z|.inr z=>some z))
@[reducible,instance] def zdW2 a0 a1:=mkJ (za3 a0 a1) 0 (@zA3.eq_1) fun (j1:Unit)=>⟨[],[],0⟩
@[reducible,instance] def zdW3 (a0 a1:List bN) {T:Type} (x:T):=mkL x (@zr1.eq_1 a0 a1) fun (g1:Int)=>⟨[(1,la a1),(2,.clo 41 []),(15,la a0),(16,.int .i64 (a0.length:Int)),(17,.int .i64 g1)],[],0⟩
instance zP7 (a0 a1:List bN):OkM (za3 a0 a1) 40 [la a0,la a1,.clo 41 []] [] 0 (fun r=>.bool r) (fun r=>[]) 0:=okm (za3.eq_1 a0 a1) (fun r=>[.bool r]) Tryz.f40 []
attribute [local irreducible] za3
def zaB4 (j1:Unit):Option Bool :=
 some true
def zak4 (g1:Int×Int) (j2:Unit):Option ((Int×Int)⊕(Unit⊕Bool)) :=
 some (.inl (g1.1,i64.wrap (g1.2+1)))
def zH7 (a1:List aC) (g1:Int×Int) (g2:Int):Option (Int⊕(Unit⊕Bool)) :=
 (if (decide (g2 < g1.2))=true then
  gd (0≤g1.2∧g1.2 < (a1.length:Int)) <|
  gd ((!(zn2 (a1.getD g1.2.toNat aC.zero)))=true→0≤g2∧g2 < (a1.length:Int)) <|
  gd (((!(zn2 (a1.getD g1.2.toNat aC.zero)))&&(!(zn2 (a1.getD g2.toNat aC.zero))))=true→0≤g1.2∧g1.2 < (a1.length:Int)) <|
  gd (((!(zn2 (a1.getD g1.2.toNat aC.zero)))&&(!(zn2 (a1.getD g2.toNat aC.zero))))=true→0≤g2∧g2 < (a1.length:Int)) <|
  (if (((!(zn2 (a1.getD g1.2.toNat aC.zero)))&&(!(zn2 (a1.getD g2.toNat aC.zero))))&&(!(zP6 ((a1.getD g1.2.toNat aC.zero).mode) ((a1.getD g2.toNat aC.zero).mode))))=true then
   some (.inr (.inr false))
  else
   some (.inl (i64.wrap (g2+1))))
 else
  some (.inr (.inl ())))
def zE1 (a0:aH) (a1:List aC) (g1:Int×Int):Option ((Int×Int)⊕(Unit⊕Bool)) :=
 (if (decide (g1.2 < (a1.length:Int)))=true then
  gd (0≤g1.2∧g1.2 < (a1.length:Int)) <|
  (if (!(zw1 a0 (a1.getD g1.2.toNat aC.zero)))=true then
   some (.inr (.inr false))
  else
   (if (decide (a0.kind=2))=true then
    gd (0≤g1.2∧g1.2 < (a1.length:Int)) <|
    (if (decide (a0.aT < i64.wrap (g1.1+(a1.getD g1.2.toNat aC.zero).aT)))=true then
     some (.inr (.inr false))
    else
     some (.inl ((i64.wrap (g1.1+(a1.getD g1.2.toNat aC.zero).aT)),i64.wrap (g1.2+1))))
   else
    (zc0 (zH7 a1 g1) 0).bind (fun|.inl z=>zak4 g1 z|.inr z=>some (.inr (.inr z)))))
 else
  some (.inr (.inl ())))
def zl9 (a0:aH) (a1:List aC):Option Bool :=
 (if (!(zL1 a0))=true then
  some false
 else
  (zc0 (zE1 a0 a1) (0,0)).bind (fun|.inl z=>zaB4 z|.inr z=>some z))
@[reducible,instance] def zdW4 a0 a1:=mkJ (zl9 a0 a1) 0 (@zaB4.eq_1) fun (j1:Unit)=>⟨[],[],0⟩
@[reducible,instance] def zdW5 (a0:aH) (a1:List aC) (g1:Int×Int):=mkJ (zE1 a0 a1 g1) 2 (@zak4.eq_1 g1) fun (j2:Unit)=>⟨[(1,la a1),(2,.ptr 0 0 0),(5,.int .i64 g1.1),(6,.int .i64 g1.2)],[(0,bx a0)],1⟩
@[reducible,instance] def zdW6 (a0:aH) (a1:List aC) (g1:Int×Int):=mkL (zE1 a0 a1 g1) (@zH7.eq_1 a1 g1) fun (g2:Int)=>⟨[(1,la a1),(2,.ptr 0 0 0),(5,.int .i64 g1.1),(6,.int .i64 g1.2),(7,.int .i64 g2)],[(0,bx a0)],1⟩
@[reducible,instance] def zdW7 (a0:aH) (a1:List aC) {T:Type} (x:T):=mkL x (@zE1.eq_1 a0 a1) fun (g1:Int×Int)=>⟨[(1,la a1),(2,.ptr 0 0 0),(5,.int .i64 g1.1),(6,.int .i64 g1.2)],[(0,bx a0)],1⟩
instance zcA2 (a0:aH) (a1:List aC):OkP (zl9 a0 a1) 257 [ga a0,la a1] (fun r=>.bool r):=ok1 (zl9.eq_1 a0 a1) Tryz.f257 []
attribute [local irreducible] zl9
def zt6 (a0:aB):Option (List aJ) :=
 (zh5 a0.aS).bind fun v1 =>
 (zl1 a0).bind fun v2 =>
 gd (v1.length+v2.length≤4294967296) <|
 (zh9 (v1++v2)).bind fun v3 =>
 some v3
instance zdf0 (a0:aB):OkP (zt6 a0) 84 [ga a0] (fun r=>la r):=ok1 (zt6.eq_1 a0) Tryz.f84 []
attribute [local irreducible] zt6
def zaz7 (a0:aN) (a1:List aM) (j1:Unit):Option (Nat⊕(Bool×(List aM))) :=
 gd (a1.length+1≤4294967296) <|
 some (.inr (true,(a1++[a0.bF])))
def zal2 (a0:aN) (a1:List aM) (g1:Int):Option (Int⊕(Unit⊕(Nat⊕(Bool×(List aM))))) :=
 (if (decide (g1 < ((a1.length:Nat):Int)))=true then
  gd (0≤g1∧g1 < ((a1.length:Nat):Int)) <|
  (if (decide (a1.getD g1.toNat aM.zero=a0.bF))=true then
   some (.inr (.inr (.inr (true,a1))))
  else
   some (.inl (i64.wrap (g1+1))))
 else
  some (.inr (.inl ())))
def zaR2 (j2:(List aM)):Option (Nat⊕(Bool×(List aM))) :=
 some (.inr (true,j2))
def zab5 (a90:(aN→List aM→Option (Nat⊕(Bool×(List aM))))) (a0:aN) (g2:Int×(List aM)):Option ((Int×(List aM))⊕((List aM)⊕(Nat⊕(Bool×(List aM))))) :=
 (if (decide (g2.1 < (a0.bE.length:Int)))=true then
  gd (0≤g2.1∧g2.1 < (a0.bE.length:Int)) <|
  (a90 (a0.bE.getD g2.1.toNat aN.zero) g2.2).bind fun v2=>match v2 with
  | .inl v2 =>
   some (.inr (.inr (.inl g2.2.length)))
  | .inr v2 =>
   (if (!v2.1)=true then
    some (.inr (.inr (.inl g2.2.length)))
   else
    some (.inl ((i64.wrap (g2.1+1)),v2.2)))
 else
  some (.inr (.inl g2.2)))
def zB1 (a90:(aN→List aM→Option (Nat⊕(Bool×(List aM))))) (a0:aN) (a1:List aM):Option (Nat⊕(Bool×(List aM))) :=
 (if (decide ((a0.bE.length:Int)=0))=true then
  ((if (decide (a0.k=0))=true then zh8 a0.bF.name else some false)).bind fun v1 =>
  (if (((!decide (a0.k=0))||(!v1))||(!(zs7 a0.bF.aK)))=true then
   some (.inr (false,a1))
  else
   (zc0 (zal2 a0 a1) 0).bind (fun|.inl z=>zaz7 a0 a1 z|.inr z=>some z))
 else
  (if ((decide (a0.k < 1)||decide ((a0.bE.length:Int) < a0.k))||(!decide (a0.bF={ aM.zero with  })))=true then
   some (.inr (false,a1))
  else
   (zc0 (zab5 a90 a0) (0,a1)).bind (fun|.inl z=>zaR2 z|.inr z=>some z)))
def zC5:Nat→(aN→List aM→Option (Nat⊕(Bool×(List aM))))
 | 0=>fun _ _=>none
 | n+1=>zB1 (zC5 n)
def zq5 (a0:aN) (a1:List aM):Option (Nat⊕(Bool×(List aM))):=zC5 (_root_.SizeOf.sizeOf a0+1) a0 a1
@[reducible,instance] def zdW8 (a90:(aN→List aM→Option (Nat⊕(Bool×(List aM))))) (a0:aN) (a1:List aM) {T1:Type} (v1:T1):=mkJ (zB1 a90 a0 a1,v1) 0 (@zaz7.eq_1 a0 a1) fun (j1:Unit)=>⟨[(0,.own 1 0 a1.length),(3,.ptr 2 0 0)],[(1,sx a1),(2,bx a0)],3⟩
@[reducible,instance] def zdW9 (a0:aN) (a1:List aM) {T:Type} (x:T):=mkL x (@zal2.eq_1 a0 a1) fun (g1:Int)=>⟨[(0,.own 1 0 a1.length),(3,.ptr 2 0 0),(6,.int .i64 g1)],[(1,sx a1),(2,bx a0)],3⟩
@[reducible,instance] def zdX0 (a90:(aN→List aM→Option (Nat⊕(Bool×(List aM))))) (a0:aN) (a1:List aM):=mkJ (zB1 a90 a0 a1) 2 (@zaR2.eq_1) fun (j2:(List aM))=>⟨[(0,.own 1 0 j2.length)],[(1,sx j2)],2⟩
@[reducible,instance] def zdX1 (a90:(aN→List aM→Option (Nat⊕(Bool×(List aM))))) (a0:aN) {T:Type} (x:T):=mkL x (@zab5.eq_1 a90 a0) fun (g2:Int×(List aM))=>⟨[(0,.own 1 0 g2.2.length),(3,.ptr 2 0 0),(7,.int .i64 g2.1)],[(1,sx g2.2),(2,bx a0)],3⟩
abbrev zaa3 (g:(aN→List aM→Option (Nat⊕(Bool×(List aM))))):Prop:=∀ (a0:aN) (a1:List aM),OkL (g a0 a1) 135 [.own 0 0 a1.length,.agg (aN.enc a0)] [(0,⟨false,3,aM.enc aM.zero,a1.map aM.enc⟩)] 1 (fun r=>.tup [.own 1 0 r,.bool false]) (fun r=>[]) 2
abbrev zaa4 (g:(aN→List aM→Option (Nat⊕(Bool×(List aM))))):Prop:=∀ (a0:aN) (a1:List aM),OkR (g a0 a1) 135 [.own 0 0 a1.length,.agg (aN.enc a0)] [(0,⟨false,3,aM.enc aM.zero,a1.map aM.enc⟩)] 1 (fun r=>.tup [.own 1 0 r.2.length,.bool r.1]) (fun r=>[(1,⟨false,3,aM.enc aM.zero,r.2.map aM.enc⟩)]) 2
theorem zbw2 (a90:(aN→List aM→Option (Nat⊕(Bool×(List aM))))) (h0:zaa3 a90) (h1:zaa4 a90):zaa3 (zB1 a90):=fun a0 a1=>⟨fun r h=>by
 refine zay0 Tryz.f135 [(4,1)] [.own 1 0 r,.bool false] fun E hG hN hK=>?_
 have hm:Mk (zB1 a90 a0 a1):=trivial
 unfold zB1 at h
 exact gogo⟩
theorem zbw3 (a90:(aN→List aM→Option (Nat⊕(Bool×(List aM))))) (h0:zaa3 a90) (h1:zaa4 a90):zaa4 (zB1 a90):=fun a0 a1=>⟨fun r h=>by
 refine zay0 Tryz.f135 [(4,1)] [.own 1 0 r.2.length,.bool r.1] fun E hG hN hK=>?_
 have hm:Mk (zB1 a90 a0 a1):=trivial
 unfold zB1 at h
 exact gogo⟩
theorem zaV5:∀ n,zaa3 (zC5 n)∧zaa4 (zC5 n):=zaM3 (P:=fun g=>zaa3 g∧zaa4 g) ⟨fun _ _=>⟨fun _ h=>nomatch h⟩,fun _ _=>⟨fun _ h=>nomatch h⟩⟩ fun n h=>⟨zbw2 _ h.1 h.2,zbw3 _ h.1 h.2⟩
instance zaR3:zaa3 zq5:=fun a0 a1=>(zaV5 _).1 a0 a1
instance zaR4:zaa4 zq5:=fun a0 a1=>(zaV5 _).2 a0 a1
attribute [local irreducible] zq5
def zm5 (a0:List aJ):Option (List aJ) :=
 gd (a0.length≤4294967296) <|
 (zb6 a0).bind fun v1 =>
 (za4 v1).bind fun v2 =>
 some v2.1
theorem zbs0 (a0:List aJ) (r:(List aJ)) (h:zm5 a0=some r):PFn C 70 [la a0] (la r):=by
 refine zak7 Tryz.f70 [] fun E hG hN hK=>?_
 unfold zm5 at h
 refine za2 (za5 hG ?_)
 refine za2 ?_
 obtain ⟨hb1,h⟩:=zg0 h
 refine za5 hG ?_
 refine za2 (za5 hG ?_)
 obtain ⟨v1,hv1,h⟩:=zc2 h
 have hl_v1:=zam1 a0 _ hv1
 refine zs1 [(0,0)] [] [0] (zam2 _ _ hv1) rfl rfl ?_
 refine za2 (za5 hG ?_)
 obtain ⟨v2,hv2,h⟩:=zc2 h
 refine zs1 [(0,0)] [] [0] ((zam5 v1).ok _ hv2) rfl rfl ?_
 refine zx8 ?_
 exact zae1 h
instance zcA3 (a0:List aJ):OkP (zm5 a0) 70 [la a0] (fun r=>la r):=⟨zbs0 a0⟩
attribute [local irreducible] zm5
def zaf9 (j3:(List Int)):Option (List Int) :=
 some j3
def zJ6 (a1:aB) (g1:(List Int)×Int):Option (((List Int)×Int)⊕(List Int)) :=
 (if (decide (g1.2 < (a1.aV.length:Int)))=true then
  gd (0≤g1.2∧g1.2 < (a1.aV.length:Int)) <|
  (zk0 g1.1 ((a1.aV.getD g1.2.toNat aX.zero).aP)).bind fun v5 =>
  (zc4 v5 [((a1.aV.getD g1.2.toNat aX.zero).aK).mode,((a1.aV.getD g1.2.toNat aX.zero).aK).aT,(a1.aV.getD g1.2.toNat aX.zero).bH,(a1.aV.getD g1.2.toNat aX.zero).bR]).bind fun v6 =>
  some (.inl (v6,i64.wrap (g1.2+1)))
 else
  some (.inr g1.1))
def zT4 (a1:aB) (j2:(List Int)):Option (List Int) :=
 (zc4 j2 [(a1.aV.length:Int)]).bind fun v4 =>
 (zc0 (zJ6 a1) (v4,0)).bind (fun z=>zaf9 z)
def zJ7 (a1:aB) (g2:(List Int)×Int):Option (((List Int)×Int)⊕(List Int)) :=
 (if (decide (g2.2 < (a1.aI.length:Int)))=true then
  gd (0≤g2.2∧g2.2 < (a1.aI.length:Int)) <|
  (zk0 g2.1 ((a1.aI.getD g2.2.toNat aX.zero).aP)).bind fun v7 =>
  (zc4 v7 [((a1.aI.getD g2.2.toNat aX.zero).aK).mode,((a1.aI.getD g2.2.toNat aX.zero).aK).aT]).bind fun v8 =>
  some (.inl (v8,i64.wrap (g2.2+1)))
 else
  some (.inr g2.1))
def zT5 (a1:aB) (j1:(List Int)):Option (List Int) :=
 (zc4 j1 [(a1.aI.length:Int)]).bind fun v3 =>
 (zc0 (zJ7 a1) (v3,0)).bind (fun z=>zT4 a1 z)
def zJ8 (a1:aB) (g3:(List Int)×Int):Option (((List Int)×Int)⊕(List Int)) :=
 (if (decide (g3.2 < (a1.aS.length:Int)))=true then
  gd (0≤g3.2∧g3.2 < (a1.aS.length:Int)) <|
  (zk0 g3.1 ((a1.aS.getD g3.2.toNat aY.zero).aP)).bind fun v9 =>
  (zc4 v9 [((a1.aS.getD g3.2.toNat aY.zero).aK).mode,((a1.aS.getD g3.2.toNat aY.zero).aK).aT]).bind fun v10 =>
  some (.inl (v10,i64.wrap (g3.2+1)))
 else
  some (.inr g3.1))
def zk3 (a0:List Int) (a1:aB):Option (List Int) :=
 (zj9 a0 a1.aA.name).bind fun v1 =>
 (zc4 v1 [a1.aA.kind,a1.aA.aT,a1.aA.home,a1.gen,(a1.aS.length:Int)]).bind fun v2 =>
 (zc0 (zJ8 a1) (v2,0)).bind (fun z=>zT5 a1 z)
@[reducible,instance] def zdX2 a1 j2 {T1:Type} (v4:T1):=mkJ (zT4 a1 j2,v4) 4 (@zaf9.eq_1) fun (j3:(List Int))=>⟨[(0,.sl (j3.map (eI .u8)))],[],0⟩
@[reducible,instance] def zdX3 (a1:aB) {T:Type} (x:T):=mkL x (@zJ6.eq_1 a1) fun (g1:(List Int)×Int)=>⟨[(0,.sl (g1.1.map (eI .u8))),(84,la a1.aV),(85,.int .i64 (a1.aV.length:Int)),(86,.int .i64 g1.2)],[],0⟩
@[reducible,instance] def zdX4 (a1:aB) j1 {T1:Type} (v3:T1):=mkJ (zT5 a1 j1,v3) 2 (@zT4.eq_1 a1) fun (j2:(List Int))=>⟨[(0,.sl (j2.map (eI .u8))),(3,.ptr 0 0 0)],[(0,bx a1)],1⟩
@[reducible,instance] def zdX5 (a1:aB) {T:Type} (x:T):=mkL x (@zJ7.eq_1 a1) fun (g2:(List Int)×Int)=>⟨[(0,.sl (g2.1.map (eI .u8))),(3,.ptr 0 0 0),(58,la a1.aI),(59,.int .i64 (a1.aI.length:Int)),(60,.int .i64 g2.2)],[(0,bx a1)],1⟩
@[reducible,instance] def zdX6 a0 (a1:aB) {T1:Type} (v1:T1) {T2:Type} (v2:T2):=mkJ ((zk3 a0 a1,v1),v2) 0 (@zT5.eq_1 a1) fun (j1:(List Int))=>⟨[(0,.sl (j1.map (eI .u8))),(3,.ptr 0 0 0)],[(0,bx a1)],1⟩
@[reducible,instance] def zdX7 (a1:aB) {T:Type} (x:T):=mkL x (@zJ8.eq_1 a1) fun (g3:(List Int)×Int)=>⟨[(0,.sl (g3.1.map (eI .u8))),(3,.ptr 0 0 0),(32,la a1.aS),(33,.int .i64 (a1.aS.length:Int)),(34,.int .i64 g3.2)],[(0,bx a1)],1⟩
instance zcp4 (a0:List Int) (a1:aB):OkP (zk3 a0 a1) 30 [.sl (a0.map (eI .u8)),ga a1] (fun r=>.sl (r.map (eI .u8))):=ok1 (zk3.eq_1 a0 a1) Tryz.f30 []
attribute [local irreducible] zk3
def zm2 (a0 a1:aB):Option Bool :=
 ((if (decide (a0.gen=a1.gen))=true then zg7 a0 a1 else some false)).bind fun v1 =>
 ((if (decide (a0.gen=a1.gen)&&v1)=true then za8 a0.aV a1.aV else some false)).bind fun v2 =>
 some ((decide (a0.gen=a1.gen)&&v1)&&v2)
instance zcl3 (a0 a1:aB):OkP (zm2 a0 a1) 39 [ga a0,ga a1] (fun r=>.bool r):=ok1 (zm2.eq_1 a0 a1) Tryz.f39 []
attribute [local irreducible] zm2
def zaC3 (v1:Int×bP) (j1:(List aM)):Option (aN×bP) :=
 (zr6 j1 2 v1.2).bind fun v2 =>
 some (v2.1,v2.2)
def zap7 (a0:List aH) (v1:Int×bP) (g1:Int×(List aM)):Option ((Int×(List aM))⊕(List aM)) :=
 (if (decide (g1.1 < (a0.length:Int)))=true then
  gd (0≤g1.1∧g1.1 < (a0.length:Int)) <|
  gd (0≤g1.1∧g1.1 < (a0.length:Int)) <|
  gd (0≤u64.wrap (i64.wrap (3 * g1.1))) <|
  (zr7 (a0.getD g1.1.toNat aH.zero) (v1.1.fdiv (2 ^ (Nat.min (u64.wrap (i64.wrap (3 * g1.1))).toNat i64.bits)))).bind fun v3 =>
  gd (g1.2.length+1≤4294967296) <|
  some (.inl ((i64.wrap (g1.1+1)),(g1.2++[(⟨(a0.getD g1.1.toNat aH.zero).name,v3⟩:aM)])))
 else
  some (.inr g1.2))
def zu2 (a0:List aH) (a1:bP):Option (aN×bP) :=
 (zb8 1048576 a1).bind fun v1 =>
 (zc0 (zap7 a0 v1) (0,[])).bind (fun z=>zaC3 v1 z)
@[reducible,instance] def zdX8 a0 a1 (v1:Int×bP):=mkJ (zu2 a0 a1,v1) 0 (@zaC3.eq_1 v1) fun (j1:(List aM))=>⟨[(0,.ptr 0 0 0),(4,.ptr 1 0 0),(6,.own 2 0 j1.length)],[(0,bx v1.2),(1,bx aN.zero),(2,sx j1)],3⟩
@[reducible,instance] def zdX9 (a0:List aH) (v1:Int×bP) {T:Type} (x:T):=mkL x (@zap7.eq_1 a0 v1) fun (g1:Int×(List aM))=>⟨[(0,.ptr 0 0 0),(1,la a0),(4,.ptr 1 0 0),(5,.int .i64 v1.1),(6,.own 2 0 g1.2.length),(7,.int .i64 g1.1)],[(0,bx v1.2),(1,bx aN.zero),(2,sx g1.2)],3⟩
instance zbJ7 (a0:List aH) (a1:bP):OkM (zu2 a0 a1) 203 [.ptr 0 0 0,la a0] [(0,bx a1)] 1 (fun r=>ga r.1) (fun r=>[(0,bx r.2)]) 1:=okm (zu2.eq_1 a0 a1) (fun r=>[ga r.1]) Tryz.f203 [(6,1)]
attribute [local irreducible] zu2
def zj1 (a0:aH):Option Bool :=
 (zh8 a0.name).bind fun v1 =>
 some (((v1&&zL1 a0)&&decide (0≤a0.home))&&decide (a0.home < 4))
instance zcl4 (a0:aH):OkP (zj1 a0) 204 [ga a0] (fun r=>.bool r):=ok1 (zj1.eq_1 a0) Tryz.f204 []
attribute [local irreducible] zj1
def zaV6 (j2:Unit):Option Bool :=
 some true
def zW7 (a0:bA) (g1:Int):Option (Int⊕(Unit⊕Bool)) :=
 (if (decide (g1 < (a0.bG.length:Int)))=true then
  gd (0≤g1∧g1 < (a0.bG.length:Int)) <|
  gd (((!(((decide ((a0.bG.getD g1.toNat bU.zero).label < 1)||decide (99 < (a0.bG.getD g1.toNat bU.zero).label))||decide ((a0.bG.getD g1.toNat bU.zero).at_ < 0))||decide ((a0.aQ.length:Int) < (a0.bG.getD g1.toNat bU.zero).at_)))&&decide (0 < g1))=true→0≤i64.wrap (g1 - 1)∧i64.wrap (g1 - 1) < (a0.bG.length:Int)) <|
  ((if (!((((decide ((a0.bG.getD g1.toNat bU.zero).label < 1)||decide (99 < (a0.bG.getD g1.toNat bU.zero).label))||decide ((a0.bG.getD g1.toNat bU.zero).at_ < 0))||decide ((a0.aQ.length:Int) < (a0.bG.getD g1.toNat bU.zero).at_))||(decide (0 < g1)&&decide ((a0.bG.getD g1.toNat bU.zero).at_ < (a0.bG.getD ((i64.wrap (g1 - 1)).toNat) bU.zero).at_))))=true then zl7 a0.bG ((a0.bG.getD g1.toNat bU.zero).label) else some 0)).bind fun v2 =>
  (if (((((decide ((a0.bG.getD g1.toNat bU.zero).label < 1)||decide (99 < (a0.bG.getD g1.toNat bU.zero).label))||decide ((a0.bG.getD g1.toNat bU.zero).at_ < 0))||decide ((a0.aQ.length:Int) < (a0.bG.getD g1.toNat bU.zero).at_))||(decide (0 < g1)&&decide ((a0.bG.getD g1.toNat bU.zero).at_ < (a0.bG.getD ((i64.wrap (g1 - 1)).toNat) bU.zero).at_)))||(!decide (v2=g1)))=true then
   some (.inr (.inr false))
  else
   some (.inl (i64.wrap (g1+1))))
 else
  some (.inr (.inl ())))
def zag0 (a0:bA) (j1:Unit):Option Bool :=
 (zi9 a0.aQ).bind fun v1 =>
 (if (decide (8 < (v1.length:Int)))=true then
  some false
 else
  (zc0 (zW7 a0) 0).bind (fun|.inl z=>zaV6 z|.inr z=>some z))
def zag1 (a0:bA) (g2:Int):Option (Int⊕(Unit⊕Bool)) :=
 (if (decide (g2 < (a0.aQ.length:Int)))=true then
  gd (0≤g2∧g2 < (a0.aQ.length:Int)) <|
  (zh8 ((a0.aQ.getD g2.toNat bM.zero).name)).bind fun v3 =>
  gd (v3=true→0≤0∧0≤g2∧g2≤(a0.aQ.length:Int)) <|
  ((if v3=true then zj4 (a0.aQ.take g2.toNat) ((a0.aQ.getD g2.toNat bM.zero).name) else some aC.zero)).bind fun v4 =>
  (if (((!v3)||(!decide ((a0.aQ.getD g2.toNat bM.zero).before=v4)))||(!(zQ8 ((a0.aQ.getD g2.toNat bM.zero).before) ((a0.aQ.getD g2.toNat bM.zero).after))))=true then
   some (.inr (.inr false))
  else
   some (.inl (i64.wrap (g2+1))))
 else
  some (.inr (.inl ())))
def zq2 (a0:bA):Option Bool :=
 (if (decide (72 < (a0.aQ.length:Int))||decide (4 < (a0.bG.length:Int)))=true then
  some false
 else
  (zc0 (zag1 a0) 0).bind (fun|.inl z=>zag0 a0 z|.inr z=>some z))
@[reducible,instance] def zdY0 a0 j1 {T1:Type} (v1:T1):=mkJ (zag0 a0 j1,v1) 2 (@zaV6.eq_1) fun (j2:Unit)=>⟨[],[],0⟩
@[reducible,instance] def zdY1 (a0:bA) {T:Type} (x:T):=mkL x (@zW7.eq_1 a0) fun (g1:Int)=>⟨[(1,.ptr 0 0 0),(5,.int .i64 g1)],[(0,bx a0)],1⟩
@[reducible,instance] def zdY2 (a0:bA):=mkJ (zq2 a0) 0 (@zag0.eq_1 a0) fun (j1:Unit)=>⟨[(1,.ptr 0 0 0)],[(0,bx a0)],1⟩
@[reducible,instance] def zdY3 (a0:bA) {T:Type} (x:T):=mkL x (@zag1.eq_1 a0) fun (g2:Int)=>⟨[(1,.ptr 0 0 0),(3,.int .i64 g2)],[(0,bx a0)],1⟩
instance zbh8 (a0:bA):OkP (zq2 a0) 149 [ga a0] (fun r=>.bool r):=ok1 (zq2.eq_1 a0) Tryz.f149 []
attribute [local irreducible] zq2
def zbd8 (j1:Unit):Option Bool :=
 some true
def zau0 (a0 a1:aL) (g1:Int):Option (Int⊕(Unit⊕Bool)) :=
 (if (decide (g1 < (a0.bB.length:Int)))=true then
  gd (0≤g1∧g1 < (a0.bB.length:Int)) <|
  gd (0≤g1∧g1 < (a1.bB.length:Int)) <|
  (zi8 (a0.bB.getD g1.toNat bN.zero) (a1.bB.getD g1.toNat bN.zero)).bind fun v2 =>
  (if (!v2)=true then
   some (.inr (.inr false))
  else
   some (.inl (i64.wrap (g1+1))))
 else
  some (.inr (.inl ())))
def zv5 (a0 a1:aL):Option Bool :=
 (zt1 a0.aF a1.aF).bind fun v1 =>
 (if ((!v1)||(!decide ((a0.bB.length:Int)=(a1.bB.length:Int))))=true then
  some false
 else
  (zc0 (zau0 a0 a1) 0).bind (fun|.inl z=>zbd8 z|.inr z=>some z))
@[reducible,instance] def zdY4 a0 a1 {T1:Type} (v1:T1):=mkJ (zv5 a0 a1,v1) 0 (@zbd8.eq_1) fun (j1:Unit)=>⟨[],[],0⟩
@[reducible,instance] def zdY5 (a0 a1:aL) {T:Type} (x:T):=mkL x (@zau0.eq_1 a0 a1) fun (g1:Int)=>⟨[(2,.ptr 0 0 0),(3,.ptr 1 0 0),(5,.int .i64 g1)],[(0,bx a0),(1,bx a1)],2⟩
instance zdp0 (a0 a1:aL):OkP (zv5 a0 a1) 20 [ga a0,ga a1] (fun r=>.bool r):=ok1 (zv5.eq_1 a0 a1) Tryz.f20 []
attribute [local irreducible] zv5
end
end Ab
end Go.Proofs.YtcggeefhhegeoaaGreatDoor
