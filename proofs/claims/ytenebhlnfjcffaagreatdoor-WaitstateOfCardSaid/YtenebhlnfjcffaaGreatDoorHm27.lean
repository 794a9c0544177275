import Derived.Test.YtenebhlnfjcffaaGreatDoorHm20
import Derived.Test.YtenebhlnfjcffaaGreatDoorHm9
import Derived.Test.YtenebhlnfjcffaaGreatDoorHm16
namespace Go.Proofs.YtenebhlnfjcffaaGreatDoor
namespace Ab
open IntKind (i64 u64 u8)
set_option linter.unusedSimpArgs false
set_option linter.defProp false
set_option linter.unusedVariables false
set_option maxRecDepth 100000
set_option maxHeartbeats 1000000
noncomputable section
attribute [local irreducible] zl1 ze7 zb3 za2 zd2 zj6 zb4 za8 zl5 zg4 zi6 zi7 zk5 zh8 ze1 za5 za9 zf7 zj1 zh5 zj7 zf2 ze3 zp5 zk3 zf6 zf0 zd1 zd7 zc3 za6 zi1 zf8 zl9 zf9 f_ref08_holds ze5 zg0 zl0 zf3 zg5 zf1 zb0 za0 zh0 zl2 zk4 ze4 zb5 zd3 ze6 zg8 zn2 zm1 zd8 zg1 zk6 zj5 zh7 zl3 zd0 zh1 zp9 zc8 zi0 zc5 zi4 zo6 za7 ze2 za4 zj0 zc2 za1 zf4 zi5 ze8 zn7 zo4 zq9 zg7 zh3 zf5 zm9 zt4 ze0 zg9 zc7 zd9 zb7 zr4 zh6 zj3 zp3 zo0 zb9 zm6 zk9 zi3 zg2 zj4 zi8 zh2 zh4 zm7 zr9 zh9 zm8 zq8 za3 zj8 zn9 zg6 zq4 zm0 zp6 zk7 zn8 f_formula_holds zj2 zc1 zi2 zo8 zq5 zb6 zp7 zp8 zj9 ze9 zd6 zc4 zo9 zr7 zo1 zr0 zl6 zs9 zt6 zp0 zm4 zg3 zt0 zu6 zi9 zb1 zp1 zr6
def zt7 (a0:aC) (a1:List aT) (a2:aH) (a3:aA):Option Bool :=
 (zp0 a0 a1).bind fun v1 =>
 some ((v1&&zc9 a2)&&zb8 a0 a3)
instance zci4 (a0:aC) (a1:List aT) (a2:aH) (a3:aA):OkP (zt7 a0 a1 a2 a3) 207 [ga a0,la a1,ga a2,ga a3] (fun r=>.bool r):=ok1 (zt7.eq_1 a0 a1 a2 a3) Tryz.f207 []
attribute [local irreducible] zt7
def zu3 (a0 a1:aK):Option Bool :=
 (zb1 a0.aM a1.aM).bind fun v1 =>
 ((if v1=true then za3 a0.bF a1.bF else some false)).bind fun v2 =>
 some (v1&&v2)
instance zba0 (a0 a1:aK):OkP (zu3 a0 a1) 20 [ga a0,ga a1] (fun r=>.bool r):=⟨fun r h=>by
 refine zae3 Tryz.f20 [] fun E hG hN hK=>?_
 have hm:Mk (zu3 a0 a1):=trivial
 unfold zu3 at h
 refine zb2 (zc0 hG ?_)
 refine zb2 (zc0 hG ?_)
 obtain ⟨v1,hv1,h⟩:=zn1 h
 have hm:=mkP hm v1
 refine zB2 [] [] [] ((zE8 a0.aM a1.aM).ok _ hv1) rfl rfl ?_
 obtain ⟨v2,hv2,h⟩:=zn1 h
 have hm:=mkP hm v2
 refine zbr7 [] [] hv2 (fun hc=>(zH2 a0.bF a1.bF).ok _ hc) rfl ?_
 exact gogo⟩
attribute [local irreducible] zu3
def zH5 (v2:(List aD)×Bool) (j1:Unit):Option ((List aD)×Bool) :=
 some (v2.1,true)
@[go_sem] def zcT8 (v2:(List aD)×Bool) (j1:Unit):St:=⟨[(4,la v2.1)],[],0⟩
def zan7 (g1:Int) (j2:Unit):Option (Int⊕(Unit⊕((List aD)×Bool))) :=
 some (.inl (i64.wrap (g1+1)))
@[go_sem] def zcT9 (v2:(List aD)×Bool) (g1:Int) (j2:Unit):St:=⟨[(4,la v2.1),(6,.int .i64 g1)],[],0⟩
def zN6 (v2:(List aD)×Bool) (g1 g2:Int):Option (Int⊕(Unit⊕((List aD)×Bool))) :=
 (if (decide (g2 < g1))=true then
  gd (0≤g1∧g1 < (v2.1.length:Int)) <|
  gd (0≤g2∧g2 < (v2.1.length:Int)) <|
  (if (((v2.1.getD g1.toNat aD.zero).name).toList == ((v2.1.getD g2.toNat aD.zero).name).toList)=true then
   some (.inr (.inr ([],false)))
  else
   some (.inl (i64.wrap (g2+1))))
 else
  some (.inr (.inl ())))
@[go_sem] def zcU0 (v2:(List aD)×Bool) (g1 g2:Int):St:=⟨[(4,la v2.1),(6,.int .i64 g1),(7,.int .i64 g2)],[],0⟩
def zH6 (v2:(List aD)×Bool) (g1:Int):Option (Int⊕(Unit⊕((List aD)×Bool))) :=
 (if (decide (g1 < (v2.1.length:Int)))=true then
  (zc6 (zN6 v2 g1) 0).bind (fun|.inl z=>zan7 g1 z|.inr z=>some (.inr (.inr z)))
 else
  some (.inr (.inl ())))
@[go_sem] def zcU1 (v2:(List aD)×Bool) (g1:Int):St:=⟨[(4,la v2.1),(6,.int .i64 g1)],[],0⟩
def zl4 (a0:aG):Option ((List aD)×Bool) :=
 (zm1 a0).bind fun v1 =>
 (if (decide (v1=0))=true then
  some ([],false)
 else
  (zt6 a0).bind fun v2=>match v2 with
  | .inl v2 =>
   some ([],false)
  | .inr v2 =>
   (if ((!v2.2)||decide (8 < (v2.1.length:Int)))=true then
    some ([],false)
   else
    (zc6 (zH6 v2) 0).bind (fun|.inl z=>zH5 v2 z|.inr z=>some z)))
theorem zbs5 (a0:aG) (r:(List aD)×Bool) (h:zl4 a0=some r):PFn C 41 [ga a0] (.tup [la r.1,.bool r.2]):=by
 refine zae3 Tryz.f41 [] fun E hG hN hK=>?_
 unfold zl4 at h
 refine zb2 (zc0 hG ?_)
 refine zb2 (zb2 (zc0 hG ?_))
 obtain ⟨v1,hv1,h⟩:=zn1 h
 refine zA8 (fun hg=>(zbs3 a0).ok _ hv1) ?_
 refine zs2 rfl hG h (fun _ h=>?_) (fun _ h=>?_)
 · refine zb2 (zc0 hG ?_)
   refine zy1 ?_
   exact zV4 h
 refine zr8 ?_
 refine zb2 (zc0 hG ?_)
 obtain ⟨v2,hv2,h⟩:=zn1 h
 rcases v2 with v2|v2
 · dsimp only at h
   refine zB2 [] [(0,1)] [0] (zbd6 _ _ hv2) rfl rfl ?_
   refine zb2 (zb2 (zc0 hG ?_))
   refine zaG2 rfl hG ?_
   refine zb2 (zc0 hG ?_)
   refine zy1 ?_
   exact zV4 h
 dsimp only at h
 refine zB2 [] [] [] (zbd7 _ _ hv2) rfl rfl ?_
 refine zb2 (zb2 (zc0 hG ?_))
 refine zs2 rfl hG h (fun _ h=>?_) (fun _ h=>?_)
 · refine zb2 (zc0 hG ?_)
   refine zy1 ?_
   exact zV4 h
 refine zr8 ?_
 refine zb2 (zb2 (zc0 hG ?_))
 refine zO1 (zcT8 v2) (fun v=>zH5 v2 v=some r) ?_ ?_
 · intro j1 h
   unfold zH5 at h
   refine g_st ?_
   refine zb2 (zc0 hG ?_)
   refine zy1 ?_
   exact zV4 h
 refine zam9 (zcU1 v2) hK [] h (fun x_l1 h g1 y_l1 h_l1 hx_l1=>?_)
 unfold zH6 at h_l1
 refine g_st ?_
 refine zb2 (zb2 (zc0 hG ?_))
 refine zs2 rfl hG h_l1 (fun _ h_l1=>?_) (fun _ h_l1=>?_)
 · refine zr8 ?_
   refine zb2 (zK3 (zb2 (zc0 hG ?_)))
   refine zO1 (zcT9 v2 g1) (fun v=>zan7 g1 v=some y_l1) ?_ ?_
   · intro j2 h_l1
     unfold zan7 at h_l1
     refine g_st ?_
     refine zc0 hG ?_
     exact zX8 hK [] h_l1
   refine zam9 (zcU0 v2 g1) hK [] h_l1 (fun x_l2 h_l1 g2 y_l2 h_l2 hx_l2=>?_)
   unfold zN6 at h_l2
   refine g_st ?_
   refine zb2 (zb2 (zc0 hG ?_))
   refine zs2 rfl hG h_l2 (fun _ h_l2=>?_) (fun _ h_l2=>?_)
   · refine zr8 ?_
     refine zb2 (zK3 (zb2 ?_))
     obtain ⟨hb1,h_l2⟩:=zm3 h_l2
     obtain ⟨hb2,h_l2⟩:=zm3 h_l2
     refine zbr6 zab9 hG ?_
     refine zs2 rfl hG h_l2 (fun _ h_l2=>?_) (fun _ h_l2=>?_)
     · refine zb2 (zc0 hG ?_)
       refine zy1 ?_
       obtain rfl:=dG h_l2
       have hx:=hx_l2 _ rfl
       subst hx
       try dsimp only at h_l1
       cases h_l1
       cases hx_l1 _ rfl
       exact zV4 h
     refine zr8 ?_
     refine zc0 hG ?_
     exact zX8 hK [] h_l2
   refine zO2 ?_
   obtain rfl:=dG h_l2
   have hx:=hx_l2 _ rfl
   subst hx
   try dsimp only at h_l1
   exact zS5 hK [] () (by exact h_l1)
 refine zO2 ?_
 cases h_l1
 cases hx_l1 _ rfl
 exact zS5 hK [] () (by exact h)
instance zcs9 (a0:aG):OkP (zl4 a0) 41 [ga a0] (fun r=>.tup [la r.1,.bool r.2]):=⟨zbs5 a0⟩
attribute [local irreducible] zl4
def zae5 (j1:Unit):Option Bool :=
 some true
def zx9 (a0:aF) (g1:Int):Option (Int⊕(Unit⊕Bool)) :=
 (if (decide (g1 < (a0.aL.length:Int)))=true then
  gd (0≤g1∧g1 < (a0.aL.length:Int)) <|
  (zk6 a0 ((a0.aL.getD g1.toNat aR.zero).aN)).bind fun v1 =>
  (zl0 a0.aL ((a0.aL.getD g1.toNat aR.zero).aN)).bind fun v2 =>
  (if ((!decide (v2=g1))||zk2 v1)=true then
   some (.inr (.inr false))
  else
   ((if (zb8 a0.aB ((a0.aL.getD g1.toNat aR.zero).aI))=true then zm8 a0.aB ((a0.aL.getD g1.toNat aR.zero).aI) v1 else some false)).bind fun v3 =>
   (if (((!(zb8 a0.aB ((a0.aL.getD g1.toNat aR.zero).aI)))||(!v3))||decide ((a0.aL.getD g1.toNat aR.zero).aI=v1))=true then
    some (.inr (.inr false))
   else
    (if ((!decide ((a0.aL.getD g1.toNat aR.zero).aW=0))||(!decide ((a0.aL.getD g1.toNat aR.zero).bO=0)))=true then
     some (.inr (.inr false))
    else
     some (.inl (i64.wrap (g1+1))))))
 else
  some (.inr (.inl ())))
def zl7 (a0:aF):Option Bool :=
 (if (decide (8 < (a0.aL.length:Int)))=true then
  some false
 else
  (zc6 (zx9 a0) 0).bind (fun|.inl z=>zae5 z|.inr z=>some z))
@[reducible,instance] def zdC7 a0:=mkJ (zl7 a0) 0 (@zae5.eq_1) fun (j1:Unit)=>⟨[],[],0⟩
@[reducible,instance] def zdC8 (a0:aF) {T:Type} (x:T):=mkL x (@zx9.eq_1 a0) fun (g1:Int)=>⟨[(1,.ptr 0 0 0),(11,la a0.aL),(12,.int .i64 (a0.aL.length:Int)),(13,.int .i64 g1)],[(0,bx a0)],1⟩
instance zbJ4 (a0:aF):OkP (zl7 a0) 205 [ga a0] (fun r=>.bool r):=ok1 (zl7.eq_1 a0) Tryz.f205 []
attribute [local irreducible] zl7
def zJ6 (j2:aU×aG):Option (aG×aU) :=
 some (j2.2,j2.1)
@[go_sem] def zcU2  (j2:aU×aG):St:=⟨[(4,.ptr 1 0 0),(5,.ptr 2 0 0)],[(0,bx j2.1),(1,bx aG.zero),(2,⟨false,5,aG.enc aG.zero,[[.int .i64 j2.2.k,.str j2.2.aZ.name,.int .i64 j2.2.aZ.aI.mode,.int .i64 j2.2.aZ.aI.aP,.own 3 0 j2.2.aV.length]]⟩),(3,sx j2.2.aV)],4⟩
def zV5 (a90:(Int→aU→Option (aG×aU))) (a0:Int) (g1:Int×aU×aG):Option ((Int×aU×aG)⊕(aU×aG)) :=
 (if (decide (0 < g1.1)&&decide (g1.2.1.bH.err=0))=true then
  (a90 (i64.wrap (a0+1)) g1.2.1).bind fun v5 =>
  gd (g1.2.2.aV.length+1≤4294967296) <|
  some (.inl ((i64.wrap (g1.1 - 1)),v5.2,(⟨g1.2.2.k,(⟨g1.2.2.aZ.name,(⟨g1.2.2.aZ.aI.mode,g1.2.2.aZ.aI.aP⟩:aA)⟩:aD),(g1.2.2.aV++[v5.1])⟩:aG)))
 else
  some (.inr (g1.2.1,g1.2.2)))
@[go_sem] def zcU3 (a0:Int) (g1:Int×aU×aG):St:=⟨[(0,.ptr 0 0 0),(1,.int .i64 a0),(4,.ptr 1 0 0),(5,.ptr 2 0 0),(6,.int .i64 g1.1)],[(0,bx g1.2.1),(1,bx aG.zero),(2,⟨false,5,aG.enc aG.zero,[[.int .i64 g1.2.2.k,.str g1.2.2.aZ.name,.int .i64 g1.2.2.aZ.aI.mode,.int .i64 g1.2.2.aZ.aI.aP,.own 3 0 g1.2.2.aV.length]]⟩),(3,sx g1.2.2.aV)],4⟩
def zB5 (a90:(Int→aU→Option (aG×aU))) (a0:Int) (j1:aU):Option (aG×aU) :=
 (zb9 j1).bind fun v1 =>
 (if (!decide (v1.2.bH.err=0))=true then
  some ((⟨v1.1,(⟨((⟨aG.zero.k,(⟨aG.zero.aZ.name,(⟨aG.zero.aZ.aI.mode,aG.zero.aZ.aI.aP⟩:aA)⟩:aD),[]⟩:aG).aZ).name,(⟨(((⟨aG.zero.k,(⟨aG.zero.aZ.name,(⟨aG.zero.aZ.aI.mode,aG.zero.aZ.aI.aP⟩:aA)⟩:aD),[]⟩:aG).aZ).aI).mode,(((⟨aG.zero.k,(⟨aG.zero.aZ.name,(⟨aG.zero.aZ.aI.mode,aG.zero.aZ.aI.aP⟩:aA)⟩:aD),[]⟩:aG).aZ).aI).aP⟩:aA)⟩:aD),(⟨aG.zero.k,(⟨aG.zero.aZ.name,(⟨aG.zero.aZ.aI.mode,aG.zero.aZ.aI.aP⟩:aA)⟩:aD),[]⟩:aG).aV⟩:aG),v1.2)
 else
  (if (decide (v1.1=0))=true then
   (zd9 v1.2).bind fun v2 =>
   (zd6 v2.2).bind fun v3 =>
   some ((⟨v1.1,(⟨v2.1,(⟨v3.1.mode,v3.1.aP⟩:aA)⟩:aD),(⟨aG.zero.k,(⟨aG.zero.aZ.name,(⟨aG.zero.aZ.aI.mode,aG.zero.aZ.aI.aP⟩:aA)⟩:aD),[]⟩:aG).aV⟩:aG),v3.2)
  else
   (zc7 24 v1.2).bind fun v4 =>
   (zc6 (zV5 a90 a0) (v4.1,v4.2,(⟨v1.1,(⟨((⟨aG.zero.k,(⟨aG.zero.aZ.name,(⟨aG.zero.aZ.aI.mode,aG.zero.aZ.aI.aP⟩:aA)⟩:aD),[]⟩:aG).aZ).name,(⟨(((⟨aG.zero.k,(⟨aG.zero.aZ.name,(⟨aG.zero.aZ.aI.mode,aG.zero.aZ.aI.aP⟩:aA)⟩:aD),[]⟩:aG).aZ).aI).mode,(((⟨aG.zero.k,(⟨aG.zero.aZ.name,(⟨aG.zero.aZ.aI.mode,aG.zero.aZ.aI.aP⟩:aA)⟩:aD),[]⟩:aG).aZ).aI).aP⟩:aA)⟩:aD),(⟨aG.zero.k,(⟨aG.zero.aZ.name,(⟨aG.zero.aZ.aI.mode,aG.zero.aZ.aI.aP⟩:aA)⟩:aD),[]⟩:aG).aV⟩:aG))).bind (fun z=>zJ6 z)))
@[go_sem] def zcU4 (a0:Int) (j1:aU):St:=⟨[(0,.ptr 0 0 0),(1,.int .i64 a0),(4,.ptr 1 0 0),(5,.ptr 2 0 0)],[(0,bx j1),(1,bx aG.zero),(2,⟨false,5,aG.enc aG.zero,[[.int .i64 ((⟨aG.zero.k,(⟨aG.zero.aZ.name,(⟨aG.zero.aZ.aI.mode,aG.zero.aZ.aI.aP⟩:aA)⟩:aD),[]⟩:aG).k),.str (((⟨aG.zero.k,(⟨aG.zero.aZ.name,(⟨aG.zero.aZ.aI.mode,aG.zero.aZ.aI.aP⟩:aA)⟩:aD),[]⟩:aG).aZ).name),.int .i64 ((((⟨aG.zero.k,(⟨aG.zero.aZ.name,(⟨aG.zero.aZ.aI.mode,aG.zero.aZ.aI.aP⟩:aA)⟩:aD),[]⟩:aG).aZ).aI).mode),.int .i64 ((((⟨aG.zero.k,(⟨aG.zero.aZ.name,(⟨aG.zero.aZ.aI.mode,aG.zero.aZ.aI.aP⟩:aA)⟩:aD),[]⟩:aG).aZ).aI).aP),.own 3 0 (((⟨aG.zero.k,(⟨aG.zero.aZ.name,(⟨aG.zero.aZ.aI.mode,aG.zero.aZ.aI.aP⟩:aA)⟩:aD),[]⟩:aG).aV).length)]]⟩),(3,sx ((⟨aG.zero.k,(⟨aG.zero.aZ.name,(⟨aG.zero.aZ.aI.mode,aG.zero.aZ.aI.aP⟩:aA)⟩:aD),[]⟩:aG).aV))],4⟩
def zL1 (a90:(Int→aU→Option (aG×aU))) (a0:Int) (a1:aU):Option (aG×aU) :=
 (if (decide (a1.bH.err=0)&&decide (4 < a0))=true then
  zB5 a90 a0 ({ a1 with bH:={ a1.bH with err:=4 } })
 else
  zB5 a90 a0 a1)
def zE1:Nat→(Int→aU→Option (aG×aU))
 | 0=>fun _ _=>none
 | n+1=>zL1 (zE1 n)
def zn0 (a0:Int) (a1:aU):Option (aG×aU):=zE1 ((6 - a0).toNat+1) a0 a1
theorem zas5 (a90:(Int→aU→Option (aG×aU))) (hrc:∀ (a0:Int) (a1:aU) (r:aG×aU),a90 a0 a1=some r→MFn C 52 [.ptr 0 0 0,.int .i64 a0] [(0,bx a1)] 1 (ga r.1) [(0,bx r.2)] 1) (a0:Int) (a1:aU) (r:aG×aU) (h:zL1 a90 a0 a1=some r):MFn C 52 [.ptr 0 0 0,.int .i64 a0] [(0,bx a1)] 1 (ga r.1) [(0,bx r.2)] 1:=by
 refine zaM3 Tryz.f52 [(5,18)] [ga r.1] fun E hG hN hK=>?_
 unfold zL1 at h
 refine zb2 (zc0 hG ?_)
 refine zb2 (zc0 hG ?_)
 refine g_gh (.ownb 2 4 5 (aG.enc aG.zero)) ?_
 refine zb2 (zb2 (zc0 hG ?_))
 refine zcg3 (zcU4 a0) (fun v=>zB5 a90 a0 v=some r) rfl hG h ?_ (fun _ h=>?_) (fun _ h=>?_)
 · intro j1 h
   unfold zB5 at h
   refine g_st ?_
   refine zb2 (zc0 hG ?_)
   obtain ⟨v1,hv1,h⟩:=zn1 h
   refine zB2 [(0,0)] [] [0] ((zx1 j1).ok _ hv1) rfl rfl ?_
   refine zb2 (zb2 (zc0 hG ?_))
   refine zs2 rfl hG h (fun _ h=>?_) (fun _ h=>?_)
   · refine zb2 (zc0 hG ?_)
     refine g_gh (.fz [3]) ?_
     refine zy1 ?_
     exact zZ9 [(0,0)] h
   refine zr8 ?_
   refine zb2 (zb2 (zc0 hG ?_))
   refine zs2 rfl hG h (fun _ h=>?_) (fun _ h=>?_)
   · refine zb2 (zc0 hG ?_)
     obtain ⟨v2,hv2,h⟩:=zn1 h
     refine zB2 [(0,0)] [] [0] ((zY6 v1.2).ok _ hv2) rfl rfl ?_
     refine zb2 (zc0 hG ?_)
     obtain ⟨v3,hv3,h⟩:=zn1 h
     refine zB2 [(0,0)] [] [0] ((zan4 v2.2).ok _ hv3) rfl rfl ?_
     refine zb2 (zc0 hG ?_)
     refine g_gh (.fz [3]) ?_
     refine zy1 ?_
     exact zZ9 [(0,0)] h
   refine zr8 ?_
   refine zb2 (zb2 (zc0 hG ?_))
   obtain ⟨v4,hv4,h⟩:=zn1 h
   refine zB2 [(0,0)] [] [0] ((zC5 24 v1.2).ok _ hv4) rfl rfl ?_
   refine zO1 zcU2 (fun v=>zJ6 v=some r) ?_ ?_
   · intro j2 h
     unfold zJ6 at h
     refine g_st ?_
     refine zb2 (zc0 hG ?_)
     refine g_gh (.fz [3]) ?_
     refine zy1 ?_
     exact zZ9 [(0,0)] h
   refine zam9 (zcU3 a0) hK [(0,0),(1,1),(2,2),(3,3)] h (fun x_l1 h g1 y_l1 h_l1 hx_l1=>?_)
   unfold zV5 at h_l1
   refine g_st ?_
   refine zb2 (zb2 (zc0 hG ?_))
   refine zs2 rfl hG h_l1 (fun _ h_l1=>?_) (fun _ h_l1=>?_)
   · refine zr8 ?_
     refine zb2 (zK3 (zbI4 zab9 hG ?_))
     obtain ⟨v5,hv5,h_l1⟩:=zn1 h_l1
     obtain ⟨hb1,h_l1⟩:=zm3 h_l1
     refine zbQ5 [(0,0)] [] [0] (hrc (i64.wrap (a0+1)) g1.2.1 _ hv5) rfl rfl ?_
     refine zc0 hG ?_
     exact zX8 hK [(0,0),(1,1),(2,2),(3,4)] h_l1
   refine zO2 ?_
   cases h_l1
   cases hx_l1 _ rfl
   exact zS5 hK [(0,0),(1,1),(2,2),(3,3)] (g1.2.1,g1.2.2) (by exact h)
 · refine zc0 hG ?_
   exact zS5 hK [(0,0),(1,1),(2,2),(3,3)] ({ a1 with bH:={ a1.bH with err:=4 } }) (by exact h)
 refine zr8 ?_
 exact zS5 hK [(0,0),(1,1),(2,2),(3,3)] a1 (by exact h)
theorem zX1:∀ (n:Nat) (a0:Int) (a1:aU) (r:aG×aU),zE1 n a0 a1=some r→MFn C 52 [.ptr 0 0 0,.int .i64 a0] [(0,bx a1)] 1 (ga r.1) [(0,bx r.2)] 1
 | 0,_,_,_,h=>nomatch h
 | n+1,a0,a1,r,h=>zas5 (zE1 n) (zX1 n) a0 a1 r h
instance zbk5 (a0:Int) (a1:aU):OkM (zn0 a0 a1) 52 [.ptr 0 0 0,.int .i64 a0] [(0,bx a1)] 1 (fun r=>ga r.1) (fun r=>[(0,bx r.2)]) 1:=⟨fun r h=>zX1 _ a0 a1 r h⟩
attribute [local irreducible] zn0
def zaA4 (j1:(List aD)):Option (List aD) :=
 some j1
def zZ0 (a0:List aF) (a1:aH) (g1:Int×(List aD)):Option ((Int×(List aD))⊕(List aD)) :=
 (if (decide (g1.1 < (a0.length:Int)))=true then
  gd (0≤g1.1∧g1.1 < (a0.length:Int)) <|
  (zn8 (a0.getD g1.1.toNat aF.zero) a1).bind fun v1 =>
  (if v1.2=true then
   gd (g1.2.length+1≤4294967296) <|
   some (.inl ((i64.wrap (g1.1+1)),(g1.2++[(⟨((a0.getD g1.1.toNat aF.zero).aB).name,v1.1⟩:aD)])))
  else
   some (.inl ((i64.wrap (g1.1+1)),g1.2)))
 else
  some (.inr g1.2))
def zt2 (a0:List aF) (a1:aH):Option (List aD) :=
 (zc6 (zZ0 a0 a1) (0,[])).bind (fun z=>zaA4 z)
@[reducible,instance] def zdu2 a0 a1:=mkJ (zt2 a0 a1) 0 (@zaA4.eq_1) fun (j1:(List aD))=>⟨[(5,.own 0 0 j1.length)],[(0,sx j1)],1⟩
@[reducible,instance] def zdu3 (a0:List aF) (a1:aH) {T:Type} (x:T):=mkL x (@zZ0.eq_1 a0 a1) fun (g1:Int×(List aD))=>⟨[(3,.ptr 0 0 0),(5,.own 1 0 g1.2.length),(10,la a0),(11,.int .i64 (a0.length:Int)),(12,.int .i64 g1.1)],[(0,bx a1),(1,sx g1.2)],2⟩
instance zct0 (a0:List aF) (a1:aH):OkP (zt2 a0 a1) 174 [la a0,ga a1] (fun r=>la r):=ok1 (zt2.eq_1 a0 a1) Tryz.f174 [(5,1)]
attribute [local irreducible] zt2
def zt1 (a0:List aO) (a1:aH):Option Int :=
 (zb6 a0 a1).bind fun v1 =>
 some v1.1
instance zcn1 (a0:List aO) (a1:aH):OkP (zt1 a0 a1) 63 [la a0,ga a1] (fun r=>.int .i64 r):=ok1 (zt1.eq_1 a0 a1) Tryz.f63 []
attribute [local irreducible] zt1
def zz5 (a0:aF):Option (List aH) :=
 (ze7 a0.bA).bind fun v1 =>
 (zp6 a0).bind fun v2 =>
 gd (v1.length+v2.length≤4294967296) <|
 (zm4 (v1++v2)).bind fun v3 =>
 some v3
instance zcA8 (a0:aF):OkP (zz5 a0) 102 [ga a0] (fun r=>la r):=ok1 (zz5.eq_1 a0) Tryz.f102 []
attribute [local irreducible] zz5
def zp4 (a0:aY) (a1:aO):Option Bool :=
 ((if (zs8 a1.aQ&&decide (a1.since=0))=true then zt2 a0.aM a1.aN else some [])).bind fun v1 =>
 ((if ((zs8 a1.aQ&&decide (a1.since=0))&&decide ((v1.length:Int)=0))=true then zi3 a0.aM a1.aN else some [])).bind fun v2 =>
 ((if ((zs8 a1.aQ&&decide (a1.since=0))&&decide ((v1.length:Int)=0))=true then zj8 a1.bD else some [])).bind fun v3 =>
 ((if ((zs8 a1.aQ&&decide (a1.since=0))&&decide ((v1.length:Int)=0))=true then za6 v2 v3 else some false)).bind fun v4 =>
 some (((zs8 a1.aQ&&decide (a1.since=0))&&decide ((v1.length:Int)=0))&&v4)
instance zbE4 (a0:aY) (a1:aO):OkP (zp4 a0 a1) 111 [ga a0,ga a1] (fun r=>.bool r):=ok1 (zp4.eq_1 a0 a1) Tryz.f111 []
attribute [local irreducible] zp4
def zaE4 (j2:Unit):Option Bool :=
 some true
def zad0 (a0:aF) (g1:Int):Option (Int⊕(Unit⊕Bool)) :=
 (if (decide (g1 < (a0.aS.length:Int)))=true then
  gd (0≤g1∧g1 < (a0.aS.length:Int)) <|
  gd (zs6 a0.aB ((a0.aS.getD g1.toNat aR.zero).aI)=true→0≤g1∧g1 < (a0.aS.length:Int)) <|
  ((if (zs6 a0.aB ((a0.aS.getD g1.toNat aR.zero).aI))=true then zl5 a0.bA ((a0.aS.getD g1.toNat aR.zero).aN) else some aA.zero)).bind fun v4 =>
  (if ((!(zs6 a0.aB ((a0.aS.getD g1.toNat aR.zero).aI)))||(!(zq2 v4)))=true then
   some (.inr (.inr false))
  else
   some (.inl (i64.wrap (g1+1))))
 else
  some (.inr (.inl ())))
def zad1 (a0:aF) (j1:Unit):Option Bool :=
 (zc6 (zad0 a0) 0).bind (fun|.inl z=>zaE4 z|.inr z=>some z)
def zN7 (a0:aF) (g2:Int):Option (Int⊕(Unit⊕Bool)) :=
 (if (decide (g2 < (a0.aL.length:Int)))=true then
  gd (0≤g2∧g2 < (a0.aL.length:Int)) <|
  (zl5 a0.bA ((a0.aL.getD g2.toNat aR.zero).aN)).bind fun v5 =>
  ((if (!(((((zq2 v5||(!(zs6 a0.aB ((a0.aL.getD g2.toNat aR.zero).aI))))||(!(zu5 a0.aB ((a0.aL.getD g2.toNat aR.zero).aI) v5)))||decide ((a0.aL.getD g2.toNat aR.zero).aI=v5))||(!decide ((a0.aL.getD g2.toNat aR.zero).aW=0)))||(!decide ((a0.aL.getD g2.toNat aR.zero).bO=0))))=true then zi1 a0.aL ((a0.aL.getD g2.toNat aR.zero).aN) else some 0)).bind fun v6 =>
  (if ((((((zq2 v5||(!(zs6 a0.aB ((a0.aL.getD g2.toNat aR.zero).aI))))||(!(zu5 a0.aB ((a0.aL.getD g2.toNat aR.zero).aI) v5)))||decide ((a0.aL.getD g2.toNat aR.zero).aI=v5))||(!decide ((a0.aL.getD g2.toNat aR.zero).aW=0)))||(!decide ((a0.aL.getD g2.toNat aR.zero).bO=0)))||(!decide (v6=g2)))=true then
   some (.inr (.inr false))
  else
   some (.inl (i64.wrap (g2+1))))
 else
  some (.inr (.inl ())))
def zw7 (a0:aF):Option Bool :=
 (zg6 a0.aB).bind fun v1 =>
 ((if v1=true then zr6 a0.aB a0.bA else some false)).bind fun v2 =>
 ((if (!(((!v1)||(!v2))||decide (8 < (a0.aL.length:Int))))=true then zp7 a0.aS else some false)).bind fun v3 =>
 (if (((((((!v1)||(!v2))||decide (8 < (a0.aL.length:Int)))||(!v3))||decide (8 < i64.wrap ((a0.bA.length:Int)+(a0.aS.length:Int))))||decide (a0.gen < 0))||decide (1073741824 < a0.gen))=true then
  some false
 else
  (zc6 (zN7 a0) 0).bind (fun|.inl z=>zad1 a0 z|.inr z=>some z))
@[reducible,instance] def zdu4 a0 j1:=mkJ (zad1 a0 j1) 2 (@zaE4.eq_1) fun (j2:Unit)=>⟨[],[],0⟩
@[reducible,instance] def zdu5 (a0:aF) {T:Type} (x:T):=mkL x (@zad0.eq_1 a0) fun (g1:Int)=>⟨[(1,.ptr 0 0 0),(3,.ptr 1 0 0),(7,.int .i64 g1)],[(0,bx a0),(1,bx a0.aB)],2⟩
@[reducible,instance] def zdu6 (a0:aF) {T1:Type} (v1:T1) {T2:Type} (v2:T2) {T3:Type} (v3:T3):=mkJ (((zw7 a0,v1),v2),v3) 0 (@zad1.eq_1 a0) fun (j1:Unit)=>⟨[(1,.ptr 0 0 0),(3,.ptr 1 0 0)],[(0,bx a0),(1,bx a0.aB)],2⟩
@[reducible,instance] def zdu7 (a0:aF) {T:Type} (x:T):=mkL x (@zN7.eq_1 a0) fun (g2:Int)=>⟨[(1,.ptr 0 0 0),(3,.ptr 1 0 0),(4,.int .i64 g2)],[(0,bx a0),(1,bx a0.aB)],2⟩
instance zcA9 (a0:aF):OkP (zw7 a0) 238 [ga a0] (fun r=>.bool r):=ok1 (zw7.eq_1 a0) Tryz.f238 []
attribute [local irreducible] zw7
def zw2 (a0:List aC) (a1:aD):Option Int :=
 (zt0 a0).bind fun v1 =>
 (if (!v1)=true then
  some 2
 else
  (zk5 a0 a1.name).bind fun v2 =>
  (if (!v2.2)=true then
   some 10
  else
   (if (!(zs6 v2.1 a1.aI))=true then
    some 12
   else
    some 0)))
instance zcn2 (a0:List aC) (a1:aD):OkP (zw2 a0 a1) 189 [la a0,ga a1] (fun r=>.int .i64 r):=ok1 (zw2.eq_1 a0 a1) Tryz.f189 []
attribute [local irreducible] zw2
def zy0 (a0:aK) (a1:aH):Option (bK×Bool) :=
 (zr0 a0.bF a1).bind fun v1 =>
 (if (decide (0≤v1))=true then
  gd (0≤v1∧v1 < (a0.bF.length:Int)) <|
  (zd3 (a0.bF.getD v1.toNat bK.zero)).bind fun v2 =>
  some (v2,true)
 else
  some ({ bK.zero with  },false))
instance zba1 (a0:aK) (a1:aH):OkP (zy0 a0 a1) 12 [ga a0,ga a1] (fun r=>.tup [ga r.1,.bool r.2]):=⟨fun r h=>by
 refine zae3 Tryz.f12 [] fun E hG hN hK=>?_
 have hm:Mk (zy0 a0 a1):=trivial
 unfold zy0 at h
 refine zb2 (zc0 hG ?_)
 refine zb2 (zb2 (zc0 hG ?_))
 obtain ⟨v1,hv1,h⟩:=zn1 h
 have hm:=mkP hm v1
 refine zA8 (fun hg=>(zaW0 a0.bF a1).ok _ hv1) ?_
 refine zb2 (zc0 hG ?_)
 refine zs2 rfl hG h (fun _ h=>?_) (fun _ h=>?_)
 · refine zb2 ?_
   obtain ⟨hb1,h⟩:=zm3 h
   refine zc0 hG ?_
   obtain ⟨v2,hv2,h⟩:=zn1 h
   have hm:=mkP hm v2
   refine zA8 (fun hg=>(zaG5 (a0.bF.getD v1.toNat bK.zero)).ok _ hv2) ?_
   refine zy1 ?_
   exact zV4 h (by intro e; subst e; simp [aH.enc,aD.enc,aA.enc])
 refine zr8 ?_
 refine zb2 (zc0 hG ?_)
 refine zy1 ?_
 exact zV4 h (by intro e; subst e; simp [aH.enc,aD.enc,aA.enc])⟩
attribute [local irreducible] zy0
def zx5 (a0:bG):Option Bool :=
 (zi9 a0.bL).bind fun v1 =>
 some ((((v1&&decide (0≤a0.aW))&&decide (a0.aW≤7))&&decide (0≤a0.limit))&&decide (a0.limit≤1000))
instance zcn3 (a0:bG):OkP (zx5 a0) 167 [ga a0] (fun r=>.bool r):=ok1 (zx5.eq_1 a0) Tryz.f167 []
attribute [local irreducible] zx5
def zE9 (a0:aC) (a1:List aT) (a2:aH) (a3:aA):Option Bool :=
 (zr6 a0 a1).bind fun v1 =>
 ((if ((v1&&zq7 a2)&&zs6 a0 a3)=true then zr4 a1 a2 a3 else some [])).bind fun v2 =>
 ((if ((v1&&zq7 a2)&&zs6 a0 a3)=true then zr6 a0 v2 else some false)).bind fun v3 =>
 some (((v1&&zq7 a2)&&zs6 a0 a3)&&v3)
instance zcJ0 (a0:aC) (a1:List aT) (a2:aH) (a3:aA):OkP (zE9 a0 a1 a2 a3) 288 [ga a0,la a1,ga a2,ga a3] (fun r=>.bool r):=ok1 (zE9.eq_1 a0 a1 a2 a3) Tryz.f288 []
attribute [local irreducible] zE9
def zF8 (a0:aF):Option Bool :=
 (zw7 a0).bind fun v1 =>
 (if (!v1)=true then
  some false
 else
  (zl2 a0).bind fun v2 =>
  ((if v2.2=true then zE9 a0.aB a0.bA v2.1.aN v2.1.aI else some false)).bind fun v3 =>
  some ((!v2.2)||(!v3)))
instance zcn4 (a0:aF):OkP (zF8 a0) 239 [ga a0] (fun r=>.bool r):=ok1 (zF8.eq_1 a0) Tryz.f239 []
attribute [local irreducible] zF8
def zy7 (a0:aG):Option Bool :=
 (zl4 a0).bind fun v1 =>
 some v1.2
instance zca5 (a0:aG):OkP (zy7 a0) 188 [ga a0] (fun r=>.bool r):=ok1 (zy7.eq_1 a0) Tryz.f188 []
attribute [local irreducible] zy7
def zz6 (a0:aF):Option Bool :=
 (ze0 a0.aB).bind fun v1 =>
 ((if v1=true then zp0 a0.aB a0.bA else some false)).bind fun v2 =>
 ((if (v1&&v2)=true then zl7 a0 else some false)).bind fun v3 =>
 ((if ((v1&&v2)&&v3)=true then zo1 a0 else some false)).bind fun v4 =>
 some (((((v1&&v2)&&v3)&&v4)&&decide (0≤a0.gen))&&decide (a0.gen≤1073741824))
instance zcB0 (a0:aF):OkP (zz6 a0) 134 [ga a0] (fun r=>.bool r):=ok1 (zz6.eq_1 a0) Tryz.f134 []
attribute [local irreducible] zz6
def zq3 (a0:aG):Option (List aD) :=
 (zi9 a0).bind fun v1 =>
 (if (!v1)=true then
  some []
 else
  (zk7 a0).bind fun v2 =>
  some v2)
instance zcn5 (a0:aG):OkP (zq3 a0) 36 [ga a0] (fun r=>la r):=ok1 (zq3.eq_1 a0) Tryz.f36 []
attribute [local irreducible] zq3
def zaJ7 (v1 v2:aA) (v3:aA×Bool) (j1:Unit):Option Bool :=
 some (decide (v2=v1)&&(!v3.2))
def zaJ8 (v1 v2:aA) (v3:aA×Bool) (v4:aA) (j2:Unit):Option (Int⊕(Unit⊕Bool)) :=
 some (.inr (.inr (decide (v2=v1)&&decide (v3.1=v4))))
def zL2 (a0:aF) (a1:aO) (g2:Int):Option (Int⊕(Unit⊕Bool)) :=
 (if (decide (g2 < (a0.aS.length:Int)))=true then
  gd (0≤g2∧g2 < (a0.aS.length:Int)) <|
  gd (decide ((a0.aS.getD g2.toNat aR.zero).aN=a1.aN)=true→0≤g2∧g2 < (a0.aS.length:Int)) <|
  (if (decide ((a0.aS.getD g2.toNat aR.zero).aN=a1.aN)&&(!decide ((a0.aS.getD g2.toNat aR.zero).aW=a1.aQ.aW)))=true then
   some (.inr (.inr false))
  else
   some (.inl (i64.wrap (g2+1))))
 else
  some (.inr (.inl ())))
def zP9 (a0:aF) (a1:aO) (a2:List aD) (v1 v2:aA) (v3:aA×Bool) (g1:Int):Option (Int⊕(Unit⊕Bool)) :=
 (if (decide (g1 < (a2.length:Int)))=true then
  gd (0≤g1∧g1 < (a2.length:Int)) <|
  (if ((!(((a2.getD g1.toNat aD.zero).name).toList == a0.aB.name.toList))||zu5 a0.aB v1 ((a2.getD g1.toNat aD.zero).aI))=true then
   some (.inl (i64.wrap (g1+1)))
  else
   (zu6 a0.aB v1 ((a2.getD g1.toNat aD.zero).aI)).bind fun v4 =>
   (if (!v3.2)=true then
    some (.inr (.inr (decide (v2=v4))))
   else
    (zc6 (zL2 a0 a1) 0).bind (fun|.inl z=>zaJ8 v1 v2 v3 v4 z|.inr z=>some (.inr (.inr z)))))
 else
  some (.inr (.inl ())))
def zA6 (a0:aF) (a1:aO) (a2:List aD):Option Bool :=
 (zj1 a1.bD.aJ a0.aB.name).bind fun v1 =>
 (zn2 a0 a1.aN).bind fun v2 =>
 (zj0 a0 a1.aN).bind fun v3 =>
 (zc6 (zP9 a0 a1 a2 v1 v2 v3) 0).bind (fun|.inl z=>zaJ7 v1 v2 v3 z|.inr z=>some z)
@[reducible,instance] def zdu8 a0 a1 a2 (v1 v2:aA) (v3:aA×Bool):=mkJ (((zA6 a0 a1 a2,v1),v2),v3) 0 (@zaJ7.eq_1 v1 v2 v3) fun (j1:Unit)=>⟨[(7,.ptr 0 0 0),(8,.ptr 1 0 0),(10,.bool v3.2)],[(0,bx v1),(1,bx v2)],2⟩
@[reducible,instance] def zdu9 a0 a1 a2 (v1 v2:aA) (v3:aA×Bool) g1 (v4:aA):=mkJ (zP9 a0 a1 a2 v1 v2 v3 g1,v4) 2 (@zaJ8.eq_1 v1 v2 v3 v4) fun (j2:Unit)=>⟨[(7,.ptr 0 0 0),(8,.ptr 1 0 0),(9,.ptr 2 0 0),(13,.ptr 3 0 0)],[(0,bx v1),(1,bx v2),(2,bx v3.1),(3,bx v4)],4⟩
@[reducible,instance] def zdv0 (a0:aF) (a1:aO) a2 (v1 v2:aA) (v3:aA×Bool) g1 (v4:aA):=mkL (zP9 a0 a1 a2 v1 v2 v3 g1,v4) (@zL2.eq_1 a0 a1) fun (g2:Int)=>⟨[(3,.ptr 0 0 0),(4,.ptr 1 0 0),(7,.ptr 2 0 0),(8,.ptr 3 0 0),(9,.ptr 4 0 0),(13,.ptr 5 0 0),(14,.int .i64 g2)],[(0,bx a0),(1,bx a1),(2,bx v1),(3,bx v2),(4,bx v3.1),(5,bx v4)],6⟩
@[reducible,instance] def zdv1 (a0:aF) (a1:aO) (a2:List aD) (v1 v2:aA) (v3:aA×Bool) {T:Type} (x:T):=mkL x (@zP9.eq_1 a0 a1 a2 v1 v2 v3) fun (g1:Int)=>⟨[(2,la a2),(3,.ptr 0 0 0),(4,.ptr 1 0 0),(7,.ptr 2 0 0),(8,.ptr 3 0 0),(9,.ptr 4 0 0),(10,.bool v3.2),(11,.int .i64 g1)],[(0,bx a0),(1,bx a1),(2,bx v1),(3,bx v2),(4,bx v3.1)],5⟩
instance zcJ1 (a0:aF) (a1:aO) (a2:List aD):OkP (zA6 a0 a1 a2) 128 [ga a0,ga a1,la a2] (fun r=>.bool r):=ok1 (zA6.eq_1 a0 a1 a2) Tryz.f128 []
attribute [local irreducible] zA6
def zan8 (j1:(List aH)):Option (List aH) :=
 (zm4 j1).bind fun v1 =>
 some v1
def zU8 (a0:List aF) (g1:Int×(List aH)):Option ((Int×(List aH))⊕(List aH)) :=
 (if (decide (g1.1 < (a0.length:Int)))=true then
  gd (0≤g1.1∧g1.1 < (a0.length:Int)) <|
  (zz5 (a0.getD g1.1.toNat aF.zero)).bind fun v2 =>
  gd (g1.2.length+v2.length≤4294967296) <|
  some (.inl ((i64.wrap (g1.1+1)),(g1.2++v2)))
 else
  some (.inr g1.2))
def zz7 (a0:List aF):Option (List aH) :=
 (zc6 (zU8 a0) (0,[])).bind (fun z=>zan8 z)
@[reducible,instance] def zdv2 a0:=mkJ (zz7 a0) 0 (@zan8.eq_1) fun (j1:(List aH))=>⟨[(3,.own 0 0 j1.length)],[(0,sx j1)],1⟩
@[reducible,instance] def zdv3 (a0:List aF) {T:Type} (x:T):=mkL x (@zU8.eq_1 a0) fun (g1:Int×(List aH))=>⟨[(3,.own 0 0 g1.2.length),(6,la a0),(7,.int .i64 (a0.length:Int)),(8,.int .i64 g1.1)],[(0,sx g1.2)],1⟩
instance zcB1 (a0:List aF):OkP (zz7 a0) 57 [la a0] (fun r=>la r):=ok1 (zz7.eq_1 a0) Tryz.f57 [(3,1)]
attribute [local irreducible] zz7
def zar3 (j1:(List Bool)):Option (List Bool) :=
 some j1
def zQ6 (a0:List aF) (a1:aO) (v1:(List aD)) (g1:Int×(List Bool)):Option ((Int×(List Bool))⊕(List Bool)) :=
 (if (decide (g1.1 < (v1.length:Int)))=true then
  gd (0≤g1.1∧g1.1 < (v1.length:Int)) <|
  (zj6 a0 ((v1.getD g1.1.toNat aD.zero).name)).bind fun v2 =>
  gd (decide (0≤v2)=true→0≤v2∧v2 < (a0.length:Int)) <|
  gd (decide (0≤v2)=true→0≤v2∧v2 < (a0.length:Int)) <|
  ((if (decide (0≤v2))=true then zk6 (a0.getD v2.toNat aF.zero) a1.aN else some aA.zero)).bind fun v3 =>
  ((if (decide (0≤v2))=true then zm8 ((a0.getD v2.toNat aF.zero).aB) v3 ((v1.getD g1.1.toNat aD.zero).aI) else some false)).bind fun v4 =>
  gd (g1.2.length+1≤4294967296) <|
  some (.inl ((i64.wrap (g1.1+1)),(g1.2++[(decide (0≤v2)&&v4)])))
 else
  some (.inr g1.2))
def zw8 (a0:List aF) (a1:aO):Option (List Bool) :=
 (zq3 a1.aQ.bL).bind fun v1 =>
 (zc6 (zQ6 a0 a1 v1) (0,[])).bind (fun z=>zar3 z)
@[reducible,instance] def zdv4 a0 a1 {T1:Type} (v1:T1):=mkJ (zw8 a0 a1,v1) 0 (@zar3.eq_1) fun (j1:(List Bool))=>⟨[(5,.own 0 0 j1.length)],[(0,⟨false,1,[A.bool false],j1.map eB⟩)],1⟩
@[reducible,instance] def zdv5 (a0:List aF) (a1:aO) (v1:(List aD)) {T:Type} (x:T):=mkL x (@zQ6.eq_1 a0 a1 v1) fun (g1:Int×(List Bool))=>⟨[(0,la a0),(3,.ptr 0 0 0),(5,.own 1 0 g1.2.length),(12,la v1),(13,.int .i64 (v1.length:Int)),(14,.int .i64 g1.1)],[(0,bx a1),(1,⟨false,1,[A.bool false],g1.2.map eB⟩)],2⟩
instance zca6 (a0:List aF) (a1:aO):OkP (zw8 a0 a1) 171 [la a0,ga a1] (fun r=>.sl (r.map eB)):=ok1 (zw8.eq_1 a0 a1) Tryz.f171 [(5,1)]
attribute [local irreducible] zw8
def zv0 (a0:aG) (a1:List Bool):Option Bool :=
 (zl4 a0).bind fun v1 =>
 ((if v1.2=true then f_ref08_holds a0 v1.1 a1 else some false)).bind fun v2 =>
 some (v1.2&&v2)
instance zcB2 (a0:aG) (a1:List Bool):OkP (zv0 a0 a1) 16 [ga a0,.sl (a1.map eB)] (fun r=>.bool r):=ok1 (zv0.eq_1 a0 a1) Tryz.f16 []
attribute [local irreducible] zv0
end
end Ab
end Go.Proofs.YtenebhlnfjcffaaGreatDoor
