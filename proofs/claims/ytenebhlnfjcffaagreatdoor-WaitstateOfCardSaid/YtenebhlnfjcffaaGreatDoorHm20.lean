import Derived.Test.YtenebhlnfjcffaaGreatDoorHm9
import Derived.Test.YtenebhlnfjcffaaGreatDoorHm16
namespace Go.Proofs.YtenebhlnfjcffaaGreatDoor
namespace Ab
open IntKind (i64 u64 u8)
set_option linter.unusedSimpArgs false
set_option linter.defProp false
set_option linter.unusedVariables false
set_option maxRecDepth 100000
set_option maxHeartbeats 1000000
noncomputable section
attribute [local irreducible] zl1 ze7 zb3 za2 zd2 zj6 zb4 za8 zl5 zg4 zi6 zi7 zk5 zh8 ze1 za5 za9 zf7 zj1 zh5 zj7 zf2 ze3 zp5 zk3 zf6 zf0 zd1 zd7 zc3 za6 zi1 zf8 zl9 zf9 f_ref08_holds ze5 zg0 zl0 zf3 zg5 zf1 zb0 za0 zh0 zl2 zk4 ze4 zb5 zd3 ze6 zg8 zn2 zm1 zd8 zg1 zk6 zj5 zh7 zl3 zd0 zh1 zp9 zc8 zi0 zc5 zi4 zo6 za7 ze2 za4 zj0 zc2 za1 zf4 zi5 ze8 zn7 zo4 zq9 zg7 zh3 zf5 zm9 zt4 ze0 zg9 zc7 zd9 zb7 zr4 zh6 zj3 zp3 zo0 zb9 zm6 zk9 zi3 zg2 zj4 zi8 zh2 zh4 zm7 zr9 zh9 zm8 zq8 za3 zj8 zn9 zg6 zq4 zm0 zp6 zk7 zn8 f_formula_holds zj2 zc1 zi2 zo8 zq5 zb6 zp7 zp8 zj9 ze9 zd6 zc4 zo9 zr7
def zal8 (j1:Unit):Option Bool :=
 some true
def zy5 (a0:aF) (g1:Int):Option (Int⊕(Unit⊕Bool)) :=
 (if (decide (g1 < (a0.aS.length:Int)))=true then
  gd (0≤g1∧g1 < (a0.aS.length:Int)) <|
  ((if (zb8 a0.aB ((a0.aS.getD g1.toNat aR.zero).aI))=true then zk6 a0 ((a0.aS.getD g1.toNat aR.zero).aN) else some aA.zero)).bind fun v2 =>
  (if ((!(zb8 a0.aB ((a0.aS.getD g1.toNat aR.zero).aI)))||(!(zk2 v2)))=true then
   some (.inr (.inr false))
  else
   some (.inl (i64.wrap (g1+1))))
 else
  some (.inr (.inl ())))
def zo1 (a0:aF):Option Bool :=
 (zq8 a0.aS).bind fun v1 =>
 (if ((!v1)||decide (8 < i64.wrap ((a0.bA.length:Int)+(a0.aS.length:Int))))=true then
  some false
 else
  (zc6 (zy5 a0) 0).bind (fun|.inl z=>zal8 z|.inr z=>some z))
@[reducible,instance] def zdC3 a0 {T1:Type} (v1:T1):=mkJ (zo1 a0,v1) 0 (@zal8.eq_1) fun (j1:Unit)=>⟨[],[],0⟩
@[reducible,instance] def zdC4 (a0:aF) {T:Type} (x:T):=mkL x (@zy5.eq_1 a0) fun (g1:Int)=>⟨[(1,.ptr 0 0 0),(20,la a0.aS),(21,.int .i64 (a0.aS.length:Int)),(22,.int .i64 g1)],[(0,bx a0)],1⟩
instance zbW8 (a0:aF):OkP (zo1 a0) 206 [ga a0] (fun r=>.bool r):=ok1 (zo1.eq_1 a0) Tryz.f206 []
attribute [local irreducible] zo1
def zr0 (a0:List bK) (a1:aH):Option Int :=
 (zc4 a0 a1).bind fun v1 =>
 some v1.1
instance zaW0 (a0:List bK) (a1:aH):OkP (zr0 a0 a1) 35 [la a0,ga a1] (fun r=>.int .i64 r):=ok1 (zr0.eq_1 a0 a1) Tryz.f35 []
attribute [local irreducible] zr0
def zah4 (j1:Unit):Option Bool :=
 some true
def zw5 (a1:aO) (v4:Int×aF) (g1:Int):Option (Int⊕(Unit⊕Bool)) :=
 (if (decide (g1 < (v4.2.aS.length:Int)))=true then
  gd (0≤g1∧g1 < (v4.2.aS.length:Int)) <|
  (zc8 ((v4.2.aS.getD g1.toNat aR.zero).aN) a1.aN).bind fun v7 =>
  (if (decide (v7=0)&&(!decide ((v4.2.aS.getD g1.toNat aR.zero).aW=a1.aQ.aW)))=true then
   some (.inr (.inr false))
  else
   some (.inl (i64.wrap (g1+1))))
 else
  some (.inr (.inl ())))
def zl6 (a0:aF) (a1:aO) (a2:List aD):Option Bool :=
 (zl3 a1.bD a0.aB.name).bind fun v1 =>
 (zk6 a0 a1.aN).bind fun v2 =>
 (zn8 a0 a1.aN).bind fun v3 =>
 (za4 a2 a0).bind fun v4 =>
 gd ((!(decide (v4.1 < 0)))=true→0≤v4.1∧v4.1 < (a2.length:Int)) <|
 ((if (!(decide (v4.1 < 0)))=true then zm8 v4.2.aB v1 ((a2.getD v4.1.toNat aD.zero).aI) else some false)).bind fun v5 =>
 (if (decide (v4.1 < 0)||v5)=true then
  some (decide (v2=v1)&&(!v3.2))
 else
  gd (0≤v4.1∧v4.1 < (a2.length:Int)) <|
  (zq5 v4.2.aB v1 ((a2.getD v4.1.toNat aD.zero).aI)).bind fun v6 =>
  (if (!v3.2)=true then
   some (decide (v2=v6))
  else
   (if ((!decide (v2=v1))||(!decide (v3.1=v6)))=true then
    some false
   else
    (zc6 (zw5 a1 v4) 0).bind (fun|.inl z=>zah4 z|.inr z=>some z))))
@[reducible,instance] def zds2 a0 a1 a2 {T1:Type} (v1:T1) {T2:Type} (v2:T2) {T3:Type} (v3:T3) {T4:Type} (v4:T4) {T5:Type} (v5:T5) {T6:Type} (v6:T6):=mkJ ((((((zl6 a0 a1 a2,v1),v2),v3),v4),v5),v6) 0 (@zah4.eq_1) fun (j1:Unit)=>⟨[],[],0⟩
@[reducible,instance] def zds3 (a1:aO) (v4:Int×aF) {T:Type} (x:T):=mkL x (@zw5.eq_1 a1 v4) fun (g1:Int)=>⟨[(4,.ptr 0 0 0),(78,la v4.2.aS),(79,.int .i64 (v4.2.aS.length:Int)),(80,.int .i64 g1)],[(0,bx a1)],1⟩
instance zbM9 (a0:aF) (a1:aO) (a2:List aD):OkP (zl6 a0 a1 a2) 172 [ga a0,ga a1,la a2] (fun r=>.bool r):=ok1 (zl6.eq_1 a0 a1 a2) Tryz.f172 []
attribute [local irreducible] zl6
def zan5 (j1:(List aH)):Option (List aH) :=
 (zh6 j1).bind fun v1 =>
 some v1
def zT9 (a0:List aF) (g1:Int×(List aH)):Option ((Int×(List aH))⊕(List aH)) :=
 (if (decide (g1.1 < (a0.length:Int)))=true then
  gd (0≤g1.1∧g1.1 < (a0.length:Int)) <|
  (zq4 (a0.getD g1.1.toNat aF.zero)).bind fun v2 =>
  gd (g1.2.length+v2.length≤4294967296) <|
  some (.inl ((i64.wrap (g1.1+1)),(g1.2++v2)))
 else
  some (.inr g1.2))
def zs9 (a0:List aF):Option (List aH) :=
 (zc6 (zT9 a0) (0,[])).bind (fun z=>zan5 z)
@[reducible,instance] def zds4 a0:=mkJ (zs9 a0) 0 (@zan5.eq_1) fun (j1:(List aH))=>⟨[(3,.own 0 0 j1.length)],[(0,sx j1)],1⟩
@[reducible,instance] def zds5 (a0:List aF) {T:Type} (x:T):=mkL x (@zT9.eq_1 a0) fun (g1:Int×(List aH))=>⟨[(0,la a0),(3,.own 0 0 g1.2.length),(4,.int .i64 g1.1)],[(0,sx g1.2)],1⟩
instance zcA1 (a0:List aF):OkP (zs9 a0) 68 [la a0] (fun r=>la r):=ok1 (zs9.eq_1 a0) Tryz.f68 [(3,1)]
attribute [local irreducible] zs9
def zU0 (a0:aG) (j1:Unit):Option (Nat⊕((List aD)×Bool)) :=
 gd (1≤4294967296) <|
 some (.inr ([a0.aZ],true))
@[go_sem] def zcA2 (a0:aG) (j1:Unit):St:=⟨[(0,.own 0 0 0),(3,.ptr 1 0 0)],[(0,⟨false,3,aD.enc aD.zero,[].map aD.enc⟩),(1,bx a0)],2⟩
def zac8 (a0:aG) (g1:Int):Option (Int⊕(Unit⊕(Nat⊕((List aD)×Bool)))) :=
 (if (decide (g1 < 0))=true then
  gd (0≤g1∧g1 < (0:Int)) <|
  (if (decide (([].getD g1.toNat aD.zero)=a0.aZ))=true then
   some (.inr (.inr (.inr ([],true))))
  else
   some (.inl (i64.wrap (g1+1))))
 else
  some (.inr (.inl ())))
@[go_sem] def zcA3 (a0:aG) (g1:Int):St:=⟨[(0,.own 0 0 0),(3,.ptr 1 0 0),(6,.int .i64 g1)],[(0,⟨false,3,aD.enc aD.zero,[].map aD.enc⟩),(1,bx a0)],2⟩
def zU1 (j2:(List aD)):Option (Nat⊕((List aD)×Bool)) :=
 some (.inr (j2,true))
@[go_sem] def zcA4  (j2:(List aD)):St:=⟨[(0,.own 0 0 j2.length)],[(0,sx j2)],1⟩
def zN5 (a0:aG) (g2:Int×(List aD)):Option ((Int×(List aD))⊕((List aD)⊕(Nat⊕((List aD)×Bool)))) :=
 (if (decide (g2.1 < (a0.aV.length:Int)))=true then
  gd (0≤g2.1∧g2.1 < (a0.aV.length:Int)) <|
  (zo9 (a0.aV.getD g2.1.toNat aG.zero) g2.2).bind fun v2=>match v2 with
  | .inl v2 =>
   some (.inr (.inr (.inl g2.2.length)))
  | .inr v2 =>
   (if (!v2.1)=true then
    some (.inr (.inr (.inl g2.2.length)))
   else
    some (.inl ((i64.wrap (g2.1+1)),v2.2)))
 else
  some (.inr (.inl g2.2)))
@[go_sem] def zcA5 (a0:aG) (g2:Int×(List aD)):St:=⟨[(0,.own 0 0 g2.2.length),(3,.ptr 1 0 0),(7,.int .i64 g2.1)],[(0,sx g2.2),(1,bx a0)],2⟩
def zF7 (a90:(aG→Option (Nat⊕((List aD)×Bool)))) (a0:aG):Option (Nat⊕((List aD)×Bool)) :=
 (if (decide ((a0.aV.length:Int)=0))=true then
  ((if (decide (a0.k=0))=true then zg2 a0.aZ.name else some false)).bind fun v1 =>
  (if (((!decide (a0.k=0))||(!v1))||(!(zq0 a0.aZ.aI)))=true then
   some (.inr ([],false))
  else
   (zc6 (zac8 a0) 0).bind (fun|.inl z=>zU0 a0 z|.inr z=>some z))
 else
  (if ((decide (a0.k < 1)||decide ((a0.aV.length:Int) < a0.k))||(!decide (a0.aZ={ aD.zero with  })))=true then
   some (.inr ([],false))
  else
   (zc6 (zN5 a0) (0,[])).bind (fun|.inl z=>zU1 z|.inr z=>some z)))
def zU2:Nat→(aG→Option (Nat⊕((List aD)×Bool)))
 | 0=>fun _=>none
 | n+1=>zF7 (zU2 n)
def zt6 (a0:aG):Option (Nat⊕((List aD)×Bool)):=zU2 (_root_.SizeOf.sizeOf a0+1) a0
theorem zbd4 (a90:(aG→Option (Nat⊕((List aD)×Bool)))) (hrc0:∀ (a0:aG) (r:Nat),a90 a0=some (.inl r)→MFn C 92 [.full ([].map aD.enc),ga a0] [] 0 (.tup [.own 0 0 r,.bool false]) [] 1) (hrc1:∀ (a0:aG) (r:(List aD)×Bool),a90 a0=some (.inr r)→MFn C 92 [.full ([].map aD.enc),ga a0] [] 0 (.tup [la r.1,.bool r.2]) [] 0) (a0:aG) (r:Nat) (h:zF7 a90 a0=some (.inl r)):MFn C 92 [.full ([].map aD.enc),ga a0] [] 0 (.tup [.own 0 0 r,.bool false]) [] 1:=by
 refine zaM3 Tryz.f92 [] [.own 0 0 r,.bool false] fun E hG hN hK=>?_
 unfold zF7 at h
 refine g_gh (.own0 0 3 (aD.enc aD.zero)) ?_
 refine zb2 (zc0 hG ?_)
 refine zb2 (zb2 (zc0 hG ?_))
 refine zs2 rfl hG h (fun _ h=>?_) (fun _ h=>?_)
 · refine zb2 (zb2 (zc0 hG ?_))
   obtain ⟨v1,hv1,h⟩:=zn1 h
   refine zA8 (fun hg=>(zaw3 a0.aZ.name).ok _ (zaD1 hg hv1)) ?_
   refine zA8 (fun hg=>(zaJ2 a0.aZ.aI).ok) ?_
   refine zs2 rfl hG h (fun _ h=>?_) (fun _ h=>?_)
   · refine zb2 (zc0 hG ?_)
     refine g_gh (.fz [0]) ?_
     refine zy1 ?_
     exact nomatch h
   refine zr8 ?_
   refine zb2 (zb2 (zc0 hG ?_))
   refine zO1 (zcA2 a0) (fun v=>zU0 a0 v=some (.inl r)) ?_ ?_
   · intro j1 h
     unfold zU0 at h
     refine g_st ?_
     refine zb2 ?_
     obtain ⟨hb1,h⟩:=zm3 h
     refine zc0 hG ?_
     refine g_gh (.fz [2]) ?_
     refine zy1 ?_
     exact nomatch h
   refine zam9 (zcA3 a0) hK [(0,0),(1,1)] h (fun x_l1 h g1 y_l1 h_l1 hx_l1=>?_)
   unfold zac8 at h_l1
   refine g_st ?_
   refine zb2 (zb2 (zc0 hG ?_))
   refine zs2 rfl hG h_l1 (fun _ h_l1=>?_) (fun _ h_l1=>?_)
   · refine zr8 ?_
     refine zb2 (zK3 (zb2 ?_))
     obtain ⟨hb2,h_l1⟩:=zm3 h_l1
     refine zbr6 zab9 hG ?_
     refine zs2 rfl hG h_l1 (fun _ h_l1=>?_) (fun _ h_l1=>?_)
     · refine zb2 (zc0 hG ?_)
       refine g_gh (.fz [0]) ?_
       refine zy1 ?_
       cases h_l1
       cases hx_l1 _ rfl
       exact nomatch h
     refine zr8 ?_
     refine zc0 hG ?_
     exact zX8 hK [(0,0),(1,1)] h_l1
   refine zO2 ?_
   cases h_l1
   cases hx_l1 _ rfl
   exact zS5 hK [(0,0),(1,1)] () (by exact h)
 refine zr8 ?_
 refine zb2 (zb2 (zc0 hG ?_))
 refine zs2 rfl hG h (fun _ h=>?_) (fun _ h=>?_)
 · refine zb2 (zc0 hG ?_)
   refine g_gh (.fz [0]) ?_
   refine zy1 ?_
   exact nomatch h
 refine zr8 ?_
 refine zb2 (zb2 (zc0 hG ?_))
 refine zO1 zcA4 (fun v=>zU1 v=some (.inl r)) ?_ ?_
 · intro j2 h
   unfold zU1 at h
   refine g_st ?_
   refine zb2 (zc0 hG ?_)
   refine g_gh (.fz [0]) ?_
   refine zy1 ?_
   exact nomatch h
 refine zam9 (zcA5 a0) hK [(0,0),(1,1)] h (fun x_l2 h g2 y_l2 h_l2 hx_l2=>?_)
 unfold zN5 at h_l2
 refine g_st ?_
 refine zb2 (zb2 (zc0 hG ?_))
 refine zs2 rfl hG h_l2 (fun _ h_l2=>?_) (fun _ h_l2=>?_)
 · refine zr8 ?_
   refine zb2 (zK3 (zb2 ?_))
   obtain ⟨hb3,h_l2⟩:=zm3 h_l2
   refine zc0 hG ?_
   obtain ⟨v2,hv2,h_l2⟩:=zn1 h_l2
   rcases v2 with v2|v2
   · dsimp only at h_l2
     refine zB2 [(0,0)] [(1,2)] [0,1] ((zaA2 (a0.aV.getD g2.1.toNat aG.zero) g2.2).ok _ hv2) rfl rfl ?_
     refine zb2 (zb2 (zc0 hG ?_))
     refine zaG2 rfl hG ?_
     refine zb2 (zc0 hG ?_)
     refine zy1 ?_
     cases h_l2
     cases hx_l2 _ rfl
     exact zZ9 [(0,0)] (zbI5 h)
   dsimp only at h_l2
   refine zB2 [(0,0)] [(1,2)] [0,1] ((zaA3 (a0.aV.getD g2.1.toNat aG.zero) g2.2).ok _ hv2) rfl rfl ?_
   refine zb2 (zb2 (zc0 hG ?_))
   refine zs2 rfl hG h_l2 (fun _ h_l2=>?_) (fun _ h_l2=>?_)
   · refine zb2 (zc0 hG ?_)
     refine zy1 ?_
     cases h_l2
     cases hx_l2 _ rfl
     exact zZ9 [(0,0)] (zbI5 h)
   refine zr8 ?_
   refine zc0 hG ?_
   refine zc0 hG ?_
   exact zX8 hK [(0,2),(1,1)] h_l2
 refine zO2 ?_
 cases h_l2
 cases hx_l2 _ rfl
 exact zS5 hK [(0,0)] g2.2 (by exact h)
theorem zbd5 (a90:(aG→Option (Nat⊕((List aD)×Bool)))) (hrc0:∀ (a0:aG) (r:Nat),a90 a0=some (.inl r)→MFn C 92 [.full ([].map aD.enc),ga a0] [] 0 (.tup [.own 0 0 r,.bool false]) [] 1) (hrc1:∀ (a0:aG) (r:(List aD)×Bool),a90 a0=some (.inr r)→MFn C 92 [.full ([].map aD.enc),ga a0] [] 0 (.tup [la r.1,.bool r.2]) [] 0) (a0:aG) (r:(List aD)×Bool) (h:zF7 a90 a0=some (.inr r)):MFn C 92 [.full ([].map aD.enc),ga a0] [] 0 (.tup [la r.1,.bool r.2]) [] 0:=by
 refine zaM3 Tryz.f92 [] [la r.1,.bool r.2] fun E hG hN hK=>?_
 unfold zF7 at h
 refine g_gh (.own0 0 3 (aD.enc aD.zero)) ?_
 refine zb2 (zc0 hG ?_)
 refine zb2 (zb2 (zc0 hG ?_))
 refine zs2 rfl hG h (fun _ h=>?_) (fun _ h=>?_)
 · refine zb2 (zb2 (zc0 hG ?_))
   obtain ⟨v1,hv1,h⟩:=zn1 h
   refine zA8 (fun hg=>(zaw3 a0.aZ.name).ok _ (zaD1 hg hv1)) ?_
   refine zA8 (fun hg=>(zaJ2 a0.aZ.aI).ok) ?_
   refine zs2 rfl hG h (fun _ h=>?_) (fun _ h=>?_)
   · refine zb2 (zc0 hG ?_)
     refine g_gh (.fz [0]) ?_
     refine zy1 ?_
     exact zZ9 [] (zaQ8 h)
   refine zr8 ?_
   refine zb2 (zb2 (zc0 hG ?_))
   refine zO1 (zcA2 a0) (fun v=>zU0 a0 v=some (.inr r)) ?_ ?_
   · intro j1 h
     unfold zU0 at h
     refine g_st ?_
     refine zb2 ?_
     obtain ⟨hb1,h⟩:=zm3 h
     refine zc0 hG ?_
     refine g_gh (.fz [2]) ?_
     refine zy1 ?_
     exact zZ9 [] (zaQ8 h)
   refine zam9 (zcA3 a0) hK [(0,0),(1,1)] h (fun x_l1 h g1 y_l1 h_l1 hx_l1=>?_)
   unfold zac8 at h_l1
   refine g_st ?_
   refine zb2 (zb2 (zc0 hG ?_))
   refine zs2 rfl hG h_l1 (fun _ h_l1=>?_) (fun _ h_l1=>?_)
   · refine zr8 ?_
     refine zb2 (zK3 (zb2 ?_))
     obtain ⟨hb2,h_l1⟩:=zm3 h_l1
     refine zbr6 zab9 hG ?_
     refine zs2 rfl hG h_l1 (fun _ h_l1=>?_) (fun _ h_l1=>?_)
     · refine zb2 (zc0 hG ?_)
       refine g_gh (.fz [0]) ?_
       refine zy1 ?_
       cases h_l1
       cases hx_l1 _ rfl
       exact zZ9 [] (zaQ8 h)
     refine zr8 ?_
     refine zc0 hG ?_
     exact zX8 hK [(0,0),(1,1)] h_l1
   refine zO2 ?_
   cases h_l1
   cases hx_l1 _ rfl
   exact zS5 hK [(0,0),(1,1)] () (by exact h)
 refine zr8 ?_
 refine zb2 (zb2 (zc0 hG ?_))
 refine zs2 rfl hG h (fun _ h=>?_) (fun _ h=>?_)
 · refine zb2 (zc0 hG ?_)
   refine g_gh (.fz [0]) ?_
   refine zy1 ?_
   exact zZ9 [] (zaQ8 h)
 refine zr8 ?_
 refine zb2 (zb2 (zc0 hG ?_))
 refine zO1 zcA4 (fun v=>zU1 v=some (.inr r)) ?_ ?_
 · intro j2 h
   unfold zU1 at h
   refine g_st ?_
   refine zb2 (zc0 hG ?_)
   refine g_gh (.fz [0]) ?_
   refine zy1 ?_
   exact zZ9 [] (zaQ8 h)
 refine zam9 (zcA5 a0) hK [(0,0),(1,1)] h (fun x_l2 h g2 y_l2 h_l2 hx_l2=>?_)
 unfold zN5 at h_l2
 refine g_st ?_
 refine zb2 (zb2 (zc0 hG ?_))
 refine zs2 rfl hG h_l2 (fun _ h_l2=>?_) (fun _ h_l2=>?_)
 · refine zr8 ?_
   refine zb2 (zK3 (zb2 ?_))
   obtain ⟨hb3,h_l2⟩:=zm3 h_l2
   refine zc0 hG ?_
   obtain ⟨v2,hv2,h_l2⟩:=zn1 h_l2
   rcases v2 with v2|v2
   · dsimp only at h_l2
     refine zB2 [(0,0)] [(1,2)] [0,1] ((zaA2 (a0.aV.getD g2.1.toNat aG.zero) g2.2).ok _ hv2) rfl rfl ?_
     refine zb2 (zb2 (zc0 hG ?_))
     refine zaG2 rfl hG ?_
     refine zb2 (zc0 hG ?_)
     refine zy1 ?_
     cases h_l2
     cases hx_l2 _ rfl
     exact nomatch h
   dsimp only at h_l2
   refine zB2 [(0,0)] [(1,2)] [0,1] ((zaA3 (a0.aV.getD g2.1.toNat aG.zero) g2.2).ok _ hv2) rfl rfl ?_
   refine zb2 (zb2 (zc0 hG ?_))
   refine zs2 rfl hG h_l2 (fun _ h_l2=>?_) (fun _ h_l2=>?_)
   · refine zb2 (zc0 hG ?_)
     refine zy1 ?_
     cases h_l2
     cases hx_l2 _ rfl
     exact nomatch h
   refine zr8 ?_
   refine zc0 hG ?_
   refine zc0 hG ?_
   exact zX8 hK [(0,2),(1,1)] h_l2
 refine zO2 ?_
 cases h_l2
 cases hx_l2 _ rfl
 exact zS5 hK [(0,0)] g2.2 (by exact h)
theorem zP8:∀ (n:Nat),(∀ (a0:aG) (r:Nat),zU2 n a0=some (.inl r)→MFn C 92 [.full ([].map aD.enc),ga a0] [] 0 (.tup [.own 0 0 r,.bool false]) [] 1)∧(∀ (a0:aG) (r:(List aD)×Bool),zU2 n a0=some (.inr r)→MFn C 92 [.full ([].map aD.enc),ga a0] [] 0 (.tup [la r.1,.bool r.2]) [] 0)
 | 0=>⟨(fun _ _ h=>nomatch h),(fun _ _ h=>nomatch h)⟩
 | n+1=>⟨zbd4 (zU2 n) (zP8 n).1 (zP8 n).2,zbd5 (zU2 n) (zP8 n).1 (zP8 n).2⟩
theorem zbd6 (a0:aG) (r:Nat) (h:zt6 a0=some (.inl r)):MFn C 92 [.full ([].map aD.enc),ga a0] [] 0 (.tup [.own 0 0 r,.bool false]) [] 1:=(zP8 _).1 a0 r h
theorem zbd7 (a0:aG) (r:(List aD)×Bool) (h:zt6 a0=some (.inr r)):MFn C 92 [.full ([].map aD.enc),ga a0] [] 0 (.tup [la r.1,.bool r.2]) [] 0:=(zP8 _).2 a0 r h
attribute [local irreducible] zt6
def zag2 (a0:aC) (j1:(List aA)):Option Bool :=
 (zh9 a0 j1).bind fun v1 =>
 some v1
def zO5 (a0:aC) (a1:List aT) (g1:Int×(List aA)):Option ((Int×(List aA))⊕((List aA)⊕Bool)) :=
 (if (decide (g1.1 < (a1.length:Int)))=true then
  gd (0≤g1.1∧g1.1 < (a1.length:Int)) <|
  (if ((!(zc9 ((a1.getD g1.1.toNat aT.zero).aN)))||(!(zb8 a0 ((a1.getD g1.1.toNat aT.zero).aI))))=true then
   some (.inr (.inr false))
  else
   gd (decide (0 < g1.1)=true→0≤i64.wrap (g1.1 - 1)∧i64.wrap (g1.1 - 1) < (a1.length:Int)) <|
   ((if (decide (0 < g1.1))=true then zc8 ((a1.getD ((i64.wrap (g1.1 - 1)).toNat) aT.zero).aN) ((a1.getD g1.1.toNat aT.zero).aN) else some 0)).bind fun v2 =>
   (if (decide (0 < g1.1)&&decide (0≤v2))=true then
    some (.inr (.inr false))
   else
    gd (g1.2.length+1≤4294967296) <|
    some (.inl ((i64.wrap (g1.1+1)),(g1.2++[(a1.getD g1.1.toNat aT.zero).aI])))))
 else
  some (.inr (.inl g1.2)))
def zp0 (a0:aC) (a1:List aT):Option Bool :=
 (if ((!(zk8 a0))||decide (8 < (a1.length:Int)))=true then
  some false
 else
  (zc6 (zO5 a0 a1) (0,[])).bind (fun|.inl z=>zag2 a0 z|.inr z=>some z))
@[reducible,instance] def zdC5 (a0:aC) a1:=mkJ (zp0 a0 a1) 0 (@zag2.eq_1 a0) fun (j1:(List aA))=>⟨[(2,.ptr 0 0 0),(5,.own 1 0 j1.length)],[(0,bx a0),(1,sx j1)],2⟩
@[reducible,instance] def zdC6 (a0:aC) (a1:List aT) {T:Type} (x:T):=mkL x (@zO5.eq_1 a0 a1) fun (g1:Int×(List aA))=>⟨[(1,la a1),(2,.ptr 0 0 0),(5,.own 1 0 g1.2.length),(16,la a1),(17,.int .i64 (a1.length:Int)),(18,.int .i64 g1.1)],[(0,bx a0),(1,sx g1.2)],2⟩
instance zcn0 (a0:aC) (a1:List aT):OkP (zp0 a0 a1) 204 [ga a0,la a1] (fun r=>.bool r):=ok1 (zp0.eq_1 a0 a1) Tryz.f204 [(5,1)]
attribute [local irreducible] zp0
def zm4 (a0:List aH):Option (List aH) :=
 gd (a0.length≤4294967296) <|
 (zc1 a0).bind fun v1 =>
 (za2 v1).bind fun v2 =>
 some v2.1
theorem zaW1 (a0:List aH) (r:(List aH)) (h:zm4 a0=some r):PFn C 58 [la a0] (la r):=by
 refine zae3 Tryz.f58 [] fun E hG hN hK=>?_
 unfold zm4 at h
 refine zb2 (zc0 hG ?_)
 refine zb2 ?_
 obtain ⟨hb1,h⟩:=zm3 h
 refine zc0 hG ?_
 refine zb2 (zc0 hG ?_)
 obtain ⟨v1,hv1,h⟩:=zn1 h
 have hl_v1:=zZ6 a0 _ hv1
 refine zB2 [(0,0)] [] [0] (zZ7 _ _ hv1) rfl rfl ?_
 refine zb2 (zc0 hG ?_)
 obtain ⟨v2,hv2,h⟩:=zn1 h
 refine zB2 [(0,0)] [] [0] ((zaa0 v1).ok _ hv2) rfl rfl ?_
 refine zy1 ?_
 exact zV4 h
instance zbW9 (a0:List aH):OkP (zm4 a0) 58 [la a0] (fun r=>la r):=⟨zaW1 a0⟩
attribute [local irreducible] zm4
def zU3 (j3:aU×aF):Option (aF×aU) :=
 some (j3.2,j3.1)
def zU4 (g1:Int×aU×aF):Option ((Int×aU×aF)⊕(aU×aF)) :=
 (if (decide (0 < g1.1)&&decide (g1.2.1.bH.err=0))=true then
  (ze9 g1.2.1).bind fun v9 =>
  (zd6 v9.2).bind fun v10 =>
  (zb9 v10.2).bind fun v11 =>
  (zb9 v11.2).bind fun v12 =>
  gd (g1.2.2.aS.length+1≤4294967296) <|
  some (.inl ((i64.wrap (g1.1 - 1)),v12.2,(⟨(⟨g1.2.2.aB.name,g1.2.2.aB.kind,g1.2.2.aB.aP,g1.2.2.aB.home⟩:aC),g1.2.2.bA,g1.2.2.aL,(g1.2.2.aS++[{ { { { aR.zero with aN:=v9.1 } with aI:=v10.1 } with aW:=v11.1 } with bO:=v12.1 }]),g1.2.2.gen⟩:aF)))
 else
  some (.inr (g1.2.1,g1.2.2)))
def zH3 (j2:aU×aF):Option (aF×aU) :=
 (zc7 8 j2.1).bind fun v8 =>
 (zc6 zU4 (v8.1,v8.2,j2.2)).bind (fun z=>zU3 z)
def zU5 (g2:Int×aU×aF):Option ((Int×aU×aF)⊕(aU×aF)) :=
 (if (decide (0 < g2.1)&&decide (g2.2.1.bH.err=0))=true then
  (ze9 g2.2.1).bind fun v13 =>
  (zd6 v13.2).bind fun v14 =>
  gd (g2.2.2.aL.length+1≤4294967296) <|
  some (.inl ((i64.wrap (g2.1 - 1)),v14.2,(⟨(⟨g2.2.2.aB.name,g2.2.2.aB.kind,g2.2.2.aB.aP,g2.2.2.aB.home⟩:aC),g2.2.2.bA,(g2.2.2.aL++[{ aR.zero with aN:=v13.1,aI:=v14.1 }]),g2.2.2.aS,g2.2.2.gen⟩:aF)))
 else
  some (.inr (g2.2.1,g2.2.2)))
def zH4 (j1:aU×aF):Option (aF×aU) :=
 (zc7 8 j1.1).bind fun v7 =>
 (zc6 zU5 (v7.1,v7.2,j1.2)).bind (fun z=>zH3 z)
def zU6 (g3:Int×aU×aF):Option ((Int×aU×aF)⊕(aU×aF)) :=
 (if (decide (0 < g3.1)&&decide (g3.2.1.bH.err=0))=true then
  (ze9 g3.2.1).bind fun v15 =>
  (zd6 v15.2).bind fun v16 =>
  gd (g3.2.2.bA.length+1≤4294967296) <|
  some (.inl ((i64.wrap (g3.1 - 1)),v16.2,(⟨(⟨g3.2.2.aB.name,g3.2.2.aB.kind,g3.2.2.aB.aP,g3.2.2.aB.home⟩:aC),(g3.2.2.bA++[(⟨v15.1,v16.1⟩:aT)]),g3.2.2.aL,g3.2.2.aS,g3.2.2.gen⟩:aF)))
 else
  some (.inr (g3.2.1,g3.2.2)))
def zg3 (a0:aU):Option (aF×aU) :=
 (zd9 a0).bind fun v1 =>
 (zb9 v1.2).bind fun v2 =>
 (zb9 v2.2).bind fun v3 =>
 (zb9 v3.2).bind fun v4 =>
 (zb9 v4.2).bind fun v5 =>
 (zc7 8 v5.2).bind fun v6 =>
 (zc6 zU6 (v6.1,v6.2,(⟨(⟨v1.1,v2.1,v3.1,v4.1⟩:aC),[],[],[],v5.1⟩:aF))).bind (fun z=>zH4 z)
@[reducible,instance] def zds6 (j2:aU×aF) {T1:Type} (v8:T1):=mkJ (zH3 j2,v8) 4 (@zU3.eq_1) fun (j3:aU×aF)=>⟨[(2,.ptr 1 0 0),(3,.ptr 2 0 0)],[(0,bx j3.1),(1,bx aF.zero),(2,⟨false,8,aF.enc aF.zero,[[.str j3.2.aB.name,.int .i64 j3.2.aB.kind,.int .i64 j3.2.aB.aP,.int .i64 j3.2.aB.home,.own 3 0 j3.2.bA.length,.own 4 0 j3.2.aL.length,.own 5 0 j3.2.aS.length,.int .i64 j3.2.gen]]⟩),(3,sx j3.2.bA),(4,sx j3.2.aL),(5,sx j3.2.aS)],6⟩
@[reducible,instance] def zds7 {T:Type} (x:T):=mkL x (@zU4.eq_1) fun (g1:Int×aU×aF)=>⟨[(0,.ptr 0 0 0),(2,.ptr 1 0 0),(3,.ptr 2 0 0),(8,.int .i64 g1.1)],[(0,bx g1.2.1),(1,bx aF.zero),(2,⟨false,8,aF.enc aF.zero,[[.str g1.2.2.aB.name,.int .i64 g1.2.2.aB.kind,.int .i64 g1.2.2.aB.aP,.int .i64 g1.2.2.aB.home,.own 3 0 g1.2.2.bA.length,.own 4 0 g1.2.2.aL.length,.own 5 0 g1.2.2.aS.length,.int .i64 g1.2.2.gen]]⟩),(3,sx g1.2.2.bA),(4,sx g1.2.2.aL),(5,sx g1.2.2.aS)],6⟩
@[reducible,instance] def zds8 (j1:aU×aF) {T1:Type} (v7:T1):=mkJ (zH4 j1,v7) 2 (@zH3.eq_1) fun (j2:aU×aF)=>⟨[(0,.ptr 0 0 0),(2,.ptr 1 0 0),(3,.ptr 2 0 0)],[(0,bx j2.1),(1,bx aF.zero),(2,⟨false,8,aF.enc aF.zero,[[.str j2.2.aB.name,.int .i64 j2.2.aB.kind,.int .i64 j2.2.aB.aP,.int .i64 j2.2.aB.home,.own 3 0 j2.2.bA.length,.own 4 0 j2.2.aL.length,.own 5 0 j2.2.aS.length,.int .i64 j2.2.gen]]⟩),(3,sx j2.2.bA),(4,sx j2.2.aL),(5,sx j2.2.aS)],6⟩
@[reducible,instance] def zds9 {T:Type} (x:T):=mkL x (@zU5.eq_1) fun (g2:Int×aU×aF)=>⟨[(0,.ptr 0 0 0),(2,.ptr 1 0 0),(3,.ptr 2 0 0),(6,.int .i64 g2.1)],[(0,bx g2.2.1),(1,bx aF.zero),(2,⟨false,8,aF.enc aF.zero,[[.str g2.2.2.aB.name,.int .i64 g2.2.2.aB.kind,.int .i64 g2.2.2.aB.aP,.int .i64 g2.2.2.aB.home,.own 3 0 g2.2.2.bA.length,.own 4 0 g2.2.2.aL.length,.own 5 0 g2.2.2.aS.length,.int .i64 g2.2.2.gen]]⟩),(3,sx g2.2.2.bA),(4,sx g2.2.2.aL),(5,sx g2.2.2.aS)],6⟩
@[reducible,instance] def zdt0 (a0:aU) {T1:Type} (v1:T1) {T2:Type} (v2:T2) {T3:Type} (v3:T3) {T4:Type} (v4:T4) {T5:Type} (v5:T5) {T6:Type} (v6:T6):=mkJ ((((((zg3 a0,v1),v2),v3),v4),v5),v6) 0 (@zH4.eq_1) fun (j1:aU×aF)=>⟨[(0,.ptr 0 0 0),(2,.ptr 1 0 0),(3,.ptr 2 0 0)],[(0,bx j1.1),(1,bx aF.zero),(2,⟨false,8,aF.enc aF.zero,[[.str j1.2.aB.name,.int .i64 j1.2.aB.kind,.int .i64 j1.2.aB.aP,.int .i64 j1.2.aB.home,.own 3 0 j1.2.bA.length,.own 4 0 j1.2.aL.length,.own 5 0 j1.2.aS.length,.int .i64 j1.2.gen]]⟩),(3,sx j1.2.bA),(4,sx j1.2.aL),(5,sx j1.2.aS)],6⟩
@[reducible,instance] def zdt1 {T:Type} (x:T):=mkL x (@zU6.eq_1) fun (g3:Int×aU×aF)=>⟨[(0,.ptr 0 0 0),(2,.ptr 1 0 0),(3,.ptr 2 0 0),(4,.int .i64 g3.1)],[(0,bx g3.2.1),(1,bx aF.zero),(2,⟨false,8,aF.enc aF.zero,[[.str g3.2.2.aB.name,.int .i64 g3.2.2.aB.kind,.int .i64 g3.2.2.aB.aP,.int .i64 g3.2.2.aB.home,.own 3 0 g3.2.2.bA.length,.own 4 0 g3.2.2.aL.length,.own 5 0 g3.2.2.aS.length,.int .i64 g3.2.2.gen]]⟩),(3,sx g3.2.2.bA),(4,sx g3.2.2.aL),(5,sx g3.2.2.aS)],6⟩
instance zbi7 (a0:aU):OkM (zg3 a0) 49 [.ptr 0 0 0] [(0,bx a0)] 1 (fun r=>ga r.1) (fun r=>[(0,bx r.2)]) 1:=⟨fun r h=>by
 refine zaM3 Tryz.f49 [(3,114)] [ga r.1] fun E hG hN hK=>?_
 have hm:Mk (zg3 a0):=trivial
 unfold zg3 at h
 refine zb2 (zc0 hG ?_)
 refine zb2 (zc0 hG ?_)
 refine g_gh (.ownb 2 4 5 (aT.enc aT.zero)) ?_
 refine g_gh (.ownb 2 5 7 (aR.enc aR.zero)) ?_
 refine g_gh (.ownb 2 6 7 (aR.enc aR.zero)) ?_
 refine zb2 (zc0 hG ?_)
 obtain ⟨v1,hv1,h⟩:=zn1 h
 have hm:=mkP hm v1
 refine zB2 [(0,0)] [] [0] ((zY6 a0).ok _ hv1) rfl rfl ?_
 refine zb2 (zc0 hG ?_)
 obtain ⟨v2,hv2,h⟩:=zn1 h
 have hm:=mkP hm v2
 refine zB2 [(0,0)] [] [0] ((zx1 v1.2).ok _ hv2) rfl rfl ?_
 refine zb2 (zc0 hG ?_)
 obtain ⟨v3,hv3,h⟩:=zn1 h
 have hm:=mkP hm v3
 refine zB2 [(0,0)] [] [0] ((zx1 v2.2).ok _ hv3) rfl rfl ?_
 refine zb2 (zc0 hG ?_)
 obtain ⟨v4,hv4,h⟩:=zn1 h
 have hm:=mkP hm v4
 refine zB2 [(0,0)] [] [0] ((zx1 v3.2).ok _ hv4) rfl rfl ?_
 refine zb2 (zc0 hG ?_)
 obtain ⟨v5,hv5,h⟩:=zn1 h
 have hm:=mkP hm v5
 refine zB2 [(0,0)] [] [0] ((zx1 v4.2).ok _ hv5) rfl rfl ?_
 refine zb2 (zb2 (zc0 hG ?_))
 obtain ⟨v6,hv6,h⟩:=zn1 h
 have hm:=mkP hm v6
 refine zB2 [(0,0)] [] [0] ((zC5 8 v5.2).ok _ hv6) rfl rfl ?_
 refine zaq2 hm h (fun j1 hm h=>?_) ?_
 · try refine g_st ?_
   refine zb2 (zb2 (zc0 hG ?_))
   obtain ⟨v7,hv7,h⟩:=zn1 h
   have hm:=mkP hm v7
   refine zB2 [(0,0)] [] [0] ((zC5 8 j1.1).ok _ hv7) rfl rfl ?_
   refine zaq2 hm h (fun j2 hm h=>?_) ?_
   · try refine g_st ?_
     refine zb2 (zb2 (zc0 hG ?_))
     obtain ⟨v8,hv8,h⟩:=zn1 h
     have hm:=mkP hm v8
     refine zB2 [(0,0)] [] [0] ((zC5 8 j2.1).ok _ hv8) rfl rfl ?_
     refine zaq2 hm h (fun j3 hm h=>?_) ?_
     · try refine g_st ?_
       refine zb2 (zc0 hG ?_)
       refine g_gh (.fz [3,4,5]) ?_
       exact gogo
     exact gogo
   exact gogo
 exact gogo⟩
attribute [local irreducible] zg3
def zaE3 (j1:Unit):Option Bool :=
 some true
def zac9 (a0:List aC) (g1:Int):Option (Int⊕(Unit⊕Bool)) :=
 (if (decide (g1 < (a0.length:Int)))=true then
  gd (0≤g1∧g1 < (a0.length:Int)) <|
  (zg6 (a0.getD g1.toNat aC.zero)).bind fun v1 =>
  gd ((v1&&decide (0 < g1))=true→0≤i64.wrap (g1 - 1)∧i64.wrap (g1 - 1) < (a0.length:Int)) <|
  gd ((v1&&decide (0 < g1))=true→0≤g1∧g1 < (a0.length:Int)) <|
  (if ((!v1)||(decide (0 < g1)&&(!Op.bytesLess ((a0.getD ((i64.wrap (g1 - 1)).toNat) aC.zero).name).toList ((a0.getD g1.toNat aC.zero).name).toList)))=true then
   some (.inr (.inr false))
  else
   some (.inl (i64.wrap (g1+1))))
 else
  some (.inr (.inl ())))
def zt0 (a0:List aC):Option Bool :=
 (if (decide (8 < (a0.length:Int)))=true then
  some false
 else
  (zc6 (zac9 a0) 0).bind (fun|.inl z=>zaE3 z|.inr z=>some z))
@[reducible,instance] def zdt2 a0:=mkJ (zt0 a0) 0 (@zaE3.eq_1) fun (j1:Unit)=>⟨[],[],0⟩
@[reducible,instance] def zdt3 (a0:List aC) {T:Type} (x:T):=mkL x (@zac9.eq_1 a0) fun (g1:Int)=>⟨[(0,la a0),(3,.int .i64 g1)],[],0⟩
instance zcA6 (a0:List aC):OkP (zt0 a0) 131 [la a0] (fun r=>.bool r):=ok1 (zt0.eq_1 a0) Tryz.f131 []
attribute [local irreducible] zt0
def zu6 (a0:aC) (a1 a2:aA):Option aA :=
 (if ((!(zy6 a0 a1))||(!(zy6 a0 a2)))=true then
  some ({ aA.zero with  })
 else
  (if (zu5 a0 a1 a2)=true then
   some a1
  else
   (if (zu5 a0 a2 a1)=true then
    some a2
   else
    (zr9 a1.mode a2.mode).bind fun v1 =>
    some ({ aA.zero with mode:=v1 }))))
instance zcI9 (a0:aC) (a1 a2:aA):OkP (zu6 a0 a1 a2) 190 [ga a0,ga a1,ga a2] (fun r=>ga r):=ok1 (zu6.eq_1 a0 a1 a2) Tryz.f190 []
attribute [local irreducible] zu6
@[go_sem] def zdt4 (a0:List aC) (j1:Tape×bG):St:=⟨[(0,.ptr 0 0 0),(1,la a0),(4,.ptr 1 0 0),(5,.ptr 2 0 0)],[(0,bx j1.1),(1,bx bG.zero),(2,bx j1.2)],3⟩
def zi9 (a0:aG):Option Bool :=
 (zi0 a0).bind fun v1 =>
 (if (!decide (v1=0))=true then
  (zm0 a0 []).bind fun v2 =>
  some ((!decide (v1=0))&&v2.1)
 else
  some ((!decide (v1=0))&&false))
theorem zaN2 (a0:aG) (r:Bool) (h:zi9 a0=some r):PFn C 33 [ga a0] (.bool r):=by
 refine zae3 Tryz.f33 [(3,3)] fun E hG hN hK=>?_
 unfold zi9 at h
 refine zb2 (zc0 hG ?_)
 refine zb2 (zc0 hG ?_)
 refine g_gh (.ownb 1 0 3 (aD.enc aD.zero)) ?_
 refine zb2 (zc0 hG ?_)
 obtain ⟨v1,hv1,h⟩:=zn1 h
 refine zA8 (fun hg=>(zbd2 a0).ok _ hv1) ?_
 refine zcg6 h (fun hc h=>?_) (fun hc h=>?_)
 · obtain ⟨v2,hv2,h⟩:=zn1 h
   refine zbQ6 hc [(0,1),(1,2)] [(2,3)] [0,1,2] ((zaN1 a0 []).ok _ hv2) rfl rfl ?_
   refine zy1 ?_
   exact zV4 h
 refine zbQ7 hc (.bool false) ?_
 refine zy1 ?_
 exact zV4 h
instance zbN0 (a0:aG):OkP (zi9 a0) 33 [ga a0] (fun r=>.bool r):=⟨zaN2 a0⟩
attribute [local irreducible] zi9
def zu1 (j1:Unit):Option Bool :=
 some true
def zu2 (a0 a1:List aF) (g1:Int):Option (Int⊕(Unit⊕Bool)) :=
 (if (decide (g1 < (a0.length:Int)))=true then
  gd (0≤g1∧g1 < (a0.length:Int)) <|
  gd (0≤g1∧g1 < (a1.length:Int)) <|
  (zi2 (a0.getD g1.toNat aF.zero) (a1.getD g1.toNat aF.zero)).bind fun v1 =>
  (if (!v1)=true then
   some (.inr (.inr false))
  else
   some (.inl (i64.wrap (g1+1))))
 else
  some (.inr (.inl ())))
def zb1 (a0 a1:List aF):Option Bool :=
 (if (!decide ((a0.length:Int)=(a1.length:Int)))=true then
  some false
 else
  (zc6 (zu2 a0 a1) 0).bind (fun|.inl z=>zu1 z|.inr z=>some z))
@[reducible,instance] def zdt5 a0 a1:=mkJ (zb1 a0 a1) 0 (@zu1.eq_1) fun (j1:Unit)=>⟨[],[],0⟩
@[reducible,instance] def zdt6 (a0 a1:List aF) {T:Type} (x:T):=mkL x (@zu2.eq_1 a0 a1) fun (g1:Int)=>⟨[(1,la a1),(2,.clo 54 []),(15,la a0),(16,.int .i64 (a0.length:Int)),(17,.int .i64 g1)],[],0⟩
instance zE8 (a0 a1:List aF):OkM (zb1 a0 a1) 53 [la a0,la a1,.clo 54 []] [] 0 (fun r=>.bool r) (fun r=>[]) 0:=okm (zb1.eq_1 a0 a1) (fun r=>[.bool r]) Tryz.f53 []
attribute [local irreducible] zb1
def zp1 (a0:List aC) (a1:aD):Option Int :=
 (zn9 a0).bind fun v1 =>
 (if (!v1)=true then
  some 2
 else
  (zm9 a0 a1.name).bind fun v2 =>
  (if (!v2.2)=true then
   some 10
  else
   gd (0≤v2.1∧v2.1 < (a0.length:Int)) <|
   (if (!(zb8 (a0.getD v2.1.toNat aC.zero) a1.aI))=true then
    some 12
   else
    some 0)))
instance zca4 (a0:List aC) (a1:aD):OkP (zp1 a0 a1) 230 [la a0,ga a1] (fun r=>.int .i64 r):=ok1 (zp1.eq_1 a0 a1) Tryz.f230 []
attribute [local irreducible] zp1
def zan6 (a0:aC) (a1:List aT) (j1:Unit):Option Bool :=
 (zf7 a1).bind fun v1 =>
 (zj2 a0 v1).bind fun v2 =>
 some v2
def zU7 (a0:aC) (a1:List aT) (g1:Int):Option (Int⊕(Unit⊕Bool)) :=
 (if (decide (g1 < (a1.length:Int)))=true then
  gd (0≤g1∧g1 < (a1.length:Int)) <|
  gd (zq7 ((a1.getD g1.toNat aT.zero).aN)=true→0≤g1∧g1 < (a1.length:Int)) <|
  gd (((!((!(zq7 ((a1.getD g1.toNat aT.zero).aN)))||(!(zs6 a0 ((a1.getD g1.toNat aT.zero).aI)))))&&decide (0 < g1))=true→0≤i64.wrap (g1 - 1)∧i64.wrap (g1 - 1) < (a1.length:Int)) <|
  gd (((!((!(zq7 ((a1.getD g1.toNat aT.zero).aN)))||(!(zs6 a0 ((a1.getD g1.toNat aT.zero).aI)))))&&decide (0 < g1))=true→0≤g1∧g1 < (a1.length:Int)) <|
  (if (((!(zq7 ((a1.getD g1.toNat aT.zero).aN)))||(!(zs6 a0 ((a1.getD g1.toNat aT.zero).aI))))||(decide (0 < g1)&&decide (0≤zw1 ((a1.getD ((i64.wrap (g1 - 1)).toNat) aT.zero).aN) ((a1.getD g1.toNat aT.zero).aN))))=true then
   some (.inr (.inr false))
  else
   some (.inl (i64.wrap (g1+1))))
 else
  some (.inr (.inl ())))
def zr6 (a0:aC) (a1:List aT):Option Bool :=
 (if ((!(zE6 a0))||decide (8 < (a1.length:Int)))=true then
  some false
 else
  (zc6 (zU7 a0 a1) 0).bind (fun|.inl z=>zan6 a0 a1 z|.inr z=>some z))
@[reducible,instance] def zdt7 (a0:aC) (a1:List aT):=mkJ (zr6 a0 a1) 0 (@zan6.eq_1 a0 a1) fun (j1:Unit)=>⟨[(1,la a1),(2,.ptr 0 0 0)],[(0,bx a0)],1⟩
@[reducible,instance] def zdt8 (a0:aC) (a1:List aT) {T:Type} (x:T):=mkL x (@zU7.eq_1 a0 a1) fun (g1:Int)=>⟨[(1,la a1),(2,.ptr 0 0 0),(5,.int .i64 g1)],[(0,bx a0)],1⟩
instance zcA7 (a0:aC) (a1:List aT):OkP (zr6 a0 a1) 285 [ga a0,la a1] (fun r=>.bool r):=ok1 (zr6.eq_1 a0 a1) Tryz.f285 []
attribute [local irreducible] zr6
@[go_sem] def zdt9 (a0:bC) (j1:Int×Int) (j2:(List aD)):St:=⟨[(4,.ptr 0 0 0),(10,.ptr 1 0 0),(11,.own 2 0 j2.length)],[(0,bx bC.zero),(1,⟨false,2,bC.enc bC.zero,[[.own 3 0 (((⟨(a0.aJ.take j1.1.toNat),a0.bE.take j1.2.toNat⟩:bC).aJ).length),.own 4 0 (((⟨(a0.aJ.take j1.1.toNat),a0.bE.take j1.2.toNat⟩:bC).bE).length)]]⟩),(2,sx j2),(3,sx ((⟨(a0.aJ.take j1.1.toNat),a0.bE.take j1.2.toNat⟩:bC).aJ)),(4,sx ((⟨(a0.aJ.take j1.1.toNat),a0.bE.take j1.2.toNat⟩:bC).bE))],5⟩
@[go_sem] def zdu0 (a0:bC) (j1:Int×Int) (v2:(List ByteArray)) (g1:Int×(List aD)):St:=⟨[(4,.ptr 0 0 0),(10,.ptr 1 0 0),(11,.own 2 0 g1.2.length),(12,.sl (v2.map eS)),(13,.int .i64 g1.1)],[(0,bx bC.zero),(1,⟨false,2,bC.enc bC.zero,[[.own 3 0 (((⟨(a0.aJ.take j1.1.toNat),a0.bE.take j1.2.toNat⟩:bC).aJ).length),.own 4 0 (((⟨(a0.aJ.take j1.1.toNat),a0.bE.take j1.2.toNat⟩:bC).bE).length)]]⟩),(2,sx g1.2),(3,sx ((⟨(a0.aJ.take j1.1.toNat),a0.bE.take j1.2.toNat⟩:bC).aJ)),(4,sx ((⟨(a0.aJ.take j1.1.toNat),a0.bE.take j1.2.toNat⟩:bC).bE))],5⟩
@[go_sem] def zdu1 (a0:bC) (j1:Int×Int):St:=⟨[(2,.ptr 0 0 0),(4,.ptr 1 0 0),(7,.int .i64 j1.1),(8,.int .i64 j1.2)],[(0,bx a0),(1,bx bC.zero)],2⟩
end
end Ab
end Go.Proofs.YtenebhlnfjcffaaGreatDoor
