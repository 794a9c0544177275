import Derived.Test.YtfkjffmjkbkmhaaGreatDoorSort
import Derived.Test.YtfkjffmjkbkmhaaGreatDoorStr
namespace Go.Proofs.YtfkjffmjkbkmhaaGreatDoor
namespace Ab
open IntKind (i64 u64 u8)
set_option linter.unusedSimpArgs false
set_option linter.defProp false
set_option linter.unusedVariables false
set_option maxRecDepth 100000
set_option maxHeartbeats 1000000
noncomputable section
def zl7 (a0 a1:Int):Option Int :=
 (if (decide (a1 < 1))=true then
  some 0
 else
  gd (a1≠0) <|
  (if (decide (a0.tmod a1 < 0))=true then
   some (i64.wrap (a0.tmod a1+a1))
  else
   some (a0.tmod a1)))
instance zdo6 (a0 a1:Int):OkP (zl7 a0 a1) 7 [.int .i64 a0,.int .i64 a1] (fun r=>.int .i64 r):=ok1 (zl7.eq_1 a0 a1) Tryz.f7 []
attribute [local irreducible] zl7
def zP0 (a0 a1 a2:Int):Bool :=
 (decide (a1≤a0)&&decide (a0≤a2))
instance zcJ3 (a0 a1 a2:Int):OkT 80 [.int .i64 a0,.int .i64 a1,.int .i64 a2] (.bool (zP0 a0 a1 a2)):=ok2 (fun r=>.bool r) (zP0.eq_1 a0 a1 a2) Tryz.f80 []
def zl8 (a0:aA):Option (aT×Bool) :=
 (if (decide (0 < (a0.aO.length:Int)))=true then
  gd (0≤0∧0 < (a0.aO.length:Int)) <|
  some ((a0.aO.getD 0 aT.zero),true)
 else
  (if (decide (0 < (a0.aS.length:Int)))=true then
   gd (0≤0∧0 < (a0.aS.length:Int)) <|
   some ((a0.aS.getD 0 aT.zero),true)
  else
   some ({ aT.zero with  },false)))
instance zdf7 (a0:aA):OkP (zl8 a0) 122 [ga a0] (fun r=>.tup [ga r.1,.bool r.2]):=ok1 (zl8.eq_1 a0) Tryz.f122 []
attribute [local irreducible] zl8
def zb2 (a0:Int):Option (List aT):=gd (0≤a0∧a0≤4294967296) (some [])
theorem zap6:Lays8.n4 C.P ⟨fun|4=>163|n=>n,fun|22=>34|25=>129|n=>n,fun n=>n⟩ where
 mixed:=zz1
 f4:=⟨ "slices.Grow[[]clusterlocks/api.Wait,clusterlocks/api.Wait]",by decide,Tryz.func163.trans (cQ some (by kernel_rfl))⟩
 t0:=Tryz.underlying0
 a0:=Tryz.isAgg0
 z0:=Tryz.sizeOf0
 v0:=Tryz.zeroValue0
 t3:=Tryz.underlying3
 a3:=Tryz.isAgg3
 z3:=Tryz.sizeOf3
 v3:=Tryz.zeroValue3
 t4:=Tryz.underlying4
 a4:=Tryz.isAgg4
 z4:=Tryz.sizeOf4
 v4:=Tryz.zeroValue4
 t9:=Tryz.underlying9
 a9:=Tryz.isAgg9
 z9:=Tryz.sizeOf9
 v9:=Tryz.zeroValue9
 t20:=Tryz.underlying20
 a20:=Tryz.isAgg20
 z20:=Tryz.sizeOf20
 v20:=Tryz.zeroValue20
 t22:=Tryz.underlying34
 a22:=Tryz.isAgg34
 z22:=Tryz.sizeOf34
 v22:=Tryz.zeroValue34
theorem zan4 (a0:Int) (r:List aT) (h:zb2 a0=some r):MFn C 163 [.full [],.int .i64 a0] [] 0 (.own 0 0 r.length) [(0,sx r)] 1:=by
 obtain ⟨⟨h0,h1⟩,h⟩:=ze1 h
 obtain rfl:=dZ h
 exact zcV8 zap6 (by kernel_rfl) rfl _ a0 h0 h1
attribute [local irreducible] zb2
def zL8 (a0:List aK) (j1:Unit):Option ((List aK)×(List aK)) :=
 some (a0,a0)
def zA1 (j2:Int×(List aK)):Option (Int⊕(Unit⊕((List aK)×(List aK)))) :=
 gd (0≤j2.1∧j2.1≤((j2.2.length:Nat):Int)∧((j2.2.length:Nat):Int)≤((j2.2.length:Nat):Int)) <|
 gd (0≤0∧0≤j2.1∧j2.1≤((j2.2.length:Nat):Int)) <|
 some (.inr (.inr ((((j2.2.take j2.1.toNat++List.replicate (j2.2.length - j2.1.toNat) aK.zero++j2.2.drop (j2.1.toNat+(j2.2.length - j2.1.toNat))).drop 0).take j2.1.toNat),(j2.2.take j2.1.toNat++List.replicate (j2.2.length - j2.1.toNat) aK.zero++j2.2.drop (j2.1.toNat+(j2.2.length - j2.1.toNat))))))
def zv4 (a0:List aK) (g1:Int) (g2:Int×Int×(List aK)):Option ((Int×Int×(List aK))⊕(Int×(List aK))) :=
 (if (decide (g2.2.1 < (((a0.length - g1.toNat):Nat):Int)))=true then
  gd (0≤g2.2.1∧g2.2.1 < (((a0.length - g1.toNat):Nat):Int)∧g1.toNat+(a0.length - g1.toNat)≤g2.2.2.length) <|
  gd (0≤i64.wrap (g2.2.1 - 1)∧i64.wrap (g2.2.1 - 1) < (((a0.length - g1.toNat):Nat):Int)∧g1.toNat+(a0.length - g1.toNat)≤g2.2.2.length) <|
  (if (!decide (g2.2.2.getD (g1.toNat+g2.2.1.toNat) aK.zero=g2.2.2.getD (g1.toNat+(i64.wrap (g2.2.1 - 1)).toNat) aK.zero))=true then
   gd (0≤g2.2.1∧g2.2.1 < (((a0.length - g1.toNat):Nat):Int)∧g1.toNat+(a0.length - g1.toNat)≤g2.2.2.length) <|
   gd (0≤g2.1∧g2.1 < ((g2.2.2.length:Nat):Int)) <|
   some (.inl ((i64.wrap (g2.1+1)),i64.wrap (g2.2.1+1),g2.2.2.set g2.1.toNat (g2.2.2.getD (g1.toNat+g2.2.1.toNat) aK.zero)))
  else
   some (.inl (g2.1,i64.wrap (g2.2.1+1),g2.2.2)))
 else
  some (.inr (g2.1,g2.2.2)))
def zs0 (a0:List aK) (g1:Int):Option (Int⊕(Unit⊕((List aK)×(List aK)))) :=
 (if (decide (g1 < ((a0.length:Nat):Int)))=true then
  gd (0≤g1∧g1 < ((a0.length:Nat):Int)) <|
  gd (0≤i64.wrap (g1 - 1)∧i64.wrap (g1 - 1) < ((a0.length:Nat):Int)) <|
  (if (decide (a0.getD g1.toNat aK.zero=a0.getD ((i64.wrap (g1 - 1)).toNat) aK.zero))=true then
   gd (0≤g1∧g1≤((a0.length:Nat):Int)∧((a0.length:Nat):Int)≤((a0.length:Nat):Int)) <|
   (zb9 (zv4 a0 g1) (g1,1,a0)).bind (fun z=>zA1 z)
  else
   some (.inl (i64.wrap (g1+1))))
 else
  some (.inr (.inl ())))
def za3 (a0:List aK):Option ((List aK)×(List aK)) :=
 (if (decide (((a0.length:Nat):Int) < 2))=true then
  some (a0,a0)
 else
  (zb9 (zs0 a0) 1).bind (fun|.inl z=>zL8 a0 z|.inr z=>some z))
@[reducible,instance] def zdB5 (a0:List aK):=mkJ (za3 a0) 0 (@zL8.eq_1 a0) fun (j1:Unit)=>⟨[(0,.own 0 0 a0.length)],[(0,sx a0)],1⟩
@[reducible,instance] def zdB6 (a0:List aK) (g1:Int):=mkJ (zs0 a0 g1) 2 (@zA1.eq_1) fun (j2:Int×(List aK))=>⟨[(0,.own 0 0 j2.2.length),(3,.int .i64 j2.1)],[(0,sx j2.2)],1⟩
@[reducible,instance] def zdB7 (a0:List aK) (g1:Int) {T:Type} (x:T):=mkL x (@zv4.eq_1 a0 g1) fun (g2:Int×Int×(List aK))=>⟨[(0,.own 0 0 g2.2.2.length),(3,.int .i64 g2.1),(4,.own 0 g1.toNat (a0.length - g1.toNat)),(5,.int .i64 g2.2.1)],[(0,sx g2.2.2)],1⟩
@[reducible,instance] def zdB8 (a0:List aK) {T:Type} (x:T):=mkL x (@zs0.eq_1 a0) fun (g1:Int)=>⟨[(0,.own 0 0 a0.length),(3,.int .i64 g1)],[(0,sx a0)],1⟩
instance zah0 (a0:List aK):OkM (za3 a0) 85 [.own 0 0 a0.length] [(0,sx a0)] 1 (fun r=>la r.1) (fun r=>[(0,⟨true,3,aK.enc aK.zero,r.2.map aK.enc⟩)]) 1:=⟨fun r h=>by
 refine zax1 Tryz.f85 [] [la r.1] fun E hG hN hK=>?_
 have hm:Mk (za3 a0):=trivial
 unfold za3 at h
 refine za2 (za5 hG ?_)
 refine za2 (za2 (za5 hG ?_))
 refine zl4 rfl hG h (fun _ h=>?_) (fun _ h=>?_)
 · refine za2 (za5 hG ?_)
   refine g_gh (.fz [0]) ?_
   exact gogo
 refine zk1 ?_
 refine za2 (za2 (za5 hG ?_))
 refine zat9 hm h (fun j1 hm h=>?_) ?_
 · try refine g_st ?_
   refine za2 (za5 hG ?_)
   refine g_gh (.fz [0]) ?_
   exact gogo
 refine zdk5 hm hK [(0,0)] h (fun g1 y hm kx h=>?_)
 try refine g_st ?_
 refine za2 (za2 (za5 hG ?_))
 refine zl4 rfl hG h (fun _ h=>?_) (fun _ h=>?_)
 · refine zk1 ?_
   refine za2 (zC3 (za2 ?_))
   obtain ⟨hb8,h⟩:=ze1 h
   obtain ⟨hb9,h⟩:=ze1 h
   refine zaW1 zz1 hG ?_
   refine zl4 rfl hG h (fun _ h=>?_) (fun _ h=>?_)
   · refine za2 ?_
     obtain ⟨hb7,h⟩:=ze1 h
     refine za5 hG ?_
     refine za2 (za2 (za5 hG ?_))
     refine zat9 hm h (fun j2 hm h=>?_) ?_
     · try refine g_st ?_
       refine za2 ?_
       obtain ⟨hb2,h⟩:=ze1 h
       refine za5 hG ?_
       refine za2 ?_
       obtain ⟨hb1,h⟩:=ze1 h
       refine za5 hG ?_
       refine g_gh (.fz [0]) ?_
       exact gogo
     exact gogo
   exact gogo
 exact gogo⟩
attribute [local irreducible] za3
def zX1 (a0:aP) (j1:(List aP)):Option aP :=
 some (⟨a0.k,(⟨a0.bF.name,(⟨a0.bF.aN.mode,a0.bF.aN.aR⟩:aD)⟩:aM),j1⟩:aP)
def zL9 (a90:(aP→Option aP)) (a0:aP) (g1:Int×(List aP)):Option ((Int×(List aP))⊕(List aP)) :=
 (if (decide (g1.1 < (a0.bE.length:Int)))=true then
  gd (0≤g1.1∧g1.1 < (a0.bE.length:Int)) <|
  (a90 (a0.bE.getD g1.1.toNat aP.zero)).bind fun v1 =>
  gd (g1.2.length+1≤4294967296) <|
  some (.inl ((i64.wrap (g1.1+1)),(g1.2++[v1])))
 else
  some (.inr g1.2))
def zx2 (a90:(aP→Option aP)) (a0:aP):Option aP :=
 (zb9 (zL9 a90 a0) (0,[])).bind (fun z=>zX1 a0 z)
def zB0:Nat→(aP→Option aP)
 | 0=>fun _=>none
 | n+1=>zx2 (zB0 n)
def zd9 (a0:aP):Option aP:=zB0 (_root_.SizeOf.sizeOf a0+1) a0
@[reducible,instance] def zdB9 (a90:(aP→Option aP)) (a0:aP):=mkJ (zx2 a90 a0) 0 (@zX1.eq_1 a0) fun (j1:(List aP))=>⟨[(1,.ptr 0 0 0),(2,.ptr 1 0 0),(3,.own 2 0 j1.length)],[(0,bx a0),(1,bx aP.zero),(2,sx j1)],3⟩
@[reducible,instance] def zdC0 (a90:(aP→Option aP)) (a0:aP) {T:Type} (x:T):=mkL x (@zL9.eq_1 a90 a0) fun (g1:Int×(List aP))=>⟨[(1,.ptr 0 0 0),(2,.ptr 1 0 0),(3,.own 2 0 g1.2.length),(7,la a0.bE),(8,.int .i64 (a0.bE.length:Int)),(9,.int .i64 g1.1)],[(0,bx a0),(1,bx aP.zero),(2,sx g1.2)],3⟩
abbrev zU6 (g:(aP→Option aP)):Prop:=∀ (a0:aP),OkP (g a0) 61 [.agg (aP.enc a0)] (fun r=>.agg (aP.enc r))
theorem zaQ9 (a90:(aP→Option aP)) (hrc:zU6 a90):zU6 (zx2 a90):=fun a0=>⟨fun r h=>by
 refine zY9 Tryz.f61 [(3,1)] fun E hG hN hK=>?_
 have hm:Mk (zx2 a90 a0):=trivial
 unfold zx2 at h
 refine za2 (za5 hG ?_)
 refine za2 (za5 hG ?_)
 refine za2 (za2 (za5 hG ?_))
 refine zat9 hm h (fun j1 hm h=>?_) ?_
 · try refine g_st ?_
   refine za2 (za5 hG ?_)
   refine za2 (za5 hG ?_)
   refine zt4 ?_
   exact zJ4 h (by intro e; subst e; simp [aM.enc,aD.enc])
 exact gogo⟩
theorem zaR0:∀ n,zU6 (zB0 n):=zaP2 (fun _=>⟨fun _ h=>nomatch h⟩) fun n=>zaQ9 _
instance zaW3:zU6 zd9:=fun a0=>zaR0 _ a0
attribute [local irreducible] zd9
def zR3 (j1:Unit):Option Bool :=
 some true
def zx8 (a0 a1:List aT) (g1:Int):Option (Int⊕(Unit⊕Bool)) :=
 (if (decide (g1 < (a0.length:Int)))=true then
  gd (0≤g1∧g1 < (a0.length:Int)) <|
  gd (0≤g1∧g1 < (a1.length:Int)) <|
  (if (!decide (a0.getD g1.toNat aT.zero=a1.getD g1.toNat aT.zero))=true then
   some (.inr (.inr false))
  else
   some (.inl (i64.wrap (g1+1))))
 else
  some (.inr (.inl ())))
def za8 (a0 a1:List aT):Option Bool :=
 (if (!decide ((a0.length:Int)=(a1.length:Int)))=true then
  some false
 else
  (zb9 (zx8 a0 a1) 0).bind (fun|.inl z=>zR3 z|.inr z=>some z))
@[reducible,instance] def zdC1 a0 a1:=mkJ (za8 a0 a1) 0 (@zR3.eq_1) fun (j1:Unit)=>⟨[],[],0⟩
@[reducible,instance] def zdC2 (a0 a1:List aT) {T:Type} (x:T):=mkL x (@zx8.eq_1 a0 a1) fun (g1:Int)=>⟨[(0,la a0),(1,la a1),(12,.int .i64 (a0.length:Int)),(13,.int .i64 g1)],[],0⟩
instance zas8 (a0 a1:List aT):OkP (za8 a0 a1) 58 [la a0,la a1] (fun r=>.bool r):=ok1 (za8.eq_1 a0 a1) Tryz.f58 []
attribute [local irreducible] za8
def zo1 (a0:aK):Bool :=
 (((((decide (0≤a0.site)&&decide (a0.site < 4))&&decide (1≤a0.inc))&&decide (a0.inc≤99))&&decide (1≤a0.num))&&decide (a0.num≤999))
instance zbn3 (a0:aK):OkT 133 [.agg (aK.enc a0)] (.bool (zo1 a0)):=ok2 (fun r=>.bool r) (zo1.eq_1 a0) Tryz.f133 []
def zk7 (a0:aD):Bool :=
 (decide (a0={ aD.zero with  }))
instance zbS6 (a0:aD):OkT 193 [.agg (aD.enc a0)] (.bool (zk7 a0)):=ok2 (fun r=>.bool r) (zk7.eq_1 a0) Tryz.f193 []
def zbc6 (j1:Unit):Option aD :=
 some ({ aD.zero with  })
def zau0 (a0:List aV) (a1:aK) (g1:Int):Option (Int⊕(Unit⊕aD)) :=
 (if (decide (g1 < (a0.length:Int)))=true then
  gd (0≤g1∧g1 < (a0.length:Int)) <|
  (if (decide ((a0.getD g1.toNat aV.zero).aJ=a1))=true then
   gd (0≤g1∧g1 < (a0.length:Int)) <|
   some (.inr (.inr ((a0.getD g1.toNat aV.zero).aN)))
  else
   some (.inl (i64.wrap (g1+1))))
 else
  some (.inr (.inl ())))
def zm2 (a0:List aV) (a1:aK):Option aD :=
 (zb9 (zau0 a0 a1) 0).bind (fun|.inl z=>zbc6 z|.inr z=>some z)
@[reducible,instance] def zdC3 a0 a1:=mkJ (zm2 a0 a1) 0 (@zbc6.eq_1) fun (j1:Unit)=>⟨[(4,.ptr 0 0 0)],[(0,bx aD.zero)],1⟩
@[reducible,instance] def zdC4 (a0:List aV) (a1:aK) {T:Type} (x:T):=mkL x (@zau0.eq_1 a0 a1) fun (g1:Int)=>⟨[(0,la a0),(3,.ptr 0 0 0),(4,.ptr 1 0 0),(5,.int .i64 g1)],[(0,bx a1),(1,bx aD.zero)],2⟩
instance zdk7 (a0:List aV) (a1:aK):OkP (zm2 a0 a1) 234 [la a0,ga a1] (fun r=>ga r):=ok1 (zm2.eq_1 a0 a1) Tryz.f234 []
attribute [local irreducible] zm2
def zay2 (j2:(List aK)):Option (List aK) :=
 some j2
def zaj8 (a0:aA) (g1:Int×(List aK)):Option ((Int×(List aK))⊕(List aK)) :=
 (if (decide (g1.1 < (a0.aS.length:Int)))=true then
  gd (0≤g1.1∧g1.1 < (a0.aS.length:Int)) <|
  gd (g1.2.length+1≤4294967296) <|
  some (.inl ((i64.wrap (g1.1+1)),(g1.2++[(a0.aS.getD g1.1.toNat aT.zero).aJ])))
 else
  some (.inr g1.2))
def zaj9 (a0:aA) (j1:(List aK)):Option (List aK) :=
 (zb9 (zaj8 a0) (0,j1)).bind (fun z=>zay2 z)
def zak0 (a0:aA) (g2:Int×(List aK)):Option ((Int×(List aK))⊕(List aK)) :=
 (if (decide (g2.1 < (a0.aO.length:Int)))=true then
  gd (0≤g2.1∧g2.1 < (a0.aO.length:Int)) <|
  gd (g2.2.length+1≤4294967296) <|
  some (.inl ((i64.wrap (g2.1+1)),(g2.2++[(a0.aO.getD g2.1.toNat aT.zero).aJ])))
 else
  some (.inr g2.2))
def zj6 (a0:aA):Option (List aK) :=
 (zb9 (zak0 a0) (0,[])).bind (fun z=>zaj9 a0 z)
@[reducible,instance] def zdC5 a0 j1:=mkJ (zaj9 a0 j1) 2 (@zay2.eq_1) fun (j2:(List aK))=>⟨[(3,.own 0 0 j2.length)],[(0,sx j2)],1⟩
@[reducible,instance] def zdC6 (a0:aA) {T:Type} (x:T):=mkL x (@zaj8.eq_1 a0) fun (g1:Int×(List aK))=>⟨[(1,.ptr 0 0 0),(3,.own 1 0 g1.2.length),(5,.int .i64 g1.1)],[(0,bx a0),(1,sx g1.2)],2⟩
@[reducible,instance] def zdC7 (a0:aA):=mkJ (zj6 a0) 0 (@zaj9.eq_1 a0) fun (j1:(List aK))=>⟨[(1,.ptr 0 0 0),(3,.own 1 0 j1.length)],[(0,bx a0),(1,sx j1)],2⟩
@[reducible,instance] def zdC8 (a0:aA) {T:Type} (x:T):=mkL x (@zak0.eq_1 a0) fun (g2:Int×(List aK))=>⟨[(1,.ptr 0 0 0),(3,.own 1 0 g2.2.length),(4,.int .i64 g2.1)],[(0,bx a0),(1,sx g2.2)],2⟩
instance zcW1 (a0:aA):OkP (zj6 a0) 182 [ga a0] (fun r=>la r):=ok1 (zj6.eq_1 a0) Tryz.f182 [(3,1)]
attribute [local irreducible] zj6
def zap7 (j1:Unit):Option Bool :=
 some false
def zS9 (a0:List aK) (a1:aK) (g1:Int):Option (Int⊕(Unit⊕Bool)) :=
 (if (decide (g1 < (a0.length:Int)))=true then
  gd (0≤g1∧g1 < (a0.length:Int)) <|
  (if (decide (a0.getD g1.toNat aK.zero=a1))=true then
   some (.inr (.inr true))
  else
   some (.inl (i64.wrap (g1+1))))
 else
  some (.inr (.inl ())))
def zg1 (a0:List aK) (a1:aK):Option Bool :=
 (zb9 (zS9 a0 a1) 0).bind (fun|.inl z=>zap7 z|.inr z=>some z)
@[reducible,instance] def zdC9 a0 a1:=mkJ (zg1 a0 a1) 0 (@zap7.eq_1) fun (j1:Unit)=>⟨[],[],0⟩
@[reducible,instance] def zdD0 (a0:List aK) (a1:aK) {T:Type} (x:T):=mkL x (@zS9.eq_1 a0 a1) fun (g1:Int)=>⟨[(0,la a0),(3,.ptr 0 0 0),(5,.int .i64 g1)],[(0,bx a1)],1⟩
instance zcJ4 (a0:List aK) (a1:aK):OkP (zg1 a0 a1) 183 [la a0,ga a1] (fun r=>.bool r):=ok1 (zg1.eq_1 a0 a1) Tryz.f183 []
attribute [local irreducible] zg1
def zaI5 (j1:(List aI)):Option (List aI) :=
 some j1
def zac5 (a0:List aA) (g1:Int×(List aI)):Option ((Int×(List aI))⊕(List aI)) :=
 (if (decide (g1.1 < (a0.length:Int)))=true then
  gd (0≤g1.1∧g1.1 < (a0.length:Int)) <|
  gd (g1.2.length+1≤4294967296) <|
  some (.inl ((i64.wrap (g1.1+1)),(g1.2++[(a0.getD g1.1.toNat aA.zero).aB])))
 else
  some (.inr g1.2))
def zg2 (a0:List aA):Option (List aI) :=
 (zb9 (zac5 a0) (0,[])).bind (fun z=>zaI5 z)
@[reducible,instance] def zdD1 a0:=mkJ (zg2 a0) 0 (@zaI5.eq_1) fun (j1:(List aI))=>⟨[(3,.own 0 0 j1.length)],[(0,sx j1)],1⟩
@[reducible,instance] def zdD2 (a0:List aA) {T:Type} (x:T):=mkL x (@zac5.eq_1 a0) fun (g1:Int×(List aI))=>⟨[(0,la a0),(3,.own 0 0 g1.2.length),(4,.int .i64 g1.1)],[(0,sx g1.2)],1⟩
instance zcJ5 (a0:List aA):OkP (zg2 a0) 144 [la a0] (fun r=>la r):=ok1 (zg2.eq_1 a0) Tryz.f144 [(3,1)]
attribute [local irreducible] zg2
def zaN3 (j1:(List bJ)):Option (List bJ) :=
 some j1
def zaf5 (a0:ByteArray) (a1:List aV) (g1:Int×(List bJ)):Option ((Int×(List bJ))⊕(List bJ)) :=
 (if (decide (g1.1 < (a1.length:Int)))=true then
  gd (0≤g1.1∧g1.1 < (a1.length:Int)) <|
  gd (0≤g1.1∧g1.1 < (a1.length:Int)) <|
  gd (g1.2.length+1≤4294967296) <|
  some (.inl ((i64.wrap (g1.1+1)),(g1.2++[(⟨1,(a1.getD g1.1.toNat aV.zero).aJ,a0,(a1.getD g1.1.toNat aV.zero).aN⟩:bJ)])))
 else
  some (.inr g1.2))
def zf8 (a0:ByteArray) (a1:List aV):Option (List bJ) :=
 (zb9 (zaf5 a0 a1) (0,[])).bind (fun z=>zaN3 z)
@[reducible,instance] def zdD3 a0 a1:=mkJ (zf8 a0 a1) 0 (@zaN3.eq_1) fun (j1:(List bJ))=>⟨[(5,.own 0 0 j1.length)],[(0,sx j1)],1⟩
@[reducible,instance] def zdD4 (a0:ByteArray) (a1:List aV) {T:Type} (x:T):=mkL x (@zaf5.eq_1 a0 a1) fun (g1:Int×(List bJ))=>⟨[(0,.str a0),(1,la a1),(5,.own 0 0 g1.2.length),(6,.int .i64 g1.1)],[(0,sx g1.2)],1⟩
instance zbC8 (a0:ByteArray) (a1:List aV):OkP (zf8 a0 a1) 271 [.str a0,la a1] (fun r=>la r):=ok1 (zf8.eq_1 a0 a1) Tryz.f271 [(5,1)]
attribute [local irreducible] zf8
def zb1 (a0:List aV):Option (List aV) :=
 gd (a0.length≤4294967296) <|
 some a0
theorem zas9 (a0:List aV) (r:(List aV)) (h:zb1 a0=some r):PFn C 56 [la a0] (la r):=by
 refine zY9 Tryz.f56 [(5,1)] fun E hG hN hK=>?_
 unfold zb1 at h
 refine za2 (za5 hG ?_)
 refine za2 (za2 (za5 hG ?_))
 intro b hnil
 cases b
 · try refine g_st ?_
   refine zcd0 rfl hG ?_
   refine zk1 ?_
   refine za2 ?_
   obtain ⟨hb1,h⟩:=ze1 h
   refine za5 hG ?_
   refine zt4 ?_
   exact zJ4 h
 have ha:a0=[]:=iS.1 (hnil rfl)
 subst ha
 replace h:some []=some r:=by simpa [gd] using h
 try refine g_st ?_
 refine zbh4 rfl hG ?_
 refine za2 (za5 hG ?_)
 refine zt4 ?_
 exact zJ4 h
instance zbn4 (a0:List aV):OkP (zb1 a0) 56 [la a0] (fun r=>la r):=⟨zas9 a0⟩
attribute [local irreducible] zb1
def zf5 (a0 a1:ByteArray):Option Int:=some (Go.Lib.compareBytes a0.data.toList a1.data.toList)
theorem zbc7:Lays.n106 C.P ⟨fun|106=>29|213=>65|265=>108|n=>n,fun|3=>3|9=>9|n=>n,fun n=>n⟩ where
 mixed:=zz1
 f106:=Tryz.func29.trans (cQ some (by kernel_rfl))
 f213:=Tryz.func65.trans (cQ some (by kernel_rfl))
 f265:=Tryz.func108.trans (cQ some (by kernel_rfl))
 t3:=Tryz.underlying3
 a3:=Tryz.isAgg3
 z3:=Tryz.sizeOf3
 v3:=Tryz.zeroValue3
 t9:=Tryz.underlying9
 a9:=Tryz.isAgg9
 z9:=Tryz.sizeOf9
 v9:=Tryz.zeroValue9
theorem zbn5 (a0 a1:ByteArray) (r:Int) (h:zf5 a0 a1=some r):PFn C 29 [.str a0,.str a1] (.int .i64 r):=by
 obtain rfl:=dZ h
 exact zcJ2 zbc7 rfl a0 a1
instance zcs9 (a0 a1:ByteArray):OkP (zf5 a0 a1) 29 [.str a0,.str a1] (fun r=>.int .i64 r):=⟨zbn5 a0 a1⟩
attribute [local irreducible] zf5
def zz7 (j1:Bool):Bool :=
 (if j1=true then
  true
 else
  false)
def zJ9 (a0:ByteArray):Bool :=
 (if (a0.toList == (⟨#[97,108,108]⟩:ByteArray).toList)=true then
  zz7 (a0.toList == (⟨#[97,108,108]⟩:ByteArray).toList)
 else
  (if (a0.toList == (⟨#[97,110,121]⟩:ByteArray).toList)=true then
   zz7 (a0.toList == (⟨#[97,110,121]⟩:ByteArray).toList)
  else
   (if (a0.toList == (⟨#[111,102]⟩:ByteArray).toList)=true then
    zz7 (a0.toList == (⟨#[111,102]⟩:ByteArray).toList)
   else
    (if (a0.toList == (⟨#[112,114,105,111]⟩:ByteArray).toList)=true then
     zz7 (a0.toList == (⟨#[112,114,105,111]⟩:ByteArray).toList)
    else
     zz7 (a0.toList == (⟨#[108,105,109,105,116]⟩:ByteArray).toList)))))
@[reducible,instance] def zdZ4 a0:=mkJ (zJ9 a0) 999 (@zz7.eq_1) fun (j1:Bool)=>⟨[(4,.bool j1)],[],0⟩
instance zct0 (a0:ByteArray):OkT 222 [.str a0] (.bool (zJ9 a0)):=ok2 (fun r=>.bool r) (zJ9.eq_1 a0) Tryz.f222 []
def ze9 (a0:aI):Bool :=
 (if (decide (a0.kind=1))=true then
  (decide (a0.aR=1))
 else
  (if (decide (a0.kind=2))=true then
   (decide (1≤a0.aR)&&decide (a0.aR≤8))
  else
   false))
instance zbv7 (a0:aI):OkT 215 [.agg (aI.enc a0)] (.bool (ze9 a0)):=ok2 (fun r=>.bool r) (ze9.eq_1 a0) Tryz.f215 []
def zac6 (j1:Unit):Option Int :=
 some 0
def zn3 (a0 a1:Arr Int 3) (g1:Int):Option (Int⊕(Unit⊕Int)) :=
 (if (decide (g1 < 3))=true then
  gd (0≤g1∧g1 < 3) <|
  gd (0≤g1∧g1 < 3) <|
  (if (decide (Arr.get a0 g1.toNat 0 < Arr.get a1 g1.toNat 0))=true then
   some (.inr (.inr (-1)))
  else
   gd (0≤g1∧g1 < 3) <|
   (if (decide (Arr.get a1 g1.toNat 0 < Arr.get a0 g1.toNat 0))=true then
    some (.inr (.inr 1))
   else
    some (.inl (i64.wrap (g1+1)))))
 else
  some (.inr (.inl ())))
def zg6 (a0 a1:Arr Int 3):Option Int :=
 (zb9 (zn3 a0 a1) 0).bind (fun|.inl z=>zac6 z|.inr z=>some z)
@[reducible,instance] def zdZ5 a0 a1:=mkJ (zg6 a0 a1) 0 (@zac6.eq_1) fun (j1:Unit)=>⟨[],[],0⟩
@[reducible,instance] def zdZ6 (a0 a1:Arr Int 3) {T:Type} (x:T):=mkL x (@zn3.eq_1 a0 a1) fun (g1:Int)=>⟨[(3,.ptr 0 0 0),(7,.agg (Arr.enc (eI .i64) a0)),(8,.int .i64 g1)],[(0,⟨false,3,Arr.enc (eI .i64) (Arr.rep 3 0),[Arr.enc (eI .i64) a1]⟩)],1⟩
instance zcJ6 (a0 a1:Arr Int 3):OkP (zg6 a0 a1) 67 [.agg (Arr.enc (eI .i64) a0),.agg (Arr.enc (eI .i64) a1)] (fun r=>.int .i64 r):=ok1 (zg6.eq_1 a0 a1) Tryz.f67 []
attribute [local irreducible] zg6
def zaR1 (j1:Unit):Option aD :=
 some ({ aD.zero with  })
def zK0 (a0:List aV) (a1:aK) (g1:Int):Option (Int⊕(Unit⊕aD)) :=
 (if (decide (g1 < (a0.length:Int)))=true then
  gd (0≤g1∧g1 < (a0.length:Int)) <|
  (if (decide ((a0.getD g1.toNat aV.zero).aJ=a1))=true then
   some (.inr (.inr ((a0.getD g1.toNat aV.zero).aN)))
  else
   some (.inl (i64.wrap (g1+1))))
 else
  some (.inr (.inl ())))
def zj1 (a0:List aV) (a1:aK):Option aD :=
 (zb9 (zK0 a0 a1) 0).bind (fun|.inl z=>zaR1 z|.inr z=>some z)
@[reducible,instance] def zdZ7 a0 a1:=mkJ (zj1 a0 a1) 0 (@zaR1.eq_1) fun (j1:Unit)=>⟨[(4,.ptr 0 0 0)],[(0,bx aD.zero)],1⟩
@[reducible,instance] def zdZ8 (a0:List aV) (a1:aK) {T:Type} (x:T):=mkL x (@zK0.eq_1 a0 a1) fun (g1:Int)=>⟨[(3,.ptr 0 0 0),(4,.ptr 1 0 0),(7,la a0),(8,.int .i64 (a0.length:Int)),(9,.int .i64 g1)],[(0,bx a1),(1,bx aD.zero)],2⟩
instance zcW2 (a0:List aV) (a1:aK):OkP (zj1 a0 a1) 259 [la a0,ga a1] (fun r=>ga r):=ok1 (zj1.eq_1 a0 a1) Tryz.f259 []
attribute [local irreducible] zj1
def zau1 (j1:Int×Int):Option (Int×Int) :=
 some ((i64.wrap (j1.1+1)),j1.2)
def zG5 (a90:(aP→Int→Int→Option (Int×Int))) (a0:aP) (a1:Int) (g1:Int×Int×Int):Option ((Int×Int×Int)⊕((Int×Int)⊕(Int×Int))) :=
 (if (decide (g1.2.1 < (a0.bE.length:Int)))=true then
  gd (0≤g1.2.1∧g1.2.1 < (a0.bE.length:Int)) <|
  (a90 (a0.bE.getD g1.2.1.toNat aP.zero) (i64.wrap (a1+1)) g1.2.2).bind fun v1 =>
  (if (decide (v1.1=0))=true then
   some (.inr (.inr (0,v1.2)))
  else
   some (.inl ((if g1.1 < v1.1 then v1.1 else g1.1),i64.wrap (g1.2.1+1),v1.2)))
 else
  some (.inr (.inl (g1.1,g1.2.2))))
def zC7 (a90:(aP→Int→Int→Option (Int×Int))) (a0:aP) (a1 a2:Int):Option (Int×Int) :=
 (if (decide (4 < a1)||decide (24 < i64.wrap (a2+1)))=true then
  some (0,i64.wrap (a2+1))
 else
  (zb9 (zG5 a90 a0 a1) (0,0,i64.wrap (a2+1))).bind (fun|.inl z=>zau1 z|.inr z=>some z))
def zw0:Nat→(aP→Int→Int→Option (Int×Int))
 | 0=>fun _ _ _=>none
 | n+1=>zC7 (zw0 n)
def ze3 (a0:aP) (a1 a2:Int):Option (Int×Int):=zw0 (_root_.SizeOf.sizeOf a0+1) a0 a1 a2
@[reducible,instance] def zdZ9 (a90:(aP→Int→Int→Option (Int×Int))) (a0:aP) (a1 a2:Int):=mkJ (zC7 a90 a0 a1 a2) 0 (@zau1.eq_1) fun (j1:Int×Int)=>⟨[(7,.int .i64 j1.1)],[(0,⟨false,1,[A.int .i64 0],[[A.int .i64 j1.2]]⟩)],1⟩
@[reducible,instance] def zea0 (a90:(aP→Int→Int→Option (Int×Int))) (a0:aP) (a1:Int) {T:Type} (x:T):=mkL x (@zG5.eq_1 a90 a0 a1) fun (g1:Int×Int×Int)=>⟨[(1,.int .i64 a1),(2,.ptr 0 0 0),(7,.int .i64 g1.1),(25,la a0.bE),(26,.int .i64 (a0.bE.length:Int)),(27,.int .i64 g1.2.1)],[(0,⟨false,1,[A.int .i64 0],[[A.int .i64 g1.2.2]]⟩)],1⟩
abbrev zY2 (g:(aP→Int→Int→Option (Int×Int))):Prop:=∀ (a0:aP) (a1:Int) (a2:Int),OkM (g a0 a1 a2) 124 [.agg (aP.enc a0),.int .i64 a1,.ptr 0 0 0] [(0,⟨false,1,[A.int .i64 0],[[A.int .i64 a2]]⟩)] 1 (fun r=>.int .i64 r.1) (fun r=>[(0,⟨false,1,[A.int .i64 0],[[A.int .i64 r.2]]⟩)]) 1
theorem zba0 (a90:(aP→Int→Int→Option (Int×Int))) (hrc:zY2 a90):zY2 (zC7 a90):=fun a0 a1 a2=>okm (zC7.eq_1 a90 a0 a1 a2) (fun r=>[.int .i64 r.1]) Tryz.f124 []
theorem zba1:∀ n,zY2 (zw0 n):=zaP2 (fun _ _ _=>⟨fun _ h=>nomatch h⟩) fun n=>zba0 _
instance zch4:zY2 ze3:=fun a0 a1 a2=>zba1 _ a0 a1 a2
attribute [local irreducible] ze3
def zR4 (j1:Unit):Option Bool :=
 some true
def zx9 (a0 a1:List aV) (g1:Int):Option (Int⊕(Unit⊕Bool)) :=
 (if (decide (g1 < (a0.length:Int)))=true then
  gd (0≤g1∧g1 < (a0.length:Int)) <|
  gd (0≤g1∧g1 < (a1.length:Int)) <|
  (if (!decide (a0.getD g1.toNat aV.zero=a1.getD g1.toNat aV.zero))=true then
   some (.inr (.inr false))
  else
   some (.inl (i64.wrap (g1+1))))
 else
  some (.inr (.inl ())))
def za9 (a0 a1:List aV):Option Bool :=
 (if (!decide ((a0.length:Int)=(a1.length:Int)))=true then
  some false
 else
  (zb9 (zx9 a0 a1) 0).bind (fun|.inl z=>zR4 z|.inr z=>some z))
@[reducible,instance] def zdD5 a0 a1:=mkJ (za9 a0 a1) 0 (@zR4.eq_1) fun (j1:Unit)=>⟨[],[],0⟩
@[reducible,instance] def zdD6 (a0 a1:List aV) {T:Type} (x:T):=mkL x (@zx9.eq_1 a0 a1) fun (g1:Int)=>⟨[(0,la a0),(1,la a1),(12,.int .i64 (a0.length:Int)),(13,.int .i64 g1)],[],0⟩
instance zat0 (a0 a1:List aV):OkP (za9 a0 a1) 68 [la a0,la a1] (fun r=>.bool r):=ok1 (za9.eq_1 a0 a1) Tryz.f68 []
attribute [local irreducible] za9
def zG6 (a0:aI):Bool :=
 ((decide (a0.kind=1)&&decide (a0.aR=1))||((decide (a0.kind=2)&&decide (1≤a0.aR))&&decide (a0.aR≤8)))
instance zcQ1 (a0:aI):OkT 189 [.agg (aI.enc a0)] (.bool (zG6 a0)):=ok2 (fun r=>.bool r) (zG6.eq_1 a0) Tryz.f189 []
def zy0 (a0:Int):Bool :=
 (decide (1≤a0)&&decide (a0≤5))
instance zcW3 (a0:Int):OkT 190 [.int .i64 a0] (.bool (zy0 a0)):=ok2 (fun r=>.bool r) (zy0.eq_1 a0) Tryz.f190 []
def zaY2 (j1:Unit):Option Int :=
 some (-1)
def zaY3 (a0:List aT) (a1:aK) (g1:Int):Option (Int⊕(Unit⊕Int)) :=
 (if (decide (g1 < (a0.length:Int)))=true then
  gd (0≤g1∧g1 < (a0.length:Int)) <|
  (if (decide ((a0.getD g1.toNat aT.zero).aJ=a1))=true then
   some (.inr (.inr g1))
  else
   some (.inl (i64.wrap (g1+1))))
 else
  some (.inr (.inl ())))
def zj4 (a0:List aT) (a1:aK):Option Int :=
 (zb9 (zaY3 a0 a1) 0).bind (fun|.inl z=>zaY2 z|.inr z=>some z)
@[reducible,instance] def zdD7 a0 a1:=mkJ (zj4 a0 a1) 0 (@zaY2.eq_1) fun (j1:Unit)=>⟨[],[],0⟩
@[reducible,instance] def zdD8 (a0:List aT) (a1:aK) {T:Type} (x:T):=mkL x (@zaY3.eq_1 a0 a1) fun (g1:Int)=>⟨[(0,la a0),(3,.ptr 0 0 0),(5,.int .i64 g1)],[(0,bx a1)],1⟩
instance zdf8 (a0:List aT) (a1:aK):OkP (zj4 a0 a1) 235 [la a0,ga a1] (fun r=>.int .i64 r):=ok1 (zj4.eq_1 a0 a1) Tryz.f235 []
attribute [local irreducible] zj4
def zaR2 (j1:(List ByteArray)):Option (List ByteArray) :=
 some j1
def zay3 (g1:Int×(List ByteArray)) (j3:(List ByteArray)):Option ((Int×(List ByteArray))⊕(List ByteArray)) :=
 some (.inl ((i64.wrap (g1.1+1)),j3))
def zZ0 (g2:Int×(List ByteArray)):Option ((Int×(List ByteArray))⊕(List ByteArray)) :=
 gd (decide (0 < g2.1)=true→0≤g2.1∧g2.1 < ((g2.2.length:Nat):Int)) <|
 gd (decide (0 < g2.1)=true→0≤i64.wrap (g2.1 - 1)∧i64.wrap (g2.1 - 1) < ((g2.2.length:Nat):Int)) <|
 (if (decide (0 < g2.1)&&Op.bytesLess (g2.2.getD g2.1.toNat ⟨#[]⟩).toList (g2.2.getD ((i64.wrap (g2.1 - 1)).toNat) ⟨#[]⟩).toList)=true then
  gd (0≤g2.1∧g2.1 < ((g2.2.length:Nat):Int)) <|
  gd (0≤i64.wrap (g2.1 - 1)∧i64.wrap (g2.1 - 1) < ((g2.2.length:Nat):Int)) <|
  gd (0≤g2.1∧g2.1 < ((g2.2.length:Nat):Int)) <|
  gd (0≤i64.wrap (g2.1 - 1)∧i64.wrap (g2.1 - 1) < ((g2.2.length:Nat):Int)) <|
  some (.inl ((i64.wrap (g2.1 - 1)),(g2.2.set g2.1.toNat (g2.2.getD ((i64.wrap (g2.1 - 1)).toNat) ⟨#[]⟩)).set ((i64.wrap (g2.1 - 1)).toNat) (g2.2.getD g2.1.toNat ⟨#[]⟩)))
 else
  some (.inr g2.2))
def zZ1 (a0:List bG) (g1:Int×(List ByteArray)) (j2:Bool):Option ((Int×(List ByteArray))⊕(List ByteArray)) :=
 (if j2=true then
  some (.inl ((i64.wrap (g1.1+1)),g1.2))
 else
  gd (0≤g1.1∧g1.1 < (a0.length:Int)) <|
  gd (g1.2.length+1≤4294967296) <|
  (zb9 zZ0 ((i64.wrap (((g1.2.length+1:Nat):Int) - 1)),(g1.2++[(a0.getD g1.1.toNat bG.zero).name]))).bind (fun z=>zay3 g1 z))
def zZ2 (a0:List bG) (g1:Int×(List ByteArray)) (g3:Bool×Int):Option ((Bool×Int)⊕Bool) :=
 (if (decide (g3.2 < ((g1.2.length:Nat):Int)))=true then
  gd ((!g3.1)=true→0≤g3.2∧g3.2 < ((g1.2.length:Nat):Int)) <|
  gd ((!g3.1)=true→0≤g1.1∧g1.1 < (a0.length:Int)) <|
  some (.inl ((g3.1||((g1.2.getD g3.2.toNat ⟨#[]⟩).toList == ((a0.getD g1.1.toNat bG.zero).name).toList)),i64.wrap (g3.2+1)))
 else
  some (.inr g3.1))
def zZ3 (a0:List bG) (g1:Int×(List ByteArray)):Option ((Int×(List ByteArray))⊕(List ByteArray)) :=
 (if (decide (g1.1 < (a0.length:Int)))=true then
  (zb9 (zZ2 a0 g1) (false,0)).bind (fun z=>zZ1 a0 g1 z)
 else
  some (.inr g1.2))
def zi1 (a0:List bG):Option (List ByteArray) :=
 (zb9 (zZ3 a0) (0,[])).bind (fun z=>zaR2 z)
@[reducible,instance] def zdD9 a0:=mkJ (zi1 a0) 0 (@zaR2.eq_1) fun (j1:(List ByteArray))=>⟨[(3,.own 0 0 j1.length)],[(0,⟨false,1,[A.str ⟨#[]⟩],j1.map eS⟩)],1⟩
@[reducible,instance] def zdE0 (a0:List bG) (g1:Int×(List ByteArray)) j2:=mkJ (zZ1 a0 g1 j2) 4 (@zay3.eq_1 g1) fun (j3:(List ByteArray))=>⟨[(0,la a0),(3,.own 0 0 j3.length),(4,.int .i64 g1.1)],[(0,⟨false,1,[A.str ⟨#[]⟩],j3.map eS⟩)],1⟩
@[reducible,instance] def zdE1 (a0:List bG) (g1:Int×(List ByteArray)) j2:=mkL (zZ1 a0 g1 j2) (@zZ0.eq_1) fun (g2:Int×(List ByteArray))=>⟨[(0,la a0),(3,.own 0 0 g2.2.length),(4,.int .i64 g1.1),(7,.int .i64 g2.1)],[(0,⟨false,1,[A.str ⟨#[]⟩],g2.2.map eS⟩)],1⟩
@[reducible,instance] def zdE2 (a0:List bG) (g1:Int×(List ByteArray)):=mkJ (zZ3 a0 g1) 2 (@zZ1.eq_1 a0 g1) fun (j2:Bool)=>⟨[(0,la a0),(3,.own 0 0 g1.2.length),(4,.int .i64 g1.1),(5,.bool j2)],[(0,⟨false,1,[A.str ⟨#[]⟩],g1.2.map eS⟩)],1⟩
@[reducible,instance] def zdE3 (a0:List bG) (g1:Int×(List ByteArray)) {T:Type} (x:T):=mkL x (@zZ2.eq_1 a0 g1) fun (g3:Bool×Int)=>⟨[(0,la a0),(3,.own 0 0 g1.2.length),(4,.int .i64 g1.1),(5,.bool g3.1),(6,.int .i64 g3.2)],[(0,⟨false,1,[A.str ⟨#[]⟩],g1.2.map eS⟩)],1⟩
@[reducible,instance] def zdE4 (a0:List bG) {T:Type} (x:T):=mkL x (@zZ3.eq_1 a0) fun (g1:Int×(List ByteArray))=>⟨[(0,la a0),(3,.own 0 0 g1.2.length),(4,.int .i64 g1.1)],[(0,⟨false,1,[A.str ⟨#[]⟩],g1.2.map eS⟩)],1⟩
instance zbK2 (a0:List bG):OkP (zi1 a0) 187 [la a0] (fun r=>.sl (r.map eS)):=ok1 (zi1.eq_1 a0) Tryz.f187 [(3,1)]
attribute [local irreducible] zi1
def zaY4 (j1:Unit):Option Int :=
 some (-1)
def zao6 (a0:List aA) (a1:ByteArray) (g1:Int):Option (Int⊕(Unit⊕Int)) :=
 (if (decide (g1 < (a0.length:Int)))=true then
  gd (0≤g1∧g1 < (a0.length:Int)) <|
  (if ((((a0.getD g1.toNat aA.zero).aB).name).toList == a1.toList)=true then
   some (.inr (.inr g1))
  else
   some (.inl (i64.wrap (g1+1))))
 else
  some (.inr (.inl ())))
def zh6 (a0:List aA) (a1:ByteArray):Option Int :=
 (zb9 (zao6 a0 a1) 0).bind (fun|.inl z=>zaY4 z|.inr z=>some z)
@[reducible,instance] def zdE5 a0 a1:=mkJ (zh6 a0 a1) 0 (@zaY4.eq_1) fun (j1:Unit)=>⟨[],[],0⟩
@[reducible,instance] def zdE6 (a0:List aA) (a1:ByteArray) {T:Type} (x:T):=mkL x (@zao6.eq_1 a0 a1) fun (g1:Int)=>⟨[(0,la a0),(1,.str a1),(5,.int .i64 g1)],[],0⟩
instance zbk7 (a0:List aA) (a1:ByteArray):OkP (zh6 a0 a1) 136 [la a0,.str a1] (fun r=>.int .i64 r):=ok1 (zh6.eq_1 a0 a1) Tryz.f136 []
attribute [local irreducible] zh6
def zaF9 (j1:Unit):Option Bool :=
 some true
def zam6 (a90:(aP→aP→Option Bool)) (a0 a1:aP) (g1:Int):Option (Int⊕(Unit⊕Bool)) :=
 (if (decide (g1 < (a0.bE.length:Int)))=true then
  gd (0≤g1∧g1 < (a0.bE.length:Int)) <|
  gd (0≤g1∧g1 < (a1.bE.length:Int)) <|
  (a90 (a0.bE.getD g1.toNat aP.zero) (a1.bE.getD g1.toNat aP.zero)).bind fun v1 =>
  (if (!v1)=true then
   some (.inr (.inr false))
  else
   some (.inl (i64.wrap (g1+1))))
 else
  some (.inr (.inl ())))
def zK1 (a90:(aP→aP→Option Bool)) (a0 a1:aP):Option Bool :=
 (if (((!decide (a0.k=a1.k))||(!decide (a0.bF=a1.bF)))||(!decide ((a0.bE.length:Int)=(a1.bE.length:Int))))=true then
  some false
 else
  (zb9 (zam6 a90 a0 a1) 0).bind (fun|.inl z=>zaF9 z|.inr z=>some z))
def zaf6:Nat→(aP→aP→Option Bool)
 | 0=>fun _ _=>none
 | n+1=>zK1 (zaf6 n)
def zg4 (a0 a1:aP):Option Bool:=zaf6 (_root_.SizeOf.sizeOf a0+1) a0 a1
@[reducible,instance] def zdE7 (a90:(aP→aP→Option Bool)) (a0 a1:aP):=mkJ (zK1 a90 a0 a1) 0 (@zaF9.eq_1) fun (j1:Unit)=>⟨[],[],0⟩
@[reducible,instance] def zdE8 (a90:(aP→aP→Option Bool)) (a0 a1:aP) {T:Type} (x:T):=mkL x (@zam6.eq_1 a90 a0 a1) fun (g1:Int)=>⟨[(2,.ptr 0 0 0),(3,.ptr 1 0 0),(5,.int .i64 g1)],[(0,bx a0),(1,bx a1)],2⟩
abbrev zak1 (g:(aP→aP→Option Bool)):Prop:=∀ (a0:aP) (a1:aP),OkP (g a0 a1) 191 [.agg (aP.enc a0),.agg (aP.enc a1)] (fun r=>.bool r)
theorem zbn6 (a90:(aP→aP→Option Bool)) (hrc:zak1 a90):zak1 (zK1 a90):=fun a0 a1=>ok1 (zK1.eq_1 a90 a0 a1) Tryz.f191 []
theorem zbn7:∀ n,zak1 (zaf6 n):=zaP2 (fun _ _=>⟨fun _ h=>nomatch h⟩) fun n=>zbn6 _
instance zcE1:zak1 zg4:=fun a0 a1=>zbn7 _ a0 a1
attribute [local irreducible] zg4
def zm5 (a0:Int):Int :=
 (if (decide (a0 < 0)||decide (1073741824≤a0))=true then
  1
 else
  (i64.wrap (a0+1)))
instance zdf9 (a0:Int):OkT 249 [.int .i64 a0] (.int .i64 (zm5 a0)):=ok2 (fun r=>.int .i64 r) (zm5.eq_1 a0) Tryz.f249 []
def zf2 (a0:List aA) (a1:Int) (a2:aA):Option (List aA) :=
 gd (a0.length≤4294967296) <|
 gd (0≤a1∧a1 < ((a0.length:Nat):Int)) <|
 some (a0.set a1.toNat a2)
instance zbv8 (a0:List aA) (a1:Int) (a2:aA):OkP (zf2 a0 a1 a2) 270 [la a0,.int .i64 a1,ga a2] (fun r=>la r):=ok1 (zf2.eq_1 a0 a1 a2) Tryz.f270 [(8,1)]
attribute [local irreducible] zf2
def zc4 (a0:List aA) (a1:List bJ) (a2:aX):Option (Int×(List aA)×(List aG)×(List bJ)) :=
 gd (a2.ev.length+a1.length≤4294967296) <|
 some (a2.c.now,a0,a2.c.aF,(a2.ev++a1))
instance zba2 (a0:List aA) (a1:List bJ) (a2:aX):OkM (zc4 a0 a1 a2) 246 [.ptr 0 0 0,la a0,la a1] [(0,⟨false,4,aX.enc aX.zero,[[.int .i64 a2.c.now,la a2.c.aC,.own 1 0 a2.c.aF.length,.own 2 0 a2.ev.length]]⟩),(1,sx a2.c.aF),(2,sx a2.ev)] 3 (fun r=>.tup []) (fun r=>[(0,⟨false,4,aX.enc aX.zero,[[.int .i64 r.1,la r.2.1,.own 1 0 r.2.2.1.length,.own 3 0 r.2.2.2.length]]⟩),(1,sx r.2.2.1),(3,sx r.2.2.2)]) 4:=okm (zc4.eq_1 a0 a1 a2) (fun r=>[]) Tryz.f246 []
attribute [local irreducible] zc4
def zi7 (a0:aA):Option aA :=
 gd (a0.aQ.length≤4294967296) <|
 gd (a0.aO.length≤4294967296) <|
 gd (a0.aS.length≤4294967296) <|
 some a0
theorem zbv9 (a0 r:aA) (h:zi7 a0=some r):MFn C 281 [ga a0] [] 0 (.agg [.str r.aB.name,.int .i64 r.aB.kind,.int .i64 r.aB.aR,.int .i64 r.aB.home,.own 0 0 r.aQ.length,.own 1 0 r.aO.length,.own 2 0 r.aS.length,.int .i64 r.gen]) [(0,sx r.aQ),(1,sx r.aO),(2,sx r.aS)] 3:=by
 refine zax1 Tryz.f281 [(3,1),(8,1),(13,1)] [.agg [.str r.aB.name,.int .i64 r.aB.kind,.int .i64 r.aB.aR,.int .i64 r.aB.home,.own 0 0 r.aQ.length,.own 1 0 r.aO.length,.own 2 0 r.aS.length,.int .i64 r.gen]] fun E hG hN hK=>?_
 unfold zi7 at h
 refine za2 (za5 hG ?_)
 refine za2 ?_
 obtain ⟨hb3,h⟩:=ze1 h
 refine za5 hG ?_
 refine za2 ?_
 obtain ⟨hb2,h⟩:=ze1 h
 refine za5 hG ?_
 refine za2 ?_
 obtain ⟨hb1,h⟩:=ze1 h
 refine za5 hG ?_
 refine za2 (za5 hG ?_)
 refine zt4 ?_
 exact zO9 [(0,3),(1,5),(2,7)] h
attribute [local irreducible] zi7
def zb0 (a0:List aT):Option (List aT) :=
 gd (a0.length≤4294967296) <|
 some a0
theorem zat1 (a0:List aT) (r:(List aT)) (h:zb0 a0=some r):PFn C 57 [la a0] (la r):=by
 refine zY9 Tryz.f57 [(5,1)] fun E hG hN hK=>?_
 unfold zb0 at h
 refine za2 (za5 hG ?_)
 refine za2 (za2 (za5 hG ?_))
 intro b hnil
 cases b
 · try refine g_st ?_
   refine zcd0 rfl hG ?_
   refine zk1 ?_
   refine za2 ?_
   obtain ⟨hb1,h⟩:=ze1 h
   refine za5 hG ?_
   refine zt4 ?_
   exact zJ4 h
 have ha:a0=[]:=iS.1 (hnil rfl)
 subst ha
 replace h:some []=some r:=by simpa [gd] using h
 try refine g_st ?_
 refine zbh4 rfl hG ?_
 refine za2 (za5 hG ?_)
 refine zt4 ?_
 exact zJ4 h
instance zbn8 (a0:List aT):OkP (zb0 a0) 57 [la a0] (fun r=>la r):=⟨zat1 a0⟩
attribute [local irreducible] zb0
end
end Ab
end Go.Proofs.YtfkjffmjkbkmhaaGreatDoor
