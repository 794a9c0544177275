import Derived.Test.YtenebhlnfjcffaaGreatDoorHand
namespace Go.Proofs.YtenebhlnfjcffaaGreatDoor
namespace Ab
open IntKind (i64 u64 u8)
set_option linter.unusedSimpArgs false
set_option linter.defProp false
set_option linter.unusedVariables false
set_option maxRecDepth 100000
set_option maxHeartbeats 1000000
noncomputable section
def zk2 (a0:aA):Bool :=
 (decide (a0={ aA.zero with  }))
instance zbr8 (a0:aA):OkT 261 [.agg (aA.enc a0)] (.bool (zk2 a0)):=ok2 (fun r=>.bool r) (zk2.eq_1 a0) Tryz.f261 []
def zl1 (a0:aF):Option (aR×Bool) :=
 (if (decide (0 < (a0.aL.length:Int)))=true then
  gd (0≤0∧0 < (a0.aL.length:Int)) <|
  some ((a0.aL.getD 0 aR.zero),true)
 else
  (if (decide (0 < (a0.aS.length:Int)))=true then
   gd (0≤0∧0 < (a0.aS.length:Int)) <|
   some ((a0.aS.getD 0 aR.zero),true)
  else
   some ({ aR.zero with  },false)))
instance zcG7 (a0:aF):OkP (zl1 a0) 135 [ga a0] (fun r=>.tup [ga r.1,.bool r.2]):=ok1 (zl1.eq_1 a0) Tryz.f135 []
attribute [local irreducible] zl1
def zaq3 (j1:(List aH)):Option (List aH) :=
 some j1
def zaq4 (a0:List aT) (g1:Int×(List aH)):Option ((Int×(List aH))⊕(List aH)) :=
 (if (decide (g1.1 < (a0.length:Int)))=true then
  gd (0≤g1.1∧g1.1 < (a0.length:Int)) <|
  gd (g1.2.length+1≤4294967296) <|
  some (.inl ((i64.wrap (g1.1+1)),(g1.2++[(a0.getD g1.1.toNat aT.zero).aN])))
 else
  some (.inr g1.2))
def ze7 (a0:List aT):Option (List aH) :=
 (zc6 (zaq4 a0) (0,[])).bind (fun z=>zaq3 z)
@[reducible,instance] def zdc1 a0:=mkJ (ze7 a0) 0 (@zaq3.eq_1) fun (j1:(List aH))=>⟨[(3,.own 0 0 j1.length)],[(0,sx j1)],1⟩
@[reducible,instance] def zdc2 (a0:List aT) {T:Type} (x:T):=mkL x (@zaq4.eq_1 a0) fun (g1:Int×(List aH))=>⟨[(3,.own 0 0 g1.2.length),(6,la a0),(7,.int .i64 (a0.length:Int)),(8,.int .i64 g1.1)],[(0,sx g1.2)],1⟩
instance zbW1 (a0:List aT):OkM (ze7 a0) 155 [la a0] [] 0 (fun r=>.own 0 0 r.length) (fun r=>[(0,sx r)]) 1:=okm (ze7.eq_1 a0) (fun r=>[.own 0 0 r.length]) Tryz.f155 [(2,1),(3,1)]
attribute [local irreducible] ze7
def zb3 (a0:Int):Option (List aR):=gd (0≤a0∧a0≤4294967296) (some [])
theorem zaf7:Lays8.n4 C.P ⟨fun|4=>210|n=>n,fun|22=>77|25=>134|n=>n,fun n=>n⟩ where
 mixed:=zab9
 f4:=⟨ "slices.Grow[[]clusterlocks/api.Wait,clusterlocks/api.Wait]",by decide,Tryz.func210.trans (cW some (by kernel_rfl))⟩
 t0:=Tryz.underlying0
 a0:=Tryz.isAgg0
 z0:=Tryz.sizeOf0
 v0:=Tryz.zeroValue0
 t3:=Tryz.underlying3
 a3:=Tryz.isAgg3
 z3:=Tryz.sizeOf3
 v3:=Tryz.zeroValue3
 t4:=Tryz.underlying4
 a4:=Tryz.isAgg4
 z4:=Tryz.sizeOf4
 v4:=Tryz.zeroValue4
 t9:=Tryz.underlying9
 a9:=Tryz.isAgg9
 z9:=Tryz.sizeOf9
 v9:=Tryz.zeroValue9
 t20:=Tryz.underlying20
 a20:=Tryz.isAgg20
 z20:=Tryz.sizeOf20
 v20:=Tryz.zeroValue20
 t22:=Tryz.underlying77
 a22:=Tryz.isAgg77
 z22:=Tryz.sizeOf77
 v22:=Tryz.zeroValue77
theorem zae4 (a0:Int) (r:List aR) (h:zb3 a0=some r):MFn C 210 [.full [],.int .i64 a0] [] 0 (.own 0 0 r.length) [(0,sx r)] 1:=by
 obtain ⟨⟨h0,h1⟩,h⟩:=zm3 h
 obtain rfl:=dG h
 exact zcx9 zaf7 (by kernel_rfl) rfl _ a0 h0 h1
attribute [local irreducible] zb3
def zI3 (a0:List aH) (j1:Unit):Option ((List aH)×(List aH)) :=
 some (a0,a0)
def zy9 (j2:Int×(List aH)):Option (Int⊕(Unit⊕((List aH)×(List aH)))) :=
 gd (0≤j2.1∧j2.1≤((j2.2.length:Nat):Int)∧((j2.2.length:Nat):Int)≤((j2.2.length:Nat):Int)) <|
 gd (0≤0∧0≤j2.1∧j2.1≤((j2.2.length:Nat):Int)) <|
 some (.inr (.inr ((((j2.2.take j2.1.toNat++List.replicate (j2.2.length - j2.1.toNat) aH.zero++j2.2.drop (j2.1.toNat+(j2.2.length - j2.1.toNat))).drop 0).take j2.1.toNat),(j2.2.take j2.1.toNat++List.replicate (j2.2.length - j2.1.toNat) aH.zero++j2.2.drop (j2.1.toNat+(j2.2.length - j2.1.toNat))))))
def zt9 (a0:List aH) (g1:Int) (g2:Int×Int×(List aH)):Option ((Int×Int×(List aH))⊕(Int×(List aH))) :=
 (if (decide (g2.2.1 < (((a0.length - g1.toNat):Nat):Int)))=true then
  gd (0≤g2.2.1∧g2.2.1 < (((a0.length - g1.toNat):Nat):Int)∧g1.toNat+(a0.length - g1.toNat)≤g2.2.2.length) <|
  gd (0≤i64.wrap (g2.2.1 - 1)∧i64.wrap (g2.2.1 - 1) < (((a0.length - g1.toNat):Nat):Int)∧g1.toNat+(a0.length - g1.toNat)≤g2.2.2.length) <|
  (if (!decide (g2.2.2.getD (g1.toNat+g2.2.1.toNat) aH.zero=g2.2.2.getD (g1.toNat+(i64.wrap (g2.2.1 - 1)).toNat) aH.zero))=true then
   gd (0≤g2.2.1∧g2.2.1 < (((a0.length - g1.toNat):Nat):Int)∧g1.toNat+(a0.length - g1.toNat)≤g2.2.2.length) <|
   gd (0≤g2.1∧g2.1 < ((g2.2.2.length:Nat):Int)) <|
   some (.inl ((i64.wrap (g2.1+1)),i64.wrap (g2.2.1+1),g2.2.2.set g2.1.toNat (g2.2.2.getD (g1.toNat+g2.2.1.toNat) aH.zero)))
  else
   some (.inl (g2.1,i64.wrap (g2.2.1+1),g2.2.2)))
 else
  some (.inr (g2.1,g2.2.2)))
def zs1 (a0:List aH) (g1:Int):Option (Int⊕(Unit⊕((List aH)×(List aH)))) :=
 (if (decide (g1 < ((a0.length:Nat):Int)))=true then
  gd (0≤g1∧g1 < ((a0.length:Nat):Int)) <|
  gd (0≤i64.wrap (g1 - 1)∧i64.wrap (g1 - 1) < ((a0.length:Nat):Int)) <|
  (if (decide (a0.getD g1.toNat aH.zero=a0.getD ((i64.wrap (g1 - 1)).toNat) aH.zero))=true then
   gd (0≤g1∧g1≤((a0.length:Nat):Int)∧((a0.length:Nat):Int)≤((a0.length:Nat):Int)) <|
   (zc6 (zt9 a0 g1) (g1,1,a0)).bind (fun z=>zy9 z)
  else
   some (.inl (i64.wrap (g1+1))))
 else
  some (.inr (.inl ())))
def za2 (a0:List aH):Option ((List aH)×(List aH)) :=
 (if (decide (((a0.length:Nat):Int) < 2))=true then
  some (a0,a0)
 else
  (zc6 (zs1 a0) 1).bind (fun|.inl z=>zI3 a0 z|.inr z=>some z))
@[reducible,instance] def zdc3 (a0:List aH):=mkJ (za2 a0) 0 (@zI3.eq_1 a0) fun (j1:Unit)=>⟨[(0,.own 0 0 a0.length)],[(0,sx a0)],1⟩
@[reducible,instance] def zdc4 (a0:List aH) (g1:Int):=mkJ (zs1 a0 g1) 2 (@zy9.eq_1) fun (j2:Int×(List aH))=>⟨[(0,.own 0 0 j2.2.length),(3,.int .i64 j2.1)],[(0,sx j2.2)],1⟩
@[reducible,instance] def zdc5 (a0:List aH) (g1:Int) {T:Type} (x:T):=mkL x (@zt9.eq_1 a0 g1) fun (g2:Int×Int×(List aH))=>⟨[(0,.own 0 0 g2.2.2.length),(3,.int .i64 g2.1),(4,.own 0 g1.toNat (a0.length - g1.toNat)),(5,.int .i64 g2.2.1)],[(0,sx g2.2.2)],1⟩
@[reducible,instance] def zdc6 (a0:List aH) {T:Type} (x:T):=mkL x (@zs1.eq_1 a0) fun (g1:Int)=>⟨[(0,.own 0 0 a0.length),(3,.int .i64 g1)],[(0,sx a0)],1⟩
instance zaa0 (a0:List aH):OkM (za2 a0) 104 [.own 0 0 a0.length] [(0,sx a0)] 1 (fun r=>la r.1) (fun r=>[(0,⟨true,3,aH.enc aH.zero,r.2.map aH.enc⟩)]) 1:=⟨fun r h=>by
 refine zaM3 Tryz.f104 [] [la r.1] fun E hG hN hK=>?_
 have hm:Mk (za2 a0):=trivial
 unfold za2 at h
 refine zb2 (zc0 hG ?_)
 refine zb2 (zb2 (zc0 hG ?_))
 refine zs2 rfl hG h (fun _ h=>?_) (fun _ h=>?_)
 · refine zb2 (zc0 hG ?_)
   refine g_gh (.fz [0]) ?_
   exact gogo
 refine zr8 ?_
 refine zb2 (zb2 (zc0 hG ?_))
 refine zaq2 hm h (fun j1 hm h=>?_) ?_
 · try refine g_st ?_
   refine zb2 (zc0 hG ?_)
   refine g_gh (.fz [0]) ?_
   exact gogo
 refine zcM5 hm hK [(0,0)] h (fun g1 y hm kx h=>?_)
 try refine g_st ?_
 refine zb2 (zb2 (zc0 hG ?_))
 refine zs2 rfl hG h (fun _ h=>?_) (fun _ h=>?_)
 · refine zr8 ?_
   refine zb2 (zK3 (zb2 ?_))
   obtain ⟨hb8,h⟩:=zm3 h
   obtain ⟨hb9,h⟩:=zm3 h
   refine zbr6 zab9 hG ?_
   refine zs2 rfl hG h (fun _ h=>?_) (fun _ h=>?_)
   · refine zb2 ?_
     obtain ⟨hb7,h⟩:=zm3 h
     refine zc0 hG ?_
     refine zb2 (zb2 (zc0 hG ?_))
     refine zaq2 hm h (fun j2 hm h=>?_) ?_
     · try refine g_st ?_
       refine zb2 ?_
       obtain ⟨hb2,h⟩:=zm3 h
       refine zc0 hG ?_
       refine zb2 ?_
       obtain ⟨hb1,h⟩:=zm3 h
       refine zc0 hG ?_
       refine g_gh (.fz [0]) ?_
       exact gogo
     exact gogo
   exact gogo
 exact gogo⟩
attribute [local irreducible] za2
def zQ9 (a0:aG) (j1:(List aG)):Option aG :=
 some (⟨a0.k,(⟨a0.aZ.name,(⟨a0.aZ.aI.mode,a0.aZ.aI.aP⟩:aA)⟩:aD),j1⟩:aG)
def zI4 (a90:(aG→Option aG)) (a0:aG) (g1:Int×(List aG)):Option ((Int×(List aG))⊕(List aG)) :=
 (if (decide (g1.1 < (a0.aV.length:Int)))=true then
  gd (0≤g1.1∧g1.1 < (a0.aV.length:Int)) <|
  (a90 (a0.aV.getD g1.1.toNat aG.zero)).bind fun v1 =>
  gd (g1.2.length+1≤4294967296) <|
  some (.inl ((i64.wrap (g1.1+1)),(g1.2++[v1])))
 else
  some (.inr g1.2))
def zw3 (a90:(aG→Option aG)) (a0:aG):Option aG :=
 (zc6 (zI4 a90 a0) (0,[])).bind (fun z=>zQ9 a0 z)
def zz9:Nat→(aG→Option aG)
 | 0=>fun _=>none
 | n+1=>zw3 (zz9 n)
def zd2 (a0:aG):Option aG:=zz9 (_root_.SizeOf.sizeOf a0+1) a0
@[reducible,instance] def zdc7 (a90:(aG→Option aG)) (a0:aG):=mkJ (zw3 a90 a0) 0 (@zQ9.eq_1 a0) fun (j1:(List aG))=>⟨[(1,.ptr 0 0 0),(2,.ptr 1 0 0),(3,.own 2 0 j1.length)],[(0,bx a0),(1,bx aG.zero),(2,sx j1)],3⟩
@[reducible,instance] def zdc8 (a90:(aG→Option aG)) (a0:aG) {T:Type} (x:T):=mkL x (@zI4.eq_1 a90 a0) fun (g1:Int×(List aG))=>⟨[(1,.ptr 0 0 0),(2,.ptr 1 0 0),(3,.own 2 0 g1.2.length),(7,la a0.aV),(8,.int .i64 (a0.aV.length:Int)),(9,.int .i64 g1.1)],[(0,bx a0),(1,bx aG.zero),(2,sx g1.2)],3⟩
abbrev zP1 (g:(aG→Option aG)):Prop:=∀ (a0:aG),OkP (g a0) 66 [.agg (aG.enc a0)] (fun r=>.agg (aG.enc r))
theorem zaD3 (a90:(aG→Option aG)) (hrc:zP1 a90):zP1 (zw3 a90):=fun a0=>⟨fun r h=>by
 refine zae3 Tryz.f66 [(3,1)] fun E hG hN hK=>?_
 have hm:Mk (zw3 a90 a0):=trivial
 unfold zw3 at h
 refine zb2 (zc0 hG ?_)
 refine zb2 (zc0 hG ?_)
 refine zb2 (zb2 (zc0 hG ?_))
 refine zaq2 hm h (fun j1 hm h=>?_) ?_
 · try refine g_st ?_
   refine zb2 (zc0 hG ?_)
   refine zb2 (zc0 hG ?_)
   refine zy1 ?_
   exact zV4 h (by intro e; subst e; simp [aD.enc,aA.enc])
 exact gogo⟩
theorem zaD4:∀ n,zP1 (zz9 n):=zav6 (fun _=>⟨fun _ h=>nomatch h⟩) fun n=>zaD3 _
instance zaG3:zP1 zd2:=fun a0=>zaD4 _ a0
attribute [local irreducible] zd2
def zaI1 (j1:Unit):Option Int :=
 some (-1)
def zae9 (a0:List aF) (a1:ByteArray) (g1:Int):Option (Int⊕(Unit⊕Int)) :=
 (if (decide (g1 < (a0.length:Int)))=true then
  gd (0≤g1∧g1 < (a0.length:Int)) <|
  (if ((((a0.getD g1.toNat aF.zero).aB).name).toList == a1.toList)=true then
   some (.inr (.inr g1))
  else
   some (.inl (i64.wrap (g1+1))))
 else
  some (.inr (.inl ())))
def zj6 (a0:List aF) (a1:ByteArray):Option Int :=
 (zc6 (zae9 a0 a1) 0).bind (fun|.inl z=>zaI1 z|.inr z=>some z)
@[reducible,instance] def zdc9 a0 a1:=mkJ (zj6 a0 a1) 0 (@zaI1.eq_1) fun (j1:Unit)=>⟨[],[],0⟩
@[reducible,instance] def zdd0 (a0:List aF) (a1:ByteArray) {T:Type} (x:T):=mkL x (@zae9.eq_1 a0 a1) fun (g1:Int)=>⟨[(1,.str a1),(7,la a0),(8,.int .i64 (a0.length:Int)),(9,.int .i64 g1)],[],0⟩
instance zcG8 (a0:List aF) (a1:ByteArray):OkP (zj6 a0 a1) 37 [la a0,.str a1] (fun r=>.int .i64 r):=ok1 (zj6.eq_1 a0 a1) Tryz.f37 []
attribute [local irreducible] zj6
def zM4 (j1:Unit):Option Bool :=
 some true
def zM5 (a0 a1:List aT) (g1:Int):Option (Int⊕(Unit⊕Bool)) :=
 (if (decide (g1 < (a0.length:Int)))=true then
  gd (0≤g1∧g1 < (a0.length:Int)) <|
  gd (0≤g1∧g1 < (a1.length:Int)) <|
  (if (!decide (a0.getD g1.toNat aT.zero=a1.getD g1.toNat aT.zero))=true then
   some (.inr (.inr false))
  else
   some (.inl (i64.wrap (g1+1))))
 else
  some (.inr (.inl ())))
def zb4 (a0 a1:List aT):Option Bool :=
 (if (!decide ((a0.length:Int)=(a1.length:Int)))=true then
  some false
 else
  (zc6 (zM5 a0 a1) 0).bind (fun|.inl z=>zM4 z|.inr z=>some z))
@[reducible,instance] def zdd1 a0 a1:=mkJ (zb4 a0 a1) 0 (@zM4.eq_1) fun (j1:Unit)=>⟨[],[],0⟩
@[reducible,instance] def zdd2 (a0 a1:List aT) {T:Type} (x:T):=mkL x (@zM5.eq_1 a0 a1) fun (g1:Int)=>⟨[(0,la a0),(1,la a1),(12,.int .i64 (a0.length:Int)),(13,.int .i64 g1)],[],0⟩
instance zai0 (a0 a1:List aT):OkP (zb4 a0 a1) 151 [la a0,la a1] (fun r=>.bool r):=ok1 (zb4.eq_1 a0 a1) Tryz.f151 []
attribute [local irreducible] zb4
def zR0 (a0 a1:aR):Bool :=
 (decide ({ a0 with bO:=0 }={ a1 with bO:=0 }))
instance zbz6 (a0 a1:aR):OkT 153 [.agg (aR.enc a0),.agg (aR.enc a1)] (.bool (zR0 a0 a1)):=ok2 (fun r=>.bool r) (zR0.eq_1 a0 a1) Tryz.f153 []
def za8 (a0:List aR):Option (List aR) :=
 gd (a0.length≤4294967296) <|
 some a0
theorem zai1 (a0:List aR) (r:(List aR)) (h:za8 a0=some r):PFn C 65 [la a0] (la r):=by
 refine zae3 Tryz.f65 [(5,1)] fun E hG hN hK=>?_
 unfold za8 at h
 refine zb2 (zc0 hG ?_)
 refine zb2 (zb2 (zc0 hG ?_))
 intro b hnil
 cases b
 · try refine g_st ?_
   refine zbm6 rfl hG ?_
   refine zr8 ?_
   refine zb2 ?_
   obtain ⟨hb1,h⟩:=zm3 h
   refine zc0 hG ?_
   refine zy1 ?_
   exact zV4 h
 have ha:a0=[]:=iC.1 (hnil rfl)
 subst ha
 replace h:some []=some r:=by simpa [gd] using h
 try refine g_st ?_
 refine zaG2 rfl hG ?_
 refine zb2 (zc0 hG ?_)
 refine zy1 ?_
 exact zV4 h
instance zaV0 (a0:List aR):OkP (za8 a0) 65 [la a0] (fun r=>la r):=⟨zai1 a0⟩
attribute [local irreducible] za8
def zJ1 (a0:Int):Bool :=
 (decide (97≤a0)&&decide (a0≤122))
instance zcr7 (a0:Int):OkT 211 [.int .u8 a0] (.bool (zJ1 a0)):=ok2 (fun r=>.bool r) (zJ1.eq_1 a0) Tryz.f211 []
def zaM4 (j1:Unit):Option aA :=
 some ({ aA.zero with  })
def zaj4 (a0:List aT) (a1:aH) (g1:Int):Option (Int⊕(Unit⊕aA)) :=
 (if (decide (g1 < (a0.length:Int)))=true then
  gd (0≤g1∧g1 < (a0.length:Int)) <|
  (if (decide ((a0.getD g1.toNat aT.zero).aN=a1))=true then
   gd (0≤g1∧g1 < (a0.length:Int)) <|
   some (.inr (.inr ((a0.getD g1.toNat aT.zero).aI)))
  else
   some (.inl (i64.wrap (g1+1))))
 else
  some (.inr (.inl ())))
def zl5 (a0:List aT) (a1:aH):Option aA :=
 (zc6 (zaj4 a0 a1) 0).bind (fun|.inl z=>zaM4 z|.inr z=>some z)
@[reducible,instance] def zdd3 a0 a1:=mkJ (zl5 a0 a1) 0 (@zaM4.eq_1) fun (j1:Unit)=>⟨[(4,.ptr 0 0 0)],[(0,bx aA.zero)],1⟩
@[reducible,instance] def zdd4 (a0:List aT) (a1:aH) {T:Type} (x:T):=mkL x (@zaj4.eq_1 a0 a1) fun (g1:Int)=>⟨[(0,la a0),(3,.ptr 0 0 0),(4,.ptr 1 0 0),(5,.int .i64 g1)],[(0,bx a1),(1,bx aA.zero)],2⟩
instance zcM6 (a0:List aT) (a1:aH):OkP (zl5 a0 a1) 145 [la a0,ga a1] (fun r=>ga r):=ok1 (zl5.eq_1 a0 a1) Tryz.f145 []
attribute [local irreducible] zl5
def zav7 (j1:(List aH)):Option (List aH) :=
 some j1
def zV8 (a0:List aT) (g1:Int×(List aH)):Option ((Int×(List aH))⊕(List aH)) :=
 (if (decide (g1.1 < (a0.length:Int)))=true then
  gd (0≤g1.1∧g1.1 < (a0.length:Int)) <|
  gd (g1.2.length+1≤4294967296) <|
  some (.inl ((i64.wrap (g1.1+1)),(g1.2++[(a0.getD g1.1.toNat aT.zero).aN])))
 else
  some (.inr g1.2))
def zg4 (a0:List aT):Option (List aH) :=
 (zc6 (zV8 a0) (0,[])).bind (fun z=>zav7 z)
@[reducible,instance] def zdd5 a0:=mkJ (zg4 a0) 0 (@zav7.eq_1) fun (j1:(List aH))=>⟨[(3,.own 0 0 j1.length)],[(0,sx j1)],1⟩
@[reducible,instance] def zdd6 (a0:List aT) {T:Type} (x:T):=mkL x (@zV8.eq_1 a0) fun (g1:Int×(List aH))=>⟨[(0,la a0),(3,.own 0 0 g1.2.length),(4,.int .i64 g1.1)],[(0,sx g1.2)],1⟩
instance zch1 (a0:List aT):OkM (zg4 a0) 178 [la a0] [] 0 (fun r=>.own 0 0 r.length) (fun r=>[(0,sx r)]) 1:=okm (zg4.eq_1 a0) (fun r=>[.own 0 0 r.length]) Tryz.f178 [(2,1),(3,1)]
attribute [local irreducible] zg4
def zan0 (j2:(List aH)):Option (List aH) :=
 some j2
def zac0 (a0:aF) (g1:Int×(List aH)):Option ((Int×(List aH))⊕(List aH)) :=
 (if (decide (g1.1 < (a0.aS.length:Int)))=true then
  gd (0≤g1.1∧g1.1 < (a0.aS.length:Int)) <|
  gd (g1.2.length+1≤4294967296) <|
  some (.inl ((i64.wrap (g1.1+1)),(g1.2++[(a0.aS.getD g1.1.toNat aR.zero).aN])))
 else
  some (.inr g1.2))
def zac1 (a0:aF) (j1:(List aH)):Option (List aH) :=
 (zc6 (zac0 a0) (0,j1)).bind (fun z=>zan0 z)
def zac2 (a0:aF) (g2:Int×(List aH)):Option ((Int×(List aH))⊕(List aH)) :=
 (if (decide (g2.1 < (a0.aL.length:Int)))=true then
  gd (0≤g2.1∧g2.1 < (a0.aL.length:Int)) <|
  gd (g2.2.length+1≤4294967296) <|
  some (.inl ((i64.wrap (g2.1+1)),(g2.2++[(a0.aL.getD g2.1.toNat aR.zero).aN])))
 else
  some (.inr g2.2))
def zi6 (a0:aF):Option (List aH) :=
 (zc6 (zac2 a0) (0,[])).bind (fun z=>zac1 a0 z)
@[reducible,instance] def zdd7 a0 j1:=mkJ (zac1 a0 j1) 2 (@zan0.eq_1) fun (j2:(List aH))=>⟨[(3,.own 0 0 j2.length)],[(0,sx j2)],1⟩
@[reducible,instance] def zdd8 (a0:aF) {T:Type} (x:T):=mkL x (@zac0.eq_1 a0) fun (g1:Int×(List aH))=>⟨[(1,.ptr 0 0 0),(3,.own 1 0 g1.2.length),(5,.int .i64 g1.1)],[(0,bx a0),(1,sx g1.2)],2⟩
@[reducible,instance] def zdd9 (a0:aF):=mkJ (zi6 a0) 0 (@zac1.eq_1 a0) fun (j1:(List aH))=>⟨[(1,.ptr 0 0 0),(3,.own 1 0 j1.length)],[(0,bx a0),(1,sx j1)],2⟩
@[reducible,instance] def zde0 (a0:aF) {T:Type} (x:T):=mkL x (@zac2.eq_1 a0) fun (g2:Int×(List aH))=>⟨[(1,.ptr 0 0 0),(3,.own 1 0 g2.2.length),(4,.int .i64 g2.1)],[(0,bx a0),(1,sx g2.2)],2⟩
instance zcy0 (a0:aF):OkP (zi6 a0) 179 [ga a0] (fun r=>la r):=ok1 (zi6.eq_1 a0) Tryz.f179 [(3,1)]
attribute [local irreducible] zi6
def zaD5 (j1:Unit):Option Int :=
 some (-1)
def zac3 (a0:List aO) (a1:aH) (g1:Int):Option (Int⊕(Unit⊕Int)) :=
 (if (decide (g1 < (a0.length:Int)))=true then
  gd (0≤g1∧g1 < (a0.length:Int)) <|
  (if (decide ((a0.getD g1.toNat aO.zero).aN=a1))=true then
   some (.inr (.inr g1))
  else
   some (.inl (i64.wrap (g1+1))))
 else
  some (.inr (.inl ())))
def zi7 (a0:List aO) (a1:aH):Option Int :=
 (zc6 (zac3 a0 a1) 0).bind (fun|.inl z=>zaD5 z|.inr z=>some z)
@[reducible,instance] def zde1 a0 a1:=mkJ (zi7 a0 a1) 0 (@zaD5.eq_1) fun (j1:Unit)=>⟨[],[],0⟩
@[reducible,instance] def zde2 (a0:List aO) (a1:aH) {T:Type} (x:T):=mkL x (@zac3.eq_1 a0 a1) fun (g1:Int)=>⟨[(0,la a0),(3,.ptr 0 0 0),(5,.int .i64 g1)],[(0,bx a1)],1⟩
instance zcy1 (a0:List aO) (a1:aH):OkP (zi7 a0 a1) 69 [la a0,ga a1] (fun r=>.int .i64 r):=ok1 (zi7.eq_1 a0 a1) Tryz.f69 []
attribute [local irreducible] zi7
def zaI2 (j1:Unit):Option (aC×Bool) :=
 some ({ aC.zero with  },false)
def zaf0 (a0:List aC) (a1:ByteArray) (g1:Int):Option (Int⊕(Unit⊕(aC×Bool))) :=
 (if (decide (g1 < (a0.length:Int)))=true then
  gd (0≤g1∧g1 < (a0.length:Int)) <|
  (if (((a0.getD g1.toNat aC.zero).name).toList == a1.toList)=true then
   gd (0≤g1∧g1 < (a0.length:Int)) <|
   some (.inr (.inr ((a0.getD g1.toNat aC.zero),true)))
  else
   some (.inl (i64.wrap (g1+1))))
 else
  some (.inr (.inl ())))
def zk5 (a0:List aC) (a1:ByteArray):Option (aC×Bool) :=
 (zc6 (zaf0 a0 a1) 0).bind (fun|.inl z=>zaI2 z|.inr z=>some z)
@[reducible,instance] def zde3 a0 a1:=mkJ (zk5 a0 a1) 0 (@zaI2.eq_1) fun (j1:Unit)=>⟨[(4,.ptr 0 0 0)],[(0,bx aC.zero)],1⟩
@[reducible,instance] def zde4 (a0:List aC) (a1:ByteArray) {T:Type} (x:T):=mkL x (@zaf0.eq_1 a0 a1) fun (g1:Int)=>⟨[(0,la a0),(1,.str a1),(4,.ptr 0 0 0),(6,.int .i64 g1)],[(0,bx aC.zero)],1⟩
instance zcG9 (a0:List aC) (a1:ByteArray):OkP (zk5 a0 a1) 241 [la a0,.str a1] (fun r=>.tup [ga r.1,.bool r.2]):=ok1 (zk5.eq_1 a0 a1) Tryz.f241 []
attribute [local irreducible] zk5
def zK9 (a0 a1 a2:Int):Bool :=
 (decide (a1≤a0)&&decide (a0≤a2))
instance zcl8 (a0 a1 a2:Int):OkT 79 [.int .i64 a0,.int .i64 a1,.int .i64 a2] (.bool (zK9 a0 a1 a2)):=ok2 (fun r=>.bool r) (zK9.eq_1 a0 a1 a2) Tryz.f79 []
def zaD6 (j1:Unit):Option aA :=
 some ({ aA.zero with  })
def zG5 (a0:List aT) (a1:aH) (g1:Int):Option (Int⊕(Unit⊕aA)) :=
 (if (decide (g1 < (a0.length:Int)))=true then
  gd (0≤g1∧g1 < (a0.length:Int)) <|
  (if (decide ((a0.getD g1.toNat aT.zero).aN=a1))=true then
   some (.inr (.inr ((a0.getD g1.toNat aT.zero).aI)))
  else
   some (.inl (i64.wrap (g1+1))))
 else
  some (.inr (.inl ())))
def zh8 (a0:List aT) (a1:aH):Option aA :=
 (zc6 (zG5 a0 a1) 0).bind (fun|.inl z=>zaD6 z|.inr z=>some z)
@[reducible,instance] def zdB0 a0 a1:=mkJ (zh8 a0 a1) 0 (@zaD6.eq_1) fun (j1:Unit)=>⟨[(4,.ptr 0 0 0)],[(0,bx aA.zero)],1⟩
@[reducible,instance] def zdB1 (a0:List aT) (a1:aH) {T:Type} (x:T):=mkL x (@zG5.eq_1 a0 a1) fun (g1:Int)=>⟨[(3,.ptr 0 0 0),(4,.ptr 1 0 0),(7,la a0),(8,.int .i64 (a0.length:Int)),(9,.int .i64 g1)],[(0,bx a1),(1,bx aA.zero)],2⟩
instance zcy2 (a0:List aT) (a1:aH):OkP (zh8 a0 a1) 283 [la a0,ga a1] (fun r=>ga r):=ok1 (zh8.eq_1 a0 a1) Tryz.f283 []
attribute [local irreducible] zh8
def zaj5 (j1:Int×Int):Option (Int×Int) :=
 some ((i64.wrap (j1.1+1)),j1.2)
def zE5 (a90:(aG→Int→Int→Option (Int×Int))) (a0:aG) (a1:Int) (g1:Int×Int×Int):Option ((Int×Int×Int)⊕((Int×Int)⊕(Int×Int))) :=
 (if (decide (g1.2.1 < (a0.aV.length:Int)))=true then
  gd (0≤g1.2.1∧g1.2.1 < (a0.aV.length:Int)) <|
  (a90 (a0.aV.getD g1.2.1.toNat aG.zero) (i64.wrap (a1+1)) g1.2.2).bind fun v1 =>
  (if (decide (v1.1=0))=true then
   some (.inr (.inr (0,v1.2)))
  else
   some (.inl ((if g1.1 < v1.1 then v1.1 else g1.1),i64.wrap (g1.2.1+1),v1.2)))
 else
  some (.inr (.inl (g1.1,g1.2.2))))
def zB6 (a90:(aG→Int→Int→Option (Int×Int))) (a0:aG) (a1 a2:Int):Option (Int×Int) :=
 (if (decide (4 < a1)||decide (24 < i64.wrap (a2+1)))=true then
  some (0,i64.wrap (a2+1))
 else
  (zc6 (zE5 a90 a0 a1) (0,0,i64.wrap (a2+1))).bind (fun|.inl z=>zaj5 z|.inr z=>some z))
def zu4:Nat→(aG→Int→Int→Option (Int×Int))
 | 0=>fun _ _ _=>none
 | n+1=>zB6 (zu4 n)
def ze1 (a0:aG) (a1 a2:Int):Option (Int×Int):=zu4 (_root_.SizeOf.sizeOf a0+1) a0 a1 a2
@[reducible,instance] def zdB2 (a90:(aG→Int→Int→Option (Int×Int))) (a0:aG) (a1 a2:Int):=mkJ (zB6 a90 a0 a1 a2) 0 (@zaj5.eq_1) fun (j1:Int×Int)=>⟨[(7,.int .i64 j1.1)],[(0,⟨false,1,[A.int .i64 0],[[A.int .i64 j1.2]]⟩)],1⟩
@[reducible,instance] def zdB3 (a90:(aG→Int→Int→Option (Int×Int))) (a0:aG) (a1:Int) {T:Type} (x:T):=mkL x (@zE5.eq_1 a90 a0 a1) fun (g1:Int×Int×Int)=>⟨[(1,.int .i64 a1),(2,.ptr 0 0 0),(7,.int .i64 g1.1),(25,la a0.aV),(26,.int .i64 (a0.aV.length:Int)),(27,.int .i64 g1.2.1)],[(0,⟨false,1,[A.int .i64 0],[[A.int .i64 g1.2.2]]⟩)],1⟩
abbrev zR6 (g:(aG→Int→Int→Option (Int×Int))):Prop:=∀ (a0:aG) (a1:Int) (a2:Int),OkM (g a0 a1 a2) 137 [.agg (aG.enc a0),.int .i64 a1,.ptr 0 0 0] [(0,⟨false,1,[A.int .i64 0],[[A.int .i64 a2]]⟩)] 1 (fun r=>.int .i64 r.1) (fun r=>[(0,⟨false,1,[A.int .i64 0],[[A.int .i64 r.2]]⟩)]) 1
theorem zaK2 (a90:(aG→Int→Int→Option (Int×Int))) (hrc:zR6 a90):zR6 (zB6 a90):=fun a0 a1 a2=>okm (zB6.eq_1 a90 a0 a1 a2) (fun r=>[.int .i64 r.1]) Tryz.f137 []
theorem zaK3:∀ n,zR6 (zu4 n):=zav6 (fun _ _ _=>⟨fun _ h=>nomatch h⟩) fun n=>zaK2 _
instance zbM0:zR6 ze1:=fun a0 a1 a2=>zaK3 _ a0 a1 a2
attribute [local irreducible] ze1
def zC0 (j1:Unit):Option Int :=
 some (-1)
def zr5 (a0:List aD) (a1:aD) (g1:Int):Option (Int⊕(Unit⊕Int)) :=
 (if (decide (g1 < (a0.length:Int)))=true then
  gd (0≤g1∧g1 < (a0.length:Int)) <|
  (if (decide (a1=a0.getD g1.toNat aD.zero))=true then
   some (.inr (.inr g1))
  else
   some (.inl (i64.wrap (g1+1))))
 else
  some (.inr (.inl ())))
def za5 (a0:List aD) (a1:aD):Option Int :=
 (zc6 (zr5 a0 a1) 0).bind (fun|.inl z=>zC0 z|.inr z=>some z)
@[reducible,instance] def zde5 a0 a1:=mkJ (za5 a0 a1) 0 (@zC0.eq_1) fun (j1:Unit)=>⟨[],[],0⟩
@[reducible,instance] def zde6 (a0:List aD) (a1:aD) {T:Type} (x:T):=mkL x (@zr5.eq_1 a0 a1) fun (g1:Int)=>⟨[(0,la a0),(3,.ptr 0 0 0),(7,.int .i64 (a0.length:Int)),(8,.int .i64 g1)],[(0,bx a1)],1⟩
instance zaY0 (a0:List aD) (a1:aD):OkP (za5 a0 a1) 209 [la a0,ga a1] (fun r=>.int .i64 r):=ok1 (za5.eq_1 a0 a1) Tryz.f209 []
attribute [local irreducible] za5
def zs8 (a0:bG):Bool :=
 ((((decide (a0.aW=0)&&decide (a0.limit=0))&&decide (a0.bL.k=0))&&decide (a0.bL.aZ={ aD.zero with  }))&&decide ((a0.bL.aV.length:Int)=0))
instance zbI8 (a0:bG):OkT 173 [.agg (bG.enc a0)] (.bool (zs8 a0)):=ok2 (fun r=>.bool r) (zs8.eq_1 a0) Tryz.f173 []
def za9 (a0:List aT):Option (List aT) :=
 gd (a0.length≤4294967296) <|
 some a0
theorem zai2 (a0:List aT) (r:(List aT)) (h:za9 a0=some r):PFn C 64 [la a0] (la r):=by
 refine zae3 Tryz.f64 [(5,1)] fun E hG hN hK=>?_
 unfold za9 at h
 refine zb2 (zc0 hG ?_)
 refine zb2 (zb2 (zc0 hG ?_))
 intro b hnil
 cases b
 · try refine g_st ?_
   refine zbm6 rfl hG ?_
   refine zr8 ?_
   refine zb2 ?_
   obtain ⟨hb1,h⟩:=zm3 h
   refine zc0 hG ?_
   refine zy1 ?_
   exact zV4 h
 have ha:a0=[]:=iC.1 (hnil rfl)
 subst ha
 replace h:some []=some r:=by simpa [gd] using h
 try refine g_st ?_
 refine zaG2 rfl hG ?_
 refine zb2 (zc0 hG ?_)
 refine zy1 ?_
 exact zV4 h
instance zaV1 (a0:List aT):OkP (za9 a0) 64 [la a0] (fun r=>la r):=⟨zai2 a0⟩
attribute [local irreducible] za9
def zD6 (a0:ByteArray):Bool :=
 (((((a0.toList == (⟨#[97,108,108]⟩:ByteArray).toList)||(a0.toList == (⟨#[97,110,121]⟩:ByteArray).toList))||(a0.toList == (⟨#[111,102]⟩:ByteArray).toList))||(a0.toList == (⟨#[112,114,105,111]⟩:ByteArray).toList))||(a0.toList == (⟨#[108,105,109,105,116]⟩:ByteArray).toList))
instance zch2 (a0:ByteArray):OkT 212 [.str a0] (.bool (zD6 a0)):=ok2 (fun r=>.bool r) (zD6.eq_1 a0) Tryz.f212 []
def zq7 (a0:aH):Bool :=
 (((((decide (0≤a0.site)&&decide (a0.site < 4))&&decide (1≤a0.inc))&&decide (a0.inc≤99))&&decide (1≤a0.num))&&decide (a0.num≤999))
instance zbZ3 (a0:aH):OkT 117 [.agg (aH.enc a0)] (.bool (zq7 a0)):=ok2 (fun r=>.bool r) (zq7.eq_1 a0) Tryz.f117 []
def zaf8 (j1:(List aA)):Option (List aA) :=
 some j1
def zO3 (a0:List aT) (g1:Int×(List aA)):Option ((Int×(List aA))⊕(List aA)) :=
 (if (decide (g1.1 < (a0.length:Int)))=true then
  gd (0≤g1.1∧g1.1 < (a0.length:Int)) <|
  gd (g1.2.length+1≤4294967296) <|
  some (.inl ((i64.wrap (g1.1+1)),(g1.2++[(a0.getD g1.1.toNat aT.zero).aI])))
 else
  some (.inr g1.2))
def zf7 (a0:List aT):Option (List aA) :=
 (zc6 (zO3 a0) (0,[])).bind (fun z=>zaf8 z)
@[reducible,instance] def zde7 a0:=mkJ (zf7 a0) 0 (@zaf8.eq_1) fun (j1:(List aA))=>⟨[(3,.own 0 0 j1.length)],[(0,sx j1)],1⟩
@[reducible,instance] def zde8 (a0:List aT) {T:Type} (x:T):=mkL x (@zO3.eq_1 a0) fun (g1:Int×(List aA))=>⟨[(0,la a0),(3,.own 0 0 g1.2.length),(4,.int .i64 g1.1)],[(0,sx g1.2)],1⟩
instance zcl9 (a0:List aT):OkP (zf7 a0) 307 [la a0] (fun r=>la r):=ok1 (zf7.eq_1 a0) Tryz.f307 [(3,1)]
attribute [local irreducible] zf7
def zq2 (a0:aA):Bool :=
 (decide (a0={ aA.zero with  }))
instance zcH0 (a0:aA):OkT 143 [.agg (aA.enc a0)] (.bool (zq2 a0)):=ok2 (fun r=>.bool r) (zq2.eq_1 a0) Tryz.f143 []
def zaI3 (j1:aA):Option aA :=
 some j1
def zaf1 (a0:List bB) (a1:ByteArray) (g1:Int×aA):Option ((Int×aA)⊕aA) :=
 (if (decide (g1.1 < (a0.length:Int)))=true then
  gd (0≤g1.1∧g1.1 < (a0.length:Int)) <|
  (if (((a0.getD g1.1.toNat bB.zero).name).toList == a1.toList)=true then
   gd (0≤g1.1∧g1.1 < (a0.length:Int)) <|
   some (.inl ((i64.wrap (g1.1+1)),(a0.getD g1.1.toNat bB.zero).after))
  else
   some (.inl ((i64.wrap (g1.1+1)),g1.2)))
 else
  some (.inr g1.2))
def zj1 (a0:List bB) (a1:ByteArray):Option aA :=
 (zc6 (zaf1 a0 a1) (0,aA.zero)).bind (fun z=>zaI3 z)
@[reducible,instance] def zde9 a0 a1:=mkJ (zj1 a0 a1) 0 (@zaI3.eq_1) fun (j1:aA)=>⟨[(4,.ptr 0 0 0),(5,.ptr 1 0 0)],[(0,bx aA.zero),(1,bx j1)],2⟩
@[reducible,instance] def zdf0 (a0:List bB) (a1:ByteArray) {T:Type} (x:T):=mkL x (@zaf1.eq_1 a0 a1) fun (g1:Int×aA)=>⟨[(0,la a0),(1,.str a1),(4,.ptr 0 0 0),(5,.ptr 1 0 0),(6,.int .i64 g1.1)],[(0,bx aA.zero),(1,bx g1.2)],2⟩
instance zcH1 (a0:List bB) (a1:ByteArray):OkP (zj1 a0 a1) 181 [la a0,.str a1] (fun r=>ga r):=ok1 (zj1.eq_1 a0 a1) Tryz.f181 []
attribute [local irreducible] zj1
def zaD7 (j1:(List ByteArray)):Option (List ByteArray) :=
 some j1
def zan1 (g1:Int×(List ByteArray)) (j3:(List ByteArray)):Option ((Int×(List ByteArray))⊕(List ByteArray)) :=
 some (.inl ((i64.wrap (g1.1+1)),j3))
def zS6 (g2:Int×(List ByteArray)):Option ((Int×(List ByteArray))⊕(List ByteArray)) :=
 gd (decide (0 < g2.1)=true→0≤g2.1∧g2.1 < ((g2.2.length:Nat):Int)) <|
 gd (decide (0 < g2.1)=true→0≤i64.wrap (g2.1 - 1)∧i64.wrap (g2.1 - 1) < ((g2.2.length:Nat):Int)) <|
 (if (decide (0 < g2.1)&&Op.bytesLess (g2.2.getD g2.1.toNat ⟨#[]⟩).toList (g2.2.getD ((i64.wrap (g2.1 - 1)).toNat) ⟨#[]⟩).toList)=true then
  gd (0≤g2.1∧g2.1 < ((g2.2.length:Nat):Int)) <|
  gd (0≤i64.wrap (g2.1 - 1)∧i64.wrap (g2.1 - 1) < ((g2.2.length:Nat):Int)) <|
  gd (0≤g2.1∧g2.1 < ((g2.2.length:Nat):Int)) <|
  gd (0≤i64.wrap (g2.1 - 1)∧i64.wrap (g2.1 - 1) < ((g2.2.length:Nat):Int)) <|
  some (.inl ((i64.wrap (g2.1 - 1)),(g2.2.set g2.1.toNat (g2.2.getD ((i64.wrap (g2.1 - 1)).toNat) ⟨#[]⟩)).set ((i64.wrap (g2.1 - 1)).toNat) (g2.2.getD g2.1.toNat ⟨#[]⟩)))
 else
  some (.inr g2.2))
def zS7 (a0:List bB) (g1:Int×(List ByteArray)) (j2:Bool):Option ((Int×(List ByteArray))⊕(List ByteArray)) :=
 (if j2=true then
  some (.inl ((i64.wrap (g1.1+1)),g1.2))
 else
  gd (0≤g1.1∧g1.1 < (a0.length:Int)) <|
  gd (g1.2.length+1≤4294967296) <|
  (zc6 zS6 ((i64.wrap (((g1.2.length+1:Nat):Int) - 1)),(g1.2++[(a0.getD g1.1.toNat bB.zero).name]))).bind (fun z=>zan1 g1 z))
def zS8 (a0:List bB) (g1:Int×(List ByteArray)) (g3:Bool×Int):Option ((Bool×Int)⊕Bool) :=
 (if (decide (g3.2 < ((g1.2.length:Nat):Int)))=true then
  gd ((!g3.1)=true→0≤g3.2∧g3.2 < ((g1.2.length:Nat):Int)) <|
  gd ((!g3.1)=true→0≤g1.1∧g1.1 < (a0.length:Int)) <|
  some (.inl ((g3.1||((g1.2.getD g3.2.toNat ⟨#[]⟩).toList == ((a0.getD g1.1.toNat bB.zero).name).toList)),i64.wrap (g3.2+1)))
 else
  some (.inr g3.1))
def zS9 (a0:List bB) (g1:Int×(List ByteArray)):Option ((Int×(List ByteArray))⊕(List ByteArray)) :=
 (if (decide (g1.1 < (a0.length:Int)))=true then
  (zc6 (zS8 a0 g1) (false,0)).bind (fun z=>zS7 a0 g1 z)
 else
  some (.inr g1.2))
def zh5 (a0:List bB):Option (List ByteArray) :=
 (zc6 (zS9 a0) (0,[])).bind (fun z=>zaD7 z)
@[reducible,instance] def zdf1 a0:=mkJ (zh5 a0) 0 (@zaD7.eq_1) fun (j1:(List ByteArray))=>⟨[(3,.own 0 0 j1.length)],[(0,⟨false,1,[A.str ⟨#[]⟩],j1.map eS⟩)],1⟩
@[reducible,instance] def zdf2 (a0:List bB) (g1:Int×(List ByteArray)) j2:=mkJ (zS7 a0 g1 j2) 4 (@zan1.eq_1 g1) fun (j3:(List ByteArray))=>⟨[(0,la a0),(3,.own 0 0 j3.length),(4,.int .i64 g1.1)],[(0,⟨false,1,[A.str ⟨#[]⟩],j3.map eS⟩)],1⟩
@[reducible,instance] def zdf3 (a0:List bB) (g1:Int×(List ByteArray)) j2:=mkL (zS7 a0 g1 j2) (@zS6.eq_1) fun (g2:Int×(List ByteArray))=>⟨[(0,la a0),(3,.own 0 0 g2.2.length),(4,.int .i64 g1.1),(7,.int .i64 g2.1)],[(0,⟨false,1,[A.str ⟨#[]⟩],g2.2.map eS⟩)],1⟩
@[reducible,instance] def zdf4 (a0:List bB) (g1:Int×(List ByteArray)):=mkJ (zS9 a0 g1) 2 (@zS7.eq_1 a0 g1) fun (j2:Bool)=>⟨[(0,la a0),(3,.own 0 0 g1.2.length),(4,.int .i64 g1.1),(5,.bool j2)],[(0,⟨false,1,[A.str ⟨#[]⟩],g1.2.map eS⟩)],1⟩
@[reducible,instance] def zdf5 (a0:List bB) (g1:Int×(List ByteArray)) {T:Type} (x:T):=mkL x (@zS8.eq_1 a0 g1) fun (g3:Bool×Int)=>⟨[(0,la a0),(3,.own 0 0 g1.2.length),(4,.int .i64 g1.1),(5,.bool g3.1),(6,.int .i64 g3.2)],[(0,⟨false,1,[A.str ⟨#[]⟩],g1.2.map eS⟩)],1⟩
@[reducible,instance] def zdf6 (a0:List bB) {T:Type} (x:T):=mkL x (@zS9.eq_1 a0) fun (g1:Int×(List ByteArray))=>⟨[(0,la a0),(3,.own 0 0 g1.2.length),(4,.int .i64 g1.1)],[(0,⟨false,1,[A.str ⟨#[]⟩],g1.2.map eS⟩)],1⟩
instance zcy3 (a0:List bB):OkP (zh5 a0) 183 [la a0] (fun r=>.sl (r.map eS)):=ok1 (zh5.eq_1 a0) Tryz.f183 [(3,1)]
attribute [local irreducible] zh5
def zaI4 (j1:Unit):Option Int :=
 some (-1)
def zaf2 (a0:List aF) (a1:ByteArray) (g1:Int):Option (Int⊕(Unit⊕Int)) :=
 (if (decide (g1 < (a0.length:Int)))=true then
  gd (0≤g1∧g1 < (a0.length:Int)) <|
  (if ((((a0.getD g1.toNat aF.zero).aB).name).toList == a1.toList)=true then
   some (.inr (.inr g1))
  else
   some (.inl (i64.wrap (g1+1))))
 else
  some (.inr (.inl ())))
def zj7 (a0:List aF) (a1:ByteArray):Option Int :=
 (zc6 (zaf2 a0 a1) 0).bind (fun|.inl z=>zaI4 z|.inr z=>some z)
@[reducible,instance] def zdf7 a0 a1:=mkJ (zj7 a0 a1) 0 (@zaI4.eq_1) fun (j1:Unit)=>⟨[],[],0⟩
@[reducible,instance] def zdf8 (a0:List aF) (a1:ByteArray) {T:Type} (x:T):=mkL x (@zaf2.eq_1 a0 a1) fun (g1:Int)=>⟨[(0,la a0),(1,.str a1),(5,.int .i64 g1)],[],0⟩
instance zcH2 (a0:List aF) (a1:ByteArray):OkP (zj7 a0 a1) 88 [la a0,.str a1] (fun r=>.int .i64 r):=ok1 (zj7.eq_1 a0 a1) Tryz.f88 []
attribute [local irreducible] zj7
def zat2 (j1:Unit):Option Bool :=
 some true
def zL7 (a90:(aG→aG→Option Bool)) (a0 a1:aG) (g1:Int):Option (Int⊕(Unit⊕Bool)) :=
 (if (decide (g1 < (a0.aV.length:Int)))=true then
  gd (0≤g1∧g1 < (a0.aV.length:Int)) <|
  gd (0≤g1∧g1 < (a1.aV.length:Int)) <|
  (a90 (a0.aV.getD g1.toNat aG.zero) (a1.aV.getD g1.toNat aG.zero)).bind fun v1 =>
  (if (!v1)=true then
   some (.inr (.inr false))
  else
   some (.inl (i64.wrap (g1+1))))
 else
  some (.inr (.inl ())))
def zz3 (a90:(aG→aG→Option Bool)) (a0 a1:aG):Option Bool :=
 (if (((!decide (a0.k=a1.k))||(!decide (a0.aZ=a1.aZ)))||(!decide ((a0.aV.length:Int)=(a1.aV.length:Int))))=true then
  some false
 else
  (zc6 (zL7 a90 a0 a1) 0).bind (fun|.inl z=>zat2 z|.inr z=>some z))
def zK4:Nat→(aG→aG→Option Bool)
 | 0=>fun _ _=>none
 | n+1=>zz3 (zK4 n)
def zf2 (a0 a1:aG):Option Bool:=zK4 (_root_.SizeOf.sizeOf a0+1) a0 a1
@[reducible,instance] def zdf9 (a90:(aG→aG→Option Bool)) (a0 a1:aG):=mkJ (zz3 a90 a0 a1) 0 (@zat2.eq_1) fun (j1:Unit)=>⟨[],[],0⟩
@[reducible,instance] def zdg0 (a90:(aG→aG→Option Bool)) (a0 a1:aG) {T:Type} (x:T):=mkL x (@zL7.eq_1 a90 a0 a1) fun (g1:Int)=>⟨[(2,.ptr 0 0 0),(3,.ptr 1 0 0),(5,.int .i64 g1)],[(0,bx a0),(1,bx a1)],2⟩
abbrev zac4 (g:(aG→aG→Option Bool)):Prop:=∀ (a0:aG) (a1:aG),OkP (g a0 a1) 60 [.agg (aG.enc a0),.agg (aG.enc a1)] (fun r=>.bool r)
theorem zaV2 (a90:(aG→aG→Option Bool)) (hrc:zac4 a90):zac4 (zz3 a90):=fun a0 a1=>ok1 (zz3.eq_1 a90 a0 a1) Tryz.f60 []
theorem zaV3:∀ n,zac4 (zK4 n):=zav6 (fun _ _=>⟨fun _ h=>nomatch h⟩) fun n=>zaV2 _
instance zch3:zac4 zf2:=fun a0 a1=>zaV3 _ a0 a1
attribute [local irreducible] zf2
def zaq5 (j1:Unit):Option Bool :=
 some true
def zaq6 (a0 a1:List aR) (g1:Int):Option (Int⊕(Unit⊕Bool)) :=
 (if (decide (g1 < (a0.length:Int)))=true then
  gd (0≤g1∧g1 < (a0.length:Int)) <|
  gd (0≤g1∧g1 < (a1.length:Int)) <|
  (if (!decide (a0.getD g1.toNat aR.zero=a1.getD g1.toNat aR.zero))=true then
   some (.inr (.inr false))
  else
   some (.inl (i64.wrap (g1+1))))
 else
  some (.inr (.inl ())))
def ze3 (a0 a1:List aR):Option Bool :=
 (if (!decide ((a0.length:Int)=(a1.length:Int)))=true then
  some false
 else
  (zc6 (zaq6 a0 a1) 0).bind (fun|.inl z=>zaq5 z|.inr z=>some z))
@[reducible,instance] def zdg1 a0 a1:=mkJ (ze3 a0 a1) 0 (@zaq5.eq_1) fun (j1:Unit)=>⟨[],[],0⟩
@[reducible,instance] def zdg2 (a0 a1:List aR) {T:Type} (x:T):=mkL x (@zaq6.eq_1 a0 a1) fun (g1:Int)=>⟨[(0,la a0),(1,la a1),(5,.int .i64 g1)],[],0⟩
instance zbZ4 (a0 a1:List aR):OkP (ze3 a0 a1) 106 [la a0,la a1] (fun r=>.bool r):=ok1 (ze3.eq_1 a0 a1) Tryz.f106 []
attribute [local irreducible] ze3
end
end Ab
end Go.Proofs.YtenebhlnfjcffaaGreatDoor
