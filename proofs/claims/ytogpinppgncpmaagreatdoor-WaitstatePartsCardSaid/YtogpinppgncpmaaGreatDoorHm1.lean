import Derived.Test.YtogpinppgncpmaaGreatDoorHand
namespace Go.Proofs.YtogpinppgncpmaaGreatDoor
namespace Ab
open IntKind (i64 u64 u8)
set_option linter.unusedSimpArgs false
set_option linter.defProp false
set_option linter.unusedVariables false
set_option maxRecDepth 100000
set_option maxHeartbeats 1000000
noncomputable section
def zf7 (a0:aI):Bool :=
 (if (decide (a0.kind=1))=true then
  (decide (a0.aS=1))
 else
  (if (decide (a0.kind=2))=true then
   (decide (1≤a0.aS)&&decide (a0.aS≤8))
  else
   false))
instance zbz9 (a0:aI):OkT 220 [.agg (aI.enc a0)] (.bool (zf7 a0)):=ok2 (fun r=>.bool r) (zf7.eq_1 a0) Tryz.f220 []
def zb2 (a0:Int):Option (List aT):=gd (0≤a0∧a0≤4294967296) (some [])
theorem zas8:Lays8.n4 C.P ⟨fun|4=>169|n=>n,fun|22=>37|25=>133|n=>n,fun n=>n⟩ where
 mixed:=zw6
 f4:=⟨ "slices.Grow[[]clusterlocks/api.Wait,clusterlocks/api.Wait]",by decide,Tryz.func169.trans (cP some (by kernel_rfl))⟩
 t0:=Tryz.underlying0
 a0:=Tryz.isAgg0
 z0:=Tryz.sizeOf0
 v0:=Tryz.zeroValue0
 t3:=Tryz.underlying3
 a3:=Tryz.isAgg3
 z3:=Tryz.sizeOf3
 v3:=Tryz.zeroValue3
 t4:=Tryz.underlying4
 a4:=Tryz.isAgg4
 z4:=Tryz.sizeOf4
 v4:=Tryz.zeroValue4
 t9:=Tryz.underlying9
 a9:=Tryz.isAgg9
 z9:=Tryz.sizeOf9
 v9:=Tryz.zeroValue9
 t20:=Tryz.underlying20
 a20:=Tryz.isAgg20
 z20:=Tryz.sizeOf20
 v20:=Tryz.zeroValue20
 t22:=Tryz.underlying37
 a22:=Tryz.isAgg37
 z22:=Tryz.sizeOf37
 v22:=Tryz.zeroValue37
theorem zaq7 (a0:Int) (r:List aT) (h:zb2 a0=some r):MFn C 169 [.full [],.int .i64 a0] [] 0 (.own 0 0 r.length) [(0,sx r)] 1:=by
 obtain ⟨⟨h0,h1⟩,h⟩:=zd5 h
 obtain rfl:=dU h
 exact zda5 zas8 (by kernel_rfl) rfl _ a0 h0 h1
attribute [local irreducible] zb2
def zO5 (a0:List aJ) (j1:Unit):Option ((List aJ)×(List aJ)) :=
 some (a0,a0)
def zB2 (j2:Int×(List aJ)):Option (Int⊕(Unit⊕((List aJ)×(List aJ)))) :=
 gd (0≤j2.1∧j2.1≤((j2.2.length:Nat):Int)∧((j2.2.length:Nat):Int)≤((j2.2.length:Nat):Int)) <|
 gd (0≤0∧0≤j2.1∧j2.1≤((j2.2.length:Nat):Int)) <|
 some (.inr (.inr ((((j2.2.take j2.1.toNat++List.replicate (j2.2.length - j2.1.toNat) aJ.zero++j2.2.drop (j2.1.toNat+(j2.2.length - j2.1.toNat))).drop 0).take j2.1.toNat),(j2.2.take j2.1.toNat++List.replicate (j2.2.length - j2.1.toNat) aJ.zero++j2.2.drop (j2.1.toNat+(j2.2.length - j2.1.toNat))))))
def zv4 (a0:List aJ) (g1:Int) (g2:Int×Int×(List aJ)):Option ((Int×Int×(List aJ))⊕(Int×(List aJ))) :=
 (if (decide (g2.2.1 < (((a0.length - g1.toNat):Nat):Int)))=true then
  gd (0≤g2.2.1∧g2.2.1 < (((a0.length - g1.toNat):Nat):Int)∧g1.toNat+(a0.length - g1.toNat)≤g2.2.2.length) <|
  gd (0≤i64.wrap (g2.2.1 - 1)∧i64.wrap (g2.2.1 - 1) < (((a0.length - g1.toNat):Nat):Int)∧g1.toNat+(a0.length - g1.toNat)≤g2.2.2.length) <|
  (if (!decide (g2.2.2.getD (g1.toNat+g2.2.1.toNat) aJ.zero=g2.2.2.getD (g1.toNat+(i64.wrap (g2.2.1 - 1)).toNat) aJ.zero))=true then
   gd (0≤g2.2.1∧g2.2.1 < (((a0.length - g1.toNat):Nat):Int)∧g1.toNat+(a0.length - g1.toNat)≤g2.2.2.length) <|
   gd (0≤g2.1∧g2.1 < ((g2.2.2.length:Nat):Int)) <|
   some (.inl ((i64.wrap (g2.1+1)),i64.wrap (g2.2.1+1),g2.2.2.set g2.1.toNat (g2.2.2.getD (g1.toNat+g2.2.1.toNat) aJ.zero)))
  else
   some (.inl (g2.1,i64.wrap (g2.2.1+1),g2.2.2)))
 else
  some (.inr (g2.1,g2.2.2)))
def zs5 (a0:List aJ) (g1:Int):Option (Int⊕(Unit⊕((List aJ)×(List aJ)))) :=
 (if (decide (g1 < ((a0.length:Nat):Int)))=true then
  gd (0≤g1∧g1 < ((a0.length:Nat):Int)) <|
  gd (0≤i64.wrap (g1 - 1)∧i64.wrap (g1 - 1) < ((a0.length:Nat):Int)) <|
  (if (decide (a0.getD g1.toNat aJ.zero=a0.getD ((i64.wrap (g1 - 1)).toNat) aJ.zero))=true then
   gd (0≤g1∧g1≤((a0.length:Nat):Int)∧((a0.length:Nat):Int)≤((a0.length:Nat):Int)) <|
   (zc0 (zv4 a0 g1) (g1,1,a0)).bind (fun z=>zB2 z)
  else
   some (.inl (i64.wrap (g1+1))))
 else
  some (.inr (.inl ())))
def za4 (a0:List aJ):Option ((List aJ)×(List aJ)) :=
 (if (decide (((a0.length:Nat):Int) < 2))=true then
  some (a0,a0)
 else
  (zc0 (zs5 a0) 1).bind (fun|.inl z=>zO5 a0 z|.inr z=>some z))
@[reducible,instance] def zdG2 (a0:List aJ):=mkJ (za4 a0) 0 (@zO5.eq_1 a0) fun (j1:Unit)=>⟨[(0,.own 0 0 a0.length)],[(0,sx a0)],1⟩
@[reducible,instance] def zdG3 (a0:List aJ) (g1:Int):=mkJ (zs5 a0 g1) 2 (@zB2.eq_1) fun (j2:Int×(List aJ))=>⟨[(0,.own 0 0 j2.2.length),(3,.int .i64 j2.1)],[(0,sx j2.2)],1⟩
@[reducible,instance] def zdG4 (a0:List aJ) (g1:Int) {T:Type} (x:T):=mkL x (@zv4.eq_1 a0 g1) fun (g2:Int×Int×(List aJ))=>⟨[(0,.own 0 0 g2.2.2.length),(3,.int .i64 g2.1),(4,.own 0 g1.toNat (a0.length - g1.toNat)),(5,.int .i64 g2.2.1)],[(0,sx g2.2.2)],1⟩
@[reducible,instance] def zdG5 (a0:List aJ) {T:Type} (x:T):=mkL x (@zs5.eq_1 a0) fun (g1:Int)=>⟨[(0,.own 0 0 a0.length),(3,.int .i64 g1)],[(0,sx a0)],1⟩
instance zal1 (a0:List aJ):OkM (za4 a0) 87 [.own 0 0 a0.length] [(0,sx a0)] 1 (fun r=>la r.1) (fun r=>[(0,⟨true,3,aJ.enc aJ.zero,r.2.map aJ.enc⟩)]) 1:=⟨fun r h=>by
 refine zaz8 Tryz.f87 [] [la r.1] fun E hG hN hK=>?_
 have hm:Mk (za4 a0):=trivial
 unfold za4 at h
 refine za2 (za3 hG ?_)
 refine za2 (za2 (za3 hG ?_))
 refine zl0 rfl hG h (fun _ h=>?_) (fun _ h=>?_)
 · refine za2 (za3 hG ?_)
   refine g_gh (.fz [0]) ?_
   exact gogo
 refine zj2 ?_
 refine za2 (za2 (za3 hG ?_))
 refine zax0 hm h (fun j1 hm h=>?_) ?_
 · try refine g_st ?_
   refine za2 (za3 hG ?_)
   refine g_gh (.fz [0]) ?_
   exact gogo
 refine zdo3 hm hK [(0,0)] h (fun g1 y hm kx h=>?_)
 try refine g_st ?_
 refine za2 (za2 (za3 hG ?_))
 refine zl0 rfl hG h (fun _ h=>?_) (fun _ h=>?_)
 · refine zj2 ?_
   refine za2 (zB5 (za2 ?_))
   obtain ⟨hb8,h⟩:=zd5 h
   obtain ⟨hb9,h⟩:=zd5 h
   refine zaX8 zw6 hG ?_
   refine zl0 rfl hG h (fun _ h=>?_) (fun _ h=>?_)
   · refine za2 ?_
     obtain ⟨hb7,h⟩:=zd5 h
     refine za3 hG ?_
     refine za2 (za2 (za3 hG ?_))
     refine zax0 hm h (fun j2 hm h=>?_) ?_
     · try refine g_st ?_
       refine za2 ?_
       obtain ⟨hb2,h⟩:=zd5 h
       refine za3 hG ?_
       refine za2 ?_
       obtain ⟨hb1,h⟩:=zd5 h
       refine za3 hG ?_
       refine g_gh (.fz [0]) ?_
       exact gogo
     exact gogo
   exact gogo
 exact gogo⟩
attribute [local irreducible] za4
def zab4 (a0:aO) (j1:(List aO)):Option aO :=
 some (⟨a0.k,(⟨a0.bB.name,(⟨a0.bB.aK.mode,a0.bB.aK.aS⟩:aC)⟩:aM),j1⟩:aO)
def zF9 (a90:(aO→Option aO)) (a0:aO) (g1:Int×(List aO)):Option ((Int×(List aO))⊕(List aO)) :=
 (if (decide (g1.1 < (a0.bA.length:Int)))=true then
  gd (0≤g1.1∧g1.1 < (a0.bA.length:Int)) <|
  (a90 (a0.bA.getD g1.1.toNat aO.zero)).bind fun v1 =>
  gd (g1.2.length+1≤4294967296) <|
  some (.inl ((i64.wrap (g1.1+1)),(g1.2++[v1])))
 else
  some (.inr g1.2))
def zt4 (a90:(aO→Option aO)) (a0:aO):Option aO :=
 (zc0 (zF9 a90 a0) (0,[])).bind (fun z=>zab4 a0 z)
def zC7:Nat→(aO→Option aO)
 | 0=>fun _=>none
 | n+1=>zt4 (zC7 n)
def zd4 (a0:aO):Option aO:=zC7 (_root_.SizeOf.sizeOf a0+1) a0
@[reducible,instance] def zdG6 (a90:(aO→Option aO)) (a0:aO):=mkJ (zt4 a90 a0) 0 (@zab4.eq_1 a0) fun (j1:(List aO))=>⟨[(1,.ptr 0 0 0),(2,.ptr 1 0 0),(3,.own 2 0 j1.length)],[(0,bx a0),(1,bx aO.zero),(2,sx j1)],3⟩
@[reducible,instance] def zdG7 (a90:(aO→Option aO)) (a0:aO) {T:Type} (x:T):=mkL x (@zF9.eq_1 a90 a0) fun (g1:Int×(List aO))=>⟨[(1,.ptr 0 0 0),(2,.ptr 1 0 0),(3,.own 2 0 g1.2.length),(7,la a0.bA),(8,.int .i64 (a0.bA.length:Int)),(9,.int .i64 g1.1)],[(0,bx a0),(1,bx aO.zero),(2,sx g1.2)],3⟩
abbrev zY0 (g:(aO→Option aO)):Prop:=∀ (a0:aO),OkP (g a0) 64 [.agg (aO.enc a0)] (fun r=>.agg (aO.enc r))
theorem zaS9 (a90:(aO→Option aO)) (hrc:zY0 a90):zY0 (zt4 a90):=fun a0=>⟨fun r h=>by
 refine zad2 Tryz.f64 [(3,1)] fun E hG hN hK=>?_
 have hm:Mk (zt4 a90 a0):=trivial
 unfold zt4 at h
 refine za2 (za3 hG ?_)
 refine za2 (za3 hG ?_)
 refine za2 (za2 (za3 hG ?_))
 refine zax0 hm h (fun j1 hm h=>?_) ?_
 · try refine g_st ?_
   refine za2 (za3 hG ?_)
   refine za2 (za3 hG ?_)
   refine zt2 ?_
   exact zI9 h (by intro e; subst e; simp [aM.enc,aC.enc])
 exact gogo⟩
theorem zaT0:∀ n,zY0 (zC7 n):=zaR5 (fun _=>⟨fun _ h=>nomatch h⟩) fun n=>zaS9 _
instance zaX9:zY0 zd4:=fun a0=>zaT0 _ a0
attribute [local irreducible] zd4
def zU3 (j1:Unit):Option Bool :=
 some true
def zy0 (a0 a1:List aT) (g1:Int):Option (Int⊕(Unit⊕Bool)) :=
 (if (decide (g1 < (a0.length:Int)))=true then
  gd (0≤g1∧g1 < (a0.length:Int)) <|
  gd (0≤g1∧g1 < (a1.length:Int)) <|
  (if (!decide (a0.getD g1.toNat aT.zero=a1.getD g1.toNat aT.zero))=true then
   some (.inr (.inr false))
  else
   some (.inl (i64.wrap (g1+1))))
 else
  some (.inr (.inl ())))
def za6 (a0 a1:List aT):Option Bool :=
 (if (!decide ((a0.length:Int)=(a1.length:Int)))=true then
  some false
 else
  (zc0 (zy0 a0 a1) 0).bind (fun|.inl z=>zU3 z|.inr z=>some z))
@[reducible,instance] def zdG8 a0 a1:=mkJ (za6 a0 a1) 0 (@zU3.eq_1) fun (j1:Unit)=>⟨[],[],0⟩
@[reducible,instance] def zdG9 (a0 a1:List aT) {T:Type} (x:T):=mkL x (@zy0.eq_1 a0 a1) fun (g1:Int)=>⟨[(0,la a0),(1,la a1),(12,.int .i64 (a0.length:Int)),(13,.int .i64 g1)],[],0⟩
instance zav9 (a0 a1:List aT):OkP (za6 a0 a1) 61 [la a0,la a1] (fun r=>.bool r):=ok1 (za6.eq_1 a0 a1) Tryz.f61 []
attribute [local irreducible] za6
def zP9 (a0:Int):Bool :=
 (decide (97≤a0)&&decide (a0≤122))
instance zcU6 (a0:Int):OkT 234 [.int .u8 a0] (.bool (zP9 a0)):=ok2 (fun r=>.bool r) (zP9.eq_1 a0) Tryz.f234 []
def zJ1 (a0:aI):Bool :=
 ((decide (a0.kind=1)&&decide (a0.aS=1))||((decide (a0.kind=2)&&decide (1≤a0.aS))&&decide (a0.aS≤8)))
instance zcU7 (a0:aI):OkT 195 [.agg (aI.enc a0)] (.bool (zJ1 a0)):=ok2 (fun r=>.bool r) (zJ1.eq_1 a0) Tryz.f195 []
def zas9 (j1:(List aC)):Option (List aC) :=
 some j1
def zW3 (a0:List aU) (g1:Int×(List aC)):Option ((Int×(List aC))⊕(List aC)) :=
 (if (decide (g1.1 < (a0.length:Int)))=true then
  gd (0≤g1.1∧g1.1 < (a0.length:Int)) <|
  gd (g1.2.length+1≤4294967296) <|
  some (.inl ((i64.wrap (g1.1+1)),(g1.2++[(a0.getD g1.1.toNat aU.zero).aK])))
 else
  some (.inr g1.2))
def zh1 (a0:List aU):Option (List aC) :=
 (zc0 (zW3 a0) (0,[])).bind (fun z=>zas9 z)
@[reducible,instance] def zdH0 a0:=mkJ (zh1 a0) 0 (@zas9.eq_1) fun (j1:(List aC))=>⟨[(3,.own 0 0 j1.length)],[(0,sx j1)],1⟩
@[reducible,instance] def zdH1 (a0:List aU) {T:Type} (x:T):=mkL x (@zW3.eq_1 a0) fun (g1:Int×(List aC))=>⟨[(0,la a0),(3,.own 0 0 g1.2.length),(4,.int .i64 g1.1)],[(0,sx g1.2)],1⟩
instance zcO7 (a0:List aU):OkP (zh1 a0) 283 [la a0] (fun r=>la r):=ok1 (zh1.eq_1 a0) Tryz.f283 [(3,1)]
attribute [local irreducible] zh1
def zbf6 (j1:Unit):Option aC :=
 some ({ aC.zero with  })
def zax1 (a0:List aU) (a1:aJ) (g1:Int):Option (Int⊕(Unit⊕aC)) :=
 (if (decide (g1 < (a0.length:Int)))=true then
  gd (0≤g1∧g1 < (a0.length:Int)) <|
  (if (decide ((a0.getD g1.toNat aU.zero).aN=a1))=true then
   gd (0≤g1∧g1 < (a0.length:Int)) <|
   some (.inr (.inr ((a0.getD g1.toNat aU.zero).aK)))
  else
   some (.inl (i64.wrap (g1+1))))
 else
  some (.inr (.inl ())))
def zm5 (a0:List aU) (a1:aJ):Option aC :=
 (zc0 (zax1 a0 a1) 0).bind (fun|.inl z=>zbf6 z|.inr z=>some z)
@[reducible,instance] def zdH2 a0 a1:=mkJ (zm5 a0 a1) 0 (@zbf6.eq_1) fun (j1:Unit)=>⟨[(4,.ptr 0 0 0)],[(0,bx aC.zero)],1⟩
@[reducible,instance] def zdH3 (a0:List aU) (a1:aJ) {T:Type} (x:T):=mkL x (@zax1.eq_1 a0 a1) fun (g1:Int)=>⟨[(0,la a0),(3,.ptr 0 0 0),(4,.ptr 1 0 0),(5,.int .i64 g1)],[(0,bx a1),(1,bx aC.zero)],2⟩
instance zdo4 (a0:List aU) (a1:aJ):OkP (zm5 a0 a1) 239 [la a0,ga a1] (fun r=>ga r):=ok1 (zm5.eq_1 a0 a1) Tryz.f239 []
attribute [local irreducible] zm5
def zm4 (a0:aA):Option (aT×Bool) :=
 (if (decide (0 < (a0.aL.length:Int)))=true then
  gd (0≤0∧0 < (a0.aL.length:Int)) <|
  some ((a0.aL.getD 0 aT.zero),true)
 else
  (if (decide (0 < (a0.aV.length:Int)))=true then
   gd (0≤0∧0 < (a0.aV.length:Int)) <|
   some ((a0.aV.getD 0 aT.zero),true)
  else
   some ({ aT.zero with  },false)))
instance zdj5 (a0:aA):OkP (zm4 a0) 270 [ga a0] (fun r=>.tup [ga r.1,.bool r.2]):=ok1 (zm4.eq_1 a0) Tryz.f270 []
attribute [local irreducible] zm4
def zaK3 (j1:(List aJ)):Option (List aJ) :=
 some j1
def zag4 (a0:List aU) (g1:Int×(List aJ)):Option ((Int×(List aJ))⊕(List aJ)) :=
 (if (decide (g1.1 < (a0.length:Int)))=true then
  gd (0≤g1.1∧g1.1 < (a0.length:Int)) <|
  gd (g1.2.length+1≤4294967296) <|
  some (.inl ((i64.wrap (g1.1+1)),(g1.2++[(a0.getD g1.1.toNat aU.zero).aN])))
 else
  some (.inr g1.2))
def zh2 (a0:List aU):Option (List aJ) :=
 (zc0 (zag4 a0) (0,[])).bind (fun z=>zaK3 z)
@[reducible,instance] def zdH4 a0:=mkJ (zh2 a0) 0 (@zaK3.eq_1) fun (j1:(List aJ))=>⟨[(3,.own 0 0 j1.length)],[(0,sx j1)],1⟩
@[reducible,instance] def zdH5 (a0:List aU) {T:Type} (x:T):=mkL x (@zag4.eq_1 a0) fun (g1:Int×(List aJ))=>⟨[(0,la a0),(3,.own 0 0 g1.2.length),(4,.int .i64 g1.1)],[(0,sx g1.2)],1⟩
instance zcI6 (a0:List aU):OkM (zh2 a0) 187 [la a0] [] 0 (fun r=>.own 0 0 r.length) (fun r=>[(0,sx r)]) 1:=okm (zh2.eq_1 a0) (fun r=>[.own 0 0 r.length]) Tryz.f187 [(2,1),(3,1)]
attribute [local irreducible] zh2
def zaA4 (j2:(List aJ)):Option (List aJ) :=
 some j2
def zan5 (a0:aA) (g1:Int×(List aJ)):Option ((Int×(List aJ))⊕(List aJ)) :=
 (if (decide (g1.1 < (a0.aV.length:Int)))=true then
  gd (0≤g1.1∧g1.1 < (a0.aV.length:Int)) <|
  gd (g1.2.length+1≤4294967296) <|
  some (.inl ((i64.wrap (g1.1+1)),(g1.2++[(a0.aV.getD g1.1.toNat aT.zero).aN])))
 else
  some (.inr g1.2))
def zan6 (a0:aA) (j1:(List aJ)):Option (List aJ) :=
 (zc0 (zan5 a0) (0,j1)).bind (fun z=>zaA4 z)
def zan7 (a0:aA) (g2:Int×(List aJ)):Option ((Int×(List aJ))⊕(List aJ)) :=
 (if (decide (g2.1 < (a0.aL.length:Int)))=true then
  gd (0≤g2.1∧g2.1 < (a0.aL.length:Int)) <|
  gd (g2.2.length+1≤4294967296) <|
  some (.inl ((i64.wrap (g2.1+1)),(g2.2++[(a0.aL.getD g2.1.toNat aT.zero).aN])))
 else
  some (.inr g2.2))
def zk4 (a0:aA):Option (List aJ) :=
 (zc0 (zan7 a0) (0,[])).bind (fun z=>zan6 a0 z)
@[reducible,instance] def zdH6 a0 j1:=mkJ (zan6 a0 j1) 2 (@zaA4.eq_1) fun (j2:(List aJ))=>⟨[(3,.own 0 0 j2.length)],[(0,sx j2)],1⟩
@[reducible,instance] def zdH7 (a0:aA) {T:Type} (x:T):=mkL x (@zan5.eq_1 a0) fun (g1:Int×(List aJ))=>⟨[(1,.ptr 0 0 0),(3,.own 1 0 g1.2.length),(5,.int .i64 g1.1)],[(0,bx a0),(1,sx g1.2)],2⟩
@[reducible,instance] def zdH8 (a0:aA):=mkJ (zk4 a0) 0 (@zan6.eq_1 a0) fun (j1:(List aJ))=>⟨[(1,.ptr 0 0 0),(3,.own 1 0 j1.length)],[(0,bx a0),(1,sx j1)],2⟩
@[reducible,instance] def zdH9 (a0:aA) {T:Type} (x:T):=mkL x (@zan7.eq_1 a0) fun (g2:Int×(List aJ))=>⟨[(1,.ptr 0 0 0),(3,.own 1 0 g2.2.length),(4,.int .i64 g2.1)],[(0,bx a0),(1,sx g2.2)],2⟩
instance zda6 (a0:aA):OkP (zk4 a0) 188 [ga a0] (fun r=>la r):=ok1 (zk4.eq_1 a0) Tryz.f188 [(3,1)]
attribute [local irreducible] zk4
def zaT1 (j1:Unit):Option Int :=
 some (-1)
def zan8 (a0:List aH) (a1:aJ) (g1:Int):Option (Int⊕(Unit⊕Int)) :=
 (if (decide (g1 < (a0.length:Int)))=true then
  gd (0≤g1∧g1 < (a0.length:Int)) <|
  (if (decide ((a0.getD g1.toNat aH.zero).aN=a1))=true then
   some (.inr (.inr g1))
  else
   some (.inl (i64.wrap (g1+1))))
 else
  some (.inr (.inl ())))
def zi2 (a0:List aH) (a1:aJ):Option Int :=
 (zc0 (zan8 a0 a1) 0).bind (fun|.inl z=>zaT1 z|.inr z=>some z)
@[reducible,instance] def zdI0 a0 a1:=mkJ (zi2 a0 a1) 0 (@zaT1.eq_1) fun (j1:Unit)=>⟨[],[],0⟩
@[reducible,instance] def zdI1 (a0:List aH) (a1:aJ) {T:Type} (x:T):=mkL x (@zan8.eq_1 a0 a1) fun (g1:Int)=>⟨[(0,la a0),(3,.ptr 0 0 0),(5,.int .i64 g1)],[(0,bx a1)],1⟩
instance zda7 (a0:List aH) (a1:aJ):OkP (zi2 a0 a1) 90 [la a0,ga a1] (fun r=>.int .i64 r):=ok1 (zi2.eq_1 a0 a1) Tryz.f90 []
attribute [local irreducible] zi2
def zd7 (a0:Int) (a1:aJ) (a2:aW):Option (Int×(List aA)×(List aH)×(List bI)) :=
 gd (a2.ev.length+1≤4294967296) <|
 some (a2.c.now,a2.c.aF,a2.c.aG,(a2.ev++[{ bI.zero with kind:=a0,aN:=a1 }]))
instance zcl4 (a0:Int) (a1:aJ) (a2:aW):OkM (zd7 a0 a1 a2) 249 [.ptr 0 0 0,.int .i64 a0,ga a1] [(0,⟨false,4,aW.enc aW.zero,[[.int .i64 a2.c.now,la a2.c.aF,.own 1 0 a2.c.aG.length,.own 2 0 a2.ev.length]]⟩),(1,sx a2.c.aG),(2,sx a2.ev)] 3 (fun r=>.tup []) (fun r=>[(0,⟨false,4,aW.enc aW.zero,[[.int .i64 r.1,la r.2.1,.own 1 0 r.2.2.1.length,.own 3 0 r.2.2.2.length]]⟩),(1,sx r.2.2.1),(3,sx r.2.2.2)]) 4:=okm (zd7.eq_1 a0 a1 a2) (fun r=>[]) Tryz.f249 []
attribute [local irreducible] zd7
def zm8 (a0:Int):Int :=
 (if (decide (a0 < 0)||decide (1073741824≤a0))=true then
  1
 else
  (i64.wrap (a0+1)))
instance zdj6 (a0:Int):OkT 254 [.int .i64 a0] (.int .i64 (zm8 a0)):=ok2 (fun r=>.int .i64 r) (zm8.eq_1 a0) Tryz.f254 []
def zaP2 (j1:(List bI)):Option (List bI) :=
 some j1
def zaj5 (a0:ByteArray) (a1:List aU) (g1:Int×(List bI)):Option ((Int×(List bI))⊕(List bI)) :=
 (if (decide (g1.1 < (a1.length:Int)))=true then
  gd (0≤g1.1∧g1.1 < (a1.length:Int)) <|
  gd (0≤g1.1∧g1.1 < (a1.length:Int)) <|
  gd (g1.2.length+1≤4294967296) <|
  some (.inl ((i64.wrap (g1.1+1)),(g1.2++[(⟨1,(a1.getD g1.1.toNat aU.zero).aN,a0,(a1.getD g1.1.toNat aU.zero).aK⟩:bI)])))
 else
  some (.inr g1.2))
def zg4 (a0:ByteArray) (a1:List aU):Option (List bI) :=
 (zc0 (zaj5 a0 a1) (0,[])).bind (fun z=>zaP2 z)
@[reducible,instance] def zdI2 a0 a1:=mkJ (zg4 a0 a1) 0 (@zaP2.eq_1) fun (j1:(List bI))=>⟨[(5,.own 0 0 j1.length)],[(0,sx j1)],1⟩
@[reducible,instance] def zdI3 (a0:ByteArray) (a1:List aU) {T:Type} (x:T):=mkL x (@zaj5.eq_1 a0 a1) fun (g1:Int×(List bI))=>⟨[(0,.str a0),(1,la a1),(5,.own 0 0 g1.2.length),(6,.int .i64 g1.1)],[(0,sx g1.2)],1⟩
instance zbH2 (a0:ByteArray) (a1:List aU):OkP (zg4 a0 a1) 276 [.str a0,la a1] (fun r=>la r):=ok1 (zg4.eq_1 a0 a1) Tryz.f276 [(5,1)]
attribute [local irreducible] zg4
def za7 (a0:List aT):Option (List aT) :=
 gd (a0.length≤4294967296) <|
 some a0
theorem zaw0 (a0:List aT) (r:(List aT)) (h:za7 a0=some r):PFn C 59 [la a0] (la r):=by
 refine zad2 Tryz.f59 [(5,1)] fun E hG hN hK=>?_
 unfold za7 at h
 refine za2 (za3 hG ?_)
 refine za2 (za2 (za3 hG ?_))
 intro b hnil
 cases b
 · try refine g_st ?_
   refine zch9 rfl hG ?_
   refine zj2 ?_
   refine za2 ?_
   obtain ⟨hb1,h⟩:=zd5 h
   refine za3 hG ?_
   refine zt2 ?_
   exact zI9 h
 have ha:a0=[]:=iD.1 (hnil rfl)
 subst ha
 replace h:some []=some r:=by simpa [gd] using h
 try refine g_st ?_
 refine zbj9 rfl hG ?_
 refine za2 (za3 hG ?_)
 refine zt2 ?_
 exact zI9 h
instance zbq3 (a0:List aT):OkP (za7 a0) 59 [la a0] (fun r=>la r):=⟨zaw0 a0⟩
attribute [local irreducible] za7
end
end Ab
end Go.Proofs.YtogpinppgncpmaaGreatDoor
