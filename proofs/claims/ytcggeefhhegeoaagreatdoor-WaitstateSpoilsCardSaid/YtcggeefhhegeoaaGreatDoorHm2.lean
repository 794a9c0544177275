import Derived.Test.YtcggeefhhegeoaaGreatDoorAuto
namespace Go.Proofs.YtcggeefhhegeoaaGreatDoor
namespace Ab
open IntKind (i64 u64 u8)
set_option linter.unusedSimpArgs false
set_option linter.unusedVariables false
set_option linter.defProp false
set_option maxRecDepth 100000
set_option maxHeartbeats 1000000
noncomputable section
def zm1 (a0:aC):Bool :=
 (decide (a0={ aC.zero with  }))
instance zbQ8 (a0:aC):OkT 227 [.agg (aC.enc a0)] (.bool (zm1 a0)):=ok2 (fun r=>.bool r) (zm1.eq_1 a0) Tryz.f227 []
def zaU6 (j1:Unit):Option aC :=
 some ({ aC.zero with  })
def zP1 (a0:List aY) (a1:aJ) (g1:Int):Option (Int⊕(Unit⊕aC)) :=
 (if (decide (g1 < (a0.length:Int)))=true then
  gd (0≤g1∧g1 < (a0.length:Int)) <|
  (if (decide ((a0.getD g1.toNat aY.zero).aP=a1))=true then
   some (.inr (.inr ((a0.getD g1.toNat aY.zero).aK)))
  else
   some (.inl (i64.wrap (g1+1))))
 else
  some (.inr (.inl ())))
def zk1 (a0:List aY) (a1:aJ):Option aC :=
 (zc0 (zP1 a0 a1) 0).bind (fun|.inl z=>zaU6 z|.inr z=>some z)
@[reducible,instance] def zel0 a0 a1:=mkJ (zk1 a0 a1) 0 (@zaU6.eq_1) fun (j1:Unit)=>⟨[(4,.ptr 0 0 0)],[(0,bx aC.zero)],1⟩
@[reducible,instance] def zel1 (a0:List aY) (a1:aJ) {T:Type} (x:T):=mkL x (@zP1.eq_1 a0 a1) fun (g1:Int)=>⟨[(3,.ptr 0 0 0),(4,.ptr 1 0 0),(7,la a0),(8,.int .i64 (a0.length:Int)),(9,.int .i64 g1)],[(0,bx a1),(1,bx aC.zero)],2⟩
instance zdd0 (a0:List aY) (a1:aJ):OkP (zk1 a0 a1) 263 [la a0,ga a1] (fun r=>ga r):=ok1 (zk1.eq_1 a0 a1) Tryz.f263 []
attribute [local irreducible] zk1
def zaM4 (a0:Int):(Arr Bool 6) :=
 (if (decide (a0=5))=true then
  (Arr.put (Arr.put (Arr.put (Arr.put (Arr.put (Arr.rep 6 false) 5 true) 4 true) 3 true) 2 true) 1 true)
 else
  (if (decide (a0=4))=true then
   (Arr.put (Arr.put (Arr.put (Arr.put (Arr.rep 6 false) 4 true) 3 true) 2 true) 1 true)
  else
   (if (decide (a0=2))=true then
    (Arr.put (Arr.put (Arr.rep 6 false) 2 true) 1 true)
   else
    (if (decide (a0=1))=true then
     (Arr.put (Arr.rep 6 false) 1 true)
    else
     (if (decide (a0=3))=true then
      (Arr.put (Arr.put (Arr.rep 6 false) 3 true) 1 true)
     else
      (Arr.rep 6 false))))))
instance zcX2 (a0:Int):OkT 276 [.int .i64 a0] (.agg (Arr.enc eB (zaM4 a0))):=ok2 (fun r=>.agg (Arr.enc eB r)) (zaM4.eq_1 a0) Tryz.f276 []
def zQ4 (a0:List aJ) (j1:Unit):Option ((List aJ)×(List aJ)) :=
 some (a0,a0)
def zE4 (j2:Int×(List aJ)):Option (Int⊕(Unit⊕((List aJ)×(List aJ)))) :=
 gd (0≤j2.1∧j2.1≤((j2.2.length:Nat):Int)∧((j2.2.length:Nat):Int)≤((j2.2.length:Nat):Int)) <|
 gd (0≤0∧0≤j2.1∧j2.1≤((j2.2.length:Nat):Int)) <|
 some (.inr (.inr ((((j2.2.take j2.1.toNat++List.replicate (j2.2.length - j2.1.toNat) aJ.zero++j2.2.drop (j2.1.toNat+(j2.2.length - j2.1.toNat))).drop 0).take j2.1.toNat),(j2.2.take j2.1.toNat++List.replicate (j2.2.length - j2.1.toNat) aJ.zero++j2.2.drop (j2.1.toNat+(j2.2.length - j2.1.toNat))))))
def zy3 (a0:List aJ) (g1:Int) (g2:Int×Int×(List aJ)):Option ((Int×Int×(List aJ))⊕(Int×(List aJ))) :=
 (if (decide (g2.2.1 < (((a0.length - g1.toNat):Nat):Int)))=true then
  gd (0≤g2.2.1∧g2.2.1 < (((a0.length - g1.toNat):Nat):Int)∧g1.toNat+(a0.length - g1.toNat)≤g2.2.2.length) <|
  gd (0≤i64.wrap (g2.2.1 - 1)∧i64.wrap (g2.2.1 - 1) < (((a0.length - g1.toNat):Nat):Int)∧g1.toNat+(a0.length - g1.toNat)≤g2.2.2.length) <|
  (if (!decide (g2.2.2.getD (g1.toNat+g2.2.1.toNat) aJ.zero=g2.2.2.getD (g1.toNat+(i64.wrap (g2.2.1 - 1)).toNat) aJ.zero))=true then
   gd (0≤g2.2.1∧g2.2.1 < (((a0.length - g1.toNat):Nat):Int)∧g1.toNat+(a0.length - g1.toNat)≤g2.2.2.length) <|
   gd (0≤g2.1∧g2.1 < ((g2.2.2.length:Nat):Int)) <|
   some (.inl ((i64.wrap (g2.1+1)),i64.wrap (g2.2.1+1),g2.2.2.set g2.1.toNat (g2.2.2.getD (g1.toNat+g2.2.1.toNat) aJ.zero)))
  else
   some (.inl (g2.1,i64.wrap (g2.2.1+1),g2.2.2)))
 else
  some (.inr (g2.1,g2.2.2)))
def zv0 (a0:List aJ) (g1:Int):Option (Int⊕(Unit⊕((List aJ)×(List aJ)))) :=
 (if (decide (g1 < ((a0.length:Nat):Int)))=true then
  gd (0≤g1∧g1 < ((a0.length:Nat):Int)) <|
  gd (0≤i64.wrap (g1 - 1)∧i64.wrap (g1 - 1) < ((a0.length:Nat):Int)) <|
  (if (decide (a0.getD g1.toNat aJ.zero=a0.getD ((i64.wrap (g1 - 1)).toNat) aJ.zero))=true then
   gd (0≤g1∧g1≤((a0.length:Nat):Int)∧((a0.length:Nat):Int)≤((a0.length:Nat):Int)) <|
   (zc0 (zy3 a0 g1) (g1,1,a0)).bind (fun z=>zE4 z)
  else
   some (.inl (i64.wrap (g1+1))))
 else
  some (.inr (.inl ())))
def za4 (a0:List aJ):Option ((List aJ)×(List aJ)) :=
 (if (decide (((a0.length:Nat):Int) < 2))=true then
  some (a0,a0)
 else
  (zc0 (zv0 a0) 1).bind (fun|.inl z=>zQ4 a0 z|.inr z=>some z))
@[reducible,instance] def zdI6 (a0:List aJ):=mkJ (za4 a0) 0 (@zQ4.eq_1 a0) fun (j1:Unit)=>⟨[(0,.own 0 0 a0.length)],[(0,sx a0)],1⟩
@[reducible,instance] def zdI7 (a0:List aJ) (g1:Int):=mkJ (zv0 a0 g1) 2 (@zE4.eq_1) fun (j2:Int×(List aJ))=>⟨[(0,.own 0 0 j2.2.length),(3,.int .i64 j2.1)],[(0,sx j2.2)],1⟩
@[reducible,instance] def zdI8 (a0:List aJ) (g1:Int) {T:Type} (x:T):=mkL x (@zy3.eq_1 a0 g1) fun (g2:Int×Int×(List aJ))=>⟨[(0,.own 0 0 g2.2.2.length),(3,.int .i64 g2.1),(4,.own 0 g1.toNat (a0.length - g1.toNat)),(5,.int .i64 g2.2.1)],[(0,sx g2.2.2)],1⟩
@[reducible,instance] def zdI9 (a0:List aJ) {T:Type} (x:T):=mkL x (@zv0.eq_1 a0) fun (g1:Int)=>⟨[(0,.own 0 0 a0.length),(3,.int .i64 g1)],[(0,sx a0)],1⟩
instance zam5 (a0:List aJ):OkM (za4 a0) 113 [.own 0 0 a0.length] [(0,sx a0)] 1 (fun r=>la r.1) (fun r=>[(0,⟨true,3,aJ.enc aJ.zero,r.2.map aJ.enc⟩)]) 1:=⟨fun r h=>by
 refine zay0 Tryz.f113 [] [la r.1] fun E hG hN hK=>?_
 have hm:Mk (za4 a0):=trivial
 unfold za4 at h
 refine za2 (za5 hG ?_)
 refine za2 (za2 (za5 hG ?_))
 refine zp0 rfl hG h (fun _ h=>?_) (fun _ h=>?_)
 · refine za2 (za5 hG ?_)
   refine g_gh (.fz [0]) ?_
   exact gogo
 refine zo3 ?_
 refine za2 (za2 (za5 hG ?_))
 refine zaj4 hm h (fun j1 hm h=>?_) ?_
 · try refine g_st ?_
   refine za2 (za5 hG ?_)
   refine g_gh (.fz [0]) ?_
   exact gogo
 refine zds4 hm hK [(0,0)] h (fun g1 y hm kx h=>?_)
 try refine g_st ?_
 refine za2 (za2 (za5 hG ?_))
 refine zp0 rfl hG h (fun _ h=>?_) (fun _ h=>?_)
 · refine zo3 ?_
   refine za2 (zK9 (za2 ?_))
   obtain ⟨hb8,h⟩:=zg0 h
   obtain ⟨hb9,h⟩:=zg0 h
   refine zbr4 zN6 hG ?_
   refine zp0 rfl hG h (fun _ h=>?_) (fun _ h=>?_)
   · refine za2 ?_
     obtain ⟨hb7,h⟩:=zg0 h
     refine za5 hG ?_
     refine za2 (za2 (za5 hG ?_))
     refine zaj4 hm h (fun j2 hm h=>?_) ?_
     · try refine g_st ?_
       refine za2 ?_
       obtain ⟨hb2,h⟩:=zg0 h
       refine za5 hG ?_
       refine za2 ?_
       obtain ⟨hb1,h⟩:=zg0 h
       refine za5 hG ?_
       refine g_gh (.fz [0]) ?_
       exact gogo
     exact gogo
   exact gogo
 exact gogo⟩
attribute [local irreducible] za4
def zas3 (a0:aN) (j1:(List aN)):Option aN :=
 some (⟨a0.k,(⟨a0.bF.name,(⟨a0.bF.aK.mode,a0.bF.aK.aT⟩:aC)⟩:aM),j1⟩:aN)
def zad1 (a90:(aN→Option aN)) (a0:aN) (g1:Int×(List aN)):Option ((Int×(List aN))⊕(List aN)) :=
 (if (decide (g1.1 < (a0.bE.length:Int)))=true then
  gd (0≤g1.1∧g1.1 < (a0.bE.length:Int)) <|
  (a90 (a0.bE.getD g1.1.toNat aN.zero)).bind fun v1 =>
  gd (g1.2.length+1≤4294967296) <|
  some (.inl ((i64.wrap (g1.1+1)),(g1.2++[v1])))
 else
  some (.inr g1.2))
def zB0 (a90:(aN→Option aN)) (a0:aN):Option aN :=
 (zc0 (zad1 a90 a0) (0,[])).bind (fun z=>zas3 a0 z)
def zai1:Nat→(aN→Option aN)
 | 0=>fun _=>none
 | n+1=>zB0 (zai1 n)
def zd6 (a0:aN):Option aN:=zai1 (_root_.SizeOf.sizeOf a0+1) a0
@[reducible,instance] def zdJ0 (a90:(aN→Option aN)) (a0:aN):=mkJ (zB0 a90 a0) 0 (@zas3.eq_1 a0) fun (j1:(List aN))=>⟨[(1,.ptr 0 0 0),(2,.ptr 1 0 0),(3,.own 2 0 j1.length)],[(0,bx a0),(1,bx aN.zero),(2,sx j1)],3⟩
@[reducible,instance] def zdJ1 (a90:(aN→Option aN)) (a0:aN) {T:Type} (x:T):=mkL x (@zad1.eq_1 a90 a0) fun (g1:Int×(List aN))=>⟨[(1,.ptr 0 0 0),(2,.ptr 1 0 0),(3,.own 2 0 g1.2.length),(7,la a0.bE),(8,.int .i64 (a0.bE.length:Int)),(9,.int .i64 g1.1)],[(0,bx a0),(1,bx aN.zero),(2,sx g1.2)],3⟩
abbrev zZ4 (g:(aN→Option aN)):Prop:=∀ (a0:aN),OkP (g a0) 105 [.agg (aN.enc a0)] (fun r=>.agg (aN.enc r))
theorem zaU7 (a90:(aN→Option aN)) (hrc:zZ4 a90):zZ4 (zB0 a90):=fun a0=>⟨fun r h=>by
 refine zak7 Tryz.f105 [(3,1)] fun E hG hN hK=>?_
 have hm:Mk (zB0 a90 a0):=trivial
 unfold zB0 at h
 refine za2 (za5 hG ?_)
 refine za2 (za5 hG ?_)
 refine za2 (za2 (za5 hG ?_))
 refine zaj4 hm h (fun j1 hm h=>?_) ?_
 · try refine g_st ?_
   refine za2 (za5 hG ?_)
   refine za2 (za5 hG ?_)
   refine zx8 ?_
   exact zae1 h (by intro e; subst e; simp [aM.enc,aC.enc])
 exact gogo⟩
theorem zaU8:∀ n,zZ4 (zai1 n):=zaM3 (fun _=>⟨fun _ h=>nomatch h⟩) fun n=>zaU7 _
instance zaZ4:zZ4 zd6:=fun a0=>zaU8 _ a0
attribute [local irreducible] zd6
def zV8 (j1:Unit):Option Int :=
 some (-1)
def zH9 (a0:List aM) (a1:aM) (g1:Int):Option (Int⊕(Unit⊕Int)) :=
 (if (decide (g1 < (a0.length:Int)))=true then
  gd (0≤g1∧g1 < (a0.length:Int)) <|
  (if (decide (a1=a0.getD g1.toNat aM.zero))=true then
   some (.inr (.inr g1))
  else
   some (.inl (i64.wrap (g1+1))))
 else
  some (.inr (.inl ())))
def za7 (a0:List aM) (a1:aM):Option Int :=
 (zc0 (zH9 a0 a1) 0).bind (fun|.inl z=>zV8 z|.inr z=>some z)
@[reducible,instance] def zdJ2 a0 a1:=mkJ (za7 a0 a1) 0 (@zV8.eq_1) fun (j1:Unit)=>⟨[],[],0⟩
@[reducible,instance] def zdJ3 (a0:List aM) (a1:aM) {T:Type} (x:T):=mkL x (@zH9.eq_1 a0 a1) fun (g1:Int)=>⟨[(0,la a0),(3,.ptr 0 0 0),(7,.int .i64 (a0.length:Int)),(8,.int .i64 g1)],[(0,bx a1)],1⟩
instance zbu5 (a0:List aM) (a1:aM):OkP (za7 a0 a1) 166 [la a0,ga a1] (fun r=>.int .i64 r):=ok1 (za7.eq_1 a0 a1) Tryz.f166 []
attribute [local irreducible] za7
def zz5 (a0:Int):Bool :=
 (decide (1≤a0)&&decide (a0≤5))
instance zdd1 (a0:Int):OkT 196 [.int .i64 a0] (.bool (zz5 a0)):=ok2 (fun r=>.bool r) (zz5.eq_1 a0) Tryz.f196 []
def zQ5 (a0 a1:Int):Int :=
 (if (decide (a0 < a1))=true then
  (-1)
 else
  (if (decide (a1 < a0))=true then
   1
  else
   0))
instance zdd2 (a0 a1:Int):OkT 130 [.int .i64 a0,.int .i64 a1] (.int .i64 (zQ5 a0 a1)):=ok2 (fun r=>.int .i64 r) (zQ5.eq_1 a0 a1) Tryz.f130 []
def zau5 (j1:Unit):Option Bool :=
 some false
def zX8 (a0:List aJ) (a1:aJ) (g1:Int):Option (Int⊕(Unit⊕Bool)) :=
 (if (decide (g1 < (a0.length:Int)))=true then
  gd (0≤g1∧g1 < (a0.length:Int)) <|
  (if (decide (a0.getD g1.toNat aJ.zero=a1))=true then
   some (.inr (.inr true))
  else
   some (.inl (i64.wrap (g1+1))))
 else
  some (.inr (.inl ())))
def zg5 (a0:List aJ) (a1:aJ):Option Bool :=
 (zc0 (zX8 a0 a1) 0).bind (fun|.inl z=>zau5 z|.inr z=>some z)
@[reducible,instance] def zdJ4 a0 a1:=mkJ (zg5 a0 a1) 0 (@zau5.eq_1) fun (j1:Unit)=>⟨[],[],0⟩
@[reducible,instance] def zdJ5 (a0:List aJ) (a1:aJ) {T:Type} (x:T):=mkL x (@zX8.eq_1 a0 a1) fun (g1:Int)=>⟨[(0,la a0),(3,.ptr 0 0 0),(5,.int .i64 g1)],[(0,bx a1)],1⟩
instance zcQ0 (a0:List aJ) (a1:aJ):OkP (zg5 a0 a1) 85 [la a0,ga a1] (fun r=>.bool r):=ok1 (zg5.eq_1 a0 a1) Tryz.f85 []
attribute [local irreducible] zg5
def zbc4 (j1:aC):Option aC :=
 some j1
def zat5 (a0:List bM) (a1:ByteArray) (g1:Int×aC):Option ((Int×aC)⊕aC) :=
 (if (decide (g1.1 < (a0.length:Int)))=true then
  gd (0≤g1.1∧g1.1 < (a0.length:Int)) <|
  (if (((a0.getD g1.1.toNat bM.zero).name).toList == a1.toList)=true then
   gd (0≤g1.1∧g1.1 < (a0.length:Int)) <|
   some (.inl ((i64.wrap (g1.1+1)),(a0.getD g1.1.toNat bM.zero).after))
  else
   some (.inl ((i64.wrap (g1.1+1)),g1.2)))
 else
  some (.inr g1.2))
def zj4 (a0:List bM) (a1:ByteArray):Option aC :=
 (zc0 (zat5 a0 a1) (0,aC.zero)).bind (fun z=>zbc4 z)
@[reducible,instance] def zdJ6 a0 a1:=mkJ (zj4 a0 a1) 0 (@zbc4.eq_1) fun (j1:aC)=>⟨[(4,.ptr 0 0 0),(5,.ptr 1 0 0)],[(0,bx aC.zero),(1,bx j1)],2⟩
@[reducible,instance] def zdJ7 (a0:List bM) (a1:ByteArray) {T:Type} (x:T):=mkL x (@zat5.eq_1 a0 a1) fun (g1:Int×aC)=>⟨[(0,la a0),(1,.str a1),(4,.ptr 0 0 0),(5,.ptr 1 0 0),(6,.int .i64 g1.1)],[(0,bx aC.zero),(1,bx g1.2)],2⟩
instance zbZ7 (a0:List bM) (a1:ByteArray):OkP (zj4 a0 a1) 191 [la a0,.str a1] (fun r=>ga r):=ok1 (zj4.eq_1 a0 a1) Tryz.f191 []
attribute [local irreducible] zj4
def zbc5 (j1:Unit):Option Int :=
 some (-1)
def zat6 (a0:List bU) (a1 g1:Int):Option (Int⊕(Unit⊕Int)) :=
 (if (decide (g1 < (a0.length:Int)))=true then
  gd (0≤g1∧g1 < (a0.length:Int)) <|
  (if (decide ((a0.getD g1.toNat bU.zero).label=a1))=true then
   some (.inr (.inr g1))
  else
   some (.inl (i64.wrap (g1+1))))
 else
  some (.inr (.inl ())))
def zl7 (a0:List bU) (a1:Int):Option Int :=
 (zc0 (zat6 a0 a1) 0).bind (fun|.inl z=>zbc5 z|.inr z=>some z)
@[reducible,instance] def zdJ8 a0 a1:=mkJ (zl7 a0 a1) 0 (@zbc5.eq_1) fun (j1:Unit)=>⟨[],[],0⟩
@[reducible,instance] def zdJ9 (a0:List bU) (a1:Int) {T:Type} (x:T):=mkL x (@zat6.eq_1 a0 a1) fun (g1:Int)=>⟨[(0,la a0),(1,.int .i64 a1),(5,.int .i64 g1)],[],0⟩
instance zbZ8 (a0:List bU) (a1:Int):OkP (zl7 a0 a1) 194 [la a0,.int .i64 a1] (fun r=>.int .i64 r):=ok1 (zl7.eq_1 a0 a1) Tryz.f194 []
attribute [local irreducible] zl7
def zaJ6 (j1:Unit):Option Bool :=
 some true
def zV1 (a90:(aN→aN→Option Bool)) (a0 a1:aN) (g1:Int):Option (Int⊕(Unit⊕Bool)) :=
 (if (decide (g1 < (a0.bE.length:Int)))=true then
  gd (0≤g1∧g1 < (a0.bE.length:Int)) <|
  gd (0≤g1∧g1 < (a1.bE.length:Int)) <|
  (a90 (a0.bE.getD g1.toNat aN.zero) (a1.bE.getD g1.toNat aN.zero)).bind fun v1 =>
  (if (!v1)=true then
   some (.inr (.inr false))
  else
   some (.inl (i64.wrap (g1+1))))
 else
  some (.inr (.inl ())))
def zE8 (a90:(aN→aN→Option Bool)) (a0 a1:aN):Option Bool :=
 (if (((!decide (a0.k=a1.k))||(!decide (a0.bF=a1.bF)))||(!decide ((a0.bE.length:Int)=(a1.bE.length:Int))))=true then
  some false
 else
  (zc0 (zV1 a90 a0 a1) 0).bind (fun|.inl z=>zaJ6 z|.inr z=>some z))
def zT3:Nat→(aN→aN→Option Bool)
 | 0=>fun _ _=>none
 | n+1=>zE8 (zT3 n)
def zg2 (a0 a1:aN):Option Bool:=zT3 (_root_.SizeOf.sizeOf a0+1) a0 a1
@[reducible,instance] def zdK0 (a90:(aN→aN→Option Bool)) (a0 a1:aN):=mkJ (zE8 a90 a0 a1) 0 (@zaJ6.eq_1) fun (j1:Unit)=>⟨[],[],0⟩
@[reducible,instance] def zdK1 (a90:(aN→aN→Option Bool)) (a0 a1:aN) {T:Type} (x:T):=mkL x (@zV1.eq_1 a90 a0 a1) fun (g1:Int)=>⟨[(2,.ptr 0 0 0),(3,.ptr 1 0 0),(5,.int .i64 g1)],[(0,bx a0),(1,bx a1)],2⟩
abbrev zao9 (g:(aN→aN→Option Bool)):Prop:=∀ (a0:aN) (a1:aN),OkP (g a0 a1) 104 [.agg (aN.enc a0),.agg (aN.enc a1)] (fun r=>.bool r)
theorem zbr5 (a90:(aN→aN→Option Bool)) (hrc:zao9 a90):zao9 (zE8 a90):=fun a0 a1=>ok1 (zE8.eq_1 a90 a0 a1) Tryz.f104 []
theorem zbr6:∀ n,zao9 (zT3 n):=zaM3 (fun _ _=>⟨fun _ h=>nomatch h⟩) fun n=>zbr5 _
instance zcK8:zao9 zg2:=fun a0 a1=>zbr6 _ a0 a1
attribute [local irreducible] zg2
def zl8 (a0:aB):Option aB :=
 gd (a0.aS.length≤4294967296) <|
 gd (a0.aI.length≤4294967296) <|
 gd (a0.aV.length≤4294967296) <|
 some a0
instance zdm8 (a0:aB):OkP (zl8 a0) 277 [ga a0] (fun r=>ga r):=ok1 (zl8.eq_1 a0) Tryz.f277 [(3,1),(8,1),(13,1)]
attribute [local irreducible] zl8
def zg1 (a0:List aB) (a1:Int) (a2:aB):Option (List aB) :=
 gd (a0.length≤4294967296) <|
 gd (0≤a1∧a1 < ((a0.length:Nat):Int)) <|
 some (a0.set a1.toNat a2)
instance zbA9 (a0:List aB) (a1:Int) (a2:aB):OkP (zg1 a0 a1 a2) 269 [la a0,.int .i64 a1,ga a2] (fun r=>la r):=ok1 (zg1.eq_1 a0 a1 a2) Tryz.f269 [(8,1)]
attribute [local irreducible] zg1
def zd7 (a0:Int) (a1:aZ):Option (Int×(List aB)×(List aG)×(List bL)) :=
 gd (0≤a0∧a0 < ((a1.c.aD.length:Nat):Int)) <|
 gd (0≤a0∧a0 < ((a1.c.aD.length:Nat):Int)) <|
 gd (0≤a0∧a0 < ((a1.c.aD.length:Nat):Int)) <|
 some (a1.c.now,a1.c.aF,((a1.c.aD.set a0.toNat ({ (a1.c.aD.getD a0.toNat aG.zero) with bI:=false })).set a0.toNat ({ ((a1.c.aD.set a0.toNat ({ (a1.c.aD.getD a0.toNat aG.zero) with bI:=false })).getD a0.toNat aG.zero) with bJ:={ bO.zero with  } })).set a0.toNat ({ (((a1.c.aD.set a0.toNat ({ (a1.c.aD.getD a0.toNat aG.zero) with bI:=false })).set a0.toNat ({ ((a1.c.aD.set a0.toNat ({ (a1.c.aD.getD a0.toNat aG.zero) with bI:=false })).getD a0.toNat aG.zero) with bJ:={ bO.zero with  } })).getD a0.toNat aG.zero) with since:=0 }),a1.ev)
instance zco5 (a0:Int) (a1:aZ):OkM (zd7 a0 a1) 248 [.ptr 0 0 0,.int .i64 a0] [(0,⟨false,4,aZ.enc aZ.zero,[[.int .i64 a1.c.now,la a1.c.aF,.own 1 0 a1.c.aD.length,.own 2 0 a1.ev.length]]⟩),(1,sx a1.c.aD),(2,sx a1.ev)] 3 (fun r=>.tup []) (fun r=>[(0,⟨false,4,aZ.enc aZ.zero,[[.int .i64 r.1,la r.2.1,.own 1 0 r.2.2.1.length,.own 2 0 r.2.2.2.length]]⟩),(1,sx r.2.2.1),(2,sx r.2.2.2)]) 3:=okm (zd7.eq_1 a0 a1) (fun r=>[]) Tryz.f248 []
attribute [local irreducible] zd7
def zbc6 (j1:Unit):Option (Int×Int×Int) :=
 some (0,0,6)
def zC3 (a0:List Int) (g1:Int×Int):Option ((Int×Int)⊕(Unit⊕(Int×Int×Int))) :=
 (if (decide (g1.2 < 10))=true then
  (if (decide ((a0.length:Int)≤g1.2))=true then
   some (.inr (.inr (0,0,5)))
  else
   gd (0≤g1.2∧g1.2 < (a0.length:Int)) <|
   (if ((decide (g1.2=9)&&decide (1 < a0.getD g1.2.toNat 0))||(decide (a0.getD g1.2.toNat 0=0)&&decide (0 < g1.2)))=true then
    some (.inr (.inr (0,0,6)))
   else
    gd (0≤u64.wrap (i64.wrap (7 * g1.2))) <|
    (if (decide (a0.getD g1.2.toNat 0 < 128))=true then
     some (.inr (.inr ((zA9 .or .u64 g1.1 (u64.wrap (u64.wrap (zA9 .and .u8 (a0.getD g1.2.toNat 0) 127) * 2 ^ (Nat.min (u64.wrap (i64.wrap (7 * g1.2))).toNat u64.bits)))),i64.wrap (g1.2+1),0)))
    else
     some (.inl ((zA9 .or .u64 g1.1 (u64.wrap (u64.wrap (zA9 .and .u8 (a0.getD g1.2.toNat 0) 127) * 2 ^ (Nat.min (u64.wrap (i64.wrap (7 * g1.2))).toNat u64.bits)))),i64.wrap (g1.2+1))))))
 else
  some (.inr (.inl ())))
def zk9 (a0:List Int):Option (Int×Int×Int) :=
 (zc0 (zC3 a0) (0,0)).bind (fun|.inl z=>zbc6 z|.inr z=>some z)
@[reducible,instance] def zdK2 a0:=mkJ (zk9 a0) 0 (@zbc6.eq_1) fun (j1:Unit)=>⟨[],[],0⟩
@[reducible,instance] def zdK3 (a0:List Int) {T:Type} (x:T):=mkL x (@zC3.eq_1 a0) fun (g1:Int×Int)=>⟨[(0,.sl (a0.map (eI .u8))),(5,.int .u64 g1.1),(6,.int .i64 g1.2)],[],0⟩
instance zdm9 (a0:List Int):OkP (zk9 a0) 137 [.sl (a0.map (eI .u8))] (fun r=>.tup [.int .u64 r.1,.int .i64 r.2.1,.int .i64 r.2.2]):=ok1 (zk9.eq_1 a0) Tryz.f137 []
attribute [local irreducible] zk9
def zaG2 (j1:Unit):Option Bool :=
 some true
def zaG3 (a0 a1:List aX) (g1:Int):Option (Int⊕(Unit⊕Bool)) :=
 (if (decide (g1 < (a0.length:Int)))=true then
  gd (0≤g1∧g1 < (a0.length:Int)) <|
  gd (0≤g1∧g1 < (a1.length:Int)) <|
  (if (!decide (a0.getD g1.toNat aX.zero=a1.getD g1.toNat aX.zero))=true then
   some (.inr (.inr false))
  else
   some (.inl (i64.wrap (g1+1))))
 else
  some (.inr (.inl ())))
def ze5 (a0 a1:List aX):Option Bool :=
 (if (!decide ((a0.length:Int)=(a1.length:Int)))=true then
  some false
 else
  (zc0 (zaG3 a0 a1) 0).bind (fun|.inl z=>zaG2 z|.inr z=>some z))
@[reducible,instance] def zdK4 a0 a1:=mkJ (ze5 a0 a1) 0 (@zaG2.eq_1) fun (j1:Unit)=>⟨[],[],0⟩
@[reducible,instance] def zdK5 (a0 a1:List aX) {T:Type} (x:T):=mkL x (@zaG3.eq_1 a0 a1) fun (g1:Int)=>⟨[(0,la a0),(1,la a1),(5,.int .i64 g1)],[],0⟩
instance zcC5 (a0 a1:List aX):OkP (ze5 a0 a1) 98 [la a0,la a1] (fun r=>.bool r):=ok1 (ze5.eq_1 a0 a1) Tryz.f98 []
attribute [local irreducible] ze5
def zau6 (j1:(List aJ)):Option (List aJ) :=
 some j1
def zX9 (a0:List aY) (g1:Int×(List aJ)):Option ((Int×(List aJ))⊕(List aJ)) :=
 (if (decide (g1.1 < (a0.length:Int)))=true then
  gd (0≤g1.1∧g1.1 < (a0.length:Int)) <|
  gd (g1.2.length+1≤4294967296) <|
  some (.inl ((i64.wrap (g1.1+1)),(g1.2++[(a0.getD g1.1.toNat aY.zero).aP])))
 else
  some (.inr g1.2))
def zi3 (a0:List aY):Option (List aJ) :=
 (zc0 (zX9 a0) (0,[])).bind (fun z=>zau6 z)
@[reducible,instance] def zdK6 a0:=mkJ (zi3 a0) 0 (@zau6.eq_1) fun (j1:(List aJ))=>⟨[(3,.own 0 0 j1.length)],[(0,sx j1)],1⟩
@[reducible,instance] def zdK7 (a0:List aY) {T:Type} (x:T):=mkL x (@zX9.eq_1 a0) fun (g1:Int×(List aJ))=>⟨[(3,.own 0 0 g1.2.length),(6,la a0),(7,.int .i64 (a0.length:Int)),(8,.int .i64 g1.1)],[(0,sx g1.2)],1⟩
attribute [local irreducible] zi3
def zay1 (j1:Int×Int):Option (Int×Int) :=
 some ((i64.wrap (j1.1+1)),j1.2)
def zL0 (a90:(aN→Int→Int→Option (Int×Int))) (a0:aN) (a1:Int) (g1:Int×Int×Int):Option ((Int×Int×Int)⊕((Int×Int)⊕(Int×Int))) :=
 (if (decide (g1.2.1 < (a0.bE.length:Int)))=true then
  gd (0≤g1.2.1∧g1.2.1 < (a0.bE.length:Int)) <|
  (a90 (a0.bE.getD g1.2.1.toNat aN.zero) (i64.wrap (a1+1)) g1.2.2).bind fun v1 =>
  (if (decide (v1.1=0))=true then
   some (.inr (.inr (0,v1.2)))
  else
   some (.inl ((if g1.1 < v1.1 then v1.1 else g1.1),i64.wrap (g1.2.1+1),v1.2)))
 else
  some (.inr (.inl (g1.1,g1.2.2))))
def zH5 (a90:(aN→Int→Int→Option (Int×Int))) (a0:aN) (a1 a2:Int):Option (Int×Int) :=
 (if (decide (4 < a1)||decide (24 < i64.wrap (a2+1)))=true then
  some (0,i64.wrap (a2+1))
 else
  (zc0 (zL0 a90 a0 a1) (0,0,i64.wrap (a2+1))).bind (fun|.inl z=>zay1 z|.inr z=>some z))
def zz0:Nat→(aN→Int→Int→Option (Int×Int))
 | 0=>fun _ _ _=>none
 | n+1=>zH5 (zz0 n)
def ze3 (a0:aN) (a1 a2:Int):Option (Int×Int):=zz0 (_root_.SizeOf.sizeOf a0+1) a0 a1 a2
@[reducible,instance] def zel2 (a90:(aN→Int→Int→Option (Int×Int))) (a0:aN) (a1 a2:Int):=mkJ (zH5 a90 a0 a1 a2) 0 (@zay1.eq_1) fun (j1:Int×Int)=>⟨[(7,.int .i64 j1.1)],[(0,⟨false,1,[A.int .i64 0],[[A.int .i64 j1.2]]⟩)],1⟩
@[reducible,instance] def zel3 (a90:(aN→Int→Int→Option (Int×Int))) (a0:aN) (a1:Int) {T:Type} (x:T):=mkL x (@zL0.eq_1 a90 a0 a1) fun (g1:Int×Int×Int)=>⟨[(1,.int .i64 a1),(2,.ptr 0 0 0),(7,.int .i64 g1.1),(25,la a0.bE),(26,.int .i64 (a0.bE.length:Int)),(27,.int .i64 g1.2.1)],[(0,⟨false,1,[A.int .i64 0],[[A.int .i64 g1.2.2]]⟩)],1⟩
abbrev zae3 (g:(aN→Int→Int→Option (Int×Int))):Prop:=∀ (a0:aN) (a1:Int) (a2:Int),OkM (g a0 a1 a2) 142 [.agg (aN.enc a0),.int .i64 a1,.ptr 0 0 0] [(0,⟨false,1,[A.int .i64 0],[[A.int .i64 a2]]⟩)] 1 (fun r=>.int .i64 r.1) (fun r=>[(0,⟨false,1,[A.int .i64 0],[[A.int .i64 r.2]]⟩)]) 1
theorem zbe6 (a90:(aN→Int→Int→Option (Int×Int))) (hrc:zae3 a90):zae3 (zH5 a90):=fun a0 a1 a2=>okm (zH5.eq_1 a90 a0 a1 a2) (fun r=>[.int .i64 r.1]) Tryz.f142 []
theorem zbe7:∀ n,zae3 (zz0 n):=zaM3 (fun _ _ _=>⟨fun _ h=>nomatch h⟩) fun n=>zbe6 _
instance zco6:zae3 ze3:=fun a0 a1 a2=>zbe7 _ a0 a1 a2
attribute [local irreducible] ze3
def zbc7 (j1:Unit):Option (Int×Int×Int) :=
 some (0,0,6)
def zx1 (a0:List Int) (g1:Int×Int):Option ((Int×Int)⊕(Unit⊕(Int×Int×Int))) :=
 (if (decide (g1.2 < 10))=true then
  (if (decide ((a0.length:Int)≤g1.2))=true then
   some (.inr (.inr (0,0,5)))
  else
   gd (0≤g1.2∧g1.2 < (a0.length:Int)) <|
   (if (decide (g1.2=9)&&decide (1 < a0.getD g1.2.toNat 0))=true then
    some (.inr (.inr (0,0,6)))
   else
    gd (0≤i64.wrap (7 * g1.2)) <|
    (if (!decide (zA9 .and .u8 (a0.getD g1.2.toNat 0) 128=0))=true then
     some (.inl ((zA9 .or .u64 g1.1 (u64.wrap (u64.wrap (zA9 .and .u8 (a0.getD g1.2.toNat 0) 127) * 2 ^ (Nat.min (i64.wrap (7 * g1.2)).toNat u64.bits)))),i64.wrap (g1.2+1)))
    else
     (if (decide (a0.getD g1.2.toNat 0=0)&&decide (0 < g1.2))=true then
      some (.inr (.inr (0,0,6)))
     else
      some (.inr (.inr ((zA9 .or .u64 g1.1 (u64.wrap (u64.wrap (zA9 .and .u8 (a0.getD g1.2.toNat 0) 127) * 2 ^ (Nat.min (i64.wrap (7 * g1.2)).toNat u64.bits)))),i64.wrap (g1.2+1),0)))))))
 else
  some (.inr (.inl ())))
def zi6 (a0:List Int):Option (Int×Int×Int) :=
 (zc0 (zx1 a0) (0,0)).bind (fun|.inl z=>zbc7 z|.inr z=>some z)
@[reducible,instance] def zdK8 a0:=mkJ (zi6 a0) 0 (@zbc7.eq_1) fun (j1:Unit)=>⟨[],[],0⟩
@[reducible,instance] def zdK9 (a0:List Int) {T:Type} (x:T):=mkL x (@zx1.eq_1 a0) fun (g1:Int×Int)=>⟨[(0,.sl (a0.map (eI .u8))),(5,.int .u64 g1.1),(8,.int .i64 g1.2)],[],0⟩
instance zdn0 (a0:List Int):OkP (zi6 a0) 122 [.sl (a0.map (eI .u8))] (fun r=>.tup [.int .u64 r.1,.int .i64 r.2.1,.int .i64 r.2.2]):=ok1 (zi6.eq_1 a0) Tryz.f122 []
attribute [local irreducible] zi6
def zV9 (j1:Unit):Option Bool :=
 some true
def zW0 (a0 a1:List aX) (g1:Int):Option (Int⊕(Unit⊕Bool)) :=
 (if (decide (g1 < (a0.length:Int)))=true then
  gd (0≤g1∧g1 < (a0.length:Int)) <|
  gd (0≤g1∧g1 < (a1.length:Int)) <|
  (if (!decide (a0.getD g1.toNat aX.zero=a1.getD g1.toNat aX.zero))=true then
   some (.inr (.inr false))
  else
   some (.inl (i64.wrap (g1+1))))
 else
  some (.inr (.inl ())))
def za8 (a0 a1:List aX):Option Bool :=
 (if (!decide ((a0.length:Int)=(a1.length:Int)))=true then
  some false
 else
  (zc0 (zW0 a0 a1) 0).bind (fun|.inl z=>zV9 z|.inr z=>some z))
@[reducible,instance] def zdL0 a0 a1:=mkJ (za8 a0 a1) 0 (@zV9.eq_1) fun (j1:Unit)=>⟨[],[],0⟩
@[reducible,instance] def zdL1 (a0 a1:List aX) {T:Type} (x:T):=mkL x (@zW0.eq_1 a0 a1) fun (g1:Int)=>⟨[(0,la a0),(1,la a1),(12,.int .i64 (a0.length:Int)),(13,.int .i64 g1)],[],0⟩
instance zax0 (a0 a1:List aX):OkP (za8 a0 a1) 82 [la a0,la a1] (fun r=>.bool r):=ok1 (za8.eq_1 a0 a1) Tryz.f82 []
attribute [local irreducible] za8
def zad2 (a0 a1:aX):Bool :=
 (decide ({ a0 with bR:=0 }={ a1 with bR:=0 }))
instance zbZ4 (a0 a1:aX):OkT 126 [.agg (aX.enc a0),.agg (aX.enc a1)] (.bool (zad2 a0 a1)):=ok2 (fun r=>.bool r) (zad2.eq_1 a0 a1) Tryz.f126 []
def zA0 (j1:Unit):Option Bool :=
 some true
def zr0 (a90:(aN→aN→Option Bool)) (a0 a1:List aN) (g1:Int):Option (Int⊕(Unit⊕Bool)) :=
 (if (decide (g1 < (a0.length:Int)))=true then
  gd (0≤g1∧g1 < (a0.length:Int)) <|
  gd (0≤g1∧g1 < (a1.length:Int)) <|
  (a90 (a0.getD g1.toNat aN.zero) (a1.getD g1.toNat aN.zero)).bind fun v1 =>
  (if (!v1)=true then
   some (.inr (.inr false))
  else
   some (.inl (i64.wrap (g1+1))))
 else
  some (.inr (.inl ())))
def za0 (a90:(aN→aN→Option Bool)) (a0 a1:List aN):Option Bool :=
 (if (!decide ((a0.length:Int)=(a1.length:Int)))=true then
  some false
 else
  (zc0 (zr0 a90 a0 a1) 0).bind (fun|.inl z=>zA0 z|.inr z=>some z))
@[reducible,instance] def zdL2 (a90:(aN→aN→Option Bool)) (a0 a1:List aN):=mkJ (za0 a90 a0 a1) 0 (@zA0.eq_1) fun (j1:Unit)=>⟨[],[],0⟩
@[reducible,instance] def zdL3 (a90:(aN→aN→Option Bool)) (a0 a1:List aN) {T:Type} (x:T):=mkL x (@zr0.eq_1 a90 a0 a1) fun (g1:Int)=>⟨[(1,la a1),(2,.clo 83 []),(15,la a0),(16,.int .i64 (a0.length:Int)),(17,.int .i64 g1)],[],0⟩
theorem zP2 (a90:(aN→aN→Option Bool)) (hrc:∀ (a0:aN) (a1:aN) (r:Bool),a90 a0 a1=some r→PFn C 83 [ga a0,ga a1] (.bool r)) (a0 a1:List aN) (r:Bool) (h:za0 a90 a0 a1=some r):MFn C 127 [la a0,la a1,.clo 83 []] [] 0 (.bool r) [] 0:=by
 refine zay0 Tryz.f127 [] [.bool r] fun E hG hN hK=>?_
 have hm:Mk (za0 a90 a0 a1):=trivial
 unfold za0 at h
 exact gogo
attribute [local irreducible] za0
def ze9 (a0:bP):Option (Bool×bP) :=
 some ((decide (a0.at_ < (a0.l.length:Int))),a0)
instance zct2 (a0:bP):OkM (ze9 a0) 118 [.ptr 0 0 0] [(0,bx a0)] 1 (fun r=>.bool r.1) (fun r=>[(0,bx r.2)]) 1:=okm (ze9.eq_1 a0) (fun r=>[.bool r.1]) Tryz.f118 []
attribute [local irreducible] ze9
def zR9 (a0:Int):Bool :=
 (decide (97≤a0)&&decide (a0≤122))
instance zcX3 (a0:Int):OkT 220 [.int .u8 a0] (.bool (zR9 a0)):=ok2 (fun r=>.bool r) (zR9.eq_1 a0) Tryz.f220 []
def zbc8 (j1:Unit):Option Int :=
 some (-1)
def zbc9 (a0:List aX) (a1:aJ) (g1:Int):Option (Int⊕(Unit⊕Int)) :=
 (if (decide (g1 < (a0.length:Int)))=true then
  gd (0≤g1∧g1 < (a0.length:Int)) <|
  (if (decide ((a0.getD g1.toNat aX.zero).aP=a1))=true then
   some (.inr (.inr g1))
  else
   some (.inl (i64.wrap (g1+1))))
 else
  some (.inr (.inl ())))
def zl0 (a0:List aX) (a1:aJ):Option Int :=
 (zc0 (zbc9 a0 a1) 0).bind (fun|.inl z=>zbc8 z|.inr z=>some z)
@[reducible,instance] def zdL4 a0 a1:=mkJ (zl0 a0 a1) 0 (@zbc8.eq_1) fun (j1:Unit)=>⟨[],[],0⟩
@[reducible,instance] def zdL5 (a0:List aX) (a1:aJ) {T:Type} (x:T):=mkL x (@zbc9.eq_1 a0 a1) fun (g1:Int)=>⟨[(0,la a0),(3,.ptr 0 0 0),(5,.int .i64 g1)],[(0,bx a1)],1⟩
instance zdn1 (a0:List aX) (a1:aJ):OkP (zl0 a0 a1) 136 [la a0,ga a1] (fun r=>.int .i64 r):=ok1 (zl0.eq_1 a0 a1) Tryz.f136 []
attribute [local irreducible] zl0
def zn1 (a0:aB):Option (aX×Bool) :=
 (if (decide (0 < (a0.aI.length:Int)))=true then
  gd (0≤0∧0 < (a0.aI.length:Int)) <|
  some ((a0.aI.getD 0 aX.zero),true)
 else
  (if (decide (0 < (a0.aV.length:Int)))=true then
   gd (0≤0∧0 < (a0.aV.length:Int)) <|
   some ((a0.aV.getD 0 aX.zero),true)
  else
   some ({ aX.zero with  },false)))
instance zdn2 (a0:aB):OkP (zn1 a0) 218 [ga a0] (fun r=>.tup [ga r.1,.bool r.2]):=ok1 (zn1.eq_1 a0) Tryz.f218 []
attribute [local irreducible] zn1
def zaU9 (j1:(List ByteArray)):Option (List ByteArray) :=
 some j1
def zaB8 (g1:Int×(List ByteArray)) (j3:(List ByteArray)):Option ((Int×(List ByteArray))⊕(List ByteArray)) :=
 some (.inl ((i64.wrap (g1.1+1)),j3))
def zaf0 (g2:Int×(List ByteArray)):Option ((Int×(List ByteArray))⊕(List ByteArray)) :=
 gd (decide (0 < g2.1)=true→0≤g2.1∧g2.1 < ((g2.2.length:Nat):Int)) <|
 gd (decide (0 < g2.1)=true→0≤i64.wrap (g2.1 - 1)∧i64.wrap (g2.1 - 1) < ((g2.2.length:Nat):Int)) <|
 (if (decide (0 < g2.1)&&Op.bytesLess (g2.2.getD g2.1.toNat ⟨#[]⟩).toList (g2.2.getD ((i64.wrap (g2.1 - 1)).toNat) ⟨#[]⟩).toList)=true then
  gd (0≤g2.1∧g2.1 < ((g2.2.length:Nat):Int)) <|
  gd (0≤i64.wrap (g2.1 - 1)∧i64.wrap (g2.1 - 1) < ((g2.2.length:Nat):Int)) <|
  gd (0≤g2.1∧g2.1 < ((g2.2.length:Nat):Int)) <|
  gd (0≤i64.wrap (g2.1 - 1)∧i64.wrap (g2.1 - 1) < ((g2.2.length:Nat):Int)) <|
  some (.inl ((i64.wrap (g2.1 - 1)),(g2.2.set g2.1.toNat (g2.2.getD ((i64.wrap (g2.1 - 1)).toNat) ⟨#[]⟩)).set ((i64.wrap (g2.1 - 1)).toNat) (g2.2.getD g2.1.toNat ⟨#[]⟩)))
 else
  some (.inr g2.2))
def zaf1 (a0:List bM) (g1:Int×(List ByteArray)) (j2:Bool):Option ((Int×(List ByteArray))⊕(List ByteArray)) :=
 (if j2=true then
  some (.inl ((i64.wrap (g1.1+1)),g1.2))
 else
  gd (0≤g1.1∧g1.1 < (a0.length:Int)) <|
  gd (g1.2.length+1≤4294967296) <|
  (zc0 zaf0 ((i64.wrap (((g1.2.length+1:Nat):Int) - 1)),(g1.2++[(a0.getD g1.1.toNat bM.zero).name]))).bind (fun z=>zaB8 g1 z))
def zaf2 (a0:List bM) (g1:Int×(List ByteArray)) (g3:Bool×Int):Option ((Bool×Int)⊕Bool) :=
 (if (decide (g3.2 < ((g1.2.length:Nat):Int)))=true then
  gd ((!g3.1)=true→0≤g3.2∧g3.2 < ((g1.2.length:Nat):Int)) <|
  gd ((!g3.1)=true→0≤g1.1∧g1.1 < (a0.length:Int)) <|
  some (.inl ((g3.1||((g1.2.getD g3.2.toNat ⟨#[]⟩).toList == ((a0.getD g1.1.toNat bM.zero).name).toList)),i64.wrap (g3.2+1)))
 else
  some (.inr g3.1))
def zaf3 (a0:List bM) (g1:Int×(List ByteArray)):Option ((Int×(List ByteArray))⊕(List ByteArray)) :=
 (if (decide (g1.1 < (a0.length:Int)))=true then
  (zc0 (zaf2 a0 g1) (false,0)).bind (fun z=>zaf1 a0 g1 z)
 else
  some (.inr g1.2))
def zi9 (a0:List bM):Option (List ByteArray) :=
 (zc0 (zaf3 a0) (0,[])).bind (fun z=>zaU9 z)
@[reducible,instance] def zdL6 a0:=mkJ (zi9 a0) 0 (@zaU9.eq_1) fun (j1:(List ByteArray))=>⟨[(3,.own 0 0 j1.length)],[(0,⟨false,1,[A.str ⟨#[]⟩],j1.map eS⟩)],1⟩
@[reducible,instance] def zdL7 (a0:List bM) (g1:Int×(List ByteArray)) j2:=mkJ (zaf1 a0 g1 j2) 4 (@zaB8.eq_1 g1) fun (j3:(List ByteArray))=>⟨[(0,la a0),(3,.own 0 0 j3.length),(4,.int .i64 g1.1)],[(0,⟨false,1,[A.str ⟨#[]⟩],j3.map eS⟩)],1⟩
@[reducible,instance] def zdL8 (a0:List bM) (g1:Int×(List ByteArray)) j2:=mkL (zaf1 a0 g1 j2) (@zaf0.eq_1) fun (g2:Int×(List ByteArray))=>⟨[(0,la a0),(3,.own 0 0 g2.2.length),(4,.int .i64 g1.1),(7,.int .i64 g2.1)],[(0,⟨false,1,[A.str ⟨#[]⟩],g2.2.map eS⟩)],1⟩
@[reducible,instance] def zdL9 (a0:List bM) (g1:Int×(List ByteArray)):=mkJ (zaf3 a0 g1) 2 (@zaf1.eq_1 a0 g1) fun (j2:Bool)=>⟨[(0,la a0),(3,.own 0 0 g1.2.length),(4,.int .i64 g1.1),(5,.bool j2)],[(0,⟨false,1,[A.str ⟨#[]⟩],g1.2.map eS⟩)],1⟩
@[reducible,instance] def zdM0 (a0:List bM) (g1:Int×(List ByteArray)) {T:Type} (x:T):=mkL x (@zaf2.eq_1 a0 g1) fun (g3:Bool×Int)=>⟨[(0,la a0),(3,.own 0 0 g1.2.length),(4,.int .i64 g1.1),(5,.bool g3.1),(6,.int .i64 g3.2)],[(0,⟨false,1,[A.str ⟨#[]⟩],g1.2.map eS⟩)],1⟩
@[reducible,instance] def zdM1 (a0:List bM) {T:Type} (x:T):=mkL x (@zaf3.eq_1 a0) fun (g1:Int×(List ByteArray))=>⟨[(0,la a0),(3,.own 0 0 g1.2.length),(4,.int .i64 g1.1)],[(0,⟨false,1,[A.str ⟨#[]⟩],g1.2.map eS⟩)],1⟩
instance zbQ9 (a0:List bM):OkP (zi9 a0) 193 [la a0] (fun r=>.sl (r.map eS)):=ok1 (zi9.eq_1 a0) Tryz.f193 [(3,1)]
attribute [local irreducible] zi9
def zbd0 (j1:Unit):Option Int :=
 some (-1)
def zat7 (a0:List aB) (a1:ByteArray) (g1:Int):Option (Int⊕(Unit⊕Int)) :=
 (if (decide (g1 < (a0.length:Int)))=true then
  gd (0≤g1∧g1 < (a0.length:Int)) <|
  (if ((((a0.getD g1.toNat aB.zero).aA).name).toList == a1.toList)=true then
   some (.inr (.inr g1))
  else
   some (.inl (i64.wrap (g1+1))))
 else
  some (.inr (.inl ())))
def zi2 (a0:List aB) (a1:ByteArray):Option Int :=
 (zc0 (zat7 a0 a1) 0).bind (fun|.inl z=>zbd0 z|.inr z=>some z)
@[reducible,instance] def zdM2 a0 a1:=mkJ (zi2 a0 a1) 0 (@zbd0.eq_1) fun (j1:Unit)=>⟨[],[],0⟩
@[reducible,instance] def zdM3 (a0:List aB) (a1:ByteArray) {T:Type} (x:T):=mkL x (@zat7.eq_1 a0 a1) fun (g1:Int)=>⟨[(0,la a0),(1,.str a1),(5,.int .i64 g1)],[],0⟩
instance zbp1 (a0:List aB) (a1:ByteArray):OkP (zi2 a0 a1) 95 [la a0,.str a1] (fun r=>.int .i64 r):=ok1 (zi2.eq_1 a0 a1) Tryz.f95 []
attribute [local irreducible] zi2
def zaM5 (j1:(List aH)):Option (List aH) :=
 some j1
def zai2 (a0:List aB) (g1:Int×(List aH)):Option ((Int×(List aH))⊕(List aH)) :=
 (if (decide (g1.1 < (a0.length:Int)))=true then
  gd (0≤g1.1∧g1.1 < (a0.length:Int)) <|
  gd (g1.2.length+1≤4294967296) <|
  some (.inl ((i64.wrap (g1.1+1)),(g1.2++[(a0.getD g1.1.toNat aB.zero).aA])))
 else
  some (.inr g1.2))
def zg9 (a0:List aB):Option (List aH) :=
 (zc0 (zai2 a0) (0,[])).bind (fun z=>zaM5 z)
@[reducible,instance] def zdM4 a0:=mkJ (zg9 a0) 0 (@zaM5.eq_1) fun (j1:(List aH))=>⟨[(3,.own 0 0 j1.length)],[(0,sx j1)],1⟩
@[reducible,instance] def zdM5 (a0:List aB) {T:Type} (x:T):=mkL x (@zai2.eq_1 a0) fun (g1:Int×(List aH))=>⟨[(0,la a0),(3,.own 0 0 g1.2.length),(4,.int .i64 g1.1)],[(0,sx g1.2)],1⟩
instance zcQ1 (a0:List aB):OkP (zg9 a0) 158 [la a0] (fun r=>la r):=ok1 (zg9.eq_1 a0) Tryz.f158 [(3,1)]
attribute [local irreducible] zg9
def zay2 (a0:List aX) (j1:(List aX)):Option ((List aX)×Bool) :=
 some (j1,decide (((j1.length:Nat):Int) < (a0.length:Int)))
def zab2 (a0:List aX) (a1:aJ) (g1:Int×(List aX)):Option ((Int×(List aX))⊕(List aX)) :=
 (if (decide (g1.1 < (a0.length:Int)))=true then
  gd (0≤g1.1∧g1.1 < (a0.length:Int)) <|
  (if (!decide ((a0.getD g1.1.toNat aX.zero).aP=a1))=true then
   gd (0≤g1.1∧g1.1 < (a0.length:Int)) <|
   gd (g1.2.length+1≤4294967296) <|
   some (.inl ((i64.wrap (g1.1+1)),(g1.2++[(a0.getD g1.1.toNat aX.zero)])))
  else
   some (.inl ((i64.wrap (g1.1+1)),g1.2)))
 else
  some (.inr g1.2))
def zh2 (a0:List aX) (a1:aJ):Option ((List aX)×Bool) :=
 (zc0 (zab2 a0 a1) (0,[])).bind (fun z=>zay2 a0 z)
@[reducible,instance] def zdM6 (a0:List aX) a1:=mkJ (zh2 a0 a1) 0 (@zay2.eq_1 a0) fun (j1:(List aX))=>⟨[(0,la a0),(6,.own 0 0 j1.length)],[(0,sx j1)],1⟩
@[reducible,instance] def zdM7 (a0:List aX) (a1:aJ) {T:Type} (x:T):=mkL x (@zab2.eq_1 a0 a1) fun (g1:Int×(List aX))=>⟨[(0,la a0),(3,.ptr 0 0 0),(6,.own 1 0 g1.2.length),(7,.int .i64 g1.1)],[(0,bx a1),(1,sx g1.2)],2⟩
instance zcX4 (a0:List aX) (a1:aJ):OkP (zh2 a0 a1) 281 [la a0,ga a1] (fun r=>.tup [la r.1,.bool r.2]):=ok1 (zh2.eq_1 a0 a1) Tryz.f281 [(6,1)]
attribute [local irreducible] zh2
def zaQ8 (j1:(List bL)):Option (List bL) :=
 some j1
def zak8 (a0:ByteArray) (a1:List aY) (g1:Int×(List bL)):Option ((Int×(List bL))⊕(List bL)) :=
 (if (decide (g1.1 < (a1.length:Int)))=true then
  gd (0≤g1.1∧g1.1 < (a1.length:Int)) <|
  gd (0≤g1.1∧g1.1 < (a1.length:Int)) <|
  gd (g1.2.length+1≤4294967296) <|
  some (.inl ((i64.wrap (g1.1+1)),(g1.2++[(⟨1,(a1.getD g1.1.toNat aY.zero).aP,a0,(a1.getD g1.1.toNat aY.zero).aK⟩:bL)])))
 else
  some (.inr g1.2))
def zg6 (a0:ByteArray) (a1:List aY):Option (List bL) :=
 (zc0 (zak8 a0 a1) (0,[])).bind (fun z=>zaQ8 z)
@[reducible,instance] def zdM8 a0 a1:=mkJ (zg6 a0 a1) 0 (@zaQ8.eq_1) fun (j1:(List bL))=>⟨[(5,.own 0 0 j1.length)],[(0,sx j1)],1⟩
@[reducible,instance] def zdM9 (a0:ByteArray) (a1:List aY) {T:Type} (x:T):=mkL x (@zak8.eq_1 a0 a1) fun (g1:Int×(List bL))=>⟨[(0,.str a0),(1,la a1),(5,.own 0 0 g1.2.length),(6,.int .i64 g1.1)],[(0,sx g1.2)],1⟩
instance zbJ2 (a0:ByteArray) (a1:List aY):OkP (zg6 a0 a1) 270 [.str a0,la a1] (fun r=>la r):=ok1 (zg6.eq_1 a0 a1) Tryz.f270 [(5,1)]
attribute [local irreducible] zg6
def zc8 (a0:List aB) (a1:List bL) (a2:aZ):Option (Int×(List aB)×(List aG)×(List bL)) :=
 gd (a2.ev.length+a1.length≤4294967296) <|
 some (a2.c.now,a0,a2.c.aD,(a2.ev++a1))
instance zbe8 (a0:List aB) (a1:List bL) (a2:aZ):OkM (zc8 a0 a1 a2) 246 [.ptr 0 0 0,la a0,la a1] [(0,⟨false,4,aZ.enc aZ.zero,[[.int .i64 a2.c.now,la a2.c.aF,.own 1 0 a2.c.aD.length,.own 2 0 a2.ev.length]]⟩),(1,sx a2.c.aD),(2,sx a2.ev)] 3 (fun r=>.tup []) (fun r=>[(0,⟨false,4,aZ.enc aZ.zero,[[.int .i64 r.1,la r.2.1,.own 1 0 r.2.2.1.length,.own 3 0 r.2.2.2.length]]⟩),(1,sx r.2.2.1),(3,sx r.2.2.2)]) 4:=okm (zc8.eq_1 a0 a1 a2) (fun r=>[]) Tryz.f246 []
attribute [local irreducible] zc8
def zaG4 (j1:Unit):Option Bool :=
 some true
def zaG5 (a0 a1:List aY) (g1:Int):Option (Int⊕(Unit⊕Bool)) :=
 (if (decide (g1 < (a0.length:Int)))=true then
  gd (0≤g1∧g1 < (a0.length:Int)) <|
  gd (0≤g1∧g1 < (a1.length:Int)) <|
  (if (!decide (a0.getD g1.toNat aY.zero=a1.getD g1.toNat aY.zero))=true then
   some (.inr (.inr false))
  else
   some (.inl (i64.wrap (g1+1))))
 else
  some (.inr (.inl ())))
def zf0 (a0 a1:List aY):Option Bool :=
 (if (!decide ((a0.length:Int)=(a1.length:Int)))=true then
  some false
 else
  (zc0 (zaG5 a0 a1) 0).bind (fun|.inl z=>zaG4 z|.inr z=>some z))
@[reducible,instance] def zdN0 a0 a1:=mkJ (zf0 a0 a1) 0 (@zaG4.eq_1) fun (j1:Unit)=>⟨[],[],0⟩
@[reducible,instance] def zdN1 (a0 a1:List aY) {T:Type} (x:T):=mkL x (@zaG5.eq_1 a0 a1) fun (g1:Int)=>⟨[(0,la a0),(1,la a1),(5,.int .i64 g1)],[],0⟩
instance zcC6 (a0 a1:List aY):OkP (zf0 a0 a1) 97 [la a0,la a1] (fun r=>.bool r):=ok1 (zf0.eq_1 a0 a1) Tryz.f97 []
attribute [local irreducible] zf0
def zas4 (a0 a1:List Int):Bool :=
 ((zam3 a0).toList == (zam3 a1).toList)
instance zdd3 (a0 a1:List Int):OkT 21 [.sl (a0.map (eI .u8)),.sl (a1.map (eI .u8))] (.bool (zas4 a0 a1)):=ok2 (fun r=>.bool r) (zas4.eq_1 a0 a1) Tryz.f21 []
end
end Ab
end Go.Proofs.YtcggeefhhegeoaaGreatDoor
