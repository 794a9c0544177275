import Derived.Test.YtcggeefhhegeoaaGreatDoorAuto
namespace Go.Proofs.YtcggeefhhegeoaaGreatDoor
namespace Ab
open IntKind (i64 u64 u8)
set_option linter.unusedSimpArgs false
set_option linter.unusedVariables false
set_option linter.defProp false
set_option maxRecDepth 100000
set_option maxHeartbeats 1000000
noncomputable section
def zl2 (a0:Amount):Bool :=
 (decide (a0={ Amount.zero with  }))
instance zbL8 (a0:Amount):OkT 227 [.agg (Amount.enc a0)] (.bool (zl2 a0)):=ok2 (fun r=>.bool r) (zl2.eq_1 a0) Tryz.f227 []
def zaQ9 (j1:Unit):Option Amount :=
 some ({ Amount.zero with  })
def zM9 (a0:List Hold) (a1:Proc) (g1:Int):Option (Int⊕(Unit⊕Amount)) :=
 (if (decide (g1 < (a0.length:Int)))=true then
  gd (0≤g1∧g1 < (a0.length:Int)) <|
  (if (decide ((a0.getD g1.toNat Hold.zero).proc=a1))=true then
   some (.inr (.inr ((a0.getD g1.toNat Hold.zero).amount)))
  else
   some (.inl (i64.wrap (g1+1))))
 else
  some (.inr (.inl ())))
def zj2 (a0:List Hold) (a1:Proc):Option Amount :=
 (zc0 (zM9 a0 a1) 0).bind (fun|.inl z=>zaQ9 z|.inr z=>some z)
@[reducible,instance] def zeb4 a0 a1:=mkJ (zj2 a0 a1) 0 (@zaQ9.eq_1) fun (j1:Unit)=>⟨[(4,.ptr 0 0 0)],[(0,bx Amount.zero)],1⟩
@[reducible,instance] def zeb5 (a0:List Hold) (a1:Proc) {T:Type} (x:T):=mkL x (@zM9.eq_1 a0 a1) fun (g1:Int)=>⟨[(3,.ptr 0 0 0),(4,.ptr 1 0 0),(7,la a0),(8,.int .i64 (a0.length:Int)),(9,.int .i64 g1)],[(0,bx a1),(1,bx Amount.zero)],2⟩
instance zcW0 (a0:List Hold) (a1:Proc):OkP (zj2 a0 a1) 263 [la a0,ga a1] (fun r=>ga r):=ok1 (zj2.eq_1 a0 a1) Tryz.f263 []
attribute [local irreducible] zj2
def zaI6 (a0:Int):(Arr Bool 6) :=
 (if (decide (a0=5))=true then
  (Arr.put (Arr.put (Arr.put (Arr.put (Arr.put (Arr.rep 6 false) 5 true) 4 true) 3 true) 2 true) 1 true)
 else
  (if (decide (a0=4))=true then
   (Arr.put (Arr.put (Arr.put (Arr.put (Arr.rep 6 false) 4 true) 3 true) 2 true) 1 true)
  else
   (if (decide (a0=2))=true then
    (Arr.put (Arr.put (Arr.rep 6 false) 2 true) 1 true)
   else
    (if (decide (a0=1))=true then
     (Arr.put (Arr.rep 6 false) 1 true)
    else
     (if (decide (a0=3))=true then
      (Arr.put (Arr.put (Arr.rep 6 false) 3 true) 1 true)
     else
      (Arr.rep 6 false))))))
instance zcQ5 (a0:Int):OkT 276 [.int .i64 a0] (.agg (Arr.enc eB (zaI6 a0))):=ok2 (fun r=>.agg (Arr.enc eB r)) (zaI6.eq_1 a0) Tryz.f276 []
def zO1 (a0:List Proc) (j1:Unit):Option ((List Proc)×(List Proc)) :=
 some (a0,a0)
def zC1 (j2:Int×(List Proc)):Option (Int⊕(Unit⊕((List Proc)×(List Proc)))) :=
 gd (0≤j2.1∧j2.1≤((j2.2.length:Nat):Int)∧((j2.2.length:Nat):Int)≤((j2.2.length:Nat):Int)) <|
 gd (0≤0∧0≤j2.1∧j2.1≤((j2.2.length:Nat):Int)) <|
 some (.inr (.inr ((((j2.2.take j2.1.toNat++List.replicate (j2.2.length - j2.1.toNat) Proc.zero++j2.2.drop (j2.1.toNat+(j2.2.length - j2.1.toNat))).drop 0).take j2.1.toNat),(j2.2.take j2.1.toNat++List.replicate (j2.2.length - j2.1.toNat) Proc.zero++j2.2.drop (j2.1.toNat+(j2.2.length - j2.1.toNat))))))
def zw5 (a0:List Proc) (g1:Int) (g2:Int×Int×(List Proc)):Option ((Int×Int×(List Proc))⊕(Int×(List Proc))) :=
 (if (decide (g2.2.1 < (((a0.length - g1.toNat):Nat):Int)))=true then
  gd (0≤g2.2.1∧g2.2.1 < (((a0.length - g1.toNat):Nat):Int)∧g1.toNat+(a0.length - g1.toNat)≤g2.2.2.length) <|
  gd (0≤i64.wrap (g2.2.1 - 1)∧i64.wrap (g2.2.1 - 1) < (((a0.length - g1.toNat):Nat):Int)∧g1.toNat+(a0.length - g1.toNat)≤g2.2.2.length) <|
  (if (!decide (g2.2.2.getD (g1.toNat+g2.2.1.toNat) Proc.zero=g2.2.2.getD (g1.toNat+(i64.wrap (g2.2.1 - 1)).toNat) Proc.zero))=true then
   gd (0≤g2.2.1∧g2.2.1 < (((a0.length - g1.toNat):Nat):Int)∧g1.toNat+(a0.length - g1.toNat)≤g2.2.2.length) <|
   gd (0≤g2.1∧g2.1 < ((g2.2.2.length:Nat):Int)) <|
   some (.inl ((i64.wrap (g2.1+1)),i64.wrap (g2.2.1+1),g2.2.2.set g2.1.toNat (g2.2.2.getD (g1.toNat+g2.2.1.toNat) Proc.zero)))
  else
   some (.inl (g2.1,i64.wrap (g2.2.1+1),g2.2.2)))
 else
  some (.inr (g2.1,g2.2.2)))
def zt3 (a0:List Proc) (g1:Int):Option (Int⊕(Unit⊕((List Proc)×(List Proc)))) :=
 (if (decide (g1 < ((a0.length:Nat):Int)))=true then
  gd (0≤g1∧g1 < ((a0.length:Nat):Int)) <|
  gd (0≤i64.wrap (g1 - 1)∧i64.wrap (g1 - 1) < ((a0.length:Nat):Int)) <|
  (if (decide (a0.getD g1.toNat Proc.zero=a0.getD ((i64.wrap (g1 - 1)).toNat) Proc.zero))=true then
   gd (0≤g1∧g1≤((a0.length:Nat):Int)∧((a0.length:Nat):Int)≤((a0.length:Nat):Int)) <|
   (zc0 (zw5 a0 g1) (g1,1,a0)).bind (fun z=>zC1 z)
  else
   some (.inl (i64.wrap (g1+1))))
 else
  some (.inr (.inl ())))
def za4 (a0:List Proc):Option ((List Proc)×(List Proc)) :=
 (if (decide (((a0.length:Nat):Int) < 2))=true then
  some (a0,a0)
 else
  (zc0 (zt3 a0) 1).bind (fun|.inl z=>zO1 a0 z|.inr z=>some z))
@[reducible,instance] def zdA2 (a0:List Proc):=mkJ (za4 a0) 0 (@zO1.eq_1 a0) fun (j1:Unit)=>⟨[(0,.own 0 0 a0.length)],[(0,sx a0)],1⟩
@[reducible,instance] def zdA3 (a0:List Proc) (g1:Int):=mkJ (zt3 a0 g1) 2 (@zC1.eq_1) fun (j2:Int×(List Proc))=>⟨[(0,.own 0 0 j2.2.length),(3,.int .i64 j2.1)],[(0,sx j2.2)],1⟩
@[reducible,instance] def zdA4 (a0:List Proc) (g1:Int) {T:Type} (x:T):=mkL x (@zw5.eq_1 a0 g1) fun (g2:Int×Int×(List Proc))=>⟨[(0,.own 0 0 g2.2.2.length),(3,.int .i64 g2.1),(4,.own 0 g1.toNat (a0.length - g1.toNat)),(5,.int .i64 g2.2.1)],[(0,sx g2.2.2)],1⟩
@[reducible,instance] def zdA5 (a0:List Proc) {T:Type} (x:T):=mkL x (@zt3.eq_1 a0) fun (g1:Int)=>⟨[(0,.own 0 0 a0.length),(3,.int .i64 g1)],[(0,sx a0)],1⟩
instance zaj3 (a0:List Proc):OkM (za4 a0) 113 [.own 0 0 a0.length] [(0,sx a0)] 1 (fun r=>la r.1) (fun r=>[(0,⟨true,3,Proc.enc Proc.zero,r.2.map Proc.enc⟩)]) 1:=⟨fun r h=>by
 refine zaC5 Tryz.f113 [] [la r.1] fun E hG hN hK=>?_
 have hm:Mk (za4 a0):=trivial
 unfold za4 at h
 refine za2 (za9 hG ?_)
 refine za2 (za2 (za9 hG ?_))
 refine zo2 rfl hG h (fun _ h=>?_) (fun _ h=>?_)
 · refine za2 (za9 hG ?_)
   refine g_gh (.fz [0]) ?_
   exact gogo
 refine zn4 ?_
 refine za2 (za2 (za9 hG ?_))
 refine zao7 hm h (fun j1 hm h=>?_) ?_
 · try refine g_st ?_
   refine za2 (za9 hG ?_)
   refine g_gh (.fz [0]) ?_
   exact gogo
 refine zcF0 hm hK [(0,0)] h (fun g1 y hm kx h=>?_)
 try refine g_st ?_
 refine za2 (za2 (za9 hG ?_))
 refine zo2 rfl hG h (fun _ h=>?_) (fun _ h=>?_)
 · refine zn4 ?_
   refine za2 (zI8 (za2 ?_))
   obtain ⟨hb8,h⟩:=zg5 h
   obtain ⟨hb9,h⟩:=zg5 h
   refine zbc9 zL7 hG ?_
   refine zo2 rfl hG h (fun _ h=>?_) (fun _ h=>?_)
   · refine za2 ?_
     obtain ⟨hb7,h⟩:=zg5 h
     refine za9 hG ?_
     refine za2 (za2 (za9 hG ?_))
     refine zao7 hm h (fun j2 hm h=>?_) ?_
     · try refine g_st ?_
       refine za2 ?_
       obtain ⟨hb2,h⟩:=zg5 h
       refine za9 hG ?_
       refine za2 ?_
       obtain ⟨hb1,h⟩:=zg5 h
       refine za9 hG ?_
       refine g_gh (.fz [0]) ?_
       exact gogo
     exact gogo
   exact gogo
 exact gogo⟩
attribute [local irreducible] za4
def zao9 (a0:Expr) (j1:(List Expr)):Option Expr :=
 some (⟨a0.k,(⟨a0.atom.name,(⟨a0.atom.amount.mode,a0.atom.amount.units⟩:Amount)⟩:Atom),j1⟩:Expr)
def zaa4 (a90:(Expr→Option Expr)) (a0:Expr) (g1:Int×(List Expr)):Option ((Int×(List Expr))⊕(List Expr)) :=
 (if (decide (g1.1 < (a0.kids.length:Int)))=true then
  gd (0≤g1.1∧g1.1 < (a0.kids.length:Int)) <|
  (a90 (a0.kids.getD g1.1.toNat Expr.zero)).bind fun v1 =>
  gd (g1.2.length+1≤4294967296) <|
  some (.inl ((i64.wrap (g1.1+1)),(g1.2++[v1])))
 else
  some (.inr g1.2))
def zy6 (a90:(Expr→Option Expr)) (a0:Expr):Option Expr :=
 (zc0 (zaa4 a90 a0) (0,[])).bind (fun z=>zao9 a0 z)
def zaf2:Nat→(Expr→Option Expr)
 | 0=>fun _=>none
 | n+1=>zy6 (zaf2 n)
def zd1 (a0:Expr):Option Expr:=zaf2 (_root_.SizeOf.sizeOf a0+1) a0
@[reducible,instance] def zdA6 (a90:(Expr→Option Expr)) (a0:Expr):=mkJ (zy6 a90 a0) 0 (@zao9.eq_1 a0) fun (j1:(List Expr))=>⟨[(1,.ptr 0 0 0),(2,.ptr 1 0 0),(3,.own 2 0 j1.length)],[(0,bx a0),(1,bx Expr.zero),(2,sx j1)],3⟩
@[reducible,instance] def zdA7 (a90:(Expr→Option Expr)) (a0:Expr) {T:Type} (x:T):=mkL x (@zaa4.eq_1 a90 a0) fun (g1:Int×(List Expr))=>⟨[(1,.ptr 0 0 0),(2,.ptr 1 0 0),(3,.own 2 0 g1.2.length),(7,la a0.kids),(8,.int .i64 (a0.kids.length:Int)),(9,.int .i64 g1.1)],[(0,bx a0),(1,bx Expr.zero),(2,sx g1.2)],3⟩
abbrev zW5 (g:(Expr→Option Expr)):Prop:=∀ (a0:Expr),OkP (g a0) 105 [.agg (Expr.enc a0)] (fun r=>.agg (Expr.enc r))
theorem zaR0 (a90:(Expr→Option Expr)) (hrc:zW5 a90):zW5 (zy6 a90):=fun a0=>⟨fun r h=>by
 refine zag9 Tryz.f105 [(3,1)] fun E hG hN hK=>?_
 have hm:Mk (zy6 a90 a0):=trivial
 unfold zy6 at h
 refine za2 (za9 hG ?_)
 refine za2 (za9 hG ?_)
 refine za2 (za2 (za9 hG ?_))
 refine zao7 hm h (fun j1 hm h=>?_) ?_
 · try refine g_st ?_
   refine za2 (za9 hG ?_)
   refine za2 (za9 hG ?_)
   refine zw3 ?_
   exact zW9 h (by intro e; subst e; simp [Atom.enc,Amount.enc])
 exact gogo⟩
theorem zaR1:∀ n,zW5 (zaf2 n):=zaP4 (fun _=>⟨fun _ h=>nomatch h⟩) fun n=>zaR0 _
instance zaV5:zW5 zd1:=fun a0=>zaR1 _ a0
attribute [local irreducible] zd1
def zF6 (j1:Unit):Option Int :=
 some (-1)
def zv2 (a0:List Atom) (a1:Atom) (g1:Int):Option (Int⊕(Unit⊕Int)) :=
 (if (decide (g1 < (a0.length:Int)))=true then
  gd (0≤g1∧g1 < (a0.length:Int)) <|
  (if (decide (a1=a0.getD g1.toNat Atom.zero))=true then
   some (.inr (.inr g1))
  else
   some (.inl (i64.wrap (g1+1))))
 else
  some (.inr (.inl ())))
def za7 (a0:List Atom) (a1:Atom):Option Int :=
 (zc0 (zv2 a0 a1) 0).bind (fun|.inl z=>zF6 z|.inr z=>some z)
@[reducible,instance] def zdA8 a0 a1:=mkJ (za7 a0 a1) 0 (@zF6.eq_1) fun (j1:Unit)=>⟨[],[],0⟩
@[reducible,instance] def zdA9 (a0:List Atom) (a1:Atom) {T:Type} (x:T):=mkL x (@zv2.eq_1 a0 a1) fun (g1:Int)=>⟨[(0,la a0),(3,.ptr 0 0 0),(7,.int .i64 (a0.length:Int)),(8,.int .i64 g1)],[(0,bx a1)],1⟩
instance zbp9 (a0:List Atom) (a1:Atom):OkP (za7 a0 a1) 166 [la a0,ga a1] (fun r=>.int .i64 r):=ok1 (za7.eq_1 a0 a1) Tryz.f166 []
attribute [local irreducible] za7
def zx6 (a0:Int):Bool :=
 (decide (1≤a0)&&decide (a0≤5))
instance zcW1 (a0:Int):OkT 196 [.int .i64 a0] (.bool (zx6 a0)):=ok2 (fun r=>.bool r) (zx6.eq_1 a0) Tryz.f196 []
def zO2 (a0 a1:Int):Int :=
 (if (decide (a0 < a1))=true then
  (-1)
 else
  (if (decide (a1 < a0))=true then
   1
  else
   0))
instance zcW2 (a0 a1:Int):OkT 130 [.int .i64 a0,.int .i64 a1] (.int .i64 (zO2 a0 a1)):=ok2 (fun r=>.int .i64 r) (zO2.eq_1 a0 a1) Tryz.f130 []
def zaq9 (j1:Unit):Option Bool :=
 some false
def zU8 (a0:List Proc) (a1:Proc) (g1:Int):Option (Int⊕(Unit⊕Bool)) :=
 (if (decide (g1 < (a0.length:Int)))=true then
  gd (0≤g1∧g1 < (a0.length:Int)) <|
  (if (decide (a0.getD g1.toNat Proc.zero=a1))=true then
   some (.inr (.inr true))
  else
   some (.inl (i64.wrap (g1+1))))
 else
  some (.inr (.inl ())))
def zf7 (a0:List Proc) (a1:Proc):Option Bool :=
 (zc0 (zU8 a0 a1) 0).bind (fun|.inl z=>zaq9 z|.inr z=>some z)
@[reducible,instance] def zdB0 a0 a1:=mkJ (zf7 a0 a1) 0 (@zaq9.eq_1) fun (j1:Unit)=>⟨[],[],0⟩
@[reducible,instance] def zdB1 (a0:List Proc) (a1:Proc) {T:Type} (x:T):=mkL x (@zU8.eq_1 a0 a1) fun (g1:Int)=>⟨[(0,la a0),(3,.ptr 0 0 0),(5,.int .i64 g1)],[(0,bx a1)],1⟩
instance zcK5 (a0:List Proc) (a1:Proc):OkP (zf7 a0 a1) 85 [la a0,ga a1] (fun r=>.bool r):=ok1 (zf7.eq_1 a0 a1) Tryz.f85 []
attribute [local irreducible] zf7
def zaY4 (j1:Amount):Option Amount :=
 some j1
def zaq0 (a0:List Entry) (a1:ByteArray) (g1:Int×Amount):Option ((Int×Amount)⊕Amount) :=
 (if (decide (g1.1 < (a0.length:Int)))=true then
  gd (0≤g1.1∧g1.1 < (a0.length:Int)) <|
  (if (((a0.getD g1.1.toNat Entry.zero).name).toList == a1.toList)=true then
   gd (0≤g1.1∧g1.1 < (a0.length:Int)) <|
   some (.inl ((i64.wrap (g1.1+1)),(a0.getD g1.1.toNat Entry.zero).after))
  else
   some (.inl ((i64.wrap (g1.1+1)),g1.2)))
 else
  some (.inr g1.2))
def zi6 (a0:List Entry) (a1:ByteArray):Option Amount :=
 (zc0 (zaq0 a0 a1) (0,Amount.zero)).bind (fun z=>zaY4 z)
@[reducible,instance] def zdB2 a0 a1:=mkJ (zi6 a0 a1) 0 (@zaY4.eq_1) fun (j1:Amount)=>⟨[(4,.ptr 0 0 0),(5,.ptr 1 0 0)],[(0,bx Amount.zero),(1,bx j1)],2⟩
@[reducible,instance] def zdB3 (a0:List Entry) (a1:ByteArray) {T:Type} (x:T):=mkL x (@zaq0.eq_1 a0 a1) fun (g1:Int×Amount)=>⟨[(0,la a0),(1,.str a1),(4,.ptr 0 0 0),(5,.ptr 1 0 0),(6,.int .i64 g1.1)],[(0,bx Amount.zero),(1,bx g1.2)],2⟩
instance zbU5 (a0:List Entry) (a1:ByteArray):OkP (zi6 a0 a1) 191 [la a0,.str a1] (fun r=>ga r):=ok1 (zi6.eq_1 a0 a1) Tryz.f191 []
attribute [local irreducible] zi6
def zaY5 (j1:Unit):Option Int :=
 some (-1)
def zaq1 (a0:List Save) (a1 g1:Int):Option (Int⊕(Unit⊕Int)) :=
 (if (decide (g1 < (a0.length:Int)))=true then
  gd (0≤g1∧g1 < (a0.length:Int)) <|
  (if (decide ((a0.getD g1.toNat Save.zero).label=a1))=true then
   some (.inr (.inr g1))
  else
   some (.inl (i64.wrap (g1+1))))
 else
  some (.inr (.inl ())))
def zk5 (a0:List Save) (a1:Int):Option Int :=
 (zc0 (zaq1 a0 a1) 0).bind (fun|.inl z=>zaY5 z|.inr z=>some z)
@[reducible,instance] def zdB4 a0 a1:=mkJ (zk5 a0 a1) 0 (@zaY5.eq_1) fun (j1:Unit)=>⟨[],[],0⟩
@[reducible,instance] def zdB5 (a0:List Save) (a1:Int) {T:Type} (x:T):=mkL x (@zaq1.eq_1 a0 a1) fun (g1:Int)=>⟨[(0,la a0),(1,.int .i64 a1),(5,.int .i64 g1)],[],0⟩
instance zbU6 (a0:List Save) (a1:Int):OkP (zk5 a0 a1) 194 [la a0,.int .i64 a1] (fun r=>.int .i64 r):=ok1 (zk5.eq_1 a0 a1) Tryz.f194 []
attribute [local irreducible] zk5
def zaG1 (j1:Unit):Option Bool :=
 some true
def zS5 (a90:(Expr→Expr→Option Bool)) (a0 a1:Expr) (g1:Int):Option (Int⊕(Unit⊕Bool)) :=
 (if (decide (g1 < (a0.kids.length:Int)))=true then
  gd (0≤g1∧g1 < (a0.kids.length:Int)) <|
  gd (0≤g1∧g1 < (a1.kids.length:Int)) <|
  (a90 (a0.kids.getD g1.toNat Expr.zero) (a1.kids.getD g1.toNat Expr.zero)).bind fun v1 =>
  (if (!v1)=true then
   some (.inr (.inr false))
  else
   some (.inl (i64.wrap (g1+1))))
 else
  some (.inr (.inl ())))
def zC5 (a90:(Expr→Expr→Option Bool)) (a0 a1:Expr):Option Bool :=
 (if (((!decide (a0.k=a1.k))||(!decide (a0.atom=a1.atom)))||(!decide ((a0.kids.length:Int)=(a1.kids.length:Int))))=true then
  some false
 else
  (zc0 (zS5 a90 a0 a1) 0).bind (fun|.inl z=>zaG1 z|.inr z=>some z))
def zQ9:Nat→(Expr→Expr→Option Bool)
 | 0=>fun _ _=>none
 | n+1=>zC5 (zQ9 n)
def zg4 (a0 a1:Expr):Option Bool:=zQ9 (_root_.SizeOf.sizeOf a0+1) a0 a1
@[reducible,instance] def zdB6 (a90:(Expr→Expr→Option Bool)) (a0 a1:Expr):=mkJ (zC5 a90 a0 a1) 0 (@zaG1.eq_1) fun (j1:Unit)=>⟨[],[],0⟩
@[reducible,instance] def zdB7 (a90:(Expr→Expr→Option Bool)) (a0 a1:Expr) {T:Type} (x:T):=mkL x (@zS5.eq_1 a90 a0 a1) fun (g1:Int)=>⟨[(2,.ptr 0 0 0),(3,.ptr 1 0 0),(5,.int .i64 g1)],[(0,bx a0),(1,bx a1)],2⟩
abbrev zal6 (g:(Expr→Expr→Option Bool)):Prop:=∀ (a0:Expr) (a1:Expr),OkP (g a0 a1) 104 [.agg (Expr.enc a0),.agg (Expr.enc a1)] (fun r=>.bool r)
theorem zbm8 (a90:(Expr→Expr→Option Bool)) (hrc:zal6 a90):zal6 (zC5 a90):=fun a0 a1=>ok1 (zC5.eq_1 a90 a0 a1) Tryz.f104 []
theorem zbm9:∀ n,zal6 (zQ9 n):=zaP4 (fun _ _=>⟨fun _ h=>nomatch h⟩) fun n=>zbm8 _
instance zcF3:zal6 zg4:=fun a0 a1=>zbm9 _ a0 a1
attribute [local irreducible] zg4
def zk6 (a0:Queue):Option Queue :=
 gd (a0.holds.length≤4294967296) <|
 gd (a0.converts.length≤4294967296) <|
 gd (a0.waits.length≤4294967296) <|
 some a0
instance zdf6 (a0:Queue):OkP (zk6 a0) 277 [ga a0] (fun r=>ga r):=ok1 (zk6.eq_1 a0) Tryz.f277 [(3,1),(8,1),(13,1)]
attribute [local irreducible] zk6
def zf3 (a0:List Queue) (a1:Int) (a2:Queue):Option (List Queue) :=
 gd (a0.length≤4294967296) <|
 gd (0≤a1∧a1 < ((a0.length:Nat):Int)) <|
 some (a0.set a1.toNat a2)
instance zbw1 (a0:List Queue) (a1:Int) (a2:Queue):OkP (zf3 a0 a1 a2) 269 [la a0,.int .i64 a1,ga a2] (fun r=>la r):=ok1 (zf3.eq_1 a0 a1 a2) Tryz.f269 [(8,1)]
attribute [local irreducible] zf3
def zd2 (a0:Int) (a1:work):Option (Int×(List Queue)×(List Proce)×(List Event)) :=
 gd (0≤a0∧a0 < ((a1.c.procs.length:Nat):Int)) <|
 gd (0≤a0∧a0 < ((a1.c.procs.length:Nat):Int)) <|
 gd (0≤a0∧a0 < ((a1.c.procs.length:Nat):Int)) <|
 some (a1.c.now,a1.c.queues,((a1.c.procs.set a0.toNat ({ (a1.c.procs.getD a0.toNat Proce.zero) with waiting:=false })).set a0.toNat ({ ((a1.c.procs.set a0.toNat ({ (a1.c.procs.getD a0.toNat Proce.zero) with waiting:=false })).getD a0.toNat Proce.zero) with request:={ Request.zero with  } })).set a0.toNat ({ (((a1.c.procs.set a0.toNat ({ (a1.c.procs.getD a0.toNat Proce.zero) with waiting:=false })).set a0.toNat ({ ((a1.c.procs.set a0.toNat ({ (a1.c.procs.getD a0.toNat Proce.zero) with waiting:=false })).getD a0.toNat Proce.zero) with request:={ Request.zero with  } })).getD a0.toNat Proce.zero) with since:=0 }),a1.ev)
instance zci7 (a0:Int) (a1:work):OkM (zd2 a0 a1) 248 [.ptr 0 0 0,.int .i64 a0] [(0,⟨false,4,work.enc work.zero,[[.int .i64 a1.c.now,la a1.c.queues,.own 1 0 a1.c.procs.length,.own 2 0 a1.ev.length]]⟩),(1,sx a1.c.procs),(2,sx a1.ev)] 3 (fun r=>.tup []) (fun r=>[(0,⟨false,4,work.enc work.zero,[[.int .i64 r.1,la r.2.1,.own 1 0 r.2.2.1.length,.own 2 0 r.2.2.2.length]]⟩),(1,sx r.2.2.1),(2,sx r.2.2.2)]) 3:=okm (zd2.eq_1 a0 a1) (fun r=>[]) Tryz.f248 []
attribute [local irreducible] zd2
def zaC6 (j1:Unit):Option Bool :=
 some true
def zaC7 (a0 a1:List Wait) (g1:Int):Option (Int⊕(Unit⊕Bool)) :=
 (if (decide (g1 < (a0.length:Int)))=true then
  gd (0≤g1∧g1 < (a0.length:Int)) <|
  gd (0≤g1∧g1 < (a1.length:Int)) <|
  (if (!decide (a0.getD g1.toNat Wait.zero=a1.getD g1.toNat Wait.zero))=true then
   some (.inr (.inr false))
  else
   some (.inl (i64.wrap (g1+1))))
 else
  some (.inr (.inl ())))
def zd8 (a0 a1:List Wait):Option Bool :=
 (if (!decide ((a0.length:Int)=(a1.length:Int)))=true then
  some false
 else
  (zc0 (zaC7 a0 a1) 0).bind (fun|.inl z=>zaC6 z|.inr z=>some z))
@[reducible,instance] def zdB8 a0 a1:=mkJ (zd8 a0 a1) 0 (@zaC6.eq_1) fun (j1:Unit)=>⟨[],[],0⟩
@[reducible,instance] def zdB9 (a0 a1:List Wait) {T:Type} (x:T):=mkL x (@zaC7.eq_1 a0 a1) fun (g1:Int)=>⟨[(0,la a0),(1,la a1),(5,.int .i64 g1)],[],0⟩
instance zcw9 (a0 a1:List Wait):OkP (zd8 a0 a1) 98 [la a0,la a1] (fun r=>.bool r):=ok1 (zd8.eq_1 a0 a1) Tryz.f98 []
attribute [local irreducible] zd8
def zar0 (j1:(List Proc)):Option (List Proc) :=
 some j1
def zU9 (a0:List Hold) (g1:Int×(List Proc)):Option ((Int×(List Proc))⊕(List Proc)) :=
 (if (decide (g1.1 < (a0.length:Int)))=true then
  gd (0≤g1.1∧g1.1 < (a0.length:Int)) <|
  gd (g1.2.length+1≤4294967296) <|
  some (.inl ((i64.wrap (g1.1+1)),(g1.2++[(a0.getD g1.1.toNat Hold.zero).proc])))
 else
  some (.inr g1.2))
def zh9 (a0:List Hold):Option (List Proc) :=
 (zc0 (zU9 a0) (0,[])).bind (fun z=>zar0 z)
@[reducible,instance] def zdC0 a0:=mkJ (zh9 a0) 0 (@zar0.eq_1) fun (j1:(List Proc))=>⟨[(3,.own 0 0 j1.length)],[(0,sx j1)],1⟩
@[reducible,instance] def zdC1 (a0:List Hold) {T:Type} (x:T):=mkL x (@zU9.eq_1 a0) fun (g1:Int×(List Proc))=>⟨[(3,.own 0 0 g1.2.length),(6,la a0),(7,.int .i64 (a0.length:Int)),(8,.int .i64 g1.1)],[(0,sx g1.2)],1⟩
attribute [local irreducible] zh9
end
end Ab
end Go.Proofs.YtcggeefhhegeoaaGreatDoor
