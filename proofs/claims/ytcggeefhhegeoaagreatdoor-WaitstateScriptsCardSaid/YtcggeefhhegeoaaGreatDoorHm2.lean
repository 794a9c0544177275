import Derived.Test.YtcggeefhhegeoaaGreatDoorAuto
namespace Go.Proofs.YtcggeefhhegeoaaGreatDoor
namespace Ab
open IntKind (i64 u64 u8)
set_option linter.unusedSimpArgs false
set_option linter.unusedVariables false
set_option linter.defProp false
set_option maxRecDepth 100000
set_option maxHeartbeats 1000000
noncomputable section
def zav0 (j1:Int×Int):Option (Int×Int) :=
 some ((i64.wrap (j1.1+1)),j1.2)
def zI9 (a90:(Expr→Int→Int→Option (Int×Int))) (a0:Expr) (a1:Int) (g1:Int×Int×Int):Option ((Int×Int×Int)⊕((Int×Int)⊕(Int×Int))) :=
 (if (decide (g1.2.1 < (a0.kids.length:Int)))=true then
  gd (0≤g1.2.1∧g1.2.1 < (a0.kids.length:Int)) <|
  (a90 (a0.kids.getD g1.2.1.toNat Expr.zero) (i64.wrap (a1+1)) g1.2.2).bind fun v1 =>
  (if (decide (v1.1=0))=true then
   some (.inr (.inr (0,v1.2)))
  else
   some (.inl ((if g1.1 < v1.1 then v1.1 else g1.1),i64.wrap (g1.2.1+1),v1.2)))
 else
  some (.inr (.inl (g1.1,g1.2.2))))
def zF2 (a90:(Expr→Int→Int→Option (Int×Int))) (a0:Expr) (a1 a2:Int):Option (Int×Int) :=
 (if (decide (4 < a1)||decide (24 < i64.wrap (a2+1)))=true then
  some (0,i64.wrap (a2+1))
 else
  (zc0 (zI9 a90 a0 a1) (0,0,i64.wrap (a2+1))).bind (fun|.inl z=>zav0 z|.inr z=>some z))
def zx0:Nat→(Expr→Int→Int→Option (Int×Int))
 | 0=>fun _ _ _=>none
 | n+1=>zF2 (zx0 n)
def zd6 (a0:Expr) (a1 a2:Int):Option (Int×Int):=zx0 (_root_.SizeOf.sizeOf a0+1) a0 a1 a2
@[reducible,instance] def zeb6 (a90:(Expr→Int→Int→Option (Int×Int))) (a0:Expr) (a1 a2:Int):=mkJ (zF2 a90 a0 a1 a2) 0 (@zav0.eq_1) fun (j1:Int×Int)=>⟨[(7,.int .i64 j1.1)],[(0,⟨false,1,[A.int .i64 0],[[A.int .i64 j1.2]]⟩)],1⟩
@[reducible,instance] def zeb7 (a90:(Expr→Int→Int→Option (Int×Int))) (a0:Expr) (a1:Int) {T:Type} (x:T):=mkL x (@zI9.eq_1 a90 a0 a1) fun (g1:Int×Int×Int)=>⟨[(1,.int .i64 a1),(2,.ptr 0 0 0),(7,.int .i64 g1.1),(25,la a0.kids),(26,.int .i64 (a0.kids.length:Int)),(27,.int .i64 g1.2.1)],[(0,⟨false,1,[A.int .i64 0],[[A.int .i64 g1.2.2]]⟩)],1⟩
abbrev zab2 (g:(Expr→Int→Int→Option (Int×Int))):Prop:=∀ (a0:Expr) (a1:Int) (a2:Int),OkM (g a0 a1 a2) 142 [.agg (Expr.enc a0),.int .i64 a1,.ptr 0 0 0] [(0,⟨false,1,[A.int .i64 0],[[A.int .i64 a2]]⟩)] 1 (fun r=>.int .i64 r.1) (fun r=>[(0,⟨false,1,[A.int .i64 0],[[A.int .i64 r.2]]⟩)]) 1
theorem zba5 (a90:(Expr→Int→Int→Option (Int×Int))) (hrc:zab2 a90):zab2 (zF2 a90):=fun a0 a1 a2=>okm (zF2.eq_1 a90 a0 a1 a2) (fun r=>[.int .i64 r.1]) Tryz.f142 []
theorem zba6:∀ n,zab2 (zx0 n):=zaP4 (fun _ _ _=>⟨fun _ h=>nomatch h⟩) fun n=>zba5 _
instance zci8:zab2 zd6:=fun a0 a1 a2=>zba6 _ a0 a1 a2
attribute [local irreducible] zd6
def zaY6 (j1:Unit):Option (Int×Int×Int) :=
 some (0,0,6)
def zX4 (a0:List Int) (g1:Int×Int):Option ((Int×Int)⊕(Unit⊕(Int×Int×Int))) :=
 (if (decide (g1.2 < 10))=true then
  (if (decide ((a0.length:Int)≤g1.2))=true then
   some (.inr (.inr (0,0,5)))
  else
   gd (0≤g1.2∧g1.2 < (a0.length:Int)) <|
   (if (decide (g1.2=9)&&decide (1 < a0.getD g1.2.toNat 0))=true then
    some (.inr (.inr (0,0,6)))
   else
    gd (0≤i64.wrap (7 * g1.2)) <|
    (if (!decide (zO0 .and .u8 (a0.getD g1.2.toNat 0) 128=0))=true then
     some (.inl ((zO0 .or .u64 g1.1 (u64.wrap (u64.wrap (zO0 .and .u8 (a0.getD g1.2.toNat 0) 127) * 2 ^ (Nat.min (i64.wrap (7 * g1.2)).toNat u64.bits)))),i64.wrap (g1.2+1)))
    else
     (if (decide (a0.getD g1.2.toNat 0=0)&&decide (0 < g1.2))=true then
      some (.inr (.inr (0,0,6)))
     else
      some (.inr (.inr ((zO0 .or .u64 g1.1 (u64.wrap (u64.wrap (zO0 .and .u8 (a0.getD g1.2.toNat 0) 127) * 2 ^ (Nat.min (i64.wrap (7 * g1.2)).toNat u64.bits)))),i64.wrap (g1.2+1),0)))))))
 else
  some (.inr (.inl ())))
def zk1 (a0:List Int):Option (Int×Int×Int) :=
 (zc0 (zX4 a0) (0,0)).bind (fun|.inl z=>zaY6 z|.inr z=>some z)
@[reducible,instance] def zdC2 a0:=mkJ (zk1 a0) 0 (@zaY6.eq_1) fun (j1:Unit)=>⟨[],[],0⟩
@[reducible,instance] def zdC3 (a0:List Int) {T:Type} (x:T):=mkL x (@zX4.eq_1 a0) fun (g1:Int×Int)=>⟨[(0,.sl (a0.map (eI .u8))),(5,.int .u64 g1.1),(8,.int .i64 g1.2)],[],0⟩
instance zdf7 (a0:List Int):OkP (zk1 a0) 122 [.sl (a0.map (eI .u8))] (fun r=>.tup [.int .u64 r.1,.int .i64 r.2.1,.int .i64 r.2.2]):=ok1 (zk1.eq_1 a0) Tryz.f122 []
attribute [local irreducible] zk1
def zT2 (j1:Unit):Option Bool :=
 some true
def zz6 (a0 a1:List Wait) (g1:Int):Option (Int⊕(Unit⊕Bool)) :=
 (if (decide (g1 < (a0.length:Int)))=true then
  gd (0≤g1∧g1 < (a0.length:Int)) <|
  gd (0≤g1∧g1 < (a1.length:Int)) <|
  (if (!decide (a0.getD g1.toNat Wait.zero=a1.getD g1.toNat Wait.zero))=true then
   some (.inr (.inr false))
  else
   some (.inl (i64.wrap (g1+1))))
 else
  some (.inr (.inl ())))
def za6 (a0 a1:List Wait):Option Bool :=
 (if (!decide ((a0.length:Int)=(a1.length:Int)))=true then
  some false
 else
  (zc0 (zz6 a0 a1) 0).bind (fun|.inl z=>zT2 z|.inr z=>some z))
@[reducible,instance] def zdC4 a0 a1:=mkJ (za6 a0 a1) 0 (@zT2.eq_1) fun (j1:Unit)=>⟨[],[],0⟩
@[reducible,instance] def zdC5 (a0 a1:List Wait) {T:Type} (x:T):=mkL x (@zz6.eq_1 a0 a1) fun (g1:Int)=>⟨[(0,la a0),(1,la a1),(12,.int .i64 (a0.length:Int)),(13,.int .i64 g1)],[],0⟩
instance zau0 (a0 a1:List Wait):OkP (za6 a0 a1) 82 [la a0,la a1] (fun r=>.bool r):=ok1 (za6.eq_1 a0 a1) Tryz.f82 []
attribute [local irreducible] za6
def zO3 (a0 a1:Wait):Bool :=
 (decide ({ a0 with passed:=0 }={ a1 with passed:=0 }))
instance zbU2 (a0 a1:Wait):OkT 126 [.agg (Wait.enc a0),.agg (Wait.enc a1)] (.bool (zO3 a0 a1)):=ok2 (fun r=>.bool r) (zO3.eq_1 a0 a1) Tryz.f126 []
def zx9 (j1:Unit):Option Bool :=
 some true
def zp7 (a90:(Expr→Expr→Option Bool)) (a0 a1:List Expr) (g1:Int):Option (Int⊕(Unit⊕Bool)) :=
 (if (decide (g1 < (a0.length:Int)))=true then
  gd (0≤g1∧g1 < (a0.length:Int)) <|
  gd (0≤g1∧g1 < (a1.length:Int)) <|
  (a90 (a0.getD g1.toNat Expr.zero) (a1.getD g1.toNat Expr.zero)).bind fun v1 =>
  (if (!v1)=true then
   some (.inr (.inr false))
  else
   some (.inl (i64.wrap (g1+1))))
 else
  some (.inr (.inl ())))
def za0 (a90:(Expr→Expr→Option Bool)) (a0 a1:List Expr):Option Bool :=
 (if (!decide ((a0.length:Int)=(a1.length:Int)))=true then
  some false
 else
  (zc0 (zp7 a90 a0 a1) 0).bind (fun|.inl z=>zx9 z|.inr z=>some z))
@[reducible,instance] def zdC6 (a90:(Expr→Expr→Option Bool)) (a0 a1:List Expr):=mkJ (za0 a90 a0 a1) 0 (@zx9.eq_1) fun (j1:Unit)=>⟨[],[],0⟩
@[reducible,instance] def zdC7 (a90:(Expr→Expr→Option Bool)) (a0 a1:List Expr) {T:Type} (x:T):=mkL x (@zp7.eq_1 a90 a0 a1) fun (g1:Int)=>⟨[(1,la a1),(2,.clo 83 []),(15,la a0),(16,.int .i64 (a0.length:Int)),(17,.int .i64 g1)],[],0⟩
theorem zN0 (a90:(Expr→Expr→Option Bool)) (hrc:∀ (a0:Expr) (a1:Expr) (r:Bool),a90 a0 a1=some r→PFn C 83 [ga a0,ga a1] (.bool r)) (a0 a1:List Expr) (r:Bool) (h:za0 a90 a0 a1=some r):MFn C 127 [la a0,la a1,.clo 83 []] [] 0 (.bool r) [] 0:=by
 refine zaC5 Tryz.f127 [] [.bool r] fun E hG hN hK=>?_
 have hm:Mk (za0 a90 a0 a1):=trivial
 unfold za0 at h
 exact gogo
attribute [local irreducible] za0
def ze0 (a0:Tape):Option (Bool×Tape) :=
 some ((decide (a0.at_ < (a0.l.length:Int))),a0)
instance zcn4 (a0:Tape):OkM (ze0 a0) 118 [.ptr 0 0 0] [(0,bx a0)] 1 (fun r=>.bool r.1) (fun r=>[(0,bx r.2)]) 1:=okm (ze0.eq_1 a0) (fun r=>[.bool r.1]) Tryz.f118 []
attribute [local irreducible] ze0
def zP6 (a0:Int):Bool :=
 (decide (97≤a0)&&decide (a0≤122))
instance zcQ6 (a0:Int):OkT 220 [.int .u8 a0] (.bool (zP6 a0)):=ok2 (fun r=>.bool r) (zP6.eq_1 a0) Tryz.f220 []
def zaY7 (j1:Unit):Option Int :=
 some (-1)
def zaY8 (a0:List Wait) (a1:Proc) (g1:Int):Option (Int⊕(Unit⊕Int)) :=
 (if (decide (g1 < (a0.length:Int)))=true then
  gd (0≤g1∧g1 < (a0.length:Int)) <|
  (if (decide ((a0.getD g1.toNat Wait.zero).proc=a1))=true then
   some (.inr (.inr g1))
  else
   some (.inl (i64.wrap (g1+1))))
 else
  some (.inr (.inl ())))
def zj7 (a0:List Wait) (a1:Proc):Option Int :=
 (zc0 (zaY8 a0 a1) 0).bind (fun|.inl z=>zaY7 z|.inr z=>some z)
@[reducible,instance] def zdC8 a0 a1:=mkJ (zj7 a0 a1) 0 (@zaY7.eq_1) fun (j1:Unit)=>⟨[],[],0⟩
@[reducible,instance] def zdC9 (a0:List Wait) (a1:Proc) {T:Type} (x:T):=mkL x (@zaY8.eq_1 a0 a1) fun (g1:Int)=>⟨[(0,la a0),(3,.ptr 0 0 0),(5,.int .i64 g1)],[(0,bx a1)],1⟩
instance zdf8 (a0:List Wait) (a1:Proc):OkP (zj7 a0 a1) 136 [la a0,ga a1] (fun r=>.int .i64 r):=ok1 (zj7.eq_1 a0 a1) Tryz.f136 []
attribute [local irreducible] zj7
def zl9 (a0:Queue):Option (Wait×Bool) :=
 (if (decide (0 < (a0.converts.length:Int)))=true then
  gd (0≤0∧0 < (a0.converts.length:Int)) <|
  some ((a0.converts.getD 0 Wait.zero),true)
 else
  (if (decide (0 < (a0.waits.length:Int)))=true then
   gd (0≤0∧0 < (a0.waits.length:Int)) <|
   some ((a0.waits.getD 0 Wait.zero),true)
  else
   some ({ Wait.zero with  },false)))
instance zdf9 (a0:Queue):OkP (zl9 a0) 218 [ga a0] (fun r=>.tup [ga r.1,.bool r.2]):=ok1 (zl9.eq_1 a0) Tryz.f218 []
attribute [local irreducible] zl9
def zaR2 (j1:(List ByteArray)):Option (List ByteArray) :=
 some j1
def zay3 (g1:Int×(List ByteArray)) (j3:(List ByteArray)):Option ((Int×(List ByteArray))⊕(List ByteArray)) :=
 some (.inl ((i64.wrap (g1.1+1)),j3))
def zab9 (g2:Int×(List ByteArray)):Option ((Int×(List ByteArray))⊕(List ByteArray)) :=
 gd (decide (0 < g2.1)=true→0≤g2.1∧g2.1 < ((g2.2.length:Nat):Int)) <|
 gd (decide (0 < g2.1)=true→0≤i64.wrap (g2.1 - 1)∧i64.wrap (g2.1 - 1) < ((g2.2.length:Nat):Int)) <|
 (if (decide (0 < g2.1)&&Op.bytesLess (g2.2.getD g2.1.toNat ⟨#[]⟩).toList (g2.2.getD ((i64.wrap (g2.1 - 1)).toNat) ⟨#[]⟩).toList)=true then
  gd (0≤g2.1∧g2.1 < ((g2.2.length:Nat):Int)) <|
  gd (0≤i64.wrap (g2.1 - 1)∧i64.wrap (g2.1 - 1) < ((g2.2.length:Nat):Int)) <|
  gd (0≤g2.1∧g2.1 < ((g2.2.length:Nat):Int)) <|
  gd (0≤i64.wrap (g2.1 - 1)∧i64.wrap (g2.1 - 1) < ((g2.2.length:Nat):Int)) <|
  some (.inl ((i64.wrap (g2.1 - 1)),(g2.2.set g2.1.toNat (g2.2.getD ((i64.wrap (g2.1 - 1)).toNat) ⟨#[]⟩)).set ((i64.wrap (g2.1 - 1)).toNat) (g2.2.getD g2.1.toNat ⟨#[]⟩)))
 else
  some (.inr g2.2))
def zac0 (a0:List Entry) (g1:Int×(List ByteArray)) (j2:Bool):Option ((Int×(List ByteArray))⊕(List ByteArray)) :=
 (if j2=true then
  some (.inl ((i64.wrap (g1.1+1)),g1.2))
 else
  gd (0≤g1.1∧g1.1 < (a0.length:Int)) <|
  gd (g1.2.length+1≤4294967296) <|
  (zc0 zab9 ((i64.wrap (((g1.2.length+1:Nat):Int) - 1)),(g1.2++[(a0.getD g1.1.toNat Entry.zero).name]))).bind (fun z=>zay3 g1 z))
def zac1 (a0:List Entry) (g1:Int×(List ByteArray)) (g3:Bool×Int):Option ((Bool×Int)⊕Bool) :=
 (if (decide (g3.2 < ((g1.2.length:Nat):Int)))=true then
  gd ((!g3.1)=true→0≤g3.2∧g3.2 < ((g1.2.length:Nat):Int)) <|
  gd ((!g3.1)=true→0≤g1.1∧g1.1 < (a0.length:Int)) <|
  some (.inl ((g3.1||((g1.2.getD g3.2.toNat ⟨#[]⟩).toList == ((a0.getD g1.1.toNat Entry.zero).name).toList)),i64.wrap (g3.2+1)))
 else
  some (.inr g3.1))
def zac2 (a0:List Entry) (g1:Int×(List ByteArray)):Option ((Int×(List ByteArray))⊕(List ByteArray)) :=
 (if (decide (g1.1 < (a0.length:Int)))=true then
  (zc0 (zac1 a0 g1) (false,0)).bind (fun z=>zac0 a0 g1 z)
 else
  some (.inr g1.2))
def zi3 (a0:List Entry):Option (List ByteArray) :=
 (zc0 (zac2 a0) (0,[])).bind (fun z=>zaR2 z)
@[reducible,instance] def zdD0 a0:=mkJ (zi3 a0) 0 (@zaR2.eq_1) fun (j1:(List ByteArray))=>⟨[(3,.own 0 0 j1.length)],[(0,⟨false,1,[A.str ⟨#[]⟩],j1.map eS⟩)],1⟩
@[reducible,instance] def zdD1 (a0:List Entry) (g1:Int×(List ByteArray)) j2:=mkJ (zac0 a0 g1 j2) 4 (@zay3.eq_1 g1) fun (j3:(List ByteArray))=>⟨[(0,la a0),(3,.own 0 0 j3.length),(4,.int .i64 g1.1)],[(0,⟨false,1,[A.str ⟨#[]⟩],j3.map eS⟩)],1⟩
@[reducible,instance] def zdD2 (a0:List Entry) (g1:Int×(List ByteArray)) j2:=mkL (zac0 a0 g1 j2) (@zab9.eq_1) fun (g2:Int×(List ByteArray))=>⟨[(0,la a0),(3,.own 0 0 g2.2.length),(4,.int .i64 g1.1),(7,.int .i64 g2.1)],[(0,⟨false,1,[A.str ⟨#[]⟩],g2.2.map eS⟩)],1⟩
@[reducible,instance] def zdD3 (a0:List Entry) (g1:Int×(List ByteArray)):=mkJ (zac2 a0 g1) 2 (@zac0.eq_1 a0 g1) fun (j2:Bool)=>⟨[(0,la a0),(3,.own 0 0 g1.2.length),(4,.int .i64 g1.1),(5,.bool j2)],[(0,⟨false,1,[A.str ⟨#[]⟩],g1.2.map eS⟩)],1⟩
@[reducible,instance] def zdD4 (a0:List Entry) (g1:Int×(List ByteArray)) {T:Type} (x:T):=mkL x (@zac1.eq_1 a0 g1) fun (g3:Bool×Int)=>⟨[(0,la a0),(3,.own 0 0 g1.2.length),(4,.int .i64 g1.1),(5,.bool g3.1),(6,.int .i64 g3.2)],[(0,⟨false,1,[A.str ⟨#[]⟩],g1.2.map eS⟩)],1⟩
@[reducible,instance] def zdD5 (a0:List Entry) {T:Type} (x:T):=mkL x (@zac2.eq_1 a0) fun (g1:Int×(List ByteArray))=>⟨[(0,la a0),(3,.own 0 0 g1.2.length),(4,.int .i64 g1.1)],[(0,⟨false,1,[A.str ⟨#[]⟩],g1.2.map eS⟩)],1⟩
instance zbL9 (a0:List Entry):OkP (zi3 a0) 193 [la a0] (fun r=>.sl (r.map eS)):=ok1 (zi3.eq_1 a0) Tryz.f193 [(3,1)]
attribute [local irreducible] zi3
def zaY9 (j1:Unit):Option Int :=
 some (-1)
def zaq2 (a0:List Queue) (a1:ByteArray) (g1:Int):Option (Int⊕(Unit⊕Int)) :=
 (if (decide (g1 < (a0.length:Int)))=true then
  gd (0≤g1∧g1 < (a0.length:Int)) <|
  (if ((((a0.getD g1.toNat Queue.zero).resource).name).toList == a1.toList)=true then
   some (.inr (.inr g1))
  else
   some (.inl (i64.wrap (g1+1))))
 else
  some (.inr (.inl ())))
def zh5 (a0:List Queue) (a1:ByteArray):Option Int :=
 (zc0 (zaq2 a0 a1) 0).bind (fun|.inl z=>zaY9 z|.inr z=>some z)
@[reducible,instance] def zdD6 a0 a1:=mkJ (zh5 a0 a1) 0 (@zaY9.eq_1) fun (j1:Unit)=>⟨[],[],0⟩
@[reducible,instance] def zdD7 (a0:List Queue) (a1:ByteArray) {T:Type} (x:T):=mkL x (@zaq2.eq_1 a0 a1) fun (g1:Int)=>⟨[(0,la a0),(1,.str a1),(5,.int .i64 g1)],[],0⟩
instance zbk6 (a0:List Queue) (a1:ByteArray):OkP (zh5 a0 a1) 95 [la a0,.str a1] (fun r=>.int .i64 r):=ok1 (zh5.eq_1 a0 a1) Tryz.f95 []
attribute [local irreducible] zh5
def zaI7 (j1:(List Resource)):Option (List Resource) :=
 some j1
def zaf3 (a0:List Queue) (g1:Int×(List Resource)):Option ((Int×(List Resource))⊕(List Resource)) :=
 (if (decide (g1.1 < (a0.length:Int)))=true then
  gd (0≤g1.1∧g1.1 < (a0.length:Int)) <|
  gd (g1.2.length+1≤4294967296) <|
  some (.inl ((i64.wrap (g1.1+1)),(g1.2++[(a0.getD g1.1.toNat Queue.zero).resource])))
 else
  some (.inr g1.2))
def zg2 (a0:List Queue):Option (List Resource) :=
 (zc0 (zaf3 a0) (0,[])).bind (fun z=>zaI7 z)
@[reducible,instance] def zdD8 a0:=mkJ (zg2 a0) 0 (@zaI7.eq_1) fun (j1:(List Resource))=>⟨[(3,.own 0 0 j1.length)],[(0,sx j1)],1⟩
@[reducible,instance] def zdD9 (a0:List Queue) {T:Type} (x:T):=mkL x (@zaf3.eq_1 a0) fun (g1:Int×(List Resource))=>⟨[(0,la a0),(3,.own 0 0 g1.2.length),(4,.int .i64 g1.1)],[(0,sx g1.2)],1⟩
instance zcK6 (a0:List Queue):OkP (zg2 a0) 158 [la a0] (fun r=>la r):=ok1 (zg2.eq_1 a0) Tryz.f158 [(3,1)]
attribute [local irreducible] zg2
def zav1 (a0:List Wait) (j1:(List Wait)):Option ((List Wait)×Bool) :=
 some (j1,decide (((j1.length:Nat):Int) < (a0.length:Int)))
def zY7 (a0:List Wait) (a1:Proc) (g1:Int×(List Wait)):Option ((Int×(List Wait))⊕(List Wait)) :=
 (if (decide (g1.1 < (a0.length:Int)))=true then
  gd (0≤g1.1∧g1.1 < (a0.length:Int)) <|
  (if (!decide ((a0.getD g1.1.toNat Wait.zero).proc=a1))=true then
   gd (0≤g1.1∧g1.1 < (a0.length:Int)) <|
   gd (g1.2.length+1≤4294967296) <|
   some (.inl ((i64.wrap (g1.1+1)),(g1.2++[(a0.getD g1.1.toNat Wait.zero)])))
  else
   some (.inl ((i64.wrap (g1.1+1)),g1.2)))
 else
  some (.inr g1.2))
def zg8 (a0:List Wait) (a1:Proc):Option ((List Wait)×Bool) :=
 (zc0 (zY7 a0 a1) (0,[])).bind (fun z=>zav1 a0 z)
@[reducible,instance] def zdE0 (a0:List Wait) a1:=mkJ (zg8 a0 a1) 0 (@zav1.eq_1 a0) fun (j1:(List Wait))=>⟨[(0,la a0),(6,.own 0 0 j1.length)],[(0,sx j1)],1⟩
@[reducible,instance] def zdE1 (a0:List Wait) (a1:Proc) {T:Type} (x:T):=mkL x (@zY7.eq_1 a0 a1) fun (g1:Int×(List Wait))=>⟨[(0,la a0),(3,.ptr 0 0 0),(6,.own 1 0 g1.2.length),(7,.int .i64 g1.1)],[(0,bx a1),(1,sx g1.2)],2⟩
instance zcQ7 (a0:List Wait) (a1:Proc):OkP (zg8 a0 a1) 281 [la a0,ga a1] (fun r=>.tup [la r.1,.bool r.2]):=ok1 (zg8.eq_1 a0 a1) Tryz.f281 [(6,1)]
attribute [local irreducible] zg8
def zaN3 (j1:(List Event)):Option (List Event) :=
 some j1
def zai1 (a0:ByteArray) (a1:List Hold) (g1:Int×(List Event)):Option ((Int×(List Event))⊕(List Event)) :=
 (if (decide (g1.1 < (a1.length:Int)))=true then
  gd (0≤g1.1∧g1.1 < (a1.length:Int)) <|
  gd (0≤g1.1∧g1.1 < (a1.length:Int)) <|
  gd (g1.2.length+1≤4294967296) <|
  some (.inl ((i64.wrap (g1.1+1)),(g1.2++[(⟨1,(a1.getD g1.1.toNat Hold.zero).proc,a0,(a1.getD g1.1.toNat Hold.zero).amount⟩:Event)])))
 else
  some (.inr g1.2))
def zf8 (a0:ByteArray) (a1:List Hold):Option (List Event) :=
 (zc0 (zai1 a0 a1) (0,[])).bind (fun z=>zaN3 z)
@[reducible,instance] def zdE2 a0 a1:=mkJ (zf8 a0 a1) 0 (@zaN3.eq_1) fun (j1:(List Event))=>⟨[(5,.own 0 0 j1.length)],[(0,sx j1)],1⟩
@[reducible,instance] def zdE3 (a0:ByteArray) (a1:List Hold) {T:Type} (x:T):=mkL x (@zai1.eq_1 a0 a1) fun (g1:Int×(List Event))=>⟨[(0,.str a0),(1,la a1),(5,.own 0 0 g1.2.length),(6,.int .i64 g1.1)],[(0,sx g1.2)],1⟩
instance zbE2 (a0:ByteArray) (a1:List Hold):OkP (zf8 a0 a1) 270 [.str a0,la a1] (fun r=>la r):=ok1 (zf8.eq_1 a0 a1) Tryz.f270 [(5,1)]
attribute [local irreducible] zf8
def zc5 (a0:List Queue) (a1:List Event) (a2:work):Option (Int×(List Queue)×(List Proce)×(List Event)) :=
 gd (a2.ev.length+a1.length≤4294967296) <|
 some (a2.c.now,a0,a2.c.procs,(a2.ev++a1))
instance zba7 (a0:List Queue) (a1:List Event) (a2:work):OkM (zc5 a0 a1 a2) 246 [.ptr 0 0 0,la a0,la a1] [(0,⟨false,4,work.enc work.zero,[[.int .i64 a2.c.now,la a2.c.queues,.own 1 0 a2.c.procs.length,.own 2 0 a2.ev.length]]⟩),(1,sx a2.c.procs),(2,sx a2.ev)] 3 (fun r=>.tup []) (fun r=>[(0,⟨false,4,work.enc work.zero,[[.int .i64 r.1,la r.2.1,.own 1 0 r.2.2.1.length,.own 3 0 r.2.2.2.length]]⟩),(1,sx r.2.2.1),(3,sx r.2.2.2)]) 4:=okm (zc5.eq_1 a0 a1 a2) (fun r=>[]) Tryz.f246 []
attribute [local irreducible] zc5
def zaC8 (j1:Unit):Option Bool :=
 some true
def zaC9 (a0 a1:List Hold) (g1:Int):Option (Int⊕(Unit⊕Bool)) :=
 (if (decide (g1 < (a0.length:Int)))=true then
  gd (0≤g1∧g1 < (a0.length:Int)) <|
  gd (0≤g1∧g1 < (a1.length:Int)) <|
  (if (!decide (a0.getD g1.toNat Hold.zero=a1.getD g1.toNat Hold.zero))=true then
   some (.inr (.inr false))
  else
   some (.inl (i64.wrap (g1+1))))
 else
  some (.inr (.inl ())))
def ze1 (a0 a1:List Hold):Option Bool :=
 (if (!decide ((a0.length:Int)=(a1.length:Int)))=true then
  some false
 else
  (zc0 (zaC9 a0 a1) 0).bind (fun|.inl z=>zaC8 z|.inr z=>some z))
@[reducible,instance] def zdE4 a0 a1:=mkJ (ze1 a0 a1) 0 (@zaC8.eq_1) fun (j1:Unit)=>⟨[],[],0⟩
@[reducible,instance] def zdE5 (a0 a1:List Hold) {T:Type} (x:T):=mkL x (@zaC9.eq_1 a0 a1) fun (g1:Int)=>⟨[(0,la a0),(1,la a1),(5,.int .i64 g1)],[],0⟩
instance zcx0 (a0 a1:List Hold):OkP (ze1 a0 a1) 97 [la a0,la a1] (fun r=>.bool r):=ok1 (ze1.eq_1 a0 a1) Tryz.f97 []
attribute [local irreducible] ze1
def zaD0 (j1:Unit):Option Bool :=
 some true
def zY8 (a0 a1:List Bool) (g1:Int):Option (Int⊕(Unit⊕Bool)) :=
 (if (decide (g1 < (a0.length:Int)))=true then
  gd (0≤g1∧g1 < (a0.length:Int)) <|
  gd (0≤g1∧g1 < (a1.length:Int)) <|
  (if (!decide (a0.getD g1.toNat false=a1.getD g1.toNat false))=true then
   some (.inr (.inr false))
  else
   some (.inl (i64.wrap (g1+1))))
 else
  some (.inr (.inl ())))
def ze2 (a0 a1:List Bool):Option Bool :=
 (if (!decide ((a0.length:Int)=(a1.length:Int)))=true then
  some false
 else
  (zc0 (zY8 a0 a1) 0).bind (fun|.inl z=>zaD0 z|.inr z=>some z))
@[reducible,instance] def zdE6 a0 a1:=mkJ (ze2 a0 a1) 0 (@zaD0.eq_1) fun (j1:Unit)=>⟨[],[],0⟩
@[reducible,instance] def zdE7 (a0 a1:List Bool) {T:Type} (x:T):=mkL x (@zY8.eq_1 a0 a1) fun (g1:Int)=>⟨[(0,.sl (a0.map eB)),(1,.sl (a1.map eB)),(5,.int .i64 g1)],[],0⟩
instance zcx1 (a0 a1:List Bool):OkP (ze2 a0 a1) 13 [.sl (a0.map eB),.sl (a1.map eB)] (fun r=>.bool r):=ok1 (ze2.eq_1 a0 a1) Tryz.f13 []
attribute [local irreducible] ze2
end
end Ab
end Go.Proofs.YtcggeefhhegeoaaGreatDoor
