import Derived.Test.YtogpinppgncpmaaGreatDoorHand
import Derived.Test.YtogpinppgncpmaaGreatDoorStr
namespace Go.Proofs.YtogpinppgncpmaaGreatDoor
namespace Ab
open IntKind (i64 u64 u8)
set_option linter.unusedSimpArgs false
set_option linter.defProp false
set_option linter.unusedVariables false
set_option maxRecDepth 100000
set_option maxHeartbeats 1000000
noncomputable section
def zn9 (a0 a1:Int):Option Int :=
 (if (decide (a1 < 1))=true then
  some 0
 else
  gd (a1≠0) <|
  (if (decide (a0.tmod a1 < 0))=true then
   some (i64.wrap (a0.tmod a1+a1))
  else
   some (a0.tmod a1)))
instance zds6 (a0 a1:Int):OkP (zn9 a0 a1) 20 [.int .i64 a0,.int .i64 a1] (fun r=>.int .i64 r):=ok1 (zn9.eq_1 a0 a1) Tryz.f20 []
attribute [local irreducible] zn9
def zag5 (j1:Unit):Option Int :=
 some 0
def zn6 (a0 a1:Arr Int 3) (g1:Int):Option (Int⊕(Unit⊕Int)) :=
 (if (decide (g1 < 3))=true then
  gd (0≤g1∧g1 < 3) <|
  gd (0≤g1∧g1 < 3) <|
  (if (decide (Arr.get a0 g1.toNat 0 < Arr.get a1 g1.toNat 0))=true then
   some (.inr (.inr (-1)))
  else
   gd (0≤g1∧g1 < 3) <|
   (if (decide (Arr.get a1 g1.toNat 0 < Arr.get a0 g1.toNat 0))=true then
    some (.inr (.inr 1))
   else
    some (.inl (i64.wrap (g1+1)))))
 else
  some (.inr (.inl ())))
def zh3 (a0 a1:Arr Int 3):Option Int :=
 (zc0 (zn6 a0 a1) 0).bind (fun|.inl z=>zag5 z|.inr z=>some z)
@[reducible,instance] def zee9 a0 a1:=mkJ (zh3 a0 a1) 0 (@zag5.eq_1) fun (j1:Unit)=>⟨[],[],0⟩
@[reducible,instance] def zef0 (a0 a1:Arr Int 3) {T:Type} (x:T):=mkL x (@zn6.eq_1 a0 a1) fun (g1:Int)=>⟨[(3,.ptr 0 0 0),(7,.agg (Arr.enc (eI .i64) a0)),(8,.int .i64 g1)],[(0,⟨false,3,Arr.enc (eI .i64) (Arr.rep 3 0),[Arr.enc (eI .i64) a1]⟩)],1⟩
instance zcO9 (a0 a1:Arr Int 3):OkP (zh3 a0 a1) 70 [.agg (Arr.enc (eI .i64) a0),.agg (Arr.enc (eI .i64) a1)] (fun r=>.int .i64 r):=ok1 (zh3.eq_1 a0 a1) Tryz.f70 []
attribute [local irreducible] zh3
def zaT2 (j1:Unit):Option aC :=
 some ({ aC.zero with  })
def zN1 (a0:List aU) (a1:aJ) (g1:Int):Option (Int⊕(Unit⊕aC)) :=
 (if (decide (g1 < (a0.length:Int)))=true then
  gd (0≤g1∧g1 < (a0.length:Int)) <|
  (if (decide ((a0.getD g1.toNat aU.zero).aN=a1))=true then
   some (.inr (.inr ((a0.getD g1.toNat aU.zero).aK)))
  else
   some (.inl (i64.wrap (g1+1))))
 else
  some (.inr (.inl ())))
def zj7 (a0:List aU) (a1:aJ):Option aC :=
 (zc0 (zN1 a0 a1) 0).bind (fun|.inl z=>zaT2 z|.inr z=>some z)
@[reducible,instance] def zef1 a0 a1:=mkJ (zj7 a0 a1) 0 (@zaT2.eq_1) fun (j1:Unit)=>⟨[(4,.ptr 0 0 0)],[(0,bx aC.zero)],1⟩
@[reducible,instance] def zef2 (a0:List aU) (a1:aJ) {T:Type} (x:T):=mkL x (@zN1.eq_1 a0 a1) fun (g1:Int)=>⟨[(3,.ptr 0 0 0),(4,.ptr 1 0 0),(7,la a0),(8,.int .i64 (a0.length:Int)),(9,.int .i64 g1)],[(0,bx a1),(1,bx aC.zero)],2⟩
instance zdb0 (a0:List aU) (a1:aJ):OkP (zj7 a0 a1) 264 [la a0,ga a1] (fun r=>ga r):=ok1 (zj7.eq_1 a0 a1) Tryz.f264 []
attribute [local irreducible] zj7
def zaK4 (a0:Int):(Arr Bool 6) :=
 (if (decide (a0=5))=true then
  (Arr.put (Arr.put (Arr.put (Arr.put (Arr.put (Arr.rep 6 false) 5 true) 4 true) 3 true) 2 true) 1 true)
 else
  (if (decide (a0=4))=true then
   (Arr.put (Arr.put (Arr.put (Arr.put (Arr.rep 6 false) 4 true) 3 true) 2 true) 1 true)
  else
   (if (decide (a0=2))=true then
    (Arr.put (Arr.put (Arr.rep 6 false) 2 true) 1 true)
   else
    (if (decide (a0=1))=true then
     (Arr.put (Arr.rep 6 false) 1 true)
    else
     (if (decide (a0=3))=true then
      (Arr.put (Arr.put (Arr.rep 6 false) 3 true) 1 true)
     else
      (Arr.rep 6 false))))))
instance zcU8 (a0:Int):OkT 281 [.int .i64 a0] (.agg (Arr.enc eB (zaK4 a0))):=ok2 (fun r=>.agg (Arr.enc eB r)) (zaK4.eq_1 a0) Tryz.f281 []
def zax2 (j1:Int×Int):Option (Int×Int) :=
 some ((i64.wrap (j1.1+1)),j1.2)
def zJ2 (a90:(aO→Int→Int→Option (Int×Int))) (a0:aO) (a1:Int) (g1:Int×Int×Int):Option ((Int×Int×Int)⊕((Int×Int)⊕(Int×Int))) :=
 (if (decide (g1.2.1 < (a0.bA.length:Int)))=true then
  gd (0≤g1.2.1∧g1.2.1 < (a0.bA.length:Int)) <|
  (a90 (a0.bA.getD g1.2.1.toNat aO.zero) (i64.wrap (a1+1)) g1.2.2).bind fun v1 =>
  (if (decide (v1.1=0))=true then
   some (.inr (.inr (0,v1.2)))
  else
   some (.inl ((if g1.1 < v1.1 then v1.1 else g1.1),i64.wrap (g1.2.1+1),v1.2)))
 else
  some (.inr (.inl (g1.1,g1.2.2))))
def zF5 (a90:(aO→Int→Int→Option (Int×Int))) (a0:aO) (a1 a2:Int):Option (Int×Int) :=
 (if (decide (4 < a1)||decide (24 < i64.wrap (a2+1)))=true then
  some (0,i64.wrap (a2+1))
 else
  (zc0 (zJ2 a90 a0 a1) (0,0,i64.wrap (a2+1))).bind (fun|.inl z=>zax2 z|.inr z=>some z))
def zv7:Nat→(aO→Int→Int→Option (Int×Int))
 | 0=>fun _ _ _=>none
 | n+1=>zF5 (zv7 n)
def ze3 (a0:aO) (a1 a2:Int):Option (Int×Int):=zv7 (_root_.SizeOf.sizeOf a0+1) a0 a1 a2
@[reducible,instance] def zef3 (a90:(aO→Int→Int→Option (Int×Int))) (a0:aO) (a1 a2:Int):=mkJ (zF5 a90 a0 a1 a2) 0 (@zax2.eq_1) fun (j1:Int×Int)=>⟨[(7,.int .i64 j1.1)],[(0,⟨false,1,[A.int .i64 0],[[A.int .i64 j1.2]]⟩)],1⟩
@[reducible,instance] def zef4 (a90:(aO→Int→Int→Option (Int×Int))) (a0:aO) (a1:Int) {T:Type} (x:T):=mkL x (@zJ2.eq_1 a90 a0 a1) fun (g1:Int×Int×Int)=>⟨[(1,.int .i64 a1),(2,.ptr 0 0 0),(7,.int .i64 g1.1),(25,la a0.bA),(26,.int .i64 (a0.bA.length:Int)),(27,.int .i64 g1.2.1)],[(0,⟨false,1,[A.int .i64 0],[[A.int .i64 g1.2.2]]⟩)],1⟩
abbrev zac4 (g:(aO→Int→Int→Option (Int×Int))):Prop:=∀ (a0:aO) (a1:Int) (a2:Int),OkM (g a0 a1 a2) 130 [.agg (aO.enc a0),.int .i64 a1,.ptr 0 0 0] [(0,⟨false,1,[A.int .i64 0],[[A.int .i64 a2]]⟩)] 1 (fun r=>.int .i64 r.1) (fun r=>[(0,⟨false,1,[A.int .i64 0],[[A.int .i64 r.2]]⟩)]) 1
theorem zbc9 (a90:(aO→Int→Int→Option (Int×Int))) (hrc:zac4 a90):zac4 (zF5 a90):=fun a0 a1 a2=>okm (zF5.eq_1 a90 a0 a1 a2) (fun r=>[.int .i64 r.1]) Tryz.f130 []
theorem zbd0:∀ n,zac4 (zv7 n):=zaR5 (fun _ _ _=>⟨fun _ h=>nomatch h⟩) fun n=>zbc9 _
instance zcl5:zac4 ze3:=fun a0 a1 a2=>zbd0 _ a0 a1 a2
attribute [local irreducible] ze3
def zU4 (j1:Unit):Option Bool :=
 some true
def zy1 (a0 a1:List aU) (g1:Int):Option (Int⊕(Unit⊕Bool)) :=
 (if (decide (g1 < (a0.length:Int)))=true then
  gd (0≤g1∧g1 < (a0.length:Int)) <|
  gd (0≤g1∧g1 < (a1.length:Int)) <|
  (if (!decide (a0.getD g1.toNat aU.zero=a1.getD g1.toNat aU.zero))=true then
   some (.inr (.inr false))
  else
   some (.inl (i64.wrap (g1+1))))
 else
  some (.inr (.inl ())))
def za8 (a0 a1:List aU):Option Bool :=
 (if (!decide ((a0.length:Int)=(a1.length:Int)))=true then
  some false
 else
  (zc0 (zy1 a0 a1) 0).bind (fun|.inl z=>zU4 z|.inr z=>some z))
@[reducible,instance] def zdI4 a0 a1:=mkJ (za8 a0 a1) 0 (@zU4.eq_1) fun (j1:Unit)=>⟨[],[],0⟩
@[reducible,instance] def zdI5 (a0 a1:List aU) {T:Type} (x:T):=mkL x (@zy1.eq_1 a0 a1) fun (g1:Int)=>⟨[(0,la a0),(1,la a1),(12,.int .i64 (a0.length:Int)),(13,.int .i64 g1)],[],0⟩
instance zaw1 (a0 a1:List aU):OkP (za8 a0 a1) 98 [la a0,la a1] (fun r=>.bool r):=ok1 (za8.eq_1 a0 a1) Tryz.f98 []
attribute [local irreducible] za8
def zO6 (a0 a1:Int):Int :=
 (if (decide (a0 < a1))=true then
  (-1)
 else
  (if (decide (a1 < a0))=true then
   1
  else
   0))
instance zdb1 (a0 a1:Int):OkT 155 [.int .i64 a0,.int .i64 a1] (.int .i64 (zO6 a0 a1)):=ok2 (fun r=>.int .i64 r) (zO6.eq_1 a0 a1) Tryz.f155 []
def zl7 (a0:aC):Bool :=
 (decide (a0={ aC.zero with  }))
instance zbX1 (a0:aC):OkT 198 [.agg (aC.enc a0)] (.bool (zl7 a0)):=ok2 (fun r=>.bool r) (zl7.eq_1 a0) Tryz.f198 []
def zat0 (j1:Unit):Option Bool :=
 some false
def zW4 (a0:List aJ) (a1:aJ) (g1:Int):Option (Int⊕(Unit⊕Bool)) :=
 (if (decide (g1 < (a0.length:Int)))=true then
  gd (0≤g1∧g1 < (a0.length:Int)) <|
  (if (decide (a0.getD g1.toNat aJ.zero=a1))=true then
   some (.inr (.inr true))
  else
   some (.inl (i64.wrap (g1+1))))
 else
  some (.inr (.inl ())))
def zg8 (a0:List aJ) (a1:aJ):Option Bool :=
 (zc0 (zW4 a0 a1) 0).bind (fun|.inl z=>zat0 z|.inr z=>some z)
@[reducible,instance] def zdI6 a0 a1:=mkJ (zg8 a0 a1) 0 (@zat0.eq_1) fun (j1:Unit)=>⟨[],[],0⟩
@[reducible,instance] def zdI7 (a0:List aJ) (a1:aJ) {T:Type} (x:T):=mkL x (@zW4.eq_1 a0 a1) fun (g1:Int)=>⟨[(0,la a0),(3,.ptr 0 0 0),(5,.int .i64 g1)],[(0,bx a1)],1⟩
instance zcP0 (a0:List aJ) (a1:aJ):OkP (zg8 a0 a1) 189 [la a0,ga a1] (fun r=>.bool r):=ok1 (zg8.eq_1 a0 a1) Tryz.f189 []
attribute [local irreducible] zg8
def zaT3 (j1:(List ByteArray)):Option (List ByteArray) :=
 some j1
def zaA6 (g1:Int×(List ByteArray)) (j3:(List ByteArray)):Option ((Int×(List ByteArray))⊕(List ByteArray)) :=
 some (.inl ((i64.wrap (g1.1+1)),j3))
def zad3 (g2:Int×(List ByteArray)):Option ((Int×(List ByteArray))⊕(List ByteArray)) :=
 gd (decide (0 < g2.1)=true→0≤g2.1∧g2.1 < ((g2.2.length:Nat):Int)) <|
 gd (decide (0 < g2.1)=true→0≤i64.wrap (g2.1 - 1)∧i64.wrap (g2.1 - 1) < ((g2.2.length:Nat):Int)) <|
 (if (decide (0 < g2.1)&&Op.bytesLess (g2.2.getD g2.1.toNat ⟨#[]⟩).toList (g2.2.getD ((i64.wrap (g2.1 - 1)).toNat) ⟨#[]⟩).toList)=true then
  gd (0≤g2.1∧g2.1 < ((g2.2.length:Nat):Int)) <|
  gd (0≤i64.wrap (g2.1 - 1)∧i64.wrap (g2.1 - 1) < ((g2.2.length:Nat):Int)) <|
  gd (0≤g2.1∧g2.1 < ((g2.2.length:Nat):Int)) <|
  gd (0≤i64.wrap (g2.1 - 1)∧i64.wrap (g2.1 - 1) < ((g2.2.length:Nat):Int)) <|
  some (.inl ((i64.wrap (g2.1 - 1)),(g2.2.set g2.1.toNat (g2.2.getD ((i64.wrap (g2.1 - 1)).toNat) ⟨#[]⟩)).set ((i64.wrap (g2.1 - 1)).toNat) (g2.2.getD g2.1.toNat ⟨#[]⟩)))
 else
  some (.inr g2.2))
def zad4 (a0:List bK) (g1:Int×(List ByteArray)) (j2:Bool):Option ((Int×(List ByteArray))⊕(List ByteArray)) :=
 (if j2=true then
  some (.inl ((i64.wrap (g1.1+1)),g1.2))
 else
  gd (0≤g1.1∧g1.1 < (a0.length:Int)) <|
  gd (g1.2.length+1≤4294967296) <|
  (zc0 zad3 ((i64.wrap (((g1.2.length+1:Nat):Int) - 1)),(g1.2++[(a0.getD g1.1.toNat bK.zero).name]))).bind (fun z=>zaA6 g1 z))
def zad5 (a0:List bK) (g1:Int×(List ByteArray)) (g3:Bool×Int):Option ((Bool×Int)⊕Bool) :=
 (if (decide (g3.2 < ((g1.2.length:Nat):Int)))=true then
  gd ((!g3.1)=true→0≤g3.2∧g3.2 < ((g1.2.length:Nat):Int)) <|
  gd ((!g3.1)=true→0≤g1.1∧g1.1 < (a0.length:Int)) <|
  some (.inl ((g3.1||((g1.2.getD g3.2.toNat ⟨#[]⟩).toList == ((a0.getD g1.1.toNat bK.zero).name).toList)),i64.wrap (g3.2+1)))
 else
  some (.inr g3.1))
def zad6 (a0:List bK) (g1:Int×(List ByteArray)):Option ((Int×(List ByteArray))⊕(List ByteArray)) :=
 (if (decide (g1.1 < (a0.length:Int)))=true then
  (zc0 (zad5 a0 g1) (false,0)).bind (fun z=>zad4 a0 g1 z)
 else
  some (.inr g1.2))
def zi3 (a0:List bK):Option (List ByteArray) :=
 (zc0 (zad6 a0) (0,[])).bind (fun z=>zaT3 z)
@[reducible,instance] def zdI8 a0:=mkJ (zi3 a0) 0 (@zaT3.eq_1) fun (j1:(List ByteArray))=>⟨[(3,.own 0 0 j1.length)],[(0,⟨false,1,[A.str ⟨#[]⟩],j1.map eS⟩)],1⟩
@[reducible,instance] def zdI9 (a0:List bK) (g1:Int×(List ByteArray)) j2:=mkJ (zad4 a0 g1 j2) 4 (@zaA6.eq_1 g1) fun (j3:(List ByteArray))=>⟨[(0,la a0),(3,.own 0 0 j3.length),(4,.int .i64 g1.1)],[(0,⟨false,1,[A.str ⟨#[]⟩],j3.map eS⟩)],1⟩
@[reducible,instance] def zdJ0 (a0:List bK) (g1:Int×(List ByteArray)) j2:=mkL (zad4 a0 g1 j2) (@zad3.eq_1) fun (g2:Int×(List ByteArray))=>⟨[(0,la a0),(3,.own 0 0 g2.2.length),(4,.int .i64 g1.1),(7,.int .i64 g2.1)],[(0,⟨false,1,[A.str ⟨#[]⟩],g2.2.map eS⟩)],1⟩
@[reducible,instance] def zdJ1 (a0:List bK) (g1:Int×(List ByteArray)):=mkJ (zad6 a0 g1) 2 (@zad4.eq_1 a0 g1) fun (j2:Bool)=>⟨[(0,la a0),(3,.own 0 0 g1.2.length),(4,.int .i64 g1.1),(5,.bool j2)],[(0,⟨false,1,[A.str ⟨#[]⟩],g1.2.map eS⟩)],1⟩
@[reducible,instance] def zdJ2 (a0:List bK) (g1:Int×(List ByteArray)) {T:Type} (x:T):=mkL x (@zad5.eq_1 a0 g1) fun (g3:Bool×Int)=>⟨[(0,la a0),(3,.own 0 0 g1.2.length),(4,.int .i64 g1.1),(5,.bool g3.1),(6,.int .i64 g3.2)],[(0,⟨false,1,[A.str ⟨#[]⟩],g1.2.map eS⟩)],1⟩
@[reducible,instance] def zdJ3 (a0:List bK) {T:Type} (x:T):=mkL x (@zad6.eq_1 a0) fun (g1:Int×(List ByteArray))=>⟨[(0,la a0),(3,.own 0 0 g1.2.length),(4,.int .i64 g1.1)],[(0,⟨false,1,[A.str ⟨#[]⟩],g1.2.map eS⟩)],1⟩
instance zbP2 (a0:List bK):OkP (zi3 a0) 193 [la a0] (fun r=>.sl (r.map eS)):=ok1 (zi3.eq_1 a0) Tryz.f193 [(3,1)]
attribute [local irreducible] zi3
def zaI0 (j1:Unit):Option Bool :=
 some true
def zT4 (a90:(aO→aO→Option Bool)) (a0 a1:aO) (g1:Int):Option (Int⊕(Unit⊕Bool)) :=
 (if (decide (g1 < (a0.bA.length:Int)))=true then
  gd (0≤g1∧g1 < (a0.bA.length:Int)) <|
  gd (0≤g1∧g1 < (a1.bA.length:Int)) <|
  (a90 (a0.bA.getD g1.toNat aO.zero) (a1.bA.getD g1.toNat aO.zero)).bind fun v1 =>
  (if (!v1)=true then
   some (.inr (.inr false))
  else
   some (.inl (i64.wrap (g1+1))))
 else
  some (.inr (.inl ())))
def zB7 (a90:(aO→aO→Option Bool)) (a0 a1:aO):Option Bool :=
 (if (((!decide (a0.k=a1.k))||(!decide (a0.bB=a1.bB)))||(!decide ((a0.bA.length:Int)=(a1.bA.length:Int))))=true then
  some false
 else
  (zc0 (zT4 a90 a0 a1) 0).bind (fun|.inl z=>zaI0 z|.inr z=>some z))
def zR7:Nat→(aO→aO→Option Bool)
 | 0=>fun _ _=>none
 | n+1=>zB7 (zR7 n)
def zg1 (a0 a1:aO):Option Bool:=zR7 (_root_.SizeOf.sizeOf a0+1) a0 a1
@[reducible,instance] def zdJ4 (a90:(aO→aO→Option Bool)) (a0 a1:aO):=mkJ (zB7 a90 a0 a1) 0 (@zaI0.eq_1) fun (j1:Unit)=>⟨[],[],0⟩
@[reducible,instance] def zdJ5 (a90:(aO→aO→Option Bool)) (a0 a1:aO) {T:Type} (x:T):=mkL x (@zT4.eq_1 a90 a0 a1) fun (g1:Int)=>⟨[(2,.ptr 0 0 0),(3,.ptr 1 0 0),(5,.int .i64 g1)],[(0,bx a0),(1,bx a1)],2⟩
abbrev zan9 (g:(aO→aO→Option Bool)):Prop:=∀ (a0:aO) (a1:aO),OkP (g a0 a1) 72 [.agg (aO.enc a0),.agg (aO.enc a1)] (fun r=>.bool r)
theorem zbq4 (a90:(aO→aO→Option Bool)) (hrc:zan9 a90):zan9 (zB7 a90):=fun a0 a1=>ok1 (zB7.eq_1 a90 a0 a1) Tryz.f72 []
theorem zbq5:∀ n,zan9 (zR7 n):=zaR5 (fun _ _=>⟨fun _ h=>nomatch h⟩) fun n=>zbq4 _
instance zcJ0:zan9 zg1:=fun a0 a1=>zbq5 _ a0 a1
attribute [local irreducible] zg1
def zl1 (a0:aA):Option aA :=
 gd (a0.aR.length≤4294967296) <|
 gd (a0.aL.length≤4294967296) <|
 gd (a0.aV.length≤4294967296) <|
 some a0
instance zdj7 (a0:aA):OkP (zl1 a0) 286 [ga a0] (fun r=>ga r):=ok1 (zl1.eq_1 a0) Tryz.f286 [(3,1),(8,1),(13,1)]
attribute [local irreducible] zl1
def zj1 (a0:aA):Option aA :=
 gd (a0.aR.length≤4294967296) <|
 gd (a0.aL.length≤4294967296) <|
 gd (a0.aV.length≤4294967296) <|
 some a0
theorem zbA0 (a0 r:aA) (h:zj1 a0=some r):MFn C 286 [ga a0] [] 0 (.agg [.str r.aB.name,.int .i64 r.aB.kind,.int .i64 r.aB.aS,.int .i64 r.aB.home,.own 0 0 r.aR.length,.own 1 0 r.aL.length,.own 2 0 r.aV.length,.int .i64 r.gen]) [(0,sx r.aR),(1,sx r.aL),(2,sx r.aV)] 3:=by
 refine zaz8 Tryz.f286 [(3,1),(8,1),(13,1)] [.agg [.str r.aB.name,.int .i64 r.aB.kind,.int .i64 r.aB.aS,.int .i64 r.aB.home,.own 0 0 r.aR.length,.own 1 0 r.aL.length,.own 2 0 r.aV.length,.int .i64 r.gen]] fun E hG hN hK=>?_
 unfold zj1 at h
 refine za2 (za3 hG ?_)
 refine za2 ?_
 obtain ⟨hb3,h⟩:=zd5 h
 refine za3 hG ?_
 refine za2 ?_
 obtain ⟨hb2,h⟩:=zd5 h
 refine za3 hG ?_
 refine za2 ?_
 obtain ⟨hb1,h⟩:=zd5 h
 refine za3 hG ?_
 refine za2 (za3 hG ?_)
 refine zt2 ?_
 exact zS4 [(0,3),(1,5),(2,7)] h
attribute [local irreducible] zj1
def za9 (a0:List aU):Option (List aU) :=
 gd (a0.length≤4294967296) <|
 some a0
theorem zaw2 (a0:List aU) (r:(List aU)) (h:za9 a0=some r):PFn C 58 [la a0] (la r):=by
 refine zad2 Tryz.f58 [(5,1)] fun E hG hN hK=>?_
 unfold za9 at h
 refine za2 (za3 hG ?_)
 refine za2 (za2 (za3 hG ?_))
 intro b hnil
 cases b
 · try refine g_st ?_
   refine zch9 rfl hG ?_
   refine zj2 ?_
   refine za2 ?_
   obtain ⟨hb1,h⟩:=zd5 h
   refine za3 hG ?_
   refine zt2 ?_
   exact zI9 h
 have ha:a0=[]:=iD.1 (hnil rfl)
 subst ha
 replace h:some []=some r:=by simpa [gd] using h
 try refine g_st ?_
 refine zbj9 rfl hG ?_
 refine za2 (za3 hG ?_)
 refine zt2 ?_
 exact zI9 h
instance zbq6 (a0:List aU):OkP (za9 a0) 58 [la a0] (fun r=>la r):=⟨zaw2 a0⟩
attribute [local irreducible] za9
def zf9 (a0 a1:ByteArray):Option Int:=some (Go.Lib.compareBytes a0.data.toList a1.data.toList)
theorem zbf7:Lays.n106 C.P ⟨fun|106=>30|213=>68|265=>112|n=>n,fun|3=>3|9=>9|n=>n,fun n=>n⟩ where
 mixed:=zw6
 f106:=Tryz.func30.trans (cP some (by kernel_rfl))
 f213:=Tryz.func68.trans (cP some (by kernel_rfl))
 f265:=Tryz.func112.trans (cP some (by kernel_rfl))
 t3:=Tryz.underlying3
 a3:=Tryz.isAgg3
 z3:=Tryz.sizeOf3
 v3:=Tryz.zeroValue3
 t9:=Tryz.underlying9
 a9:=Tryz.isAgg9
 z9:=Tryz.sizeOf9
 v9:=Tryz.zeroValue9
theorem zbq7 (a0 a1:ByteArray) (r:Int) (h:zf9 a0 a1=some r):PFn C 30 [.str a0,.str a1] (.int .i64 r):=by
 obtain rfl:=dU h
 exact zcO8 zbf7 rfl a0 a1
instance zcx2 (a0 a1:ByteArray):OkP (zf9 a0 a1) 30 [.str a0,.str a1] (fun r=>.int .i64 r):=⟨zbq7 a0 a1⟩
attribute [local irreducible] zf9
def zaE7 (j1:Unit):Option Bool :=
 some true
def zaE8 (a0 a1:List aT) (g1:Int):Option (Int⊕(Unit⊕Bool)) :=
 (if (decide (g1 < (a0.length:Int)))=true then
  gd (0≤g1∧g1 < (a0.length:Int)) <|
  gd (0≤g1∧g1 < (a1.length:Int)) <|
  (if (!decide (a0.getD g1.toNat aT.zero=a1.getD g1.toNat aT.zero))=true then
   some (.inr (.inr false))
  else
   some (.inl (i64.wrap (g1+1))))
 else
  some (.inr (.inl ())))
def ze4 (a0 a1:List aT):Option Bool :=
 (if (!decide ((a0.length:Int)=(a1.length:Int)))=true then
  some false
 else
  (zc0 (zaE8 a0 a1) 0).bind (fun|.inl z=>zaE7 z|.inr z=>some z))
@[reducible,instance] def zdJ6 a0 a1:=mkJ (ze4 a0 a1) 0 (@zaE7.eq_1) fun (j1:Unit)=>⟨[],[],0⟩
@[reducible,instance] def zdJ7 (a0 a1:List aT) {T:Type} (x:T):=mkL x (@zaE8.eq_1 a0 a1) fun (g1:Int)=>⟨[(0,la a0),(1,la a1),(5,.int .i64 g1)],[],0⟩
instance zcA2 (a0 a1:List aT):OkP (ze4 a0 a1) 122 [la a0,la a1] (fun r=>.bool r):=ok1 (ze4.eq_1 a0 a1) Tryz.f122 []
attribute [local irreducible] ze4
def zat1 (j1:(List aJ)):Option (List aJ) :=
 some j1
def zW5 (a0:List aU) (g1:Int×(List aJ)):Option ((Int×(List aJ))⊕(List aJ)) :=
 (if (decide (g1.1 < (a0.length:Int)))=true then
  gd (0≤g1.1∧g1.1 < (a0.length:Int)) <|
  gd (g1.2.length+1≤4294967296) <|
  some (.inl ((i64.wrap (g1.1+1)),(g1.2++[(a0.getD g1.1.toNat aU.zero).aN])))
 else
  some (.inr g1.2))
def zh8 (a0:List aU):Option (List aJ) :=
 (zc0 (zW5 a0) (0,[])).bind (fun z=>zat1 z)
@[reducible,instance] def zdJ8 a0:=mkJ (zh8 a0) 0 (@zat1.eq_1) fun (j1:(List aJ))=>⟨[(3,.own 0 0 j1.length)],[(0,sx j1)],1⟩
@[reducible,instance] def zdJ9 (a0:List aU) {T:Type} (x:T):=mkL x (@zW5.eq_1 a0) fun (g1:Int×(List aJ))=>⟨[(3,.own 0 0 g1.2.length),(6,la a0),(7,.int .i64 (a0.length:Int)),(8,.int .i64 g1.1)],[(0,sx g1.2)],1⟩
attribute [local irreducible] zh8
def zao0 (a0:List Int):Bool :=
 (decide ((a0.length:Int)≤300))
instance zbX2 (a0:List Int):OkT 4 [.sl (a0.map (eI .i64))] (.bool (zao0 a0)):=ok2 (fun r=>.bool r) (zao0.eq_1 a0) Tryz.f4 []
def zL1 (a0 a1 a2:Int):Bool :=
 (decide (a1≤a0)&&decide (a0≤a2))
instance zcP1 (a0 a1 a2:Int):OkT 82 [.int .i64 a0,.int .i64 a1,.int .i64 a2] (.bool (zL1 a0 a1 a2)):=ok2 (fun r=>.bool r) (zL1.eq_1 a0 a1 a2) Tryz.f82 []
def zv0 (a0:Int):Bool :=
 (decide (1≤a0)&&decide (a0≤5))
instance zdj8 (a0:Int):OkT 228 [.int .i64 a0] (.bool (zv0 a0)):=ok2 (fun r=>.bool r) (zv0.eq_1 a0) Tryz.f228 []
def zaE9 (j1:(List aJ)):Option (List aJ) :=
 some j1
def zaF0 (a0:List aU) (g1:Int×(List aJ)):Option ((Int×(List aJ))⊕(List aJ)) :=
 (if (decide (g1.1 < (a0.length:Int)))=true then
  gd (0≤g1.1∧g1.1 < (a0.length:Int)) <|
  gd (g1.2.length+1≤4294967296) <|
  some (.inl ((i64.wrap (g1.1+1)),(g1.2++[(a0.getD g1.1.toNat aU.zero).aN])))
 else
  some (.inr g1.2))
def ze5 (a0:List aU):Option (List aJ) :=
 (zc0 (zaF0 a0) (0,[])).bind (fun z=>zaE9 z)
@[reducible,instance] def zdK0 a0:=mkJ (ze5 a0) 0 (@zaE9.eq_1) fun (j1:(List aJ))=>⟨[(3,.own 0 0 j1.length)],[(0,sx j1)],1⟩
@[reducible,instance] def zdK1 (a0:List aU) {T:Type} (x:T):=mkL x (@zaF0.eq_1 a0) fun (g1:Int×(List aJ))=>⟨[(3,.own 0 0 g1.2.length),(6,la a0),(7,.int .i64 (a0.length:Int)),(8,.int .i64 g1.1)],[(0,sx g1.2)],1⟩
instance zcx3 (a0:List aU):OkM (ze5 a0) 133 [la a0] [] 0 (fun r=>.own 0 0 r.length) (fun r=>[(0,sx r)]) 1:=okm (ze5.eq_1 a0) (fun r=>[.own 0 0 r.length]) Tryz.f133 [(2,1),(3,1)]
attribute [local irreducible] ze5
def zbb0 (j1:Unit):Option (Int×Int×Int) :=
 some (0,0,6)
def zY7 (a0:List Int) (g1:Int×Int):Option ((Int×Int)⊕(Unit⊕(Int×Int×Int))) :=
 (if (decide (g1.2 < 10))=true then
  (if (decide ((a0.length:Int)≤g1.2))=true then
   some (.inr (.inr (0,0,5)))
  else
   gd (0≤g1.2∧g1.2 < (a0.length:Int)) <|
   (if (decide (g1.2=9)&&decide (1 < a0.getD g1.2.toNat 0))=true then
    some (.inr (.inr (0,0,6)))
   else
    gd (0≤i64.wrap (7 * g1.2)) <|
    (if (!decide (zO4 .and .u8 (a0.getD g1.2.toNat 0) 128=0))=true then
     some (.inl ((zO4 .or .u64 g1.1 (u64.wrap (u64.wrap (zO4 .and .u8 (a0.getD g1.2.toNat 0) 127) * 2 ^ (Nat.min (i64.wrap (7 * g1.2)).toNat u64.bits)))),i64.wrap (g1.2+1)))
    else
     (if (decide (a0.getD g1.2.toNat 0=0)&&decide (0 < g1.2))=true then
      some (.inr (.inr (0,0,6)))
     else
      some (.inr (.inr ((zO4 .or .u64 g1.1 (u64.wrap (u64.wrap (zO4 .and .u8 (a0.getD g1.2.toNat 0) 127) * 2 ^ (Nat.min (i64.wrap (7 * g1.2)).toNat u64.bits)))),i64.wrap (g1.2+1),0)))))))
 else
  some (.inr (.inl ())))
def zk7 (a0:List Int):Option (Int×Int×Int) :=
 (zc0 (zY7 a0) (0,0)).bind (fun|.inl z=>zbb0 z|.inr z=>some z)
@[reducible,instance] def zdK2 a0:=mkJ (zk7 a0) 0 (@zbb0.eq_1) fun (j1:Unit)=>⟨[],[],0⟩
@[reducible,instance] def zdK3 (a0:List Int) {T:Type} (x:T):=mkL x (@zY7.eq_1 a0) fun (g1:Int×Int)=>⟨[(0,.sl (a0.map (eI .u8))),(5,.int .u64 g1.1),(8,.int .i64 g1.2)],[],0⟩
instance zdj9 (a0:List Int):OkP (zk7 a0) 123 [.sl (a0.map (eI .u8))] (fun r=>.tup [.int .u64 r.1,.int .i64 r.2.1,.int .i64 r.2.2]):=ok1 (zk7.eq_1 a0) Tryz.f123 []
attribute [local irreducible] zk7
def zbb1 (j1:Unit):Option Int :=
 some (-1)
def zah9 (a0:List aA) (a1:ByteArray) (g1:Int):Option (Int⊕(Unit⊕Int)) :=
 (if (decide (g1 < (a0.length:Int)))=true then
  gd (0≤g1∧g1 < (a0.length:Int)) <|
  (if ((((a0.getD g1.toNat aA.zero).aB).name).toList == a1.toList)=true then
   some (.inr (.inr g1))
  else
   some (.inl (i64.wrap (g1+1))))
 else
  some (.inr (.inl ())))
def zk0 (a0:List aA) (a1:ByteArray):Option Int :=
 (zc0 (zah9 a0 a1) 0).bind (fun|.inl z=>zbb1 z|.inr z=>some z)
@[reducible,instance] def zdK4 a0 a1:=mkJ (zk0 a0 a1) 0 (@zbb1.eq_1) fun (j1:Unit)=>⟨[],[],0⟩
@[reducible,instance] def zdK5 (a0:List aA) (a1:ByteArray) {T:Type} (x:T):=mkL x (@zah9.eq_1 a0 a1) fun (g1:Int)=>⟨[(1,.str a1),(7,la a0),(8,.int .i64 (a0.length:Int)),(9,.int .i64 g1)],[],0⟩
instance zbX3 (a0:List aA) (a1:ByteArray):OkP (zk0 a0 a1) 22 [la a0,.str a1] (fun r=>.int .i64 r):=ok1 (zk0.eq_1 a0 a1) Tryz.f22 []
attribute [local irreducible] zk0
def zm2 (a0:aJ):Bool :=
 (((((decide (0≤a0.site)&&decide (a0.site < 4))&&decide (1≤a0.inc))&&decide (a0.inc≤99))&&decide (1≤a0.num))&&decide (a0.num≤999))
instance zbq8 (a0:aJ):OkT 139 [.agg (aJ.enc a0)] (.bool (zm2 a0)):=ok2 (fun r=>.bool r) (zm2.eq_1 a0) Tryz.f139 []
def zbb2 (j1:Unit):Option Int :=
 some (-1)
def zbb3 (a0:List aT) (a1:aJ) (g1:Int):Option (Int⊕(Unit⊕Int)) :=
 (if (decide (g1 < (a0.length:Int)))=true then
  gd (0≤g1∧g1 < (a0.length:Int)) <|
  (if (decide ((a0.getD g1.toNat aT.zero).aN=a1))=true then
   some (.inr (.inr g1))
  else
   some (.inl (i64.wrap (g1+1))))
 else
  some (.inr (.inl ())))
def zk1 (a0:List aT) (a1:aJ):Option Int :=
 (zc0 (zbb3 a0 a1) 0).bind (fun|.inl z=>zbb2 z|.inr z=>some z)
@[reducible,instance] def zdK6 a0 a1:=mkJ (zk1 a0 a1) 0 (@zbb2.eq_1) fun (j1:Unit)=>⟨[],[],0⟩
@[reducible,instance] def zdK7 (a0:List aT) (a1:aJ) {T:Type} (x:T):=mkL x (@zbb3.eq_1 a0 a1) fun (g1:Int)=>⟨[(0,la a0),(3,.ptr 0 0 0),(5,.int .i64 g1)],[(0,bx a1)],1⟩
instance zdk0 (a0:List aT) (a1:aJ):OkP (zk1 a0 a1) 240 [la a0,ga a1] (fun r=>.int .i64 r):=ok1 (zk1.eq_1 a0 a1) Tryz.f240 []
attribute [local irreducible] zk1
def zbb4 (j1:Int×Int):Option (Int×Int) :=
 some (j1.1,i64.wrap (j1.2+1))
def zar7 (g1:Int×Int×Int) (v1:Int×Int) (j2:Int):Option ((Int×Int×Int)⊕((Int×Int)⊕(Int×Int))) :=
 (if (decide (24 < i64.wrap (g1.1+v1.1)))=true then
  some (.inr (.inr (25,0)))
 else
  some (.inl ((i64.wrap (g1.1+v1.1)),j2,i64.wrap (g1.2.2+1))))
def zY8 (a90:(aO→Int→Option (Int×Int))) (a0:aO) (a1:Int) (g1:Int×Int×Int):Option ((Int×Int×Int)⊕((Int×Int)⊕(Int×Int))) :=
 (if (decide (g1.2.2 < (a0.bA.length:Int)))=true then
  gd (0≤g1.2.2∧g1.2.2 < (a0.bA.length:Int)) <|
  (a90 (a0.bA.getD g1.2.2.toNat aO.zero) (i64.wrap (a1+1))).bind fun v1 =>
  (if (decide (g1.2.1 < v1.2))=true then
   zar7 g1 v1 v1.2
  else
   zar7 g1 v1 g1.2.1)
 else
  some (.inr (.inl (g1.1,g1.2.1))))
def zad7 (a90:(aO→Int→Option (Int×Int))) (a0:aO) (a1:Int):Option (Int×Int) :=
 (if (decide (4 < a1)||decide (24 < (a0.bA.length:Int)))=true then
  some (25,0)
 else
  (zc0 (zY8 a90 a0 a1) (1,0,0)).bind (fun|.inl z=>zbb4 z|.inr z=>some z))
def zO7:Nat→(aO→Int→Option (Int×Int))
 | 0=>fun _ _=>none
 | n+1=>zad7 (zO7 n)
def zn8 (a0:aO) (a1:Int):Option (Int×Int):=zO7 (_root_.SizeOf.sizeOf a0+1) a0 a1
@[reducible,instance] def zdK8 (a90:(aO→Int→Option (Int×Int))) (a0:aO) (a1:Int):=mkJ (zad7 a90 a0 a1) 0 (@zbb4.eq_1) fun (j1:Int×Int)=>⟨[(6,.int .i64 j1.1),(7,.int .i64 j1.2)],[],0⟩
@[reducible,instance] def zdK9 (a90:(aO→Int→Option (Int×Int))) (a0:aO) (a1:Int) (g1:Int×Int×Int) (v1:Int×Int):=mkJ (zY8 a90 a0 a1 g1,v1) 999 (@zar7.eq_1 g1 v1) fun (j2:Int)=>⟨[(1,.int .i64 a1),(2,.ptr 0 0 0),(6,.int .i64 (i64.wrap (g1.1+v1.1))),(7,.int .i64 j2),(8,.int .i64 g1.2.2)],[(0,bx a0)],1⟩
@[reducible,instance] def zdL0 (a90:(aO→Int→Option (Int×Int))) (a0:aO) (a1:Int) {T:Type} (x:T):=mkL x (@zY8.eq_1 a90 a0 a1) fun (g1:Int×Int×Int)=>⟨[(1,.int .i64 a1),(2,.ptr 0 0 0),(6,.int .i64 g1.1),(7,.int .i64 g1.2.1),(8,.int .i64 g1.2.2)],[(0,bx a0)],1⟩
abbrev zaI8 (g:(aO→Int→Option (Int×Int))):Prop:=∀ (a0:aO) (a1:Int),OkP (g a0 a1) 272 [.agg (aO.enc a0),.int .i64 a1] (fun r=>.tup [.int .i64 r.1,.int .i64 r.2])
theorem zbP3 (a90:(aO→Int→Option (Int×Int))) (hrc:zaI8 a90):zaI8 (zad7 a90):=fun a0 a1=>ok1 (zad7.eq_1 a90 a0 a1) Tryz.f272 []
theorem zbP4:∀ n,zaI8 (zO7 n):=zaR5 (fun _ _=>⟨fun _ h=>nomatch h⟩) fun n=>zbP3 _
instance zdk1:zaI8 zn8:=fun a0 a1=>zbP4 _ a0 a1
attribute [local irreducible] zn8
def zaK5 (j1:(List aI)):Option (List aI) :=
 some j1
def zag6 (a0:List aA) (g1:Int×(List aI)):Option ((Int×(List aI))⊕(List aI)) :=
 (if (decide (g1.1 < (a0.length:Int)))=true then
  gd (0≤g1.1∧g1.1 < (a0.length:Int)) <|
  gd (g1.2.length+1≤4294967296) <|
  some (.inl ((i64.wrap (g1.1+1)),(g1.2++[(a0.getD g1.1.toNat aA.zero).aB])))
 else
  some (.inr g1.2))
def zg9 (a0:List aA):Option (List aI) :=
 (zc0 (zag6 a0) (0,[])).bind (fun z=>zaK5 z)
@[reducible,instance] def zdL1 a0:=mkJ (zg9 a0) 0 (@zaK5.eq_1) fun (j1:(List aI))=>⟨[(3,.own 0 0 j1.length)],[(0,sx j1)],1⟩
@[reducible,instance] def zdL2 (a0:List aA) {T:Type} (x:T):=mkL x (@zag6.eq_1 a0) fun (g1:Int×(List aI))=>⟨[(0,la a0),(3,.own 0 0 g1.2.length),(4,.int .i64 g1.1)],[(0,sx g1.2)],1⟩
instance zcP2 (a0:List aA):OkP (zg9 a0) 150 [la a0] (fun r=>la r):=ok1 (zg9.eq_1 a0) Tryz.f150 [(3,1)]
attribute [local irreducible] zg9
def zbb5 (j1:Unit):Option (aI×Bool) :=
 some ({ aI.zero with  },false)
def zar8 (a0:List aI) (a1:ByteArray) (g1:Int):Option (Int⊕(Unit⊕(aI×Bool))) :=
 (if (decide (g1 < (a0.length:Int)))=true then
  gd (0≤g1∧g1 < (a0.length:Int)) <|
  (if (((a0.getD g1.toNat aI.zero).name).toList == a1.toList)=true then
   gd (0≤g1∧g1 < (a0.length:Int)) <|
   some (.inr (.inr ((a0.getD g1.toNat aI.zero),true)))
  else
   some (.inl (i64.wrap (g1+1))))
 else
  some (.inr (.inl ())))
def zm3 (a0:List aI) (a1:ByteArray):Option (aI×Bool) :=
 (zc0 (zar8 a0 a1) 0).bind (fun|.inl z=>zbb5 z|.inr z=>some z)
@[reducible,instance] def zdL3 a0 a1:=mkJ (zm3 a0 a1) 0 (@zbb5.eq_1) fun (j1:Unit)=>⟨[(4,.ptr 0 0 0)],[(0,bx aI.zero)],1⟩
@[reducible,instance] def zdL4 (a0:List aI) (a1:ByteArray) {T:Type} (x:T):=mkL x (@zar8.eq_1 a0 a1) fun (g1:Int)=>⟨[(0,la a0),(1,.str a1),(4,.ptr 0 0 0),(6,.int .i64 g1)],[(0,bx aI.zero)],1⟩
instance zdk2 (a0:List aI) (a1:ByteArray):OkP (zm3 a0 a1) 243 [la a0,.str a1] (fun r=>.tup [ga r.1,.bool r.2]):=ok1 (zm3.eq_1 a0 a1) Tryz.f243 []
attribute [local irreducible] zm3
def zaA7 (j1:Unit):Option Bool :=
 some false
def zad8 (a0:aO) (a1:List aM) (a2:List Bool) (g1:Int):Option (Int⊕(Unit⊕Bool)) :=
 (if (decide (g1 < (a1.length:Int)))=true then
  gd (0≤g1∧g1 < (a1.length:Int)) <|
  (if (decide (a1.getD g1.toNat aM.zero=a0.bB))=true then
   gd (decide (g1 < (a2.length:Int))=true→0≤g1∧g1 < (a2.length:Int)) <|
   some (.inr (.inr (decide (g1 < (a2.length:Int))&&a2.getD g1.toNat false)))
  else
   some (.inl (i64.wrap (g1+1))))
 else
  some (.inr (.inl ())))
def zaT4 (a0:aO) (j2:Int):Option Bool :=
 some (decide (a0.k≤j2))
def zao1 (a90:(aO→List aM→List Bool→Option Bool)) (a0:aO) (a1:List aM) (a2:List Bool) (g2:Int×Int):Option ((Int×Int)⊕Int) :=
 (if (decide (g2.2 < (a0.bA.length:Int)))=true then
  gd (0≤g2.2∧g2.2 < (a0.bA.length:Int)) <|
  (a90 (a0.bA.getD g2.2.toNat aO.zero) a1 a2).bind fun v1 =>
  (if v1=true then
   some (.inl ((i64.wrap (g2.1+1)),i64.wrap (g2.2+1)))
  else
   some (.inl (g2.1,i64.wrap (g2.2+1))))
 else
  some (.inr g2.1))
def zS7 (a90:(aO→List aM→List Bool→Option Bool)) (a0:aO) (a1:List aM) (a2:List Bool):Option Bool :=
 (if (decide (a0.k=0))=true then
  (zc0 (zad8 a0 a1 a2) 0).bind (fun|.inl z=>zaA7 z|.inr z=>some z)
 else
  (zc0 (zao1 a90 a0 a1 a2) (0,0)).bind (fun z=>zaT4 a0 z))
def fr_ref08_holds:Nat→(aO→List aM→List Bool→Option Bool)
 | 0=>fun _ _ _=>none
 | n+1=>zS7 (fr_ref08_holds n)
def f_ref08_holds (a0:aO) (a1:List aM) (a2:List Bool):Option Bool:=fr_ref08_holds (_root_.SizeOf.sizeOf a0+1) a0 a1 a2
@[reducible,instance] def zdL5 (a90:(aO→List aM→List Bool→Option Bool)) (a0:aO) (a1:List aM) (a2:List Bool):=mkJ (zS7 a90 a0 a1 a2) 0 (@zaA7.eq_1) fun (j1:Unit)=>⟨[],[],0⟩
@[reducible,instance] def zdL6 (a0:aO) (a1:List aM) (a2:List Bool) {T:Type} (x:T):=mkL x (@zad8.eq_1 a0 a1 a2) fun (g1:Int)=>⟨[(1,la a1),(2,.sl (a2.map eB)),(3,.ptr 0 0 0),(7,.int .i64 g1)],[(0,bx a0)],1⟩
@[reducible,instance] def zdL7 (a90:(aO→List aM→List Bool→Option Bool)) (a0:aO) (a1:List aM) (a2:List Bool):=mkJ (zS7 a90 a0 a1 a2) 2 (@zaT4.eq_1 a0) fun (j2:Int)=>⟨[(3,.ptr 0 0 0),(8,.int .i64 j2)],[(0,bx a0)],1⟩
@[reducible,instance] def zdL8 (a90:(aO→List aM→List Bool→Option Bool)) (a0:aO) (a1:List aM) (a2:List Bool) {T:Type} (x:T):=mkL x (@zao1.eq_1 a90 a0 a1 a2) fun (g2:Int×Int)=>⟨[(1,la a1),(2,.sl (a2.map eB)),(3,.ptr 0 0 0),(8,.int .i64 g2.1),(9,.int .i64 g2.2)],[(0,bx a0)],1⟩
abbrev zaC9 (g:(aO→List aM→List Bool→Option Bool)):Prop:=∀ (a0:aO) (a1:List aM) (a2:List Bool),OkP (g a0 a1 a2) 203 [.agg (aO.enc a0),.sl (a1.map aM.enc),.sl (a2.map eB)] (fun r=>.bool r)
theorem zbH3 (a90:(aO→List aM→List Bool→Option Bool)) (hrc:zaC9 a90):zaC9 (zS7 a90):=fun a0 a1 a2=>ok1 (zS7.eq_1 a90 a0 a1 a2) Tryz.f203 []
theorem zbH4:∀ n,zaC9 (fr_ref08_holds n):=zaR5 (fun _ _ _=>⟨fun _ h=>nomatch h⟩) fun n=>zbH3 _
instance zdb2:zaC9 f_ref08_holds:=fun a0 a1 a2=>zbH4 _ a0 a1 a2
attribute [local irreducible] f_ref08_holds
def zj9 (a0:aZ):Option aZ :=
 gd (a0.aF.length≤4294967296) <|
 gd (a0.aG.length≤4294967296) <|
 some a0
theorem zbA1 (a0 r:aZ) (h:zj9 a0=some r):MFn C 158 [ga a0] [] 0 (.agg [.int .i64 r.now,.own 0 0 r.aF.length,.own 1 0 r.aG.length]) [(0,sx r.aF),(1,sx r.aG)] 2:=by
 refine zaz8 Tryz.f158 [(3,1),(8,1)] [.agg [.int .i64 r.now,.own 0 0 r.aF.length,.own 1 0 r.aG.length]] fun E hG hN hK=>?_
 unfold zj9 at h
 refine za2 (za3 hG ?_)
 refine za2 ?_
 obtain ⟨hb2,h⟩:=zd5 h
 refine za3 hG ?_
 refine za2 ?_
 obtain ⟨hb1,h⟩:=zd5 h
 refine za3 hG ?_
 refine za2 (za3 hG ?_)
 refine zt2 ?_
 exact zS4 [(0,3),(1,5)] h
attribute [local irreducible] zj9
def zap7 (a0:aW) (j1:Int):Option (Int×Int×(List aA)×(List aH)×(List bI)) :=
 some (j1,a0.c.now,a0.c.aF,a0.c.aG,a0.ev)
def zL8 (a0:aW) (g1:Int×Int×Int):Option ((Int×Int×Int)⊕Int) :=
 (if (decide (g1.2.2 < ((a0.c.aG.length:Nat):Int)))=true then
  gd (0≤g1.2.2∧g1.2.2 < ((a0.c.aG.length:Nat):Int)) <|
  (if ((((a0.c.aG.getD g1.2.2.toNat aH.zero).bE&&(!decide (((a0.c.aG.getD g1.2.2.toNat aH.zero).bF).limit=0)))&&decide (i64.wrap ((a0.c.aG.getD g1.2.2.toNat aH.zero).since+((a0.c.aG.getD g1.2.2.toNat aH.zero).bF).limit)≤a0.c.now))&&(decide (g1.1 < 0)||decide (i64.wrap ((a0.c.aG.getD g1.2.2.toNat aH.zero).since+((a0.c.aG.getD g1.2.2.toNat aH.zero).bF).limit) < g1.2.1)))=true then
   some (.inl (g1.2.2,i64.wrap ((a0.c.aG.getD g1.2.2.toNat aH.zero).since+((a0.c.aG.getD g1.2.2.toNat aH.zero).bF).limit),i64.wrap (g1.2.2+1)))
  else
   some (.inl (g1.1,g1.2.1,i64.wrap (g1.2.2+1))))
 else
  some (.inr g1.1))
def zc5 (a0:aW):Option (Int×Int×(List aA)×(List aH)×(List bI)) :=
 (zc0 (zL8 a0) ((-1),0,0)).bind (fun z=>zap7 a0 z)
@[reducible,instance] def zdL9 (a0:aW):=mkJ (zc5 a0) 0 (@zap7.eq_1 a0) fun (j1:Int)=>⟨[(3,.int .i64 j1)],[(0,⟨false,4,aW.enc aW.zero,[[.int .i64 a0.c.now,la a0.c.aF,.own 1 0 a0.c.aG.length,.own 2 0 a0.ev.length]]⟩),(1,sx a0.c.aG),(2,sx a0.ev)],3⟩
@[reducible,instance] def zdM0 (a0:aW) {T:Type} (x:T):=mkL x (@zL8.eq_1 a0) fun (g1:Int×Int×Int)=>⟨[(0,.ptr 0 0 0),(3,.int .i64 g1.1),(4,.int .i64 g1.2.1),(5,.int .i64 g1.2.2)],[(0,⟨false,4,aW.enc aW.zero,[[.int .i64 a0.c.now,la a0.c.aF,.own 1 0 a0.c.aG.length,.own 2 0 a0.ev.length]]⟩),(1,sx a0.c.aG),(2,sx a0.ev)],3⟩
instance zbX4 (a0:aW):OkM (zc5 a0) 248 [.ptr 0 0 0] [(0,⟨false,4,aW.enc aW.zero,[[.int .i64 a0.c.now,la a0.c.aF,.own 1 0 a0.c.aG.length,.own 2 0 a0.ev.length]]⟩),(1,sx a0.c.aG),(2,sx a0.ev)] 3 (fun r=>.int .i64 r.1) (fun r=>[(0,⟨false,4,aW.enc aW.zero,[[.int .i64 r.2.1,la r.2.2.1,.own 1 0 r.2.2.2.1.length,.own 2 0 r.2.2.2.2.length]]⟩),(1,sx r.2.2.2.1),(2,sx r.2.2.2.2)]) 3:=okm (zc5.eq_1 a0) (fun r=>[.int .i64 r.1]) Tryz.f248 []
attribute [local irreducible] zc5
def zf8 (a0:List aA) (a1:Int) (a2:aA):Option (List aA) :=
 gd (a0.length≤4294967296) <|
 gd (0≤a1∧a1 < ((a0.length:Nat):Int)) <|
 some (a0.set a1.toNat a2)
instance zbA2 (a0:List aA) (a1:Int) (a2:aA):OkP (zf8 a0 a1 a2) 275 [la a0,.int .i64 a1,ga a2] (fun r=>la r):=ok1 (zf8.eq_1 a0 a1 a2) Tryz.f275 [(8,1)]
attribute [local irreducible] zf8
def zd0 (a0:List aA) (a1:List bI) (a2:aW):Option (Int×(List aA)×(List aH)×(List bI)) :=
 gd (a2.ev.length+a1.length≤4294967296) <|
 some (a2.c.now,a0,a2.c.aG,(a2.ev++a1))
instance zbd1 (a0:List aA) (a1:List bI) (a2:aW):OkM (zd0 a0 a1 a2) 251 [.ptr 0 0 0,la a0,la a1] [(0,⟨false,4,aW.enc aW.zero,[[.int .i64 a2.c.now,la a2.c.aF,.own 1 0 a2.c.aG.length,.own 2 0 a2.ev.length]]⟩),(1,sx a2.c.aG),(2,sx a2.ev)] 3 (fun r=>.tup []) (fun r=>[(0,⟨false,4,aW.enc aW.zero,[[.int .i64 r.1,la r.2.1,.own 1 0 r.2.2.1.length,.own 3 0 r.2.2.2.length]]⟩),(1,sx r.2.2.1),(3,sx r.2.2.2)]) 4:=okm (zd0.eq_1 a0 a1 a2) (fun r=>[]) Tryz.f251 []
attribute [local irreducible] zd0
def zd9 (a0:Int) (a1:aW):Option (Int×(List aA)×(List aH)×(List bI)) :=
 gd (0≤a0∧a0 < ((a1.c.aG.length:Nat):Int)) <|
 gd (0≤a0∧a0 < ((a1.c.aG.length:Nat):Int)) <|
 gd (0≤a0∧a0 < ((a1.c.aG.length:Nat):Int)) <|
 some (a1.c.now,a1.c.aF,((a1.c.aG.set a0.toNat ({ (a1.c.aG.getD a0.toNat aH.zero) with bE:=false })).set a0.toNat ({ ((a1.c.aG.set a0.toNat ({ (a1.c.aG.getD a0.toNat aH.zero) with bE:=false })).getD a0.toNat aH.zero) with bF:={ bL.zero with  } })).set a0.toNat ({ (((a1.c.aG.set a0.toNat ({ (a1.c.aG.getD a0.toNat aH.zero) with bE:=false })).set a0.toNat ({ ((a1.c.aG.set a0.toNat ({ (a1.c.aG.getD a0.toNat aH.zero) with bE:=false })).getD a0.toNat aH.zero) with bF:={ bL.zero with  } })).getD a0.toNat aH.zero) with since:=0 }),a1.ev)
instance zcl6 (a0:Int) (a1:aW):OkM (zd9 a0 a1) 253 [.ptr 0 0 0,.int .i64 a0] [(0,⟨false,4,aW.enc aW.zero,[[.int .i64 a1.c.now,la a1.c.aF,.own 1 0 a1.c.aG.length,.own 2 0 a1.ev.length]]⟩),(1,sx a1.c.aG),(2,sx a1.ev)] 3 (fun r=>.tup []) (fun r=>[(0,⟨false,4,aW.enc aW.zero,[[.int .i64 r.1,la r.2.1,.own 1 0 r.2.2.1.length,.own 2 0 r.2.2.2.length]]⟩),(1,sx r.2.2.1),(2,sx r.2.2.2)]) 3:=okm (zd9.eq_1 a0 a1) (fun r=>[]) Tryz.f253 []
attribute [local irreducible] zd9
def zaF1 (j1:Unit):Option Bool :=
 some true
def zaF2 (a0 a1:List aU) (g1:Int):Option (Int⊕(Unit⊕Bool)) :=
 (if (decide (g1 < (a0.length:Int)))=true then
  gd (0≤g1∧g1 < (a0.length:Int)) <|
  gd (0≤g1∧g1 < (a1.length:Int)) <|
  (if (!decide (a0.getD g1.toNat aU.zero=a1.getD g1.toNat aU.zero))=true then
   some (.inr (.inr false))
  else
   some (.inl (i64.wrap (g1+1))))
 else
  some (.inr (.inl ())))
def ze6 (a0 a1:List aU):Option Bool :=
 (if (!decide ((a0.length:Int)=(a1.length:Int)))=true then
  some false
 else
  (zc0 (zaF2 a0 a1) 0).bind (fun|.inl z=>zaF1 z|.inr z=>some z))
@[reducible,instance] def zdM1 a0 a1:=mkJ (ze6 a0 a1) 0 (@zaF1.eq_1) fun (j1:Unit)=>⟨[],[],0⟩
@[reducible,instance] def zdM2 (a0 a1:List aU) {T:Type} (x:T):=mkL x (@zaF2.eq_1 a0 a1) fun (g1:Int)=>⟨[(0,la a0),(1,la a1),(5,.int .i64 g1)],[],0⟩
instance zcA3 (a0 a1:List aU):OkP (ze6 a0 a1) 121 [la a0,la a1] (fun r=>.bool r):=ok1 (ze6.eq_1 a0 a1) Tryz.f121 []
attribute [local irreducible] ze6
end
end Ab
end Go.Proofs.YtogpinppgncpmaaGreatDoor
