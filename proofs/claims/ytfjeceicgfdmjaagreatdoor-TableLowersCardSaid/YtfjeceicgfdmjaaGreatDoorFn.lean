/-
  Functions of the program,as Lean functions; what the program's code computes is what they say.
-/
import Derived.Test.YtfjeceicgfdmjaaGreatDoorFn4
namespace Go.Proofs.YtfjeceicgfdmjaaGreatDoor
namespace Ab
set_option linter.unusedSimpArgs false
set_option linter.unusedVariables false
set_option maxRecDepth 100000
set_option maxHeartbeats 1000000
attribute [local irreducible] ze6 zc7 zi3 zt0 zq1 zf7 zd5 zm5 zq2 zp9 zq3 zi4 zd4 zf8 ze7 zg1 zl1 zg5 zl7 zj4 zg2 zd9 zl9 zf4 zm7 zn4 zh0 zh8 zi8 zi5 zg6 zf9 zc3 zc0 zm8 zo1 zb4 zb5 zg0 zm9 zl2 zj5 zp6 zu2 zc4 zb6 zi6 zi9 zk3 zA8 zo2 zj0 zd7 zk6 zo3 zj1 zj2 zo4 zf5 zk7 zo5 zk8 zj6 zj3 zh1 zu3 zs2 zo6 zm3 zh5 zn0 zm1 zo7 zt3 zn1 zu4 zq4 zu5 zk4 zj7 zr2 zm4 zr3 zk5 zh2 zr4 zo8 zl5 zs3 zk9 zr5 zn5 zC2 zx0 zp7 zo9 zh3 zr6 zp0 zh4 zh6 zr7 zj8 zs4 ze2 zA1 zw3 zR1 zH5 zl0 zr8 zn8 zt7 zr9 zT3 zy4 zp1 zw4 zl6 zw6 zw7 zy5
noncomputable def zK5 (a0:Queue) (a1:Proc):Option (Queue×(List Hold)×Int) :=
 (zg6 a0).bind fun v1 =>
 (if (!v1)=true then
  some ({ Queue.zero with  },[],2)
 else
  (zm9 a0).bind fun v2 =>
  (zi6 v2 a1).bind fun v3 =>
  (if (!v3)=true then
   some ({ Queue.zero with  },[],10)
  else
   (zp1 a0).bind fun v4 =>
   (zy5 v4 a1).bind fun v5 =>
   some (v5.1,v5.2.1,v5.2.2.1)))
attribute [local irreducible] zK5
def zN7 (a0:Proc) (a1:ByteArray) (a2:Amount):Event :=
 (⟨3,a0,a1,a2⟩:Event)
theorem zbb9 (a0:Proc) (a1:ByteArray) (a2:Amount):PFn C 67 [.agg (Proc.enc a0),.str a1,.agg (Amount.enc a2)] (.agg (Event.enc (zN7 a0 a1 a2))):=by
 generalize h:zN7 a0 a1 a2=r
 refine za8 zet0 rfl fun E hG hN hK=>?_
 unfold zdA4
 unfold zN7 at h
 refine za0 (za1 hG ?_)
 refine za0 (za1 hG ?_)
 refine za7 ?_
 exact zf3 h
noncomputable def zaz1  (j1:(List Event)):Option ((List Event)) :=
 some j1
@[go_sem] def zeK1  (j1:(List Event)):St:=⟨[(2,.own 1 0 j1.length)],[(1,⟨false,7,(Event.enc Event.zero),j1.map Event.enc⟩)],2⟩
noncomputable def zQ0 (a0:ByteArray) (a1:List Hold) (g1:Int×(List Event)):Option ((Int×(List Event))⊕(((List Event)))) :=
 (if (decide (g1.1 < (a1.length:Int)))=true then
  gd (0≤g1.1∧g1.1 < (a1.length:Int)) <|
  gd (g1.2.length+1≤4294967296) <|
  some (.inl ((IntKind.i64.wrap (g1.1+1)),(g1.2++[(⟨1,(a1.getD g1.1.toNat Hold.zero).proc,a0,(a1.getD g1.1.toNat Hold.zero).amount⟩:Event)])))
 else
  some (.inr g1.2))
@[go_sem] def zeK2 (a0:ByteArray) (a1:List Hold) (g1:Int×(List Event)):St:=⟨[(0,.str a0),(2,.own 1 0 g1.2.length),(9,.sl (a1.map Hold.enc)),(10,.int .i64 (a1.length:Int)),(11,.int .i64 g1.1)],[(1,⟨false,7,(Event.enc Event.zero),g1.2.map Event.enc⟩)],2⟩
noncomputable def zv1 (a0:ByteArray) (a1:List Hold) (a2:List Event):Option ((List Event)) :=
 (zc1 (zQ0 a0 a1) (0,a2)).bind (fun z=>zaz1 z)
attribute [local irreducible] zv1
noncomputable def zaC3  (j1:(List Queue)×(List Event)):Option ((List Queue)×(List Event)) :=
 some (j1.1,j1.2)
@[go_sem] def zeK3  (j1:(List Queue)×(List Event)):St:=⟨[(6,.own 0 0 j1.1.length),(7,.own 1 0 j1.2.length)],[(0,⟨false,8,(Queue.enc Queue.zero),j1.1.map Queue.enc⟩),(1,⟨false,7,(Event.enc Event.zero),j1.2.map Event.enc⟩)],2⟩
noncomputable def zaf6 (a0:List Queue) (g1:Int×(List Queue)×(List Event)) (v3:Queue×(List Hold)×Int) (j2:(List Event)):Option ((Int×(List Queue)×(List Event))⊕(((List Queue)×(List Event)))) :=
 (zv1 (((a0.getD g1.1.toNat Queue.zero).resource).name) v3.2.1 j2).bind fun v5 =>
 gd (0≤g1.1∧g1.1 < ((g1.2.1.length:Nat):Int)) <|
 some (.inl ((IntKind.i64.wrap (g1.1+1)),(g1.2.1.set g1.1.toNat v3.1),v5))
@[go_sem] def zeK4 (a0:List Queue) (a1:Proc) (g1:Int×(List Queue)×(List Event)) (v3:Queue×(List Hold)×Int) (j2:(List Event)):St:=⟨[(3,.ptr 0 0 0),(6,.own 1 0 g1.2.1.length),(7,.own 2 0 j2.length),(8,.int .i64 g1.1),(9,.ptr 3 0 0),(10,.ptr 4 0 0),(11,.sl (v3.2.1.map Hold.enc)),(19,.sl (a0.map Queue.enc)),(20,.int .i64 (a0.length:Int)),(21,.int .i64 g1.1)],[(0,⟨false,3,(Proc.enc Proc.zero),[Proc.enc a1]⟩),(1,⟨false,8,(Queue.enc Queue.zero),g1.2.1.map Queue.enc⟩),(2,⟨false,7,(Event.enc Event.zero),j2.map Event.enc⟩),(3,⟨false,8,(Queue.enc Queue.zero),[Queue.enc (a0.getD g1.1.toNat Queue.zero)]⟩),(4,⟨false,8,(Queue.enc Queue.zero),[Queue.enc v3.1]⟩)],5⟩
noncomputable def zaC4 (a0:List Queue) (a1:Proc) (g1:Int×(List Queue)×(List Event)):Option ((Int×(List Queue)×(List Event))⊕(((List Queue)×(List Event)))) :=
 (if (decide (g1.1 < (a0.length:Int)))=true then
  gd (0≤g1.1∧g1.1 < (a0.length:Int)) <|
  (zK5 (a0.getD g1.1.toNat Queue.zero) a1).bind fun v3 =>
  (if (!decide (v3.2.2=0))=true then
   some (.inl ((IntKind.i64.wrap (g1.1+1)),g1.2.1,g1.2.2))
  else
   (zg5 (a0.getD g1.1.toNat Queue.zero) a1).bind fun v4 =>
   (if (!decide (v4={ Amount.zero with  }))=true then
    gd (g1.2.2.length+1≤4294967296) <|
    zaf6 a0 g1 v3 (g1.2.2++[(zN7 a1 (((a0.getD g1.1.toNat Queue.zero).resource).name) ({ Amount.zero with  }))])
   else
    zaf6 a0 g1 v3 g1.2.2))
 else
  some (.inr (g1.2.1,g1.2.2)))
@[go_sem] def zeK5 (a0:List Queue) (a1:Proc) (g1:Int×(List Queue)×(List Event)):St:=⟨[(3,.ptr 0 0 0),(6,.own 1 0 g1.2.1.length),(7,.own 2 0 g1.2.2.length),(19,.sl (a0.map Queue.enc)),(20,.int .i64 (a0.length:Int)),(21,.int .i64 g1.1)],[(0,⟨false,3,(Proc.enc Proc.zero),[Proc.enc a1]⟩),(1,⟨false,8,(Queue.enc Queue.zero),g1.2.1.map Queue.enc⟩),(2,⟨false,7,(Event.enc Event.zero),g1.2.2.map Event.enc⟩)],3⟩
noncomputable def zK6 (a0:List Queue) (a1:Proc):Option ((List Queue)×(List Event)) :=
 (zj5 a0).bind fun v1 =>
 (if (!v1)=true then
  some ([],[])
 else
  (zy4 a0 (-1) ({ Queue.zero with  })).bind fun v2 =>
  (zc1 (zaC4 a0 a1) (0,v2,[])).bind (fun z=>zaC3 z))
attribute [local irreducible] zK6
noncomputable def zaC5  (j1:(List Atom)):Option ((List Atom)) :=
 some j1
@[go_sem] def zeK6  (j1:(List Atom)):St:=⟨[(5,.own 0 0 j1.length)],[(0,⟨false,3,(Atom.enc Atom.zero),j1.map Atom.enc⟩)],1⟩
noncomputable def zaC6 (a0:List Queue) (a1:Proc) (g1:Int×(List Atom)):Option ((Int×(List Atom))⊕(((List Atom)))) :=
 (if (decide (g1.1 < (a0.length:Int)))=true then
  gd (0≤g1.1∧g1.1 < (a0.length:Int)) <|
  (zi9 (a0.getD g1.1.toNat Queue.zero) a1).bind fun v1 =>
  (if v1.2=true then
   gd (g1.2.length+1≤4294967296) <|
   some (.inl ((IntKind.i64.wrap (g1.1+1)),(g1.2++[(⟨((a0.getD g1.1.toNat Queue.zero).resource).name,v1.1⟩:Atom)])))
  else
   some (.inl ((IntKind.i64.wrap (g1.1+1)),g1.2)))
 else
  some (.inr g1.2))
@[go_sem] def zeK7 (a0:List Queue) (a1:Proc) (g1:Int×(List Atom)):St:=⟨[(3,.ptr 0 0 0),(5,.own 1 0 g1.2.length),(10,.sl (a0.map Queue.enc)),(11,.int .i64 (a0.length:Int)),(12,.int .i64 g1.1)],[(0,⟨false,3,(Proc.enc Proc.zero),[Proc.enc a1]⟩),(1,⟨false,3,(Atom.enc Atom.zero),g1.2.map Atom.enc⟩)],2⟩
noncomputable def zT4 (a0:List Queue) (a1:Proc):Option ((List Atom)) :=
 (zc1 (zaC6 a0 a1) (0,[])).bind (fun z=>zaC5 z)
attribute [local irreducible] zT4
noncomputable def zR2 (a0:Queue) (a1:Proc):Option (Bool) :=
 (zk9 a0 a1).bind fun v1 =>
 ((if (!v1.2)=true then zn5 a0 a1 else some (Amount.zero))).bind fun v2 =>
 some (v1.2||(!(zc9 v2)))
attribute [local irreducible] zR2
noncomputable def zK7 (a0:Queue) (a1:Proc):Option (Queue×(List Hold)×Int) :=
 (zj7 a0).bind fun v1 =>
 (if (!v1)=true then
  some ({ Queue.zero with  },[],2)
 else
  (zR2 a0 a1).bind fun v2 =>
  (if (!v2)=true then
   some ({ Queue.zero with  },[],10)
  else
   (zp7 a0).bind fun v3 =>
   (zq4 v3.holds a1 ({ Amount.zero with  })).bind fun v4 =>
   (zl0 (({ v3 with holds:=v4 }).converts) a1).bind fun v5 =>
   (zl0 (({ { v3 with holds:=v4 } with converts:=v5.1 }).waits) a1).bind fun v6 =>
   (zh3 ({ { { v3 with holds:=v4 } with converts:=v5.1 } with waits:=v6.1 })).bind fun v7 =>
   some (v7.1,v7.2.1,v7.2.2)))
attribute [local irreducible] zK7
noncomputable def zaC7  (j1:(List Queue)×(List Event)):Option ((List Queue)×(List Event)) :=
 some (j1.1,j1.2)
@[go_sem] def zeK8  (j1:(List Queue)×(List Event)):St:=⟨[(6,.own 0 0 j1.1.length),(7,.own 1 0 j1.2.length)],[(0,⟨false,8,(Queue.enc Queue.zero),j1.1.map Queue.enc⟩),(1,⟨false,7,(Event.enc Event.zero),j1.2.map Event.enc⟩)],2⟩
noncomputable def zaf7 (a1:Proc) (g1:Int×(List Queue)×(List Event)) (j2:(List Event)):Option ((Int×(List Queue)×(List Event))⊕(((List Queue)×(List Event)))) :=
 gd (0≤g1.1∧g1.1 < ((g1.2.1.length:Nat):Int)) <|
 (zK7 (g1.2.1.getD g1.1.toNat Queue.zero) a1).bind fun v4 =>
 gd (0≤g1.1∧g1.1 < ((g1.2.1.length:Nat):Int)) <|
 (zh6 v4.1.resource.name v4.2.1).bind fun v5 =>
 gd (j2.length+v5.length≤4294967296) <|
 some (.inl ((IntKind.i64.wrap (g1.1+1)),(g1.2.1.set g1.1.toNat v4.1),(j2++v5)))
@[go_sem] def zeK9 (a1:Proc) (g1:Int×(List Queue)×(List Event)) (j2:(List Event)):St:=⟨[(3,.ptr 0 0 0),(6,.own 1 0 g1.2.1.length),(7,.own 2 0 j2.length),(8,.int .i64 g1.1)],[(0,⟨false,3,(Proc.enc Proc.zero),[Proc.enc a1]⟩),(1,⟨false,8,(Queue.enc Queue.zero),g1.2.1.map Queue.enc⟩),(2,⟨false,7,(Event.enc Event.zero),j2.map Event.enc⟩)],3⟩
noncomputable def zaC8 (a1:Proc) (g1:Int×(List Queue)×(List Event)):Option ((Int×(List Queue)×(List Event))⊕(((List Queue)×(List Event)))) :=
 (if (decide (g1.1 < ((g1.2.1.length:Nat):Int)))=true then
  gd (0≤g1.1∧g1.1 < ((g1.2.1.length:Nat):Int)) <|
  (zR2 (g1.2.1.getD g1.1.toNat Queue.zero) a1).bind fun v2 =>
  (if (!v2)=true then
   some (.inl ((IntKind.i64.wrap (g1.1+1)),g1.2.1,g1.2.2))
  else
   gd (0≤g1.1∧g1.1 < ((g1.2.1.length:Nat):Int)) <|
   (zn5 (g1.2.1.getD g1.1.toNat Queue.zero) a1).bind fun v3 =>
   (if (!(zc9 v3))=true then
    gd (0≤g1.1∧g1.1 < ((g1.2.1.length:Nat):Int)) <|
    gd (g1.2.2.length+1≤4294967296) <|
    zaf7 a1 g1 (g1.2.2++[{ Event.zero with kind:=3,proc:=a1,name:=((g1.2.1.getD g1.1.toNat Queue.zero).resource).name }])
   else
    zaf7 a1 g1 g1.2.2))
 else
  some (.inr (g1.2.1,g1.2.2)))
@[go_sem] def zeL0 (a1:Proc) (g1:Int×(List Queue)×(List Event)):St:=⟨[(3,.ptr 0 0 0),(6,.own 1 0 g1.2.1.length),(7,.own 2 0 g1.2.2.length),(8,.int .i64 g1.1)],[(0,⟨false,3,(Proc.enc Proc.zero),[Proc.enc a1]⟩),(1,⟨false,8,(Queue.enc Queue.zero),g1.2.1.map Queue.enc⟩),(2,⟨false,7,(Event.enc Event.zero),g1.2.2.map Event.enc⟩)],3⟩
noncomputable def zK8 (a0:List Queue) (a1:Proc):Option ((List Queue)×(List Event)) :=
 (zl5 a0).bind fun v1 =>
 (if (!v1)=true then
  some ([],[])
 else
  gd (a0.length≤4294967296) <|
  (zc1 (zaC8 a1) (0,a0,[])).bind (fun z=>zaC7 z))
attribute [local irreducible] zK8
noncomputable def zaH1  (j1:(List Queue)×(List Event)):Option ((List Queue)×(List Event)) :=
 some (j1.1,j1.2)
@[go_sem] def zeL1  (j1:(List Queue)×(List Event)):St:=⟨[(8,.sl (j1.1.map Queue.enc)),(9,.own 0 0 j1.2.length)],[(0,⟨false,7,(Event.enc Event.zero),j1.2.map Event.enc⟩)],1⟩
noncomputable def zaH2 (a1:Int) (a2:Int) (v3:(List Proc)) (g1:(List Queue)×Int×(List Event)):Option (((List Queue)×Int×(List Event))⊕(((List Queue)×(List Event)))) :=
 (if (decide (g1.2.1 < (v3.length:Int)))=true then
  gd (0≤g1.2.1∧g1.2.1 < (v3.length:Int)) <|
  (if ((!decide ((v3.getD g1.2.1.toNat Proc.zero).site=a1))||(decide (a2≤(v3.getD g1.2.1.toNat Proc.zero).inc)))=true then
   some (.inl (g1.1,(IntKind.i64.wrap (g1.2.1+1)),g1.2.2))
  else
   (zK6 g1.1 (v3.getD g1.2.1.toNat Proc.zero)).bind fun v4 =>
   gd (g1.2.2.length+v4.2.length≤4294967296) <|
   some (.inl (v4.1,(IntKind.i64.wrap (g1.2.1+1)),(g1.2.2++v4.2))))
 else
  some (.inr (g1.1,g1.2.2)))
@[go_sem] def zeL2 (a1:Int) (a2:Int) (v3:(List Proc)) (g1:(List Queue)×Int×(List Event)):St:=⟨[(1,.int .i64 a1),(2,.int .i64 a2),(8,.sl (g1.1.map Queue.enc)),(9,.own 0 0 g1.2.2.length),(21,.sl (v3.map Proc.enc)),(22,.int .i64 (v3.length:Int)),(23,.int .i64 g1.2.1)],[(0,⟨false,7,(Event.enc Event.zero),g1.2.2.map Event.enc⟩)],1⟩
noncomputable def zW8 (a0:List Queue) (a1:Int) (a2:Int):Option ((List Queue)×(List Event)) :=
 (zj5 a0).bind fun v1 =>
 (if (!v1)=true then
  some ([],[])
 else
  (zf5 a0 (-1) ({ Queue.zero with  })).bind fun v2 =>
  (zl2 a0).bind fun v3 =>
  (zc1 (zaH2 a1 a2 v3) (v2,0,[])).bind (fun z=>zaH1 z))
attribute [local irreducible] zW8
noncomputable def zaH3  (j1:(List Queue)×(List Event)):Option ((List Queue)×(List Event)) :=
 some (j1.1,j1.2)
@[go_sem] def zeL3  (j1:(List Queue)×(List Event)):St:=⟨[(0,.sl (j1.1.map Queue.enc)),(8,.own 0 0 j1.2.length)],[(0,⟨false,7,(Event.enc Event.zero),j1.2.map Event.enc⟩)],1⟩
noncomputable def zaH4 (a1:Int) (a2:Int) (v2:(List Proc)) (g1:(List Queue)×Int×(List Event)):Option (((List Queue)×Int×(List Event))⊕(((List Queue)×(List Event)))) :=
 (if (decide (g1.2.1 < (v2.length:Int)))=true then
  gd (0≤g1.2.1∧g1.2.1 < (v2.length:Int)) <|
  gd ((decide ((v2.getD g1.2.1.toNat Proc.zero).site=a1))=true→0≤g1.2.1∧g1.2.1 < (v2.length:Int)) <|
  (if ((decide ((v2.getD g1.2.1.toNat Proc.zero).site=a1))&&(decide ((v2.getD g1.2.1.toNat Proc.zero).inc < a2)))=true then
   gd (0≤g1.2.1∧g1.2.1 < (v2.length:Int)) <|
   (zK8 g1.1 (v2.getD g1.2.1.toNat Proc.zero)).bind fun v3 =>
   gd (g1.2.2.length+v3.2.length≤4294967296) <|
   some (.inl (v3.1,(IntKind.i64.wrap (g1.2.1+1)),(g1.2.2++v3.2)))
  else
   some (.inl (g1.1,(IntKind.i64.wrap (g1.2.1+1)),g1.2.2)))
 else
  some (.inr (g1.1,g1.2.2)))
@[go_sem] def zeL4 (a1:Int) (a2:Int) (v2:(List Proc)) (g1:(List Queue)×Int×(List Event)):St:=⟨[(0,.sl (g1.1.map Queue.enc)),(1,.int .i64 a1),(2,.int .i64 a2),(8,.own 0 0 g1.2.2.length),(9,.sl (v2.map Proc.enc)),(10,.int .i64 g1.2.1)],[(0,⟨false,7,(Event.enc Event.zero),g1.2.2.map Event.enc⟩)],1⟩
noncomputable def zW9 (a0:List Queue) (a1:Int) (a2:Int):Option ((List Queue)×(List Event)) :=
 (zl5 a0).bind fun v1 =>
 (if (!v1)=true then
  some ([],[])
 else
  (zo8 a0).bind fun v2 =>
  (zc1 (zaH4 a1 a2 v2) (a0,0,[])).bind (fun z=>zaH3 z))
attribute [local irreducible] zW9
noncomputable def zar1  (j1:Unit):Option (Bool) :=
 some true
@[go_sem] def zeL5  (j1:Unit):St:=⟨[],[],0⟩
noncomputable def zar2 (a0:List Proc) (a1:List Proc) (g1:Int):Option ((Int)⊕((Unit)⊕(Bool))) :=
 (if (decide (g1 < (a0.length:Int)))=true then
  gd (0≤g1∧g1 < (a0.length:Int)) <|
  gd (0≤g1∧g1 < (a1.length:Int)) <|
  (if (!decide ((a0.getD g1.toNat Proc.zero)=(a1.getD g1.toNat Proc.zero)))=true then
   some (.inr (.inr false))
  else
   some (.inl (IntKind.i64.wrap (g1+1))))
 else
  some (.inr (.inl ())))
@[go_sem] def zeL6 (a0:List Proc) (a1:List Proc) (g1:Int):St:=⟨[(0,.sl (a0.map Proc.enc)),(1,.sl (a1.map Proc.enc)),(5,.int .i64 g1)],[],0⟩
noncomputable def zI6 (a0:List Proc) (a1:List Proc):Option (Bool) :=
 (if (!decide ((a0.length:Int)=(a1.length:Int)))=true then
  some false
 else
  (zc1 (zar2 a0 a1) 0).bind (fun | .inl z=>zar1 z | .inr z=>some z))
attribute [local irreducible] zI6
noncomputable def zn9 (a0:Queue) (a1:Proc):Option (Queue×Proc) :=
 (zl6 a0.converts a1).bind fun v1 =>
 some ({ a0 with converts:=v1.1 },a1)
theorem zar3 (a0:Queue) (a1:Proc) (r:Queue×Proc) (h:zn9 a0 a1=some r):MFn C 121 [.ptr 0 0 0,.ptr 1 0 0] [(0,⟨false,8,(Queue.enc Queue.zero),[Queue.enc a0]⟩),(1,⟨false,3,(Proc.enc Proc.zero),[Proc.enc a1]⟩)] 2 (.tup []) [(0,⟨false,8,(Queue.enc Queue.zero),[Queue.enc r.1]⟩),(1,⟨false,3,(Proc.enc Proc.zero),[Proc.enc r.2]⟩)] 2:=by
 refine zs9 (rl:=[]) zeB0 rfl rfl rfl rfl fun E hG hN hK=>?_
 unfold zdA6
 unfold zn9 at h
 refine za1 hG ?_
 obtain ⟨v1,hv1,h⟩:=za2 h
 refine za6 (fun hg=>zaq9 a0.converts a1 _ (hv1)) ?_
 exact zF3 [(0,0),(1,1)] h
attribute [local irreducible] zn9
noncomputable def zo0 (a0:Queue) (a1:Proc):Option (Queue×Proc) :=
 (zl6 a0.waits a1).bind fun v1 =>
 some ({ a0 with waits:=v1.1 },a1)
theorem zar4 (a0:Queue) (a1:Proc) (r:Queue×Proc) (h:zo0 a0 a1=some r):MFn C 122 [.ptr 0 0 0,.ptr 1 0 0] [(0,⟨false,8,(Queue.enc Queue.zero),[Queue.enc a0]⟩),(1,⟨false,3,(Proc.enc Proc.zero),[Proc.enc a1]⟩)] 2 (.tup []) [(0,⟨false,8,(Queue.enc Queue.zero),[Queue.enc r.1]⟩),(1,⟨false,3,(Proc.enc Proc.zero),[Proc.enc r.2]⟩)] 2:=by
 refine zs9 (rl:=[]) zeB1 rfl rfl rfl rfl fun E hG hN hK=>?_
 unfold zdA8
 unfold zo0 at h
 refine za1 hG ?_
 obtain ⟨v1,hv1,h⟩:=za2 h
 refine za6 (fun hg=>zaq9 a0.waits a1 _ (hv1)) ?_
 exact zF3 [(0,0),(1,1)] h
attribute [local irreducible] zo0
noncomputable def zC5  (j1:Queue×Proc):Option (Queue×(List Hold)×Int×Queue×Proc) :=
 (zd7 j1.1).bind fun v1 =>
 some ({ v1.2 with gen:=(zm0 v1.2.gen) },v1.1,0,{ v1.2 with gen:=(zm0 v1.2.gen) },j1.2)
@[go_sem] def zdZ3  (j1:Queue×Proc):St:=⟨[(0,.ptr 0 0 0),(4,.ptr 3 0 0)],[(0,⟨false,8,(Queue.enc Queue.zero),[Queue.enc j1.1]⟩),(1,⟨false,1,[A.any],[[.clo 121 [.ptr 0 0 0,.ptr 2 0 0]],[.clo 122 [.ptr 0 0 0,.ptr 2 0 0]]]⟩),(2,⟨false,3,(Proc.enc Proc.zero),[Proc.enc j1.2]⟩),(3,⟨false,8,(Queue.enc Queue.zero),[Queue.enc Queue.zero]⟩)],4⟩
noncomputable def zq5 (a0:Queue) (a1:Proc):Option (Queue×(List Hold)×Int×Queue×Proc) :=
 gd (0≤0∧0 < (2:Int)) <|
 (zn9 a0 a1).bind fun v2 =>
 gd (0≤1∧1 < (2:Int)) <|
 (zo0 v2.1 v2.2).bind fun v3 =>
 zC5 (v3.1,v3.2)
theorem zaw1 (a0:Queue) (a1:Proc) (r:Queue×(List Hold)×Int×Queue×Proc) (h:zq5 a0 a1=some r):MFn C 91 [.ptr 0 0 0,.own 1 0 2] [(0,⟨false,8,(Queue.enc Queue.zero),[Queue.enc a0]⟩),(1,⟨false,1,[A.any],[[.clo 121 [.ptr 0 0 0,.ptr 2 0 0]],[.clo 122 [.ptr 0 0 0,.ptr 2 0 0]]]⟩),(2,⟨false,3,(Proc.enc Proc.zero),[Proc.enc a1]⟩)] 3 (.tup [.agg (Queue.enc r.1),.sl (r.2.1.map Hold.enc),.int .i64 r.2.2.1]) [(0,⟨false,8,(Queue.enc Queue.zero),[Queue.enc r.2.2.2.1]⟩),(1,⟨false,1,[A.any],[[.clo 121 [.ptr 0 0 0,.ptr 2 0 0]],[.clo 122 [.ptr 0 0 0,.ptr 2 0 0]]]⟩),(2,⟨false,3,(Proc.enc Proc.zero),[Proc.enc r.2.2.2.2]⟩)] 3:=by
 refine zs9 (rl:=[.agg (Queue.enc r.1),.sl (r.2.1.map Hold.enc),.int .i64 r.2.2.1]) zeB2 rfl rfl rfl rfl fun E hG hN hK=>?_
 unfold zdB8
 unfold zq5 at h
 refine za0 (za1 hG ?_)
 refine za0 (za0 (za1 hG ?_))
 refine zb7 (zdZ3) (fun v=>zC5 v=some r) ?_ ?_
 · intro j1 h
   unfold zC5 at h
   refine g_st ?_
   refine za0 (za1 hG ?_)
   obtain ⟨v1,hv1,h⟩:=za2 h
   refine zB6 [(0,0)] [] [0] (zD4 j1.1 _ hv1) rfl rfl ?_
   refine za0 (za1 hG ?_)
   refine za6 (fun hg=>zW7 v1.2.gen) ?_
   refine za0 (za1 hG ?_)
   refine za7 ?_
   exact zF3 [(0,0),(1,1),(2,2)] h
 refine zau2 4 ?_
 refine zaa0 ?_
 refine za0 (za1 hG ?_)
 refine za0 ?_
 refine zaB6 rfl hG ?_
 refine za5 ?_
 refine za0 (zb9 (za0 ?_))
 obtain ⟨hb2,h⟩:=za3 h
 refine za1 hG ?_
 refine za1 hG ?_
 obtain ⟨v2,hv2,h⟩:=za2 h
 refine zB6 [(0,0),(1,2)] [] [0,1] (zar3 a0 a1 _ hv2) rfl rfl ?_
 refine za1 hG ?_
 refine zaa0 ?_
 refine za0 (za1 hG ?_)
 refine za0 ?_
 refine zaB6 rfl hG ?_
 refine za5 ?_
 refine za0 (zb9 (za0 ?_))
 obtain ⟨hb1,h⟩:=za3 h
 refine za1 hG ?_
 refine za1 hG ?_
 obtain ⟨v3,hv3,h⟩:=za2 h
 refine zB6 [(0,0),(1,2)] [] [0,1] (zar4 v2.1 v2.2 _ hv3) rfl rfl ?_
 refine za1 hG ?_
 refine zaa0 ?_
 refine za0 (za1 hG ?_)
 refine za0 ?_
 refine zaQ1 rfl hG ?_
 refine zc5 ?_
 exact zc8 hK [(0,0),(1,1),(2,2),(3,3)] (v3.1,v3.2) (by exact h)
attribute [local irreducible] zq5
noncomputable def zu6 (a0:Queue) (a1:Proc):Option (Queue×(List Hold)×Int) :=
 (zg6 a0).bind fun v1 =>
 (if (!v1)=true then
  some ({ Queue.zero with  },[],2)
 else
  (zi9 a0 a1).bind fun v2 =>
  (if (!v2.2)=true then
   some ({ Queue.zero with  },[],10)
  else
   (zp1 a0).bind fun v3 =>
   (zq5 v3 a1).bind fun v4 =>
   some (v4.1,v4.2.1,v4.2.2.1)))
theorem zaN9 (a0:Queue) (a1:Proc) (r:Queue×(List Hold)×Int) (h:zu6 a0 a1=some r):PFn C 78 [.agg (Queue.enc a0),.agg (Proc.enc a1)] (.tup [.agg (Queue.enc r.1),.sl (r.2.1.map Hold.enc),.int .i64 r.2.2]):=by
 refine za8 zeB3 rfl fun E hG hN hK=>?_
 unfold zdC7
 unfold zu6 at h
 refine za0 (za1 hG ?_)
 refine za0 (za0 (za1 hG ?_))
 obtain ⟨v1,hv1,h⟩:=za2 h
 refine za6 (fun hg=>zS3 a0 _ (hv1)) ?_
 refine za4 rfl hG h (fun _ h=>?_) (fun _ h=>?_)
 · refine za0 (za1 hG ?_)
   refine za7 ?_
   exact zb0 h
 refine za5 ?_
 refine za0 (za0 (za1 hG ?_))
 obtain ⟨v2,hv2,h⟩:=za2 h
 refine za6 (fun hg=>zan6 a0 a1 _ (hv2)) ?_
 refine za0 (za1 hG ?_)
 refine za4 rfl hG h (fun _ h=>?_) (fun _ h=>?_)
 · refine za0 (za1 hG ?_)
   refine za7 ?_
   exact zb0 h
 refine za5 ?_
 refine za0 (za1 hG ?_)
 obtain ⟨v3,hv3,h⟩:=za2 h
 refine za6 (fun hg=>zaq8 a0 _ (hv3)) ?_
 refine za0 (za1 hG ?_)
 obtain ⟨v4,hv4,h⟩:=za2 h
 refine zB6 [(0,4),(1,5),(2,1)] [] [0,1,2] (zaw1 v3 a1 _ hv4) rfl rfl ?_
 refine za7 ?_
 exact zb0 h
attribute [local irreducible] zu6
noncomputable def zu7 (a0:List Queue) (a1:Proc) (a2:ByteArray):Option ((List Queue)×(List Event)×Int) :=
 (zu2 a0 a2).bind fun v1 =>
 (if (!decide (v1.2=0))=true then
  some ([],[],v1.2)
 else
  gd (0≤v1.1∧v1.1 < (a0.length:Int)) <|
  (zu6 (a0.getD v1.1.toNat Queue.zero) a1).bind fun v2 =>
  (if (!decide (v2.2.2=0))=true then
   some ([],[],v2.2.2)
  else
   (zf5 a0 v1.1 v2.1).bind fun v3 =>
   (zk7 a2 v2.2.1).bind fun v4 =>
   some (v3,v4,0)))
theorem zaO0 (a0:List Queue) (a1:Proc) (a2:ByteArray) (r:(List Queue)×(List Event)×Int) (h:zu7 a0 a1 a2=some r):PFn C 41 [.sl (a0.map Queue.enc),.agg (Proc.enc a1),.str a2] (.tup [.sl (r.1.map Queue.enc),.sl (r.2.1.map Event.enc),.int .i64 r.2.2]):=by
 refine za8 zeB4 rfl fun E hG hN hK=>?_
 unfold zdD6
 unfold zu7 at h
 refine za0 (za1 hG ?_)
 refine za0 (za1 hG ?_)
 obtain ⟨v1,hv1,h⟩:=za2 h
 refine za6 (fun hg=>zaq1 a0 a2 _ (hv1)) ?_
 refine za0 (za0 (za1 hG ?_))
 refine za4 rfl hG h (fun _ h=>?_) (fun _ h=>?_)
 · refine za0 (za1 hG ?_)
   refine za7 ?_
   exact zb0 h
 refine za5 ?_
 refine za0 ?_
 obtain ⟨hb1,h⟩:=za3 h
 refine zF2 zd6 hG ?_
 obtain ⟨v2,hv2,h⟩:=za2 h
 refine zz7 (fun hg=>zaN9 (a0.getD v1.1.toNat Queue.zero) a1 _ (hv2)) ?_
 refine za0 (za0 (za1 hG ?_))
 refine za4 rfl hG h (fun _ h=>?_) (fun _ h=>?_)
 · refine za0 (za1 hG ?_)
   refine za7 ?_
   exact zb0 h
 refine za5 ?_
 refine za0 (za1 hG ?_)
 obtain ⟨v3,hv3,h⟩:=za2 h
 refine za6 (fun hg=>zM4 a0 v1.1 v2.1 _ (hv3)) ?_
 obtain ⟨v4,hv4,h⟩:=za2 h
 refine zB6 [] [] [] (zaj1 a2 v2.2.1 _ hv4) rfl rfl ?_
 refine za7 ?_
 exact zb0 h
attribute [local irreducible] zu7
noncomputable def zq6 (a0:Queue) (a1:Proc) (a2:Amount):Option (Queue×Proc×Amount) :=
 (zh8 a0.holds a1 a2).bind fun v1 =>
 some ({ a0 with holds:=v1 },a1,a2)
theorem zaw2 (a0:Queue) (a1:Proc) (a2:Amount) (r:Queue×Proc×Amount) (h:zq6 a0 a1 a2=some r):MFn C 124 [.ptr 0 0 0,.ptr 1 0 0,.ptr 2 0 0] [(0,⟨false,8,(Queue.enc Queue.zero),[Queue.enc a0]⟩),(1,⟨false,3,(Proc.enc Proc.zero),[Proc.enc a1]⟩),(2,⟨false,2,(Amount.enc Amount.zero),[Amount.enc a2]⟩)] 3 (.tup []) [(0,⟨false,8,(Queue.enc Queue.zero),[Queue.enc r.1]⟩),(1,⟨false,3,(Proc.enc Proc.zero),[Proc.enc r.2.1]⟩),(2,⟨false,2,(Amount.enc Amount.zero),[Amount.enc r.2.2]⟩)] 3:=by
 refine zs9 (rl:=[]) zeB5 rfl rfl rfl rfl fun E hG hN hK=>?_
 unfold zdD8
 unfold zq6 at h
 refine za1 hG ?_
 obtain ⟨v1,hv1,h⟩:=za2 h
 refine za6 (fun hg=>zab9 a0.holds a1 a2 _ (hv1)) ?_
 exact zF3 [(0,0),(1,1),(2,2)] h
attribute [local irreducible] zq6
noncomputable def zC6  (j1:Queue×Proc×Amount):Option (Queue×(List Hold)×Int×Queue×Proc×Amount) :=
 (zd7 j1.1).bind fun v1 =>
 some ({ v1.2 with gen:=(zm0 v1.2.gen) },v1.1,0,{ v1.2 with gen:=(zm0 v1.2.gen) },j1.2.1,j1.2.2)
@[go_sem] def zdZ4  (j1:Queue×Proc×Amount):St:=⟨[(0,.ptr 0 0 0),(4,.ptr 4 0 0)],[(0,⟨false,8,(Queue.enc Queue.zero),[Queue.enc j1.1]⟩),(1,⟨false,1,[A.any],[[.clo 124 [.ptr 0 0 0,.ptr 2 0 0,.ptr 3 0 0]]]⟩),(2,⟨false,3,(Proc.enc Proc.zero),[Proc.enc j1.2.1]⟩),(3,⟨false,2,(Amount.enc Amount.zero),[Amount.enc j1.2.2]⟩),(4,⟨false,8,(Queue.enc Queue.zero),[Queue.enc Queue.zero]⟩)],5⟩
noncomputable def zq7 (a0:Queue) (a1:Proc) (a2:Amount):Option (Queue×(List Hold)×Int×Queue×Proc×Amount) :=
 gd (0≤0∧0 < (1:Int)) <|
 (zq6 a0 a1 a2).bind fun v2 =>
 zC6 (v2.1,v2.2.1,v2.2.2)
theorem zaw3 (a0:Queue) (a1:Proc) (a2:Amount) (r:Queue×(List Hold)×Int×Queue×Proc×Amount) (h:zq7 a0 a1 a2=some r):MFn C 91 [.ptr 0 0 0,.own 1 0 1] [(0,⟨false,8,(Queue.enc Queue.zero),[Queue.enc a0]⟩),(1,⟨false,1,[A.any],[[.clo 124 [.ptr 0 0 0,.ptr 2 0 0,.ptr 3 0 0]]]⟩),(2,⟨false,3,(Proc.enc Proc.zero),[Proc.enc a1]⟩),(3,⟨false,2,(Amount.enc Amount.zero),[Amount.enc a2]⟩)] 4 (.tup [.agg (Queue.enc r.1),.sl (r.2.1.map Hold.enc),.int .i64 r.2.2.1]) [(0,⟨false,8,(Queue.enc Queue.zero),[Queue.enc r.2.2.2.1]⟩),(1,⟨false,1,[A.any],[[.clo 124 [.ptr 0 0 0,.ptr 2 0 0,.ptr 3 0 0]]]⟩),(2,⟨false,3,(Proc.enc Proc.zero),[Proc.enc r.2.2.2.2.1]⟩),(3,⟨false,2,(Amount.enc Amount.zero),[Amount.enc r.2.2.2.2.2]⟩)] 4:=by
 refine zs9 (rl:=[.agg (Queue.enc r.1),.sl (r.2.1.map Hold.enc),.int .i64 r.2.2.1]) zeB6 rfl rfl rfl rfl fun E hG hN hK=>?_
 unfold zdE8
 unfold zq7 at h
 refine za0 (za1 hG ?_)
 refine za0 (za0 (za1 hG ?_))
 refine zb7 (zdZ4) (fun v=>zC6 v=some r) ?_ ?_
 · intro j1 h
   unfold zC6 at h
   refine g_st ?_
   refine za0 (za1 hG ?_)
   obtain ⟨v1,hv1,h⟩:=za2 h
   refine zB6 [(0,0)] [] [0] (zD4 j1.1 _ hv1) rfl rfl ?_
   refine za0 (za1 hG ?_)
   refine za6 (fun hg=>zW7 v1.2.gen) ?_
   refine za0 (za1 hG ?_)
   refine za7 ?_
   exact zF3 [(0,0),(1,1),(2,2),(3,3)] h
 refine zau2 3 ?_
 refine zaa0 ?_
 refine za0 (za1 hG ?_)
 refine za0 ?_
 refine zaB6 rfl hG ?_
 refine za5 ?_
 refine za0 (zb9 (za0 ?_))
 obtain ⟨hb1,h⟩:=za3 h
 refine za1 hG ?_
 refine za1 hG ?_
 obtain ⟨v2,hv2,h⟩:=za2 h
 refine zB6 [(0,0),(1,2),(2,3)] [] [0,1,2] (zaw2 a0 a1 a2 _ hv2) rfl rfl ?_
 refine za1 hG ?_
 refine zaa0 ?_
 refine za0 (za1 hG ?_)
 refine za0 ?_
 refine zaQ1 rfl hG ?_
 refine zc5 ?_
 exact zc8 hK [(0,0),(1,1),(2,2),(3,3),(4,4)] (v2.1,v2.2.1,v2.2.2) (by exact h)
attribute [local irreducible] zq7
noncomputable def zx1 (a0:Queue) (a1:Proc) (a2:Amount):Option (Queue×(List Hold)×Int) :=
 (zg6 a0).bind fun v1 =>
 (if (!v1)=true then
  some ({ Queue.zero with  },[],2)
 else
  (zg5 a0 a1).bind fun v2 =>
  (if (zb8 v2)=true then
   some ({ Queue.zero with  },[],10)
  else
   (zl7 a0.converts a1).bind fun v3 =>
   (if (decide (0≤v3))=true then
    some ({ Queue.zero with  },[],14)
   else
    (zg2 a0.resource v2 a2).bind fun v4 =>
    (if (!v4)=true then
     some ({ Queue.zero with  },[],12)
    else
     (zp1 a0).bind fun v5 =>
     (if (decide (a2=v2))=true then
      some (v5,[],0)
     else
      (zq7 v5 a1 a2).bind fun v6 =>
      some (v6.1,v6.2.1,v6.2.2.1))))))
theorem zaW2 (a0:Queue) (a1:Proc) (a2:Amount) (r:Queue×(List Hold)×Int) (h:zx1 a0 a1 a2=some r):PFn C 80 [.agg (Queue.enc a0),.agg (Proc.enc a1),.agg (Amount.enc a2)] (.tup [.agg (Queue.enc r.1),.sl (r.2.1.map Hold.enc),.int .i64 r.2.2]):=by
 refine za8 zeB7 rfl fun E hG hN hK=>?_
 unfold zdF9
 unfold zx1 at h
 refine za0 (za1 hG ?_)
 refine za0 (za0 (za1 hG ?_))
 obtain ⟨v1,hv1,h⟩:=za2 h
 refine za6 (fun hg=>zS3 a0 _ (hv1)) ?_
 refine za4 rfl hG h (fun _ h=>?_) (fun _ h=>?_)
 · refine za0 (za1 hG ?_)
   refine za7 ?_
   exact zb0 h
 refine za5 ?_
 refine za0 (za1 hG ?_)
 obtain ⟨v2,hv2,h⟩:=za2 h
 refine za6 (fun hg=>zH2 a0 a1 _ (hv2)) ?_
 refine za0 (za0 (za1 hG ?_))
 refine za6 (fun hg=>zn7 v2) ?_
 refine za4 rfl hG h (fun _ h=>?_) (fun _ h=>?_)
 · refine za0 (za1 hG ?_)
   refine za7 ?_
   exact zb0 h
 refine za5 ?_
 refine za0 (za0 (za1 hG ?_))
 obtain ⟨v3,hv3,h⟩:=za2 h
 refine za6 (fun hg=>zaa1 a0.converts a1 _ (hv3)) ?_
 refine za4 rfl hG h (fun _ h=>?_) (fun _ h=>?_)
 · refine za0 (za1 hG ?_)
   refine za7 ?_
   exact zb0 h
 refine za5 ?_
 refine za0 (za0 (za1 hG ?_))
 obtain ⟨v4,hv4,h⟩:=za2 h
 refine za6 (fun hg=>zV1 a0.resource v2 a2 _ (hv4)) ?_
 refine za4 rfl hG h (fun _ h=>?_) (fun _ h=>?_)
 · refine za0 (za1 hG ?_)
   refine za7 ?_
   exact zb0 h
 refine za5 ?_
 refine za0 (za1 hG ?_)
 obtain ⟨v5,hv5,h⟩:=za2 h
 refine za6 (fun hg=>zaq8 a0 _ (hv5)) ?_
 refine za0 (za0 (za1 hG ?_))
 refine za4 rfl hG h (fun _ h=>?_) (fun _ h=>?_)
 · refine za0 (za1 hG ?_)
   refine za7 ?_
   exact zb0 h
 refine za5 ?_
 refine za0 (za1 hG ?_)
 obtain ⟨v6,hv6,h⟩:=za2 h
 refine zB6 [(0,5),(1,6),(2,1),(3,2)] [] [0,1,2,3] (zaw3 v5 a1 a2 _ hv6) rfl rfl ?_
 refine za7 ?_
 exact zb0 h
attribute [local irreducible] zx1
noncomputable def zQ1  (j1:(List Event)):Option ((List Event)) :=
 some j1
@[go_sem] def zdZ5  (j1:(List Event)):St:=⟨[(2,.own 1 0 j1.length)],[(1,⟨false,7,(Event.enc Event.zero),j1.map Event.enc⟩)],2⟩
noncomputable def zad0 (a0:ByteArray) (a1:List Hold) (g1:Int×(List Event)):Option ((Int×(List Event))⊕(((List Event)))) :=
 (if (decide (g1.1 < (a1.length:Int)))=true then
  gd (0≤g1.1∧g1.1 < (a1.length:Int)) <|
  gd (g1.2.length+1≤4294967296) <|
  some (.inl ((IntKind.i64.wrap (g1.1+1)),(g1.2++[(⟨1,(a1.getD g1.1.toNat Hold.zero).proc,a0,(a1.getD g1.1.toNat Hold.zero).amount⟩:Event)])))
 else
  some (.inr g1.2))
@[go_sem] def zdZ6 (a0:ByteArray) (a1:List Hold) (g1:Int×(List Event)):St:=⟨[(0,.str a0),(2,.own 1 0 g1.2.length),(9,.sl (a1.map Hold.enc)),(10,.int .i64 (a1.length:Int)),(11,.int .i64 g1.1)],[(1,⟨false,7,(Event.enc Event.zero),g1.2.map Event.enc⟩)],2⟩
noncomputable def zs5 (a0:ByteArray) (a1:List Hold) (a2:List Event):Option ((List Event)) :=
 (zc1 (zad0 a0 a1) (0,a2)).bind (fun z=>zQ1 z)
theorem zaC9 (a0:ByteArray) (a1:List Hold) (a2:List Event) (r:(List Event)) (h:zs5 a0 a1 a2=some r):MFn C 58 [.str a0,.sl (a1.map Hold.enc),.own 0 0 a2.length] [(0,⟨false,7,(Event.enc Event.zero),a2.map Event.enc⟩)] 1 (.sl (r.map Event.enc)) [] 1:=by
 refine zs9 (rl:=[.sl (r.map Event.enc)]) zeB8 rfl rfl rfl rfl fun E hG hN hK=>?_
 unfold zdG7
 unfold zs5 at h
 refine za0 (za1 hG ?_)
 refine za0 (za0 (za1 hG ?_))
 refine zb7 (zdZ5) (fun v=>zQ1 v=some r) ?_ ?_
 · intro j1 h
   unfold zQ1 at h
   refine g_st ?_
   refine za0 (za1 hG ?_)
   refine g_gh (.fz [1]) ?_
   refine za7 ?_
   exact zF3 [] h
 refine ze0 (zdZ6 a0 a1) hK [(1,0)] h (fun x_l1 h g1 y_l1 h_l1 hx_l1=>?_)
 unfold zad0 at h_l1
 refine g_st ?_
 refine za0 (za1 hG ?_)
 refine za0 ?_
 refine za4 rfl hG h_l1 (fun _ h_l1=>?_) (fun _ h_l1=>?_)
 · refine za5 ?_
   refine za0 (zb9 (za0 ?_))
   obtain ⟨hb2,h_l1⟩:=za3 h_l1
   refine za1 hG ?_
   obtain ⟨hb1,h_l1⟩:=za3 h_l1
   refine za1 hG ?_
   refine za1 hG ?_
   exact zd0 hK [(1,3)] h_l1
 refine zc5 ?_
 obtain rfl:=Option.some.inj h_l1
 have hx:=hx_l1 _ rfl
 subst hx
 try dsimp only at h
 exact zc8 hK [(1,1)] g1.2 (by exact h)
attribute [local irreducible] zs5
noncomputable def zx2 (a0:List Queue) (a1:Proc) (a2:Atom):Option ((List Queue)×(List Event)×Int) :=
 (zu2 a0 a2.name).bind fun v1 =>
 (if (!decide (v1.2=0))=true then
  some ([],[],v1.2)
 else
  gd (0≤v1.1∧v1.1 < (a0.length:Int)) <|
  (zx1 (a0.getD v1.1.toNat Queue.zero) a1 a2.amount).bind fun v2 =>
  (if (!decide (v2.2.2=0))=true then
   some ([],[],v2.2.2)
  else
   gd (0≤v1.1∧v1.1 < (a0.length:Int)) <|
   (zg5 (a0.getD v1.1.toNat Queue.zero) a1).bind fun v3 =>
   (if (decide (a2.amount=v3))=true then
    (zf5 a0 v1.1 v2.1).bind fun v4 =>
    some (v4,[],0)
   else
    (zf5 a0 v1.1 v2.1).bind fun v5 =>
    (zs5 a2.name v2.2.1 [(zN7 a1 a2.name a2.amount)]).bind fun v6 =>
    some (v5,v6,0))))
theorem zaW3 (a0:List Queue) (a1:Proc) (a2:Atom) (r:(List Queue)×(List Event)×Int) (h:zx2 a0 a1 a2=some r):PFn C 43 [.sl (a0.map Queue.enc),.agg (Proc.enc a1),.agg (Atom.enc a2)] (.tup [.sl (r.1.map Queue.enc),.sl (r.2.1.map Event.enc),.int .i64 r.2.2]):=by
 refine za8 zeB9 rfl fun E hG hN hK=>?_
 unfold zdH8
 unfold zx2 at h
 refine za0 (za1 hG ?_)
 refine za0 (za1 hG ?_)
 obtain ⟨v1,hv1,h⟩:=za2 h
 refine za6 (fun hg=>zaq1 a0 a2.name _ (hv1)) ?_
 refine za0 (za0 (za1 hG ?_))
 refine za4 rfl hG h (fun _ h=>?_) (fun _ h=>?_)
 · refine za0 (za1 hG ?_)
   refine za7 ?_
   exact zb0 h
 refine za5 ?_
 refine za0 ?_
 obtain ⟨hb2,h⟩:=za3 h
 refine zF2 zd6 hG ?_
 obtain ⟨v2,hv2,h⟩:=za2 h
 refine zz7 (fun hg=>zaW2 (a0.getD v1.1.toNat Queue.zero) a1 a2.amount _ (hv2)) ?_
 refine za0 (za0 (za1 hG ?_))
 refine za4 rfl hG h (fun _ h=>?_) (fun _ h=>?_)
 · refine za0 (za1 hG ?_)
   refine za7 ?_
   exact zb0 h
 refine za5 ?_
 refine za0 (za0 ?_)
 obtain ⟨hb1,h⟩:=za3 h
 refine zq9 zd6 hG ?_
 obtain ⟨v3,hv3,h⟩:=za2 h
 refine zi7 (fun hg=>zH2 (a0.getD v1.1.toNat Queue.zero) a1 _ (hv3)) ?_
 refine za4 rfl hG h (fun _ h=>?_) (fun _ h=>?_)
 · refine za0 (za1 hG ?_)
   obtain ⟨v4,hv4,h⟩:=za2 h
   refine za6 (fun hg=>zM4 a0 v1.1 v2.1 _ (hv4)) ?_
   refine za7 ?_
   exact zb0 h
 refine za5 ?_
 refine za0 (zF2 zd6 hG ?_)
 obtain ⟨v5,hv5,h⟩:=za2 h
 refine zz7 (fun hg=>zM4 a0 v1.1 v2.1 _ (hv5)) ?_
 refine zz7 (fun hg=>zbb9 a1 a2.name a2.amount) ?_
 obtain ⟨v6,hv6,h⟩:=za2 h
 refine zap4 [(0,3)] [] [0] (zaC9 a2.name v2.2.1 [(zN7 a1 a2.name a2.amount)] _ hv6) rfl rfl ?_
 refine za7 ?_
 exact zb0 h
attribute [local irreducible] zx2
noncomputable def zaH5  (j1:(List Proc)):Option ((List Proc)) :=
 some j1
@[go_sem] def zeL7  (j1:(List Proc)):St:=⟨[(3,.own 0 0 j1.length)],[(0,⟨false,3,(Proc.enc Proc.zero),j1.map Proc.enc⟩)],1⟩
noncomputable def zaH6 (a0:List Hold) (g1:Int×(List Proc)):Option ((Int×(List Proc))⊕(((List Proc)))) :=
 (if (decide (g1.1 < (a0.length:Int)))=true then
  gd (0≤g1.1∧g1.1 < (a0.length:Int)) <|
  gd (g1.2.length+1≤4294967296) <|
  some (.inl ((IntKind.i64.wrap (g1.1+1)),(g1.2++[(a0.getD g1.1.toNat Hold.zero).proc])))
 else
  some (.inr g1.2))
@[go_sem] def zeL8 (a0:List Hold) (g1:Int×(List Proc)):St:=⟨[(0,.sl (a0.map Hold.enc)),(3,.own 0 0 g1.2.length),(4,.int .i64 g1.1)],[(0,⟨false,3,(Proc.enc Proc.zero),g1.2.map Proc.enc⟩)],1⟩
noncomputable def zX0 (a0:List Hold):Option ((List Proc)) :=
 (zc1 (zaH6 a0) (0,[])).bind (fun z=>zaH5 z)
attribute [local irreducible] zX0
noncomputable def zad1  (j1:(List Proc)):Option ((List Proc)) :=
 some j1
@[go_sem] def zeL9  (j1:(List Proc)):St:=⟨[(3,.own 0 0 j1.length)],[(0,⟨false,3,(Proc.enc Proc.zero),j1.map Proc.enc⟩)],1⟩
noncomputable def zG4 (a0:List Hold) (g1:Int×(List Proc)):Option ((Int×(List Proc))⊕(((List Proc)))) :=
 (if (decide (g1.1 < (a0.length:Int)))=true then
  gd (0≤g1.1∧g1.1 < (a0.length:Int)) <|
  gd (g1.2.length+1≤4294967296) <|
  some (.inl ((IntKind.i64.wrap (g1.1+1)),(g1.2++[(a0.getD g1.1.toNat Hold.zero).proc])))
 else
  some (.inr g1.2))
@[go_sem] def zeM0 (a0:List Hold) (g1:Int×(List Proc)):St:=⟨[(3,.own 0 0 g1.2.length),(6,.sl (a0.map Hold.enc)),(7,.int .i64 (a0.length:Int)),(8,.int .i64 g1.1)],[(0,⟨false,3,(Proc.enc Proc.zero),g1.2.map Proc.enc⟩)],1⟩
noncomputable def zy8 (a0:List Hold):Option ((List Proc)) :=
 (zc1 (zG4 a0) (0,[])).bind (fun z=>zad1 z)
attribute [local irreducible] zy8
end Ab
end Go.Proofs.YtfjeceicgfdmjaaGreatDoor
