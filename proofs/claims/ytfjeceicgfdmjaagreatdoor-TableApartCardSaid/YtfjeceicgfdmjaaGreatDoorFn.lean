/-
  Functions of the program,as Lean functions; what the program's code computes is what they say.
-/
import Derived.Test.YtfjeceicgfdmjaaGreatDoorFn4
namespace Go.Proofs.YtfjeceicgfdmjaaGreatDoor
namespace Ab
set_option linter.unusedSimpArgs false
set_option linter.unusedVariables false
set_option maxRecDepth 100000
set_option maxHeartbeats 1000000
attribute [local irreducible] zf3 zd3 zj5 zv5 zs3 zg6 ze1 zo1 zv6 zn8 zn9 zj6 ze0 zg7 zf4 zg8 zm1 zh2 zm8 zk3 zg9 ze6 zn1 zf8 zo2 zp4 zi1 zi8 zj9 zj7 zh5 zh0 zc8 zc6 zo3 zq2 zb7 zc0 zh1 zo4 zm3 zk4 zr5 zx1 zc9 zc1 zj8 zk0 zl5 zG2 zq4 zk5 ze4 zm4 zq5 zk6 zk7 zq6 zf9 zl6 zo5 zm5 zk8 zk9 zi4 zp5 zu1 zR1 zo6 zi9 zo7 zn2 zq7 zv7 zo8 zx6 zs6 zx7 zl7 zl1 zt3 zo9 zt4 zl8 zi6 zt5 zq8 zl2 zu2 zl9 zu3 zp6 zI1 zB4 zr6 zr7 zi2 zu4 zq9 zi3 zi7 zx8 zD0 zad1 zc2 zm6 zj0 zF1 zr0 zm0 zu5 zu6 zx9 zy0 zu7 zF2 zr1 zD1 zm7 zD2 zD3 zF3
noncomputable def zV4 (a0:Queue) (a1:Proc):Option (Queue×(List Hold)×Int) :=
 (zh5 a0).bind fun v1 =>
 (if (!v1)=true then
  some ({ Queue.zero with  },[],2)
 else
  (zo4 a0).bind fun v2 =>
  (zj8 v2 a1).bind fun v3 =>
  (if (!v3)=true then
   some ({ Queue.zero with  },[],10)
  else
   (zr1 a0).bind fun v4 =>
   (zF3 v4 a1).bind fun v5 =>
   some (v5.1,v5.2.1,v5.2.2.1)))
attribute [local irreducible] zV4
def zQ0 (a0:Proc) (a1:ByteArray) (a2:Amount):Event :=
 (⟨3,a0,a1,a2⟩:Event)
theorem zbh9 (a0:Proc) (a1:ByteArray) (a2:Amount):PFn C 67 [.agg (Proc.enc a0),.str a1,.agg (Amount.enc a2)] (.agg (Event.enc (zQ0 a0 a1 a2))):=by
 generalize h:zQ0 a0 a1 a2=r
 refine za8 zeH0 rfl fun E hG hN hK=>?_
 unfold zdP6
 unfold zQ0 at h
 refine za0 (za1 hG ?_)
 refine za0 (za1 hG ?_)
 refine za7 ?_
 exact zf1 h
noncomputable def zaE0  (j1:(List Event)):Option ((List Event)) :=
 some j1
@[go_sem] def zeX9  (j1:(List Event)):St:=⟨[(2,.own 1 0 j1.length)],[(1,⟨false,7,(Event.enc Event.zero),j1.map Event.enc⟩)],2⟩
noncomputable def zS3 (a0:ByteArray) (a1:List Hold) (g1:Int×(List Event)):Option ((Int×(List Event))⊕(((List Event)))) :=
 (if (decide (g1.1 < (a1.length:Int)))=true then
  gd (0≤g1.1∧g1.1 < (a1.length:Int)) <|
  gd (g1.2.length+1≤4294967296) <|
  some (.inl ((IntKind.i64.wrap (g1.1+1)),(g1.2++[(⟨1,(a1.getD g1.1.toNat Hold.zero).proc,a0,(a1.getD g1.1.toNat Hold.zero).amount⟩:Event)])))
 else
  some (.inr g1.2))
@[go_sem] def zeY0 (a0:ByteArray) (a1:List Hold) (g1:Int×(List Event)):St:=⟨[(0,.str a0),(2,.own 1 0 g1.2.length),(9,.sl (a1.map Hold.enc)),(10,.int .i64 (a1.length:Int)),(11,.int .i64 g1.1)],[(1,⟨false,7,(Event.enc Event.zero),g1.2.map Event.enc⟩)],2⟩
noncomputable def zA4 (a0:ByteArray) (a1:List Hold) (a2:List Event):Option ((List Event)) :=
 (zb9 (zS3 a0 a1) (0,a2)).bind (fun z=>zaE0 z)
attribute [local irreducible] zA4
noncomputable def zaG8  (j1:(List Queue)×(List Event)):Option ((List Queue)×(List Event)) :=
 some (j1.1,j1.2)
@[go_sem] def zeY1  (j1:(List Queue)×(List Event)):St:=⟨[(6,.own 0 0 j1.1.length),(7,.own 1 0 j1.2.length)],[(0,⟨false,8,(Queue.enc Queue.zero),j1.1.map Queue.enc⟩),(1,⟨false,7,(Event.enc Event.zero),j1.2.map Event.enc⟩)],2⟩
noncomputable def zaj2 (a0:List Queue) (g1:Int×(List Queue)×(List Event)) (v3:Queue×(List Hold)×Int) (j2:(List Event)):Option ((Int×(List Queue)×(List Event))⊕(((List Queue)×(List Event)))) :=
 (zA4 (((a0.getD g1.1.toNat Queue.zero).resource).name) v3.2.1 j2).bind fun v5 =>
 gd (0≤g1.1∧g1.1 < ((g1.2.1.length:Nat):Int)) <|
 some (.inl ((IntKind.i64.wrap (g1.1+1)),(g1.2.1.set g1.1.toNat v3.1),v5))
@[go_sem] def zeY2 (a0:List Queue) (a1:Proc) (g1:Int×(List Queue)×(List Event)) (v3:Queue×(List Hold)×Int) (j2:(List Event)):St:=⟨[(3,.ptr 0 0 0),(6,.own 1 0 g1.2.1.length),(7,.own 2 0 j2.length),(8,.int .i64 g1.1),(9,.ptr 3 0 0),(10,.ptr 4 0 0),(11,.sl (v3.2.1.map Hold.enc)),(19,.sl (a0.map Queue.enc)),(20,.int .i64 (a0.length:Int)),(21,.int .i64 g1.1)],[(0,⟨false,3,(Proc.enc Proc.zero),[Proc.enc a1]⟩),(1,⟨false,8,(Queue.enc Queue.zero),g1.2.1.map Queue.enc⟩),(2,⟨false,7,(Event.enc Event.zero),j2.map Event.enc⟩),(3,⟨false,8,(Queue.enc Queue.zero),[Queue.enc (a0.getD g1.1.toNat Queue.zero)]⟩),(4,⟨false,8,(Queue.enc Queue.zero),[Queue.enc v3.1]⟩)],5⟩
noncomputable def zaG9 (a0:List Queue) (a1:Proc) (g1:Int×(List Queue)×(List Event)):Option ((Int×(List Queue)×(List Event))⊕(((List Queue)×(List Event)))) :=
 (if (decide (g1.1 < (a0.length:Int)))=true then
  gd (0≤g1.1∧g1.1 < (a0.length:Int)) <|
  (zV4 (a0.getD g1.1.toNat Queue.zero) a1).bind fun v3 =>
  (if (!decide (v3.2.2=0))=true then
   some (.inl ((IntKind.i64.wrap (g1.1+1)),g1.2.1,g1.2.2))
  else
   (zh2 (a0.getD g1.1.toNat Queue.zero) a1).bind fun v4 =>
   (if (!decide (v4={ Amount.zero with  }))=true then
    gd (g1.2.2.length+1≤4294967296) <|
    zaj2 a0 g1 v3 (g1.2.2++[(zQ0 a1 (((a0.getD g1.1.toNat Queue.zero).resource).name) ({ Amount.zero with  }))])
   else
    zaj2 a0 g1 v3 g1.2.2))
 else
  some (.inr (g1.2.1,g1.2.2)))
@[go_sem] def zeY3 (a0:List Queue) (a1:Proc) (g1:Int×(List Queue)×(List Event)):St:=⟨[(3,.ptr 0 0 0),(6,.own 1 0 g1.2.1.length),(7,.own 2 0 g1.2.2.length),(19,.sl (a0.map Queue.enc)),(20,.int .i64 (a0.length:Int)),(21,.int .i64 g1.1)],[(0,⟨false,3,(Proc.enc Proc.zero),[Proc.enc a1]⟩),(1,⟨false,8,(Queue.enc Queue.zero),g1.2.1.map Queue.enc⟩),(2,⟨false,7,(Event.enc Event.zero),g1.2.2.map Event.enc⟩)],3⟩
noncomputable def zV5 (a0:List Queue) (a1:Proc):Option ((List Queue)×(List Event)) :=
 (zk4 a0).bind fun v1 =>
 (if (!v1)=true then
  some ([],[])
 else
  (zF2 a0 (-1) ({ Queue.zero with  })).bind fun v2 =>
  (zb9 (zaG9 a0 a1) (0,v2,[])).bind (fun z=>zaG8 z))
attribute [local irreducible] zV5
noncomputable def zaH0  (j1:(List Atom)):Option ((List Atom)) :=
 some j1
@[go_sem] def zeY4  (j1:(List Atom)):St:=⟨[(5,.own 0 0 j1.length)],[(0,⟨false,3,(Atom.enc Atom.zero),j1.map Atom.enc⟩)],1⟩
noncomputable def zaH1 (a0:List Queue) (a1:Proc) (g1:Int×(List Atom)):Option ((Int×(List Atom))⊕(((List Atom)))) :=
 (if (decide (g1.1 < (a0.length:Int)))=true then
  gd (0≤g1.1∧g1.1 < (a0.length:Int)) <|
  (zk0 (a0.getD g1.1.toNat Queue.zero) a1).bind fun v1 =>
  (if v1.2=true then
   gd (g1.2.length+1≤4294967296) <|
   some (.inl ((IntKind.i64.wrap (g1.1+1)),(g1.2++[(⟨((a0.getD g1.1.toNat Queue.zero).resource).name,v1.1⟩:Atom)])))
  else
   some (.inl ((IntKind.i64.wrap (g1.1+1)),g1.2)))
 else
  some (.inr g1.2))
@[go_sem] def zeY5 (a0:List Queue) (a1:Proc) (g1:Int×(List Atom)):St:=⟨[(3,.ptr 0 0 0),(5,.own 1 0 g1.2.length),(10,.sl (a0.map Queue.enc)),(11,.int .i64 (a0.length:Int)),(12,.int .i64 g1.1)],[(0,⟨false,3,(Proc.enc Proc.zero),[Proc.enc a1]⟩),(1,⟨false,3,(Atom.enc Atom.zero),g1.2.map Atom.enc⟩)],2⟩
noncomputable def zag2 (a0:List Queue) (a1:Proc):Option ((List Atom)) :=
 (zb9 (zaH1 a0 a1) (0,[])).bind (fun z=>zaH0 z)
attribute [local irreducible] zag2
noncomputable def zab0 (a0:Queue) (a1:Proc):Option (Bool) :=
 (zl9 a0 a1).bind fun v1 =>
 ((if (!v1.2)=true then zp6 a0 a1 else some (Amount.zero))).bind fun v2 =>
 some (v1.2||(!(zd0 v2)))
attribute [local irreducible] zab0
noncomputable def zV6 (a0:Queue) (a1:Proc):Option (Queue×(List Hold)×Int) :=
 (zl1 a0).bind fun v1 =>
 (if (!v1)=true then
  some ({ Queue.zero with  },[],2)
 else
  (zab0 a0 a1).bind fun v2 =>
  (if (!v2)=true then
   some ({ Queue.zero with  },[],10)
  else
   (zr6 a0).bind fun v3 =>
   (zs6 v3.holds a1 ({ Amount.zero with  })).bind fun v4 =>
   (zm0 (({ v3 with holds:=v4 }).converts) a1).bind fun v5 =>
   (zm0 (({ { v3 with holds:=v4 } with converts:=v5.1 }).waits) a1).bind fun v6 =>
   (zi2 ({ { { v3 with holds:=v4 } with converts:=v5.1 } with waits:=v6.1 })).bind fun v7 =>
   some (v7.1,v7.2.1,v7.2.2)))
attribute [local irreducible] zV6
noncomputable def zaH2  (j1:(List Queue)×(List Event)):Option ((List Queue)×(List Event)) :=
 some (j1.1,j1.2)
@[go_sem] def zeY6  (j1:(List Queue)×(List Event)):St:=⟨[(6,.own 0 0 j1.1.length),(7,.own 1 0 j1.2.length)],[(0,⟨false,8,(Queue.enc Queue.zero),j1.1.map Queue.enc⟩),(1,⟨false,7,(Event.enc Event.zero),j1.2.map Event.enc⟩)],2⟩
noncomputable def zaj3 (a1:Proc) (g1:Int×(List Queue)×(List Event)) (j2:(List Event)):Option ((Int×(List Queue)×(List Event))⊕(((List Queue)×(List Event)))) :=
 gd (0≤g1.1∧g1.1 < ((g1.2.1.length:Nat):Int)) <|
 (zV6 (g1.2.1.getD g1.1.toNat Queue.zero) a1).bind fun v4 =>
 gd (0≤g1.1∧g1.1 < ((g1.2.1.length:Nat):Int)) <|
 (zi7 v4.1.resource.name v4.2.1).bind fun v5 =>
 gd (j2.length+v5.length≤4294967296) <|
 some (.inl ((IntKind.i64.wrap (g1.1+1)),(g1.2.1.set g1.1.toNat v4.1),(j2++v5)))
@[go_sem] def zeY7 (a1:Proc) (g1:Int×(List Queue)×(List Event)) (j2:(List Event)):St:=⟨[(3,.ptr 0 0 0),(6,.own 1 0 g1.2.1.length),(7,.own 2 0 j2.length),(8,.int .i64 g1.1)],[(0,⟨false,3,(Proc.enc Proc.zero),[Proc.enc a1]⟩),(1,⟨false,8,(Queue.enc Queue.zero),g1.2.1.map Queue.enc⟩),(2,⟨false,7,(Event.enc Event.zero),j2.map Event.enc⟩)],3⟩
noncomputable def zaH3 (a1:Proc) (g1:Int×(List Queue)×(List Event)):Option ((Int×(List Queue)×(List Event))⊕(((List Queue)×(List Event)))) :=
 (if (decide (g1.1 < ((g1.2.1.length:Nat):Int)))=true then
  gd (0≤g1.1∧g1.1 < ((g1.2.1.length:Nat):Int)) <|
  (zab0 (g1.2.1.getD g1.1.toNat Queue.zero) a1).bind fun v2 =>
  (if (!v2)=true then
   some (.inl ((IntKind.i64.wrap (g1.1+1)),g1.2.1,g1.2.2))
  else
   gd (0≤g1.1∧g1.1 < ((g1.2.1.length:Nat):Int)) <|
   (zp6 (g1.2.1.getD g1.1.toNat Queue.zero) a1).bind fun v3 =>
   (if (!(zd0 v3))=true then
    gd (0≤g1.1∧g1.1 < ((g1.2.1.length:Nat):Int)) <|
    gd (g1.2.2.length+1≤4294967296) <|
    zaj3 a1 g1 (g1.2.2++[{ Event.zero with kind:=3,proc:=a1,name:=((g1.2.1.getD g1.1.toNat Queue.zero).resource).name }])
   else
    zaj3 a1 g1 g1.2.2))
 else
  some (.inr (g1.2.1,g1.2.2)))
@[go_sem] def zeY8 (a1:Proc) (g1:Int×(List Queue)×(List Event)):St:=⟨[(3,.ptr 0 0 0),(6,.own 1 0 g1.2.1.length),(7,.own 2 0 g1.2.2.length),(8,.int .i64 g1.1)],[(0,⟨false,3,(Proc.enc Proc.zero),[Proc.enc a1]⟩),(1,⟨false,8,(Queue.enc Queue.zero),g1.2.1.map Queue.enc⟩),(2,⟨false,7,(Event.enc Event.zero),g1.2.2.map Event.enc⟩)],3⟩
noncomputable def zV7 (a0:List Queue) (a1:Proc):Option ((List Queue)×(List Event)) :=
 (zl2 a0).bind fun v1 =>
 (if (!v1)=true then
  some ([],[])
 else
  gd (a0.length≤4294967296) <|
  (zb9 (zaH3 a1) (0,a0,[])).bind (fun z=>zaH2 z))
attribute [local irreducible] zV7
noncomputable def zaM6  (j1:(List Queue)×(List Event)):Option ((List Queue)×(List Event)) :=
 some (j1.1,j1.2)
@[go_sem] def zeY9  (j1:(List Queue)×(List Event)):St:=⟨[(8,.sl (j1.1.map Queue.enc)),(9,.own 0 0 j1.2.length)],[(0,⟨false,7,(Event.enc Event.zero),j1.2.map Event.enc⟩)],1⟩
noncomputable def zaM7 (a1:Int) (a2:Int) (v3:(List Proc)) (g1:(List Queue)×Int×(List Event)):Option (((List Queue)×Int×(List Event))⊕(((List Queue)×(List Event)))) :=
 (if (decide (g1.2.1 < (v3.length:Int)))=true then
  gd (0≤g1.2.1∧g1.2.1 < (v3.length:Int)) <|
  (if ((!decide ((v3.getD g1.2.1.toNat Proc.zero).site=a1))||(decide (a2≤(v3.getD g1.2.1.toNat Proc.zero).inc)))=true then
   some (.inl (g1.1,(IntKind.i64.wrap (g1.2.1+1)),g1.2.2))
  else
   (zV5 g1.1 (v3.getD g1.2.1.toNat Proc.zero)).bind fun v4 =>
   gd (g1.2.2.length+v4.2.length≤4294967296) <|
   some (.inl (v4.1,(IntKind.i64.wrap (g1.2.1+1)),(g1.2.2++v4.2))))
 else
  some (.inr (g1.1,g1.2.2)))
@[go_sem] def zeZ0 (a1:Int) (a2:Int) (v3:(List Proc)) (g1:(List Queue)×Int×(List Event)):St:=⟨[(1,.int .i64 a1),(2,.int .i64 a2),(8,.sl (g1.1.map Queue.enc)),(9,.own 0 0 g1.2.2.length),(21,.sl (v3.map Proc.enc)),(22,.int .i64 (v3.length:Int)),(23,.int .i64 g1.2.1)],[(0,⟨false,7,(Event.enc Event.zero),g1.2.2.map Event.enc⟩)],1⟩
noncomputable def zak6 (a0:List Queue) (a1:Int) (a2:Int):Option ((List Queue)×(List Event)) :=
 (zk4 a0).bind fun v1 =>
 (if (!v1)=true then
  some ([],[])
 else
  (zf9 a0 (-1) ({ Queue.zero with  })).bind fun v2 =>
  (zm3 a0).bind fun v3 =>
  (zb9 (zaM7 a1 a2 v3) (v2,0,[])).bind (fun z=>zaM6 z))
attribute [local irreducible] zak6
noncomputable def zaM8  (j1:(List Queue)×(List Event)):Option ((List Queue)×(List Event)) :=
 some (j1.1,j1.2)
@[go_sem] def zeZ1  (j1:(List Queue)×(List Event)):St:=⟨[(0,.sl (j1.1.map Queue.enc)),(8,.own 0 0 j1.2.length)],[(0,⟨false,7,(Event.enc Event.zero),j1.2.map Event.enc⟩)],1⟩
noncomputable def zaM9 (a1:Int) (a2:Int) (v2:(List Proc)) (g1:(List Queue)×Int×(List Event)):Option (((List Queue)×Int×(List Event))⊕(((List Queue)×(List Event)))) :=
 (if (decide (g1.2.1 < (v2.length:Int)))=true then
  gd (0≤g1.2.1∧g1.2.1 < (v2.length:Int)) <|
  gd ((decide ((v2.getD g1.2.1.toNat Proc.zero).site=a1))=true→0≤g1.2.1∧g1.2.1 < (v2.length:Int)) <|
  (if ((decide ((v2.getD g1.2.1.toNat Proc.zero).site=a1))&&(decide ((v2.getD g1.2.1.toNat Proc.zero).inc < a2)))=true then
   gd (0≤g1.2.1∧g1.2.1 < (v2.length:Int)) <|
   (zV7 g1.1 (v2.getD g1.2.1.toNat Proc.zero)).bind fun v3 =>
   gd (g1.2.2.length+v3.2.length≤4294967296) <|
   some (.inl (v3.1,(IntKind.i64.wrap (g1.2.1+1)),(g1.2.2++v3.2)))
  else
   some (.inl (g1.1,(IntKind.i64.wrap (g1.2.1+1)),g1.2.2)))
 else
  some (.inr (g1.1,g1.2.2)))
@[go_sem] def zeZ2 (a1:Int) (a2:Int) (v2:(List Proc)) (g1:(List Queue)×Int×(List Event)):St:=⟨[(0,.sl (g1.1.map Queue.enc)),(1,.int .i64 a1),(2,.int .i64 a2),(8,.own 0 0 g1.2.2.length),(9,.sl (v2.map Proc.enc)),(10,.int .i64 g1.2.1)],[(0,⟨false,7,(Event.enc Event.zero),g1.2.2.map Event.enc⟩)],1⟩
noncomputable def zak7 (a0:List Queue) (a1:Int) (a2:Int):Option ((List Queue)×(List Event)) :=
 (zl2 a0).bind fun v1 =>
 (if (!v1)=true then
  some ([],[])
 else
  (zq8 a0).bind fun v2 =>
  (zb9 (zaM9 a1 a2 v2) (a0,0,[])).bind (fun z=>zaM8 z))
attribute [local irreducible] zak7
noncomputable def zav5  (j1:Unit):Option (Bool) :=
 some true
@[go_sem] def zeZ3  (j1:Unit):St:=⟨[],[],0⟩
noncomputable def zav6 (a0:List Proc) (a1:List Proc) (g1:Int):Option ((Int)⊕((Unit)⊕(Bool))) :=
 (if (decide (g1 < (a0.length:Int)))=true then
  gd (0≤g1∧g1 < (a0.length:Int)) <|
  gd (0≤g1∧g1 < (a1.length:Int)) <|
  (if (!decide ((a0.getD g1.toNat Proc.zero)=(a1.getD g1.toNat Proc.zero)))=true then
   some (.inr (.inr false))
  else
   some (.inl (IntKind.i64.wrap (g1+1))))
 else
  some (.inr (.inl ())))
@[go_sem] def zeZ4 (a0:List Proc) (a1:List Proc) (g1:Int):St:=⟨[(0,.sl (a0.map Proc.enc)),(1,.sl (a1.map Proc.enc)),(5,.int .i64 g1)],[],0⟩
noncomputable def zV8 (a0:List Proc) (a1:List Proc):Option (Bool) :=
 (if (!decide ((a0.length:Int)=(a1.length:Int)))=true then
  some false
 else
  (zb9 (zav6 a0 a1) 0).bind (fun | .inl z=>zav5 z | .inr z=>some z))
attribute [local irreducible] zV8
noncomputable def zr9 (a0:Queue) (a1:Proc):Option (Queue×Proc) :=
 (zm7 a0.converts a1).bind fun v1 =>
 some ({ a0 with converts:=v1.1 },a1)
theorem zav7 (a0:Queue) (a1:Proc) (r:Queue×Proc) (h:zr9 a0 a1=some r):MFn C 121 [.ptr 0 0 0,.ptr 1 0 0] [(0,⟨false,8,(Queue.enc Queue.zero),[Queue.enc a0]⟩),(1,⟨false,3,(Proc.enc Proc.zero),[Proc.enc a1]⟩)] 2 (.tup []) [(0,⟨false,8,(Queue.enc Queue.zero),[Queue.enc r.1]⟩),(1,⟨false,3,(Proc.enc Proc.zero),[Proc.enc r.2]⟩)] 2:=by
 refine zn5 (rl:=[]) zeP0 rfl rfl rfl rfl fun E hG hN hK=>?_
 unfold zdP8
 unfold zr9 at h
 refine za1 hG ?_
 obtain ⟨v1,hv1,h⟩:=za2 h
 refine za6 (fun hg=>zav3 a0.converts a1 _ (hv1)) ?_
 exact zC2 [(0,0),(1,1)] h
attribute [local irreducible] zr9
noncomputable def zs0 (a0:Queue) (a1:Proc):Option (Queue×Proc) :=
 (zm7 a0.waits a1).bind fun v1 =>
 some ({ a0 with waits:=v1.1 },a1)
theorem zav8 (a0:Queue) (a1:Proc) (r:Queue×Proc) (h:zs0 a0 a1=some r):MFn C 122 [.ptr 0 0 0,.ptr 1 0 0] [(0,⟨false,8,(Queue.enc Queue.zero),[Queue.enc a0]⟩),(1,⟨false,3,(Proc.enc Proc.zero),[Proc.enc a1]⟩)] 2 (.tup []) [(0,⟨false,8,(Queue.enc Queue.zero),[Queue.enc r.1]⟩),(1,⟨false,3,(Proc.enc Proc.zero),[Proc.enc r.2]⟩)] 2:=by
 refine zn5 (rl:=[]) zeP1 rfl rfl rfl rfl fun E hG hN hK=>?_
 unfold zdQ0
 unfold zs0 at h
 refine za1 hG ?_
 obtain ⟨v1,hv1,h⟩:=za2 h
 refine za6 (fun hg=>zav3 a0.waits a1 _ (hv1)) ?_
 exact zC2 [(0,0),(1,1)] h
attribute [local irreducible] zs0
noncomputable def zF4  (j1:Queue×Proc):Option (Queue×(List Hold)×Int×Queue×Proc) :=
 (ze4 j1.1).bind fun v1 =>
 some ({ v1.2 with gen:=(zg2 v1.2.gen) },v1.1,0,{ v1.2 with gen:=(zg2 v1.2.gen) },j1.2)
@[go_sem] def zen9  (j1:Queue×Proc):St:=⟨[(0,.ptr 0 0 0),(4,.ptr 3 0 0)],[(0,⟨false,8,(Queue.enc Queue.zero),[Queue.enc j1.1]⟩),(1,⟨false,1,[A.any],[[.clo 121 [.ptr 0 0 0,.ptr 2 0 0]],[.clo 122 [.ptr 0 0 0,.ptr 2 0 0]]]⟩),(2,⟨false,3,(Proc.enc Proc.zero),[Proc.enc j1.2]⟩),(3,⟨false,8,(Queue.enc Queue.zero),[Queue.enc Queue.zero]⟩)],4⟩
noncomputable def zu8 (a0:Queue) (a1:Proc):Option (Queue×(List Hold)×Int×Queue×Proc) :=
 gd (0≤0∧0 < (2:Int)) <|
 (zr9 a0 a1).bind fun v2 =>
 gd (0≤1∧1 < (2:Int)) <|
 (zs0 v2.1 v2.2).bind fun v3 =>
 zF4 (v3.1,v3.2)
theorem zaA2 (a0:Queue) (a1:Proc) (r:Queue×(List Hold)×Int×Queue×Proc) (h:zu8 a0 a1=some r):MFn C 91 [.ptr 0 0 0,.own 1 0 2] [(0,⟨false,8,(Queue.enc Queue.zero),[Queue.enc a0]⟩),(1,⟨false,1,[A.any],[[.clo 121 [.ptr 0 0 0,.ptr 2 0 0]],[.clo 122 [.ptr 0 0 0,.ptr 2 0 0]]]⟩),(2,⟨false,3,(Proc.enc Proc.zero),[Proc.enc a1]⟩)] 3 (.tup [.agg (Queue.enc r.1),.sl (r.2.1.map Hold.enc),.int .i64 r.2.2.1]) [(0,⟨false,8,(Queue.enc Queue.zero),[Queue.enc r.2.2.2.1]⟩),(1,⟨false,1,[A.any],[[.clo 121 [.ptr 0 0 0,.ptr 2 0 0]],[.clo 122 [.ptr 0 0 0,.ptr 2 0 0]]]⟩),(2,⟨false,3,(Proc.enc Proc.zero),[Proc.enc r.2.2.2.2]⟩)] 3:=by
 refine zn5 (rl:=[.agg (Queue.enc r.1),.sl (r.2.1.map Hold.enc),.int .i64 r.2.2.1]) zeP2 rfl rfl rfl rfl fun E hG hN hK=>?_
 unfold zdR0
 unfold zu8 at h
 refine za0 (za1 hG ?_)
 refine za0 (za0 (za1 hG ?_))
 refine zb4 (zen9) (fun v=>zF4 v=some r) ?_ ?_
 · intro j1 h
   unfold zF4 at h
   refine g_st ?_
   refine za0 (za1 hG ?_)
   obtain ⟨v1,hv1,h⟩:=za2 h
   refine zk2 [(0,0)] [] [0] (zG4 j1.1 _ hv1) rfl rfl ?_
   refine za0 (za1 hG ?_)
   refine za6 (fun hg=>zZ6 v1.2.gen) ?_
   refine za0 (za1 hG ?_)
   refine za7 ?_
   exact zC2 [(0,0),(1,1),(2,2)] h
 refine zay4 4 ?_
 refine zac8 ?_
 refine za0 (za1 hG ?_)
 refine za0 ?_
 refine zaG1 rfl hG ?_
 refine za5 ?_
 refine za0 (zb6 (za0 ?_))
 obtain ⟨hb2,h⟩:=za3 h
 refine za1 hG ?_
 refine za1 hG ?_
 obtain ⟨v2,hv2,h⟩:=za2 h
 refine zk2 [(0,0),(1,2)] [] [0,1] (zav7 a0 a1 _ hv2) rfl rfl ?_
 refine za1 hG ?_
 refine zac8 ?_
 refine za0 (za1 hG ?_)
 refine za0 ?_
 refine zaG1 rfl hG ?_
 refine za5 ?_
 refine za0 (zb6 (za0 ?_))
 obtain ⟨hb1,h⟩:=za3 h
 refine za1 hG ?_
 refine za1 hG ?_
 obtain ⟨v3,hv3,h⟩:=za2 h
 refine zk2 [(0,0),(1,2)] [] [0,1] (zav8 v2.1 v2.2 _ hv3) rfl rfl ?_
 refine za1 hG ?_
 refine zac8 ?_
 refine za0 (za1 hG ?_)
 refine za0 ?_
 refine zaV4 rfl hG ?_
 refine zc7 ?_
 exact zc5 hK [(0,0),(1,1),(2,2),(3,3)] (v3.1,v3.2) (by exact h)
attribute [local irreducible] zu8
noncomputable def zy7 (a0:Queue) (a1:Proc):Option (Queue×(List Hold)×Int) :=
 (zh5 a0).bind fun v1 =>
 (if (!v1)=true then
  some ({ Queue.zero with  },[],2)
 else
  (zk0 a0 a1).bind fun v2 =>
  (if (!v2.2)=true then
   some ({ Queue.zero with  },[],10)
  else
   (zr1 a0).bind fun v3 =>
   (zu8 v3 a1).bind fun v4 =>
   some (v4.1,v4.2.1,v4.2.2.1)))
theorem zaT2 (a0:Queue) (a1:Proc) (r:Queue×(List Hold)×Int) (h:zy7 a0 a1=some r):PFn C 78 [.agg (Queue.enc a0),.agg (Proc.enc a1)] (.tup [.agg (Queue.enc r.1),.sl (r.2.1.map Hold.enc),.int .i64 r.2.2]):=by
 refine za8 zeP3 rfl fun E hG hN hK=>?_
 unfold zdR9
 unfold zy7 at h
 refine za0 (za1 hG ?_)
 refine za0 (za0 (za1 hG ?_))
 obtain ⟨v1,hv1,h⟩:=za2 h
 refine za6 (fun hg=>zU3 a0 _ (hv1)) ?_
 refine za4 rfl hG h (fun _ h=>?_) (fun _ h=>?_)
 · refine za0 (za1 hG ?_)
   refine za7 ?_
   exact zb0 h
 refine za5 ?_
 refine za0 (za0 (za1 hG ?_))
 obtain ⟨v2,hv2,h⟩:=za2 h
 refine za6 (fun hg=>zar7 a0 a1 _ (hv2)) ?_
 refine za0 (za1 hG ?_)
 refine za4 rfl hG h (fun _ h=>?_) (fun _ h=>?_)
 · refine za0 (za1 hG ?_)
   refine za7 ?_
   exact zb0 h
 refine za5 ?_
 refine za0 (za1 hG ?_)
 obtain ⟨v3,hv3,h⟩:=za2 h
 refine za6 (fun hg=>zav2 a0 _ (hv3)) ?_
 refine za0 (za1 hG ?_)
 obtain ⟨v4,hv4,h⟩:=za2 h
 refine zk2 [(0,4),(1,5),(2,1)] [] [0,1,2] (zaA2 v3 a1 _ hv4) rfl rfl ?_
 refine za7 ?_
 exact zb0 h
attribute [local irreducible] zy7
noncomputable def zy8 (a0:List Queue) (a1:Proc) (a2:ByteArray):Option ((List Queue)×(List Event)×Int) :=
 (zx1 a0 a2).bind fun v1 =>
 (if (!decide (v1.2=0))=true then
  some ([],[],v1.2)
 else
  gd (0≤v1.1∧v1.1 < (a0.length:Int)) <|
  (zy7 (a0.getD v1.1.toNat Queue.zero) a1).bind fun v2 =>
  (if (!decide (v2.2.2=0))=true then
   some ([],[],v2.2.2)
  else
   (zf9 a0 v1.1 v2.1).bind fun v3 =>
   (zl6 a2 v2.2.1).bind fun v4 =>
   some (v3,v4,0)))
theorem zaT3 (a0:List Queue) (a1:Proc) (a2:ByteArray) (r:(List Queue)×(List Event)×Int) (h:zy8 a0 a1 a2=some r):PFn C 41 [.sl (a0.map Queue.enc),.agg (Proc.enc a1),.str a2] (.tup [.sl (r.1.map Queue.enc),.sl (r.2.1.map Event.enc),.int .i64 r.2.2]):=by
 refine za8 zeP4 rfl fun E hG hN hK=>?_
 unfold zdS8
 unfold zy8 at h
 refine za0 (za1 hG ?_)
 refine za0 (za1 hG ?_)
 obtain ⟨v1,hv1,h⟩:=za2 h
 refine za6 (fun hg=>zau7 a0 a2 _ (hv1)) ?_
 refine za0 (za0 (za1 hG ?_))
 refine za4 rfl hG h (fun _ h=>?_) (fun _ h=>?_)
 · refine za0 (za1 hG ?_)
   refine za7 ?_
   exact zb0 h
 refine za5 ?_
 refine za0 ?_
 obtain ⟨hb1,h⟩:=za3 h
 refine zB2 zd2 hG ?_
 obtain ⟨v2,hv2,h⟩:=za2 h
 refine zt8 (fun hg=>zaT2 (a0.getD v1.1.toNat Queue.zero) a1 _ (hv2)) ?_
 refine za0 (za0 (za1 hG ?_))
 refine za4 rfl hG h (fun _ h=>?_) (fun _ h=>?_)
 · refine za0 (za1 hG ?_)
   refine za7 ?_
   exact zb0 h
 refine za5 ?_
 refine za0 (za1 hG ?_)
 obtain ⟨v3,hv3,h⟩:=za2 h
 refine za6 (fun hg=>zO7 a0 v1.1 v2.1 _ (hv3)) ?_
 obtain ⟨v4,hv4,h⟩:=za2 h
 refine zk2 [] [] [] (zam7 a2 v2.2.1 _ hv4) rfl rfl ?_
 refine za7 ?_
 exact zb0 h
attribute [local irreducible] zy8
noncomputable def zu9 (a0:Queue) (a1:Proc) (a2:Amount):Option (Queue×Proc×Amount) :=
 (zi8 a0.holds a1 a2).bind fun v1 =>
 some ({ a0 with holds:=v1 },a1,a2)
theorem zaA3 (a0:Queue) (a1:Proc) (a2:Amount) (r:Queue×Proc×Amount) (h:zu9 a0 a1 a2=some r):MFn C 124 [.ptr 0 0 0,.ptr 1 0 0,.ptr 2 0 0] [(0,⟨false,8,(Queue.enc Queue.zero),[Queue.enc a0]⟩),(1,⟨false,3,(Proc.enc Proc.zero),[Proc.enc a1]⟩),(2,⟨false,2,(Amount.enc Amount.zero),[Amount.enc a2]⟩)] 3 (.tup []) [(0,⟨false,8,(Queue.enc Queue.zero),[Queue.enc r.1]⟩),(1,⟨false,3,(Proc.enc Proc.zero),[Proc.enc r.2.1]⟩),(2,⟨false,2,(Amount.enc Amount.zero),[Amount.enc r.2.2]⟩)] 3:=by
 refine zn5 (rl:=[]) zeP5 rfl rfl rfl rfl fun E hG hN hK=>?_
 unfold zdT0
 unfold zu9 at h
 refine za1 hG ?_
 obtain ⟨v1,hv1,h⟩:=za2 h
 refine za6 (fun hg=>zae9 a0.holds a1 a2 _ (hv1)) ?_
 exact zC2 [(0,0),(1,1),(2,2)] h
attribute [local irreducible] zu9
noncomputable def zF5  (j1:Queue×Proc×Amount):Option (Queue×(List Hold)×Int×Queue×Proc×Amount) :=
 (ze4 j1.1).bind fun v1 =>
 some ({ v1.2 with gen:=(zg2 v1.2.gen) },v1.1,0,{ v1.2 with gen:=(zg2 v1.2.gen) },j1.2.1,j1.2.2)
@[go_sem] def zeo0  (j1:Queue×Proc×Amount):St:=⟨[(0,.ptr 0 0 0),(4,.ptr 4 0 0)],[(0,⟨false,8,(Queue.enc Queue.zero),[Queue.enc j1.1]⟩),(1,⟨false,1,[A.any],[[.clo 124 [.ptr 0 0 0,.ptr 2 0 0,.ptr 3 0 0]]]⟩),(2,⟨false,3,(Proc.enc Proc.zero),[Proc.enc j1.2.1]⟩),(3,⟨false,2,(Amount.enc Amount.zero),[Amount.enc j1.2.2]⟩),(4,⟨false,8,(Queue.enc Queue.zero),[Queue.enc Queue.zero]⟩)],5⟩
noncomputable def zv0 (a0:Queue) (a1:Proc) (a2:Amount):Option (Queue×(List Hold)×Int×Queue×Proc×Amount) :=
 gd (0≤0∧0 < (1:Int)) <|
 (zu9 a0 a1 a2).bind fun v2 =>
 zF5 (v2.1,v2.2.1,v2.2.2)
theorem zaA4 (a0:Queue) (a1:Proc) (a2:Amount) (r:Queue×(List Hold)×Int×Queue×Proc×Amount) (h:zv0 a0 a1 a2=some r):MFn C 91 [.ptr 0 0 0,.own 1 0 1] [(0,⟨false,8,(Queue.enc Queue.zero),[Queue.enc a0]⟩),(1,⟨false,1,[A.any],[[.clo 124 [.ptr 0 0 0,.ptr 2 0 0,.ptr 3 0 0]]]⟩),(2,⟨false,3,(Proc.enc Proc.zero),[Proc.enc a1]⟩),(3,⟨false,2,(Amount.enc Amount.zero),[Amount.enc a2]⟩)] 4 (.tup [.agg (Queue.enc r.1),.sl (r.2.1.map Hold.enc),.int .i64 r.2.2.1]) [(0,⟨false,8,(Queue.enc Queue.zero),[Queue.enc r.2.2.2.1]⟩),(1,⟨false,1,[A.any],[[.clo 124 [.ptr 0 0 0,.ptr 2 0 0,.ptr 3 0 0]]]⟩),(2,⟨false,3,(Proc.enc Proc.zero),[Proc.enc r.2.2.2.2.1]⟩),(3,⟨false,2,(Amount.enc Amount.zero),[Amount.enc r.2.2.2.2.2]⟩)] 4:=by
 refine zn5 (rl:=[.agg (Queue.enc r.1),.sl (r.2.1.map Hold.enc),.int .i64 r.2.2.1]) zeP6 rfl rfl rfl rfl fun E hG hN hK=>?_
 unfold zdU0
 unfold zv0 at h
 refine za0 (za1 hG ?_)
 refine za0 (za0 (za1 hG ?_))
 refine zb4 (zeo0) (fun v=>zF5 v=some r) ?_ ?_
 · intro j1 h
   unfold zF5 at h
   refine g_st ?_
   refine za0 (za1 hG ?_)
   obtain ⟨v1,hv1,h⟩:=za2 h
   refine zk2 [(0,0)] [] [0] (zG4 j1.1 _ hv1) rfl rfl ?_
   refine za0 (za1 hG ?_)
   refine za6 (fun hg=>zZ6 v1.2.gen) ?_
   refine za0 (za1 hG ?_)
   refine za7 ?_
   exact zC2 [(0,0),(1,1),(2,2),(3,3)] h
 refine zay4 3 ?_
 refine zac8 ?_
 refine za0 (za1 hG ?_)
 refine za0 ?_
 refine zaG1 rfl hG ?_
 refine za5 ?_
 refine za0 (zb6 (za0 ?_))
 obtain ⟨hb1,h⟩:=za3 h
 refine za1 hG ?_
 refine za1 hG ?_
 obtain ⟨v2,hv2,h⟩:=za2 h
 refine zk2 [(0,0),(1,2),(2,3)] [] [0,1,2] (zaA3 a0 a1 a2 _ hv2) rfl rfl ?_
 refine za1 hG ?_
 refine zac8 ?_
 refine za0 (za1 hG ?_)
 refine za0 ?_
 refine zaV4 rfl hG ?_
 refine zc7 ?_
 exact zc5 hK [(0,0),(1,1),(2,2),(3,3),(4,4)] (v2.1,v2.2.1,v2.2.2) (by exact h)
attribute [local irreducible] zv0
noncomputable def zB5 (a0:Queue) (a1:Proc) (a2:Amount):Option (Queue×(List Hold)×Int) :=
 (zh5 a0).bind fun v1 =>
 (if (!v1)=true then
  some ({ Queue.zero with  },[],2)
 else
  (zh2 a0 a1).bind fun v2 =>
  (if (zb8 v2)=true then
   some ({ Queue.zero with  },[],10)
  else
   (zm8 a0.converts a1).bind fun v3 =>
   (if (decide (0≤v3))=true then
    some ({ Queue.zero with  },[],14)
   else
    (zg9 a0.resource v2 a2).bind fun v4 =>
    (if (!v4)=true then
     some ({ Queue.zero with  },[],12)
    else
     (zr1 a0).bind fun v5 =>
     (if (decide (a2=v2))=true then
      some (v5,[],0)
     else
      (zv0 v5 a1 a2).bind fun v6 =>
      some (v6.1,v6.2.1,v6.2.2.1))))))
theorem zbb7 (a0:Queue) (a1:Proc) (a2:Amount) (r:Queue×(List Hold)×Int) (h:zB5 a0 a1 a2=some r):PFn C 80 [.agg (Queue.enc a0),.agg (Proc.enc a1),.agg (Amount.enc a2)] (.tup [.agg (Queue.enc r.1),.sl (r.2.1.map Hold.enc),.int .i64 r.2.2]):=by
 refine za8 zeP7 rfl fun E hG hN hK=>?_
 unfold zdV1
 unfold zB5 at h
 refine za0 (za1 hG ?_)
 refine za0 (za0 (za1 hG ?_))
 obtain ⟨v1,hv1,h⟩:=za2 h
 refine za6 (fun hg=>zU3 a0 _ (hv1)) ?_
 refine za4 rfl hG h (fun _ h=>?_) (fun _ h=>?_)
 · refine za0 (za1 hG ?_)
   refine za7 ?_
   exact zb0 h
 refine za5 ?_
 refine za0 (za1 hG ?_)
 obtain ⟨v2,hv2,h⟩:=za2 h
 refine za6 (fun hg=>zK2 a0 a1 _ (hv2)) ?_
 refine za0 (za0 (za1 hG ?_))
 refine za6 (fun hg=>zo0 v2) ?_
 refine za4 rfl hG h (fun _ h=>?_) (fun _ h=>?_)
 · refine za0 (za1 hG ?_)
   refine za7 ?_
   exact zb0 h
 refine za5 ?_
 refine za0 (za0 (za1 hG ?_))
 obtain ⟨v3,hv3,h⟩:=za2 h
 refine za6 (fun hg=>zad0 a0.converts a1 _ (hv3)) ?_
 refine za4 rfl hG h (fun _ h=>?_) (fun _ h=>?_)
 · refine za0 (za1 hG ?_)
   refine za7 ?_
   exact zb0 h
 refine za5 ?_
 refine za0 (za0 (za1 hG ?_))
 obtain ⟨v4,hv4,h⟩:=za2 h
 refine za6 (fun hg=>zX8 a0.resource v2 a2 _ (hv4)) ?_
 refine za4 rfl hG h (fun _ h=>?_) (fun _ h=>?_)
 · refine za0 (za1 hG ?_)
   refine za7 ?_
   exact zb0 h
 refine za5 ?_
 refine za0 (za1 hG ?_)
 obtain ⟨v5,hv5,h⟩:=za2 h
 refine za6 (fun hg=>zav2 a0 _ (hv5)) ?_
 refine za0 (za0 (za1 hG ?_))
 refine za4 rfl hG h (fun _ h=>?_) (fun _ h=>?_)
 · refine za0 (za1 hG ?_)
   refine za7 ?_
   exact zb0 h
 refine za5 ?_
 refine za0 (za1 hG ?_)
 obtain ⟨v6,hv6,h⟩:=za2 h
 refine zk2 [(0,5),(1,6),(2,1),(3,2)] [] [0,1,2,3] (zaA4 v5 a1 a2 _ hv6) rfl rfl ?_
 refine za7 ?_
 exact zb0 h
attribute [local irreducible] zB5
noncomputable def zS4  (j1:(List Event)):Option ((List Event)) :=
 some j1
@[go_sem] def zeo1  (j1:(List Event)):St:=⟨[(2,.own 1 0 j1.length)],[(1,⟨false,7,(Event.enc Event.zero),j1.map Event.enc⟩)],2⟩
noncomputable def zag3 (a0:ByteArray) (a1:List Hold) (g1:Int×(List Event)):Option ((Int×(List Event))⊕(((List Event)))) :=
 (if (decide (g1.1 < (a1.length:Int)))=true then
  gd (0≤g1.1∧g1.1 < (a1.length:Int)) <|
  gd (g1.2.length+1≤4294967296) <|
  some (.inl ((IntKind.i64.wrap (g1.1+1)),(g1.2++[(⟨1,(a1.getD g1.1.toNat Hold.zero).proc,a0,(a1.getD g1.1.toNat Hold.zero).amount⟩:Event)])))
 else
  some (.inr g1.2))
@[go_sem] def zeo2 (a0:ByteArray) (a1:List Hold) (g1:Int×(List Event)):St:=⟨[(0,.str a0),(2,.own 1 0 g1.2.length),(9,.sl (a1.map Hold.enc)),(10,.int .i64 (a1.length:Int)),(11,.int .i64 g1.1)],[(1,⟨false,7,(Event.enc Event.zero),g1.2.map Event.enc⟩)],2⟩
noncomputable def zv9 (a0:ByteArray) (a1:List Hold) (a2:List Event):Option ((List Event)) :=
 (zb9 (zag3 a0 a1) (0,a2)).bind (fun z=>zS4 z)
theorem zaH4 (a0:ByteArray) (a1:List Hold) (a2:List Event) (r:(List Event)) (h:zv9 a0 a1 a2=some r):MFn C 58 [.str a0,.sl (a1.map Hold.enc),.own 0 0 a2.length] [(0,⟨false,7,(Event.enc Event.zero),a2.map Event.enc⟩)] 1 (.sl (r.map Event.enc)) [] 1:=by
 refine zn5 (rl:=[.sl (r.map Event.enc)]) zeP8 rfl rfl rfl rfl fun E hG hN hK=>?_
 unfold zdV9
 unfold zv9 at h
 refine za0 (za1 hG ?_)
 refine za0 (za0 (za1 hG ?_))
 refine zb4 (zeo1) (fun v=>zS4 v=some r) ?_ ?_
 · intro j1 h
   unfold zS4 at h
   refine g_st ?_
   refine za0 (za1 hG ?_)
   refine g_gh (.fz [1]) ?_
   refine za7 ?_
   exact zC2 [] h
 refine zd9 (zeo2 a0 a1) hK [(1,0)] h (fun x_l1 h g1 y_l1 h_l1 hx_l1=>?_)
 unfold zag3 at h_l1
 refine g_st ?_
 refine za0 (za1 hG ?_)
 refine za0 ?_
 refine za4 rfl hG h_l1 (fun _ h_l1=>?_) (fun _ h_l1=>?_)
 · refine za5 ?_
   refine za0 (zb6 (za0 ?_))
   obtain ⟨hb2,h_l1⟩:=za3 h_l1
   refine za1 hG ?_
   obtain ⟨hb1,h_l1⟩:=za3 h_l1
   refine za1 hG ?_
   refine za1 hG ?_
   exact zd1 hK [(1,3)] h_l1
 refine zc7 ?_
 obtain rfl:=Option.some.inj h_l1
 have hx:=hx_l1 _ rfl
 subst hx
 try dsimp only at h
 exact zc5 hK [(1,1)] g1.2 (by exact h)
attribute [local irreducible] zv9
noncomputable def zB6 (a0:List Queue) (a1:Proc) (a2:Atom):Option ((List Queue)×(List Event)×Int) :=
 (zx1 a0 a2.name).bind fun v1 =>
 (if (!decide (v1.2=0))=true then
  some ([],[],v1.2)
 else
  gd (0≤v1.1∧v1.1 < (a0.length:Int)) <|
  (zB5 (a0.getD v1.1.toNat Queue.zero) a1 a2.amount).bind fun v2 =>
  (if (!decide (v2.2.2=0))=true then
   some ([],[],v2.2.2)
  else
   gd (0≤v1.1∧v1.1 < (a0.length:Int)) <|
   (zh2 (a0.getD v1.1.toNat Queue.zero) a1).bind fun v3 =>
   (if (decide (a2.amount=v3))=true then
    (zf9 a0 v1.1 v2.1).bind fun v4 =>
    some (v4,[],0)
   else
    (zf9 a0 v1.1 v2.1).bind fun v5 =>
    (zv9 a2.name v2.2.1 [(zQ0 a1 a2.name a2.amount)]).bind fun v6 =>
    some (v5,v6,0))))
theorem zbb8 (a0:List Queue) (a1:Proc) (a2:Atom) (r:(List Queue)×(List Event)×Int) (h:zB6 a0 a1 a2=some r):PFn C 43 [.sl (a0.map Queue.enc),.agg (Proc.enc a1),.agg (Atom.enc a2)] (.tup [.sl (r.1.map Queue.enc),.sl (r.2.1.map Event.enc),.int .i64 r.2.2]):=by
 refine za8 zeP9 rfl fun E hG hN hK=>?_
 unfold zdX0
 unfold zB6 at h
 refine za0 (za1 hG ?_)
 refine za0 (za1 hG ?_)
 obtain ⟨v1,hv1,h⟩:=za2 h
 refine za6 (fun hg=>zau7 a0 a2.name _ (hv1)) ?_
 refine za0 (za0 (za1 hG ?_))
 refine za4 rfl hG h (fun _ h=>?_) (fun _ h=>?_)
 · refine za0 (za1 hG ?_)
   refine za7 ?_
   exact zb0 h
 refine za5 ?_
 refine za0 ?_
 obtain ⟨hb2,h⟩:=za3 h
 refine zB2 zd2 hG ?_
 obtain ⟨v2,hv2,h⟩:=za2 h
 refine zt8 (fun hg=>zbb7 (a0.getD v1.1.toNat Queue.zero) a1 a2.amount _ (hv2)) ?_
 refine za0 (za0 (za1 hG ?_))
 refine za4 rfl hG h (fun _ h=>?_) (fun _ h=>?_)
 · refine za0 (za1 hG ?_)
   refine za7 ?_
   exact zb0 h
 refine za5 ?_
 refine za0 (za0 ?_)
 obtain ⟨hb1,h⟩:=za3 h
 refine zn3 zd2 hG ?_
 obtain ⟨v3,hv3,h⟩:=za2 h
 refine zf7 (fun hg=>zK2 (a0.getD v1.1.toNat Queue.zero) a1 _ (hv3)) ?_
 refine za4 rfl hG h (fun _ h=>?_) (fun _ h=>?_)
 · refine za0 (za1 hG ?_)
   obtain ⟨v4,hv4,h⟩:=za2 h
   refine za6 (fun hg=>zO7 a0 v1.1 v2.1 _ (hv4)) ?_
   refine za7 ?_
   exact zb0 h
 refine za5 ?_
 refine za0 (zB2 zd2 hG ?_)
 obtain ⟨v5,hv5,h⟩:=za2 h
 refine zt8 (fun hg=>zO7 a0 v1.1 v2.1 _ (hv5)) ?_
 refine zt8 (fun hg=>zbh9 a1 a2.name a2.amount) ?_
 obtain ⟨v6,hv6,h⟩:=za2 h
 refine zQ8 [(0,3)] [] [0] (zaH4 a2.name v2.2.1 [(zQ0 a1 a2.name a2.amount)] _ hv6) rfl rfl ?_
 refine za7 ?_
 exact zb0 h
attribute [local irreducible] zB6
noncomputable def zaN0  (j1:(List Proc)):Option ((List Proc)) :=
 some j1
@[go_sem] def zeZ5  (j1:(List Proc)):St:=⟨[(3,.own 0 0 j1.length)],[(0,⟨false,3,(Proc.enc Proc.zero),j1.map Proc.enc⟩)],1⟩
noncomputable def zaN1 (a0:List Hold) (g1:Int×(List Proc)):Option ((Int×(List Proc))⊕(((List Proc)))) :=
 (if (decide (g1.1 < (a0.length:Int)))=true then
  gd (0≤g1.1∧g1.1 < (a0.length:Int)) <|
  gd (g1.2.length+1≤4294967296) <|
  some (.inl ((IntKind.i64.wrap (g1.1+1)),(g1.2++[(a0.getD g1.1.toNat Hold.zero).proc])))
 else
  some (.inr g1.2))
@[go_sem] def zeZ6 (a0:List Hold) (g1:Int×(List Proc)):St:=⟨[(0,.sl (a0.map Hold.enc)),(3,.own 0 0 g1.2.length),(4,.int .i64 g1.1)],[(0,⟨false,3,(Proc.enc Proc.zero),g1.2.map Proc.enc⟩)],1⟩
noncomputable def zak8 (a0:List Hold):Option ((List Proc)) :=
 (zb9 (zaN1 a0) (0,[])).bind (fun z=>zaN0 z)
attribute [local irreducible] zak8
noncomputable def zag4  (j1:(List Proc)):Option ((List Proc)) :=
 some j1
@[go_sem] def zeZ7  (j1:(List Proc)):St:=⟨[(3,.own 0 0 j1.length)],[(0,⟨false,3,(Proc.enc Proc.zero),j1.map Proc.enc⟩)],1⟩
noncomputable def zJ3 (a0:List Hold) (g1:Int×(List Proc)):Option ((Int×(List Proc))⊕(((List Proc)))) :=
 (if (decide (g1.1 < (a0.length:Int)))=true then
  gd (0≤g1.1∧g1.1 < (a0.length:Int)) <|
  gd (g1.2.length+1≤4294967296) <|
  some (.inl ((IntKind.i64.wrap (g1.1+1)),(g1.2++[(a0.getD g1.1.toNat Hold.zero).proc])))
 else
  some (.inr g1.2))
@[go_sem] def zeZ8 (a0:List Hold) (g1:Int×(List Proc)):St:=⟨[(3,.own 0 0 g1.2.length),(6,.sl (a0.map Hold.enc)),(7,.int .i64 (a0.length:Int)),(8,.int .i64 g1.1)],[(0,⟨false,3,(Proc.enc Proc.zero),g1.2.map Proc.enc⟩)],1⟩
noncomputable def zE3 (a0:List Hold):Option ((List Proc)) :=
 (zb9 (zJ3 a0) (0,[])).bind (fun z=>zag4 z)
attribute [local irreducible] zE3
end Ab
end Go.Proofs.YtfjeceicgfdmjaaGreatDoor
