/-
  Functions of the program,as Lean functions; what the program's code computes is what they say.
-/
import Derived.Test.YtfjeceicgfdmjaaGreatDoorFn4
namespace Go.Proofs.YtfjeceicgfdmjaaGreatDoor
namespace Ab
set_option linter.unusedSimpArgs false
set_option linter.unusedVariables false
set_option maxRecDepth 100000
set_option maxHeartbeats 1000000
attribute [local irreducible] zf3 zd1 zj4 zv1 zv2 zg6 ze1 zo1 zv3 zs1 zn4 zj5 ze0 zg7 zf4 zg8 zl9 zh2 zm5 zk0 zg9 ze5 zm9 zf8 zo2 zp5 zi1 zi8 zj8 zj6 zh5 zh0 zc8 zc6 zo3 zq7 zb7 zc0 zh1 zo4 zk1 zk2 zr8 zw5 zc9 zc2 zj7 zj9 zl3 zF5 zq9 zk3 ze3 zm1 zr0 zk4 zk5 zr1 zf5 zl4 zt0 zm2 zm3 zk6 zi4 zu0 zP0 zR4 zo5 zi9 zo6 zn0 zr2 zv4 zo7 zx1 zs7 zx2 zl5 zk8 zt3 zo8 zt4 zl6 zi6 zt5 zo9 zk9 zu1 zl7 zu2 zp6 zH4 zA7 zr9 zs0 zi2 zu3 zr3 zi3 zi7 zx3 zC8 zad6 zd6 zp7 zn5 zE5 zx4 zl8 zu4 zu5 zx5 zx6 zx7 zn1 zr4 zn6 zm4 zn7 zn8 zq1
noncomputable def zy5 (a0:Queue) (a1:Proc):Option (Queue×(List Hold)×Int) :=
 (zh5 a0).bind fun v1 =>
 (if (!v1)=true then
  some ({ Queue.zero with  },[],2)
 else
  (zo4 a0).bind fun v2 =>
  (zj7 v2 a1).bind fun v3 =>
  (if (!v3)=true then
   some ({ Queue.zero with  },[],10)
  else
   (zr4 a0).bind fun v4 =>
   (zq1 v4 a1).bind fun v5 =>
   some (v5.1,v5.2.1,v5.2.2.1)))
theorem zaT7 (a0:Queue) (a1:Proc) (r:Queue×(List Hold)×Int) (h:zy5 a0 a1=some r):PFn C 65 [.agg (Queue.enc a0),.agg (Proc.enc a1)] (.tup [.agg (Queue.enc r.1),.sl (r.2.1.map Hold.enc),.int .i64 r.2.2]):=by
 refine za8 zeG9 rfl fun E hG hN hK=>?_
 unfold zdU3
 unfold zy5 at h
 refine za0 (za1 hG ?_)
 refine za0 (za0 (za1 hG ?_))
 obtain ⟨v1,hv1,h⟩:=za3 h
 refine za6 (fun hg=>zaf6 a0 _ (hv1)) ?_
 refine za4 rfl hG h (fun _ h=>?_) (fun _ h=>?_)
 · refine za0 (za1 hG ?_)
   refine za7 ?_
   exact zb0 h
 refine za5 ?_
 refine za0 (za0 (zp1 zd9 hG ?_))
 obtain ⟨v2,hv2,h⟩:=za3 h
 refine zh7 (fun hg=>zav8 a0 _ (hv2)) ?_
 obtain ⟨v3,hv3,h⟩:=za3 h
 refine zh7 (fun hg=>zan8 v2 a1 _ (hv3)) ?_
 refine za4 rfl hG h (fun _ h=>?_) (fun _ h=>?_)
 · refine za0 (za1 hG ?_)
   refine za7 ?_
   exact zb0 h
 refine za5 ?_
 refine za0 (za1 hG ?_)
 obtain ⟨v4,hv4,h⟩:=za3 h
 refine za6 (fun hg=>zbc2 a0 _ (hv4)) ?_
 refine za0 (za1 hG ?_)
 obtain ⟨v5,hv5,h⟩:=za3 h
 refine zq0 [(0,3),(1,4),(2,1)] [] [0,1,2] (zaB2 v4 a1 _ hv5) rfl rfl ?_
 refine za7 ?_
 exact zb0 h
attribute [local irreducible] zy5
def zQ3 (a0:Proc) (a1:ByteArray) (a2:Amount):Event :=
 (⟨3,a0,a1,a2⟩:Event)
theorem zbi1 (a0:Proc) (a1:ByteArray) (a2:Amount):PFn C 67 [.agg (Proc.enc a0),.str a1,.agg (Amount.enc a2)] (.agg (Event.enc (zQ3 a0 a1 a2))):=by
 generalize h:zQ3 a0 a1 a2=r
 refine za8 zeH0 rfl fun E hG hN hK=>?_
 unfold zdU6
 unfold zQ3 at h
 refine za0 (za1 hG ?_)
 refine za0 (za1 hG ?_)
 refine za7 ?_
 exact zf1 h
noncomputable def zS8  (j1:(List Event)):Option ((List Event)) :=
 some j1
@[go_sem] def zeo8  (j1:(List Event)):St:=⟨[(2,.own 1 0 j1.length)],[(1,⟨false,7,(Event.enc Event.zero),j1.map Event.enc⟩)],2⟩
noncomputable def zI8 (a0:ByteArray) (a1:List Hold) (g1:Int×(List Event)):Option ((Int×(List Event))⊕(((List Event)))) :=
 (if (decide (g1.1 < (a1.length:Int)))=true then
  gd (0≤g1.1∧g1.1 < (a1.length:Int)) <|
  gd (g1.2.length+1≤4294967296) <|
  some (.inl ((IntKind.i64.wrap (g1.1+1)),(g1.2++[(⟨1,(a1.getD g1.1.toNat Hold.zero).proc,a0,(a1.getD g1.1.toNat Hold.zero).amount⟩:Event)])))
 else
  some (.inr g1.2))
@[go_sem] def zeo9 (a0:ByteArray) (a1:List Hold) (g1:Int×(List Event)):St:=⟨[(0,.str a0),(2,.own 1 0 g1.2.length),(9,.sl (a1.map Hold.enc)),(10,.int .i64 (a1.length:Int)),(11,.int .i64 g1.1)],[(1,⟨false,7,(Event.enc Event.zero),g1.2.map Event.enc⟩)],2⟩
noncomputable def zv5 (a0:ByteArray) (a1:List Hold) (a2:List Event):Option ((List Event)) :=
 (zc1 (zI8 a0 a1) (0,a2)).bind (fun z=>zS8 z)
theorem zaH9 (a0:ByteArray) (a1:List Hold) (a2:List Event) (r:(List Event)) (h:zv5 a0 a1 a2=some r):MFn C 58 [.str a0,.sl (a1.map Hold.enc),.own 0 0 a2.length] [(0,⟨false,7,(Event.enc Event.zero),a2.map Event.enc⟩)] 1 (.own 1 0 r.length) [(1,⟨false,7,(Event.enc Event.zero),r.map Event.enc⟩)] 2:=by
 refine zn3 (rl:=[.own 1 0 r.length]) zeH1 rfl rfl rfl rfl fun E hG hN hK=>?_
 unfold zdV4
 unfold zv5 at h
 refine za0 (za1 hG ?_)
 refine za0 (za0 (za1 hG ?_))
 refine zb5 (zeo8) (fun v=>zS8 v=some r) ?_ ?_
 · intro j1 h
   unfold zS8 at h
   refine g_st ?_
   refine za0 (za1 hG ?_)
   refine za7 ?_
   exact zA5 [(1,1)] h
 refine zd8 (zeo9 a0 a1) hK [(1,0)] h (fun x_l1 h g1 y_l1 h_l1 hx_l1=>?_)
 unfold zI8 at h_l1
 refine g_st ?_
 refine za0 (za1 hG ?_)
 refine za0 ?_
 refine za4 rfl hG h_l1 (fun _ h_l1=>?_) (fun _ h_l1=>?_)
 · refine za5 ?_
   refine za0 (zb6 (za0 ?_))
   obtain ⟨hb2,h_l1⟩:=za2 h_l1
   refine za1 hG ?_
   obtain ⟨hb1,h_l1⟩:=za2 h_l1
   refine za1 hG ?_
   refine za1 hG ?_
   exact zc7 hK [(1,3)] h_l1
 refine zc3 ?_
 obtain rfl:=Option.some.inj h_l1
 have hx:=hx_l1 _ rfl
 subst hx
 try dsimp only at h
 exact zc5 hK [(1,1)] g1.2 (by exact h)
attribute [local irreducible] zv5
noncomputable def zV6  (j1:(List Queue)×(List Event)):Option ((List Queue)×(List Event)) :=
 some (j1.1,j1.2)
@[go_sem] def zep0  (j1:(List Queue)×(List Event)):St:=⟨[(6,.own 0 0 j1.1.length),(7,.own 1 0 j1.2.length)],[(0,⟨false,8,(Queue.enc Queue.zero),j1.1.map Queue.enc⟩),(1,⟨false,7,(Event.enc Event.zero),j1.2.map Event.enc⟩)],2⟩
noncomputable def zz1 (a0:List Queue) (g1:Int×(List Queue)×(List Event)) (v3:Queue×(List Hold)×Int) (j2:(List Event)):Option ((Int×(List Queue)×(List Event))⊕(((List Queue)×(List Event)))) :=
 (zv5 (((a0.getD g1.1.toNat Queue.zero).resource).name) v3.2.1 j2).bind fun v5 =>
 gd (0≤g1.1∧g1.1 < ((g1.2.1.length:Nat):Int)) <|
 some (.inl ((IntKind.i64.wrap (g1.1+1)),(g1.2.1.set g1.1.toNat v3.1),v5))
@[go_sem] def zep1 (a0:List Queue) (a1:Proc) (g1:Int×(List Queue)×(List Event)) (v3:Queue×(List Hold)×Int) (j2:(List Event)):St:=⟨[(3,.ptr 0 0 0),(6,.own 1 0 g1.2.1.length),(7,.own 2 0 j2.length),(8,.int .i64 g1.1),(9,.ptr 3 0 0),(10,.ptr 4 0 0),(11,.sl (v3.2.1.map Hold.enc)),(19,.sl (a0.map Queue.enc)),(20,.int .i64 (a0.length:Int)),(21,.int .i64 g1.1)],[(0,⟨false,3,(Proc.enc Proc.zero),[Proc.enc a1]⟩),(1,⟨false,8,(Queue.enc Queue.zero),g1.2.1.map Queue.enc⟩),(2,⟨false,7,(Event.enc Event.zero),j2.map Event.enc⟩),(3,⟨false,8,(Queue.enc Queue.zero),[Queue.enc (a0.getD g1.1.toNat Queue.zero)]⟩),(4,⟨false,8,(Queue.enc Queue.zero),[Queue.enc v3.1]⟩)],5⟩
noncomputable def zL5 (a0:List Queue) (a1:Proc) (g1:Int×(List Queue)×(List Event)):Option ((Int×(List Queue)×(List Event))⊕(((List Queue)×(List Event)))) :=
 (if (decide (g1.1 < (a0.length:Int)))=true then
  gd (0≤g1.1∧g1.1 < (a0.length:Int)) <|
  (zy5 (a0.getD g1.1.toNat Queue.zero) a1).bind fun v3 =>
  (if (!decide (v3.2.2=0))=true then
   some (.inl ((IntKind.i64.wrap (g1.1+1)),g1.2.1,g1.2.2))
  else
   (zh2 (a0.getD g1.1.toNat Queue.zero) a1).bind fun v4 =>
   (if (!decide (v4={ Amount.zero with  }))=true then
    gd (g1.2.2.length+1≤4294967296) <|
    zz1 a0 g1 v3 (g1.2.2++[(zQ3 a1 (((a0.getD g1.1.toNat Queue.zero).resource).name) ({ Amount.zero with  }))])
   else
    zz1 a0 g1 v3 g1.2.2))
 else
  some (.inr (g1.2.1,g1.2.2)))
@[go_sem] def zep2 (a0:List Queue) (a1:Proc) (g1:Int×(List Queue)×(List Event)):St:=⟨[(3,.ptr 0 0 0),(6,.own 1 0 g1.2.1.length),(7,.own 2 0 g1.2.2.length),(19,.sl (a0.map Queue.enc)),(20,.int .i64 (a0.length:Int)),(21,.int .i64 g1.1)],[(0,⟨false,3,(Proc.enc Proc.zero),[Proc.enc a1]⟩),(1,⟨false,8,(Queue.enc Queue.zero),g1.2.1.map Queue.enc⟩),(2,⟨false,7,(Event.enc Event.zero),g1.2.2.map Event.enc⟩)],3⟩
noncomputable def zr5 (a0:List Queue) (a1:Proc):Option ((List Queue)×(List Event)) :=
 (zk2 a0).bind fun v1 =>
 (if (!v1)=true then
  some ([],[])
 else
  (zn1 a0 (-1) ({ Queue.zero with  })).bind fun v2 =>
  (zc1 (zL5 a0 a1) (0,v2,[])).bind (fun z=>zV6 z))
theorem zac8 (a0:List Queue) (a1:Proc) (r:(List Queue)×(List Event)) (h:zr5 a0 a1=some r):PFn C 26 [.sl (a0.map Queue.enc),.agg (Proc.enc a1)] (.tup [.sl (r.1.map Queue.enc),.sl (r.2.map Event.enc)]):=by
 refine za8 zeH2 rfl fun E hG hN hK=>?_
 unfold zdW5
 unfold zr5 at h
 refine za0 (za1 hG ?_)
 refine za0 (za0 (za1 hG ?_))
 obtain ⟨v1,hv1,h⟩:=za3 h
 refine za6 (fun hg=>zU4 a0 _ (hv1)) ?_
 refine za4 rfl hG h (fun _ h=>?_) (fun _ h=>?_)
 · refine za0 (za1 hG ?_)
   refine za7 ?_
   exact zb0 h
 refine za5 ?_
 refine za0 (za1 hG ?_)
 obtain ⟨v2,hv2,h⟩:=za3 h
 refine zq0 [] [(0,1)] [0] (zaB1 a0 (-1) ({ Queue.zero with  }) _ hv2) rfl rfl ?_
 refine za0 (za1 hG ?_)
 refine za0 (za0 (za1 hG ?_))
 refine zb5 (zep0) (fun v=>zV6 v=some r) ?_ ?_
 · intro j1 h
   unfold zV6 at h
   refine g_st ?_
   refine za0 (za1 hG ?_)
   refine za7 ?_
   exact zb0 h
 refine zd8 (zep2 a0 a1) hK [(0,0),(1,1),(2,2)] h (fun x_l1 h g1 y_l1 h_l1 hx_l1=>?_)
 unfold zL5 at h_l1
 refine g_st ?_
 refine za0 (za1 hG ?_)
 refine za0 ?_
 refine za4 rfl hG h_l1 (fun _ h_l1=>?_) (fun _ h_l1=>?_)
 · refine za5 ?_
   refine za0 (zb6 (za0 ?_))
   obtain ⟨hb3,h_l1⟩:=za2 h_l1
   refine za1 hG ?_
   refine za0 (za1 hG ?_)
   obtain ⟨v3,hv3,h_l1⟩:=za3 h_l1
   refine za6 (fun hg=>zaT7 (a0.getD g1.1.toNat Queue.zero) a1 _ (hv3)) ?_
   refine za0 (za0 (za1 hG ?_))
   refine za4 rfl hG h_l1 (fun _ h_l1=>?_) (fun _ h_l1=>?_)
   · refine zc3 ?_
     refine za1 hG ?_
     exact zc7 hK [(0,0),(1,1),(2,2)] h_l1
   refine za5 ?_
   refine za0 (za0 (za1 hG ?_))
   obtain ⟨v4,hv4,h_l1⟩:=za3 h_l1
   refine za6 (fun hg=>zR2 (a0.getD g1.1.toNat Queue.zero) a1 _ (hv4)) ?_
   refine zaV7 (zep1 a0 a1 g1 v3) (fun v=>zz1 a0 g1 v3 v=some y_l1) rfl hG h_l1 ?_ (fun _ h_l1=>?_) (fun _ h_l1=>?_)
   · intro j2 h_l1
     unfold zz1 at h_l1
     refine g_st ?_
     refine za0 (za1 hG ?_)
     obtain ⟨v5,hv5,h_l1⟩:=za3 h_l1
     refine zq0 [(0,2)] [(1,5)] [0,1] (zaH9 (((a0.getD g1.1.toNat Queue.zero).resource).name) v3.2.1 j2 _ hv5) rfl rfl ?_
     obtain ⟨hb1,h_l1⟩:=za2 h_l1
     refine za1 hG ?_
     refine za1 hG ?_
     exact zc7 hK [(0,0),(1,1),(2,5)] h_l1
   · refine za1 hG ?_
     obtain ⟨hb2,h_l1⟩:=za2 h_l1
     refine za6 (fun hg=>zbi1 a1 (((a0.getD g1.1.toNat Queue.zero).resource).name) ({ Amount.zero with  })) ?_
     exact zc5 hK [(0,0),(1,1),(2,5),(3,3),(4,4)] (g1.2.2++[(zQ3 a1 (((a0.getD g1.1.toNat Queue.zero).resource).name) ({ Amount.zero with  }))]) (by exact h_l1)
   refine za5 ?_
   exact zc5 hK [(0,0),(1,1),(2,2),(3,3),(4,4)] g1.2.2 (by exact h_l1)
 refine zc3 ?_
 obtain rfl:=Option.some.inj h_l1
 have hx:=hx_l1 _ rfl
 subst hx
 try dsimp only at h
 exact zc5 hK [(0,1),(1,2)] (g1.2.1,g1.2.2) (by exact h)
attribute [local irreducible] zr5
noncomputable def zaI0  (j1:(List Atom)):Option ((List Atom)) :=
 some j1
@[go_sem] def zeZ9  (j1:(List Atom)):St:=⟨[(5,.own 0 0 j1.length)],[(0,⟨false,3,(Atom.enc Atom.zero),j1.map Atom.enc⟩)],1⟩
noncomputable def zaI1 (a0:List Queue) (a1:Proc) (g1:Int×(List Atom)):Option ((Int×(List Atom))⊕(((List Atom)))) :=
 (if (decide (g1.1 < (a0.length:Int)))=true then
  gd (0≤g1.1∧g1.1 < (a0.length:Int)) <|
  (zj9 (a0.getD g1.1.toNat Queue.zero) a1).bind fun v1 =>
  (if v1.2=true then
   gd (g1.2.length+1≤4294967296) <|
   some (.inl ((IntKind.i64.wrap (g1.1+1)),(g1.2++[(⟨((a0.getD g1.1.toNat Queue.zero).resource).name,v1.1⟩:Atom)])))
  else
   some (.inl ((IntKind.i64.wrap (g1.1+1)),g1.2)))
 else
  some (.inr g1.2))
@[go_sem] def zfa0 (a0:List Queue) (a1:Proc) (g1:Int×(List Atom)):St:=⟨[(3,.ptr 0 0 0),(5,.own 1 0 g1.2.length),(10,.sl (a0.map Queue.enc)),(11,.int .i64 (a0.length:Int)),(12,.int .i64 g1.1)],[(0,⟨false,3,(Proc.enc Proc.zero),[Proc.enc a1]⟩),(1,⟨false,3,(Atom.enc Atom.zero),g1.2.map Atom.enc⟩)],2⟩
noncomputable def zag7 (a0:List Queue) (a1:Proc):Option ((List Atom)) :=
 (zc1 (zaI1 a0 a1) (0,[])).bind (fun z=>zaI0 z)
attribute [local irreducible] zag7
noncomputable def zab3 (a0:Queue) (a1:Proc):Option (Bool) :=
 (zl7 a0 a1).bind fun v1 =>
 ((if (!v1.2)=true then zp6 a0 a1 else some (Amount.zero))).bind fun v2 =>
 some (v1.2||(!(zd0 v2)))
attribute [local irreducible] zab3
noncomputable def zV7 (a0:Queue) (a1:Proc):Option (Queue×(List Hold)×Int) :=
 (zk8 a0).bind fun v1 =>
 (if (!v1)=true then
  some ({ Queue.zero with  },[],2)
 else
  (zab3 a0 a1).bind fun v2 =>
  (if (!v2)=true then
   some ({ Queue.zero with  },[],10)
  else
   (zr9 a0).bind fun v3 =>
   (zs7 v3.holds a1 ({ Amount.zero with  })).bind fun v4 =>
   (zl8 (({ v3 with holds:=v4 }).converts) a1).bind fun v5 =>
   (zl8 (({ { v3 with holds:=v4 } with converts:=v5.1 }).waits) a1).bind fun v6 =>
   (zi2 ({ { { v3 with holds:=v4 } with converts:=v5.1 } with waits:=v6.1 })).bind fun v7 =>
   some (v7.1,v7.2.1,v7.2.2)))
attribute [local irreducible] zV7
noncomputable def zaI2  (j1:(List Queue)×(List Event)):Option ((List Queue)×(List Event)) :=
 some (j1.1,j1.2)
@[go_sem] def zfa1  (j1:(List Queue)×(List Event)):St:=⟨[(6,.own 0 0 j1.1.length),(7,.own 1 0 j1.2.length)],[(0,⟨false,8,(Queue.enc Queue.zero),j1.1.map Queue.enc⟩),(1,⟨false,7,(Event.enc Event.zero),j1.2.map Event.enc⟩)],2⟩
noncomputable def zaj8 (a1:Proc) (g1:Int×(List Queue)×(List Event)) (j2:(List Event)):Option ((Int×(List Queue)×(List Event))⊕(((List Queue)×(List Event)))) :=
 gd (0≤g1.1∧g1.1 < ((g1.2.1.length:Nat):Int)) <|
 (zV7 (g1.2.1.getD g1.1.toNat Queue.zero) a1).bind fun v4 =>
 gd (0≤g1.1∧g1.1 < ((g1.2.1.length:Nat):Int)) <|
 (zi7 v4.1.resource.name v4.2.1).bind fun v5 =>
 gd (j2.length+v5.length≤4294967296) <|
 some (.inl ((IntKind.i64.wrap (g1.1+1)),(g1.2.1.set g1.1.toNat v4.1),(j2++v5)))
@[go_sem] def zfa2 (a1:Proc) (g1:Int×(List Queue)×(List Event)) (j2:(List Event)):St:=⟨[(3,.ptr 0 0 0),(6,.own 1 0 g1.2.1.length),(7,.own 2 0 j2.length),(8,.int .i64 g1.1)],[(0,⟨false,3,(Proc.enc Proc.zero),[Proc.enc a1]⟩),(1,⟨false,8,(Queue.enc Queue.zero),g1.2.1.map Queue.enc⟩),(2,⟨false,7,(Event.enc Event.zero),j2.map Event.enc⟩)],3⟩
noncomputable def zaI3 (a1:Proc) (g1:Int×(List Queue)×(List Event)):Option ((Int×(List Queue)×(List Event))⊕(((List Queue)×(List Event)))) :=
 (if (decide (g1.1 < ((g1.2.1.length:Nat):Int)))=true then
  gd (0≤g1.1∧g1.1 < ((g1.2.1.length:Nat):Int)) <|
  (zab3 (g1.2.1.getD g1.1.toNat Queue.zero) a1).bind fun v2 =>
  (if (!v2)=true then
   some (.inl ((IntKind.i64.wrap (g1.1+1)),g1.2.1,g1.2.2))
  else
   gd (0≤g1.1∧g1.1 < ((g1.2.1.length:Nat):Int)) <|
   (zp6 (g1.2.1.getD g1.1.toNat Queue.zero) a1).bind fun v3 =>
   (if (!(zd0 v3))=true then
    gd (0≤g1.1∧g1.1 < ((g1.2.1.length:Nat):Int)) <|
    gd (g1.2.2.length+1≤4294967296) <|
    zaj8 a1 g1 (g1.2.2++[{ Event.zero with kind:=3,proc:=a1,name:=((g1.2.1.getD g1.1.toNat Queue.zero).resource).name }])
   else
    zaj8 a1 g1 g1.2.2))
 else
  some (.inr (g1.2.1,g1.2.2)))
@[go_sem] def zfa3 (a1:Proc) (g1:Int×(List Queue)×(List Event)):St:=⟨[(3,.ptr 0 0 0),(6,.own 1 0 g1.2.1.length),(7,.own 2 0 g1.2.2.length),(8,.int .i64 g1.1)],[(0,⟨false,3,(Proc.enc Proc.zero),[Proc.enc a1]⟩),(1,⟨false,8,(Queue.enc Queue.zero),g1.2.1.map Queue.enc⟩),(2,⟨false,7,(Event.enc Event.zero),g1.2.2.map Event.enc⟩)],3⟩
noncomputable def zV8 (a0:List Queue) (a1:Proc):Option ((List Queue)×(List Event)) :=
 (zk9 a0).bind fun v1 =>
 (if (!v1)=true then
  some ([],[])
 else
  gd (a0.length≤4294967296) <|
  (zc1 (zaI3 a1) (0,a0,[])).bind (fun z=>zaI2 z))
attribute [local irreducible] zV8
noncomputable def zY7  (j1:(List Queue)×(List Event)):Option ((List Queue)×(List Event)) :=
 some (j1.1,j1.2)
@[go_sem] def zep3  (j1:(List Queue)×(List Event)):St:=⟨[(8,.sl (j1.1.map Queue.enc)),(9,.own 0 0 j1.2.length)],[(0,⟨false,7,(Event.enc Event.zero),j1.2.map Event.enc⟩)],1⟩
noncomputable def zQ4 (a1:Int) (a2:Int) (v3:(List Proc)) (g1:(List Queue)×Int×(List Event)):Option (((List Queue)×Int×(List Event))⊕(((List Queue)×(List Event)))) :=
 (if (decide (g1.2.1 < (v3.length:Int)))=true then
  gd (0≤g1.2.1∧g1.2.1 < (v3.length:Int)) <|
  (if ((!decide ((v3.getD g1.2.1.toNat Proc.zero).site=a1))||(decide (a2≤(v3.getD g1.2.1.toNat Proc.zero).inc)))=true then
   some (.inl (g1.1,(IntKind.i64.wrap (g1.2.1+1)),g1.2.2))
  else
   (zr5 g1.1 (v3.getD g1.2.1.toNat Proc.zero)).bind fun v4 =>
   gd (g1.2.2.length+v4.2.length≤4294967296) <|
   some (.inl (v4.1,(IntKind.i64.wrap (g1.2.1+1)),(g1.2.2++v4.2))))
 else
  some (.inr (g1.1,g1.2.2)))
@[go_sem] def zep4 (a1:Int) (a2:Int) (v3:(List Proc)) (g1:(List Queue)×Int×(List Event)):St:=⟨[(1,.int .i64 a1),(2,.int .i64 a2),(8,.sl (g1.1.map Queue.enc)),(9,.own 0 0 g1.2.2.length),(21,.sl (v3.map Proc.enc)),(22,.int .i64 (v3.length:Int)),(23,.int .i64 g1.2.1)],[(0,⟨false,7,(Event.enc Event.zero),g1.2.2.map Event.enc⟩)],1⟩
noncomputable def zB3 (a0:List Queue) (a1:Int) (a2:Int):Option ((List Queue)×(List Event)) :=
 (zk2 a0).bind fun v1 =>
 (if (!v1)=true then
  some ([],[])
 else
  (zf5 a0 (-1) ({ Queue.zero with  })).bind fun v2 =>
  (zk1 a0).bind fun v3 =>
  (zc1 (zQ4 a1 a2 v3) (v2,0,[])).bind (fun z=>zY7 z))
theorem zbc3 (a0:List Queue) (a1:Int) (a2:Int) (r:(List Queue)×(List Event)) (h:zB3 a0 a1 a2=some r):PFn C 34 [.sl (a0.map Queue.enc),.int .i64 a1,.int .i64 a2] (.tup [.sl (r.1.map Queue.enc),.sl (r.2.map Event.enc)]):=by
 refine za8 zeK6 rfl fun E hG hN hK=>?_
 unfold zdX6
 unfold zB3 at h
 refine za0 (za1 hG ?_)
 refine za0 (za0 (za1 hG ?_))
 obtain ⟨v1,hv1,h⟩:=za3 h
 refine za6 (fun hg=>zU4 a0 _ (hv1)) ?_
 refine za4 rfl hG h (fun _ h=>?_) (fun _ h=>?_)
 · refine za0 (za1 hG ?_)
   refine za7 ?_
   exact zb0 h
 refine za5 ?_
 refine za0 (za1 hG ?_)
 obtain ⟨v2,hv2,h⟩:=za3 h
 refine za6 (fun hg=>zan9 a0 (-1) ({ Queue.zero with  }) _ (hv2)) ?_
 refine za0 (za1 hG ?_)
 refine za0 (za0 (za1 hG ?_))
 obtain ⟨v3,hv3,h⟩:=za3 h
 refine za6 (fun hg=>zU3 a0 _ (hv3)) ?_
 refine zb5 (zep3) (fun v=>zY7 v=some r) ?_ ?_
 · intro j1 h
   unfold zY7 at h
   refine g_st ?_
   refine za0 (za1 hG ?_)
   refine za7 ?_
   exact zb0 h
 refine zd8 (zep4 a1 a2 v3) hK [(0,0)] h (fun x_l1 h g1 y_l1 h_l1 hx_l1=>?_)
 unfold zQ4 at h_l1
 refine g_st ?_
 refine za0 (za1 hG ?_)
 refine za0 ?_
 refine za4 rfl hG h_l1 (fun _ h_l1=>?_) (fun _ h_l1=>?_)
 · refine za5 ?_
   refine za0 (zb6 (za0 ?_))
   obtain ⟨hb2,h_l1⟩:=za2 h_l1
   refine za1 hG ?_
   refine za0 (za0 (za1 hG ?_))
   refine za4 rfl hG h_l1 (fun _ h_l1=>?_) (fun _ h_l1=>?_)
   · refine zc3 ?_
     refine za1 hG ?_
     exact zc7 hK [(0,0)] h_l1
   refine za5 ?_
   refine za0 (za1 hG ?_)
   obtain ⟨v4,hv4,h_l1⟩:=za3 h_l1
   refine za6 (fun hg=>zac8 g1.1 (v3.getD g1.2.1.toNat Proc.zero) _ (hv4)) ?_
   refine za0 (za1 hG ?_)
   obtain ⟨hb1,h_l1⟩:=za2 h_l1
   refine za1 hG ?_
   refine za1 hG ?_
   exact zc7 hK [(0,2)] h_l1
 refine zc3 ?_
 obtain rfl:=Option.some.inj h_l1
 have hx:=hx_l1 _ rfl
 subst hx
 try dsimp only at h
 exact zc5 hK [(0,0)] (g1.1,g1.2.2) (by exact h)
attribute [local irreducible] zB3
noncomputable def zaN1  (j1:(List Queue)×(List Event)):Option ((List Queue)×(List Event)) :=
 some (j1.1,j1.2)
@[go_sem] def zfa4  (j1:(List Queue)×(List Event)):St:=⟨[(0,.sl (j1.1.map Queue.enc)),(8,.own 0 0 j1.2.length)],[(0,⟨false,7,(Event.enc Event.zero),j1.2.map Event.enc⟩)],1⟩
noncomputable def zaN2 (a1:Int) (a2:Int) (v2:(List Proc)) (g1:(List Queue)×Int×(List Event)):Option (((List Queue)×Int×(List Event))⊕(((List Queue)×(List Event)))) :=
 (if (decide (g1.2.1 < (v2.length:Int)))=true then
  gd (0≤g1.2.1∧g1.2.1 < (v2.length:Int)) <|
  gd ((decide ((v2.getD g1.2.1.toNat Proc.zero).site=a1))=true→0≤g1.2.1∧g1.2.1 < (v2.length:Int)) <|
  (if ((decide ((v2.getD g1.2.1.toNat Proc.zero).site=a1))&&(decide ((v2.getD g1.2.1.toNat Proc.zero).inc < a2)))=true then
   gd (0≤g1.2.1∧g1.2.1 < (v2.length:Int)) <|
   (zV8 g1.1 (v2.getD g1.2.1.toNat Proc.zero)).bind fun v3 =>
   gd (g1.2.2.length+v3.2.length≤4294967296) <|
   some (.inl (v3.1,(IntKind.i64.wrap (g1.2.1+1)),(g1.2.2++v3.2)))
  else
   some (.inl (g1.1,(IntKind.i64.wrap (g1.2.1+1)),g1.2.2)))
 else
  some (.inr (g1.1,g1.2.2)))
@[go_sem] def zfa5 (a1:Int) (a2:Int) (v2:(List Proc)) (g1:(List Queue)×Int×(List Event)):St:=⟨[(0,.sl (g1.1.map Queue.enc)),(1,.int .i64 a1),(2,.int .i64 a2),(8,.own 0 0 g1.2.2.length),(9,.sl (v2.map Proc.enc)),(10,.int .i64 g1.2.1)],[(0,⟨false,7,(Event.enc Event.zero),g1.2.2.map Event.enc⟩)],1⟩
noncomputable def zal3 (a0:List Queue) (a1:Int) (a2:Int):Option ((List Queue)×(List Event)) :=
 (zk9 a0).bind fun v1 =>
 (if (!v1)=true then
  some ([],[])
 else
  (zo9 a0).bind fun v2 =>
  (zc1 (zaN2 a1 a2 v2) (a0,0,[])).bind (fun z=>zaN1 z))
attribute [local irreducible] zal3
noncomputable def zN6  (j1:Unit):Option (Bool) :=
 some true
@[go_sem] def zep5  (j1:Unit):St:=⟨[],[],0⟩
noncomputable def zab4 (a0:List Proc) (a1:List Proc) (g1:Int):Option ((Int)⊕((Unit)⊕(Bool))) :=
 (if (decide (g1 < (a0.length:Int)))=true then
  gd (0≤g1∧g1 < (a0.length:Int)) <|
  gd (0≤g1∧g1 < (a1.length:Int)) <|
  (if (!decide ((a0.getD g1.toNat Proc.zero)=(a1.getD g1.toNat Proc.zero)))=true then
   some (.inr (.inr false))
  else
   some (.inl (IntKind.i64.wrap (g1+1))))
 else
  some (.inr (.inl ())))
@[go_sem] def zep6 (a0:List Proc) (a1:List Proc) (g1:Int):St:=⟨[(0,.sl (a0.map Proc.enc)),(1,.sl (a1.map Proc.enc)),(5,.int .i64 g1)],[],0⟩
noncomputable def zq2 (a0:List Proc) (a1:List Proc):Option (Bool) :=
 (if (!decide ((a0.length:Int)=(a1.length:Int)))=true then
  some false
 else
  (zc1 (zab4 a0 a1) 0).bind (fun | .inl z=>zN6 z | .inr z=>some z))
theorem zaE4 (a0:List Proc) (a1:List Proc) (r:Bool) (h:zq2 a0 a1=some r):PFn C 39 [.sl (a0.map Proc.enc),.sl (a1.map Proc.enc)] (.bool r):=by
 refine za8 zeL7 rfl fun E hG hN hK=>?_
 unfold zdY6
 unfold zq2 at h
 refine za0 (za1 hG ?_)
 refine za0 (za0 (za1 hG ?_))
 refine za4 rfl hG h (fun _ h=>?_) (fun _ h=>?_)
 · refine za0 (za1 hG ?_)
   refine za7 ?_
   exact zb0 h
 refine za5 ?_
 refine za0 (za0 (za1 hG ?_))
 refine zb5 (zep5) (fun v=>zN6 v=some r) ?_ ?_
 · intro j1 h
   unfold zN6 at h
   refine g_st ?_
   refine za0 (za1 hG ?_)
   refine za7 ?_
   exact zb0 h
 refine zd8 (zep6 a0 a1) hK [] h (fun x_l1 h g1 y_l1 h_l1 hx_l1=>?_)
 unfold zab4 at h_l1
 refine g_st ?_
 refine za0 (za0 (za1 hG ?_))
 refine za4 rfl hG h_l1 (fun _ h_l1=>?_) (fun _ h_l1=>?_)
 · refine za5 ?_
   refine za0 (zb6 (za0 ?_))
   obtain ⟨hb1,h_l1⟩:=za2 h_l1
   obtain ⟨hb2,h_l1⟩:=za2 h_l1
   refine zp1 zd9 hG ?_
   refine za4 rfl hG h_l1 (fun _ h_l1=>?_) (fun _ h_l1=>?_)
   · refine za0 (za1 hG ?_)
     refine za7 ?_
     obtain rfl:=Option.some.inj h_l1
     have hx:=hx_l1 _ rfl
     subst hx
     try dsimp only at h
     exact zb0 h
   refine za5 ?_
   refine za1 hG ?_
   exact zc7 hK [] h_l1
 refine zc3 ?_
 obtain rfl:=Option.some.inj h_l1
 have hx:=hx_l1 _ rfl
 subst hx
 try dsimp only at h
 exact zc5 hK [] () (by exact h)
attribute [local irreducible] zq2
noncomputable def zI9 (a0:Queue) (a1:Proc):Option (Queue×Proc) :=
 (zm4 a0.converts a1).bind fun v1 =>
 some ({ a0 with converts:=v1.1 },a1)
attribute [local irreducible] zI9
noncomputable def zJ0 (a0:Queue) (a1:Proc):Option (Queue×Proc) :=
 (zm4 a0.waits a1).bind fun v1 =>
 some ({ a0 with waits:=v1.1 },a1)
attribute [local irreducible] zJ0
noncomputable def zaw5  (j1:Queue×Proc):Option (Queue×(List Hold)×Int×Queue×Proc) :=
 (ze3 j1.1).bind fun v1 =>
 some ({ v1.2 with gen:=(zg1 v1.2.gen) },v1.1,0,{ v1.2 with gen:=(zg1 v1.2.gen) },j1.2)
@[go_sem] def zfa6  (j1:Queue×Proc):St:=⟨[(0,.ptr 0 0 0),(4,.ptr 3 0 0)],[(0,⟨false,8,(Queue.enc Queue.zero),[Queue.enc j1.1]⟩),(1,⟨false,1,[A.any],[[.clo 121 [.ptr 0 0 0,.ptr 2 0 0]],[.clo 122 [.ptr 0 0 0,.ptr 2 0 0]]]⟩),(2,⟨false,3,(Proc.enc Proc.zero),[Proc.enc j1.2]⟩),(3,⟨false,8,(Queue.enc Queue.zero),[Queue.enc Queue.zero]⟩)],4⟩
noncomputable def zL6 (a0:Queue) (a1:Proc):Option (Queue×(List Hold)×Int×Queue×Proc) :=
 gd (0≤0∧0 < (2:Int)) <|
 (zI9 a0 a1).bind fun v2 =>
 gd (0≤1∧1 < (2:Int)) <|
 (zJ0 v2.1 v2.2).bind fun v3 =>
 zaw5 (v3.1,v3.2)
attribute [local irreducible] zL6
noncomputable def zV9 (a0:Queue) (a1:Proc):Option (Queue×(List Hold)×Int) :=
 (zh5 a0).bind fun v1 =>
 (if (!v1)=true then
  some ({ Queue.zero with  },[],2)
 else
  (zj9 a0 a1).bind fun v2 =>
  (if (!v2.2)=true then
   some ({ Queue.zero with  },[],10)
  else
   (zr4 a0).bind fun v3 =>
   (zL6 v3 a1).bind fun v4 =>
   some (v4.1,v4.2.1,v4.2.2.1)))
attribute [local irreducible] zV9
noncomputable def zag8 (a0:List Queue) (a1:Proc) (a2:ByteArray):Option ((List Queue)×(List Event)×Int) :=
 (zw5 a0 a2).bind fun v1 =>
 (if (!decide (v1.2=0))=true then
  some ([],[],v1.2)
 else
  gd (0≤v1.1∧v1.1 < (a0.length:Int)) <|
  (zV9 (a0.getD v1.1.toNat Queue.zero) a1).bind fun v2 =>
  (if (!decide (v2.2.2=0))=true then
   some ([],[],v2.2.2)
  else
   (zf5 a0 v1.1 v2.1).bind fun v3 =>
   (zl4 a2 v2.2.1).bind fun v4 =>
   some (v3,v4,0)))
attribute [local irreducible] zag8
noncomputable def zL7 (a0:Queue) (a1:Proc) (a2:Amount):Option (Queue×Proc×Amount) :=
 (zi8 a0.holds a1 a2).bind fun v1 =>
 some ({ a0 with holds:=v1 },a1,a2)
attribute [local irreducible] zL7
noncomputable def zaw6  (j1:Queue×Proc×Amount):Option (Queue×(List Hold)×Int×Queue×Proc×Amount) :=
 (ze3 j1.1).bind fun v1 =>
 some ({ v1.2 with gen:=(zg1 v1.2.gen) },v1.1,0,{ v1.2 with gen:=(zg1 v1.2.gen) },j1.2.1,j1.2.2)
@[go_sem] def zfa7  (j1:Queue×Proc×Amount):St:=⟨[(0,.ptr 0 0 0),(4,.ptr 4 0 0)],[(0,⟨false,8,(Queue.enc Queue.zero),[Queue.enc j1.1]⟩),(1,⟨false,1,[A.any],[[.clo 124 [.ptr 0 0 0,.ptr 2 0 0,.ptr 3 0 0]]]⟩),(2,⟨false,3,(Proc.enc Proc.zero),[Proc.enc j1.2.1]⟩),(3,⟨false,2,(Amount.enc Amount.zero),[Amount.enc j1.2.2]⟩),(4,⟨false,8,(Queue.enc Queue.zero),[Queue.enc Queue.zero]⟩)],5⟩
noncomputable def zL8 (a0:Queue) (a1:Proc) (a2:Amount):Option (Queue×(List Hold)×Int×Queue×Proc×Amount) :=
 gd (0≤0∧0 < (1:Int)) <|
 (zL7 a0 a1 a2).bind fun v2 =>
 zaw6 (v2.1,v2.2.1,v2.2.2)
attribute [local irreducible] zL8
noncomputable def zaa1 (a0:Queue) (a1:Proc) (a2:Amount):Option (Queue×(List Hold)×Int) :=
 (zh5 a0).bind fun v1 =>
 (if (!v1)=true then
  some ({ Queue.zero with  },[],2)
 else
  (zh2 a0 a1).bind fun v2 =>
  (if (zb8 v2)=true then
   some ({ Queue.zero with  },[],10)
  else
   (zm5 a0.converts a1).bind fun v3 =>
   (if (decide (0≤v3))=true then
    some ({ Queue.zero with  },[],14)
   else
    (zg9 a0.resource v2 a2).bind fun v4 =>
    (if (!v4)=true then
     some ({ Queue.zero with  },[],12)
    else
     (zr4 a0).bind fun v5 =>
     (if (decide (a2=v2))=true then
      some (v5,[],0)
     else
      (zL8 v5 a1 a2).bind fun v6 =>
      some (v6.1,v6.2.1,v6.2.2.1))))))
attribute [local irreducible] zaa1
noncomputable def zaE5  (j1:(List Event)):Option ((List Event)) :=
 some j1
@[go_sem] def zfa8  (j1:(List Event)):St:=⟨[(2,.own 1 0 j1.length)],[(1,⟨false,7,(Event.enc Event.zero),j1.map Event.enc⟩)],2⟩
noncomputable def zaE6 (a0:ByteArray) (a1:List Hold) (g1:Int×(List Event)):Option ((Int×(List Event))⊕(((List Event)))) :=
 (if (decide (g1.1 < (a1.length:Int)))=true then
  gd (0≤g1.1∧g1.1 < (a1.length:Int)) <|
  gd (g1.2.length+1≤4294967296) <|
  some (.inl ((IntKind.i64.wrap (g1.1+1)),(g1.2++[(⟨1,(a1.getD g1.1.toNat Hold.zero).proc,a0,(a1.getD g1.1.toNat Hold.zero).amount⟩:Event)])))
 else
  some (.inr g1.2))
@[go_sem] def zfa9 (a0:ByteArray) (a1:List Hold) (g1:Int×(List Event)):St:=⟨[(0,.str a0),(2,.own 1 0 g1.2.length),(9,.sl (a1.map Hold.enc)),(10,.int .i64 (a1.length:Int)),(11,.int .i64 g1.1)],[(1,⟨false,7,(Event.enc Event.zero),g1.2.map Event.enc⟩)],2⟩
noncomputable def zS1 (a0:ByteArray) (a1:List Hold) (a2:List Event):Option ((List Event)) :=
 (zc1 (zaE6 a0 a1) (0,a2)).bind (fun z=>zaE5 z)
attribute [local irreducible] zS1
noncomputable def zal4 (a0:List Queue) (a1:Proc) (a2:Atom):Option ((List Queue)×(List Event)×Int) :=
 (zw5 a0 a2.name).bind fun v1 =>
 (if (!decide (v1.2=0))=true then
  some ([],[],v1.2)
 else
  gd (0≤v1.1∧v1.1 < (a0.length:Int)) <|
  (zaa1 (a0.getD v1.1.toNat Queue.zero) a1 a2.amount).bind fun v2 =>
  (if (!decide (v2.2.2=0))=true then
   some ([],[],v2.2.2)
  else
   gd (0≤v1.1∧v1.1 < (a0.length:Int)) <|
   (zh2 (a0.getD v1.1.toNat Queue.zero) a1).bind fun v3 =>
   (if (decide (a2.amount=v3))=true then
    (zf5 a0 v1.1 v2.1).bind fun v4 =>
    some (v4,[],0)
   else
    (zf5 a0 v1.1 v2.1).bind fun v5 =>
    (zS1 a2.name v2.2.1 [(zQ3 a1 a2.name a2.amount)]).bind fun v6 =>
    some (v5,v6,0))))
attribute [local irreducible] zal4
noncomputable def zaN3  (j1:(List Proc)):Option ((List Proc)) :=
 some j1
@[go_sem] def zfb0  (j1:(List Proc)):St:=⟨[(3,.own 0 0 j1.length)],[(0,⟨false,3,(Proc.enc Proc.zero),j1.map Proc.enc⟩)],1⟩
noncomputable def zaN4 (a0:List Hold) (g1:Int×(List Proc)):Option ((Int×(List Proc))⊕(((List Proc)))) :=
 (if (decide (g1.1 < (a0.length:Int)))=true then
  gd (0≤g1.1∧g1.1 < (a0.length:Int)) <|
  gd (g1.2.length+1≤4294967296) <|
  some (.inl ((IntKind.i64.wrap (g1.1+1)),(g1.2++[(a0.getD g1.1.toNat Hold.zero).proc])))
 else
  some (.inr g1.2))
@[go_sem] def zfb1 (a0:List Hold) (g1:Int×(List Proc)):St:=⟨[(0,.sl (a0.map Hold.enc)),(3,.own 0 0 g1.2.length),(4,.int .i64 g1.1)],[(0,⟨false,3,(Proc.enc Proc.zero),g1.2.map Proc.enc⟩)],1⟩
noncomputable def zal5 (a0:List Hold):Option ((List Proc)) :=
 (zc1 (zaN4 a0) (0,[])).bind (fun z=>zaN3 z)
attribute [local irreducible] zal5
noncomputable def zag9  (j1:(List Proc)):Option ((List Proc)) :=
 some j1
@[go_sem] def zfb2  (j1:(List Proc)):St:=⟨[(3,.own 0 0 j1.length)],[(0,⟨false,3,(Proc.enc Proc.zero),j1.map Proc.enc⟩)],1⟩
noncomputable def zJ1 (a0:List Hold) (g1:Int×(List Proc)):Option ((Int×(List Proc))⊕(((List Proc)))) :=
 (if (decide (g1.1 < (a0.length:Int)))=true then
  gd (0≤g1.1∧g1.1 < (a0.length:Int)) <|
  gd (g1.2.length+1≤4294967296) <|
  some (.inl ((IntKind.i64.wrap (g1.1+1)),(g1.2++[(a0.getD g1.1.toNat Hold.zero).proc])))
 else
  some (.inr g1.2))
@[go_sem] def zfb3 (a0:List Hold) (g1:Int×(List Proc)):St:=⟨[(3,.own 0 0 g1.2.length),(6,.sl (a0.map Hold.enc)),(7,.int .i64 (a0.length:Int)),(8,.int .i64 g1.1)],[(0,⟨false,3,(Proc.enc Proc.zero),g1.2.map Proc.enc⟩)],1⟩
noncomputable def zD5 (a0:List Hold):Option ((List Proc)) :=
 (zc1 (zJ1 a0) (0,[])).bind (fun z=>zag9 z)
attribute [local irreducible] zD5
end Ab
end Go.Proofs.YtfjeceicgfdmjaaGreatDoor
