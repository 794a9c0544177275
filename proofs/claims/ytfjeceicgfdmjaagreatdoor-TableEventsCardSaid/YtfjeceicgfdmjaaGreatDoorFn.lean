/-
  Functions of the program,as Lean functions; what the program's code computes is what they say.
-/
import Derived.Test.YtfjeceicgfdmjaaGreatDoorFn4
namespace Go.Proofs.YtfjeceicgfdmjaaGreatDoor
namespace Ab
set_option linter.unusedSimpArgs false
set_option linter.unusedVariables false
set_option maxRecDepth 100000
set_option maxHeartbeats 1000000
attribute [local irreducible] zf5 zd4 zj8 zw0 zw1 zh4 ze3 zo4 zw2 zs8 zq6 zj9 ze0 zh5 zf6 zh2 zm1 zh6 zl6 zk4 zh3 zf0 zn3 zg6 zo6 zp5 zi8 zj0 zk0 zk1 zi0 zh7 zc9 zc7 zo7 zr5 zc0 zc2 zh8 zo8 zm2 zk6 zt0 zy3 zd3 zc5 zk2 zk3 zm3 zH2 zr6 zl0 ze4 zn4 zr7 zl1 zl2 zr8 zf4 zl7 zv5 zn5 zr9 zj1 zx9 zT3 zT4 zY2 zp6 zj6 zp1 zn6 zs1 zw5 zp2 zz7 zq8 zz8 zm4 zk7 zv6 zp7 zv7 zm5 zj3 zv8 zs2 zm6 zt1 zl8 zw9 zn7 zM2 zD5 zt2 zu1 zi6 zx0 zs3 zi7 zi9 zA4 zH8 zao3 zd7 zq9 zp9 zG4 zA5 zl9 zx1 zx2 zA6 zA7 zD7 zo1 zs4 zq0 zm7 zq1 zq2 zt3
noncomputable def zC1 (a0:Queue) (a1:Proc):Option (Queue×(List Hold)×Int) :=
 (zi0 a0).bind fun v1 =>
 (if (!v1)=true then
  some ({ Queue.zero with  },[],2)
 else
  (zo8 a0).bind fun v2 =>
  (zk2 v2 a1).bind fun v3 =>
  (if (!v3)=true then
   some ({ Queue.zero with  },[],10)
  else
   (zs4 a0).bind fun v4 =>
   (zt3 v4 a1).bind fun v5 =>
   some (v5.1,v5.2.1,v5.2.2.1)))
theorem zaQ7 (a0:Queue) (a1:Proc) (r:Queue×(List Hold)×Int) (h:zC1 a0 a1=some r):PFn C 65 [.agg (Queue.enc a0),.agg (Proc.enc a1)] (.tup [.agg (Queue.enc r.1),.sl (r.2.1.map Hold.enc),.int .i64 r.2.2]):=by
 refine za8 zeC5 rfl fun E hG hN hK=>?_
 unfold zdR0
 unfold zC1 at h
 refine za0 (za1 hG ?_)
 refine za0 (za0 (za1 hG ?_))
 obtain ⟨v1,hv1,h⟩:=za3 h
 refine za6 (fun hg=>zad2 a0 _ (hv1)) ?_
 refine za4 rfl hG h (fun _ h=>?_) (fun _ h=>?_)
 · refine za0 (za1 hG ?_)
   refine za7 ?_
   exact zb1 h
 refine za5 ?_
 refine za0 (za0 (zm9 zd8 hG ?_))
 obtain ⟨v2,hv2,h⟩:=za3 h
 refine zf8 (fun hg=>zat1 a0 _ (hv2)) ?_
 obtain ⟨v3,hv3,h⟩:=za3 h
 refine zf8 (fun hg=>zal2 v2 a1 _ (hv3)) ?_
 refine za4 rfl hG h (fun _ h=>?_) (fun _ h=>?_)
 · refine za0 (za1 hG ?_)
   refine za7 ?_
   exact zb1 h
 refine za5 ?_
 refine za0 (za1 hG ?_)
 obtain ⟨v4,hv4,h⟩:=za3 h
 refine za6 (fun hg=>zaY8 a0 _ (hv4)) ?_
 refine za0 (za1 hG ?_)
 obtain ⟨v5,hv5,h⟩:=za3 h
 refine zo0 [(0,3),(1,4),(2,1)] [] [0,1,2] (zaz3 v4 a1 _ hv5) rfl rfl ?_
 refine za7 ?_
 exact zb1 h
attribute [local irreducible] zC1
def zO9 (a0:Proc) (a1:ByteArray) (a2:Amount):Event :=
 (⟨3,a0,a1,a2⟩:Event)
theorem zbe9 (a0:Proc) (a1:ByteArray) (a2:Amount):PFn C 67 [.agg (Proc.enc a0),.str a1,.agg (Amount.enc a2)] (.agg (Event.enc (zO9 a0 a1 a2))):=by
 generalize h:zO9 a0 a1 a2=r
 refine za8 zeC6 rfl fun E hG hN hK=>?_
 unfold zdR3
 unfold zO9 at h
 refine za0 (za1 hG ?_)
 refine za0 (za1 hG ?_)
 refine za7 ?_
 exact ze9 h
noncomputable def zR4  (j1:(List Event)):Option ((List Event)) :=
 some j1
@[go_sem] def zej5  (j1:(List Event)):St:=⟨[(2,.own 1 0 j1.length)],[(1,⟨false,7,(Event.enc Event.zero),j1.map Event.enc⟩)],2⟩
noncomputable def zI0 (a0:ByteArray) (a1:List Hold) (g1:Int×(List Event)):Option ((Int×(List Event))⊕(((List Event)))) :=
 (if (decide (g1.1 < (a1.length:Int)))=true then
  gd (0≤g1.1∧g1.1 < (a1.length:Int)) <|
  gd (g1.2.length+1≤4294967296) <|
  some (.inl ((IntKind.i64.wrap (g1.1+1)),(g1.2++[(⟨1,(a1.getD g1.1.toNat Hold.zero).proc,a0,(a1.getD g1.1.toNat Hold.zero).amount⟩:Event)])))
 else
  some (.inr g1.2))
@[go_sem] def zej6 (a0:ByteArray) (a1:List Hold) (g1:Int×(List Event)):St:=⟨[(0,.str a0),(2,.own 1 0 g1.2.length),(9,.sl (a1.map Hold.enc)),(10,.int .i64 (a1.length:Int)),(11,.int .i64 g1.1)],[(1,⟨false,7,(Event.enc Event.zero),g1.2.map Event.enc⟩)],2⟩
noncomputable def zy6 (a0:ByteArray) (a1:List Hold) (a2:List Event):Option ((List Event)) :=
 (zb8 (zI0 a0 a1) (0,a2)).bind (fun z=>zR4 z)
theorem zaF8 (a0:ByteArray) (a1:List Hold) (a2:List Event) (r:(List Event)) (h:zy6 a0 a1 a2=some r):MFn C 58 [.str a0,.sl (a1.map Hold.enc),.own 0 0 a2.length] [(0,⟨false,7,(Event.enc Event.zero),a2.map Event.enc⟩)] 1 (.own 1 0 r.length) [(1,⟨false,7,(Event.enc Event.zero),r.map Event.enc⟩)] 2:=by
 refine zl5 (rl:=[.own 1 0 r.length]) zeC7 rfl rfl rfl rfl fun E hG hN hK=>?_
 unfold zdS1
 unfold zy6 at h
 refine za0 (za1 hG ?_)
 refine za0 (za0 (za1 hG ?_))
 refine zb5 (zej5) (fun v=>zR4 v=some r) ?_ ?_
 · intro j1 h
   unfold zR4 at h
   refine g_st ?_
   refine za0 (za1 hG ?_)
   refine za7 ?_
   exact zz5 [(1,1)] h
 refine zd9 (zej6 a0 a1) hK [(1,0)] h (fun x_l1 h g1 y_l1 h_l1 hx_l1=>?_)
 unfold zI0 at h_l1
 refine g_st ?_
 refine za0 (za1 hG ?_)
 refine za0 ?_
 refine za4 rfl hG h_l1 (fun _ h_l1=>?_) (fun _ h_l1=>?_)
 · refine za5 ?_
   refine za0 (zb6 (za0 ?_))
   obtain ⟨hb2,h_l1⟩:=za2 h_l1
   refine za1 hG ?_
   obtain ⟨hb1,h_l1⟩:=za2 h_l1
   refine za1 hG ?_
   refine za1 hG ?_
   exact zc8 hK [(1,3)] h_l1
 refine zc3 ?_
 obtain rfl:=Option.some.inj h_l1
 have hx:=hx_l1 _ rfl
 subst hx
 try dsimp only at h
 exact zc4 hK [(1,1)] g1.2 (by exact h)
attribute [local irreducible] zy6
noncomputable def zU2  (j1:(List Queue)×(List Event)):Option ((List Queue)×(List Event)) :=
 some (j1.1,j1.2)
@[go_sem] def zej7  (j1:(List Queue)×(List Event)):St:=⟨[(6,.own 0 0 j1.1.length),(7,.own 1 0 j1.2.length)],[(0,⟨false,8,(Queue.enc Queue.zero),j1.1.map Queue.enc⟩),(1,⟨false,7,(Event.enc Event.zero),j1.2.map Event.enc⟩)],2⟩
noncomputable def zy0 (a0:List Queue) (g1:Int×(List Queue)×(List Event)) (v3:Queue×(List Hold)×Int) (j2:(List Event)):Option ((Int×(List Queue)×(List Event))⊕(((List Queue)×(List Event)))) :=
 (zy6 (((a0.getD g1.1.toNat Queue.zero).resource).name) v3.2.1 j2).bind fun v5 =>
 gd (0≤g1.1∧g1.1 < ((g1.2.1.length:Nat):Int)) <|
 some (.inl ((IntKind.i64.wrap (g1.1+1)),(g1.2.1.set g1.1.toNat v3.1),v5))
@[go_sem] def zej8 (a0:List Queue) (a1:Proc) (g1:Int×(List Queue)×(List Event)) (v3:Queue×(List Hold)×Int) (j2:(List Event)):St:=⟨[(3,.ptr 0 0 0),(6,.own 1 0 g1.2.1.length),(7,.own 2 0 j2.length),(8,.int .i64 g1.1),(9,.ptr 3 0 0),(10,.ptr 4 0 0),(11,.sl (v3.2.1.map Hold.enc)),(19,.sl (a0.map Queue.enc)),(20,.int .i64 (a0.length:Int)),(21,.int .i64 g1.1)],[(0,⟨false,3,(Proc.enc Proc.zero),[Proc.enc a1]⟩),(1,⟨false,8,(Queue.enc Queue.zero),g1.2.1.map Queue.enc⟩),(2,⟨false,7,(Event.enc Event.zero),j2.map Event.enc⟩),(3,⟨false,8,(Queue.enc Queue.zero),[Queue.enc (a0.getD g1.1.toNat Queue.zero)]⟩),(4,⟨false,8,(Queue.enc Queue.zero),[Queue.enc v3.1]⟩)],5⟩
noncomputable def zK4 (a0:List Queue) (a1:Proc) (g1:Int×(List Queue)×(List Event)):Option ((Int×(List Queue)×(List Event))⊕(((List Queue)×(List Event)))) :=
 (if (decide (g1.1 < (a0.length:Int)))=true then
  gd (0≤g1.1∧g1.1 < (a0.length:Int)) <|
  (zC1 (a0.getD g1.1.toNat Queue.zero) a1).bind fun v3 =>
  (if (!decide (v3.2.2=0))=true then
   some (.inl ((IntKind.i64.wrap (g1.1+1)),g1.2.1,g1.2.2))
  else
   (zh6 (a0.getD g1.1.toNat Queue.zero) a1).bind fun v4 =>
   (if (!decide (v4={ Amount.zero with  }))=true then
    gd (g1.2.2.length+1≤4294967296) <|
    zy0 a0 g1 v3 (g1.2.2++[(zO9 a1 (((a0.getD g1.1.toNat Queue.zero).resource).name) ({ Amount.zero with  }))])
   else
    zy0 a0 g1 v3 g1.2.2))
 else
  some (.inr (g1.2.1,g1.2.2)))
@[go_sem] def zej9 (a0:List Queue) (a1:Proc) (g1:Int×(List Queue)×(List Event)):St:=⟨[(3,.ptr 0 0 0),(6,.own 1 0 g1.2.1.length),(7,.own 2 0 g1.2.2.length),(19,.sl (a0.map Queue.enc)),(20,.int .i64 (a0.length:Int)),(21,.int .i64 g1.1)],[(0,⟨false,3,(Proc.enc Proc.zero),[Proc.enc a1]⟩),(1,⟨false,8,(Queue.enc Queue.zero),g1.2.1.map Queue.enc⟩),(2,⟨false,7,(Event.enc Event.zero),g1.2.2.map Event.enc⟩)],3⟩
noncomputable def zx3 (a0:List Queue) (a1:Proc):Option ((List Queue)×(List Event)) :=
 (zk6 a0).bind fun v1 =>
 (if (!v1)=true then
  some ([],[])
 else
  (zo1 a0 (-1) ({ Queue.zero with  })).bind fun v2 =>
  (zb8 (zK4 a0 a1) (0,v2,[])).bind (fun z=>zU2 z))
theorem zaQ8 (a0:List Queue) (a1:Proc) (r:(List Queue)×(List Event)) (h:zx3 a0 a1=some r):PFn C 26 [.sl (a0.map Queue.enc),.agg (Proc.enc a1)] (.tup [.sl (r.1.map Queue.enc),.sl (r.2.map Event.enc)]):=by
 refine za8 zeC8 rfl fun E hG hN hK=>?_
 unfold zdT2
 unfold zx3 at h
 refine za0 (za1 hG ?_)
 refine za0 (za0 (za1 hG ?_))
 obtain ⟨v1,hv1,h⟩:=za3 h
 refine za6 (fun hg=>zad4 a0 _ (hv1)) ?_
 refine za4 rfl hG h (fun _ h=>?_) (fun _ h=>?_)
 · refine za0 (za1 hG ?_)
   refine za7 ?_
   exact zb1 h
 refine za5 ?_
 refine za0 (za1 hG ?_)
 obtain ⟨v2,hv2,h⟩:=za3 h
 refine zo0 [] [(0,1)] [0] (zaz2 a0 (-1) ({ Queue.zero with  }) _ hv2) rfl rfl ?_
 refine za0 (za1 hG ?_)
 refine za0 (za0 (za1 hG ?_))
 refine zb5 (zej7) (fun v=>zU2 v=some r) ?_ ?_
 · intro j1 h
   unfold zU2 at h
   refine g_st ?_
   refine za0 (za1 hG ?_)
   refine za7 ?_
   exact zb1 h
 refine zd9 (zej9 a0 a1) hK [(0,0),(1,1),(2,2)] h (fun x_l1 h g1 y_l1 h_l1 hx_l1=>?_)
 unfold zK4 at h_l1
 refine g_st ?_
 refine za0 (za1 hG ?_)
 refine za0 ?_
 refine za4 rfl hG h_l1 (fun _ h_l1=>?_) (fun _ h_l1=>?_)
 · refine za5 ?_
   refine za0 (zb6 (za0 ?_))
   obtain ⟨hb3,h_l1⟩:=za2 h_l1
   refine za1 hG ?_
   refine za0 (za1 hG ?_)
   obtain ⟨v3,hv3,h_l1⟩:=za3 h_l1
   refine za6 (fun hg=>zaQ7 (a0.getD g1.1.toNat Queue.zero) a1 _ (hv3)) ?_
   refine za0 (za0 (za1 hG ?_))
   refine za4 rfl hG h_l1 (fun _ h_l1=>?_) (fun _ h_l1=>?_)
   · refine zc3 ?_
     refine za1 hG ?_
     exact zc8 hK [(0,0),(1,1),(2,2)] h_l1
   refine za5 ?_
   refine za0 (za0 (za1 hG ?_))
   obtain ⟨v4,hv4,h_l1⟩:=za3 h_l1
   refine za6 (fun hg=>zP8 (a0.getD g1.1.toNat Queue.zero) a1 _ (hv4)) ?_
   refine zaS8 (zej8 a0 a1 g1 v3) (fun v=>zy0 a0 g1 v3 v=some y_l1) rfl hG h_l1 ?_ (fun _ h_l1=>?_) (fun _ h_l1=>?_)
   · intro j2 h_l1
     unfold zy0 at h_l1
     refine g_st ?_
     refine za0 (za1 hG ?_)
     obtain ⟨v5,hv5,h_l1⟩:=za3 h_l1
     refine zo0 [(0,2)] [(1,5)] [0,1] (zaF8 (((a0.getD g1.1.toNat Queue.zero).resource).name) v3.2.1 j2 _ hv5) rfl rfl ?_
     obtain ⟨hb1,h_l1⟩:=za2 h_l1
     refine za1 hG ?_
     refine za1 hG ?_
     exact zc8 hK [(0,0),(1,1),(2,5)] h_l1
   · refine za1 hG ?_
     obtain ⟨hb2,h_l1⟩:=za2 h_l1
     refine za6 (fun hg=>zbe9 a1 (((a0.getD g1.1.toNat Queue.zero).resource).name) ({ Amount.zero with  })) ?_
     exact zc4 hK [(0,0),(1,1),(2,5),(3,3),(4,4)] (g1.2.2++[(zO9 a1 (((a0.getD g1.1.toNat Queue.zero).resource).name) ({ Amount.zero with  }))]) (by exact h_l1)
   refine za5 ?_
   exact zc4 hK [(0,0),(1,1),(2,2),(3,3),(4,4)] g1.2.2 (by exact h_l1)
 refine zc3 ?_
 obtain rfl:=Option.some.inj h_l1
 have hx:=hx_l1 _ rfl
 subst hx
 try dsimp only at h
 exact zc4 hK [(0,1),(1,2)] (g1.2.1,g1.2.2) (by exact h)
attribute [local irreducible] zx3
noncomputable def zU3  (j1:(List Atom)):Option ((List Atom)) :=
 some j1
@[go_sem] def zek0  (j1:(List Atom)):St:=⟨[(5,.own 0 0 j1.length)],[(0,⟨false,3,(Atom.enc Atom.zero),j1.map Atom.enc⟩)],1⟩
noncomputable def zK5 (a0:List Queue) (a1:Proc) (g1:Int×(List Atom)):Option ((Int×(List Atom))⊕(((List Atom)))) :=
 (if (decide (g1.1 < (a0.length:Int)))=true then
  gd (0≤g1.1∧g1.1 < (a0.length:Int)) <|
  (zk3 (a0.getD g1.1.toNat Queue.zero) a1).bind fun v1 =>
  (if v1.2=true then
   gd (g1.2.length+1≤4294967296) <|
   some (.inl ((IntKind.i64.wrap (g1.1+1)),(g1.2++[(⟨((a0.getD g1.1.toNat Queue.zero).resource).name,v1.1⟩:Atom)])))
  else
   some (.inl ((IntKind.i64.wrap (g1.1+1)),g1.2)))
 else
  some (.inr g1.2))
@[go_sem] def zek1 (a0:List Queue) (a1:Proc) (g1:Int×(List Atom)):St:=⟨[(3,.ptr 0 0 0),(5,.own 1 0 g1.2.length),(10,.sl (a0.map Queue.enc)),(11,.int .i64 (a0.length:Int)),(12,.int .i64 g1.1)],[(0,⟨false,3,(Proc.enc Proc.zero),[Proc.enc a1]⟩),(1,⟨false,3,(Atom.enc Atom.zero),g1.2.map Atom.enc⟩)],2⟩
noncomputable def zC2 (a0:List Queue) (a1:Proc):Option ((List Atom)) :=
 (zb8 (zK5 a0 a1) (0,[])).bind (fun z=>zU3 z)
theorem zaQ9 (a0:List Queue) (a1:Proc) (r:(List Atom)) (h:zC2 a0 a1=some r):PFn C 32 [.sl (a0.map Queue.enc),.agg (Proc.enc a1)] (.sl (r.map Atom.enc)):=by
 refine za8 zeC9 rfl fun E hG hN hK=>?_
 unfold zdU3
 unfold zC2 at h
 refine za0 (za1 hG ?_)
 refine za0 (za1 hG ?_)
 refine za0 (za0 (za1 hG ?_))
 refine zb5 (zek0) (fun v=>zU3 v=some r) ?_ ?_
 · intro j1 h
   unfold zU3 at h
   refine g_st ?_
   refine za0 (za1 hG ?_)
   refine za7 ?_
   exact zb1 h
 refine zd9 (zek1 a0 a1) hK [(0,0),(1,1)] h (fun x_l1 h g1 y_l1 h_l1 hx_l1=>?_)
 unfold zK5 at h_l1
 refine g_st ?_
 refine za0 (za1 hG ?_)
 refine za0 ?_
 refine za4 rfl hG h_l1 (fun _ h_l1=>?_) (fun _ h_l1=>?_)
 · refine za5 ?_
   refine za0 (zb6 (za0 ?_))
   obtain ⟨hb2,h_l1⟩:=za2 h_l1
   refine za1 hG ?_
   refine za0 (za1 hG ?_)
   obtain ⟨v1,hv1,h_l1⟩:=za3 h_l1
   refine za6 (fun hg=>zaq4 (a0.getD g1.1.toNat Queue.zero) a1 _ (hv1)) ?_
   refine za0 (za1 hG ?_)
   refine za4 rfl hG h_l1 (fun _ h_l1=>?_) (fun _ h_l1=>?_)
   · obtain ⟨hb1,h_l1⟩:=za2 h_l1
     refine za1 hG ?_
     refine za1 hG ?_
     exact zc8 hK [(0,0),(1,4)] h_l1
   refine za5 ?_
   refine za1 hG ?_
   exact zc8 hK [(0,0),(1,1)] h_l1
 refine zc3 ?_
 obtain rfl:=Option.some.inj h_l1
 have hx:=hx_l1 _ rfl
 subst hx
 try dsimp only at h
 exact zc4 hK [(0,1)] g1.2 (by exact h)
attribute [local irreducible] zC2
noncomputable def zah7 (a0:Queue) (a1:Proc):Option (Bool) :=
 (zl8 a0 a1).bind fun v1 =>
 ((if (!v1.2)=true then zn7 a0 a1 else some (Amount.zero))).bind fun v2 =>
 some (v1.2||(!(zc6 v2)))
attribute [local irreducible] zah7
noncomputable def zae3 (a0:Queue) (a1:Proc):Option (Queue×(List Hold)×Int) :=
 (zk7 a0).bind fun v1 =>
 (if (!v1)=true then
  some ({ Queue.zero with  },[],2)
 else
  (zah7 a0 a1).bind fun v2 =>
  (if (!v2)=true then
   some ({ Queue.zero with  },[],10)
  else
   (zt2 a0).bind fun v3 =>
   (zq8 v3.holds a1 ({ Amount.zero with  })).bind fun v4 =>
   (zl9 (({ v3 with holds:=v4 }).converts) a1).bind fun v5 =>
   (zl9 (({ { v3 with holds:=v4 } with converts:=v5.1 }).waits) a1).bind fun v6 =>
   (zi6 ({ { { v3 with holds:=v4 } with converts:=v5.1 } with waits:=v6.1 })).bind fun v7 =>
   some (v7.1,v7.2.1,v7.2.2)))
attribute [local irreducible] zae3
noncomputable def zaF9  (j1:(List Queue)×(List Event)):Option ((List Queue)×(List Event)) :=
 some (j1.1,j1.2)
@[go_sem] def zeW4  (j1:(List Queue)×(List Event)):St:=⟨[(6,.own 0 0 j1.1.length),(7,.own 1 0 j1.2.length)],[(0,⟨false,8,(Queue.enc Queue.zero),j1.1.map Queue.enc⟩),(1,⟨false,7,(Event.enc Event.zero),j1.2.map Event.enc⟩)],2⟩
noncomputable def zah8 (a1:Proc) (g1:Int×(List Queue)×(List Event)) (j2:(List Event)):Option ((Int×(List Queue)×(List Event))⊕(((List Queue)×(List Event)))) :=
 gd (0≤g1.1∧g1.1 < ((g1.2.1.length:Nat):Int)) <|
 (zae3 (g1.2.1.getD g1.1.toNat Queue.zero) a1).bind fun v4 =>
 gd (0≤g1.1∧g1.1 < ((g1.2.1.length:Nat):Int)) <|
 (zi9 v4.1.resource.name v4.2.1).bind fun v5 =>
 gd (j2.length+v5.length≤4294967296) <|
 some (.inl ((IntKind.i64.wrap (g1.1+1)),(g1.2.1.set g1.1.toNat v4.1),(j2++v5)))
@[go_sem] def zeW5 (a1:Proc) (g1:Int×(List Queue)×(List Event)) (j2:(List Event)):St:=⟨[(3,.ptr 0 0 0),(6,.own 1 0 g1.2.1.length),(7,.own 2 0 j2.length),(8,.int .i64 g1.1)],[(0,⟨false,3,(Proc.enc Proc.zero),[Proc.enc a1]⟩),(1,⟨false,8,(Queue.enc Queue.zero),g1.2.1.map Queue.enc⟩),(2,⟨false,7,(Event.enc Event.zero),j2.map Event.enc⟩)],3⟩
noncomputable def zaG0 (a1:Proc) (g1:Int×(List Queue)×(List Event)):Option ((Int×(List Queue)×(List Event))⊕(((List Queue)×(List Event)))) :=
 (if (decide (g1.1 < ((g1.2.1.length:Nat):Int)))=true then
  gd (0≤g1.1∧g1.1 < ((g1.2.1.length:Nat):Int)) <|
  (zah7 (g1.2.1.getD g1.1.toNat Queue.zero) a1).bind fun v2 =>
  (if (!v2)=true then
   some (.inl ((IntKind.i64.wrap (g1.1+1)),g1.2.1,g1.2.2))
  else
   gd (0≤g1.1∧g1.1 < ((g1.2.1.length:Nat):Int)) <|
   (zn7 (g1.2.1.getD g1.1.toNat Queue.zero) a1).bind fun v3 =>
   (if (!(zc6 v3))=true then
    gd (0≤g1.1∧g1.1 < ((g1.2.1.length:Nat):Int)) <|
    gd (g1.2.2.length+1≤4294967296) <|
    zah8 a1 g1 (g1.2.2++[{ Event.zero with kind:=3,proc:=a1,name:=((g1.2.1.getD g1.1.toNat Queue.zero).resource).name }])
   else
    zah8 a1 g1 g1.2.2))
 else
  some (.inr (g1.2.1,g1.2.2)))
@[go_sem] def zeW6 (a1:Proc) (g1:Int×(List Queue)×(List Event)):St:=⟨[(3,.ptr 0 0 0),(6,.own 1 0 g1.2.1.length),(7,.own 2 0 g1.2.2.length),(8,.int .i64 g1.1)],[(0,⟨false,3,(Proc.enc Proc.zero),[Proc.enc a1]⟩),(1,⟨false,8,(Queue.enc Queue.zero),g1.2.1.map Queue.enc⟩),(2,⟨false,7,(Event.enc Event.zero),g1.2.2.map Event.enc⟩)],3⟩
noncomputable def zae4 (a0:List Queue) (a1:Proc):Option ((List Queue)×(List Event)) :=
 (zm6 a0).bind fun v1 =>
 (if (!v1)=true then
  some ([],[])
 else
  gd (a0.length≤4294967296) <|
  (zb8 (zaG0 a1) (0,a0,[])).bind (fun z=>zaF9 z))
attribute [local irreducible] zae4
noncomputable def zaK5  (j1:(List Queue)×(List Event)):Option ((List Queue)×(List Event)) :=
 some (j1.1,j1.2)
@[go_sem] def zeW7  (j1:(List Queue)×(List Event)):St:=⟨[(8,.sl (j1.1.map Queue.enc)),(9,.own 0 0 j1.2.length)],[(0,⟨false,7,(Event.enc Event.zero),j1.2.map Event.enc⟩)],1⟩
noncomputable def zaK6 (a1:Int) (a2:Int) (v3:(List Proc)) (g1:(List Queue)×Int×(List Event)):Option (((List Queue)×Int×(List Event))⊕(((List Queue)×(List Event)))) :=
 (if (decide (g1.2.1 < (v3.length:Int)))=true then
  gd (0≤g1.2.1∧g1.2.1 < (v3.length:Int)) <|
  (if ((!decide ((v3.getD g1.2.1.toNat Proc.zero).site=a1))||(decide (a2≤(v3.getD g1.2.1.toNat Proc.zero).inc)))=true then
   some (.inl (g1.1,(IntKind.i64.wrap (g1.2.1+1)),g1.2.2))
  else
   (zx3 g1.1 (v3.getD g1.2.1.toNat Proc.zero)).bind fun v4 =>
   gd (g1.2.2.length+v4.2.length≤4294967296) <|
   some (.inl (v4.1,(IntKind.i64.wrap (g1.2.1+1)),(g1.2.2++v4.2))))
 else
  some (.inr (g1.1,g1.2.2)))
@[go_sem] def zeW8 (a1:Int) (a2:Int) (v3:(List Proc)) (g1:(List Queue)×Int×(List Event)):St:=⟨[(1,.int .i64 a1),(2,.int .i64 a2),(8,.sl (g1.1.map Queue.enc)),(9,.own 0 0 g1.2.2.length),(21,.sl (v3.map Proc.enc)),(22,.int .i64 (v3.length:Int)),(23,.int .i64 g1.2.1)],[(0,⟨false,7,(Event.enc Event.zero),g1.2.2.map Event.enc⟩)],1⟩
noncomputable def zaA4 (a0:List Queue) (a1:Int) (a2:Int):Option ((List Queue)×(List Event)) :=
 (zk6 a0).bind fun v1 =>
 (if (!v1)=true then
  some ([],[])
 else
  (zf4 a0 (-1) ({ Queue.zero with  })).bind fun v2 =>
  (zm2 a0).bind fun v3 =>
  (zb8 (zaK6 a1 a2 v3) (v2,0,[])).bind (fun z=>zaK5 z))
attribute [local irreducible] zaA4
noncomputable def zaK7  (j1:(List Queue)×(List Event)):Option ((List Queue)×(List Event)) :=
 some (j1.1,j1.2)
@[go_sem] def zeW9  (j1:(List Queue)×(List Event)):St:=⟨[(0,.sl (j1.1.map Queue.enc)),(8,.own 0 0 j1.2.length)],[(0,⟨false,7,(Event.enc Event.zero),j1.2.map Event.enc⟩)],1⟩
noncomputable def zaK8 (a1:Int) (a2:Int) (v2:(List Proc)) (g1:(List Queue)×Int×(List Event)):Option (((List Queue)×Int×(List Event))⊕(((List Queue)×(List Event)))) :=
 (if (decide (g1.2.1 < (v2.length:Int)))=true then
  gd (0≤g1.2.1∧g1.2.1 < (v2.length:Int)) <|
  gd ((decide ((v2.getD g1.2.1.toNat Proc.zero).site=a1))=true→0≤g1.2.1∧g1.2.1 < (v2.length:Int)) <|
  (if ((decide ((v2.getD g1.2.1.toNat Proc.zero).site=a1))&&(decide ((v2.getD g1.2.1.toNat Proc.zero).inc < a2)))=true then
   gd (0≤g1.2.1∧g1.2.1 < (v2.length:Int)) <|
   (zae4 g1.1 (v2.getD g1.2.1.toNat Proc.zero)).bind fun v3 =>
   gd (g1.2.2.length+v3.2.length≤4294967296) <|
   some (.inl (v3.1,(IntKind.i64.wrap (g1.2.1+1)),(g1.2.2++v3.2)))
  else
   some (.inl (g1.1,(IntKind.i64.wrap (g1.2.1+1)),g1.2.2)))
 else
  some (.inr (g1.1,g1.2.2)))
@[go_sem] def zeX0 (a1:Int) (a2:Int) (v2:(List Proc)) (g1:(List Queue)×Int×(List Event)):St:=⟨[(0,.sl (g1.1.map Queue.enc)),(1,.int .i64 a1),(2,.int .i64 a2),(8,.own 0 0 g1.2.2.length),(9,.sl (v2.map Proc.enc)),(10,.int .i64 g1.2.1)],[(0,⟨false,7,(Event.enc Event.zero),g1.2.2.map Event.enc⟩)],1⟩
noncomputable def zaA5 (a0:List Queue) (a1:Int) (a2:Int):Option ((List Queue)×(List Event)) :=
 (zm6 a0).bind fun v1 =>
 (if (!v1)=true then
  some ([],[])
 else
  (zs2 a0).bind fun v2 =>
  (zb8 (zaK8 a1 a2 v2) (a0,0,[])).bind (fun z=>zaK7 z))
attribute [local irreducible] zaA5
noncomputable def zau3  (j1:Unit):Option (Bool) :=
 some true
@[go_sem] def zeX1  (j1:Unit):St:=⟨[],[],0⟩
noncomputable def zau4 (a0:List Proc) (a1:List Proc) (g1:Int):Option ((Int)⊕((Unit)⊕(Bool))) :=
 (if (decide (g1 < (a0.length:Int)))=true then
  gd (0≤g1∧g1 < (a0.length:Int)) <|
  gd (0≤g1∧g1 < (a1.length:Int)) <|
  (if (!decide ((a0.getD g1.toNat Proc.zero)=(a1.getD g1.toNat Proc.zero)))=true then
   some (.inr (.inr false))
  else
   some (.inl (IntKind.i64.wrap (g1+1))))
 else
  some (.inr (.inl ())))
@[go_sem] def zeX2 (a0:List Proc) (a1:List Proc) (g1:Int):St:=⟨[(0,.sl (a0.map Proc.enc)),(1,.sl (a1.map Proc.enc)),(5,.int .i64 g1)],[],0⟩
noncomputable def zah9 (a0:List Proc) (a1:List Proc):Option (Bool) :=
 (if (!decide ((a0.length:Int)=(a1.length:Int)))=true then
  some false
 else
  (zb8 (zau4 a0 a1) 0).bind (fun | .inl z=>zau3 z | .inr z=>some z))
attribute [local irreducible] zah9
noncomputable def zR5 (a0:Queue) (a1:Proc):Option (Queue×Proc) :=
 (zm7 a0.converts a1).bind fun v1 =>
 some ({ a0 with converts:=v1.1 },a1)
attribute [local irreducible] zR5
noncomputable def zR6 (a0:Queue) (a1:Proc):Option (Queue×Proc) :=
 (zm7 a0.waits a1).bind fun v1 =>
 some ({ a0 with waits:=v1.1 },a1)
attribute [local irreducible] zR6
noncomputable def zau5  (j1:Queue×Proc):Option (Queue×(List Hold)×Int×Queue×Proc) :=
 (ze4 j1.1).bind fun v1 =>
 some ({ v1.2 with gen:=(zg0 v1.2.gen) },v1.1,0,{ v1.2 with gen:=(zg0 v1.2.gen) },j1.2)
@[go_sem] def zeX3  (j1:Queue×Proc):St:=⟨[(0,.ptr 0 0 0),(4,.ptr 3 0 0)],[(0,⟨false,8,(Queue.enc Queue.zero),[Queue.enc j1.1]⟩),(1,⟨false,1,[A.any],[[.clo 121 [.ptr 0 0 0,.ptr 2 0 0]],[.clo 122 [.ptr 0 0 0,.ptr 2 0 0]]]⟩),(2,⟨false,3,(Proc.enc Proc.zero),[Proc.enc j1.2]⟩),(3,⟨false,8,(Queue.enc Queue.zero),[Queue.enc Queue.zero]⟩)],4⟩
noncomputable def zU4 (a0:Queue) (a1:Proc):Option (Queue×(List Hold)×Int×Queue×Proc) :=
 gd (0≤0∧0 < (2:Int)) <|
 (zR5 a0 a1).bind fun v2 =>
 gd (0≤1∧1 < (2:Int)) <|
 (zR6 v2.1 v2.2).bind fun v3 =>
 zau5 (v3.1,v3.2)
attribute [local irreducible] zU4
noncomputable def zae5 (a0:Queue) (a1:Proc):Option (Queue×(List Hold)×Int) :=
 (zi0 a0).bind fun v1 =>
 (if (!v1)=true then
  some ({ Queue.zero with  },[],2)
 else
  (zk3 a0 a1).bind fun v2 =>
  (if (!v2.2)=true then
   some ({ Queue.zero with  },[],10)
  else
   (zs4 a0).bind fun v3 =>
   (zU4 v3 a1).bind fun v4 =>
   some (v4.1,v4.2.1,v4.2.2.1)))
attribute [local irreducible] zae5
noncomputable def zau6 (a0:List Queue) (a1:Proc) (a2:ByteArray):Option ((List Queue)×(List Event)×Int) :=
 (zy3 a0 a2).bind fun v1 =>
 (if (!decide (v1.2=0))=true then
  some ([],[],v1.2)
 else
  gd (0≤v1.1∧v1.1 < (a0.length:Int)) <|
  (zae5 (a0.getD v1.1.toNat Queue.zero) a1).bind fun v2 =>
  (if (!decide (v2.2.2=0))=true then
   some ([],[],v2.2.2)
  else
   (zf4 a0 v1.1 v2.1).bind fun v3 =>
   (zl7 a2 v2.2.1).bind fun v4 =>
   some (v3,v4,0)))
attribute [local irreducible] zau6
noncomputable def zU5 (a0:Queue) (a1:Proc) (a2:Amount):Option (Queue×Proc×Amount) :=
 (zj0 a0.holds a1 a2).bind fun v1 =>
 some ({ a0 with holds:=v1 },a1,a2)
attribute [local irreducible] zU5
noncomputable def zau7  (j1:Queue×Proc×Amount):Option (Queue×(List Hold)×Int×Queue×Proc×Amount) :=
 (ze4 j1.1).bind fun v1 =>
 some ({ v1.2 with gen:=(zg0 v1.2.gen) },v1.1,0,{ v1.2 with gen:=(zg0 v1.2.gen) },j1.2.1,j1.2.2)
@[go_sem] def zeX4  (j1:Queue×Proc×Amount):St:=⟨[(0,.ptr 0 0 0),(4,.ptr 4 0 0)],[(0,⟨false,8,(Queue.enc Queue.zero),[Queue.enc j1.1]⟩),(1,⟨false,1,[A.any],[[.clo 124 [.ptr 0 0 0,.ptr 2 0 0,.ptr 3 0 0]]]⟩),(2,⟨false,3,(Proc.enc Proc.zero),[Proc.enc j1.2.1]⟩),(3,⟨false,2,(Amount.enc Amount.zero),[Amount.enc j1.2.2]⟩),(4,⟨false,8,(Queue.enc Queue.zero),[Queue.enc Queue.zero]⟩)],5⟩
noncomputable def zU6 (a0:Queue) (a1:Proc) (a2:Amount):Option (Queue×(List Hold)×Int×Queue×Proc×Amount) :=
 gd (0≤0∧0 < (1:Int)) <|
 (zU5 a0 a1 a2).bind fun v2 =>
 zau7 (v2.1,v2.2.1,v2.2.2)
attribute [local irreducible] zU6
noncomputable def zaj2 (a0:Queue) (a1:Proc) (a2:Amount):Option (Queue×(List Hold)×Int) :=
 (zi0 a0).bind fun v1 =>
 (if (!v1)=true then
  some ({ Queue.zero with  },[],2)
 else
  (zh6 a0 a1).bind fun v2 =>
  (if (zb7 v2)=true then
   some ({ Queue.zero with  },[],10)
  else
   (zl6 a0.converts a1).bind fun v3 =>
   (if (decide (0≤v3))=true then
    some ({ Queue.zero with  },[],14)
   else
    (zh3 a0.resource v2 a2).bind fun v4 =>
    (if (!v4)=true then
     some ({ Queue.zero with  },[],12)
    else
     (zs4 a0).bind fun v5 =>
     (if (decide (a2=v2))=true then
      some (v5,[],0)
     else
      (zU6 v5 a1 a2).bind fun v6 =>
      some (v6.1,v6.2.1,v6.2.2.1))))))
attribute [local irreducible] zaj2
noncomputable def zaC8  (j1:(List Event)):Option ((List Event)) :=
 some j1
@[go_sem] def zeX5  (j1:(List Event)):St:=⟨[(2,.own 1 0 j1.length)],[(1,⟨false,7,(Event.enc Event.zero),j1.map Event.enc⟩)],2⟩
noncomputable def zaC9 (a0:ByteArray) (a1:List Hold) (g1:Int×(List Event)):Option ((Int×(List Event))⊕(((List Event)))) :=
 (if (decide (g1.1 < (a1.length:Int)))=true then
  gd (0≤g1.1∧g1.1 < (a1.length:Int)) <|
  gd (g1.2.length+1≤4294967296) <|
  some (.inl ((IntKind.i64.wrap (g1.1+1)),(g1.2++[(⟨1,(a1.getD g1.1.toNat Hold.zero).proc,a0,(a1.getD g1.1.toNat Hold.zero).amount⟩:Event)])))
 else
  some (.inr g1.2))
@[go_sem] def zeX6 (a0:ByteArray) (a1:List Hold) (g1:Int×(List Event)):St:=⟨[(0,.str a0),(2,.own 1 0 g1.2.length),(9,.sl (a1.map Hold.enc)),(10,.int .i64 (a1.length:Int)),(11,.int .i64 g1.1)],[(1,⟨false,7,(Event.enc Event.zero),g1.2.map Event.enc⟩)],2⟩
noncomputable def zaa9 (a0:ByteArray) (a1:List Hold) (a2:List Event):Option ((List Event)) :=
 (zb8 (zaC9 a0 a1) (0,a2)).bind (fun z=>zaC8 z)
attribute [local irreducible] zaa9
noncomputable def zaA6 (a0:List Queue) (a1:Proc) (a2:Atom):Option ((List Queue)×(List Event)×Int) :=
 (zy3 a0 a2.name).bind fun v1 =>
 (if (!decide (v1.2=0))=true then
  some ([],[],v1.2)
 else
  gd (0≤v1.1∧v1.1 < (a0.length:Int)) <|
  (zaj2 (a0.getD v1.1.toNat Queue.zero) a1 a2.amount).bind fun v2 =>
  (if (!decide (v2.2.2=0))=true then
   some ([],[],v2.2.2)
  else
   gd (0≤v1.1∧v1.1 < (a0.length:Int)) <|
   (zh6 (a0.getD v1.1.toNat Queue.zero) a1).bind fun v3 =>
   (if (decide (a2.amount=v3))=true then
    (zf4 a0 v1.1 v2.1).bind fun v4 =>
    some (v4,[],0)
   else
    (zf4 a0 v1.1 v2.1).bind fun v5 =>
    (zaa9 a2.name v2.2.1 [(zO9 a1 a2.name a2.amount)]).bind fun v6 =>
    some (v5,v6,0))))
attribute [local irreducible] zaA6
noncomputable def zaK9  (j1:(List Proc)):Option ((List Proc)) :=
 some j1
@[go_sem] def zeX7  (j1:(List Proc)):St:=⟨[(3,.own 0 0 j1.length)],[(0,⟨false,3,(Proc.enc Proc.zero),j1.map Proc.enc⟩)],1⟩
noncomputable def zaL0 (a0:List Hold) (g1:Int×(List Proc)):Option ((Int×(List Proc))⊕(((List Proc)))) :=
 (if (decide (g1.1 < (a0.length:Int)))=true then
  gd (0≤g1.1∧g1.1 < (a0.length:Int)) <|
  gd (g1.2.length+1≤4294967296) <|
  some (.inl ((IntKind.i64.wrap (g1.1+1)),(g1.2++[(a0.getD g1.1.toNat Hold.zero).proc])))
 else
  some (.inr g1.2))
@[go_sem] def zeX8 (a0:List Hold) (g1:Int×(List Proc)):St:=⟨[(0,.sl (a0.map Hold.enc)),(3,.own 0 0 g1.2.length),(4,.int .i64 g1.1)],[(0,⟨false,3,(Proc.enc Proc.zero),g1.2.map Proc.enc⟩)],1⟩
noncomputable def zaA7 (a0:List Hold):Option ((List Proc)) :=
 (zb8 (zaL0 a0) (0,[])).bind (fun z=>zaK9 z)
attribute [local irreducible] zaA7
noncomputable def zae6  (j1:(List Proc)):Option ((List Proc)) :=
 some j1
@[go_sem] def zeX9  (j1:(List Proc)):St:=⟨[(3,.own 0 0 j1.length)],[(0,⟨false,3,(Proc.enc Proc.zero),j1.map Proc.enc⟩)],1⟩
noncomputable def zI1 (a0:List Hold) (g1:Int×(List Proc)):Option ((Int×(List Proc))⊕(((List Proc)))) :=
 (if (decide (g1.1 < (a0.length:Int)))=true then
  gd (0≤g1.1∧g1.1 < (a0.length:Int)) <|
  gd (g1.2.length+1≤4294967296) <|
  some (.inl ((IntKind.i64.wrap (g1.1+1)),(g1.2++[(a0.getD g1.1.toNat Hold.zero).proc])))
 else
  some (.inr g1.2))
@[go_sem] def zeY0 (a0:List Hold) (g1:Int×(List Proc)):St:=⟨[(3,.own 0 0 g1.2.length),(6,.sl (a0.map Hold.enc)),(7,.int .i64 (a0.length:Int)),(8,.int .i64 g1.1)],[(0,⟨false,3,(Proc.enc Proc.zero),g1.2.map Proc.enc⟩)],1⟩
noncomputable def zI8 (a0:List Hold):Option ((List Proc)) :=
 (zb8 (zI1 a0) (0,[])).bind (fun z=>zae6 z)
attribute [local irreducible] zI8
end Ab
end Go.Proofs.YtfjeceicgfdmjaaGreatDoor
