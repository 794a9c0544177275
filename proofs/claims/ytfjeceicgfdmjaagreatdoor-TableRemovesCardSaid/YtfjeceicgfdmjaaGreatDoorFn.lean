/-
  Functions of the program,as Lean functions; what the program's code computes is what they say.
-/
import Derived.Test.YtfjeceicgfdmjaaGreatDoorFn4
namespace Go.Proofs.YtfjeceicgfdmjaaGreatDoor
namespace Ab
set_option linter.unusedSimpArgs false
set_option linter.unusedVariables false
set_option maxRecDepth 100000
set_option maxHeartbeats 1000000
attribute [local irreducible] zf4 zd3 zj0 zu2 zu3 zh0 zd8 zA1 zG1 zr2 zs1 zj1 zd7 zh1 zf5 zg8 zl3 zh2 zk8 zj6 zg9 ze5 zm4 zg1 zn6 zo4 zi2 zi4 zj2 zj3 zh5 zh3 zc8 zc4 zn7 zp9 zb7 zc0 zh4 zn8 zl4 zj8 zr4 zw3 zd2 zc1 zj4 zj5 zl5 zC8 zq0 zk2 ze0 zm5 zq1 zk3 zk4 zq2 zf3 zk9 zt6 zm6 zq3 zk5 zi5 zx3 zr5 zt7 zo5 zi9 zo0 zm7 zq6 zu6 zo1 zx4 zs2 zx5 zl6 zj9 zt8 zo6 zt9 zl7 zi8 zu0 zq7 zl8 zJ5 zl0 zO6 zo7 zab3 zW2 zr6 zs3 zi1 zO8 zS7 zz3 zl1 zS8 zh6 zah8 zf0 zJ6 zD3 zab4 zS9 zl2 zP1 zP2 zT0 zT1 zah9 zn1 zq8 zp0 zl9 zp1 zp2 zr7
noncomputable def zy8 (a0:Queue) (a1:Proc):Option (Queue×(List Hold)×Int) :=
 (zh5 a0).bind fun v1 =>
 (if (!v1)=true then
  some ({ Queue.zero with  },[],2)
 else
  (zn8 a0).bind fun v2 =>
  (zj4 v2 a1).bind fun v3 =>
  (if (!v3)=true then
   some ({ Queue.zero with  },[],10)
  else
   (zq8 a0).bind fun v4 =>
   (zr7 v4 a1).bind fun v5 =>
   some (v5.1,v5.2.1,v5.2.2.1)))
theorem zaI9 (a0:Queue) (a1:Proc) (r:Queue×(List Hold)×Int) (h:zy8 a0 a1=some r):PFn C 65 [.agg (Queue.enc a0),.agg (Proc.enc a1)] (.tup [.agg (Queue.enc r.1),.sl (r.2.1.map Hold.enc),.int .i64 r.2.2]):=by
 refine za6 zeo2 rfl fun E hG hN hK=>?_
 unfold zdo6
 unfold zy8 at h
 refine za0 (za1 hG ?_)
 refine za0 (za0 (za1 hG ?_))
 obtain ⟨v1,hv1,h⟩:=za5 h
 refine za7 (fun hg=>zX8 a0 _ (hv1)) ?_
 refine za3 rfl hG h (fun _ h=>?_) (fun _ h=>?_)
 · refine za0 (za1 hG ?_)
   refine za8 ?_
   exact zb1 h
 refine za4 ?_
 refine za0 (za0 (zo8 ze6 hG ?_))
 obtain ⟨v2,hv2,h⟩:=za5 h
 refine zg4 (fun hg=>zal7 a0 _ (hv2)) ?_
 obtain ⟨v3,hv3,h⟩:=za5 h
 refine zg4 (fun hg=>zae5 v2 a1 _ (hv3)) ?_
 refine za3 rfl hG h (fun _ h=>?_) (fun _ h=>?_)
 · refine za0 (za1 hG ?_)
   refine za8 ?_
   exact zb1 h
 refine za4 ?_
 refine za0 (za1 hG ?_)
 obtain ⟨v4,hv4,h⟩:=za5 h
 refine za7 (fun hg=>zaQ9 a0 _ (hv4)) ?_
 refine za0 (za1 hG ?_)
 obtain ⟨v5,hv5,h⟩:=za5 h
 refine zA5 [(0,3),(1,4),(2,1)] [] [0,1,2] (zaq9 v4 a1 _ hv5) rfl rfl ?_
 refine za8 ?_
 exact zb1 h
attribute [local irreducible] zy8
def zJ8 (a0:Proc) (a1:ByteArray) (a2:Amount):Event :=
 (⟨3,a0,a1,a2⟩:Event)
theorem zaW5 (a0:Proc) (a1:ByteArray) (a2:Amount):PFn C 67 [.agg (Proc.enc a0),.str a1,.agg (Amount.enc a2)] (.agg (Event.enc (zJ8 a0 a1 a2))):=by
 generalize h:zJ8 a0 a1 a2=r
 refine za6 zeo3 rfl fun E hG hN hK=>?_
 unfold zdo9
 unfold zJ8 at h
 refine za0 (za1 hG ?_)
 refine za0 (za1 hG ?_)
 refine za8 ?_
 exact ze9 h
noncomputable def zM4  (j1:(List Event)):Option ((List Event)) :=
 some j1
@[go_sem] def zdN3  (j1:(List Event)):St:=⟨[(2,.own 1 0 j1.length)],[(1,⟨false,7,(Event.enc Event.zero),j1.map Event.enc⟩)],2⟩
noncomputable def zD4 (a0:ByteArray) (a1:List Hold) (g1:Int×(List Event)):Option ((Int×(List Event))⊕(((List Event)))) :=
 (if (decide (g1.1 < (a1.length:Int)))=true then
  gd (0≤g1.1∧g1.1 < (a1.length:Int)) <|
  gd (g1.2.length+1≤4294967296) <|
  some (.inl ((IntKind.i64.wrap (g1.1+1)),(g1.2++[(⟨1,(a1.getD g1.1.toNat Hold.zero).proc,a0,(a1.getD g1.1.toNat Hold.zero).amount⟩:Event)])))
 else
  some (.inr g1.2))
@[go_sem] def zdN4 (a0:ByteArray) (a1:List Hold) (g1:Int×(List Event)):St:=⟨[(0,.str a0),(2,.own 1 0 g1.2.length),(9,.sl (a1.map Hold.enc)),(10,.int .i64 (a1.length:Int)),(11,.int .i64 g1.1)],[(1,⟨false,7,(Event.enc Event.zero),g1.2.map Event.enc⟩)],2⟩
noncomputable def zw4 (a0:ByteArray) (a1:List Hold) (a2:List Event):Option ((List Event)) :=
 (zb6 (zD4 a0 a1) (0,a2)).bind (fun z=>zM4 z)
theorem zay6 (a0:ByteArray) (a1:List Hold) (a2:List Event) (r:(List Event)) (h:zw4 a0 a1 a2=some r):MFn C 58 [.str a0,.sl (a1.map Hold.enc),.own 0 0 a2.length] [(0,⟨false,7,(Event.enc Event.zero),a2.map Event.enc⟩)] 1 (.own 1 0 r.length) [(1,⟨false,7,(Event.enc Event.zero),r.map Event.enc⟩)] 2:=by
 refine zs0 (rl:=[.own 1 0 r.length]) zeo4 rfl rfl rfl rfl fun E hG hN hK=>?_
 unfold zdp7
 unfold zw4 at h
 refine za0 (za1 hG ?_)
 refine za0 (za0 (za1 hG ?_))
 refine zb4 (zdN3) (fun v=>zM4 v=some r) ?_ ?_
 · intro j1 h
   unfold zM4 at h
   refine g_st ?_
   refine za0 (za1 hG ?_)
   refine za8 ?_
   exact zC2 [(1,1)] h
 refine zd6 (zdN4 a0 a1) hK [(1,0)] h (fun x_l1 h g1 y_l1 h_l1 hx_l1=>?_)
 unfold zD4 at h_l1
 refine g_st ?_
 refine za0 (za1 hG ?_)
 refine za0 ?_
 refine za3 rfl hG h_l1 (fun _ h_l1=>?_) (fun _ h_l1=>?_)
 · refine za4 ?_
   refine za0 (zb5 (za0 ?_))
   obtain ⟨hb2,h_l1⟩:=za2 h_l1
   refine za1 hG ?_
   obtain ⟨hb1,h_l1⟩:=za2 h_l1
   refine za1 hG ?_
   refine za1 hG ?_
   exact zc7 hK [(1,3)] h_l1
 refine zc2 ?_
 obtain rfl:=Option.some.inj h_l1
 have hx:=hx_l1 _ rfl
 subst hx
 try dsimp only at h
 exact zc6 hK [(1,1)] g1.2 (by exact h)
attribute [local irreducible] zw4
noncomputable def zP3  (j1:(List Queue)×(List Event)):Option ((List Queue)×(List Event)) :=
 some (j1.1,j1.2)
@[go_sem] def zdN5  (j1:(List Queue)×(List Event)):St:=⟨[(6,.own 0 0 j1.1.length),(7,.own 1 0 j1.2.length)],[(0,⟨false,8,(Queue.enc Queue.zero),j1.1.map Queue.enc⟩),(1,⟨false,7,(Event.enc Event.zero),j1.2.map Event.enc⟩)],2⟩
noncomputable def zv8 (a0:List Queue) (g1:Int×(List Queue)×(List Event)) (v3:Queue×(List Hold)×Int) (j2:(List Event)):Option ((Int×(List Queue)×(List Event))⊕(((List Queue)×(List Event)))) :=
 (zw4 (((a0.getD g1.1.toNat Queue.zero).resource).name) v3.2.1 j2).bind fun v5 =>
 gd (0≤g1.1∧g1.1 < ((g1.2.1.length:Nat):Int)) <|
 some (.inl ((IntKind.i64.wrap (g1.1+1)),(g1.2.1.set g1.1.toNat v3.1),v5))
@[go_sem] def zdN6 (a0:List Queue) (a1:Proc) (g1:Int×(List Queue)×(List Event)) (v3:Queue×(List Hold)×Int) (j2:(List Event)):St:=⟨[(3,.ptr 0 0 0),(6,.own 1 0 g1.2.1.length),(7,.own 2 0 j2.length),(8,.int .i64 g1.1),(9,.ptr 3 0 0),(10,.ptr 4 0 0),(11,.sl (v3.2.1.map Hold.enc)),(19,.sl (a0.map Queue.enc)),(20,.int .i64 (a0.length:Int)),(21,.int .i64 g1.1)],[(0,⟨false,3,(Proc.enc Proc.zero),[Proc.enc a1]⟩),(1,⟨false,8,(Queue.enc Queue.zero),g1.2.1.map Queue.enc⟩),(2,⟨false,7,(Event.enc Event.zero),j2.map Event.enc⟩),(3,⟨false,8,(Queue.enc Queue.zero),[Queue.enc (a0.getD g1.1.toNat Queue.zero)]⟩),(4,⟨false,8,(Queue.enc Queue.zero),[Queue.enc v3.1]⟩)],5⟩
noncomputable def zF3 (a0:List Queue) (a1:Proc) (g1:Int×(List Queue)×(List Event)):Option ((Int×(List Queue)×(List Event))⊕(((List Queue)×(List Event)))) :=
 (if (decide (g1.1 < (a0.length:Int)))=true then
  gd (0≤g1.1∧g1.1 < (a0.length:Int)) <|
  (zy8 (a0.getD g1.1.toNat Queue.zero) a1).bind fun v3 =>
  (if (!decide (v3.2.2=0))=true then
   some (.inl ((IntKind.i64.wrap (g1.1+1)),g1.2.1,g1.2.2))
  else
   (zh2 (a0.getD g1.1.toNat Queue.zero) a1).bind fun v4 =>
   (if (!decide (v4={ Amount.zero with  }))=true then
    gd (g1.2.2.length+1≤4294967296) <|
    zv8 a0 g1 v3 (g1.2.2++[(zJ8 a1 (((a0.getD g1.1.toNat Queue.zero).resource).name) ({ Amount.zero with  }))])
   else
    zv8 a0 g1 v3 g1.2.2))
 else
  some (.inr (g1.2.1,g1.2.2)))
@[go_sem] def zdN7 (a0:List Queue) (a1:Proc) (g1:Int×(List Queue)×(List Event)):St:=⟨[(3,.ptr 0 0 0),(6,.own 1 0 g1.2.1.length),(7,.own 2 0 g1.2.2.length),(19,.sl (a0.map Queue.enc)),(20,.int .i64 (a0.length:Int)),(21,.int .i64 g1.1)],[(0,⟨false,3,(Proc.enc Proc.zero),[Proc.enc a1]⟩),(1,⟨false,8,(Queue.enc Queue.zero),g1.2.1.map Queue.enc⟩),(2,⟨false,7,(Event.enc Event.zero),g1.2.2.map Event.enc⟩)],3⟩
noncomputable def zv0 (a0:List Queue) (a1:Proc):Option ((List Queue)×(List Event)) :=
 (zj8 a0).bind fun v1 =>
 (if (!v1)=true then
  some ([],[])
 else
  (zn1 a0 (-1) ({ Queue.zero with  })).bind fun v2 =>
  (zb6 (zF3 a0 a1) (0,v2,[])).bind (fun z=>zP3 z))
theorem zaj4 (a0:List Queue) (a1:Proc) (r:(List Queue)×(List Event)) (h:zv0 a0 a1=some r):PFn C 26 [.sl (a0.map Queue.enc),.agg (Proc.enc a1)] (.tup [.sl (r.1.map Queue.enc),.sl (r.2.map Event.enc)]):=by
 refine za6 zeo5 rfl fun E hG hN hK=>?_
 unfold zdq8
 unfold zv0 at h
 refine za0 (za1 hG ?_)
 refine za0 (za0 (za1 hG ?_))
 obtain ⟨v1,hv1,h⟩:=za5 h
 refine za7 (fun hg=>zO1 a0 _ (hv1)) ?_
 refine za3 rfl hG h (fun _ h=>?_) (fun _ h=>?_)
 · refine za0 (za1 hG ?_)
   refine za8 ?_
   exact zb1 h
 refine za4 ?_
 refine za0 (za1 hG ?_)
 obtain ⟨v2,hv2,h⟩:=za5 h
 refine zA5 [] [(0,1)] [0] (zaq8 a0 (-1) ({ Queue.zero with  }) _ hv2) rfl rfl ?_
 refine za0 (za1 hG ?_)
 refine za0 (za0 (za1 hG ?_))
 refine zb4 (zdN5) (fun v=>zP3 v=some r) ?_ ?_
 · intro j1 h
   unfold zP3 at h
   refine g_st ?_
   refine za0 (za1 hG ?_)
   refine za8 ?_
   exact zb1 h
 refine zd6 (zdN7 a0 a1) hK [(0,0),(1,1),(2,2)] h (fun x_l1 h g1 y_l1 h_l1 hx_l1=>?_)
 unfold zF3 at h_l1
 refine g_st ?_
 refine za0 (za1 hG ?_)
 refine za0 ?_
 refine za3 rfl hG h_l1 (fun _ h_l1=>?_) (fun _ h_l1=>?_)
 · refine za4 ?_
   refine za0 (zb5 (za0 ?_))
   obtain ⟨hb3,h_l1⟩:=za2 h_l1
   refine za1 hG ?_
   refine za0 (za1 hG ?_)
   obtain ⟨v3,hv3,h_l1⟩:=za5 h_l1
   refine za7 (fun hg=>zaI9 (a0.getD g1.1.toNat Queue.zero) a1 _ (hv3)) ?_
   refine za0 (za0 (za1 hG ?_))
   refine za3 rfl hG h_l1 (fun _ h_l1=>?_) (fun _ h_l1=>?_)
   · refine zc2 ?_
     refine za1 hG ?_
     exact zc7 hK [(0,0),(1,1),(2,2)] h_l1
   refine za4 ?_
   refine za0 (za0 (za1 hG ?_))
   obtain ⟨v4,hv4,h_l1⟩:=za5 h_l1
   refine za7 (fun hg=>zK8 (a0.getD g1.1.toNat Queue.zero) a1 _ (hv4)) ?_
   refine zaK7 (zdN6 a0 a1 g1 v3) (fun v=>zv8 a0 g1 v3 v=some y_l1) rfl hG h_l1 ?_ (fun _ h_l1=>?_) (fun _ h_l1=>?_)
   · intro j2 h_l1
     unfold zv8 at h_l1
     refine g_st ?_
     refine za0 (za1 hG ?_)
     obtain ⟨v5,hv5,h_l1⟩:=za5 h_l1
     refine zA5 [(0,2)] [(1,5)] [0,1] (zay6 (((a0.getD g1.1.toNat Queue.zero).resource).name) v3.2.1 j2 _ hv5) rfl rfl ?_
     obtain ⟨hb1,h_l1⟩:=za2 h_l1
     refine za1 hG ?_
     refine za1 hG ?_
     exact zc7 hK [(0,0),(1,1),(2,5)] h_l1
   · refine za1 hG ?_
     obtain ⟨hb2,h_l1⟩:=za2 h_l1
     refine za7 (fun hg=>zaW5 a1 (((a0.getD g1.1.toNat Queue.zero).resource).name) ({ Amount.zero with  })) ?_
     exact zc6 hK [(0,0),(1,1),(2,5),(3,3),(4,4)] (g1.2.2++[(zJ8 a1 (((a0.getD g1.1.toNat Queue.zero).resource).name) ({ Amount.zero with  }))]) (by exact h_l1)
   refine za4 ?_
   exact zc6 hK [(0,0),(1,1),(2,2),(3,3),(4,4)] g1.2.2 (by exact h_l1)
 refine zc2 ?_
 obtain rfl:=Option.some.inj h_l1
 have hx:=hx_l1 _ rfl
 subst hx
 try dsimp only at h
 exact zc6 hK [(0,1),(1,2)] (g1.2.1,g1.2.2) (by exact h)
attribute [local irreducible] zv0
noncomputable def zay7  (j1:(List Atom)):Option ((List Atom)) :=
 some j1
@[go_sem] def zeF5  (j1:(List Atom)):St:=⟨[(5,.own 0 0 j1.length)],[(0,⟨false,3,(Atom.enc Atom.zero),j1.map Atom.enc⟩)],1⟩
noncomputable def zay8 (a0:List Queue) (a1:Proc) (g1:Int×(List Atom)):Option ((Int×(List Atom))⊕(((List Atom)))) :=
 (if (decide (g1.1 < (a0.length:Int)))=true then
  gd (0≤g1.1∧g1.1 < (a0.length:Int)) <|
  (zj5 (a0.getD g1.1.toNat Queue.zero) a1).bind fun v1 =>
  (if v1.2=true then
   gd (g1.2.length+1≤4294967296) <|
   some (.inl ((IntKind.i64.wrap (g1.1+1)),(g1.2++[(⟨((a0.getD g1.1.toNat Queue.zero).resource).name,v1.1⟩:Atom)])))
  else
   some (.inl ((IntKind.i64.wrap (g1.1+1)),g1.2)))
 else
  some (.inr g1.2))
@[go_sem] def zeF6 (a0:List Queue) (a1:Proc) (g1:Int×(List Atom)):St:=⟨[(3,.ptr 0 0 0),(5,.own 1 0 g1.2.length),(10,.sl (a0.map Queue.enc)),(11,.int .i64 (a0.length:Int)),(12,.int .i64 g1.1)],[(0,⟨false,3,(Proc.enc Proc.zero),[Proc.enc a1]⟩),(1,⟨false,3,(Atom.enc Atom.zero),g1.2.map Atom.enc⟩)],2⟩
noncomputable def zam6 (a0:List Queue) (a1:Proc):Option ((List Atom)) :=
 (zb6 (zay8 a0 a1) (0,[])).bind (fun z=>zay7 z)
attribute [local irreducible] zam6
noncomputable def zC0 (a0:Queue) (a1:Proc):Option (Bool) :=
 (zl0 a0 a1).bind fun v1 =>
 ((if (!v1.2)=true then zo7 a0 a1 else some (Amount.zero))).bind fun v2 =>
 some (v1.2||(!(zc5 v2)))
theorem zay9 (a0:Queue) (a1:Proc) (r:Bool) (h:zC0 a0 a1=some r):PFn C 71 [.agg (Queue.enc a0),.agg (Proc.enc a1)] (.bool r):=by
 refine za6 zep6 rfl fun E hG hN hK=>?_
 unfold zdr2
 unfold zC0 at h
 refine za0 (za1 hG ?_)
 refine za0 (za1 hG ?_)
 obtain ⟨v1,hv1,h⟩:=za5 h
 refine za7 (fun hg=>zaI5 a0 a1 _ (hv1)) ?_
 refine za0 (za1 hG ?_)
 obtain ⟨v2,hv2,h⟩:=za5 h
 refine za7 (fun hg=>zas2 a0 a1 _ (zv7 hg hv2)) ?_
 refine za7 (fun hg=>zq5 v2) ?_
 refine za8 ?_
 exact zb1 h
attribute [local irreducible] zC0
noncomputable def zy9 (a0:Queue) (a1:Proc):Option (Queue×(List Hold)×Int) :=
 (zj9 a0).bind fun v1 =>
 (if (!v1)=true then
  some ({ Queue.zero with  },[],2)
 else
  (zC0 a0 a1).bind fun v2 =>
  (if (!v2)=true then
   some ({ Queue.zero with  },[],10)
  else
   (zr6 a0).bind fun v3 =>
   (zs2 v3.holds a1 ({ Amount.zero with  })).bind fun v4 =>
   (zl2 (({ v3 with holds:=v4 }).converts) a1).bind fun v5 =>
   (zl2 (({ { v3 with holds:=v4 } with converts:=v5.1 }).waits) a1).bind fun v6 =>
   (zi1 ({ { { v3 with holds:=v4 } with converts:=v5.1 } with waits:=v6.1 })).bind fun v7 =>
   some (v7.1,v7.2.1,v7.2.2)))
theorem zaJ0 (a0:Queue) (a1:Proc) (r:Queue×(List Hold)×Int) (h:zy9 a0 a1=some r):PFn C 72 [.agg (Queue.enc a0),.agg (Proc.enc a1)] (.tup [.agg (Queue.enc r.1),.sl (r.2.1.map Hold.enc),.int .i64 r.2.2]):=by
 refine za6 zep7 rfl fun E hG hN hK=>?_
 unfold zds3
 unfold zy9 at h
 refine za0 (za1 hG ?_)
 refine za0 (za0 (za1 hG ?_))
 obtain ⟨v1,hv1,h⟩:=za5 h
 refine za7 (fun hg=>zal9 a0 _ (hv1)) ?_
 refine za3 rfl hG h (fun _ h=>?_) (fun _ h=>?_)
 · refine za0 (za1 hG ?_)
   refine za8 ?_
   exact zb1 h
 refine za4 ?_
 refine za0 (za0 (za1 hG ?_))
 obtain ⟨v2,hv2,h⟩:=za5 h
 refine za7 (fun hg=>zay9 a0 a1 _ (hv2)) ?_
 refine za3 rfl hG h (fun _ h=>?_) (fun _ h=>?_)
 · refine za0 (za1 hG ?_)
   refine za8 ?_
   exact zb1 h
 refine za4 ?_
 refine za0 (za1 hG ?_)
 obtain ⟨v3,hv3,h⟩:=za5 h
 refine za7 (fun hg=>zas3 a0 _ (hv3)) ?_
 refine za0 (za1 hG ?_)
 obtain ⟨v4,hv4,h⟩:=za5 h
 refine za7 (fun hg=>zah7 v3.holds a1 ({ Amount.zero with  }) _ (hv4)) ?_
 refine za0 (za1 hG ?_)
 obtain ⟨v5,hv5,h⟩:=za5 h
 refine za7 (fun hg=>zaj3 (({ v3 with holds:=v4 }).converts) a1 _ (hv5)) ?_
 refine za0 (za1 hG ?_)
 obtain ⟨v6,hv6,h⟩:=za5 h
 refine za7 (fun hg=>zaj3 (({ { v3 with holds:=v4 } with converts:=v5.1 }).waits) a1 _ (hv6)) ?_
 refine za0 (za1 hG ?_)
 obtain ⟨v7,hv7,h⟩:=za5 h
 refine za7 (fun hg=>zaC7 ({ { { v3 with holds:=v4 } with converts:=v5.1 } with waits:=v6.1 }) _ (hv7)) ?_
 refine za8 ?_
 exact zb1 h
attribute [local irreducible] zy9
noncomputable def zP4  (j1:(List Queue)×(List Event)):Option ((List Queue)×(List Event)) :=
 some (j1.1,j1.2)
@[go_sem] def zdN8  (j1:(List Queue)×(List Event)):St:=⟨[(6,.own 0 0 j1.1.length),(7,.own 1 0 j1.2.length)],[(0,⟨false,8,(Queue.enc Queue.zero),j1.1.map Queue.enc⟩),(1,⟨false,7,(Event.enc Event.zero),j1.2.map Event.enc⟩)],2⟩
noncomputable def zv9 (a1:Proc) (g1:Int×(List Queue)×(List Event)) (j2:(List Event)):Option ((Int×(List Queue)×(List Event))⊕(((List Queue)×(List Event)))) :=
 gd (0≤g1.1∧g1.1 < ((g1.2.1.length:Nat):Int)) <|
 (zy9 (g1.2.1.getD g1.1.toNat Queue.zero) a1).bind fun v4 =>
 gd (0≤g1.1∧g1.1 < ((g1.2.1.length:Nat):Int)) <|
 (zl1 v4.1.resource.name v4.2.1).bind fun v5 =>
 gd (j2.length+v5.length≤4294967296) <|
 some (.inl ((IntKind.i64.wrap (g1.1+1)),(g1.2.1.set g1.1.toNat v4.1),(j2++v5)))
@[go_sem] def zdN9 (a1:Proc) (g1:Int×(List Queue)×(List Event)) (j2:(List Event)):St:=⟨[(3,.ptr 0 0 0),(6,.own 1 0 g1.2.1.length),(7,.own 2 0 j2.length),(8,.int .i64 g1.1)],[(0,⟨false,3,(Proc.enc Proc.zero),[Proc.enc a1]⟩),(1,⟨false,8,(Queue.enc Queue.zero),g1.2.1.map Queue.enc⟩),(2,⟨false,7,(Event.enc Event.zero),j2.map Event.enc⟩)],3⟩
noncomputable def zF4 (a1:Proc) (g1:Int×(List Queue)×(List Event)):Option ((Int×(List Queue)×(List Event))⊕(((List Queue)×(List Event)))) :=
 (if (decide (g1.1 < ((g1.2.1.length:Nat):Int)))=true then
  gd (0≤g1.1∧g1.1 < ((g1.2.1.length:Nat):Int)) <|
  (zC0 (g1.2.1.getD g1.1.toNat Queue.zero) a1).bind fun v2 =>
  (if (!v2)=true then
   some (.inl ((IntKind.i64.wrap (g1.1+1)),g1.2.1,g1.2.2))
  else
   gd (0≤g1.1∧g1.1 < ((g1.2.1.length:Nat):Int)) <|
   (zo7 (g1.2.1.getD g1.1.toNat Queue.zero) a1).bind fun v3 =>
   (if (!(zc5 v3))=true then
    gd (0≤g1.1∧g1.1 < ((g1.2.1.length:Nat):Int)) <|
    gd (g1.2.2.length+1≤4294967296) <|
    zv9 a1 g1 (g1.2.2++[{ Event.zero with kind:=3,proc:=a1,name:=((g1.2.1.getD g1.1.toNat Queue.zero).resource).name }])
   else
    zv9 a1 g1 g1.2.2))
 else
  some (.inr (g1.2.1,g1.2.2)))
@[go_sem] def zdO0 (a1:Proc) (g1:Int×(List Queue)×(List Event)):St:=⟨[(3,.ptr 0 0 0),(6,.own 1 0 g1.2.1.length),(7,.own 2 0 g1.2.2.length),(8,.int .i64 g1.1)],[(0,⟨false,3,(Proc.enc Proc.zero),[Proc.enc a1]⟩),(1,⟨false,8,(Queue.enc Queue.zero),g1.2.1.map Queue.enc⟩),(2,⟨false,7,(Event.enc Event.zero),g1.2.2.map Event.enc⟩)],3⟩
noncomputable def zv1 (a0:List Queue) (a1:Proc):Option ((List Queue)×(List Event)) :=
 (zl8 a0).bind fun v1 =>
 (if (!v1)=true then
  some ([],[])
 else
  gd (a0.length≤4294967296) <|
  (zb6 (zF4 a1) (0,a0,[])).bind (fun z=>zP4 z))
theorem zaj5 (a0:List Queue) (a1:Proc) (r:(List Queue)×(List Event)) (h:zv1 a0 a1=some r):PFn C 33 [.sl (a0.map Queue.enc),.agg (Proc.enc a1)] (.tup [.sl (r.1.map Queue.enc),.sl (r.2.map Event.enc)]):=by
 refine za6 zep8 rfl fun E hG hN hK=>?_
 unfold zdt4
 unfold zv1 at h
 refine za0 (za1 hG ?_)
 refine za0 (za0 (za1 hG ?_))
 obtain ⟨v1,hv1,h⟩:=za5 h
 refine za7 (fun hg=>zam1 a0 _ (hv1)) ?_
 refine za3 rfl hG h (fun _ h=>?_) (fun _ h=>?_)
 · refine za0 (za1 hG ?_)
   refine za8 ?_
   exact zb1 h
 refine za4 ?_
 refine za0 ?_
 obtain ⟨hb8,h⟩:=za2 h
 refine za1 hG ?_
 refine za0 (za1 hG ?_)
 refine za0 (za0 (za1 hG ?_))
 refine zb4 (zdN8) (fun v=>zP4 v=some r) ?_ ?_
 · intro j1 h
   unfold zP4 at h
   refine g_st ?_
   refine za0 (za1 hG ?_)
   refine za8 ?_
   exact zb1 h
 refine zd6 (zdO0 a1) hK [(0,0),(1,2),(2,3)] h (fun x_l1 h g1 y_l1 h_l1 hx_l1=>?_)
 unfold zF4 at h_l1
 refine g_st ?_
 refine za0 (za0 (za1 hG ?_))
 refine za3 rfl hG h_l1 (fun _ h_l1=>?_) (fun _ h_l1=>?_)
 · refine za4 ?_
   refine za0 (zb5 (za0 (za0 ?_)))
   obtain ⟨hb7,h_l1⟩:=za2 h_l1
   refine zo8 ze6 hG ?_
   obtain ⟨v2,hv2,h_l1⟩:=za5 h_l1
   refine zg4 (fun hg=>zay9 (g1.2.1.getD g1.1.toNat Queue.zero) a1 _ (hv2)) ?_
   refine za3 rfl hG h_l1 (fun _ h_l1=>?_) (fun _ h_l1=>?_)
   · refine zc2 ?_
     refine za1 hG ?_
     exact zc7 hK [(0,0),(1,1),(2,2)] h_l1
   refine za4 ?_
   refine za0 (za0 ?_)
   obtain ⟨hb6,h_l1⟩:=za2 h_l1
   refine zo8 ze6 hG ?_
   obtain ⟨v3,hv3,h_l1⟩:=za5 h_l1
   refine zg4 (fun hg=>zas2 (g1.2.1.getD g1.1.toNat Queue.zero) a1 _ (hv3)) ?_
   refine zg4 (fun hg=>zq5 v3) ?_
   refine zaK7 (zdN9 a1 g1) (fun v=>zv9 a1 g1 v=some y_l1) rfl hG h_l1 ?_ (fun _ h_l1=>?_) (fun _ h_l1=>?_)
   · intro j2 h_l1
     unfold zv9 at h_l1
     refine g_st ?_
     refine za0 ?_
     obtain ⟨hb3,h_l1⟩:=za2 h_l1
     refine zX3 ze6 hG ?_
     obtain ⟨v4,hv4,h_l1⟩:=za5 h_l1
     refine zW1 (fun hg=>zaJ0 (g1.2.1.getD g1.1.toNat Queue.zero) a1 _ (hv4)) ?_
     refine za0 ?_
     obtain ⟨hb2,h_l1⟩:=za2 h_l1
     refine za1 hG ?_
     refine za1 hG ?_
     obtain ⟨v5,hv5,h_l1⟩:=za5 h_l1
     obtain ⟨hb1,h_l1⟩:=za2 h_l1
     refine za7 (fun hg=>zaI6 v4.1.resource.name v4.2.1 _ (hv5)) ?_
     refine za1 hG ?_
     exact zc7 hK [(0,0),(1,1),(2,4)] h_l1
   · obtain ⟨hb4,h_l1⟩:=za2 h_l1
     obtain ⟨hb5,h_l1⟩:=za2 h_l1
     refine zX3 ze6 hG ?_
     exact zc6 hK [(0,0),(1,1),(2,3)] (g1.2.2++[{ Event.zero with kind:=3,proc:=a1,name:=((g1.2.1.getD g1.1.toNat Queue.zero).resource).name }]) (by exact h_l1)
   refine za4 ?_
   exact zc6 hK [(0,0),(1,1),(2,2)] g1.2.2 (by exact h_l1)
 refine zc2 ?_
 obtain rfl:=Option.some.inj h_l1
 have hx:=hx_l1 _ rfl
 subst hx
 try dsimp only at h
 exact zc6 hK [(0,1),(1,2)] (g1.2.1,g1.2.2) (by exact h)
attribute [local irreducible] zv1
noncomputable def zR9  (j1:(List Queue)×(List Event)):Option ((List Queue)×(List Event)) :=
 some (j1.1,j1.2)
@[go_sem] def zdO1  (j1:(List Queue)×(List Event)):St:=⟨[(8,.sl (j1.1.map Queue.enc)),(9,.own 0 0 j1.2.length)],[(0,⟨false,7,(Event.enc Event.zero),j1.2.map Event.enc⟩)],1⟩
noncomputable def zJ9 (a1:Int) (a2:Int) (v3:(List Proc)) (g1:(List Queue)×Int×(List Event)):Option (((List Queue)×Int×(List Event))⊕(((List Queue)×(List Event)))) :=
 (if (decide (g1.2.1 < (v3.length:Int)))=true then
  gd (0≤g1.2.1∧g1.2.1 < (v3.length:Int)) <|
  (if ((!decide ((v3.getD g1.2.1.toNat Proc.zero).site=a1))||(decide (a2≤(v3.getD g1.2.1.toNat Proc.zero).inc)))=true then
   some (.inl (g1.1,(IntKind.i64.wrap (g1.2.1+1)),g1.2.2))
  else
   (zv0 g1.1 (v3.getD g1.2.1.toNat Proc.zero)).bind fun v4 =>
   gd (g1.2.2.length+v4.2.length≤4294967296) <|
   some (.inl (v4.1,(IntKind.i64.wrap (g1.2.1+1)),(g1.2.2++v4.2))))
 else
  some (.inr (g1.1,g1.2.2)))
@[go_sem] def zdO2 (a1:Int) (a2:Int) (v3:(List Proc)) (g1:(List Queue)×Int×(List Event)):St:=⟨[(1,.int .i64 a1),(2,.int .i64 a2),(8,.sl (g1.1.map Queue.enc)),(9,.own 0 0 g1.2.2.length),(21,.sl (v3.map Proc.enc)),(22,.int .i64 (v3.length:Int)),(23,.int .i64 g1.2.1)],[(0,⟨false,7,(Event.enc Event.zero),g1.2.2.map Event.enc⟩)],1⟩
noncomputable def zA3 (a0:List Queue) (a1:Int) (a2:Int):Option ((List Queue)×(List Event)) :=
 (zj8 a0).bind fun v1 =>
 (if (!v1)=true then
  some ([],[])
 else
  (zf3 a0 (-1) ({ Queue.zero with  })).bind fun v2 =>
  (zl4 a0).bind fun v3 =>
  (zb6 (zJ9 a1 a2 v3) (v2,0,[])).bind (fun z=>zR9 z))
theorem zaR0 (a0:List Queue) (a1:Int) (a2:Int) (r:(List Queue)×(List Event)) (h:zA3 a0 a1 a2=some r):PFn C 34 [.sl (a0.map Queue.enc),.int .i64 a1,.int .i64 a2] (.tup [.sl (r.1.map Queue.enc),.sl (r.2.map Event.enc)]):=by
 refine za6 zep9 rfl fun E hG hN hK=>?_
 unfold zdu5
 unfold zA3 at h
 refine za0 (za1 hG ?_)
 refine za0 (za0 (za1 hG ?_))
 obtain ⟨v1,hv1,h⟩:=za5 h
 refine za7 (fun hg=>zO1 a0 _ (hv1)) ?_
 refine za3 rfl hG h (fun _ h=>?_) (fun _ h=>?_)
 · refine za0 (za1 hG ?_)
   refine za8 ?_
   exact zb1 h
 refine za4 ?_
 refine za0 (za1 hG ?_)
 obtain ⟨v2,hv2,h⟩:=za5 h
 refine za7 (fun hg=>zae6 a0 (-1) ({ Queue.zero with  }) _ (hv2)) ?_
 refine za0 (za1 hG ?_)
 refine za0 (za0 (za1 hG ?_))
 obtain ⟨v3,hv3,h⟩:=za5 h
 refine za7 (fun hg=>zY0 a0 _ (hv3)) ?_
 refine zb4 (zdO1) (fun v=>zR9 v=some r) ?_ ?_
 · intro j1 h
   unfold zR9 at h
   refine g_st ?_
   refine za0 (za1 hG ?_)
   refine za8 ?_
   exact zb1 h
 refine zd6 (zdO2 a1 a2 v3) hK [(0,0)] h (fun x_l1 h g1 y_l1 h_l1 hx_l1=>?_)
 unfold zJ9 at h_l1
 refine g_st ?_
 refine za0 (za1 hG ?_)
 refine za0 ?_
 refine za3 rfl hG h_l1 (fun _ h_l1=>?_) (fun _ h_l1=>?_)
 · refine za4 ?_
   refine za0 (zb5 (za0 ?_))
   obtain ⟨hb2,h_l1⟩:=za2 h_l1
   refine za1 hG ?_
   refine za0 (za0 (za1 hG ?_))
   refine za3 rfl hG h_l1 (fun _ h_l1=>?_) (fun _ h_l1=>?_)
   · refine zc2 ?_
     refine za1 hG ?_
     exact zc7 hK [(0,0)] h_l1
   refine za4 ?_
   refine za0 (za1 hG ?_)
   obtain ⟨v4,hv4,h_l1⟩:=za5 h_l1
   refine za7 (fun hg=>zaj4 g1.1 (v3.getD g1.2.1.toNat Proc.zero) _ (hv4)) ?_
   refine za0 (za1 hG ?_)
   obtain ⟨hb1,h_l1⟩:=za2 h_l1
   refine za1 hG ?_
   refine za1 hG ?_
   exact zc7 hK [(0,2)] h_l1
 refine zc2 ?_
 obtain rfl:=Option.some.inj h_l1
 have hx:=hx_l1 _ rfl
 subst hx
 try dsimp only at h
 exact zc6 hK [(0,0)] (g1.1,g1.2.2) (by exact h)
attribute [local irreducible] zA3
noncomputable def zS0  (j1:(List Queue)×(List Event)):Option ((List Queue)×(List Event)) :=
 some (j1.1,j1.2)
@[go_sem] def zdO3  (j1:(List Queue)×(List Event)):St:=⟨[(0,.sl (j1.1.map Queue.enc)),(8,.own 0 0 j1.2.length)],[(0,⟨false,7,(Event.enc Event.zero),j1.2.map Event.enc⟩)],1⟩
noncomputable def zK0 (a1:Int) (a2:Int) (v2:(List Proc)) (g1:(List Queue)×Int×(List Event)):Option (((List Queue)×Int×(List Event))⊕(((List Queue)×(List Event)))) :=
 (if (decide (g1.2.1 < (v2.length:Int)))=true then
  gd (0≤g1.2.1∧g1.2.1 < (v2.length:Int)) <|
  gd ((decide ((v2.getD g1.2.1.toNat Proc.zero).site=a1))=true→0≤g1.2.1∧g1.2.1 < (v2.length:Int)) <|
  (if ((decide ((v2.getD g1.2.1.toNat Proc.zero).site=a1))&&(decide ((v2.getD g1.2.1.toNat Proc.zero).inc < a2)))=true then
   gd (0≤g1.2.1∧g1.2.1 < (v2.length:Int)) <|
   (zv1 g1.1 (v2.getD g1.2.1.toNat Proc.zero)).bind fun v3 =>
   gd (g1.2.2.length+v3.2.length≤4294967296) <|
   some (.inl (v3.1,(IntKind.i64.wrap (g1.2.1+1)),(g1.2.2++v3.2)))
  else
   some (.inl (g1.1,(IntKind.i64.wrap (g1.2.1+1)),g1.2.2)))
 else
  some (.inr (g1.1,g1.2.2)))
@[go_sem] def zdO4 (a1:Int) (a2:Int) (v2:(List Proc)) (g1:(List Queue)×Int×(List Event)):St:=⟨[(0,.sl (g1.1.map Queue.enc)),(1,.int .i64 a1),(2,.int .i64 a2),(8,.own 0 0 g1.2.2.length),(9,.sl (v2.map Proc.enc)),(10,.int .i64 g1.2.1)],[(0,⟨false,7,(Event.enc Event.zero),g1.2.2.map Event.enc⟩)],1⟩
noncomputable def zA4 (a0:List Queue) (a1:Int) (a2:Int):Option ((List Queue)×(List Event)) :=
 (zl8 a0).bind fun v1 =>
 (if (!v1)=true then
  some ([],[])
 else
  (zq7 a0).bind fun v2 =>
  (zb6 (zK0 a1 a2 v2) (a0,0,[])).bind (fun z=>zS0 z))
theorem zaR1 (a0:List Queue) (a1:Int) (a2:Int) (r:(List Queue)×(List Event)) (h:zA4 a0 a1 a2=some r):PFn C 35 [.sl (a0.map Queue.enc),.int .i64 a1,.int .i64 a2] (.tup [.sl (r.1.map Queue.enc),.sl (r.2.map Event.enc)]):=by
 refine za6 zeq0 rfl fun E hG hN hK=>?_
 unfold zdv6
 unfold zA4 at h
 refine za0 (za1 hG ?_)
 refine za0 (za0 (za1 hG ?_))
 obtain ⟨v1,hv1,h⟩:=za5 h
 refine za7 (fun hg=>zam1 a0 _ (hv1)) ?_
 refine za3 rfl hG h (fun _ h=>?_) (fun _ h=>?_)
 · refine za0 (za1 hG ?_)
   refine za8 ?_
   exact zb1 h
 refine za4 ?_
 refine za0 (za1 hG ?_)
 refine za0 (za1 hG ?_)
 obtain ⟨v2,hv2,h⟩:=za5 h
 refine za7 (fun hg=>zam0 a0 _ (hv2)) ?_
 refine za0 (za0 (za1 hG ?_))
 refine zb4 (zdO3) (fun v=>zS0 v=some r) ?_ ?_
 · intro j1 h
   unfold zS0 at h
   refine g_st ?_
   refine za0 (za1 hG ?_)
   refine za8 ?_
   exact zb1 h
 refine zd6 (zdO4 a1 a2 v2) hK [(0,0)] h (fun x_l1 h g1 y_l1 h_l1 hx_l1=>?_)
 unfold zK0 at h_l1
 refine g_st ?_
 refine za0 (za0 (za1 hG ?_))
 refine za3 rfl hG h_l1 (fun _ h_l1=>?_) (fun _ h_l1=>?_)
 · refine za4 ?_
   refine za0 (zb5 (za0 ?_))
   obtain ⟨hb3,h_l1⟩:=za2 h_l1
   obtain ⟨hb4,h_l1⟩:=za2 h_l1
   refine za1 hG ?_
   refine za3 rfl hG h_l1 (fun _ h_l1=>?_) (fun _ h_l1=>?_)
   · refine za0 ?_
     obtain ⟨hb2,h_l1⟩:=za2 h_l1
     refine za1 hG ?_
     obtain ⟨v3,hv3,h_l1⟩:=za5 h_l1
     refine za7 (fun hg=>zaj5 g1.1 (v2.getD g1.2.1.toNat Proc.zero) _ (hv3)) ?_
     refine za0 (za1 hG ?_)
     obtain ⟨hb1,h_l1⟩:=za2 h_l1
     refine za1 hG ?_
     refine za1 hG ?_
     exact zc7 hK [(0,1)] h_l1
   refine za4 ?_
   refine za1 hG ?_
   exact zc7 hK [(0,0)] h_l1
 refine zc2 ?_
 obtain rfl:=Option.some.inj h_l1
 have hx:=hx_l1 _ rfl
 subst hx
 try dsimp only at h
 exact zc6 hK [(0,0)] (g1.1,g1.2.2) (by exact h)
attribute [local irreducible] zA4
noncomputable def zam7  (j1:Unit):Option (Bool) :=
 some true
@[go_sem] def zeF7  (j1:Unit):St:=⟨[],[],0⟩
noncomputable def zam8 (a0:List Proc) (a1:List Proc) (g1:Int):Option ((Int)⊕((Unit)⊕(Bool))) :=
 (if (decide (g1 < (a0.length:Int)))=true then
  gd (0≤g1∧g1 < (a0.length:Int)) <|
  gd (0≤g1∧g1 < (a1.length:Int)) <|
  (if (!decide ((a0.getD g1.toNat Proc.zero)=(a1.getD g1.toNat Proc.zero)))=true then
   some (.inr (.inr false))
  else
   some (.inl (IntKind.i64.wrap (g1+1))))
 else
  some (.inr (.inl ())))
@[go_sem] def zeF8 (a0:List Proc) (a1:List Proc) (g1:Int):St:=⟨[(0,.sl (a0.map Proc.enc)),(1,.sl (a1.map Proc.enc)),(5,.int .i64 g1)],[],0⟩
noncomputable def zab5 (a0:List Proc) (a1:List Proc):Option (Bool) :=
 (if (!decide ((a0.length:Int)=(a1.length:Int)))=true then
  some false
 else
  (zb6 (zam8 a0 a1) 0).bind (fun | .inl z=>zam7 z | .inr z=>some z))
attribute [local irreducible] zab5
noncomputable def zM5 (a0:Queue) (a1:Proc):Option (Queue×Proc) :=
 (zl9 a0.converts a1).bind fun v1 =>
 some ({ a0 with converts:=v1.1 },a1)
attribute [local irreducible] zM5
noncomputable def zM6 (a0:Queue) (a1:Proc):Option (Queue×Proc) :=
 (zl9 a0.waits a1).bind fun v1 =>
 some ({ a0 with waits:=v1.1 },a1)
attribute [local irreducible] zM6
noncomputable def zam9  (j1:Queue×Proc):Option (Queue×(List Hold)×Int×Queue×Proc) :=
 (ze0 j1.1).bind fun v1 =>
 some ({ v1.2 with gen:=(zf7 v1.2.gen) },v1.1,0,{ v1.2 with gen:=(zf7 v1.2.gen) },j1.2)
@[go_sem] def zeF9  (j1:Queue×Proc):St:=⟨[(0,.ptr 0 0 0),(4,.ptr 3 0 0)],[(0,⟨false,8,(Queue.enc Queue.zero),[Queue.enc j1.1]⟩),(1,⟨false,1,[A.any],[[.clo 121 [.ptr 0 0 0,.ptr 2 0 0]],[.clo 122 [.ptr 0 0 0,.ptr 2 0 0]]]⟩),(2,⟨false,3,(Proc.enc Proc.zero),[Proc.enc j1.2]⟩),(3,⟨false,8,(Queue.enc Queue.zero),[Queue.enc Queue.zero]⟩)],4⟩
noncomputable def zP5 (a0:Queue) (a1:Proc):Option (Queue×(List Hold)×Int×Queue×Proc) :=
 gd (0≤0∧0 < (2:Int)) <|
 (zM5 a0 a1).bind fun v2 =>
 gd (0≤1∧1 < (2:Int)) <|
 (zM6 v2.1 v2.2).bind fun v3 =>
 zam9 (v3.1,v3.2)
attribute [local irreducible] zP5
noncomputable def zY7 (a0:Queue) (a1:Proc):Option (Queue×(List Hold)×Int) :=
 (zh5 a0).bind fun v1 =>
 (if (!v1)=true then
  some ({ Queue.zero with  },[],2)
 else
  (zj5 a0 a1).bind fun v2 =>
  (if (!v2.2)=true then
   some ({ Queue.zero with  },[],10)
  else
   (zq8 a0).bind fun v3 =>
   (zP5 v3 a1).bind fun v4 =>
   some (v4.1,v4.2.1,v4.2.2.1)))
attribute [local irreducible] zY7
noncomputable def zan0 (a0:List Queue) (a1:Proc) (a2:ByteArray):Option ((List Queue)×(List Event)×Int) :=
 (zw3 a0 a2).bind fun v1 =>
 (if (!decide (v1.2=0))=true then
  some ([],[],v1.2)
 else
  gd (0≤v1.1∧v1.1 < (a0.length:Int)) <|
  (zY7 (a0.getD v1.1.toNat Queue.zero) a1).bind fun v2 =>
  (if (!decide (v2.2.2=0))=true then
   some ([],[],v2.2.2)
  else
   (zf3 a0 v1.1 v2.1).bind fun v3 =>
   (zk9 a2 v2.2.1).bind fun v4 =>
   some (v3,v4,0)))
attribute [local irreducible] zan0
noncomputable def zP6 (a0:Queue) (a1:Proc) (a2:Amount):Option (Queue×Proc×Amount) :=
 (zi4 a0.holds a1 a2).bind fun v1 =>
 some ({ a0 with holds:=v1 },a1,a2)
attribute [local irreducible] zP6
noncomputable def zan1  (j1:Queue×Proc×Amount):Option (Queue×(List Hold)×Int×Queue×Proc×Amount) :=
 (ze0 j1.1).bind fun v1 =>
 some ({ v1.2 with gen:=(zf7 v1.2.gen) },v1.1,0,{ v1.2 with gen:=(zf7 v1.2.gen) },j1.2.1,j1.2.2)
@[go_sem] def zeG0  (j1:Queue×Proc×Amount):St:=⟨[(0,.ptr 0 0 0),(4,.ptr 4 0 0)],[(0,⟨false,8,(Queue.enc Queue.zero),[Queue.enc j1.1]⟩),(1,⟨false,1,[A.any],[[.clo 124 [.ptr 0 0 0,.ptr 2 0 0,.ptr 3 0 0]]]⟩),(2,⟨false,3,(Proc.enc Proc.zero),[Proc.enc j1.2.1]⟩),(3,⟨false,2,(Amount.enc Amount.zero),[Amount.enc j1.2.2]⟩),(4,⟨false,8,(Queue.enc Queue.zero),[Queue.enc Queue.zero]⟩)],5⟩
noncomputable def zP7 (a0:Queue) (a1:Proc) (a2:Amount):Option (Queue×(List Hold)×Int×Queue×Proc×Amount) :=
 gd (0≤0∧0 < (1:Int)) <|
 (zP6 a0 a1 a2).bind fun v2 =>
 zan1 (v2.1,v2.2.1,v2.2.2)
attribute [local irreducible] zP7
noncomputable def zac5 (a0:Queue) (a1:Proc) (a2:Amount):Option (Queue×(List Hold)×Int) :=
 (zh5 a0).bind fun v1 =>
 (if (!v1)=true then
  some ({ Queue.zero with  },[],2)
 else
  (zh2 a0 a1).bind fun v2 =>
  (if (zb9 v2)=true then
   some ({ Queue.zero with  },[],10)
  else
   (zk8 a0.converts a1).bind fun v3 =>
   (if (decide (0≤v3))=true then
    some ({ Queue.zero with  },[],14)
   else
    (zg9 a0.resource v2 a2).bind fun v4 =>
    (if (!v4)=true then
     some ({ Queue.zero with  },[],12)
    else
     (zq8 a0).bind fun v5 =>
     (if (decide (a2=v2))=true then
      some (v5,[],0)
     else
      (zP7 v5 a1 a2).bind fun v6 =>
      some (v6.1,v6.2.1,v6.2.2.1))))))
attribute [local irreducible] zac5
noncomputable def zau8  (j1:(List Event)):Option ((List Event)) :=
 some j1
@[go_sem] def zeG1  (j1:(List Event)):St:=⟨[(2,.own 1 0 j1.length)],[(1,⟨false,7,(Event.enc Event.zero),j1.map Event.enc⟩)],2⟩
noncomputable def zau9 (a0:ByteArray) (a1:List Hold) (g1:Int×(List Event)):Option ((Int×(List Event))⊕(((List Event)))) :=
 (if (decide (g1.1 < (a1.length:Int)))=true then
  gd (0≤g1.1∧g1.1 < (a1.length:Int)) <|
  gd (g1.2.length+1≤4294967296) <|
  some (.inl ((IntKind.i64.wrap (g1.1+1)),(g1.2++[(⟨1,(a1.getD g1.1.toNat Hold.zero).proc,a0,(a1.getD g1.1.toNat Hold.zero).amount⟩:Event)])))
 else
  some (.inr g1.2))
@[go_sem] def zeG2 (a0:ByteArray) (a1:List Hold) (g1:Int×(List Event)):St:=⟨[(0,.str a0),(2,.own 1 0 g1.2.length),(9,.sl (a1.map Hold.enc)),(10,.int .i64 (a1.length:Int)),(11,.int .i64 g1.1)],[(1,⟨false,7,(Event.enc Event.zero),g1.2.map Event.enc⟩)],2⟩
noncomputable def zV4 (a0:ByteArray) (a1:List Hold) (a2:List Event):Option ((List Event)) :=
 (zb6 (zau9 a0 a1) (0,a2)).bind (fun z=>zau8 z)
attribute [local irreducible] zV4
noncomputable def zas4 (a0:List Queue) (a1:Proc) (a2:Atom):Option ((List Queue)×(List Event)×Int) :=
 (zw3 a0 a2.name).bind fun v1 =>
 (if (!decide (v1.2=0))=true then
  some ([],[],v1.2)
 else
  gd (0≤v1.1∧v1.1 < (a0.length:Int)) <|
  (zac5 (a0.getD v1.1.toNat Queue.zero) a1 a2.amount).bind fun v2 =>
  (if (!decide (v2.2.2=0))=true then
   some ([],[],v2.2.2)
  else
   gd (0≤v1.1∧v1.1 < (a0.length:Int)) <|
   (zh2 (a0.getD v1.1.toNat Queue.zero) a1).bind fun v3 =>
   (if (decide (a2.amount=v3))=true then
    (zf3 a0 v1.1 v2.1).bind fun v4 =>
    some (v4,[],0)
   else
    (zf3 a0 v1.1 v2.1).bind fun v5 =>
    (zV4 a2.name v2.2.1 [(zJ8 a1 a2.name a2.amount)]).bind fun v6 =>
    some (v5,v6,0))))
attribute [local irreducible] zas4
noncomputable def zaC8  (j1:(List Proc)):Option ((List Proc)) :=
 some j1
@[go_sem] def zeG3  (j1:(List Proc)):St:=⟨[(3,.own 0 0 j1.length)],[(0,⟨false,3,(Proc.enc Proc.zero),j1.map Proc.enc⟩)],1⟩
noncomputable def zaC9 (a0:List Hold) (g1:Int×(List Proc)):Option ((Int×(List Proc))⊕(((List Proc)))) :=
 (if (decide (g1.1 < (a0.length:Int)))=true then
  gd (0≤g1.1∧g1.1 < (a0.length:Int)) <|
  gd (g1.2.length+1≤4294967296) <|
  some (.inl ((IntKind.i64.wrap (g1.1+1)),(g1.2++[(a0.getD g1.1.toNat Hold.zero).proc])))
 else
  some (.inr g1.2))
@[go_sem] def zeG4 (a0:List Hold) (g1:Int×(List Proc)):St:=⟨[(0,.sl (a0.map Hold.enc)),(3,.own 0 0 g1.2.length),(4,.int .i64 g1.1)],[(0,⟨false,3,(Proc.enc Proc.zero),g1.2.map Proc.enc⟩)],1⟩
noncomputable def zas5 (a0:List Hold):Option ((List Proc)) :=
 (zb6 (zaC9 a0) (0,[])).bind (fun z=>zaC8 z)
attribute [local irreducible] zas5
noncomputable def zY8  (j1:(List Proc)):Option ((List Proc)) :=
 some j1
@[go_sem] def zeG5  (j1:(List Proc)):St:=⟨[(3,.own 0 0 j1.length)],[(0,⟨false,3,(Proc.enc Proc.zero),j1.map Proc.enc⟩)],1⟩
noncomputable def zD5 (a0:List Hold) (g1:Int×(List Proc)):Option ((Int×(List Proc))⊕(((List Proc)))) :=
 (if (decide (g1.1 < (a0.length:Int)))=true then
  gd (0≤g1.1∧g1.1 < (a0.length:Int)) <|
  gd (g1.2.length+1≤4294967296) <|
  some (.inl ((IntKind.i64.wrap (g1.1+1)),(g1.2++[(a0.getD g1.1.toNat Hold.zero).proc])))
 else
  some (.inr g1.2))
@[go_sem] def zeG6 (a0:List Hold) (g1:Int×(List Proc)):St:=⟨[(3,.own 0 0 g1.2.length),(6,.sl (a0.map Hold.enc)),(7,.int .i64 (a0.length:Int)),(8,.int .i64 g1.1)],[(0,⟨false,3,(Proc.enc Proc.zero),g1.2.map Proc.enc⟩)],1⟩
noncomputable def zE1 (a0:List Hold):Option ((List Proc)) :=
 (zb6 (zD5 a0) (0,[])).bind (fun z=>zY8 z)
attribute [local irreducible] zE1
end Ab
end Go.Proofs.YtfjeceicgfdmjaaGreatDoor
