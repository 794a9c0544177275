/-
  Functions of the program,as Lean functions; what the program's code computes is what they say.
-/
import Derived.Test.YtfjeceicgfdmjaaGreatDoorFn3
namespace Go.Proofs.YtfjeceicgfdmjaaGreatDoor
namespace Ab
set_option linter.unusedSimpArgs false
set_option linter.unusedVariables false
set_option maxRecDepth 100000
set_option maxHeartbeats 1000000
attribute [local irreducible] ze6 zc7 zi3 zt0 zq1 zf7 zd5 zm5 zq2 zp9 zq3 zi4 zd4 zf8 ze7 zg1 zl1 zg5 zl7 zj4 zg2 zd9 zl9 zf4 zm7 zn4 zh0 zh8 zi8 zi5 zg6 zf9 zc3 zc0 zm8 zo1 zb4 zb5 zg0 zm9 zl2 zj5 zp6 zu2 zc4 zb6 zi6 zi9 zk3 zA8 zo2 zj0 zd7 zk6 zo3 zj1 zj2 zo4 zf5 zk7 zo5 zk8 zj6 zj3 zh1 zu3 zs2 zo6 zm3 zh5 zn0 zm1 zo7 zt3 zn1 zu4 zq4 zu5 zk4 zj7 zr2 zm4 zr3 zk5 zh2 zr4
noncomputable def zN4  (j1:(List Proc)):Option ((List Proc)) :=
 (zh2 j1).bind fun v1 =>
 some v1
@[go_sem] def zdX1  (j1:(List Proc)):St:=⟨[(3,.own 0 0 j1.length)],[(0,⟨false,3,(Proc.enc Proc.zero),j1.map Proc.enc⟩)],1⟩
noncomputable def zE4 (a0:List Queue) (g1:Int×(List Proc)):Option ((Int×(List Proc))⊕(((List Proc)))) :=
 (if (decide (g1.1 < (a0.length:Int)))=true then
  gd (0≤g1.1∧g1.1 < (a0.length:Int)) <|
  (zr4 (a0.getD g1.1.toNat Queue.zero)).bind fun v2 =>
  gd (g1.2.length+v2.length≤4294967296) <|
  some (.inl ((IntKind.i64.wrap (g1.1+1)),(g1.2++v2)))
 else
  some (.inr g1.2))
@[go_sem] def zdX2 (a0:List Queue) (g1:Int×(List Proc)):St:=⟨[(0,.sl (a0.map Queue.enc)),(3,.own 0 0 g1.2.length),(4,.int .i64 g1.1)],[(0,⟨false,3,(Proc.enc Proc.zero),g1.2.map Proc.enc⟩)],1⟩
noncomputable def zo8 (a0:List Queue):Option ((List Proc)) :=
 (zc1 (zE4 a0) (0,[])).bind (fun z=>zN4 z)
theorem zaq5 (a0:List Queue) (r:(List Proc)) (h:zo8 a0=some r):PFn C 37 [.sl (a0.map Queue.enc)] (.sl (r.map Proc.enc)):=by
 refine za8 zek0 rfl fun E hG hN hK=>?_
 unfold zdg0
 unfold zo8 at h
 refine za0 (za1 hG ?_)
 refine za0 (za1 hG ?_)
 refine za0 (za0 (za1 hG ?_))
 refine zb7 (zdX1) (fun v=>zN4 v=some r) ?_ ?_
 · intro j1 h
   unfold zN4 at h
   refine g_st ?_
   refine za0 (za1 hG ?_)
   obtain ⟨v1,hv1,h⟩:=za2 h
   refine za6 (fun hg=>zac7 j1 _ (hv1)) ?_
   refine za7 ?_
   exact zb0 h
 refine ze0 (zdX2 a0) hK [(0,0)] h (fun x_l1 h g1 y_l1 h_l1 hx_l1=>?_)
 unfold zE4 at h_l1
 refine g_st ?_
 refine za0 (za0 (za1 hG ?_))
 refine za4 rfl hG h_l1 (fun _ h_l1=>?_) (fun _ h_l1=>?_)
 · refine za5 ?_
   refine za0 (zb9 ?_)
   obtain ⟨hb1,h_l1⟩:=za3 h_l1
   refine za1 hG ?_
   obtain ⟨v2,hv2,h_l1⟩:=za2 h_l1
   obtain ⟨hb2,h_l1⟩:=za3 h_l1
   refine za6 (fun hg=>zaV7 (a0.getD g1.1.toNat Queue.zero) _ (hv2)) ?_
   refine za1 hG ?_
   exact zd0 hK [(0,1)] h_l1
 refine zc5 ?_
 obtain rfl:=Option.some.inj h_l1
 have hx:=hx_l1 _ rfl
 subst hx
 try dsimp only at h
 exact zc8 hK [(0,0)] g1.2 (by exact h)
attribute [local irreducible] zo8
noncomputable def zl5 (a0:List Queue):Option (Bool) :=
 (zr2 a0).bind fun v1 =>
 ((if v1=true then zo8 a0 else some ([]))).bind fun v2 =>
 some (v1&&(decide ((v2.length:Int)≤8)))
theorem zac8 (a0:List Queue) (r:Bool) (h:zl5 a0=some r):PFn C 38 [.sl (a0.map Queue.enc)] (.bool r):=by
 refine za8 zek1 rfl fun E hG hN hK=>?_
 unfold zdg3
 unfold zl5 at h
 refine za0 (za1 hG ?_)
 refine za0 (za1 hG ?_)
 obtain ⟨v1,hv1,h⟩:=za2 h
 refine za6 (fun hg=>zaV5 a0 _ (hv1)) ?_
 obtain ⟨v2,hv2,h⟩:=za2 h
 refine za6 (fun hg=>zaq5 a0 _ (zw9 hg hv2)) ?_
 refine za7 ?_
 exact zb0 h
attribute [local irreducible] zl5
noncomputable def zY9  (j1:Unit):Option (Int) :=
 some (-1)
@[go_sem] def zdX3  (j1:Unit):St:=⟨[],[],0⟩
noncomputable def zP3 (a0:List Queue) (a1:ByteArray) (g1:Int):Option ((Int)⊕((Unit)⊕(Int))) :=
 (if (decide (g1 < (a0.length:Int)))=true then
  gd (0≤g1∧g1 < (a0.length:Int)) <|
  (if ((((a0.getD g1.toNat Queue.zero).resource).name).toList == a1.toList)=true then
   some (.inr (.inr g1))
  else
   some (.inl (IntKind.i64.wrap (g1+1))))
 else
  some (.inr (.inl ())))
@[go_sem] def zdX4 (a0:List Queue) (a1:ByteArray) (g1:Int):St:=⟨[(0,.sl (a0.map Queue.enc)),(1,.str a1),(5,.int .i64 g1)],[],0⟩
noncomputable def zs3 (a0:List Queue) (a1:ByteArray):Option (Int) :=
 (zc1 (zP3 a0 a1) 0).bind (fun | .inl z=>zY9 z | .inr z=>some z)
theorem zag7 (a0:List Queue) (a1:ByteArray) (r:Int) (h:zs3 a0 a1=some r):PFn C 27 [.sl (a0.map Queue.enc),.str a1] (.int .i64 r):=by
 refine za8 zek2 rfl fun E hG hN hK=>?_
 unfold zdh1
 unfold zs3 at h
 refine za0 (za1 hG ?_)
 refine za0 (za0 (za1 hG ?_))
 refine zb7 (zdX3) (fun v=>zY9 v=some r) ?_ ?_
 · intro j1 h
   unfold zY9 at h
   refine g_st ?_
   refine za0 (za1 hG ?_)
   refine za7 ?_
   exact zb0 h
 refine ze0 (zdX4 a0 a1) hK [] h (fun x_l1 h g1 y_l1 h_l1 hx_l1=>?_)
 unfold zP3 at h_l1
 refine g_st ?_
 refine za0 (za0 (za1 hG ?_))
 refine za4 rfl hG h_l1 (fun _ h_l1=>?_) (fun _ h_l1=>?_)
 · refine za5 ?_
   refine za0 (zb9 (za0 ?_))
   obtain ⟨hb1,h_l1⟩:=za3 h_l1
   refine za1 hG ?_
   refine za4 rfl hG h_l1 (fun _ h_l1=>?_) (fun _ h_l1=>?_)
   · refine za0 (za1 hG ?_)
     refine za7 ?_
     obtain rfl:=Option.some.inj h_l1
     have hx:=hx_l1 _ rfl
     subst hx
     try dsimp only at h
     exact zb0 h
   refine za5 ?_
   refine za1 hG ?_
   exact zd0 hK [] h_l1
 refine zc5 ?_
 obtain rfl:=Option.some.inj h_l1
 have hx:=hx_l1 _ rfl
 subst hx
 try dsimp only at h
 exact zc8 hK [] () (by exact h)
attribute [local irreducible] zs3
noncomputable def zk9 (a0:Queue) (a1:Proc):Option (Amount×Bool) :=
 (zm1 a0.converts a1).bind fun v1 =>
 (if (decide (0≤v1))=true then
  gd (0≤v1∧v1 < (a0.converts.length:Int)) <|
  some ((a0.converts.getD v1.toNat Wait.zero).amount,true)
 else
  (zm1 a0.waits a1).bind fun v2 =>
  (if (decide (0≤v2))=true then
   gd (0≤v2∧v2 < (a0.waits.length:Int)) <|
   some ((a0.waits.getD v2.toNat Wait.zero).amount,true)
  else
   some ({ Amount.zero with  },false)))
theorem zZ0 (a0:Queue) (a1:Proc) (r:Amount×Bool) (h:zk9 a0 a1=some r):PFn C 99 [.agg (Queue.enc a0),.agg (Proc.enc a1)] (.tup [.agg (Amount.enc r.1),.bool r.2]):=by
 refine za8 zek3 rfl fun E hG hN hK=>?_
 unfold zdi0
 unfold zk9 at h
 refine za0 (za1 hG ?_)
 refine za0 (za0 (za1 hG ?_))
 obtain ⟨v1,hv1,h⟩:=za2 h
 refine za6 (fun hg=>zO8 a0.converts a1 _ (hv1)) ?_
 refine za0 (za1 hG ?_)
 refine za4 rfl hG h (fun _ h=>?_) (fun _ h=>?_)
 · refine za0 ?_
   obtain ⟨hb1,h⟩:=za3 h
   refine za1 hG ?_
   refine za7 ?_
   exact zb0 h
 refine za5 ?_
 refine za0 (za0 (za1 hG ?_))
 obtain ⟨v2,hv2,h⟩:=za2 h
 refine za6 (fun hg=>zO8 a0.waits a1 _ (hv2)) ?_
 refine za0 (za1 hG ?_)
 refine za4 rfl hG h (fun _ h=>?_) (fun _ h=>?_)
 · refine za0 ?_
   obtain ⟨hb2,h⟩:=za3 h
   refine za1 hG ?_
   refine za7 ?_
   exact zb0 h
 refine za5 ?_
 refine za0 (za1 hG ?_)
 refine za7 ?_
 exact zb0 h
attribute [local irreducible] zk9
noncomputable def zr5 (a0:Queue):Option (Queue) :=
 gd (a0.holds.length≤4294967296) <|
 gd (a0.converts.length≤4294967296) <|
 gd (a0.waits.length≤4294967296) <|
 some a0
theorem zaG9 (a0:Queue) (r:Queue) (h:zr5 a0=some r):MFn C 100 [.agg (Queue.enc a0)] [] 0 (.agg [.str r.resource.name,.int .i64 r.resource.kind,.int .i64 r.resource.units,.int .i64 r.resource.home,.own 0 0 r.holds.length,.own 1 0 r.converts.length,.own 2 0 r.waits.length,.int .i64 r.gen]) [(0,⟨false,5,(Hold.enc Hold.zero),r.holds.map Hold.enc⟩),(1,⟨false,7,(Wait.enc Wait.zero),r.converts.map Wait.enc⟩),(2,⟨false,7,(Wait.enc Wait.zero),r.waits.map Wait.enc⟩)] 3:=by
 refine zs9 (rl:=[.agg [.str r.resource.name,.int .i64 r.resource.kind,.int .i64 r.resource.units,.int .i64 r.resource.home,.own 0 0 r.holds.length,.own 1 0 r.converts.length,.own 2 0 r.waits.length,.int .i64 r.gen]]) zek4 rfl rfl rfl rfl fun E hG hN hK=>?_
 unfold zdi6
 unfold zr5 at h
 refine za0 (za1 hG ?_)
 refine za0 ?_
 obtain ⟨hb3,h⟩:=za3 h
 refine za1 hG ?_
 refine za0 ?_
 obtain ⟨hb2,h⟩:=za3 h
 refine za1 hG ?_
 refine za0 ?_
 obtain ⟨hb1,h⟩:=za3 h
 refine za1 hG ?_
 refine za0 (za1 hG ?_)
 refine za7 ?_
 exact zF3 [(0,3),(1,5),(2,7)] h
attribute [local irreducible] zr5
noncomputable def zn5 (a0:Queue) (a1:Proc):Option (Amount) :=
 (zt3 a0.holds a1).bind fun v1 =>
 some v1
theorem zag8 (a0:Queue) (a1:Proc) (r:Amount) (h:zn5 a0 a1=some r):PFn C 31 [.agg (Queue.enc a0),.agg (Proc.enc a1)] (.agg (Amount.enc r)):=by
 refine za8 zek5 rfl fun E hG hN hK=>?_
 unfold zdi9
 unfold zn5 at h
 refine za0 (za1 hG ?_)
 refine za0 (za1 hG ?_)
 obtain ⟨v1,hv1,h⟩:=za2 h
 refine za6 (fun hg=>zal4 a0.holds a1 _ (hv1)) ?_
 refine za7 ?_
 exact zb0 h
attribute [local irreducible] zn5
noncomputable def zac9  (j1:Unit):Option (Int) :=
 some 0
@[go_sem] def zdX5  (j1:Unit):St:=⟨[],[],0⟩
noncomputable def zS9 (a0:Int) (a1:Int) (g1:Int):Option ((Int)⊕((Unit)⊕(Int))) :=
 (if (decide (g1≤5))=true then
  (if ((zx6 g1 a0)&&(zx6 g1 a1))=true then
   some (.inr (.inr g1))
  else
   some (.inl (IntKind.i64.wrap (g1+1))))
 else
  some (.inr (.inl ())))
@[go_sem] def zdX6 (a0:Int) (a1:Int) (g1:Int):St:=⟨[(0,.int .i64 a0),(1,.int .i64 a1),(5,.int .i64 g1)],[],0⟩
noncomputable def zC2 (a0:Int) (a1:Int):Option (Int) :=
 (zc1 (zS9 a0 a1) 1).bind (fun | .inl z=>zac9 z | .inr z=>some z)
theorem zbj7 (a0:Int) (a1:Int) (r:Int) (h:zC2 a0 a1=some r):PFn C 147 [.int .i64 a0,.int .i64 a1] (.int .i64 r):=by
 refine za8 zek6 rfl fun E hG hN hK=>?_
 unfold zdj7
 unfold zC2 at h
 refine za0 (za1 hG ?_)
 refine za0 (za0 (za1 hG ?_))
 refine zb7 (zdX5) (fun v=>zac9 v=some r) ?_ ?_
 · intro j1 h
   unfold zac9 at h
   refine g_st ?_
   refine za0 (za1 hG ?_)
   refine za7 ?_
   exact zb0 h
 refine ze0 (zdX6 a0 a1) hK [] h (fun x_l1 h g1 y_l1 h_l1 hx_l1=>?_)
 unfold zS9 at h_l1
 refine g_st ?_
 refine za0 (za0 (za1 hG ?_))
 refine za4 rfl hG h_l1 (fun _ h_l1=>?_) (fun _ h_l1=>?_)
 · refine za5 ?_
   refine za0 (zb9 (za0 (za1 hG ?_)))
   refine za6 (fun hg=>zY8 g1 a0) ?_
   refine za6 (fun hg=>zY8 g1 a1) ?_
   refine za4 rfl hG h_l1 (fun _ h_l1=>?_) (fun _ h_l1=>?_)
   · refine za0 (za1 hG ?_)
     refine za7 ?_
     obtain rfl:=Option.some.inj h_l1
     have hx:=hx_l1 _ rfl
     subst hx
     try dsimp only at h
     exact zb0 h
   refine za5 ?_
   refine za1 hG ?_
   exact zd0 hK [] h_l1
 refine zc5 ?_
 obtain rfl:=Option.some.inj h_l1
 have hx:=hx_l1 _ rfl
 subst hx
 try dsimp only at h
 exact zc8 hK [] () (by exact h)
attribute [local irreducible] zC2
noncomputable def zx0 (a0:Resource) (a1:Amount) (a2:Amount):Option (Amount) :=
 (if ((!(zf0 a0 a1))||(!(zf0 a0 a2)))=true then
  some ({ Amount.zero with  })
 else
  (if (zg3 a0 a1 a2)=true then
   some a1
  else
   (if (zg3 a0 a2 a1)=true then
    some a2
   else
    (zC2 a1.mode a2.mode).bind fun v1 =>
    some ({ Amount.zero with mode:=v1 }))))
theorem zbb7 (a0:Resource) (a1:Amount) (a2:Amount) (r:Amount) (h:zx0 a0 a1 a2=some r):PFn C 102 [.agg (Resource.enc a0),.agg (Amount.enc a1),.agg (Amount.enc a2)] (.agg (Amount.enc r)):=by
 refine za8 zek7 rfl fun E hG hN hK=>?_
 unfold zdk6
 unfold zx0 at h
 refine za0 (za1 hG ?_)
 refine za0 (za0 (za1 hG ?_))
 refine za6 (fun hg=>zB1 a0 a1) ?_
 refine za6 (fun hg=>zB1 a0 a2) ?_
 refine za4 rfl hG h (fun _ h=>?_) (fun _ h=>?_)
 · refine za0 (za1 hG ?_)
   refine za7 ?_
   exact zb0 h
 refine za5 ?_
 refine za0 (za0 (za1 hG ?_))
 refine za6 (fun hg=>zH0 a0 a1 a2) ?_
 refine za4 rfl hG h (fun _ h=>?_) (fun _ h=>?_)
 · refine za0 (za1 hG ?_)
   refine za7 ?_
   exact zb0 h
 refine za5 ?_
 refine za0 (za0 (za1 hG ?_))
 refine za6 (fun hg=>zH0 a0 a2 a1) ?_
 refine za4 rfl hG h (fun _ h=>?_) (fun _ h=>?_)
 · refine za0 (za1 hG ?_)
   refine za7 ?_
   exact zb0 h
 refine za5 ?_
 refine za0 (za1 hG ?_)
 obtain ⟨v1,hv1,h⟩:=za2 h
 refine za6 (fun hg=>zbj7 a1.mode a2.mode _ (hv1)) ?_
 refine za7 ?_
 exact zb0 h
attribute [local irreducible] zx0
noncomputable def zp7 (a0:Queue):Option (Queue) :=
 gd (a0.holds.length≤4294967296) <|
 gd (a0.converts.length≤4294967296) <|
 gd (a0.waits.length≤4294967296) <|
 some a0
theorem zag9 (a0:Queue) (r:Queue) (h:zp7 a0=some r):PFn C 100 [.agg (Queue.enc a0)] (.agg (Queue.enc r)):=by
 refine za8 zek8 rfl fun E hG hN hK=>?_
 unfold zdl2
 unfold zp7 at h
 refine za0 (za1 hG ?_)
 refine za0 ?_
 obtain ⟨hb3,h⟩:=za3 h
 refine za1 hG ?_
 refine za0 ?_
 obtain ⟨hb2,h⟩:=za3 h
 refine za1 hG ?_
 refine za0 ?_
 obtain ⟨hb1,h⟩:=za3 h
 refine za1 hG ?_
 refine za0 (za1 hG ?_)
 refine za7 ?_
 exact zb0 h
attribute [local irreducible] zp7
noncomputable def zP9  (j1:Queue×(List Hold)):Option (Queue×(List Hold)) :=
 some (j1.1,j1.2)
@[go_sem] def zdX7  (j1:Queue×(List Hold)):St:=⟨[(1,.ptr 0 0 0),(2,.ptr 1 0 0),(4,.own 2 0 j1.2.length)],[(0,⟨false,8,(Queue.enc Queue.zero),[Queue.enc j1.1]⟩),(1,⟨false,8,(Queue.enc Queue.zero),[Queue.enc Queue.zero]⟩),(2,⟨false,5,(Hold.enc Hold.zero),j1.2.map Hold.enc⟩)],3⟩
noncomputable def zw2 (g1:Queue×(List Hold)) (v4:Wait×Bool) (j2:Queue):Option ((Queue×(List Hold))⊕((Queue×(List Hold)))) :=
 (zq4 j2.holds v4.1.proc v4.1.amount).bind fun v5 =>
 gd (g1.2.length+1≤4294967296) <|
 some (.inl ({ j2 with holds:=v5 },(g1.2++[(⟨v4.1.proc,v4.1.amount⟩:Hold)])))
@[go_sem] def zdX8 (g1:Queue×(List Hold)) (v4:Wait×Bool) (j2:Queue):St:=⟨[(1,.ptr 0 0 0),(2,.ptr 1 0 0),(4,.own 2 0 g1.2.length),(5,.ptr 3 0 0)],[(0,⟨false,8,(Queue.enc Queue.zero),[Queue.enc j2]⟩),(1,⟨false,8,(Queue.enc Queue.zero),[Queue.enc Queue.zero]⟩),(2,⟨false,5,(Hold.enc Hold.zero),g1.2.map Hold.enc⟩),(3,⟨false,7,(Wait.enc Wait.zero),[Wait.enc v4.1]⟩)],4⟩
noncomputable def zB3  (g1:Queue×(List Hold)):Option ((Queue×(List Hold))⊕((Queue×(List Hold)))) :=
 (zk4 g1.1).bind fun v3 =>
 (if (!v3)=true then
  (zu4 g1.1).bind fun v4 =>
  (if (decide (0 < (g1.1.converts.length:Int)))=true then
   gd (0≤1∧1≤(g1.1.converts.length:Int)∧(g1.1.converts.length:Int)≤(g1.1.converts.length:Int)) <|
   zw2 g1 v4 ({ g1.1 with converts:=(g1.1.converts.drop 1) })
  else
   gd (0≤1∧1≤(g1.1.waits.length:Int)∧(g1.1.waits.length:Int)≤(g1.1.waits.length:Int)) <|
   zw2 g1 v4 ({ g1.1 with waits:=(g1.1.waits.drop 1) }))
 else
  some (.inr (g1.1,g1.2)))
@[go_sem] def zdX9  (g1:Queue×(List Hold)):St:=⟨[(1,.ptr 0 0 0),(2,.ptr 1 0 0),(4,.own 2 0 g1.2.length)],[(0,⟨false,8,(Queue.enc Queue.zero),[Queue.enc g1.1]⟩),(1,⟨false,8,(Queue.enc Queue.zero),[Queue.enc Queue.zero]⟩),(2,⟨false,5,(Hold.enc Hold.zero),g1.2.map Hold.enc⟩)],3⟩
noncomputable def zo9 (a0:Queue):Option (Queue×(List Hold)) :=
 (zn1 a0).bind fun v1 =>
 (if (!v1)=true then
  some ({ Queue.zero with  },[])
 else
  (zp7 a0).bind fun v2 =>
  (zc1 (zB3) (v2,[])).bind (fun z=>zP9 z))
theorem zaH0 (a0:Queue) (r:Queue×(List Hold)) (h:zo9 a0=some r):PFn C 148 [.agg (Queue.enc a0)] (.tup [.agg (Queue.enc r.1),.sl (r.2.map Hold.enc)]):=by
 refine za8 zek9 rfl fun E hG hN hK=>?_
 unfold zdm3
 unfold zo9 at h
 refine za0 (za1 hG ?_)
 refine za0 (za0 (za1 hG ?_))
 obtain ⟨v1,hv1,h⟩:=za2 h
 refine za6 (fun hg=>zac6 a0 _ (hv1)) ?_
 refine za4 rfl hG h (fun _ h=>?_) (fun _ h=>?_)
 · refine za0 (za1 hG ?_)
   refine za7 ?_
   exact zb0 h
 refine za5 ?_
 refine za0 (za1 hG ?_)
 obtain ⟨v2,hv2,h⟩:=za2 h
 refine za6 (fun hg=>zag9 a0 _ (hv2)) ?_
 refine za0 (za1 hG ?_)
 refine za0 ?_
 refine zb7 (zdX7) (fun v=>zP9 v=some r) ?_ ?_
 · intro j1 h
   unfold zP9 at h
   refine g_st ?_
   refine za0 (za1 hG ?_)
   refine za7 ?_
   exact zb0 h
 refine ze0 (zdX9) hK [(0,0),(1,1),(2,2)] h (fun x_l1 h g1 y_l1 h_l1 hx_l1=>?_)
 unfold zB3 at h_l1
 refine g_st ?_
 refine za0 (za0 (za1 hG ?_))
 obtain ⟨v3,hv3,h_l1⟩:=za2 h_l1
 refine za6 (fun hg=>zaj2 g1.1 _ (hv3)) ?_
 refine za4 rfl hG h_l1 (fun _ h_l1=>?_) (fun _ h_l1=>?_)
 · refine za5 ?_
   refine zb9 (za0 (za1 hG ?_))
   obtain ⟨v4,hv4,h_l1⟩:=za2 h_l1
   refine za6 (fun hg=>zax4 g1.1 _ (hv4)) ?_
   refine za0 (za0 (za1 hG ?_))
   refine zbj1 (zdX8 g1 v4) (fun v=>zw2 g1 v4 v=some y_l1) rfl hG h_l1 ?_ (fun _ h_l1=>?_) (fun _ h_l1=>?_)
   · intro j2 h_l1
     unfold zw2 at h_l1
     refine g_st ?_
     refine za0 (za1 hG ?_)
     obtain ⟨v5,hv5,h_l1⟩:=za2 h_l1
     refine za6 (fun hg=>zal5 j2.holds v4.1.proc v4.1.amount _ (hv5)) ?_
     obtain ⟨hb1,h_l1⟩:=za3 h_l1
     refine za1 hG ?_
     exact zd0 hK [(0,0),(1,1),(2,4)] h_l1
   · obtain ⟨hb2,h_l1⟩:=za3 h_l1
     refine za1 hG ?_
     exact zc8 hK [(0,0),(1,1),(2,2),(3,3)] ({ g1.1 with converts:=(g1.1.converts.drop 1) }) (by exact h_l1)
   obtain ⟨hb3,h_l1⟩:=za3 h_l1
   refine za1 hG ?_
   exact zc8 hK [(0,0),(1,1),(2,2),(3,3)] ({ g1.1 with waits:=(g1.1.waits.drop 1) }) (by exact h_l1)
 refine zc5 ?_
 obtain rfl:=Option.some.inj h_l1
 have hx:=hx_l1 _ rfl
 subst hx
 try dsimp only at h
 exact zc8 hK [(0,0),(1,1),(2,2)] (g1.1,g1.2) (by exact h)
attribute [local irreducible] zo9
def zT0 (a0:Int):Int :=
 (if ((decide (a0 < 0))||(decide (1073741824≤a0)))=true then
  1
 else
  (IntKind.i64.wrap (a0+1)))
theorem zbb8 (a0:Int):PFn C 149 [.int .i64 a0] (.int .i64 (zT0 a0)):=by
 generalize h:zT0 a0=r
 refine za8 zel0 rfl fun E hG hN hK=>?_
 unfold zdm8
 unfold zT0 at h
 refine za0 (za1 hG ?_)
 refine za0 (za0 (za1 hG ?_))
 refine za4 rfl hG h (fun _ h=>?_) (fun _ h=>?_)
 · refine za0 (za1 hG ?_)
   refine za7 ?_
   exact zf3 h
 refine za5 ?_
 refine za0 (za1 hG ?_)
 refine za7 ?_
 exact zf3 h
noncomputable def zh3 (a0:Queue):Option (Queue×(List Hold)×Int) :=
 (zo9 a0).bind fun v1 =>
 some ({ v1.1 with gen:=(zT0 a0.gen) },v1.2,0)
theorem zN5 (a0:Queue) (r:Queue×(List Hold)×Int) (h:zh3 a0=some r):PFn C 103 [.agg (Queue.enc a0)] (.tup [.agg (Queue.enc r.1),.sl (r.2.1.map Hold.enc),.int .i64 r.2.2]):=by
 refine za8 zel1 rfl fun E hG hN hK=>?_
 unfold zdn3
 unfold zh3 at h
 refine za0 (za1 hG ?_)
 refine za0 (za1 hG ?_)
 obtain ⟨v1,hv1,h⟩:=za2 h
 refine za6 (fun hg=>zaH0 a0 _ (hv1)) ?_
 refine za0 (za1 hG ?_)
 refine za6 (fun hg=>zbb8 a0.gen) ?_
 refine za0 (za1 hG ?_)
 refine za7 ?_
 exact zb0 h
attribute [local irreducible] zh3
noncomputable def zI1 (j1:Int) (j2:(List Wait)):Option ((List Wait)×Int×Int) :=
 some (j2,j1,0)
@[go_sem] def zdY0 (j1:Int) (j2:(List Wait)):St:=⟨[(7,.int .i64 j1),(8,.own 0 0 j2.length)],[(0,⟨false,7,(Wait.enc Wait.zero),j2.map Wait.enc⟩)],1⟩
noncomputable def zC3 (a0:List Wait) (g1:Int×(List Wait)):Option ((Int×(List Wait))⊕(((List Wait)))) :=
 (if (decide (g1.1 < (a0.length:Int)))=true then
  gd (0≤g1.1∧g1.1 < (a0.length:Int)) <|
  gd (g1.2.length+1≤4294967296) <|
  some (.inl ((IntKind.i64.wrap (g1.1+1)),(g1.2++[{ (a0.getD g1.1.toNat Wait.zero) with passed:=(IntKind.i64.wrap ((a0.getD g1.1.toNat Wait.zero).passed+1)) }])))
 else
  some (.inr g1.2))
@[go_sem] def zdY1 (a0:List Wait) (j1:Int) (g1:Int×(List Wait)):St:=⟨[(0,.sl (a0.map Wait.enc)),(7,.int .i64 j1),(8,.own 0 0 g1.2.length),(9,.int .i64 g1.1)],[(0,⟨false,7,(Wait.enc Wait.zero),g1.2.map Wait.enc⟩)],1⟩
noncomputable def zI2 (a0:List Wait) (a1:Wait) (j1:Int):Option ((List Wait)×Int×Int) :=
 gd (0≤0∧0≤j1∧j1≤(a0.length:Int)) <|
 gd ((a0.take j1.toNat).length≤4294967296) <|
 gd ((a0.take j1.toNat).length+1≤4294967296) <|
 (zc1 (zC3 a0) (j1,((a0.take j1.toNat)++[a1]))).bind (fun z=>zI1 j1 z)
@[go_sem] def zdY2 (a0:List Wait) (a1:Wait) (j1:Int):St:=⟨[(0,.sl (a0.map Wait.enc)),(3,.ptr 0 0 0),(7,.int .i64 j1)],[(0,⟨false,7,(Wait.enc Wait.zero),[Wait.enc a1]⟩)],1⟩
noncomputable def zI3 (a0:List Wait) (a1:Wait) (g2:Int):Option ((Int)⊕((Int))) :=
 gd ((decide (0 < g2))=true→0≤(IntKind.i64.wrap (g2 - 1))∧(IntKind.i64.wrap (g2 - 1)) < (a0.length:Int)) <|
 gd (((decide (0 < g2))&&(decide ((a0.getD ((IntKind.i64.wrap (g2 - 1)).toNat) Wait.zero).priority < a1.priority)))=true→0≤(IntKind.i64.wrap (g2 - 1))∧(IntKind.i64.wrap (g2 - 1)) < (a0.length:Int)) <|
 (if (((decide (0 < g2))&&(decide ((a0.getD ((IntKind.i64.wrap (g2 - 1)).toNat) Wait.zero).priority < a1.priority)))&&(decide ((a0.getD ((IntKind.i64.wrap (g2 - 1)).toNat) Wait.zero).passed < 3)))=true then
  some (.inl (IntKind.i64.wrap (g2 - 1)))
 else
  some (.inr g2))
@[go_sem] def zdY3 (a0:List Wait) (a1:Wait) (g2:Int):St:=⟨[(0,.sl (a0.map Wait.enc)),(3,.ptr 0 0 0),(7,.int .i64 g2)],[(0,⟨false,7,(Wait.enc Wait.zero),[Wait.enc a1]⟩)],1⟩
noncomputable def zr6 (a0:List Wait) (a1:Wait):Option ((List Wait)×Int×Int) :=
 (zo7 a0).bind fun v1 =>
 (if (!v1)=true then
  some ([],0,2)
 else
  (if ((!(zl4 a1))||(!decide (a1.passed=0)))=true then
   some ([],0,1)
  else
   (zm1 a0 a1.proc).bind fun v2 =>
   (if (decide (0≤v2))=true then
    some ([],0,11)
   else
    (if (decide ((a0.length:Int)=8))=true then
     some ([],0,4)
    else
     (zc1 (zI3 a0 a1) (a0.length:Int)).bind (fun z=>zI2 a0 a1 z)))))
theorem zaN4 (a0:List Wait) (a1:Wait) (r:(List Wait)×Int×Int) (h:zr6 a0 a1=some r):PFn C 104 [.sl (a0.map Wait.enc),.agg (Wait.enc a1)] (.tup [.sl (r.1.map Wait.enc),.int .i64 r.2.1,.int .i64 r.2.2]):=by
 refine za8 zel2 rfl fun E hG hN hK=>?_
 unfold zdo4
 unfold zr6 at h
 refine za0 (za1 hG ?_)
 refine za0 (za0 (za1 hG ?_))
 obtain ⟨v1,hv1,h⟩:=za2 h
 refine za6 (fun hg=>zaq4 a0 _ (hv1)) ?_
 refine za4 rfl hG h (fun _ h=>?_) (fun _ h=>?_)
 · refine za0 (za1 hG ?_)
   refine za7 ?_
   exact zb0 h
 refine za5 ?_
 refine za0 (za0 (za1 hG ?_))
 refine za6 (fun hg=>zac4 a1) ?_
 refine za4 rfl hG h (fun _ h=>?_) (fun _ h=>?_)
 · refine za0 (za1 hG ?_)
   refine za7 ?_
   exact zb0 h
 refine za5 ?_
 refine za0 (za0 (za1 hG ?_))
 obtain ⟨v2,hv2,h⟩:=za2 h
 refine za6 (fun hg=>zO8 a0 a1.proc _ (hv2)) ?_
 refine za4 rfl hG h (fun _ h=>?_) (fun _ h=>?_)
 · refine za0 (za1 hG ?_)
   refine za7 ?_
   exact zb0 h
 refine za5 ?_
 refine za0 (za0 (za1 hG ?_))
 refine za4 rfl hG h (fun _ h=>?_) (fun _ h=>?_)
 · refine za0 (za1 hG ?_)
   refine za7 ?_
   exact zb0 h
 refine za5 ?_
 refine za0 (za1 hG ?_)
 refine za0 ?_
 refine zb7 (zdY2 a0 a1) (fun v=>zI2 a0 a1 v=some r) ?_ ?_
 · intro j1 h
   unfold zI2 at h
   refine g_st ?_
   refine za0 ?_
   obtain ⟨hb3,h⟩:=za3 h
   obtain ⟨hb4,h⟩:=za3 h
   obtain ⟨hb5,h⟩:=za3 h
   refine zF2 zd6 hG ?_
   refine za0 (za0 (za1 hG ?_))
   refine zb7 (zdY0 j1) (fun v=>zI1 j1 v=some r) ?_ ?_
   · intro j2 h
     unfold zI1 at h
     refine g_st ?_
     refine za0 (za1 hG ?_)
     refine za7 ?_
     exact zb0 h
   refine ze0 (zdY1 a0 j1) hK [(0,3)] h (fun x_l1 h g1 y_l1 h_l1 hx_l1=>?_)
   unfold zC3 at h_l1
   refine g_st ?_
   refine za0 (za0 (za1 hG ?_))
   refine za4 rfl hG h_l1 (fun _ h_l1=>?_) (fun _ h_l1=>?_)
   · refine za5 ?_
     refine za0 (zb9 (za0 ?_))
     obtain ⟨hb2,h_l1⟩:=za3 h_l1
     refine za1 hG ?_
     refine za0 (za1 hG ?_)
     obtain ⟨hb1,h_l1⟩:=za3 h_l1
     refine za1 hG ?_
     refine za1 hG ?_
     exact zd0 hK [(0,2)] h_l1
   refine zc5 ?_
   obtain rfl:=Option.some.inj h_l1
   have hx:=hx_l1 _ rfl
   subst hx
   try dsimp only at h
   exact zc8 hK [(0,0)] g1.2 (by exact h)
 refine ze0 (zdY3 a0 a1) hK [(0,0)] h (fun x_l2 h g2 y_l2 h_l2 hx_l2=>?_)
 unfold zI3 at h_l2
 refine g_st ?_
 refine za0 (za0 ?_)
 obtain ⟨hb6,h_l2⟩:=za3 h_l2
 obtain ⟨hb7,h_l2⟩:=za3 h_l2
 refine zq9 zd6 hG ?_
 refine za4 rfl hG h_l2 (fun _ h_l2=>?_) (fun _ h_l2=>?_)
 · refine za5 ?_
   refine zb9 (za1 hG ?_)
   exact zd0 hK [(0,0)] h_l2
 refine zc5 ?_
 obtain rfl:=Option.some.inj h_l2
 have hx:=hx_l2 _ rfl
 subst hx
 try dsimp only at h
 exact zc8 hK [(0,0)] g2 (by exact h)
attribute [local irreducible] zr6
noncomputable def zp0 (a0:Queue) (a1:Proc) (a2:Amount) (a3:Int):Option (Queue×(List Hold)×Int) :=
 (zj7 a0).bind fun v1 =>
 (if (!v1)=true then
  some ({ Queue.zero with  },[],2)
 else
  (if (((!(ze4 a1))||(decide (a3 < 0)))||(decide (7 < a3)))=true then
   some ({ Queue.zero with  },[],1)
  else
   (if (!(zh7 a0.resource a2))=true then
    some ({ Queue.zero with  },[],12)
   else
    (zk9 a0 a1).bind fun v2 =>
    (if v2.2=true then
     some ({ Queue.zero with  },[],14)
    else
     (zr5 a0).bind fun v3 =>
     (zn5 v3 a1).bind fun v4 =>
     (if (zg3 v3.resource v4 a2)=true then
      some (v3,[],0)
     else
      (if (!(zc9 v4))=true then
       (zx0 v3.resource v4 a2).bind fun v5 =>
       gd (v3.converts.length+1≤4294967296) <|
       (zh3 (⟨(⟨v3.resource.name,v3.resource.kind,v3.resource.units,v3.resource.home⟩:Resource),v3.holds,(v3.converts++[{ Wait.zero with proc:=a1,amount:=v5 }]),v3.waits,v3.gen⟩:Queue)).bind fun v6 =>
       some (v6.1,v6.2.1,v6.2.2)
      else
       (if (decide (8≤(IntKind.i64.wrap (((v3.holds.length:Nat):Int)+((v3.waits.length:Nat):Int)))))=true then
        some ({ Queue.zero with  },[],4)
       else
        (zr6 v3.waits ({ Wait.zero with proc:=a1,amount:=a2,priority:=a3 })).bind fun v7 =>
        (if (!decide (v7.2.2=0))=true then
         some ({ Queue.zero with  },[],v7.2.2)
        else
         (zh3 (⟨(⟨v3.resource.name,v3.resource.kind,v3.resource.units,v3.resource.home⟩:Resource),v3.holds,v3.converts,v7.1,v3.gen⟩:Queue)).bind fun v8 =>
         some (v8.1,v8.2.1,v8.2.2)))))))))
theorem zaV8 (a0:Queue) (a1:Proc) (a2:Amount) (a3:Int) (r:Queue×(List Hold)×Int) (h:zp0 a0 a1 a2 a3=some r):PFn C 60 [.agg (Queue.enc a0),.agg (Proc.enc a1),.agg (Amount.enc a2),.int .i64 a3] (.tup [.agg (Queue.enc r.1),.sl (r.2.1.map Hold.enc),.int .i64 r.2.2]):=by
 refine za8 zel3 rfl fun E hG hN hK=>?_
 unfold zdp5
 unfold zp0 at h
 refine za0 (za1 hG ?_)
 refine za0 (za0 (za1 hG ?_))
 obtain ⟨v1,hv1,h⟩:=za2 h
 refine za6 (fun hg=>zS8 a0 _ (hv1)) ?_
 refine za4 rfl hG h (fun _ h=>?_) (fun _ h=>?_)
 · refine za0 (za1 hG ?_)
   refine za7 ?_
   exact zb0 h
 refine za5 ?_
 refine za0 (za0 (za1 hG ?_))
 refine za6 (fun hg=>zG0 a1) ?_
 refine za4 rfl hG h (fun _ h=>?_) (fun _ h=>?_)
 · refine za0 (za1 hG ?_)
   refine za7 ?_
   exact zb0 h
 refine za5 ?_
 refine za0 (za0 (za1 hG ?_))
 refine za6 (fun hg=>zH4 a0.resource a2) ?_
 refine za4 rfl hG h (fun _ h=>?_) (fun _ h=>?_)
 · refine za0 (za1 hG ?_)
   refine za7 ?_
   exact zb0 h
 refine za5 ?_
 refine za0 (za0 (za1 hG ?_))
 obtain ⟨v2,hv2,h⟩:=za2 h
 refine za6 (fun hg=>zZ0 a0 a1 _ (hv2)) ?_
 refine za0 (za1 hG ?_)
 refine za4 rfl hG h (fun _ h=>?_) (fun _ h=>?_)
 · refine za0 (za1 hG ?_)
   refine za7 ?_
   exact zb0 h
 refine za5 ?_
 refine za0 (za1 hG ?_)
 obtain ⟨v3,hv3,h⟩:=za2 h
 refine zB6 [] [(0,5),(1,6),(2,7)] [0,1,2] (zaG9 a0 _ hv3) rfl rfl ?_
 refine za0 (za1 hG ?_)
 obtain ⟨v4,hv4,h⟩:=za2 h
 refine za6 (fun hg=>zag8 v3 a1 _ (hv4)) ?_
 refine za0 (za0 (za1 hG ?_))
 refine za6 (fun hg=>zH0 v3.resource v4 a2) ?_
 refine za4 rfl hG h (fun _ h=>?_) (fun _ h=>?_)
 · refine za0 (za1 hG ?_)
   refine za7 ?_
   exact zb0 h
 refine za5 ?_
 refine za0 (za0 (za1 hG ?_))
 refine za6 (fun hg=>zt6 v4) ?_
 refine za4 rfl hG h (fun _ h=>?_) (fun _ h=>?_)
 · refine za0 (zF2 zd6 hG ?_)
   obtain ⟨v5,hv5,h⟩:=za2 h
   obtain ⟨hb1,h⟩:=za3 h
   refine zz7 (fun hg=>zbb7 v3.resource v4 a2 _ (hv5)) ?_
   refine za0 (za1 hG ?_)
   obtain ⟨v6,hv6,h⟩:=za2 h
   have hc_v6:=zN5 (⟨(⟨v3.resource.name,v3.resource.kind,v3.resource.units,v3.resource.home⟩:Resource),v3.holds,(v3.converts++[{ Wait.zero with proc:=a1,amount:=v5 }]),v3.waits,v3.gen⟩:Queue) _ (hv6)
   have el_v6:∀ x:Queue,Queue.enc x=[A.str x.resource.name,A.int .i64 x.resource.kind,A.int .i64 x.resource.units,A.int .i64 x.resource.home,A.sl (x.holds.map Hold.enc),A.sl (x.converts.map Wait.enc),A.sl (x.waits.map Wait.enc),A.int .i64 x.gen]:=fun x=>rfl
   rw [el_v6] at hc_v6
   dsimp only at hc_v6
   refine za6 (fun hg=>by exact hc_v6) ?_
   refine za7 ?_
   exact zb0 h
 refine za5 ?_
 refine za0 (za0 (za1 hG ?_))
 refine za4 rfl hG h (fun _ h=>?_) (fun _ h=>?_)
 · refine za0 (za1 hG ?_)
   refine za7 ?_
   exact zb0 h
 refine za5 ?_
 refine za0 (za1 hG ?_)
 obtain ⟨v7,hv7,h⟩:=za2 h
 refine za6 (fun hg=>zaN4 v3.waits ({ Wait.zero with proc:=a1,amount:=a2,priority:=a3 }) _ (hv7)) ?_
 refine za0 (za0 (za1 hG ?_))
 refine za4 rfl hG h (fun _ h=>?_) (fun _ h=>?_)
 · refine za0 (za1 hG ?_)
   refine za7 ?_
   exact zb0 h
 refine za5 ?_
 refine za0 (za1 hG ?_)
 refine za0 (za1 hG ?_)
 obtain ⟨v8,hv8,h⟩:=za2 h
 have hc_v8:=zN5 (⟨(⟨v3.resource.name,v3.resource.kind,v3.resource.units,v3.resource.home⟩:Resource),v3.holds,v3.converts,v7.1,v3.gen⟩:Queue) _ (hv8)
 have el_v8:∀ x:Queue,Queue.enc x=[A.str x.resource.name,A.int .i64 x.resource.kind,A.int .i64 x.resource.units,A.int .i64 x.resource.home,A.sl (x.holds.map Hold.enc),A.sl (x.converts.map Wait.enc),A.sl (x.waits.map Wait.enc),A.int .i64 x.gen]:=fun x=>rfl
 rw [el_v8] at hc_v8
 dsimp only at hc_v8
 refine za6 (fun hg=>by exact hc_v8) ?_
 refine za7 ?_
 exact zb0 h
attribute [local irreducible] zp0
noncomputable def zh4 (a0:List Queue) (a1:Int) (a2:Queue):Option ((List Queue)) :=
 gd (a0.length≤4294967296) <|
 gd (0≤a1∧a1 < ((a0.length:Nat):Int)) <|
 some (a0.set a1.toNat a2)
theorem zV6 (a0:List Queue) (a1:Int) (a2:Queue) (r:(List Queue)) (h:zh4 a0 a1 a2=some r):PFn C 61 [.sl (a0.map Queue.enc),.int .i64 a1,.agg (Queue.enc a2)] (.sl (r.map Queue.enc)):=by
 refine za8 zel4 rfl fun E hG hN hK=>?_
 unfold zdq0
 unfold zh4 at h
 refine za0 (za1 hG ?_)
 refine za0 ?_
 obtain ⟨hb2,h⟩:=za3 h
 refine za1 hG ?_
 refine za0 ?_
 obtain ⟨hb1,h⟩:=za3 h
 refine za1 hG ?_
 refine za0 (za1 hG ?_)
 refine za7 ?_
 exact zb0 h
attribute [local irreducible] zh4
noncomputable def zT1  (j1:(List Event)):Option ((List Event)) :=
 some j1
@[go_sem] def zdY4  (j1:(List Event)):St:=⟨[(5,.own 0 0 j1.length)],[(0,⟨false,7,(Event.enc Event.zero),j1.map Event.enc⟩)],1⟩
noncomputable def zI4 (a0:ByteArray) (a1:List Hold) (g1:Int×(List Event)):Option ((Int×(List Event))⊕(((List Event)))) :=
 (if (decide (g1.1 < (a1.length:Int)))=true then
  gd (0≤g1.1∧g1.1 < (a1.length:Int)) <|
  gd (0≤g1.1∧g1.1 < (a1.length:Int)) <|
  gd (g1.2.length+1≤4294967296) <|
  some (.inl ((IntKind.i64.wrap (g1.1+1)),(g1.2++[(⟨1,(a1.getD g1.1.toNat Hold.zero).proc,a0,(a1.getD g1.1.toNat Hold.zero).amount⟩:Event)])))
 else
  some (.inr g1.2))
@[go_sem] def zdY5 (a0:ByteArray) (a1:List Hold) (g1:Int×(List Event)):St:=⟨[(0,.str a0),(1,.sl (a1.map Hold.enc)),(5,.own 0 0 g1.2.length),(6,.int .i64 g1.1)],[(0,⟨false,7,(Event.enc Event.zero),g1.2.map Event.enc⟩)],1⟩
noncomputable def zh6 (a0:ByteArray) (a1:List Hold):Option ((List Event)) :=
 (zc1 (zI4 a0 a1) (0,[])).bind (fun z=>zT1 z)
theorem zZ1 (a0:ByteArray) (a1:List Hold) (r:(List Event)) (h:zh6 a0 a1=some r):PFn C 62 [.str a0,.sl (a1.map Hold.enc)] (.sl (r.map Event.enc)):=by
 refine za8 zel5 rfl fun E hG hN hK=>?_
 unfold zdq8
 unfold zh6 at h
 refine za0 (za1 hG ?_)
 refine za0 (za1 hG ?_)
 refine za0 (za0 (za1 hG ?_))
 refine zb7 (zdY4) (fun v=>zT1 v=some r) ?_ ?_
 · intro j1 h
   unfold zT1 at h
   refine g_st ?_
   refine za0 (za1 hG ?_)
   refine za7 ?_
   exact zb0 h
 refine ze0 (zdY5 a0 a1) hK [(0,0)] h (fun x_l1 h g1 y_l1 h_l1 hx_l1=>?_)
 unfold zI4 at h_l1
 refine g_st ?_
 refine za0 (za0 (za1 hG ?_))
 refine za4 rfl hG h_l1 (fun _ h_l1=>?_) (fun _ h_l1=>?_)
 · refine za5 ?_
   refine za0 (zb9 ?_)
   obtain ⟨hb1,h_l1⟩:=za3 h_l1
   obtain ⟨hb2,h_l1⟩:=za3 h_l1
   obtain ⟨hb3,h_l1⟩:=za3 h_l1
   refine zF2 zd6 hG ?_
   refine za1 hG ?_
   exact zd0 hK [(0,1)] h_l1
 refine zc5 ?_
 obtain rfl:=Option.some.inj h_l1
 have hx:=hx_l1 _ rfl
 subst hx
 try dsimp only at h
 exact zc8 hK [(0,0)] g1.2 (by exact h)
attribute [local irreducible] zh6
noncomputable def zr7 (a0:List Queue) (a1:Proc) (a2:Atom) (a3:Int):Option ((List Queue)×(List Event)×Int) :=
 (zl5 a0).bind fun v1 =>
 (if (!v1)=true then
  some ([],[],2)
 else
  (zs3 a0 a2.name).bind fun v2 =>
  (if (decide (v2 < 0))=true then
   some ([],[],10)
  else
   (zo8 a0).bind fun v3 =>
   ((if (decide ((v3.length:Int)=8))=true then zk5 v3 a1 else some (false))).bind fun v4 =>
   (if ((decide ((v3.length:Int)=8))&&(!v4))=true then
    some ([],[],4)
   else
    gd (0≤v2∧v2 < (a0.length:Int)) <|
    (zp0 (a0.getD v2.toNat Queue.zero) a1 a2.amount a3).bind fun v5 =>
    (if (!decide (v5.2.2=0))=true then
     some ([],[],v5.2.2)
    else
     (zh4 a0 v2 v5.1).bind fun v6 =>
     (zh6 a2.name v5.2.1).bind fun v7 =>
     some (v6,v7,0)))))
theorem zaV9 (a0:List Queue) (a1:Proc) (a2:Atom) (a3:Int) (r:(List Queue)×(List Event)×Int) (h:zr7 a0 a1 a2 a3=some r):PFn C 18 [.sl (a0.map Queue.enc),.agg (Proc.enc a1),.agg (Atom.enc a2),.int .i64 a3] (.tup [.sl (r.1.map Queue.enc),.sl (r.2.1.map Event.enc),.int .i64 r.2.2]):=by
 refine za8 zel6 rfl fun E hG hN hK=>?_
 unfold zdr9
 unfold zr7 at h
 refine za0 (za1 hG ?_)
 refine za0 (za0 (za1 hG ?_))
 obtain ⟨v1,hv1,h⟩:=za2 h
 refine za6 (fun hg=>zac8 a0 _ (hv1)) ?_
 refine za4 rfl hG h (fun _ h=>?_) (fun _ h=>?_)
 · refine za0 (za1 hG ?_)
   refine za7 ?_
   exact zb0 h
 refine za5 ?_
 refine za0 (za1 hG ?_)
 obtain ⟨v2,hv2,h⟩:=za2 h
 refine za6 (fun hg=>zag7 a0 a2.name _ (hv2)) ?_
 refine za0 (za0 (za1 hG ?_))
 refine za4 rfl hG h (fun _ h=>?_) (fun _ h=>?_)
 · refine za0 (za1 hG ?_)
   refine za7 ?_
   exact zb0 h
 refine za5 ?_
 refine za0 (za1 hG ?_)
 obtain ⟨v3,hv3,h⟩:=za2 h
 refine za6 (fun hg=>zaq5 a0 _ (hv3)) ?_
 refine za0 (za0 (za1 hG ?_))
 obtain ⟨v4,hv4,h⟩:=za2 h
 refine za6 (fun hg=>zaj3 v3 a1 _ (zw9 hg hv4)) ?_
 refine za4 rfl hG h (fun _ h=>?_) (fun _ h=>?_)
 · refine za0 (za1 hG ?_)
   refine za7 ?_
   exact zb0 h
 refine za5 ?_
 refine za0 ?_
 obtain ⟨hb1,h⟩:=za3 h
 refine zF2 zd6 hG ?_
 obtain ⟨v5,hv5,h⟩:=za2 h
 refine zz7 (fun hg=>zaV8 (a0.getD v2.toNat Queue.zero) a1 a2.amount a3 _ (hv5)) ?_
 refine za0 (za0 (za1 hG ?_))
 refine za4 rfl hG h (fun _ h=>?_) (fun _ h=>?_)
 · refine za0 (za1 hG ?_)
   refine za7 ?_
   exact zb0 h
 refine za5 ?_
 refine za0 (zq9 zd6 hG ?_)
 obtain ⟨v6,hv6,h⟩:=za2 h
 refine zi7 (fun hg=>zV6 a0 v2 v5.1 _ (hv6)) ?_
 obtain ⟨v7,hv7,h⟩:=za2 h
 refine zi7 (fun hg=>zZ1 a2.name v5.2.1 _ (hv7)) ?_
 refine za7 ?_
 exact zb0 h
attribute [local irreducible] zr7
noncomputable def zH8  (j1:Unit):Option (Bool) :=
 some true
@[go_sem] def zdY6  (j1:Unit):St:=⟨[],[],0⟩
noncomputable def zU3 (a0:List Event) (a1:List Event) (g1:Int):Option ((Int)⊕((Unit)⊕(Bool))) :=
 (if (decide (g1 < (a0.length:Int)))=true then
  gd (0≤g1∧g1 < (a0.length:Int)) <|
  gd (0≤g1∧g1 < (a1.length:Int)) <|
  (if (!decide ((a0.getD g1.toNat Event.zero)=(a1.getD g1.toNat Event.zero)))=true then
   some (.inr (.inr false))
  else
   some (.inl (IntKind.i64.wrap (g1+1))))
 else
  some (.inr (.inl ())))
@[go_sem] def zdY7 (a0:List Event) (a1:List Event) (g1:Int):St:=⟨[(0,.sl (a0.map Event.enc)),(1,.sl (a1.map Event.enc)),(5,.int .i64 g1)],[],0⟩
noncomputable def zj8 (a0:List Event) (a1:List Event):Option (Bool) :=
 (if (!decide ((a0.length:Int)=(a1.length:Int)))=true then
  some false
 else
  (zc1 (zU3 a0 a1) 0).bind (fun | .inl z=>zH8 z | .inr z=>some z))
theorem zav8 (a0:List Event) (a1:List Event) (r:Bool) (h:zj8 a0 a1=some r):PFn C 36 [.sl (a0.map Event.enc),.sl (a1.map Event.enc)] (.bool r):=by
 refine za8 zel7 rfl fun E hG hN hK=>?_
 unfold zds9
 unfold zj8 at h
 refine za0 (za1 hG ?_)
 refine za0 (za0 (za1 hG ?_))
 refine za4 rfl hG h (fun _ h=>?_) (fun _ h=>?_)
 · refine za0 (za1 hG ?_)
   refine za7 ?_
   exact zb0 h
 refine za5 ?_
 refine za0 (za0 (za1 hG ?_))
 refine zb7 (zdY6) (fun v=>zH8 v=some r) ?_ ?_
 · intro j1 h
   unfold zH8 at h
   refine g_st ?_
   refine za0 (za1 hG ?_)
   refine za7 ?_
   exact zb0 h
 refine ze0 (zdY7 a0 a1) hK [] h (fun x_l1 h g1 y_l1 h_l1 hx_l1=>?_)
 unfold zU3 at h_l1
 refine g_st ?_
 refine za0 (za0 (za1 hG ?_))
 refine za4 rfl hG h_l1 (fun _ h_l1=>?_) (fun _ h_l1=>?_)
 · refine za5 ?_
   refine za0 (zb9 (za0 ?_))
   obtain ⟨hb1,h_l1⟩:=za3 h_l1
   obtain ⟨hb2,h_l1⟩:=za3 h_l1
   refine zq9 zd6 hG ?_
   refine za4 rfl hG h_l1 (fun _ h_l1=>?_) (fun _ h_l1=>?_)
   · refine za0 (za1 hG ?_)
     refine za7 ?_
     obtain rfl:=Option.some.inj h_l1
     have hx:=hx_l1 _ rfl
     subst hx
     try dsimp only at h
     exact zb0 h
   refine za5 ?_
   refine za1 hG ?_
   exact zd0 hK [] h_l1
 refine zc5 ?_
 obtain rfl:=Option.some.inj h_l1
 have hx:=hx_l1 _ rfl
 subst hx
 try dsimp only at h
 exact zc8 hK [] () (by exact h)
attribute [local irreducible] zj8
noncomputable def zs4 (a0:List Queue) (a1:List Event) (a2:Int) (a3:List Queue) (a4:List Event) (a5:Int):Option (Bool) :=
 ((if (decide (a2=a5))=true then zs2 a0 a3 else some (false))).bind fun v1 =>
 ((if ((decide (a2=a5))&&v1)=true then zj8 a1 a4 else some (false))).bind fun v2 =>
 some (((decide (a2=a5))&&v1)&&v2)
theorem zah0 (a0:List Queue) (a1:List Event) (a2:Int) (a3:List Queue) (a4:List Event) (a5:Int) (r:Bool) (h:zs4 a0 a1 a2 a3 a4 a5=some r):PFn C 19 [.sl (a0.map Queue.enc),.sl (a1.map Event.enc),.int .i64 a2,.sl (a3.map Queue.enc),.sl (a4.map Event.enc),.int .i64 a5] (.bool r):=by
 refine za8 zel8 rfl fun E hG hN hK=>?_
 unfold zdt2
 unfold zs4 at h
 refine za0 (za1 hG ?_)
 refine za0 (za1 hG ?_)
 obtain ⟨v1,hv1,h⟩:=za2 h
 refine za6 (fun hg=>zax3 a0 a3 _ (zw9 hg hv1)) ?_
 obtain ⟨v2,hv2,h⟩:=za2 h
 refine za6 (fun hg=>zav8 a1 a4 _ (zw9 hg hv2)) ?_
 refine za7 ?_
 exact zb0 h
attribute [local irreducible] zs4
noncomputable def ze2 (a0:Int) (a1:Tape):Option (Int×Tape) :=
 (if (decide ((a1.l.length:Int)≤a1.at_))=true then
  some (0,a1)
 else
  gd (0≤(IntKind.i64.wrap (({ a1 with at_:=(IntKind.i64.wrap (a1.at_+1)) }).at_ - 1))∧(IntKind.i64.wrap (({ a1 with at_:=(IntKind.i64.wrap (a1.at_+1)) }).at_ - 1)) < ((({ a1 with at_:=(IntKind.i64.wrap (a1.at_+1)) }).l).length:Int)) <|
  (zp9 ((({ a1 with at_:=(IntKind.i64.wrap (a1.at_+1)) }).l).getD ((IntKind.i64.wrap (({ a1 with at_:=(IntKind.i64.wrap (a1.at_+1)) }).at_ - 1)).toNat) 0) a0).bind fun v1 =>
  some (v1,{ a1 with at_:=(IntKind.i64.wrap (a1.at_+1)) }))
attribute [local irreducible] ze2
def zC4 :List ByteArray:=[(⟨#[97]⟩:ByteArray),(⟨#[98]⟩:ByteArray),(⟨#[99]⟩:ByteArray),(⟨#[100]⟩:ByteArray)]
noncomputable def zav9  (j1:Tape×(List Resource)):Option ((List Resource)×Tape) :=
 (ze2 8 j1.1).bind fun v1 =>
 (ze2 4 v1.2).bind fun v2 =>
 gd (j1.2.length+1≤4294967296) <|
 (ze2 3 v2.2).bind fun v3 =>
 (ze2 4 v3.2).bind fun v4 =>
 gd (j1.2.length+1+1≤4294967296) <|
 some (((j1.2++[(⟨(⟨#[112]⟩:ByteArray),2,(IntKind.i64.wrap (1+v1.1)),v2.1⟩:Resource)])++[(⟨(⟨#[113]⟩:ByteArray),2,(IntKind.i64.wrap (1+v3.1)),v4.1⟩:Resource)]),v4.2)
@[go_sem] def zeJ3  (j1:Tape×(List Resource)):St:=⟨[(0,.ptr 0 0 0),(3,.own 1 0 j1.2.length)],[(0,⟨false,2,(Tape.enc Tape.zero),[Tape.enc j1.1]⟩),(1,⟨false,4,(Resource.enc Resource.zero),j1.2.map Resource.enc⟩)],2⟩
noncomputable def zaw0  (g1:Int×Tape×(List Resource)):Option ((Int×Tape×(List Resource))⊕((Tape×(List Resource)))) :=
 (if (decide (g1.1 < (zC4.length:Int)))=true then
  gd (0≤g1.1∧g1.1 < (zC4.length:Int)) <|
  (ze2 4 g1.2.1).bind fun v5 =>
  gd (g1.2.2.length+1≤4294967296) <|
  some (.inl ((IntKind.i64.wrap (g1.1+1)),v5.2,(g1.2.2++[(⟨(zC4.getD g1.1.toNat (⟨#[]⟩)),1,1,v5.1⟩:Resource)])))
 else
  some (.inr (g1.2.1,g1.2.2)))
@[go_sem] def zeJ4  (g1:Int×Tape×(List Resource)):St:=⟨[(0,.ptr 0 0 0),(3,.own 1 0 g1.2.2.length),(4,.full (zC4.map eS)),(5,.int .i64 g1.1)],[(0,⟨false,2,(Tape.enc Tape.zero),[Tape.enc g1.2.1]⟩),(1,⟨false,4,(Resource.enc Resource.zero),g1.2.2.map Resource.enc⟩)],2⟩
noncomputable def zA1 (a0:Tape):Option ((List Resource)×Tape) :=
 (zc1 (zaw0) (0,a0,[])).bind (fun z=>zav9 z)
attribute [local irreducible] zA1
noncomputable def zw3 (a0:Tape):Option (Bool×Tape) :=
 some ((decide (a0.at_ < (a0.l.length:Int))),a0)
attribute [local irreducible] zw3
def zZ2 :List Int:=[5,5,3,4,2,1,3,5]
noncomputable def zR1 (a0:Int):Option (Int) :=
 (zp9 a0 (zZ2.length:Int)).bind fun v1 =>
 gd (0≤v1∧v1 < (zZ2.length:Int)) <|
 some (zZ2.getD v1.toNat 0)
attribute [local irreducible] zR1
noncomputable def zH5 (a0:Resource) (a1:Int):Option (Amount) :=
 (if (decide (a0.kind=1))=true then
  (zR1 a1).bind fun v1 =>
  some ({ Amount.zero with mode:=v1 })
 else
  (zp9 a1 a0.units).bind fun v2 =>
  some ({ Amount.zero with units:=(IntKind.i64.wrap (1+v2)) }))
attribute [local irreducible] zH5
noncomputable def zT2 (a0:List Wait) (j1:(List Wait)):Option ((List Wait)×Bool) :=
 some (j1,(decide (((j1.length:Nat):Int) < (a0.length:Int))))
@[go_sem] def zdY8 (a0:List Wait) (j1:(List Wait)):St:=⟨[(0,.sl (a0.map Wait.enc)),(6,.own 0 0 j1.length)],[(0,⟨false,7,(Wait.enc Wait.zero),j1.map Wait.enc⟩)],1⟩
noncomputable def zI5 (a0:List Wait) (a1:Proc) (g1:Int×(List Wait)):Option ((Int×(List Wait))⊕(((List Wait)))) :=
 (if (decide (g1.1 < (a0.length:Int)))=true then
  gd (0≤g1.1∧g1.1 < (a0.length:Int)) <|
  (if (!decide ((a0.getD g1.1.toNat Wait.zero).proc=a1))=true then
   gd (0≤g1.1∧g1.1 < (a0.length:Int)) <|
   gd (g1.2.length+1≤4294967296) <|
   some (.inl ((IntKind.i64.wrap (g1.1+1)),(g1.2++[(a0.getD g1.1.toNat Wait.zero)])))
  else
   some (.inl ((IntKind.i64.wrap (g1.1+1)),g1.2)))
 else
  some (.inr g1.2))
@[go_sem] def zdY9 (a0:List Wait) (a1:Proc) (g1:Int×(List Wait)):St:=⟨[(0,.sl (a0.map Wait.enc)),(3,.ptr 0 0 0),(6,.own 1 0 g1.2.length),(7,.int .i64 g1.1)],[(0,⟨false,3,(Proc.enc Proc.zero),[Proc.enc a1]⟩),(1,⟨false,7,(Wait.enc Wait.zero),g1.2.map Wait.enc⟩)],2⟩
noncomputable def zl0 (a0:List Wait) (a1:Proc):Option ((List Wait)×Bool) :=
 (zc1 (zI5 a0 a1) (0,[])).bind (fun z=>zT2 a0 z)
theorem zan8 (a0:List Wait) (a1:Proc) (r:(List Wait)×Bool) (h:zl0 a0 a1=some r):PFn C 113 [.sl (a0.map Wait.enc),.agg (Proc.enc a1)] (.tup [.sl (r.1.map Wait.enc),.bool r.2]):=by
 refine za8 zeo4 rfl fun E hG hN hK=>?_
 unfold zdu1
 unfold zl0 at h
 refine za0 (za1 hG ?_)
 refine za0 (za1 hG ?_)
 refine za0 (za0 (za1 hG ?_))
 refine zb7 (zdY8 a0) (fun v=>zT2 a0 v=some r) ?_ ?_
 · intro j1 h
   unfold zT2 at h
   refine g_st ?_
   refine za0 (za1 hG ?_)
   refine za7 ?_
   exact zb0 h
 refine ze0 (zdY9 a0 a1) hK [(0,0),(1,1)] h (fun x_l1 h g1 y_l1 h_l1 hx_l1=>?_)
 unfold zI5 at h_l1
 refine g_st ?_
 refine za0 (za0 (za1 hG ?_))
 refine za4 rfl hG h_l1 (fun _ h_l1=>?_) (fun _ h_l1=>?_)
 · refine za5 ?_
   refine za0 (zb9 (za0 ?_))
   obtain ⟨hb3,h_l1⟩:=za3 h_l1
   refine zq9 zd6 hG ?_
   refine za4 rfl hG h_l1 (fun _ h_l1=>?_) (fun _ h_l1=>?_)
   · obtain ⟨hb1,h_l1⟩:=za3 h_l1
     obtain ⟨hb2,h_l1⟩:=za3 h_l1
     refine za1 hG ?_
     refine za1 hG ?_
     exact zd0 hK [(0,0),(1,2)] h_l1
   refine za5 ?_
   refine za1 hG ?_
   exact zd0 hK [(0,0),(1,1)] h_l1
 refine zc5 ?_
 obtain rfl:=Option.some.inj h_l1
 have hx:=hx_l1 _ rfl
 subst hx
 try dsimp only at h
 exact zc8 hK [(0,1)] g1.2 (by exact h)
attribute [local irreducible] zl0
noncomputable def zr8 (a0:Queue) (a1:Proc):Option (Queue×(List Hold)×Int) :=
 (zj7 a0).bind fun v1 =>
 (if (!v1)=true then
  some ({ Queue.zero with  },[],2)
 else
  (zk9 a0 a1).bind fun v2 =>
  (if (!v2.2)=true then
   some ({ Queue.zero with  },[],10)
  else
   (zp7 a0).bind fun v3 =>
   (zl0 v3.converts a1).bind fun v4 =>
   (zl0 (({ v3 with converts:=v4.1 }).waits) a1).bind fun v5 =>
   (zh3 ({ { v3 with converts:=v4.1 } with waits:=v5.1 })).bind fun v6 =>
   some (v6.1,v6.2.1,v6.2.2)))
theorem zaN5 (a0:Queue) (a1:Proc) (r:Queue×(List Hold)×Int) (h:zr8 a0 a1=some r):PFn C 79 [.agg (Queue.enc a0),.agg (Proc.enc a1)] (.tup [.agg (Queue.enc r.1),.sl (r.2.1.map Hold.enc),.int .i64 r.2.2]):=by
 refine za8 zeo5 rfl fun E hG hN hK=>?_
 unfold zdv2
 unfold zr8 at h
 refine za0 (za1 hG ?_)
 refine za0 (za0 (za1 hG ?_))
 obtain ⟨v1,hv1,h⟩:=za2 h
 refine za6 (fun hg=>zS8 a0 _ (hv1)) ?_
 refine za4 rfl hG h (fun _ h=>?_) (fun _ h=>?_)
 · refine za0 (za1 hG ?_)
   refine za7 ?_
   exact zb0 h
 refine za5 ?_
 refine za0 (za0 (za1 hG ?_))
 obtain ⟨v2,hv2,h⟩:=za2 h
 refine za6 (fun hg=>zZ0 a0 a1 _ (hv2)) ?_
 refine za0 (za1 hG ?_)
 refine za4 rfl hG h (fun _ h=>?_) (fun _ h=>?_)
 · refine za0 (za1 hG ?_)
   refine za7 ?_
   exact zb0 h
 refine za5 ?_
 refine za0 (za1 hG ?_)
 obtain ⟨v3,hv3,h⟩:=za2 h
 refine za6 (fun hg=>zag9 a0 _ (hv3)) ?_
 refine za0 (za1 hG ?_)
 obtain ⟨v4,hv4,h⟩:=za2 h
 refine za6 (fun hg=>zan8 v3.converts a1 _ (hv4)) ?_
 refine za0 (za1 hG ?_)
 obtain ⟨v5,hv5,h⟩:=za2 h
 refine za6 (fun hg=>zan8 (({ v3 with converts:=v4.1 }).waits) a1 _ (hv5)) ?_
 refine za0 (za1 hG ?_)
 obtain ⟨v6,hv6,h⟩:=za2 h
 refine za6 (fun hg=>zN5 ({ { v3 with converts:=v4.1 } with waits:=v5.1 }) _ (hv6)) ?_
 refine za7 ?_
 exact zb0 h
attribute [local irreducible] zr8
noncomputable def zn8 (a0:List Queue) (a1:Proc) (a2:ByteArray):Option ((List Queue)×(List Event)×Int) :=
 (zl5 a0).bind fun v1 =>
 (if (!v1)=true then
  some ([],[],2)
 else
  (zs3 a0 a2).bind fun v2 =>
  (if (decide (v2 < 0))=true then
   some ([],[],10)
  else
   gd (0≤v2∧v2 < (a0.length:Int)) <|
   (zr8 (a0.getD v2.toNat Queue.zero) a1).bind fun v3 =>
   (if (!decide (v3.2.2=0))=true then
    some ([],[],v3.2.2)
   else
    (zh4 a0 v2 v3.1).bind fun v4 =>
    (zh6 a2 v3.2.1).bind fun v5 =>
    some (v4,v5,0))))
theorem zaN6 (a0:List Queue) (a1:Proc) (a2:ByteArray) (r:(List Queue)×(List Event)×Int) (h:zn8 a0 a1 a2=some r):PFn C 42 [.sl (a0.map Queue.enc),.agg (Proc.enc a1),.str a2] (.tup [.sl (r.1.map Queue.enc),.sl (r.2.1.map Event.enc),.int .i64 r.2.2]):=by
 refine za8 zeo6 rfl fun E hG hN hK=>?_
 unfold zdw3
 unfold zn8 at h
 refine za0 (za1 hG ?_)
 refine za0 (za0 (za1 hG ?_))
 obtain ⟨v1,hv1,h⟩:=za2 h
 refine za6 (fun hg=>zac8 a0 _ (hv1)) ?_
 refine za4 rfl hG h (fun _ h=>?_) (fun _ h=>?_)
 · refine za0 (za1 hG ?_)
   refine za7 ?_
   exact zb0 h
 refine za5 ?_
 refine za0 (za1 hG ?_)
 obtain ⟨v2,hv2,h⟩:=za2 h
 refine za6 (fun hg=>zag7 a0 a2 _ (hv2)) ?_
 refine za0 (za0 (za1 hG ?_))
 refine za4 rfl hG h (fun _ h=>?_) (fun _ h=>?_)
 · refine za0 (za1 hG ?_)
   refine za7 ?_
   exact zb0 h
 refine za5 ?_
 refine za0 ?_
 obtain ⟨hb1,h⟩:=za3 h
 refine zF2 zd6 hG ?_
 obtain ⟨v3,hv3,h⟩:=za2 h
 refine zz7 (fun hg=>zaN5 (a0.getD v2.toNat Queue.zero) a1 _ (hv3)) ?_
 refine za0 (za0 (za1 hG ?_))
 refine za4 rfl hG h (fun _ h=>?_) (fun _ h=>?_)
 · refine za0 (za1 hG ?_)
   refine za7 ?_
   exact zb0 h
 refine za5 ?_
 refine za0 (za1 hG ?_)
 obtain ⟨v4,hv4,h⟩:=za2 h
 refine za6 (fun hg=>zV6 a0 v2 v3.1 _ (hv4)) ?_
 obtain ⟨v5,hv5,h⟩:=za2 h
 refine za6 (fun hg=>zZ1 a2 v3.2.1 _ (hv5)) ?_
 refine za7 ?_
 exact zb0 h
attribute [local irreducible] zn8
noncomputable def zt7 (a0:Queue) (a1:Proc) (a2:Amount):Option (Queue×(List Hold)×Int) :=
 (zj7 a0).bind fun v1 =>
 (if (!v1)=true then
  some ({ Queue.zero with  },[],2)
 else
  (zn5 a0 a1).bind fun v2 =>
  (if (zc9 v2)=true then
   some ({ Queue.zero with  },[],10)
  else
   (zk9 a0 a1).bind fun v3 =>
   (if v3.2=true then
    some ({ Queue.zero with  },[],14)
   else
    (if (!(zg3 a0.resource v2 a2))=true then
     some ({ Queue.zero with  },[],12)
    else
     (zp7 a0).bind fun v4 =>
     (if (decide (v2=a2))=true then
      some (v4,[],0)
     else
      (zq4 v4.holds a1 a2).bind fun v5 =>
      (zh3 ({ v4 with holds:=v5 })).bind fun v6 =>
      some (v6.1,v6.2.1,v6.2.2))))))
theorem zaW0 (a0:Queue) (a1:Proc) (a2:Amount) (r:Queue×(List Hold)×Int) (h:zt7 a0 a1 a2=some r):PFn C 81 [.agg (Queue.enc a0),.agg (Proc.enc a1),.agg (Amount.enc a2)] (.tup [.agg (Queue.enc r.1),.sl (r.2.1.map Hold.enc),.int .i64 r.2.2]):=by
 refine za8 zeo7 rfl fun E hG hN hK=>?_
 unfold zdx4
 unfold zt7 at h
 refine za0 (za1 hG ?_)
 refine za0 (za0 (za1 hG ?_))
 obtain ⟨v1,hv1,h⟩:=za2 h
 refine za6 (fun hg=>zS8 a0 _ (hv1)) ?_
 refine za4 rfl hG h (fun _ h=>?_) (fun _ h=>?_)
 · refine za0 (za1 hG ?_)
   refine za7 ?_
   exact zb0 h
 refine za5 ?_
 refine za0 (za1 hG ?_)
 obtain ⟨v2,hv2,h⟩:=za2 h
 refine za6 (fun hg=>zag8 a0 a1 _ (hv2)) ?_
 refine za0 (za0 (za1 hG ?_))
 refine za6 (fun hg=>zt6 v2) ?_
 refine za4 rfl hG h (fun _ h=>?_) (fun _ h=>?_)
 · refine za0 (za1 hG ?_)
   refine za7 ?_
   exact zb0 h
 refine za5 ?_
 refine za0 (za0 (za1 hG ?_))
 obtain ⟨v3,hv3,h⟩:=za2 h
 refine za6 (fun hg=>zZ0 a0 a1 _ (hv3)) ?_
 refine za0 (za1 hG ?_)
 refine za4 rfl hG h (fun _ h=>?_) (fun _ h=>?_)
 · refine za0 (za1 hG ?_)
   refine za7 ?_
   exact zb0 h
 refine za5 ?_
 refine za0 (za0 (za1 hG ?_))
 refine za6 (fun hg=>zH0 a0.resource v2 a2) ?_
 refine za4 rfl hG h (fun _ h=>?_) (fun _ h=>?_)
 · refine za0 (za1 hG ?_)
   refine za7 ?_
   exact zb0 h
 refine za5 ?_
 refine za0 (za1 hG ?_)
 obtain ⟨v4,hv4,h⟩:=za2 h
 refine za6 (fun hg=>zag9 a0 _ (hv4)) ?_
 refine za0 (za0 (za1 hG ?_))
 refine za4 rfl hG h (fun _ h=>?_) (fun _ h=>?_)
 · refine za0 (za1 hG ?_)
   refine za7 ?_
   exact zb0 h
 refine za5 ?_
 refine za0 (za1 hG ?_)
 obtain ⟨v5,hv5,h⟩:=za2 h
 refine za6 (fun hg=>zal5 v4.holds a1 a2 _ (hv5)) ?_
 refine za0 (za1 hG ?_)
 obtain ⟨v6,hv6,h⟩:=za2 h
 refine za6 (fun hg=>zN5 ({ v4 with holds:=v5 }) _ (hv6)) ?_
 refine za7 ?_
 exact zb0 h
attribute [local irreducible] zt7
noncomputable def zA2 (a0:List Queue) (a2:Atom) (v2:Int) (v4:Queue×(List Hold)×Int) (j1:(List Event)):Option ((List Queue)×(List Event)×Int) :=
 (zh4 a0 v2 v4.1).bind fun v5 =>
 (zh6 a2.name v4.2.1).bind fun v6 =>
 gd (j1.length+v6.length≤4294967296) <|
 some (v5,(j1++v6),0)
@[go_sem] def zdZ0 (a0:List Queue) (a2:Atom) (v2:Int) (v4:Queue×(List Hold)×Int) (j1:(List Event)):St:=⟨[(0,.sl (a0.map Queue.enc)),(5,.ptr 0 0 0),(9,.int .i64 v2),(11,.ptr 1 0 0),(12,.sl (v4.2.1.map Hold.enc)),(14,.own 2 0 j1.length)],[(0,⟨false,3,(Atom.enc Atom.zero),[Atom.enc a2]⟩),(1,⟨false,8,(Queue.enc Queue.zero),[Queue.enc v4.1]⟩),(2,⟨false,7,(Event.enc Event.zero),j1.map Event.enc⟩)],3⟩
noncomputable def zr9 (a0:List Queue) (a1:Proc) (a2:Atom):Option ((List Queue)×(List Event)×Int) :=
 (zl5 a0).bind fun v1 =>
 (if (!v1)=true then
  some ([],[],2)
 else
  (zs3 a0 a2.name).bind fun v2 =>
  (if (decide (v2 < 0))=true then
   some ([],[],10)
  else
   gd (0≤v2∧v2 < (a0.length:Int)) <|
   (zn5 (a0.getD v2.toNat Queue.zero) a1).bind fun v3 =>
   gd (0≤v2∧v2 < (a0.length:Int)) <|
   (zt7 (a0.getD v2.toNat Queue.zero) a1 a2.amount).bind fun v4 =>
   (if (!decide (v4.2.2=0))=true then
    some ([],[],v4.2.2)
   else
    (if (!decide (v3=a2.amount))=true then
     gd (1≤4294967296) <|
     zA2 a0 a2 v2 v4 [(⟨3,a1,a2.name,a2.amount⟩:Event)]
    else
     zA2 a0 a2 v2 v4 []))))
theorem zaW1 (a0:List Queue) (a1:Proc) (a2:Atom) (r:(List Queue)×(List Event)×Int) (h:zr9 a0 a1 a2=some r):PFn C 44 [.sl (a0.map Queue.enc),.agg (Proc.enc a1),.agg (Atom.enc a2)] (.tup [.sl (r.1.map Queue.enc),.sl (r.2.1.map Event.enc),.int .i64 r.2.2]):=by
 refine za8 zeo8 rfl fun E hG hN hK=>?_
 unfold zdy5
 unfold zr9 at h
 refine za0 (za1 hG ?_)
 refine za0 (za0 (za1 hG ?_))
 obtain ⟨v1,hv1,h⟩:=za2 h
 refine za6 (fun hg=>zac8 a0 _ (hv1)) ?_
 refine za4 rfl hG h (fun _ h=>?_) (fun _ h=>?_)
 · refine za0 (za1 hG ?_)
   refine za7 ?_
   exact zb0 h
 refine za5 ?_
 refine za0 (za1 hG ?_)
 obtain ⟨v2,hv2,h⟩:=za2 h
 refine za6 (fun hg=>zag7 a0 a2.name _ (hv2)) ?_
 refine za0 (za0 (za1 hG ?_))
 refine za4 rfl hG h (fun _ h=>?_) (fun _ h=>?_)
 · refine za0 (za1 hG ?_)
   refine za7 ?_
   exact zb0 h
 refine za5 ?_
 refine za0 ?_
 obtain ⟨hb4,h⟩:=za3 h
 refine zF2 zd6 hG ?_
 obtain ⟨v3,hv3,h⟩:=za2 h
 refine zz7 (fun hg=>zag8 (a0.getD v2.toNat Queue.zero) a1 _ (hv3)) ?_
 refine za0 ?_
 obtain ⟨hb3,h⟩:=za3 h
 refine zF2 zd6 hG ?_
 obtain ⟨v4,hv4,h⟩:=za2 h
 refine zz7 (fun hg=>zaW0 (a0.getD v2.toNat Queue.zero) a1 a2.amount _ (hv4)) ?_
 refine za0 (za0 (za1 hG ?_))
 refine za4 rfl hG h (fun _ h=>?_) (fun _ h=>?_)
 · refine za0 (za1 hG ?_)
   refine za7 ?_
   exact zb0 h
 refine za5 ?_
 refine za0 (za1 hG ?_)
 refine za0 (za0 (za1 hG ?_))
 refine zbj1 (zdZ0 a0 a2 v2 v4) (fun v=>zA2 a0 a2 v2 v4 v=some r) rfl hG h ?_ (fun _ h=>?_) (fun _ h=>?_)
 · intro j1 h
   unfold zA2 at h
   refine g_st ?_
   refine za0 (zF2 zd6 hG ?_)
   obtain ⟨v5,hv5,h⟩:=za2 h
   refine zz7 (fun hg=>zV6 a0 v2 v4.1 _ (hv5)) ?_
   obtain ⟨v6,hv6,h⟩:=za2 h
   obtain ⟨hb1,h⟩:=za3 h
   refine zz7 (fun hg=>zZ1 a2.name v4.2.1 _ (hv6)) ?_
   refine za7 ?_
   exact zb0 h
 · obtain ⟨hb2,h⟩:=za3 h
   refine za1 hG ?_
   exact zc8 hK [(0,1),(1,3),(2,5)] [(⟨3,a1,a2.name,a2.amount⟩:Event)] (by exact h)
 refine za5 ?_
 exact zc8 hK [(0,1),(1,3),(2,4)] [] (by exact h)
attribute [local irreducible] zr9
noncomputable def zaN7  (j1:(List Queue)):Option ((List Queue)) :=
 some j1
@[go_sem] def zeJ5  (j1:(List Queue)):St:=⟨[(4,.sl (j1.map Queue.enc))],[],0⟩
noncomputable def zZ3 (g1:(List Queue)×Tape) (j2:(List Queue)×Int×Tape):Option (((List Queue)×Tape)⊕(((List Queue)))) :=
 (if (decide (j2.2.1=0))=true then
  some (.inl (j2.1,j2.2.2))
 else
  some (.inl (g1.1,j2.2.2)))
@[go_sem] def zeJ6 (g1:(List Queue)×Tape) (j2:(List Queue)×Int×Tape):St:=⟨[(3,.ptr 0 0 0),(4,.sl (g1.1.map Queue.enc)),(10,.sl (j2.1.map Queue.enc)),(11,.int .i64 j2.2.1)],[(0,⟨false,2,(Tape.enc Tape.zero),[Tape.enc j2.2.2]⟩)],1⟩
noncomputable def zaN8  (g1:(List Queue)×Tape):Option (((List Queue)×Tape)⊕(((List Queue)))) :=
 (zw3 g1.2).bind fun v3 =>
 (if v3.1=true then
  (ze2 8 v3.2).bind fun v4 =>
  (ze2 (g1.1.length:Int) v4.2).bind fun v5 =>
  gd (0≤v5.1∧v5.1 < (g1.1.length:Int)) <|
  (ze2 8 v5.2).bind fun v6 =>
  (zq3 v6.1).bind fun v7 =>
  (ze2 64 v6.2).bind fun v8 =>
  (zH5 ((g1.1.getD v5.1.toNat Queue.zero).resource) v8.1).bind fun v9 =>
  (if (decide (v4.1=0))=true then
   (zn8 g1.1 v7 ((⟨((g1.1.getD v5.1.toNat Queue.zero).resource).name,v9⟩:Atom).name)).bind fun v10 =>
   zZ3 g1 (v10.1,v10.2.2,v8.2)
  else
   (if (decide (v4.1=1))=true then
    (zr9 g1.1 v7 (⟨((g1.1.getD v5.1.toNat Queue.zero).resource).name,v9⟩:Atom)).bind fun v11 =>
    zZ3 g1 (v11.1,v11.2.2,v8.2)
   else
    (ze2 8 v8.2).bind fun v12 =>
    (zr7 g1.1 v7 (⟨((g1.1.getD v5.1.toNat Queue.zero).resource).name,v9⟩:Atom) v12.1).bind fun v13 =>
    zZ3 g1 (v13.1,v13.2.2,v12.2)))
 else
  some (.inr g1.1))
@[go_sem] def zeJ7  (g1:(List Queue)×Tape):St:=⟨[(3,.ptr 0 0 0),(4,.sl (g1.1.map Queue.enc))],[(0,⟨false,2,(Tape.enc Tape.zero),[Tape.enc g1.2]⟩)],1⟩
noncomputable def zT3 (a0:List Int):Option ((List Queue)) :=
 (zA1 ({ Tape.zero with l:=a0 })).bind fun v1 =>
 (zq2 v1.1).bind fun v2 =>
 (zc1 (zaN8) (v2.1,v1.2)).bind (fun z=>zaN7 z)
attribute [local irreducible] zT3
noncomputable def zaq6 (a1:Int) (a2:Queue) (j1:(List Queue)):Option ((List Queue)) :=
 (if (decide (0≤a1))=true then
  gd (0≤a1∧a1 < ((j1.length:Nat):Int)) <|
  some (j1.set a1.toNat a2)
 else
  some j1)
@[go_sem] def zeJ8 (a1:Int) (a2:Queue) (j1:(List Queue)):St:=⟨[(1,.int .i64 a1),(5,.ptr 0 0 0),(7,.own 1 0 j1.length)],[(0,⟨false,8,(Queue.enc Queue.zero),[Queue.enc a2]⟩),(1,⟨false,8,(Queue.enc Queue.zero),j1.map Queue.enc⟩)],2⟩
noncomputable def zaq7 (a0:List Queue) (g1:Int×(List Queue)):Option ((Int×(List Queue))⊕(((List Queue)))) :=
 (if (decide (g1.1 < (a0.length:Int)))=true then
  gd (0≤g1.1∧g1.1 < (a0.length:Int)) <|
  gd (((a0.getD g1.1.toNat Queue.zero).holds).length≤4294967296) <|
  gd ((({ (a0.getD g1.1.toNat Queue.zero) with holds:=(a0.getD g1.1.toNat Queue.zero).holds }).converts).length≤4294967296) <|
  gd ((({ { (a0.getD g1.1.toNat Queue.zero) with holds:=(a0.getD g1.1.toNat Queue.zero).holds } with converts:=({ (a0.getD g1.1.toNat Queue.zero) with holds:=(a0.getD g1.1.toNat Queue.zero).holds }).converts }).waits).length≤4294967296) <|
  gd (0≤g1.1∧g1.1 < ((g1.2.length:Nat):Int)) <|
  some (.inl ((IntKind.i64.wrap (g1.1+1)),(g1.2.set g1.1.toNat ({ { { (a0.getD g1.1.toNat Queue.zero) with holds:=(a0.getD g1.1.toNat Queue.zero).holds } with converts:=({ (a0.getD g1.1.toNat Queue.zero) with holds:=(a0.getD g1.1.toNat Queue.zero).holds }).converts } with waits:=({ { (a0.getD g1.1.toNat Queue.zero) with holds:=(a0.getD g1.1.toNat Queue.zero).holds } with converts:=({ (a0.getD g1.1.toNat Queue.zero) with holds:=(a0.getD g1.1.toNat Queue.zero).holds }).converts }).waits }))))
 else
  some (.inr g1.2))
@[go_sem] def zeJ9 (a0:List Queue) (a1:Int) (a2:Queue) (g1:Int×(List Queue)):St:=⟨[(1,.int .i64 a1),(5,.ptr 0 0 0),(7,.own 1 0 g1.2.length),(13,.sl (a0.map Queue.enc)),(14,.int .i64 (a0.length:Int)),(15,.int .i64 g1.1)],[(0,⟨false,8,(Queue.enc Queue.zero),[Queue.enc a2]⟩),(1,⟨false,8,(Queue.enc Queue.zero),g1.2.map Queue.enc⟩)],2⟩
noncomputable def zy4 (a0:List Queue) (a1:Int) (a2:Queue):Option ((List Queue)) :=
 gd (0≤(a0.length:Int)∧(a0.length:Int)≤(a0.length:Int)∧(a0.length:Int)≤4294967296) <|
 (zc1 (zaq7 a0) (0,(List.replicate ((a0.length:Int).toNat) Queue.zero))).bind (fun z=>zaq6 a1 a2 z)
attribute [local irreducible] zy4
noncomputable def zp1 (a0:Queue):Option (Queue) :=
 gd (a0.holds.length≤4294967296) <|
 gd (a0.converts.length≤4294967296) <|
 gd (a0.waits.length≤4294967296) <|
 some a0
theorem zaq8 (a0:Queue) (r:Queue) (h:zp1 a0=some r):PFn C 88 [.agg (Queue.enc a0)] (.agg (Queue.enc r)):=by
 refine za8 zeq9 rfl fun E hG hN hK=>?_
 unfold zdz1
 unfold zp1 at h
 refine za0 (za1 hG ?_)
 refine za0 ?_
 obtain ⟨hb3,h⟩:=za3 h
 refine za1 hG ?_
 refine za0 ?_
 obtain ⟨hb2,h⟩:=za3 h
 refine za1 hG ?_
 refine za0 ?_
 obtain ⟨hb1,h⟩:=za3 h
 refine za1 hG ?_
 refine za0 (za1 hG ?_)
 refine za7 ?_
 exact zb0 h
attribute [local irreducible] zp1
noncomputable def zw4 (a0:Queue) (a1:Proc):Option (Queue×Proc) :=
 (zh8 a0.holds a1 ({ Amount.zero with  })).bind fun v1 =>
 some ({ a0 with holds:=v1 },a1)
attribute [local irreducible] zw4
noncomputable def zN6 (a0:List Wait) (j1:(List Wait)):Option ((List Wait)×Bool) :=
 some (j1,(decide (((j1.length:Nat):Int) < (a0.length:Int))))
@[go_sem] def zdZ1 (a0:List Wait) (j1:(List Wait)):St:=⟨[(0,.sl (a0.map Wait.enc)),(6,.own 0 0 j1.length)],[(0,⟨false,7,(Wait.enc Wait.zero),j1.map Wait.enc⟩)],1⟩
noncomputable def zw5 (a0:List Wait) (a1:Proc) (g1:Int×(List Wait)):Option ((Int×(List Wait))⊕(((List Wait)))) :=
 (if (decide (g1.1 < (a0.length:Int)))=true then
  gd (0≤g1.1∧g1.1 < (a0.length:Int)) <|
  (if (!decide ((a0.getD g1.1.toNat Wait.zero).proc=a1))=true then
   gd (g1.2.length+1≤4294967296) <|
   some (.inl ((IntKind.i64.wrap (g1.1+1)),(g1.2++[(a0.getD g1.1.toNat Wait.zero)])))
  else
   some (.inl ((IntKind.i64.wrap (g1.1+1)),g1.2)))
 else
  some (.inr g1.2))
@[go_sem] def zdZ2 (a0:List Wait) (a1:Proc) (g1:Int×(List Wait)):St:=⟨[(0,.sl (a0.map Wait.enc)),(3,.ptr 0 0 0),(6,.own 1 0 g1.2.length),(9,.sl (a0.map Wait.enc)),(10,.int .i64 (a0.length:Int)),(11,.int .i64 g1.1)],[(0,⟨false,3,(Proc.enc Proc.zero),[Proc.enc a1]⟩),(1,⟨false,7,(Wait.enc Wait.zero),g1.2.map Wait.enc⟩)],2⟩
noncomputable def zl6 (a0:List Wait) (a1:Proc):Option ((List Wait)×Bool) :=
 (zc1 (zw5 a0 a1) (0,[])).bind (fun z=>zN6 a0 z)
theorem zaq9 (a0:List Wait) (a1:Proc) (r:(List Wait)×Bool) (h:zl6 a0 a1=some r):PFn C 108 [.sl (a0.map Wait.enc),.agg (Proc.enc a1)] (.tup [.sl (r.1.map Wait.enc),.bool r.2]):=by
 refine za8 zer1 rfl fun E hG hN hK=>?_
 unfold zdA1
 unfold zl6 at h
 refine za0 (za1 hG ?_)
 refine za0 (za1 hG ?_)
 refine za0 (za0 (za1 hG ?_))
 refine zb7 (zdZ1 a0) (fun v=>zN6 a0 v=some r) ?_ ?_
 · intro j1 h
   unfold zN6 at h
   refine g_st ?_
   refine za0 (za1 hG ?_)
   refine za7 ?_
   exact zb0 h
 refine ze0 (zdZ2 a0 a1) hK [(0,0),(1,1)] h (fun x_l1 h g1 y_l1 h_l1 hx_l1=>?_)
 unfold zw5 at h_l1
 refine g_st ?_
 refine za0 (za1 hG ?_)
 refine za0 ?_
 refine za4 rfl hG h_l1 (fun _ h_l1=>?_) (fun _ h_l1=>?_)
 · refine za5 ?_
   refine za0 (zb9 (za0 ?_))
   obtain ⟨hb2,h_l1⟩:=za3 h_l1
   refine za1 hG ?_
   refine za0 (za1 hG ?_)
   refine za4 rfl hG h_l1 (fun _ h_l1=>?_) (fun _ h_l1=>?_)
   · obtain ⟨hb1,h_l1⟩:=za3 h_l1
     refine za1 hG ?_
     refine za1 hG ?_
     exact zd0 hK [(0,0),(1,3)] h_l1
   refine za5 ?_
   refine za1 hG ?_
   exact zd0 hK [(0,0),(1,1)] h_l1
 refine zc5 ?_
 obtain rfl:=Option.some.inj h_l1
 have hx:=hx_l1 _ rfl
 subst hx
 try dsimp only at h
 exact zc8 hK [(0,1)] g1.2 (by exact h)
attribute [local irreducible] zl6
noncomputable def zw6 (a0:Queue) (a1:Proc):Option (Queue×Proc) :=
 (zl6 a0.converts a1).bind fun v1 =>
 some ({ a0 with converts:=v1.1 },a1)
attribute [local irreducible] zw6
noncomputable def zw7 (a0:Queue) (a1:Proc):Option (Queue×Proc) :=
 (zl6 a0.waits a1).bind fun v1 =>
 some ({ a0 with waits:=v1.1 },a1)
attribute [local irreducible] zw7
noncomputable def zar0  (j1:Queue×Proc):Option (Queue×(List Hold)×Int×Queue×Proc) :=
 (zd7 j1.1).bind fun v1 =>
 some ({ v1.2 with gen:=(zm0 v1.2.gen) },v1.1,0,{ v1.2 with gen:=(zm0 v1.2.gen) },j1.2)
@[go_sem] def zeK0  (j1:Queue×Proc):St:=⟨[(0,.ptr 0 0 0),(4,.ptr 3 0 0)],[(0,⟨false,8,(Queue.enc Queue.zero),[Queue.enc j1.1]⟩),(1,⟨false,1,[A.any],[[.clo 105 [.ptr 0 0 0,.ptr 2 0 0]],[.clo 107 [.ptr 0 0 0,.ptr 2 0 0]],[.clo 109 [.ptr 0 0 0,.ptr 2 0 0]]]⟩),(2,⟨false,3,(Proc.enc Proc.zero),[Proc.enc j1.2]⟩),(3,⟨false,8,(Queue.enc Queue.zero),[Queue.enc Queue.zero]⟩)],4⟩
noncomputable def zy5 (a0:Queue) (a1:Proc):Option (Queue×(List Hold)×Int×Queue×Proc) :=
 gd (0≤0∧0 < (3:Int)) <|
 (zw4 a0 a1).bind fun v2 =>
 gd (0≤1∧1 < (3:Int)) <|
 (zw6 v2.1 v2.2).bind fun v3 =>
 gd (0≤2∧2 < (3:Int)) <|
 (zw7 v3.1 v3.2).bind fun v4 =>
 zar0 (v4.1,v4.2)
attribute [local irreducible] zy5
end Ab
end Go.Proofs.YtfjeceicgfdmjaaGreatDoor
