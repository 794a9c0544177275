/-
  Functions of the program,as Lean functions; what the program's code computes is what they say.
-/
import Derived.Test.YtfjeceicgfdmjaaGreatDoorFn3
namespace Go.Proofs.YtfjeceicgfdmjaaGreatDoor
namespace Ab
set_option linter.unusedSimpArgs false
set_option linter.unusedVariables false
set_option maxRecDepth 100000
set_option maxHeartbeats 1000000
attribute [local irreducible] zf3 zd1 zj4 zv1 zv2 zg6 ze1 zo1 zv3 zs1 zn4 zj5 ze0 zg7 zf4 zg8 zl9 zh2 zm5 zk0 zg9 ze5 zm9 zf8 zo2 zp5 zi1 zi8 zj8 zj6 zh5 zh0 zc8 zc6 zo3 zq7 zb7 zc0 zh1 zo4 zk1 zk2 zr8 zw5 zc9 zc2 zj7 zj9 zl3 zF5 zq9 zk3 ze3 zm1 zr0 zk4 zk5 zr1 zf5 zl4 zt0 zm2 zm3 zk6 zi4 zu0 zP0 zR4 zo5 zi9 zo6 zn0 zr2 zv4 zo7 zx1 zs7 zx2 zl5 zk8 zt3 zo8 zt4 zl6 zi6 zt5
noncomputable def zQ0  (j1:(List Proc)):Option ((List Proc)) :=
 (zi6 j1).bind fun v1 =>
 some v1
@[go_sem] def zem0  (j1:(List Proc)):St:=⟨[(3,.own 0 0 j1.length)],[(0,⟨false,3,(Proc.enc Proc.zero),j1.map Proc.enc⟩)],1⟩
noncomputable def zG8 (a0:List Queue) (g1:Int×(List Proc)):Option ((Int×(List Proc))⊕(((List Proc)))) :=
 (if (decide (g1.1 < (a0.length:Int)))=true then
  gd (0≤g1.1∧g1.1 < (a0.length:Int)) <|
  (zt5 (a0.getD g1.1.toNat Queue.zero)).bind fun v2 =>
  gd (g1.2.length+v2.length≤4294967296) <|
  some (.inl ((IntKind.i64.wrap (g1.1+1)),(g1.2++v2)))
 else
  some (.inr g1.2))
@[go_sem] def zem1 (a0:List Queue) (g1:Int×(List Proc)):St:=⟨[(0,.sl (a0.map Queue.enc)),(3,.own 0 0 g1.2.length),(4,.int .i64 g1.1)],[(0,⟨false,3,(Proc.enc Proc.zero),g1.2.map Proc.enc⟩)],1⟩
noncomputable def zo9 (a0:List Queue):Option ((List Proc)) :=
 (zc1 (zG8 a0) (0,[])).bind (fun z=>zQ0 z)
theorem zag5 (a0:List Queue) (r:(List Proc)) (h:zo9 a0=some r):PFn C 37 [.sl (a0.map Queue.enc)] (.sl (r.map Proc.enc)):=by
 refine za8 zeC2 rfl fun E hG hN hK=>?_
 unfold zdt8
 unfold zo9 at h
 refine za0 (za1 hG ?_)
 refine za0 (za1 hG ?_)
 refine za0 (za0 (za1 hG ?_))
 refine zb5 (zem0) (fun v=>zQ0 v=some r) ?_ ?_
 · intro j1 h
   unfold zQ0 at h
   refine g_st ?_
   refine za0 (za1 hG ?_)
   obtain ⟨v1,hv1,h⟩:=za3 h
   refine za6 (fun hg=>zag4 j1 _ (hv1)) ?_
   refine za7 ?_
   exact zb0 h
 refine zd8 (zem1 a0) hK [(0,0)] h (fun x_l1 h g1 y_l1 h_l1 hx_l1=>?_)
 unfold zG8 at h_l1
 refine g_st ?_
 refine za0 (za0 (za1 hG ?_))
 refine za4 rfl hG h_l1 (fun _ h_l1=>?_) (fun _ h_l1=>?_)
 · refine za5 ?_
   refine za0 (zb6 ?_)
   obtain ⟨hb1,h_l1⟩:=za2 h_l1
   refine za1 hG ?_
   obtain ⟨v2,hv2,h_l1⟩:=za3 h_l1
   obtain ⟨hb2,h_l1⟩:=za2 h_l1
   refine za6 (fun hg=>zbb6 (a0.getD g1.1.toNat Queue.zero) _ (hv2)) ?_
   refine za1 hG ?_
   exact zc7 hK [(0,1)] h_l1
 refine zc3 ?_
 obtain rfl:=Option.some.inj h_l1
 have hx:=hx_l1 _ rfl
 subst hx
 try dsimp only at h
 exact zc5 hK [(0,0)] g1.2 (by exact h)
attribute [local irreducible] zo9
noncomputable def zk9 (a0:List Queue):Option (Bool) :=
 (zt3 a0).bind fun v1 =>
 ((if v1=true then zo9 a0 else some ([]))).bind fun v2 =>
 some (v1&&(decide ((v2.length:Int)≤8)))
theorem zV1 (a0:List Queue) (r:Bool) (h:zk9 a0=some r):PFn C 38 [.sl (a0.map Queue.enc)] (.bool r):=by
 refine za8 zeC3 rfl fun E hG hN hK=>?_
 unfold zdu1
 unfold zk9 at h
 refine za0 (za1 hG ?_)
 refine za0 (za1 hG ?_)
 obtain ⟨v1,hv1,h⟩:=za3 h
 refine za6 (fun hg=>zbb4 a0 _ (hv1)) ?_
 obtain ⟨v2,hv2,h⟩:=za3 h
 refine za6 (fun hg=>zag5 a0 _ (zz6 hg hv2)) ?_
 refine za7 ?_
 exact zb0 h
attribute [local irreducible] zk9
noncomputable def zac4  (j1:Unit):Option (Int) :=
 some (-1)
@[go_sem] def zem2  (j1:Unit):St:=⟨[],[],0⟩
noncomputable def zS0 (a0:List Queue) (a1:ByteArray) (g1:Int):Option ((Int)⊕((Unit)⊕(Int))) :=
 (if (decide (g1 < (a0.length:Int)))=true then
  gd (0≤g1∧g1 < (a0.length:Int)) <|
  (if ((((a0.getD g1.toNat Queue.zero).resource).name).toList == a1.toList)=true then
   some (.inr (.inr g1))
  else
   some (.inl (IntKind.i64.wrap (g1+1))))
 else
  some (.inr (.inl ())))
@[go_sem] def zem3 (a0:List Queue) (a1:ByteArray) (g1:Int):St:=⟨[(0,.sl (a0.map Queue.enc)),(1,.str a1),(5,.int .i64 g1)],[],0⟩
noncomputable def zu1 (a0:List Queue) (a1:ByteArray):Option (Int) :=
 (zc1 (zS0 a0 a1) 0).bind (fun | .inl z=>zac4 z | .inr z=>some z)
theorem zal0 (a0:List Queue) (a1:ByteArray) (r:Int) (h:zu1 a0 a1=some r):PFn C 27 [.sl (a0.map Queue.enc),.str a1] (.int .i64 r):=by
 refine za8 zeC4 rfl fun E hG hN hK=>?_
 unfold zdu9
 unfold zu1 at h
 refine za0 (za1 hG ?_)
 refine za0 (za0 (za1 hG ?_))
 refine zb5 (zem2) (fun v=>zac4 v=some r) ?_ ?_
 · intro j1 h
   unfold zac4 at h
   refine g_st ?_
   refine za0 (za1 hG ?_)
   refine za7 ?_
   exact zb0 h
 refine zd8 (zem3 a0 a1) hK [] h (fun x_l1 h g1 y_l1 h_l1 hx_l1=>?_)
 unfold zS0 at h_l1
 refine g_st ?_
 refine za0 (za0 (za1 hG ?_))
 refine za4 rfl hG h_l1 (fun _ h_l1=>?_) (fun _ h_l1=>?_)
 · refine za5 ?_
   refine za0 (zb6 (za0 ?_))
   obtain ⟨hb1,h_l1⟩:=za2 h_l1
   refine za1 hG ?_
   refine za4 rfl hG h_l1 (fun _ h_l1=>?_) (fun _ h_l1=>?_)
   · refine za0 (za1 hG ?_)
     refine za7 ?_
     obtain rfl:=Option.some.inj h_l1
     have hx:=hx_l1 _ rfl
     subst hx
     try dsimp only at h
     exact zb0 h
   refine za5 ?_
   refine za1 hG ?_
   exact zc7 hK [] h_l1
 refine zc3 ?_
 obtain rfl:=Option.some.inj h_l1
 have hx:=hx_l1 _ rfl
 subst hx
 try dsimp only at h
 exact zc5 hK [] () (by exact h)
attribute [local irreducible] zu1
noncomputable def zl7 (a0:Queue) (a1:Proc):Option (Amount×Bool) :=
 (zn0 a0.converts a1).bind fun v1 =>
 (if (decide (0≤v1))=true then
  gd (0≤v1∧v1 < (a0.converts.length:Int)) <|
  some ((a0.converts.getD v1.toNat Wait.zero).amount,true)
 else
  (zn0 a0.waits a1).bind fun v2 =>
  (if (decide (0≤v2))=true then
   gd (0≤v2∧v2 < (a0.waits.length:Int)) <|
   some ((a0.waits.getD v2.toNat Wait.zero).amount,true)
  else
   some ({ Amount.zero with  },false)))
theorem zac5 (a0:Queue) (a1:Proc) (r:Amount×Bool) (h:zl7 a0 a1=some r):PFn C 99 [.agg (Queue.enc a0),.agg (Proc.enc a1)] (.tup [.agg (Amount.enc r.1),.bool r.2]):=by
 refine za8 zeC5 rfl fun E hG hN hK=>?_
 unfold zdv8
 unfold zl7 at h
 refine za0 (za1 hG ?_)
 refine za0 (za0 (za1 hG ?_))
 obtain ⟨v1,hv1,h⟩:=za3 h
 refine za6 (fun hg=>zR5 a0.converts a1 _ (hv1)) ?_
 refine za0 (za1 hG ?_)
 refine za4 rfl hG h (fun _ h=>?_) (fun _ h=>?_)
 · refine za0 ?_
   obtain ⟨hb1,h⟩:=za2 h
   refine za1 hG ?_
   refine za7 ?_
   exact zb0 h
 refine za5 ?_
 refine za0 (za0 (za1 hG ?_))
 obtain ⟨v2,hv2,h⟩:=za3 h
 refine za6 (fun hg=>zR5 a0.waits a1 _ (hv2)) ?_
 refine za0 (za1 hG ?_)
 refine za4 rfl hG h (fun _ h=>?_) (fun _ h=>?_)
 · refine za0 ?_
   obtain ⟨hb2,h⟩:=za2 h
   refine za1 hG ?_
   refine za7 ?_
   exact zb0 h
 refine za5 ?_
 refine za0 (za1 hG ?_)
 refine za7 ?_
 exact zb0 h
attribute [local irreducible] zl7
noncomputable def zu2 (a0:Queue):Option (Queue) :=
 gd (a0.holds.length≤4294967296) <|
 gd (a0.converts.length≤4294967296) <|
 gd (a0.waits.length≤4294967296) <|
 some a0
theorem zaM9 (a0:Queue) (r:Queue) (h:zu2 a0=some r):MFn C 100 [.agg (Queue.enc a0)] [] 0 (.agg [.str r.resource.name,.int .i64 r.resource.kind,.int .i64 r.resource.units,.int .i64 r.resource.home,.own 0 0 r.holds.length,.own 1 0 r.converts.length,.own 2 0 r.waits.length,.int .i64 r.gen]) [(0,⟨false,5,(Hold.enc Hold.zero),r.holds.map Hold.enc⟩),(1,⟨false,7,(Wait.enc Wait.zero),r.converts.map Wait.enc⟩),(2,⟨false,7,(Wait.enc Wait.zero),r.waits.map Wait.enc⟩)] 3:=by
 refine zn3 (rl:=[.agg [.str r.resource.name,.int .i64 r.resource.kind,.int .i64 r.resource.units,.int .i64 r.resource.home,.own 0 0 r.holds.length,.own 1 0 r.converts.length,.own 2 0 r.waits.length,.int .i64 r.gen]]) zeC6 rfl rfl rfl rfl fun E hG hN hK=>?_
 unfold zdw4
 unfold zu2 at h
 refine za0 (za1 hG ?_)
 refine za0 ?_
 obtain ⟨hb3,h⟩:=za2 h
 refine za1 hG ?_
 refine za0 ?_
 obtain ⟨hb2,h⟩:=za2 h
 refine za1 hG ?_
 refine za0 ?_
 obtain ⟨hb1,h⟩:=za2 h
 refine za1 hG ?_
 refine za0 (za1 hG ?_)
 refine za7 ?_
 exact zA5 [(0,3),(1,5),(2,7)] h
attribute [local irreducible] zu2
noncomputable def zp6 (a0:Queue) (a1:Proc):Option (Amount) :=
 (zv4 a0.holds a1).bind fun v1 =>
 some v1
theorem zal1 (a0:Queue) (a1:Proc) (r:Amount) (h:zp6 a0 a1=some r):PFn C 31 [.agg (Queue.enc a0),.agg (Proc.enc a1)] (.agg (Amount.enc r)):=by
 refine za8 zeC7 rfl fun E hG hN hK=>?_
 unfold zdw7
 unfold zp6 at h
 refine za0 (za1 hG ?_)
 refine za0 (za1 hG ?_)
 obtain ⟨v1,hv1,h⟩:=za3 h
 refine za6 (fun hg=>zaq9 a0.holds a1 _ (hv1)) ?_
 refine za7 ?_
 exact zb0 h
attribute [local irreducible] zp6
noncomputable def zag6  (j1:Unit):Option (Int) :=
 some 0
@[go_sem] def zem4  (j1:Unit):St:=⟨[],[],0⟩
noncomputable def zV2 (a0:Int) (a1:Int) (g1:Int):Option ((Int)⊕((Unit)⊕(Int))) :=
 (if (decide (g1≤5))=true then
  (if ((zy2 g1 a0)&&(zy2 g1 a1))=true then
   some (.inr (.inr g1))
  else
   some (.inl (IntKind.i64.wrap (g1+1))))
 else
  some (.inr (.inl ())))
@[go_sem] def zem5 (a0:Int) (a1:Int) (g1:Int):St:=⟨[(0,.int .i64 a0),(1,.int .i64 a1),(5,.int .i64 g1)],[],0⟩
noncomputable def zH4 (a0:Int) (a1:Int):Option (Int) :=
 (zc1 (zV2 a0 a1) 1).bind (fun | .inl z=>zag6 z | .inr z=>some z)
theorem zbq5 (a0:Int) (a1:Int) (r:Int) (h:zH4 a0 a1=some r):PFn C 147 [.int .i64 a0,.int .i64 a1] (.int .i64 r):=by
 refine za8 zeC8 rfl fun E hG hN hK=>?_
 unfold zdx5
 unfold zH4 at h
 refine za0 (za1 hG ?_)
 refine za0 (za0 (za1 hG ?_))
 refine zb5 (zem4) (fun v=>zag6 v=some r) ?_ ?_
 · intro j1 h
   unfold zag6 at h
   refine g_st ?_
   refine za0 (za1 hG ?_)
   refine za7 ?_
   exact zb0 h
 refine zd8 (zem5 a0 a1) hK [] h (fun x_l1 h g1 y_l1 h_l1 hx_l1=>?_)
 unfold zV2 at h_l1
 refine g_st ?_
 refine za0 (za0 (za1 hG ?_))
 refine za4 rfl hG h_l1 (fun _ h_l1=>?_) (fun _ h_l1=>?_)
 · refine za5 ?_
   refine za0 (zb6 (za0 (za1 hG ?_)))
   refine za6 (fun hg=>zac3 g1 a0) ?_
   refine za6 (fun hg=>zac3 g1 a1) ?_
   refine za4 rfl hG h_l1 (fun _ h_l1=>?_) (fun _ h_l1=>?_)
   · refine za0 (za1 hG ?_)
     refine za7 ?_
     obtain rfl:=Option.some.inj h_l1
     have hx:=hx_l1 _ rfl
     subst hx
     try dsimp only at h
     exact zb0 h
   refine za5 ?_
   refine za1 hG ?_
   exact zc7 hK [] h_l1
 refine zc3 ?_
 obtain rfl:=Option.some.inj h_l1
 have hx:=hx_l1 _ rfl
 subst hx
 try dsimp only at h
 exact zc5 hK [] () (by exact h)
attribute [local irreducible] zH4
noncomputable def zA7 (a0:Resource) (a1:Amount) (a2:Amount):Option (Amount) :=
 (if ((!(zf2 a0 a1))||(!(zf2 a0 a2)))=true then
  some ({ Amount.zero with  })
 else
  (if (zf9 a0 a1 a2)=true then
   some a1
  else
   (if (zf9 a0 a2 a1)=true then
    some a2
   else
    (zH4 a1.mode a2.mode).bind fun v1 =>
    some ({ Amount.zero with mode:=v1 }))))
theorem zbh9 (a0:Resource) (a1:Amount) (a2:Amount) (r:Amount) (h:zA7 a0 a1 a2=some r):PFn C 102 [.agg (Resource.enc a0),.agg (Amount.enc a1),.agg (Amount.enc a2)] (.agg (Amount.enc r)):=by
 refine za8 zeC9 rfl fun E hG hN hK=>?_
 unfold zdy4
 unfold zA7 at h
 refine za0 (za1 hG ?_)
 refine za0 (za0 (za1 hG ?_))
 refine za6 (fun hg=>zC5 a0 a1) ?_
 refine za6 (fun hg=>zC5 a0 a2) ?_
 refine za4 rfl hG h (fun _ h=>?_) (fun _ h=>?_)
 · refine za0 (za1 hG ?_)
   refine za7 ?_
   exact zb0 h
 refine za5 ?_
 refine za0 (za0 (za1 hG ?_))
 refine za6 (fun hg=>zJ7 a0 a1 a2) ?_
 refine za4 rfl hG h (fun _ h=>?_) (fun _ h=>?_)
 · refine za0 (za1 hG ?_)
   refine za7 ?_
   exact zb0 h
 refine za5 ?_
 refine za0 (za0 (za1 hG ?_))
 refine za6 (fun hg=>zJ7 a0 a2 a1) ?_
 refine za4 rfl hG h (fun _ h=>?_) (fun _ h=>?_)
 · refine za0 (za1 hG ?_)
   refine za7 ?_
   exact zb0 h
 refine za5 ?_
 refine za0 (za1 hG ?_)
 obtain ⟨v1,hv1,h⟩:=za3 h
 refine za6 (fun hg=>zbq5 a1.mode a2.mode _ (hv1)) ?_
 refine za7 ?_
 exact zb0 h
attribute [local irreducible] zA7
noncomputable def zr9 (a0:Queue):Option (Queue) :=
 gd (a0.holds.length≤4294967296) <|
 gd (a0.converts.length≤4294967296) <|
 gd (a0.waits.length≤4294967296) <|
 some a0
theorem zal2 (a0:Queue) (r:Queue) (h:zr9 a0=some r):PFn C 100 [.agg (Queue.enc a0)] (.agg (Queue.enc r)):=by
 refine za8 zeD0 rfl fun E hG hN hK=>?_
 unfold zdz0
 unfold zr9 at h
 refine za0 (za1 hG ?_)
 refine za0 ?_
 obtain ⟨hb3,h⟩:=za2 h
 refine za1 hG ?_
 refine za0 ?_
 obtain ⟨hb2,h⟩:=za2 h
 refine za1 hG ?_
 refine za0 ?_
 obtain ⟨hb1,h⟩:=za2 h
 refine za1 hG ?_
 refine za0 (za1 hG ?_)
 refine za7 ?_
 exact zb0 h
attribute [local irreducible] zr9
noncomputable def zS7  (j1:Queue×(List Hold)):Option (Queue×(List Hold)) :=
 some (j1.1,j1.2)
@[go_sem] def zem6  (j1:Queue×(List Hold)):St:=⟨[(1,.ptr 0 0 0),(2,.ptr 1 0 0),(4,.own 2 0 j1.2.length)],[(0,⟨false,8,(Queue.enc Queue.zero),[Queue.enc j1.1]⟩),(1,⟨false,8,(Queue.enc Queue.zero),[Queue.enc Queue.zero]⟩),(2,⟨false,5,(Hold.enc Hold.zero),j1.2.map Hold.enc⟩)],3⟩
noncomputable def zw6 (g1:Queue×(List Hold)) (v4:Wait×Bool) (j2:Queue):Option ((Queue×(List Hold))⊕((Queue×(List Hold)))) :=
 (zs7 j2.holds v4.1.proc v4.1.amount).bind fun v5 =>
 gd (g1.2.length+1≤4294967296) <|
 some (.inl ({ j2 with holds:=v5 },(g1.2++[(⟨v4.1.proc,v4.1.amount⟩:Hold)])))
@[go_sem] def zem7 (g1:Queue×(List Hold)) (v4:Wait×Bool) (j2:Queue):St:=⟨[(1,.ptr 0 0 0),(2,.ptr 1 0 0),(4,.own 2 0 g1.2.length),(5,.ptr 3 0 0)],[(0,⟨false,8,(Queue.enc Queue.zero),[Queue.enc j2]⟩),(1,⟨false,8,(Queue.enc Queue.zero),[Queue.enc Queue.zero]⟩),(2,⟨false,5,(Hold.enc Hold.zero),g1.2.map Hold.enc⟩),(3,⟨false,7,(Wait.enc Wait.zero),[Wait.enc v4.1]⟩)],4⟩
noncomputable def zC7  (g1:Queue×(List Hold)):Option ((Queue×(List Hold))⊕((Queue×(List Hold)))) :=
 (zl5 g1.1).bind fun v3 =>
 (if (!v3)=true then
  (zx1 g1.1).bind fun v4 =>
  (if (decide (0 < (g1.1.converts.length:Int)))=true then
   gd (0≤1∧1≤(g1.1.converts.length:Int)∧(g1.1.converts.length:Int)≤(g1.1.converts.length:Int)) <|
   zw6 g1 v4 ({ g1.1 with converts:=(g1.1.converts.drop 1) })
  else
   gd (0≤1∧1≤(g1.1.waits.length:Int)∧(g1.1.waits.length:Int)≤(g1.1.waits.length:Int)) <|
   zw6 g1 v4 ({ g1.1 with waits:=(g1.1.waits.drop 1) }))
 else
  some (.inr (g1.1,g1.2)))
@[go_sem] def zem8  (g1:Queue×(List Hold)):St:=⟨[(1,.ptr 0 0 0),(2,.ptr 1 0 0),(4,.own 2 0 g1.2.length)],[(0,⟨false,8,(Queue.enc Queue.zero),[Queue.enc g1.1]⟩),(1,⟨false,8,(Queue.enc Queue.zero),[Queue.enc Queue.zero]⟩),(2,⟨false,5,(Hold.enc Hold.zero),g1.2.map Hold.enc⟩)],3⟩
noncomputable def zs0 (a0:Queue):Option (Queue×(List Hold)) :=
 (zo7 a0).bind fun v1 =>
 (if (!v1)=true then
  some ({ Queue.zero with  },[])
 else
  (zr9 a0).bind fun v2 =>
  (zc1 (zC7) (v2,[])).bind (fun z=>zS7 z))
theorem zaN0 (a0:Queue) (r:Queue×(List Hold)) (h:zs0 a0=some r):PFn C 148 [.agg (Queue.enc a0)] (.tup [.agg (Queue.enc r.1),.sl (r.2.map Hold.enc)]):=by
 refine za8 zeD1 rfl fun E hG hN hK=>?_
 unfold zdA1
 unfold zs0 at h
 refine za0 (za1 hG ?_)
 refine za0 (za0 (za1 hG ?_))
 obtain ⟨v1,hv1,h⟩:=za3 h
 refine za6 (fun hg=>zag3 a0 _ (hv1)) ?_
 refine za4 rfl hG h (fun _ h=>?_) (fun _ h=>?_)
 · refine za0 (za1 hG ?_)
   refine za7 ?_
   exact zb0 h
 refine za5 ?_
 refine za0 (za1 hG ?_)
 obtain ⟨v2,hv2,h⟩:=za3 h
 refine za6 (fun hg=>zal2 a0 _ (hv2)) ?_
 refine za0 (za1 hG ?_)
 refine za0 ?_
 refine zb5 (zem6) (fun v=>zS7 v=some r) ?_ ?_
 · intro j1 h
   unfold zS7 at h
   refine g_st ?_
   refine za0 (za1 hG ?_)
   refine za7 ?_
   exact zb0 h
 refine zd8 (zem8) hK [(0,0),(1,1),(2,2)] h (fun x_l1 h g1 y_l1 h_l1 hx_l1=>?_)
 unfold zC7 at h_l1
 refine g_st ?_
 refine za0 (za0 (za1 hG ?_))
 obtain ⟨v3,hv3,h_l1⟩:=za3 h_l1
 refine za6 (fun hg=>zao0 g1.1 _ (hv3)) ?_
 refine za4 rfl hG h_l1 (fun _ h_l1=>?_) (fun _ h_l1=>?_)
 · refine za5 ?_
   refine zb6 (za0 (za1 hG ?_))
   obtain ⟨v4,hv4,h_l1⟩:=za3 h_l1
   refine za6 (fun hg=>zaC2 g1.1 _ (hv4)) ?_
   refine za0 (za0 (za1 hG ?_))
   refine zaV7 (zem7 g1 v4) (fun v=>zw6 g1 v4 v=some y_l1) rfl hG h_l1 ?_ (fun _ h_l1=>?_) (fun _ h_l1=>?_)
   · intro j2 h_l1
     unfold zw6 at h_l1
     refine g_st ?_
     refine za0 (za1 hG ?_)
     obtain ⟨v5,hv5,h_l1⟩:=za3 h_l1
     refine za6 (fun hg=>zar0 j2.holds v4.1.proc v4.1.amount _ (hv5)) ?_
     obtain ⟨hb1,h_l1⟩:=za2 h_l1
     refine za1 hG ?_
     exact zc7 hK [(0,0),(1,1),(2,4)] h_l1
   · obtain ⟨hb2,h_l1⟩:=za2 h_l1
     refine za1 hG ?_
     exact zc5 hK [(0,0),(1,1),(2,2),(3,3)] ({ g1.1 with converts:=(g1.1.converts.drop 1) }) (by exact h_l1)
   obtain ⟨hb3,h_l1⟩:=za2 h_l1
   refine za1 hG ?_
   exact zc5 hK [(0,0),(1,1),(2,2),(3,3)] ({ g1.1 with waits:=(g1.1.waits.drop 1) }) (by exact h_l1)
 refine zc3 ?_
 obtain rfl:=Option.some.inj h_l1
 have hx:=hx_l1 _ rfl
 subst hx
 try dsimp only at h
 exact zc5 hK [(0,0),(1,1),(2,2)] (g1.1,g1.2) (by exact h)
attribute [local irreducible] zs0
def zV3 (a0:Int):Int :=
 (if ((decide (a0 < 0))||(decide (1073741824≤a0)))=true then
  1
 else
  (IntKind.i64.wrap (a0+1)))
theorem zbi0 (a0:Int):PFn C 149 [.int .i64 a0] (.int .i64 (zV3 a0)):=by
 generalize h:zV3 a0=r
 refine za8 zeD2 rfl fun E hG hN hK=>?_
 unfold zdA6
 unfold zV3 at h
 refine za0 (za1 hG ?_)
 refine za0 (za0 (za1 hG ?_))
 refine za4 rfl hG h (fun _ h=>?_) (fun _ h=>?_)
 · refine za0 (za1 hG ?_)
   refine za7 ?_
   exact zf1 h
 refine za5 ?_
 refine za0 (za1 hG ?_)
 refine za7 ?_
 exact zf1 h
noncomputable def zi2 (a0:Queue):Option (Queue×(List Hold)×Int) :=
 (zs0 a0).bind fun v1 =>
 some ({ v1.1 with gen:=(zV3 a0.gen) },v1.2,0)
theorem zQ1 (a0:Queue) (r:Queue×(List Hold)×Int) (h:zi2 a0=some r):PFn C 103 [.agg (Queue.enc a0)] (.tup [.agg (Queue.enc r.1),.sl (r.2.1.map Hold.enc),.int .i64 r.2.2]):=by
 refine za8 zeD3 rfl fun E hG hN hK=>?_
 unfold zdB1
 unfold zi2 at h
 refine za0 (za1 hG ?_)
 refine za0 (za1 hG ?_)
 obtain ⟨v1,hv1,h⟩:=za3 h
 refine za6 (fun hg=>zaN0 a0 _ (hv1)) ?_
 refine za0 (za1 hG ?_)
 refine za6 (fun hg=>zbi0 a0.gen) ?_
 refine za0 (za1 hG ?_)
 refine za7 ?_
 exact zb0 h
attribute [local irreducible] zi2
noncomputable def zL0 (j1:Int) (j2:(List Wait)):Option ((List Wait)×Int×Int) :=
 some (j2,j1,0)
@[go_sem] def zem9 (j1:Int) (j2:(List Wait)):St:=⟨[(7,.int .i64 j1),(8,.own 0 0 j2.length)],[(0,⟨false,7,(Wait.enc Wait.zero),j2.map Wait.enc⟩)],1⟩
noncomputable def zE3 (a0:List Wait) (g1:Int×(List Wait)):Option ((Int×(List Wait))⊕(((List Wait)))) :=
 (if (decide (g1.1 < (a0.length:Int)))=true then
  gd (0≤g1.1∧g1.1 < (a0.length:Int)) <|
  gd (g1.2.length+1≤4294967296) <|
  some (.inl ((IntKind.i64.wrap (g1.1+1)),(g1.2++[{ (a0.getD g1.1.toNat Wait.zero) with passed:=(IntKind.i64.wrap ((a0.getD g1.1.toNat Wait.zero).passed+1)) }])))
 else
  some (.inr g1.2))
@[go_sem] def zen0 (a0:List Wait) (j1:Int) (g1:Int×(List Wait)):St:=⟨[(0,.sl (a0.map Wait.enc)),(7,.int .i64 j1),(8,.own 0 0 g1.2.length),(9,.int .i64 g1.1)],[(0,⟨false,7,(Wait.enc Wait.zero),g1.2.map Wait.enc⟩)],1⟩
noncomputable def zL1 (a0:List Wait) (a1:Wait) (j1:Int):Option ((List Wait)×Int×Int) :=
 gd (0≤0∧0≤j1∧j1≤(a0.length:Int)) <|
 gd ((a0.take j1.toNat).length≤4294967296) <|
 gd ((a0.take j1.toNat).length+1≤4294967296) <|
 (zc1 (zE3 a0) (j1,((a0.take j1.toNat)++[a1]))).bind (fun z=>zL0 j1 z)
@[go_sem] def zen1 (a0:List Wait) (a1:Wait) (j1:Int):St:=⟨[(0,.sl (a0.map Wait.enc)),(3,.ptr 0 0 0),(7,.int .i64 j1)],[(0,⟨false,7,(Wait.enc Wait.zero),[Wait.enc a1]⟩)],1⟩
noncomputable def zL2 (a0:List Wait) (a1:Wait) (g2:Int):Option ((Int)⊕((Int))) :=
 gd ((decide (0 < g2))=true→0≤(IntKind.i64.wrap (g2 - 1))∧(IntKind.i64.wrap (g2 - 1)) < (a0.length:Int)) <|
 gd (((decide (0 < g2))&&(decide ((a0.getD ((IntKind.i64.wrap (g2 - 1)).toNat) Wait.zero).priority < a1.priority)))=true→0≤(IntKind.i64.wrap (g2 - 1))∧(IntKind.i64.wrap (g2 - 1)) < (a0.length:Int)) <|
 (if (((decide (0 < g2))&&(decide ((a0.getD ((IntKind.i64.wrap (g2 - 1)).toNat) Wait.zero).priority < a1.priority)))&&(decide ((a0.getD ((IntKind.i64.wrap (g2 - 1)).toNat) Wait.zero).passed < 3)))=true then
  some (.inl (IntKind.i64.wrap (g2 - 1)))
 else
  some (.inr g2))
@[go_sem] def zen2 (a0:List Wait) (a1:Wait) (g2:Int):St:=⟨[(0,.sl (a0.map Wait.enc)),(3,.ptr 0 0 0),(7,.int .i64 g2)],[(0,⟨false,7,(Wait.enc Wait.zero),[Wait.enc a1]⟩)],1⟩
noncomputable def zu3 (a0:List Wait) (a1:Wait):Option ((List Wait)×Int×Int) :=
 (zr2 a0).bind fun v1 =>
 (if (!v1)=true then
  some ([],0,2)
 else
  (if ((!(zi5 a1))||(!decide (a1.passed=0)))=true then
   some ([],0,1)
  else
   (zn0 a0 a1.proc).bind fun v2 =>
   (if (decide (0≤v2))=true then
    some ([],0,11)
   else
    (if (decide ((a0.length:Int)=8))=true then
     some ([],0,4)
    else
     (zc1 (zL2 a0 a1) (a0.length:Int)).bind (fun z=>zL1 a0 a1 z)))))
theorem zaT4 (a0:List Wait) (a1:Wait) (r:(List Wait)×Int×Int) (h:zu3 a0 a1=some r):PFn C 104 [.sl (a0.map Wait.enc),.agg (Wait.enc a1)] (.tup [.sl (r.1.map Wait.enc),.int .i64 r.2.1,.int .i64 r.2.2]):=by
 refine za8 zeD4 rfl fun E hG hN hK=>?_
 unfold zdC2
 unfold zu3 at h
 refine za0 (za1 hG ?_)
 refine za0 (za0 (za1 hG ?_))
 obtain ⟨v1,hv1,h⟩:=za3 h
 refine za6 (fun hg=>zav9 a0 _ (hv1)) ?_
 refine za4 rfl hG h (fun _ h=>?_) (fun _ h=>?_)
 · refine za0 (za1 hG ?_)
   refine za7 ?_
   exact zb0 h
 refine za5 ?_
 refine za0 (za0 (za1 hG ?_))
 refine za6 (fun hg=>zag1 a1) ?_
 refine za4 rfl hG h (fun _ h=>?_) (fun _ h=>?_)
 · refine za0 (za1 hG ?_)
   refine za7 ?_
   exact zb0 h
 refine za5 ?_
 refine za0 (za0 (za1 hG ?_))
 obtain ⟨v2,hv2,h⟩:=za3 h
 refine za6 (fun hg=>zR5 a0 a1.proc _ (hv2)) ?_
 refine za4 rfl hG h (fun _ h=>?_) (fun _ h=>?_)
 · refine za0 (za1 hG ?_)
   refine za7 ?_
   exact zb0 h
 refine za5 ?_
 refine za0 (za0 (za1 hG ?_))
 refine za4 rfl hG h (fun _ h=>?_) (fun _ h=>?_)
 · refine za0 (za1 hG ?_)
   refine za7 ?_
   exact zb0 h
 refine za5 ?_
 refine za0 (za1 hG ?_)
 refine za0 ?_
 refine zb5 (zen1 a0 a1) (fun v=>zL1 a0 a1 v=some r) ?_ ?_
 · intro j1 h
   unfold zL1 at h
   refine g_st ?_
   refine za0 ?_
   obtain ⟨hb3,h⟩:=za2 h
   obtain ⟨hb4,h⟩:=za2 h
   obtain ⟨hb5,h⟩:=za2 h
   refine zG1 zd9 hG ?_
   refine za0 (za0 (za1 hG ?_))
   refine zb5 (zem9 j1) (fun v=>zL0 j1 v=some r) ?_ ?_
   · intro j2 h
     unfold zL0 at h
     refine g_st ?_
     refine za0 (za1 hG ?_)
     refine za7 ?_
     exact zb0 h
   refine zd8 (zen0 a0 j1) hK [(0,3)] h (fun x_l1 h g1 y_l1 h_l1 hx_l1=>?_)
   unfold zE3 at h_l1
   refine g_st ?_
   refine za0 (za0 (za1 hG ?_))
   refine za4 rfl hG h_l1 (fun _ h_l1=>?_) (fun _ h_l1=>?_)
   · refine za5 ?_
     refine za0 (zb6 (za0 ?_))
     obtain ⟨hb2,h_l1⟩:=za2 h_l1
     refine za1 hG ?_
     refine za0 (za1 hG ?_)
     obtain ⟨hb1,h_l1⟩:=za2 h_l1
     refine za1 hG ?_
     refine za1 hG ?_
     exact zc7 hK [(0,2)] h_l1
   refine zc3 ?_
   obtain rfl:=Option.some.inj h_l1
   have hx:=hx_l1 _ rfl
   subst hx
   try dsimp only at h
   exact zc5 hK [(0,0)] g1.2 (by exact h)
 refine zd8 (zen2 a0 a1) hK [(0,0)] h (fun x_l2 h g2 y_l2 h_l2 hx_l2=>?_)
 unfold zL2 at h_l2
 refine g_st ?_
 refine za0 (za0 ?_)
 obtain ⟨hb6,h_l2⟩:=za2 h_l2
 obtain ⟨hb7,h_l2⟩:=za2 h_l2
 refine zp1 zd9 hG ?_
 refine za4 rfl hG h_l2 (fun _ h_l2=>?_) (fun _ h_l2=>?_)
 · refine za5 ?_
   refine zb6 (za1 hG ?_)
   exact zc7 hK [(0,0)] h_l2
 refine zc3 ?_
 obtain rfl:=Option.some.inj h_l2
 have hx:=hx_l2 _ rfl
 subst hx
 try dsimp only at h
 exact zc5 hK [(0,0)] g2 (by exact h)
attribute [local irreducible] zu3
noncomputable def zr3 (a0:Queue) (a1:Proc) (a2:Amount) (a3:Int):Option (Queue×(List Hold)×Int) :=
 (zk8 a0).bind fun v1 =>
 (if (!v1)=true then
  some ({ Queue.zero with  },[],2)
 else
  (if (((!(ze6 a1))||(decide (a3 < 0)))||(decide (7 < a3)))=true then
   some ({ Queue.zero with  },[],1)
  else
   (if (!(zh3 a0.resource a2))=true then
    some ({ Queue.zero with  },[],12)
   else
    (zl7 a0 a1).bind fun v2 =>
    (if v2.2=true then
     some ({ Queue.zero with  },[],14)
    else
     (zu2 a0).bind fun v3 =>
     (zp6 v3 a1).bind fun v4 =>
     (if (zf9 v3.resource v4 a2)=true then
      some (v3,[],0)
     else
      (if (!(zd0 v4))=true then
       (zA7 v3.resource v4 a2).bind fun v5 =>
       gd (v3.converts.length+1≤4294967296) <|
       (zi2 (⟨(⟨v3.resource.name,v3.resource.kind,v3.resource.units,v3.resource.home⟩:Resource),v3.holds,(v3.converts++[{ Wait.zero with proc:=a1,amount:=v5 }]),v3.waits,v3.gen⟩:Queue)).bind fun v6 =>
       some (v6.1,v6.2.1,v6.2.2)
      else
       (if (decide (8≤(IntKind.i64.wrap (((v3.holds.length:Nat):Int)+((v3.waits.length:Nat):Int)))))=true then
        some ({ Queue.zero with  },[],4)
       else
        (zu3 v3.waits ({ Wait.zero with proc:=a1,amount:=a2,priority:=a3 })).bind fun v7 =>
        (if (!decide (v7.2.2=0))=true then
         some ({ Queue.zero with  },[],v7.2.2)
        else
         (zi2 (⟨(⟨v3.resource.name,v3.resource.kind,v3.resource.units,v3.resource.home⟩:Resource),v3.holds,v3.converts,v7.1,v3.gen⟩:Queue)).bind fun v8 =>
         some (v8.1,v8.2.1,v8.2.2)))))))))
theorem zbb7 (a0:Queue) (a1:Proc) (a2:Amount) (a3:Int) (r:Queue×(List Hold)×Int) (h:zr3 a0 a1 a2 a3=some r):PFn C 60 [.agg (Queue.enc a0),.agg (Proc.enc a1),.agg (Amount.enc a2),.int .i64 a3] (.tup [.agg (Queue.enc r.1),.sl (r.2.1.map Hold.enc),.int .i64 r.2.2]):=by
 refine za8 zeD5 rfl fun E hG hN hK=>?_
 unfold zdD3
 unfold zr3 at h
 refine za0 (za1 hG ?_)
 refine za0 (za0 (za1 hG ?_))
 obtain ⟨v1,hv1,h⟩:=za3 h
 refine za6 (fun hg=>zV0 a0 _ (hv1)) ?_
 refine za4 rfl hG h (fun _ h=>?_) (fun _ h=>?_)
 · refine za0 (za1 hG ?_)
   refine za7 ?_
   exact zb0 h
 refine za5 ?_
 refine za0 (za0 (za1 hG ?_))
 refine za6 (fun hg=>zI4 a1) ?_
 refine za4 rfl hG h (fun _ h=>?_) (fun _ h=>?_)
 · refine za0 (za1 hG ?_)
   refine za7 ?_
   exact zb0 h
 refine za5 ?_
 refine za0 (za0 (za1 hG ?_))
 refine za6 (fun hg=>zK1 a0.resource a2) ?_
 refine za4 rfl hG h (fun _ h=>?_) (fun _ h=>?_)
 · refine za0 (za1 hG ?_)
   refine za7 ?_
   exact zb0 h
 refine za5 ?_
 refine za0 (za0 (za1 hG ?_))
 obtain ⟨v2,hv2,h⟩:=za3 h
 refine za6 (fun hg=>zac5 a0 a1 _ (hv2)) ?_
 refine za0 (za1 hG ?_)
 refine za4 rfl hG h (fun _ h=>?_) (fun _ h=>?_)
 · refine za0 (za1 hG ?_)
   refine za7 ?_
   exact zb0 h
 refine za5 ?_
 refine za0 (za1 hG ?_)
 obtain ⟨v3,hv3,h⟩:=za3 h
 refine zq0 [] [(0,5),(1,6),(2,7)] [0,1,2] (zaM9 a0 _ hv3) rfl rfl ?_
 refine za0 (za1 hG ?_)
 obtain ⟨v4,hv4,h⟩:=za3 h
 refine za6 (fun hg=>zal1 v3 a1 _ (hv4)) ?_
 refine za0 (za0 (za1 hG ?_))
 refine za6 (fun hg=>zJ7 v3.resource v4 a2) ?_
 refine za4 rfl hG h (fun _ h=>?_) (fun _ h=>?_)
 · refine za0 (za1 hG ?_)
   refine za7 ?_
   exact zb0 h
 refine za5 ?_
 refine za0 (za0 (za1 hG ?_))
 refine za6 (fun hg=>zt2 v4) ?_
 refine za4 rfl hG h (fun _ h=>?_) (fun _ h=>?_)
 · refine za0 (zG1 zd9 hG ?_)
   obtain ⟨v5,hv5,h⟩:=za3 h
   obtain ⟨hb1,h⟩:=za2 h
   refine zD9 (fun hg=>zbh9 v3.resource v4 a2 _ (hv5)) ?_
   refine za0 (za1 hG ?_)
   obtain ⟨v6,hv6,h⟩:=za3 h
   have hc_v6:=zQ1 (⟨(⟨v3.resource.name,v3.resource.kind,v3.resource.units,v3.resource.home⟩:Resource),v3.holds,(v3.converts++[{ Wait.zero with proc:=a1,amount:=v5 }]),v3.waits,v3.gen⟩:Queue) _ (hv6)
   have el_v6:∀ x:Queue,Queue.enc x=[A.str x.resource.name,A.int .i64 x.resource.kind,A.int .i64 x.resource.units,A.int .i64 x.resource.home,A.sl (x.holds.map Hold.enc),A.sl (x.converts.map Wait.enc),A.sl (x.waits.map Wait.enc),A.int .i64 x.gen]:=fun x=>rfl
   rw [el_v6] at hc_v6
   dsimp only at hc_v6
   refine za6 (fun hg=>by exact hc_v6) ?_
   refine za7 ?_
   exact zb0 h
 refine za5 ?_
 refine za0 (za0 (za1 hG ?_))
 refine za4 rfl hG h (fun _ h=>?_) (fun _ h=>?_)
 · refine za0 (za1 hG ?_)
   refine za7 ?_
   exact zb0 h
 refine za5 ?_
 refine za0 (za1 hG ?_)
 obtain ⟨v7,hv7,h⟩:=za3 h
 refine za6 (fun hg=>zaT4 v3.waits ({ Wait.zero with proc:=a1,amount:=a2,priority:=a3 }) _ (hv7)) ?_
 refine za0 (za0 (za1 hG ?_))
 refine za4 rfl hG h (fun _ h=>?_) (fun _ h=>?_)
 · refine za0 (za1 hG ?_)
   refine za7 ?_
   exact zb0 h
 refine za5 ?_
 refine za0 (za1 hG ?_)
 refine za0 (za1 hG ?_)
 obtain ⟨v8,hv8,h⟩:=za3 h
 have hc_v8:=zQ1 (⟨(⟨v3.resource.name,v3.resource.kind,v3.resource.units,v3.resource.home⟩:Resource),v3.holds,v3.converts,v7.1,v3.gen⟩:Queue) _ (hv8)
 have el_v8:∀ x:Queue,Queue.enc x=[A.str x.resource.name,A.int .i64 x.resource.kind,A.int .i64 x.resource.units,A.int .i64 x.resource.home,A.sl (x.holds.map Hold.enc),A.sl (x.converts.map Wait.enc),A.sl (x.waits.map Wait.enc),A.int .i64 x.gen]:=fun x=>rfl
 rw [el_v8] at hc_v8
 dsimp only at hc_v8
 refine za6 (fun hg=>by exact hc_v8) ?_
 refine za7 ?_
 exact zb0 h
attribute [local irreducible] zr3
noncomputable def zi3 (a0:List Queue) (a1:Int) (a2:Queue):Option ((List Queue)) :=
 gd (a0.length≤4294967296) <|
 gd (0≤a1∧a1 < ((a0.length:Nat):Int)) <|
 some (a0.set a1.toNat a2)
theorem zY6 (a0:List Queue) (a1:Int) (a2:Queue) (r:(List Queue)) (h:zi3 a0 a1 a2=some r):PFn C 61 [.sl (a0.map Queue.enc),.int .i64 a1,.agg (Queue.enc a2)] (.sl (r.map Queue.enc)):=by
 refine za8 zeD6 rfl fun E hG hN hK=>?_
 unfold zdD8
 unfold zi3 at h
 refine za0 (za1 hG ?_)
 refine za0 ?_
 obtain ⟨hb2,h⟩:=za2 h
 refine za1 hG ?_
 refine za0 ?_
 obtain ⟨hb1,h⟩:=za2 h
 refine za1 hG ?_
 refine za0 (za1 hG ?_)
 refine za7 ?_
 exact zb0 h
attribute [local irreducible] zi3
noncomputable def zV4  (j1:(List Event)):Option ((List Event)) :=
 some j1
@[go_sem] def zen3  (j1:(List Event)):St:=⟨[(5,.own 0 0 j1.length)],[(0,⟨false,7,(Event.enc Event.zero),j1.map Event.enc⟩)],1⟩
noncomputable def zL3 (a0:ByteArray) (a1:List Hold) (g1:Int×(List Event)):Option ((Int×(List Event))⊕(((List Event)))) :=
 (if (decide (g1.1 < (a1.length:Int)))=true then
  gd (0≤g1.1∧g1.1 < (a1.length:Int)) <|
  gd (0≤g1.1∧g1.1 < (a1.length:Int)) <|
  gd (g1.2.length+1≤4294967296) <|
  some (.inl ((IntKind.i64.wrap (g1.1+1)),(g1.2++[(⟨1,(a1.getD g1.1.toNat Hold.zero).proc,a0,(a1.getD g1.1.toNat Hold.zero).amount⟩:Event)])))
 else
  some (.inr g1.2))
@[go_sem] def zen4 (a0:ByteArray) (a1:List Hold) (g1:Int×(List Event)):St:=⟨[(0,.str a0),(1,.sl (a1.map Hold.enc)),(5,.own 0 0 g1.2.length),(6,.int .i64 g1.1)],[(0,⟨false,7,(Event.enc Event.zero),g1.2.map Event.enc⟩)],1⟩
noncomputable def zi7 (a0:ByteArray) (a1:List Hold):Option ((List Event)) :=
 (zc1 (zL3 a0 a1) (0,[])).bind (fun z=>zV4 z)
theorem zac6 (a0:ByteArray) (a1:List Hold) (r:(List Event)) (h:zi7 a0 a1=some r):PFn C 62 [.str a0,.sl (a1.map Hold.enc)] (.sl (r.map Event.enc)):=by
 refine za8 zeD7 rfl fun E hG hN hK=>?_
 unfold zdE6
 unfold zi7 at h
 refine za0 (za1 hG ?_)
 refine za0 (za1 hG ?_)
 refine za0 (za0 (za1 hG ?_))
 refine zb5 (zen3) (fun v=>zV4 v=some r) ?_ ?_
 · intro j1 h
   unfold zV4 at h
   refine g_st ?_
   refine za0 (za1 hG ?_)
   refine za7 ?_
   exact zb0 h
 refine zd8 (zen4 a0 a1) hK [(0,0)] h (fun x_l1 h g1 y_l1 h_l1 hx_l1=>?_)
 unfold zL3 at h_l1
 refine g_st ?_
 refine za0 (za0 (za1 hG ?_))
 refine za4 rfl hG h_l1 (fun _ h_l1=>?_) (fun _ h_l1=>?_)
 · refine za5 ?_
   refine za0 (zb6 ?_)
   obtain ⟨hb1,h_l1⟩:=za2 h_l1
   obtain ⟨hb2,h_l1⟩:=za2 h_l1
   obtain ⟨hb3,h_l1⟩:=za2 h_l1
   refine zG1 zd9 hG ?_
   refine za1 hG ?_
   exact zc7 hK [(0,1)] h_l1
 refine zc3 ?_
 obtain rfl:=Option.some.inj h_l1
 have hx:=hx_l1 _ rfl
 subst hx
 try dsimp only at h
 exact zc5 hK [(0,0)] g1.2 (by exact h)
attribute [local irreducible] zi7
noncomputable def zx3 (a0:List Queue) (a1:Proc) (a2:Atom) (a3:Int):Option ((List Queue)×(List Event)×Int) :=
 (zk9 a0).bind fun v1 =>
 (if (!v1)=true then
  some ([],[],2)
 else
  (zu1 a0 a2.name).bind fun v2 =>
  (if (decide (v2 < 0))=true then
   some ([],[],10)
  else
   (zo9 a0).bind fun v3 =>
   ((if (decide ((v3.length:Int)=8))=true then zl6 v3 a1 else some (false))).bind fun v4 =>
   (if ((decide ((v3.length:Int)=8))&&(!v4))=true then
    some ([],[],4)
   else
    gd (0≤v2∧v2 < (a0.length:Int)) <|
    (zr3 (a0.getD v2.toNat Queue.zero) a1 a2.amount a3).bind fun v5 =>
    (if (!decide (v5.2.2=0))=true then
     some ([],[],v5.2.2)
    else
     (zi3 a0 v2 v5.1).bind fun v6 =>
     (zi7 a2.name v5.2.1).bind fun v7 =>
     some (v6,v7,0)))))
theorem zbb8 (a0:List Queue) (a1:Proc) (a2:Atom) (a3:Int) (r:(List Queue)×(List Event)×Int) (h:zx3 a0 a1 a2 a3=some r):PFn C 18 [.sl (a0.map Queue.enc),.agg (Proc.enc a1),.agg (Atom.enc a2),.int .i64 a3] (.tup [.sl (r.1.map Queue.enc),.sl (r.2.1.map Event.enc),.int .i64 r.2.2]):=by
 refine za8 zeD8 rfl fun E hG hN hK=>?_
 unfold zdF7
 unfold zx3 at h
 refine za0 (za1 hG ?_)
 refine za0 (za0 (za1 hG ?_))
 obtain ⟨v1,hv1,h⟩:=za3 h
 refine za6 (fun hg=>zV1 a0 _ (hv1)) ?_
 refine za4 rfl hG h (fun _ h=>?_) (fun _ h=>?_)
 · refine za0 (za1 hG ?_)
   refine za7 ?_
   exact zb0 h
 refine za5 ?_
 refine za0 (za1 hG ?_)
 obtain ⟨v2,hv2,h⟩:=za3 h
 refine za6 (fun hg=>zal0 a0 a2.name _ (hv2)) ?_
 refine za0 (za0 (za1 hG ?_))
 refine za4 rfl hG h (fun _ h=>?_) (fun _ h=>?_)
 · refine za0 (za1 hG ?_)
   refine za7 ?_
   exact zb0 h
 refine za5 ?_
 refine za0 (za1 hG ?_)
 obtain ⟨v3,hv3,h⟩:=za3 h
 refine za6 (fun hg=>zag5 a0 _ (hv3)) ?_
 refine za0 (za0 (za1 hG ?_))
 obtain ⟨v4,hv4,h⟩:=za3 h
 refine za6 (fun hg=>zao1 v3 a1 _ (zz6 hg hv4)) ?_
 refine za4 rfl hG h (fun _ h=>?_) (fun _ h=>?_)
 · refine za0 (za1 hG ?_)
   refine za7 ?_
   exact zb0 h
 refine za5 ?_
 refine za0 ?_
 obtain ⟨hb1,h⟩:=za2 h
 refine zG1 zd9 hG ?_
 obtain ⟨v5,hv5,h⟩:=za3 h
 refine zD9 (fun hg=>zbb7 (a0.getD v2.toNat Queue.zero) a1 a2.amount a3 _ (hv5)) ?_
 refine za0 (za0 (za1 hG ?_))
 refine za4 rfl hG h (fun _ h=>?_) (fun _ h=>?_)
 · refine za0 (za1 hG ?_)
   refine za7 ?_
   exact zb0 h
 refine za5 ?_
 refine za0 (zp1 zd9 hG ?_)
 obtain ⟨v6,hv6,h⟩:=za3 h
 refine zh7 (fun hg=>zY6 a0 v2 v5.1 _ (hv6)) ?_
 obtain ⟨v7,hv7,h⟩:=za3 h
 refine zh7 (fun hg=>zac6 a2.name v5.2.1 _ (hv7)) ?_
 refine za7 ?_
 exact zb0 h
attribute [local irreducible] zx3
noncomputable def zau0  (j1:Unit):Option (Bool) :=
 some true
@[go_sem] def zeZ7  (j1:Unit):St:=⟨[],[],0⟩
noncomputable def zau1 (a0:List Event) (a1:List Event) (g1:Int):Option ((Int)⊕((Unit)⊕(Bool))) :=
 (if (decide (g1 < (a0.length:Int)))=true then
  gd (0≤g1∧g1 < (a0.length:Int)) <|
  gd (0≤g1∧g1 < (a1.length:Int)) <|
  (if (!decide ((a0.getD g1.toNat Event.zero)=(a1.getD g1.toNat Event.zero)))=true then
   some (.inr (.inr false))
  else
   some (.inl (IntKind.i64.wrap (g1+1))))
 else
  some (.inr (.inl ())))
@[go_sem] def zeZ8 (a0:List Event) (a1:List Event) (g1:Int):St:=⟨[(0,.sl (a0.map Event.enc)),(1,.sl (a1.map Event.enc)),(5,.int .i64 g1)],[],0⟩
noncomputable def zC8 (a0:List Event) (a1:List Event):Option (Bool) :=
 (if (!decide ((a0.length:Int)=(a1.length:Int)))=true then
  some false
 else
  (zc1 (zau1 a0 a1) 0).bind (fun | .inl z=>zau0 z | .inr z=>some z))
attribute [local irreducible] zC8
noncomputable def zad6 (a0:List Queue) (a1:List Event) (a2:Int) (a3:List Queue) (a4:List Event) (a5:Int):Option (Bool) :=
 ((if (decide (a2=a5))=true then zP0 a0 a3 else some (false))).bind fun v1 =>
 ((if ((decide (a2=a5))&&v1)=true then zC8 a1 a4 else some (false))).bind fun v2 =>
 some (((decide (a2=a5))&&v1)&&v2)
attribute [local irreducible] zad6
def zE4 (a0:List Int):Bool :=
 (decide ((a0.length:Int)≤300))
theorem zaC3 (a0:List Int):PFn C 20 [.sl (a0.map (eI .i64))] (.bool (zE4 a0)):=by
 generalize h:zE4 a0=r
 refine za8 zeF0 rfl fun E hG hN hK=>?_
 unfold zdG0
 unfold zE4 at h
 refine za0 (za1 hG ?_)
 refine za0 (za1 hG ?_)
 refine za7 ?_
 exact zf1 h
noncomputable def zd6 (a0:Int) (a1:Tape):Option (Int×Tape) :=
 (if (decide ((a1.l.length:Int)≤a1.at_))=true then
  some (0,a1)
 else
  gd (0≤(IntKind.i64.wrap (({ a1 with at_:=(IntKind.i64.wrap (a1.at_+1)) }).at_ - 1))∧(IntKind.i64.wrap (({ a1 with at_:=(IntKind.i64.wrap (a1.at_+1)) }).at_ - 1)) < ((({ a1 with at_:=(IntKind.i64.wrap (a1.at_+1)) }).l).length:Int)) <|
  (zs1 ((({ a1 with at_:=(IntKind.i64.wrap (a1.at_+1)) }).l).getD ((IntKind.i64.wrap (({ a1 with at_:=(IntKind.i64.wrap (a1.at_+1)) }).at_ - 1)).toNat) 0) a0).bind fun v1 =>
  some (v1,{ a1 with at_:=(IntKind.i64.wrap (a1.at_+1)) }))
theorem zg3 (a0:Int) (a1:Tape) (r:Int×Tape) (h:zd6 a0 a1=some r):MFn C 47 [.ptr 0 0 0,.int .i64 a0] [(0,⟨false,2,(Tape.enc Tape.zero),[Tape.enc a1]⟩)] 1 (.int .i64 r.1) [(0,⟨false,2,(Tape.enc Tape.zero),[Tape.enc r.2]⟩)] 1:=by
 refine zn3 (rl:=[.int .i64 r.1]) zeF1 rfl rfl rfl rfl fun E hG hN hK=>?_
 unfold zdG6
 unfold zd6 at h
 refine za0 (za1 hG ?_)
 refine za0 (za0 (zp1 zd9 hG ?_))
 refine za4 rfl hG h (fun _ h=>?_) (fun _ h=>?_)
 · refine za0 (za1 hG ?_)
   refine za7 ?_
   exact zA5 [(0,0)] h
 refine za5 ?_
 refine za0 (za1 hG ?_)
 refine za0 ?_
 obtain ⟨hb1,h⟩:=za2 h
 refine zp1 zd9 hG ?_
 obtain ⟨v1,hv1,h⟩:=za3 h
 refine zh7 (fun hg=>zaj6 ((({ a1 with at_:=(IntKind.i64.wrap (a1.at_+1)) }).l).getD ((IntKind.i64.wrap (({ a1 with at_:=(IntKind.i64.wrap (a1.at_+1)) }).at_ - 1)).toNat) 0) a0 _ (hv1)) ?_
 refine za7 ?_
 exact zA5 [(0,0)] h
attribute [local irreducible] zd6
def ze4 :List ByteArray:=[(⟨#[97]⟩:ByteArray),(⟨#[98]⟩:ByteArray),(⟨#[99]⟩:ByteArray),(⟨#[100]⟩:ByteArray)]
noncomputable def zF8  (j1:Tape×(List Resource)):Option ((List Resource)×Tape) :=
 (zd6 8 j1.1).bind fun v1 =>
 (zd6 4 v1.2).bind fun v2 =>
 gd (j1.2.length+1≤4294967296) <|
 (zd6 3 v2.2).bind fun v3 =>
 (zd6 4 v3.2).bind fun v4 =>
 gd (j1.2.length+1+1≤4294967296) <|
 some (((j1.2++[(⟨(⟨#[112]⟩:ByteArray),2,(IntKind.i64.wrap (1+v1.1)),v2.1⟩:Resource)])++[(⟨(⟨#[113]⟩:ByteArray),2,(IntKind.i64.wrap (1+v3.1)),v4.1⟩:Resource)]),v4.2)
@[go_sem] def zen5  (j1:Tape×(List Resource)):St:=⟨[(0,.ptr 0 0 0),(3,.own 1 0 j1.2.length)],[(0,⟨false,2,(Tape.enc Tape.zero),[Tape.enc j1.1]⟩),(1,⟨false,4,(Resource.enc Resource.zero),j1.2.map Resource.enc⟩)],2⟩
noncomputable def zv0  (g1:Int×Tape×(List Resource)):Option ((Int×Tape×(List Resource))⊕((Tape×(List Resource)))) :=
 (if (decide (g1.1 < (ze4.length:Int)))=true then
  gd (0≤g1.1∧g1.1 < (ze4.length:Int)) <|
  (zd6 4 g1.2.1).bind fun v5 =>
  gd (g1.2.2.length+1≤4294967296) <|
  some (.inl ((IntKind.i64.wrap (g1.1+1)),v5.2,(g1.2.2++[(⟨(ze4.getD g1.1.toNat (⟨#[]⟩)),1,1,v5.1⟩:Resource)])))
 else
  some (.inr (g1.2.1,g1.2.2)))
@[go_sem] def zen6  (g1:Int×Tape×(List Resource)):St:=⟨[(0,.ptr 0 0 0),(3,.own 1 0 g1.2.2.length),(4,.full (ze4.map eS)),(5,.int .i64 g1.1)],[(0,⟨false,2,(Tape.enc Tape.zero),[Tape.enc g1.2.1]⟩),(1,⟨false,4,(Resource.enc Resource.zero),g1.2.2.map Resource.enc⟩)],2⟩
noncomputable def zp7 (a0:Tape):Option ((List Resource)×Tape) :=
 (zc1 (zv0) (0,a0,[])).bind (fun z=>zF8 z)
theorem zaE3 (a0:Tape) (r:(List Resource)×Tape) (h:zp7 a0=some r):MFn C 45 [.ptr 0 0 0] [(0,⟨false,2,(Tape.enc Tape.zero),[Tape.enc a0]⟩)] 1 (.sl (r.1.map Resource.enc)) [(0,⟨false,2,(Tape.enc Tape.zero),[Tape.enc r.2]⟩)] 1:=by
 refine zn3 (rl:=[.sl (r.1.map Resource.enc)]) zeF2 rfl rfl rfl rfl fun E hG hN hK=>?_
 unfold zdH6
 unfold zp7 at h
 refine za0 (za1 hG ?_)
 refine za0 (za1 hG ?_)
 refine za0 (za1 hG ?_)
 refine g_gh (.cast 4 (.full (ze4.map eS))) ?_
 refine za0 (za0 (za1 hG ?_))
 refine zb5 (zen5) (fun v=>zF8 v=some r) ?_ ?_
 · intro j1 h
   unfold zF8 at h
   refine g_st ?_
   refine za0 (za1 hG ?_)
   obtain ⟨v1,hv1,h⟩:=za3 h
   refine zq0 [(0,0)] [] [0] (zg3 8 j1.1 _ hv1) rfl rfl ?_
   obtain ⟨v2,hv2,h⟩:=za3 h
   obtain ⟨hb2,h⟩:=za2 h
   refine zq0 [(0,0)] [] [0] (zg3 4 v1.2 _ hv2) rfl rfl ?_
   refine za0 (za1 hG ?_)
   obtain ⟨v3,hv3,h⟩:=za3 h
   refine zq0 [(0,0)] [] [0] (zg3 3 v2.2 _ hv3) rfl rfl ?_
   obtain ⟨v4,hv4,h⟩:=za3 h
   obtain ⟨hb1,h⟩:=za2 h
   refine zq0 [(0,0)] [] [0] (zg3 4 v3.2 _ hv4) rfl rfl ?_
   refine g_gh (.fz [3]) ?_
   refine za7 ?_
   exact zA5 [(0,0)] h
 refine zd8 (zen6) hK [(0,0),(1,1)] h (fun x_l1 h g1 y_l1 h_l1 hx_l1=>?_)
 unfold zv0 at h_l1
 refine g_st ?_
 refine za0 (za0 (za1 hG ?_))
 refine za4 rfl hG h_l1 (fun _ h_l1=>?_) (fun _ h_l1=>?_)
 · refine za5 ?_
   refine za0 (zb6 ?_)
   obtain ⟨hb3,h_l1⟩:=za2 h_l1
   refine zG1 zd9 hG ?_
   obtain ⟨v5,hv5,h_l1⟩:=za3 h_l1
   obtain ⟨hb4,h_l1⟩:=za2 h_l1
   refine zaf0 [(0,0)] [] [0] (zg3 4 g1.2.1 _ hv5) rfl rfl ?_
   refine za1 hG ?_
   exact zc7 hK [(0,0),(1,2)] h_l1
 refine zc3 ?_
 obtain rfl:=Option.some.inj h_l1
 have hx:=hx_l1 _ rfl
 subst hx
 try dsimp only at h
 exact zc5 hK [(0,0),(1,1)] (g1.2.1,g1.2.2) (by exact h)
attribute [local irreducible] zp7
noncomputable def zn5 (a0:Tape):Option (Bool×Tape) :=
 some ((decide (a0.at_ < (a0.l.length:Int))),a0)
theorem zaw0 (a0:Tape) (r:Bool×Tape) (h:zn5 a0=some r):MFn C 46 [.ptr 0 0 0] [(0,⟨false,2,(Tape.enc Tape.zero),[Tape.enc a0]⟩)] 1 (.bool r.1) [(0,⟨false,2,(Tape.enc Tape.zero),[Tape.enc r.2]⟩)] 1:=by
 refine zn3 (rl:=[.bool r.1]) zeF3 rfl rfl rfl rfl fun E hG hN hK=>?_
 unfold zdH9
 unfold zn5 at h
 refine za0 (za1 hG ?_)
 refine za0 (zp1 zd9 hG ?_)
 refine za7 ?_
 exact zA5 [(0,0)] h
attribute [local irreducible] zn5
def zz4 :List Int:=[5,5,3,4,2,1,3,5]
noncomputable def zE5 (a0:Int):Option (Int) :=
 (zs1 a0 (zz4.length:Int)).bind fun v1 =>
 gd (0≤v1∧v1 < (zz4.length:Int)) <|
 some (zz4.getD v1.toNat 0)
theorem zbq6 (a0:Int) (r:Int) (h:zE5 a0=some r):PFn C 63 [.int .i64 a0] (.int .i64 r):=by
 refine za8 zeF4 rfl fun E hG hN hK=>?_
 unfold zdI3
 unfold zE5 at h
 refine za0 (za1 hG ?_)
 refine za0 (za1 hG ?_)
 refine g_gh (.cast 3 (.full (zz4.map (eI .i64)))) ?_
 refine za0 (za1 hG ?_)
 obtain ⟨v1,hv1,h⟩:=za3 h
 obtain ⟨hb1,h⟩:=za2 h
 refine za6 (fun hg=>zaj6 a0 (zz4.length:Int) _ (hv1)) ?_
 refine za7 ?_
 exact zb0 h
attribute [local irreducible] zE5
noncomputable def zx4 (a0:Resource) (a1:Int):Option (Amount) :=
 (if (decide (a0.kind=1))=true then
  (zE5 a1).bind fun v1 =>
  some ({ Amount.zero with mode:=v1 })
 else
  (zs1 a1 a0.units).bind fun v2 =>
  some ({ Amount.zero with units:=(IntKind.i64.wrap (1+v2)) }))
theorem zbb9 (a0:Resource) (a1:Int) (r:Amount) (h:zx4 a0 a1=some r):PFn C 24 [.agg (Resource.enc a0),.int .i64 a1] (.agg (Amount.enc r)):=by
 refine za8 zeF5 rfl fun E hG hN hK=>?_
 unfold zdI8
 unfold zx4 at h
 refine za0 (za1 hG ?_)
 refine za0 (za0 (za1 hG ?_))
 refine za4 rfl hG h (fun _ h=>?_) (fun _ h=>?_)
 · refine za0 (za1 hG ?_)
   obtain ⟨v1,hv1,h⟩:=za3 h
   refine za6 (fun hg=>zbq6 a1 _ (hv1)) ?_
   refine za7 ?_
   exact zb0 h
 refine za5 ?_
 refine za0 (za1 hG ?_)
 obtain ⟨v2,hv2,h⟩:=za3 h
 refine za6 (fun hg=>zaj6 a1 a0.units _ (hv2)) ?_
 refine za7 ?_
 exact zb0 h
attribute [local irreducible] zx4
noncomputable def zV5 (a0:List Wait) (j1:(List Wait)):Option ((List Wait)×Bool) :=
 some (j1,(decide (((j1.length:Nat):Int) < (a0.length:Int))))
@[go_sem] def zen7 (a0:List Wait) (j1:(List Wait)):St:=⟨[(0,.sl (a0.map Wait.enc)),(6,.own 0 0 j1.length)],[(0,⟨false,7,(Wait.enc Wait.zero),j1.map Wait.enc⟩)],1⟩
noncomputable def zL4 (a0:List Wait) (a1:Proc) (g1:Int×(List Wait)):Option ((Int×(List Wait))⊕(((List Wait)))) :=
 (if (decide (g1.1 < (a0.length:Int)))=true then
  gd (0≤g1.1∧g1.1 < (a0.length:Int)) <|
  (if (!decide ((a0.getD g1.1.toNat Wait.zero).proc=a1))=true then
   gd (0≤g1.1∧g1.1 < (a0.length:Int)) <|
   gd (g1.2.length+1≤4294967296) <|
   some (.inl ((IntKind.i64.wrap (g1.1+1)),(g1.2++[(a0.getD g1.1.toNat Wait.zero)])))
  else
   some (.inl ((IntKind.i64.wrap (g1.1+1)),g1.2)))
 else
  some (.inr g1.2))
@[go_sem] def zen8 (a0:List Wait) (a1:Proc) (g1:Int×(List Wait)):St:=⟨[(0,.sl (a0.map Wait.enc)),(3,.ptr 0 0 0),(6,.own 1 0 g1.2.length),(7,.int .i64 g1.1)],[(0,⟨false,3,(Proc.enc Proc.zero),[Proc.enc a1]⟩),(1,⟨false,7,(Wait.enc Wait.zero),g1.2.map Wait.enc⟩)],2⟩
noncomputable def zl8 (a0:List Wait) (a1:Proc):Option ((List Wait)×Bool) :=
 (zc1 (zL4 a0 a1) (0,[])).bind (fun z=>zV5 a0 z)
theorem zat3 (a0:List Wait) (a1:Proc) (r:(List Wait)×Bool) (h:zl8 a0 a1=some r):PFn C 113 [.sl (a0.map Wait.enc),.agg (Proc.enc a1)] (.tup [.sl (r.1.map Wait.enc),.bool r.2]):=by
 refine za8 zeF6 rfl fun E hG hN hK=>?_
 unfold zdJ7
 unfold zl8 at h
 refine za0 (za1 hG ?_)
 refine za0 (za1 hG ?_)
 refine za0 (za0 (za1 hG ?_))
 refine zb5 (zen7 a0) (fun v=>zV5 a0 v=some r) ?_ ?_
 · intro j1 h
   unfold zV5 at h
   refine g_st ?_
   refine za0 (za1 hG ?_)
   refine za7 ?_
   exact zb0 h
 refine zd8 (zen8 a0 a1) hK [(0,0),(1,1)] h (fun x_l1 h g1 y_l1 h_l1 hx_l1=>?_)
 unfold zL4 at h_l1
 refine g_st ?_
 refine za0 (za0 (za1 hG ?_))
 refine za4 rfl hG h_l1 (fun _ h_l1=>?_) (fun _ h_l1=>?_)
 · refine za5 ?_
   refine za0 (zb6 (za0 ?_))
   obtain ⟨hb3,h_l1⟩:=za2 h_l1
   refine zp1 zd9 hG ?_
   refine za4 rfl hG h_l1 (fun _ h_l1=>?_) (fun _ h_l1=>?_)
   · obtain ⟨hb1,h_l1⟩:=za2 h_l1
     obtain ⟨hb2,h_l1⟩:=za2 h_l1
     refine za1 hG ?_
     refine za1 hG ?_
     exact zc7 hK [(0,0),(1,2)] h_l1
   refine za5 ?_
   refine za1 hG ?_
   exact zc7 hK [(0,0),(1,1)] h_l1
 refine zc3 ?_
 obtain rfl:=Option.some.inj h_l1
 have hx:=hx_l1 _ rfl
 subst hx
 try dsimp only at h
 exact zc5 hK [(0,1)] g1.2 (by exact h)
attribute [local irreducible] zl8
noncomputable def zu4 (a0:Queue) (a1:Proc):Option (Queue×(List Hold)×Int) :=
 (zk8 a0).bind fun v1 =>
 (if (!v1)=true then
  some ({ Queue.zero with  },[],2)
 else
  (zl7 a0 a1).bind fun v2 =>
  (if (!v2.2)=true then
   some ({ Queue.zero with  },[],10)
  else
   (zr9 a0).bind fun v3 =>
   (zl8 v3.converts a1).bind fun v4 =>
   (zl8 (({ v3 with converts:=v4.1 }).waits) a1).bind fun v5 =>
   (zi2 ({ { v3 with converts:=v4.1 } with waits:=v5.1 })).bind fun v6 =>
   some (v6.1,v6.2.1,v6.2.2)))
theorem zaT5 (a0:Queue) (a1:Proc) (r:Queue×(List Hold)×Int) (h:zu4 a0 a1=some r):PFn C 79 [.agg (Queue.enc a0),.agg (Proc.enc a1)] (.tup [.agg (Queue.enc r.1),.sl (r.2.1.map Hold.enc),.int .i64 r.2.2]):=by
 refine za8 zeF7 rfl fun E hG hN hK=>?_
 unfold zdK8
 unfold zu4 at h
 refine za0 (za1 hG ?_)
 refine za0 (za0 (za1 hG ?_))
 obtain ⟨v1,hv1,h⟩:=za3 h
 refine za6 (fun hg=>zV0 a0 _ (hv1)) ?_
 refine za4 rfl hG h (fun _ h=>?_) (fun _ h=>?_)
 · refine za0 (za1 hG ?_)
   refine za7 ?_
   exact zb0 h
 refine za5 ?_
 refine za0 (za0 (za1 hG ?_))
 obtain ⟨v2,hv2,h⟩:=za3 h
 refine za6 (fun hg=>zac5 a0 a1 _ (hv2)) ?_
 refine za0 (za1 hG ?_)
 refine za4 rfl hG h (fun _ h=>?_) (fun _ h=>?_)
 · refine za0 (za1 hG ?_)
   refine za7 ?_
   exact zb0 h
 refine za5 ?_
 refine za0 (za1 hG ?_)
 obtain ⟨v3,hv3,h⟩:=za3 h
 refine za6 (fun hg=>zal2 a0 _ (hv3)) ?_
 refine za0 (za1 hG ?_)
 obtain ⟨v4,hv4,h⟩:=za3 h
 refine za6 (fun hg=>zat3 v3.converts a1 _ (hv4)) ?_
 refine za0 (za1 hG ?_)
 obtain ⟨v5,hv5,h⟩:=za3 h
 refine za6 (fun hg=>zat3 (({ v3 with converts:=v4.1 }).waits) a1 _ (hv5)) ?_
 refine za0 (za1 hG ?_)
 obtain ⟨v6,hv6,h⟩:=za3 h
 refine za6 (fun hg=>zQ1 ({ { v3 with converts:=v4.1 } with waits:=v5.1 }) _ (hv6)) ?_
 refine za7 ?_
 exact zb0 h
attribute [local irreducible] zu4
noncomputable def zu5 (a0:List Queue) (a1:Proc) (a2:ByteArray):Option ((List Queue)×(List Event)×Int) :=
 (zk9 a0).bind fun v1 =>
 (if (!v1)=true then
  some ([],[],2)
 else
  (zu1 a0 a2).bind fun v2 =>
  (if (decide (v2 < 0))=true then
   some ([],[],10)
  else
   gd (0≤v2∧v2 < (a0.length:Int)) <|
   (zu4 (a0.getD v2.toNat Queue.zero) a1).bind fun v3 =>
   (if (!decide (v3.2.2=0))=true then
    some ([],[],v3.2.2)
   else
    (zi3 a0 v2 v3.1).bind fun v4 =>
    (zi7 a2 v3.2.1).bind fun v5 =>
    some (v4,v5,0))))
theorem zaT6 (a0:List Queue) (a1:Proc) (a2:ByteArray) (r:(List Queue)×(List Event)×Int) (h:zu5 a0 a1 a2=some r):PFn C 42 [.sl (a0.map Queue.enc),.agg (Proc.enc a1),.str a2] (.tup [.sl (r.1.map Queue.enc),.sl (r.2.1.map Event.enc),.int .i64 r.2.2]):=by
 refine za8 zeF8 rfl fun E hG hN hK=>?_
 unfold zdL9
 unfold zu5 at h
 refine za0 (za1 hG ?_)
 refine za0 (za0 (za1 hG ?_))
 obtain ⟨v1,hv1,h⟩:=za3 h
 refine za6 (fun hg=>zV1 a0 _ (hv1)) ?_
 refine za4 rfl hG h (fun _ h=>?_) (fun _ h=>?_)
 · refine za0 (za1 hG ?_)
   refine za7 ?_
   exact zb0 h
 refine za5 ?_
 refine za0 (za1 hG ?_)
 obtain ⟨v2,hv2,h⟩:=za3 h
 refine za6 (fun hg=>zal0 a0 a2 _ (hv2)) ?_
 refine za0 (za0 (za1 hG ?_))
 refine za4 rfl hG h (fun _ h=>?_) (fun _ h=>?_)
 · refine za0 (za1 hG ?_)
   refine za7 ?_
   exact zb0 h
 refine za5 ?_
 refine za0 ?_
 obtain ⟨hb1,h⟩:=za2 h
 refine zG1 zd9 hG ?_
 obtain ⟨v3,hv3,h⟩:=za3 h
 refine zD9 (fun hg=>zaT5 (a0.getD v2.toNat Queue.zero) a1 _ (hv3)) ?_
 refine za0 (za0 (za1 hG ?_))
 refine za4 rfl hG h (fun _ h=>?_) (fun _ h=>?_)
 · refine za0 (za1 hG ?_)
   refine za7 ?_
   exact zb0 h
 refine za5 ?_
 refine za0 (za1 hG ?_)
 obtain ⟨v4,hv4,h⟩:=za3 h
 refine za6 (fun hg=>zY6 a0 v2 v3.1 _ (hv4)) ?_
 obtain ⟨v5,hv5,h⟩:=za3 h
 refine za6 (fun hg=>zac6 a2 v3.2.1 _ (hv5)) ?_
 refine za7 ?_
 exact zb0 h
attribute [local irreducible] zu5
noncomputable def zx5 (a0:Queue) (a1:Proc) (a2:Amount):Option (Queue×(List Hold)×Int) :=
 (zk8 a0).bind fun v1 =>
 (if (!v1)=true then
  some ({ Queue.zero with  },[],2)
 else
  (zp6 a0 a1).bind fun v2 =>
  (if (zd0 v2)=true then
   some ({ Queue.zero with  },[],10)
  else
   (zl7 a0 a1).bind fun v3 =>
   (if v3.2=true then
    some ({ Queue.zero with  },[],14)
   else
    (if (!(zf9 a0.resource v2 a2))=true then
     some ({ Queue.zero with  },[],12)
    else
     (zr9 a0).bind fun v4 =>
     (if (decide (v2=a2))=true then
      some (v4,[],0)
     else
      (zs7 v4.holds a1 a2).bind fun v5 =>
      (zi2 ({ v4 with holds:=v5 })).bind fun v6 =>
      some (v6.1,v6.2.1,v6.2.2))))))
theorem zbc0 (a0:Queue) (a1:Proc) (a2:Amount) (r:Queue×(List Hold)×Int) (h:zx5 a0 a1 a2=some r):PFn C 81 [.agg (Queue.enc a0),.agg (Proc.enc a1),.agg (Amount.enc a2)] (.tup [.agg (Queue.enc r.1),.sl (r.2.1.map Hold.enc),.int .i64 r.2.2]):=by
 refine za8 zeF9 rfl fun E hG hN hK=>?_
 unfold zdN0
 unfold zx5 at h
 refine za0 (za1 hG ?_)
 refine za0 (za0 (za1 hG ?_))
 obtain ⟨v1,hv1,h⟩:=za3 h
 refine za6 (fun hg=>zV0 a0 _ (hv1)) ?_
 refine za4 rfl hG h (fun _ h=>?_) (fun _ h=>?_)
 · refine za0 (za1 hG ?_)
   refine za7 ?_
   exact zb0 h
 refine za5 ?_
 refine za0 (za1 hG ?_)
 obtain ⟨v2,hv2,h⟩:=za3 h
 refine za6 (fun hg=>zal1 a0 a1 _ (hv2)) ?_
 refine za0 (za0 (za1 hG ?_))
 refine za6 (fun hg=>zt2 v2) ?_
 refine za4 rfl hG h (fun _ h=>?_) (fun _ h=>?_)
 · refine za0 (za1 hG ?_)
   refine za7 ?_
   exact zb0 h
 refine za5 ?_
 refine za0 (za0 (za1 hG ?_))
 obtain ⟨v3,hv3,h⟩:=za3 h
 refine za6 (fun hg=>zac5 a0 a1 _ (hv3)) ?_
 refine za0 (za1 hG ?_)
 refine za4 rfl hG h (fun _ h=>?_) (fun _ h=>?_)
 · refine za0 (za1 hG ?_)
   refine za7 ?_
   exact zb0 h
 refine za5 ?_
 refine za0 (za0 (za1 hG ?_))
 refine za6 (fun hg=>zJ7 a0.resource v2 a2) ?_
 refine za4 rfl hG h (fun _ h=>?_) (fun _ h=>?_)
 · refine za0 (za1 hG ?_)
   refine za7 ?_
   exact zb0 h
 refine za5 ?_
 refine za0 (za1 hG ?_)
 obtain ⟨v4,hv4,h⟩:=za3 h
 refine za6 (fun hg=>zal2 a0 _ (hv4)) ?_
 refine za0 (za0 (za1 hG ?_))
 refine za4 rfl hG h (fun _ h=>?_) (fun _ h=>?_)
 · refine za0 (za1 hG ?_)
   refine za7 ?_
   exact zb0 h
 refine za5 ?_
 refine za0 (za1 hG ?_)
 obtain ⟨v5,hv5,h⟩:=za3 h
 refine za6 (fun hg=>zar0 v4.holds a1 a2 _ (hv5)) ?_
 refine za0 (za1 hG ?_)
 obtain ⟨v6,hv6,h⟩:=za3 h
 refine za6 (fun hg=>zQ1 ({ v4 with holds:=v5 }) _ (hv6)) ?_
 refine za7 ?_
 exact zb0 h
attribute [local irreducible] zx5
noncomputable def zB8 (a0:List Queue) (a2:Atom) (v2:Int) (v4:Queue×(List Hold)×Int) (j1:(List Event)):Option ((List Queue)×(List Event)×Int) :=
 (zi3 a0 v2 v4.1).bind fun v5 =>
 (zi7 a2.name v4.2.1).bind fun v6 =>
 gd (j1.length+v6.length≤4294967296) <|
 some (v5,(j1++v6),0)
@[go_sem] def zen9 (a0:List Queue) (a2:Atom) (v2:Int) (v4:Queue×(List Hold)×Int) (j1:(List Event)):St:=⟨[(0,.sl (a0.map Queue.enc)),(5,.ptr 0 0 0),(9,.int .i64 v2),(11,.ptr 1 0 0),(12,.sl (v4.2.1.map Hold.enc)),(14,.own 2 0 j1.length)],[(0,⟨false,3,(Atom.enc Atom.zero),[Atom.enc a2]⟩),(1,⟨false,8,(Queue.enc Queue.zero),[Queue.enc v4.1]⟩),(2,⟨false,7,(Event.enc Event.zero),j1.map Event.enc⟩)],3⟩
noncomputable def zx6 (a0:List Queue) (a1:Proc) (a2:Atom):Option ((List Queue)×(List Event)×Int) :=
 (zk9 a0).bind fun v1 =>
 (if (!v1)=true then
  some ([],[],2)
 else
  (zu1 a0 a2.name).bind fun v2 =>
  (if (decide (v2 < 0))=true then
   some ([],[],10)
  else
   gd (0≤v2∧v2 < (a0.length:Int)) <|
   (zp6 (a0.getD v2.toNat Queue.zero) a1).bind fun v3 =>
   gd (0≤v2∧v2 < (a0.length:Int)) <|
   (zx5 (a0.getD v2.toNat Queue.zero) a1 a2.amount).bind fun v4 =>
   (if (!decide (v4.2.2=0))=true then
    some ([],[],v4.2.2)
   else
    (if (!decide (v3=a2.amount))=true then
     gd (1≤4294967296) <|
     zB8 a0 a2 v2 v4 [(⟨3,a1,a2.name,a2.amount⟩:Event)]
    else
     zB8 a0 a2 v2 v4 []))))
theorem zbc1 (a0:List Queue) (a1:Proc) (a2:Atom) (r:(List Queue)×(List Event)×Int) (h:zx6 a0 a1 a2=some r):PFn C 44 [.sl (a0.map Queue.enc),.agg (Proc.enc a1),.agg (Atom.enc a2)] (.tup [.sl (r.1.map Queue.enc),.sl (r.2.1.map Event.enc),.int .i64 r.2.2]):=by
 refine za8 zeG0 rfl fun E hG hN hK=>?_
 unfold zdO1
 unfold zx6 at h
 refine za0 (za1 hG ?_)
 refine za0 (za0 (za1 hG ?_))
 obtain ⟨v1,hv1,h⟩:=za3 h
 refine za6 (fun hg=>zV1 a0 _ (hv1)) ?_
 refine za4 rfl hG h (fun _ h=>?_) (fun _ h=>?_)
 · refine za0 (za1 hG ?_)
   refine za7 ?_
   exact zb0 h
 refine za5 ?_
 refine za0 (za1 hG ?_)
 obtain ⟨v2,hv2,h⟩:=za3 h
 refine za6 (fun hg=>zal0 a0 a2.name _ (hv2)) ?_
 refine za0 (za0 (za1 hG ?_))
 refine za4 rfl hG h (fun _ h=>?_) (fun _ h=>?_)
 · refine za0 (za1 hG ?_)
   refine za7 ?_
   exact zb0 h
 refine za5 ?_
 refine za0 ?_
 obtain ⟨hb4,h⟩:=za2 h
 refine zG1 zd9 hG ?_
 obtain ⟨v3,hv3,h⟩:=za3 h
 refine zD9 (fun hg=>zal1 (a0.getD v2.toNat Queue.zero) a1 _ (hv3)) ?_
 refine za0 ?_
 obtain ⟨hb3,h⟩:=za2 h
 refine zG1 zd9 hG ?_
 obtain ⟨v4,hv4,h⟩:=za3 h
 refine zD9 (fun hg=>zbc0 (a0.getD v2.toNat Queue.zero) a1 a2.amount _ (hv4)) ?_
 refine za0 (za0 (za1 hG ?_))
 refine za4 rfl hG h (fun _ h=>?_) (fun _ h=>?_)
 · refine za0 (za1 hG ?_)
   refine za7 ?_
   exact zb0 h
 refine za5 ?_
 refine za0 (za1 hG ?_)
 refine za0 (za0 (za1 hG ?_))
 refine zaV7 (zen9 a0 a2 v2 v4) (fun v=>zB8 a0 a2 v2 v4 v=some r) rfl hG h ?_ (fun _ h=>?_) (fun _ h=>?_)
 · intro j1 h
   unfold zB8 at h
   refine g_st ?_
   refine za0 (zG1 zd9 hG ?_)
   obtain ⟨v5,hv5,h⟩:=za3 h
   refine zD9 (fun hg=>zY6 a0 v2 v4.1 _ (hv5)) ?_
   obtain ⟨v6,hv6,h⟩:=za3 h
   obtain ⟨hb1,h⟩:=za2 h
   refine zD9 (fun hg=>zac6 a2.name v4.2.1 _ (hv6)) ?_
   refine za7 ?_
   exact zb0 h
 · obtain ⟨hb2,h⟩:=za2 h
   refine za1 hG ?_
   exact zc5 hK [(0,1),(1,3),(2,5)] [(⟨3,a1,a2.name,a2.amount⟩:Event)] (by exact h)
 refine za5 ?_
 exact zc5 hK [(0,1),(1,3),(2,4)] [] (by exact h)
attribute [local irreducible] zx6
noncomputable def zac7  (j1:(List Queue)):Option ((List Queue)) :=
 some j1
@[go_sem] def zeo0  (j1:(List Queue)):St:=⟨[(4,.sl (j1.map Queue.enc))],[],0⟩
noncomputable def zz5 (g1:(List Queue)×Tape) (j2:(List Queue)×Int×Tape):Option (((List Queue)×Tape)⊕(((List Queue)))) :=
 (if (decide (j2.2.1=0))=true then
  some (.inl (j2.1,j2.2.2))
 else
  some (.inl (g1.1,j2.2.2)))
@[go_sem] def zeo1 (g1:(List Queue)×Tape) (j2:(List Queue)×Int×Tape):St:=⟨[(3,.ptr 0 0 0),(4,.sl (g1.1.map Queue.enc)),(10,.sl (j2.1.map Queue.enc)),(11,.int .i64 j2.2.1)],[(0,⟨false,2,(Tape.enc Tape.zero),[Tape.enc j2.2.2]⟩)],1⟩
noncomputable def zJ8  (g1:(List Queue)×Tape):Option (((List Queue)×Tape)⊕(((List Queue)))) :=
 (zn5 g1.2).bind fun v3 =>
 (if v3.1=true then
  (zd6 8 v3.2).bind fun v4 =>
  (zd6 (g1.1.length:Int) v4.2).bind fun v5 =>
  gd (0≤v5.1∧v5.1 < (g1.1.length:Int)) <|
  (zd6 8 v5.2).bind fun v6 =>
  (zn4 v6.1).bind fun v7 =>
  (zd6 64 v6.2).bind fun v8 =>
  (zx4 ((g1.1.getD v5.1.toNat Queue.zero).resource) v8.1).bind fun v9 =>
  (if (decide (v4.1=0))=true then
   (zu5 g1.1 v7 ((⟨((g1.1.getD v5.1.toNat Queue.zero).resource).name,v9⟩:Atom).name)).bind fun v10 =>
   zz5 g1 (v10.1,v10.2.2,v8.2)
  else
   (if (decide (v4.1=1))=true then
    (zx6 g1.1 v7 (⟨((g1.1.getD v5.1.toNat Queue.zero).resource).name,v9⟩:Atom)).bind fun v11 =>
    zz5 g1 (v11.1,v11.2.2,v8.2)
   else
    (zd6 8 v8.2).bind fun v12 =>
    (zx3 g1.1 v7 (⟨((g1.1.getD v5.1.toNat Queue.zero).resource).name,v9⟩:Atom) v12.1).bind fun v13 =>
    zz5 g1 (v13.1,v13.2.2,v12.2)))
 else
  some (.inr g1.1))
@[go_sem] def zeo2  (g1:(List Queue)×Tape):St:=⟨[(3,.ptr 0 0 0),(4,.sl (g1.1.map Queue.enc))],[(0,⟨false,2,(Tape.enc Tape.zero),[Tape.enc g1.2]⟩)],1⟩
noncomputable def zx7 (a0:List Int):Option ((List Queue)) :=
 (zp7 ({ Tape.zero with l:=a0 })).bind fun v1 =>
 (zv3 v1.1).bind fun v2 =>
 (zc1 (zJ8) (v2.1,v1.2)).bind (fun z=>zac7 z)
theorem zaC4 (a0:List Int) (r:(List Queue)) (h:zx7 a0=some r):PFn C 21 [.sl (a0.map (eI .i64))] (.sl (r.map Queue.enc)):=by
 refine za8 zeG1 rfl fun E hG hN hK=>?_
 unfold zdP2
 unfold zx7 at h
 refine za0 (za1 hG ?_)
 refine za0 (za1 hG ?_)
 refine za0 (za1 hG ?_)
 obtain ⟨v1,hv1,h⟩:=za3 h
 refine zq0 [(0,0)] [] [0] (zaE3 ({ Tape.zero with l:=a0 }) _ hv1) rfl rfl ?_
 obtain ⟨v2,hv2,h⟩:=za3 h
 refine za6 (fun hg=>zbq3 v1.1 _ (hv2)) ?_
 refine za0 ?_
 refine zb5 (zeo0) (fun v=>zac7 v=some r) ?_ ?_
 · intro j1 h
   unfold zac7 at h
   refine g_st ?_
   refine za0 (za1 hG ?_)
   refine za7 ?_
   exact zb0 h
 refine zd8 (zeo2) hK [(0,0)] h (fun x_l1 h g1 y_l1 h_l1 hx_l1=>?_)
 unfold zJ8 at h_l1
 refine g_st ?_
 refine za0 (za0 (za1 hG ?_))
 obtain ⟨v3,hv3,h_l1⟩:=za3 h_l1
 refine zq0 [(0,0)] [] [0] (zaw0 g1.2 _ hv3) rfl rfl ?_
 refine za4 rfl hG h_l1 (fun _ h_l1=>?_) (fun _ h_l1=>?_)
 · refine za5 ?_
   refine zb6 (za0 (za1 hG ?_))
   obtain ⟨v4,hv4,h_l1⟩:=za3 h_l1
   refine zq0 [(0,0)] [] [0] (zg3 8 v3.2 _ hv4) rfl rfl ?_
   refine za0 (za1 hG ?_)
   obtain ⟨v5,hv5,h_l1⟩:=za3 h_l1
   obtain ⟨hb1,h_l1⟩:=za2 h_l1
   refine zq0 [(0,0)] [] [0] (zg3 (g1.1.length:Int) v4.2 _ hv5) rfl rfl ?_
   refine za0 (za1 hG ?_)
   obtain ⟨v6,hv6,h_l1⟩:=za3 h_l1
   refine zq0 [(0,0)] [] [0] (zg3 8 v5.2 _ hv6) rfl rfl ?_
   obtain ⟨v7,hv7,h_l1⟩:=za3 h_l1
   refine za6 (fun hg=>zad5 v6.1 _ (hv7)) ?_
   refine za0 (zG1 zd9 hG ?_)
   obtain ⟨v8,hv8,h_l1⟩:=za3 h_l1
   refine zaf0 [(0,0)] [] [0] (zg3 64 v6.2 _ hv8) rfl rfl ?_
   obtain ⟨v9,hv9,h_l1⟩:=za3 h_l1
   refine zD9 (fun hg=>zbb9 ((g1.1.getD v5.1.toNat Queue.zero).resource) v8.1 _ (hv9)) ?_
   refine za0 (za1 hG ?_)
   refine za0 (za1 hG ?_)
   refine za0 (za0 (za1 hG ?_))
   refine zb5 (zeo1 g1) (fun v=>zz5 g1 v=some y_l1) ?_ ?_
   · intro j2 h_l1
     unfold zz5 at h_l1
     refine g_st ?_
     refine za0 (za1 hG ?_)
     refine za4 rfl hG h_l1 (fun _ h_l1=>?_) (fun _ h_l1=>?_)
     · refine za1 hG ?_
       exact zc7 hK [(0,0)] h_l1
     refine za5 ?_
     exact zc7 hK [(0,0)] h_l1
   refine za0 (za1 hG ?_)
   refine za4 rfl hG h_l1 (fun _ h_l1=>?_) (fun _ h_l1=>?_)
   · refine za1 hG ?_
     obtain ⟨v10,hv10,h_l1⟩:=za3 h_l1
     refine za6 (fun hg=>zaT6 g1.1 v7 ((⟨((g1.1.getD v5.1.toNat Queue.zero).resource).name,v9⟩:Atom).name) _ (hv10)) ?_
     exact zc5 hK [(0,0)] (v10.1,v10.2.2,v8.2) (by exact h_l1)
   refine za0 (za1 hG ?_)
   refine za4 rfl hG h_l1 (fun _ h_l1=>?_) (fun _ h_l1=>?_)
   · refine za1 hG ?_
     obtain ⟨v11,hv11,h_l1⟩:=za3 h_l1
     refine za6 (fun hg=>zbc1 g1.1 v7 (⟨((g1.1.getD v5.1.toNat Queue.zero).resource).name,v9⟩:Atom) _ (hv11)) ?_
     exact zc5 hK [(0,0)] (v11.1,v11.2.2,v8.2) (by exact h_l1)
   refine zG1 zd9 hG ?_
   obtain ⟨v12,hv12,h_l1⟩:=za3 h_l1
   refine zaf0 [(0,0)] [] [0] (zg3 8 v8.2 _ hv12) rfl rfl ?_
   obtain ⟨v13,hv13,h_l1⟩:=za3 h_l1
   refine zD9 (fun hg=>zbb8 g1.1 v7 (⟨((g1.1.getD v5.1.toNat Queue.zero).resource).name,v9⟩:Atom) v12.1 _ (hv13)) ?_
   exact zc5 hK [(0,0)] (v13.1,v13.2.2,v12.2) (by exact h_l1)
 refine zc3 ?_
 obtain rfl:=Option.some.inj h_l1
 have hx:=hx_l1 _ rfl
 subst hx
 try dsimp only at h
 exact zc5 hK [] g1.1 (by exact h)
attribute [local irreducible] zx7
noncomputable def zN5 (a1:Int) (a2:Queue) (j1:(List Queue)):Option ((List Queue)) :=
 (if (decide (0≤a1))=true then
  gd (0≤a1∧a1 < ((j1.length:Nat):Int)) <|
  some (j1.set a1.toNat a2)
 else
  some j1)
@[go_sem] def zeo3 (a1:Int) (a2:Queue) (j1:(List Queue)):St:=⟨[(1,.int .i64 a1),(5,.ptr 0 0 0),(7,.own 1 0 j1.length)],[(0,⟨false,8,(Queue.enc Queue.zero),[Queue.enc a2]⟩),(1,⟨false,8,(Queue.enc Queue.zero),j1.map Queue.enc⟩)],2⟩
noncomputable def zab2 (a0:List Queue) (g1:Int×(List Queue)):Option ((Int×(List Queue))⊕(((List Queue)))) :=
 (if (decide (g1.1 < (a0.length:Int)))=true then
  gd (0≤g1.1∧g1.1 < (a0.length:Int)) <|
  gd (((a0.getD g1.1.toNat Queue.zero).holds).length≤4294967296) <|
  gd ((({ (a0.getD g1.1.toNat Queue.zero) with holds:=(a0.getD g1.1.toNat Queue.zero).holds }).converts).length≤4294967296) <|
  gd ((({ { (a0.getD g1.1.toNat Queue.zero) with holds:=(a0.getD g1.1.toNat Queue.zero).holds } with converts:=({ (a0.getD g1.1.toNat Queue.zero) with holds:=(a0.getD g1.1.toNat Queue.zero).holds }).converts }).waits).length≤4294967296) <|
  gd (0≤g1.1∧g1.1 < ((g1.2.length:Nat):Int)) <|
  some (.inl ((IntKind.i64.wrap (g1.1+1)),(g1.2.set g1.1.toNat ({ { { (a0.getD g1.1.toNat Queue.zero) with holds:=(a0.getD g1.1.toNat Queue.zero).holds } with converts:=({ (a0.getD g1.1.toNat Queue.zero) with holds:=(a0.getD g1.1.toNat Queue.zero).holds }).converts } with waits:=({ { (a0.getD g1.1.toNat Queue.zero) with holds:=(a0.getD g1.1.toNat Queue.zero).holds } with converts:=({ (a0.getD g1.1.toNat Queue.zero) with holds:=(a0.getD g1.1.toNat Queue.zero).holds }).converts }).waits }))))
 else
  some (.inr g1.2))
@[go_sem] def zeo4 (a0:List Queue) (a1:Int) (a2:Queue) (g1:Int×(List Queue)):St:=⟨[(1,.int .i64 a1),(5,.ptr 0 0 0),(7,.own 1 0 g1.2.length),(13,.sl (a0.map Queue.enc)),(14,.int .i64 (a0.length:Int)),(15,.int .i64 g1.1)],[(0,⟨false,8,(Queue.enc Queue.zero),[Queue.enc a2]⟩),(1,⟨false,8,(Queue.enc Queue.zero),g1.2.map Queue.enc⟩)],2⟩
noncomputable def zn1 (a0:List Queue) (a1:Int) (a2:Queue):Option ((List Queue)) :=
 gd (0≤(a0.length:Int)∧(a0.length:Int)≤(a0.length:Int)∧(a0.length:Int)≤4294967296) <|
 (zc1 (zab2 a0) (0,(List.replicate ((a0.length:Int).toNat) Queue.zero))).bind (fun z=>zN5 a1 a2 z)
theorem zaB1 (a0:List Queue) (a1:Int) (a2:Queue) (r:(List Queue)) (h:zn1 a0 a1 a2=some r):MFn C 57 [.sl (a0.map Queue.enc),.int .i64 a1,.agg (Queue.enc a2)] [] 0 (.own 0 0 r.length) [(0,⟨false,8,(Queue.enc Queue.zero),r.map Queue.enc⟩)] 1:=by
 refine zn3 (rl:=[.own 0 0 r.length]) zeG2 rfl rfl rfl rfl fun E hG hN hK=>?_
 unfold zdQ3
 unfold zn1 at h
 refine za0 (za1 hG ?_)
 refine za0 ?_
 obtain ⟨hb7,h⟩:=za2 h
 refine za1 hG ?_
 refine za0 (za0 (za1 hG ?_))
 refine zb5 (zeo3 a1 a2) (fun v=>zN5 a1 a2 v=some r) ?_ ?_
 · intro j1 h
   unfold zN5 at h
   refine g_st ?_
   refine za0 (za0 (za1 hG ?_))
   refine za4 rfl hG h (fun _ h=>?_) (fun _ h=>?_)
   · obtain ⟨hb1,h⟩:=za2 h
     refine za1 hG ?_
     refine za0 (za1 hG ?_)
     refine za7 ?_
     exact zA5 [(0,1)] h
   refine za5 ?_
   refine za0 (za1 hG ?_)
   refine za7 ?_
   exact zA5 [(0,1)] h
 refine zd8 (zeo4 a0 a1 a2) hK [(0,0),(1,2)] h (fun x_l1 h g1 y_l1 h_l1 hx_l1=>?_)
 unfold zab2 at h_l1
 refine g_st ?_
 refine za0 (za1 hG ?_)
 refine za0 ?_
 refine za4 rfl hG h_l1 (fun _ h_l1=>?_) (fun _ h_l1=>?_)
 · refine za5 ?_
   refine za0 (zb6 (za0 ?_))
   obtain ⟨hb6,h_l1⟩:=za2 h_l1
   refine za1 hG ?_
   refine za0 ?_
   obtain ⟨hb5,h_l1⟩:=za2 h_l1
   refine za1 hG ?_
   refine za0 ?_
   obtain ⟨hb4,h_l1⟩:=za2 h_l1
   refine za1 hG ?_
   refine za0 ?_
   obtain ⟨hb3,h_l1⟩:=za2 h_l1
   refine za1 hG ?_
   obtain ⟨hb2,h_l1⟩:=za2 h_l1
   refine za1 hG ?_
   refine za1 hG ?_
   exact zc7 hK [(0,0),(1,1)] h_l1
 refine zc3 ?_
 obtain rfl:=Option.some.inj h_l1
 have hx:=hx_l1 _ rfl
 subst hx
 try dsimp only at h
 exact zc5 hK [(0,0),(1,1)] g1.2 (by exact h)
attribute [local irreducible] zn1
noncomputable def zr4 (a0:Queue):Option (Queue) :=
 gd (a0.holds.length≤4294967296) <|
 gd (a0.converts.length≤4294967296) <|
 gd (a0.waits.length≤4294967296) <|
 some a0
theorem zbc2 (a0:Queue) (r:Queue) (h:zr4 a0=some r):PFn C 88 [.agg (Queue.enc a0)] (.agg (Queue.enc r)):=by
 refine za8 zeG3 rfl fun E hG hN hK=>?_
 unfold zdQ9
 unfold zr4 at h
 refine za0 (za1 hG ?_)
 refine za0 ?_
 obtain ⟨hb3,h⟩:=za2 h
 refine za1 hG ?_
 refine za0 ?_
 obtain ⟨hb2,h⟩:=za2 h
 refine za1 hG ?_
 refine za0 ?_
 obtain ⟨hb1,h⟩:=za2 h
 refine za1 hG ?_
 refine za0 (za1 hG ?_)
 refine za7 ?_
 exact zb0 h
attribute [local irreducible] zr4
noncomputable def zn6 (a0:Queue) (a1:Proc):Option (Queue×Proc) :=
 (zi8 a0.holds a1 ({ Amount.zero with  })).bind fun v1 =>
 some ({ a0 with holds:=v1 },a1)
theorem zaw1 (a0:Queue) (a1:Proc) (r:Queue×Proc) (h:zn6 a0 a1=some r):MFn C 105 [.ptr 0 0 0,.ptr 1 0 0] [(0,⟨false,8,(Queue.enc Queue.zero),[Queue.enc a0]⟩),(1,⟨false,3,(Proc.enc Proc.zero),[Proc.enc a1]⟩)] 2 (.tup []) [(0,⟨false,8,(Queue.enc Queue.zero),[Queue.enc r.1]⟩),(1,⟨false,3,(Proc.enc Proc.zero),[Proc.enc r.2]⟩)] 2:=by
 refine zn3 (rl:=[]) zeG4 rfl rfl rfl rfl fun E hG hN hK=>?_
 unfold zdR1
 unfold zn6 at h
 refine za1 hG ?_
 obtain ⟨v1,hv1,h⟩:=za3 h
 refine za6 (fun hg=>zaf5 a0.holds a1 ({ Amount.zero with  }) _ (hv1)) ?_
 exact zA5 [(0,0),(1,1)] h
attribute [local irreducible] zn6
noncomputable def zQ2 (a0:List Wait) (j1:(List Wait)):Option ((List Wait)×Bool) :=
 some (j1,(decide (((j1.length:Nat):Int) < (a0.length:Int))))
@[go_sem] def zeo5 (a0:List Wait) (j1:(List Wait)):St:=⟨[(0,.sl (a0.map Wait.enc)),(6,.own 0 0 j1.length)],[(0,⟨false,7,(Wait.enc Wait.zero),j1.map Wait.enc⟩)],1⟩
noncomputable def zw7 (a0:List Wait) (a1:Proc) (g1:Int×(List Wait)):Option ((Int×(List Wait))⊕(((List Wait)))) :=
 (if (decide (g1.1 < (a0.length:Int)))=true then
  gd (0≤g1.1∧g1.1 < (a0.length:Int)) <|
  (if (!decide ((a0.getD g1.1.toNat Wait.zero).proc=a1))=true then
   gd (g1.2.length+1≤4294967296) <|
   some (.inl ((IntKind.i64.wrap (g1.1+1)),(g1.2++[(a0.getD g1.1.toNat Wait.zero)])))
  else
   some (.inl ((IntKind.i64.wrap (g1.1+1)),g1.2)))
 else
  some (.inr g1.2))
@[go_sem] def zeo6 (a0:List Wait) (a1:Proc) (g1:Int×(List Wait)):St:=⟨[(0,.sl (a0.map Wait.enc)),(3,.ptr 0 0 0),(6,.own 1 0 g1.2.length),(9,.sl (a0.map Wait.enc)),(10,.int .i64 (a0.length:Int)),(11,.int .i64 g1.1)],[(0,⟨false,3,(Proc.enc Proc.zero),[Proc.enc a1]⟩),(1,⟨false,7,(Wait.enc Wait.zero),g1.2.map Wait.enc⟩)],2⟩
noncomputable def zm4 (a0:List Wait) (a1:Proc):Option ((List Wait)×Bool) :=
 (zc1 (zw7 a0 a1) (0,[])).bind (fun z=>zQ2 a0 z)
theorem zaw2 (a0:List Wait) (a1:Proc) (r:(List Wait)×Bool) (h:zm4 a0 a1=some r):PFn C 108 [.sl (a0.map Wait.enc),.agg (Proc.enc a1)] (.tup [.sl (r.1.map Wait.enc),.bool r.2]):=by
 refine za8 zeG5 rfl fun E hG hN hK=>?_
 unfold zdS1
 unfold zm4 at h
 refine za0 (za1 hG ?_)
 refine za0 (za1 hG ?_)
 refine za0 (za0 (za1 hG ?_))
 refine zb5 (zeo5 a0) (fun v=>zQ2 a0 v=some r) ?_ ?_
 · intro j1 h
   unfold zQ2 at h
   refine g_st ?_
   refine za0 (za1 hG ?_)
   refine za7 ?_
   exact zb0 h
 refine zd8 (zeo6 a0 a1) hK [(0,0),(1,1)] h (fun x_l1 h g1 y_l1 h_l1 hx_l1=>?_)
 unfold zw7 at h_l1
 refine g_st ?_
 refine za0 (za1 hG ?_)
 refine za0 ?_
 refine za4 rfl hG h_l1 (fun _ h_l1=>?_) (fun _ h_l1=>?_)
 · refine za5 ?_
   refine za0 (zb6 (za0 ?_))
   obtain ⟨hb2,h_l1⟩:=za2 h_l1
   refine za1 hG ?_
   refine za0 (za1 hG ?_)
   refine za4 rfl hG h_l1 (fun _ h_l1=>?_) (fun _ h_l1=>?_)
   · obtain ⟨hb1,h_l1⟩:=za2 h_l1
     refine za1 hG ?_
     refine za1 hG ?_
     exact zc7 hK [(0,0),(1,3)] h_l1
   refine za5 ?_
   refine za1 hG ?_
   exact zc7 hK [(0,0),(1,1)] h_l1
 refine zc3 ?_
 obtain rfl:=Option.some.inj h_l1
 have hx:=hx_l1 _ rfl
 subst hx
 try dsimp only at h
 exact zc5 hK [(0,1)] g1.2 (by exact h)
attribute [local irreducible] zm4
noncomputable def zn7 (a0:Queue) (a1:Proc):Option (Queue×Proc) :=
 (zm4 a0.converts a1).bind fun v1 =>
 some ({ a0 with converts:=v1.1 },a1)
theorem zaw3 (a0:Queue) (a1:Proc) (r:Queue×Proc) (h:zn7 a0 a1=some r):MFn C 107 [.ptr 0 0 0,.ptr 1 0 0] [(0,⟨false,8,(Queue.enc Queue.zero),[Queue.enc a0]⟩),(1,⟨false,3,(Proc.enc Proc.zero),[Proc.enc a1]⟩)] 2 (.tup []) [(0,⟨false,8,(Queue.enc Queue.zero),[Queue.enc r.1]⟩),(1,⟨false,3,(Proc.enc Proc.zero),[Proc.enc r.2]⟩)] 2:=by
 refine zn3 (rl:=[]) zeG6 rfl rfl rfl rfl fun E hG hN hK=>?_
 unfold zdS3
 unfold zn7 at h
 refine za1 hG ?_
 obtain ⟨v1,hv1,h⟩:=za3 h
 refine za6 (fun hg=>zaw2 a0.converts a1 _ (hv1)) ?_
 exact zA5 [(0,0),(1,1)] h
attribute [local irreducible] zn7
noncomputable def zn8 (a0:Queue) (a1:Proc):Option (Queue×Proc) :=
 (zm4 a0.waits a1).bind fun v1 =>
 some ({ a0 with waits:=v1.1 },a1)
theorem zaw4 (a0:Queue) (a1:Proc) (r:Queue×Proc) (h:zn8 a0 a1=some r):MFn C 109 [.ptr 0 0 0,.ptr 1 0 0] [(0,⟨false,8,(Queue.enc Queue.zero),[Queue.enc a0]⟩),(1,⟨false,3,(Proc.enc Proc.zero),[Proc.enc a1]⟩)] 2 (.tup []) [(0,⟨false,8,(Queue.enc Queue.zero),[Queue.enc r.1]⟩),(1,⟨false,3,(Proc.enc Proc.zero),[Proc.enc r.2]⟩)] 2:=by
 refine zn3 (rl:=[]) zeG7 rfl rfl rfl rfl fun E hG hN hK=>?_
 unfold zdS5
 unfold zn8 at h
 refine za1 hG ?_
 obtain ⟨v1,hv1,h⟩:=za3 h
 refine za6 (fun hg=>zaw2 a0.waits a1 _ (hv1)) ?_
 exact zA5 [(0,0),(1,1)] h
attribute [local irreducible] zn8
noncomputable def zE6  (j1:Queue×Proc):Option (Queue×(List Hold)×Int×Queue×Proc) :=
 (ze3 j1.1).bind fun v1 =>
 some ({ v1.2 with gen:=(zg1 v1.2.gen) },v1.1,0,{ v1.2 with gen:=(zg1 v1.2.gen) },j1.2)
@[go_sem] def zeo7  (j1:Queue×Proc):St:=⟨[(0,.ptr 0 0 0),(4,.ptr 3 0 0)],[(0,⟨false,8,(Queue.enc Queue.zero),[Queue.enc j1.1]⟩),(1,⟨false,1,[A.any],[[.clo 105 [.ptr 0 0 0,.ptr 2 0 0]],[.clo 107 [.ptr 0 0 0,.ptr 2 0 0]],[.clo 109 [.ptr 0 0 0,.ptr 2 0 0]]]⟩),(2,⟨false,3,(Proc.enc Proc.zero),[Proc.enc j1.2]⟩),(3,⟨false,8,(Queue.enc Queue.zero),[Queue.enc Queue.zero]⟩)],4⟩
noncomputable def zq1 (a0:Queue) (a1:Proc):Option (Queue×(List Hold)×Int×Queue×Proc) :=
 gd (0≤0∧0 < (3:Int)) <|
 (zn6 a0 a1).bind fun v2 =>
 gd (0≤1∧1 < (3:Int)) <|
 (zn7 v2.1 v2.2).bind fun v3 =>
 gd (0≤2∧2 < (3:Int)) <|
 (zn8 v3.1 v3.2).bind fun v4 =>
 zE6 (v4.1,v4.2)
theorem zaB2 (a0:Queue) (a1:Proc) (r:Queue×(List Hold)×Int×Queue×Proc) (h:zq1 a0 a1=some r):MFn C 91 [.ptr 0 0 0,.own 1 0 3] [(0,⟨false,8,(Queue.enc Queue.zero),[Queue.enc a0]⟩),(1,⟨false,1,[A.any],[[.clo 105 [.ptr 0 0 0,.ptr 2 0 0]],[.clo 107 [.ptr 0 0 0,.ptr 2 0 0]],[.clo 109 [.ptr 0 0 0,.ptr 2 0 0]]]⟩),(2,⟨false,3,(Proc.enc Proc.zero),[Proc.enc a1]⟩)] 3 (.tup [.agg (Queue.enc r.1),.sl (r.2.1.map Hold.enc),.int .i64 r.2.2.1]) [(0,⟨false,8,(Queue.enc Queue.zero),[Queue.enc r.2.2.2.1]⟩),(1,⟨false,1,[A.any],[[.clo 105 [.ptr 0 0 0,.ptr 2 0 0]],[.clo 107 [.ptr 0 0 0,.ptr 2 0 0]],[.clo 109 [.ptr 0 0 0,.ptr 2 0 0]]]⟩),(2,⟨false,3,(Proc.enc Proc.zero),[Proc.enc r.2.2.2.2]⟩)] 3:=by
 refine zn3 (rl:=[.agg (Queue.enc r.1),.sl (r.2.1.map Hold.enc),.int .i64 r.2.2.1]) zeG8 rfl rfl rfl rfl fun E hG hN hK=>?_
 unfold zdT5
 unfold zq1 at h
 refine za0 (za1 hG ?_)
 refine za0 (za0 (za1 hG ?_))
 refine zb5 (zeo7) (fun v=>zE6 v=some r) ?_ ?_
 · intro j1 h
   unfold zE6 at h
   refine g_st ?_
   refine za0 (za1 hG ?_)
   obtain ⟨v1,hv1,h⟩:=za3 h
   refine zq0 [(0,0)] [] [0] (zQ9 j1.1 _ hv1) rfl rfl ?_
   refine za0 (za1 hG ?_)
   refine za6 (fun hg=>zak9 v1.2.gen) ?_
   refine za0 (za1 hG ?_)
   refine za7 ?_
   exact zA5 [(0,0),(1,1),(2,2)] h
 refine zaL7 5 ?_
 refine zaj5 ?_
 refine za0 (za1 hG ?_)
 refine za0 ?_
 refine zaH3 rfl hG ?_
 refine za5 ?_
 refine za0 (zb6 (za0 ?_))
 obtain ⟨hb3,h⟩:=za2 h
 refine za1 hG ?_
 refine za1 hG ?_
 obtain ⟨v2,hv2,h⟩:=za3 h
 refine zq0 [(0,0),(1,2)] [] [0,1] (zaw1 a0 a1 _ hv2) rfl rfl ?_
 refine za1 hG ?_
 refine zaj5 ?_
 refine za0 (za1 hG ?_)
 refine za0 ?_
 refine zaH3 rfl hG ?_
 refine za5 ?_
 refine za0 (zb6 (za0 ?_))
 obtain ⟨hb2,h⟩:=za2 h
 refine za1 hG ?_
 refine za1 hG ?_
 obtain ⟨v3,hv3,h⟩:=za3 h
 refine zq0 [(0,0),(1,2)] [] [0,1] (zaw3 v2.1 v2.2 _ hv3) rfl rfl ?_
 refine za1 hG ?_
 refine zaj5 ?_
 refine za0 (za1 hG ?_)
 refine za0 ?_
 refine zaH3 rfl hG ?_
 refine za5 ?_
 refine za0 (zb6 (za0 ?_))
 obtain ⟨hb1,h⟩:=za2 h
 refine za1 hG ?_
 refine za1 hG ?_
 obtain ⟨v4,hv4,h⟩:=za3 h
 refine zq0 [(0,0),(1,2)] [] [0,1] (zaw4 v3.1 v3.2 _ hv4) rfl rfl ?_
 refine za1 hG ?_
 refine zaj5 ?_
 refine za0 (za1 hG ?_)
 refine za0 ?_
 refine zbp9 rfl hG ?_
 refine zc3 ?_
 exact zc5 hK [(0,0),(1,1),(2,2),(3,3)] (v4.1,v4.2) (by exact h)
attribute [local irreducible] zq1
end Ab
end Go.Proofs.YtfjeceicgfdmjaaGreatDoor
