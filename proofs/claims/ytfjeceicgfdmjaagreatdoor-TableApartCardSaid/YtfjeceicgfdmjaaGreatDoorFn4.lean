/-
  Functions of the program,as Lean functions; what the program's code computes is what they say.
-/
import Derived.Test.YtfjeceicgfdmjaaGreatDoorFn3
namespace Go.Proofs.YtfjeceicgfdmjaaGreatDoor
namespace Ab
set_option linter.unusedSimpArgs false
set_option linter.unusedVariables false
set_option maxRecDepth 100000
set_option maxHeartbeats 1000000
attribute [local irreducible] zf3 zd3 zj5 zv5 zs3 zg6 ze1 zo1 zv6 zn8 zn9 zj6 ze0 zg7 zf4 zg8 zm1 zh2 zm8 zk3 zg9 ze6 zn1 zf8 zo2 zp4 zi1 zi8 zj9 zj7 zh5 zh0 zc8 zc6 zo3 zq2 zb7 zc0 zh1 zo4 zm3 zk4 zr5 zx1 zc9 zc1 zj8 zk0 zl5 zG2 zq4 zk5 ze4 zm4 zq5 zk6 zk7 zq6 zf9 zl6 zo5 zm5 zk8 zk9 zi4 zp5 zu1 zR1 zo6 zi9 zo7 zn2 zq7 zv7 zo8 zx6 zs6 zx7 zl7 zl1 zt3 zo9 zt4 zl8 zi6 zt5
noncomputable def zP7  (j1:(List Proc)):Option ((List Proc)) :=
 (zi6 j1).bind fun v1 =>
 some v1
@[go_sem] def zel4  (j1:(List Proc)):St:=⟨[(3,.own 0 0 j1.length)],[(0,⟨false,3,(Proc.enc Proc.zero),j1.map Proc.enc⟩)],1⟩
noncomputable def zH5 (a0:List Queue) (g1:Int×(List Proc)):Option ((Int×(List Proc))⊕(((List Proc)))) :=
 (if (decide (g1.1 < (a0.length:Int)))=true then
  gd (0≤g1.1∧g1.1 < (a0.length:Int)) <|
  (zt5 (a0.getD g1.1.toNat Queue.zero)).bind fun v2 =>
  gd (g1.2.length+v2.length≤4294967296) <|
  some (.inl ((IntKind.i64.wrap (g1.1+1)),(g1.2++v2)))
 else
  some (.inr g1.2))
@[go_sem] def zel5 (a0:List Queue) (g1:Int×(List Proc)):St:=⟨[(0,.sl (a0.map Queue.enc)),(3,.own 0 0 g1.2.length),(4,.int .i64 g1.1)],[(0,⟨false,3,(Proc.enc Proc.zero),g1.2.map Proc.enc⟩)],1⟩
noncomputable def zq8 (a0:List Queue):Option ((List Proc)) :=
 (zb9 (zH5 a0) (0,[])).bind (fun z=>zP7 z)
theorem zau9 (a0:List Queue) (r:(List Proc)) (h:zq8 a0=some r):PFn C 37 [.sl (a0.map Queue.enc)] (.sl (r.map Proc.enc)):=by
 refine za8 zez9 rfl fun E hG hN hK=>?_
 unfold zds3
 unfold zq8 at h
 refine za0 (za1 hG ?_)
 refine za0 (za1 hG ?_)
 refine za0 (za0 (za1 hG ?_))
 refine zb4 (zel4) (fun v=>zP7 v=some r) ?_ ?_
 · intro j1 h
   unfold zP7 at h
   refine g_st ?_
   refine za0 (za1 hG ?_)
   obtain ⟨v1,hv1,h⟩:=za2 h
   refine za6 (fun hg=>zaf8 j1 _ (hv1)) ?_
   refine za7 ?_
   exact zb0 h
 refine zd9 (zel5 a0) hK [(0,0)] h (fun x_l1 h g1 y_l1 h_l1 hx_l1=>?_)
 unfold zH5 at h_l1
 refine g_st ?_
 refine za0 (za0 (za1 hG ?_))
 refine za4 rfl hG h_l1 (fun _ h_l1=>?_) (fun _ h_l1=>?_)
 · refine za5 ?_
   refine za0 (zb6 ?_)
   obtain ⟨hb1,h_l1⟩:=za3 h_l1
   refine za1 hG ?_
   obtain ⟨v2,hv2,h_l1⟩:=za2 h_l1
   obtain ⟨hb2,h_l1⟩:=za3 h_l1
   refine za6 (fun hg=>zbb2 (a0.getD g1.1.toNat Queue.zero) _ (hv2)) ?_
   refine za1 hG ?_
   exact zd1 hK [(0,1)] h_l1
 refine zc7 ?_
 obtain rfl:=Option.some.inj h_l1
 have hx:=hx_l1 _ rfl
 subst hx
 try dsimp only at h
 exact zc5 hK [(0,0)] g1.2 (by exact h)
attribute [local irreducible] zq8
noncomputable def zl2 (a0:List Queue):Option (Bool) :=
 (zt3 a0).bind fun v1 =>
 ((if v1=true then zq8 a0 else some ([]))).bind fun v2 =>
 some (v1&&(decide ((v2.length:Int)≤8)))
theorem zU9 (a0:List Queue) (r:Bool) (h:zl2 a0=some r):PFn C 38 [.sl (a0.map Queue.enc)] (.bool r):=by
 refine za8 zeA0 rfl fun E hG hN hK=>?_
 unfold zds6
 unfold zl2 at h
 refine za0 (za1 hG ?_)
 refine za0 (za1 hG ?_)
 obtain ⟨v1,hv1,h⟩:=za2 h
 refine za6 (fun hg=>zbb0 a0 _ (hv1)) ?_
 obtain ⟨v2,hv2,h⟩:=za2 h
 refine za6 (fun hg=>zau9 a0 _ (zA6 hg hv2)) ?_
 refine za7 ?_
 exact zb0 h
attribute [local irreducible] zl2
noncomputable def zab9  (j1:Unit):Option (Int) :=
 some (-1)
@[go_sem] def zel6  (j1:Unit):St:=⟨[],[],0⟩
noncomputable def zR6 (a0:List Queue) (a1:ByteArray) (g1:Int):Option ((Int)⊕((Unit)⊕(Int))) :=
 (if (decide (g1 < (a0.length:Int)))=true then
  gd (0≤g1∧g1 < (a0.length:Int)) <|
  (if ((((a0.getD g1.toNat Queue.zero).resource).name).toList == a1.toList)=true then
   some (.inr (.inr g1))
  else
   some (.inl (IntKind.i64.wrap (g1+1))))
 else
  some (.inr (.inl ())))
@[go_sem] def zel7 (a0:List Queue) (a1:ByteArray) (g1:Int):St:=⟨[(0,.sl (a0.map Queue.enc)),(1,.str a1),(5,.int .i64 g1)],[],0⟩
noncomputable def zu2 (a0:List Queue) (a1:ByteArray):Option (Int) :=
 (zb9 (zR6 a0 a1) 0).bind (fun | .inl z=>zab9 z | .inr z=>some z)
theorem zak3 (a0:List Queue) (a1:ByteArray) (r:Int) (h:zu2 a0 a1=some r):PFn C 27 [.sl (a0.map Queue.enc),.str a1] (.int .i64 r):=by
 refine za8 zeA1 rfl fun E hG hN hK=>?_
 unfold zdt4
 unfold zu2 at h
 refine za0 (za1 hG ?_)
 refine za0 (za0 (za1 hG ?_))
 refine zb4 (zel6) (fun v=>zab9 v=some r) ?_ ?_
 · intro j1 h
   unfold zab9 at h
   refine g_st ?_
   refine za0 (za1 hG ?_)
   refine za7 ?_
   exact zb0 h
 refine zd9 (zel7 a0 a1) hK [] h (fun x_l1 h g1 y_l1 h_l1 hx_l1=>?_)
 unfold zR6 at h_l1
 refine g_st ?_
 refine za0 (za0 (za1 hG ?_))
 refine za4 rfl hG h_l1 (fun _ h_l1=>?_) (fun _ h_l1=>?_)
 · refine za5 ?_
   refine za0 (zb6 (za0 ?_))
   obtain ⟨hb1,h_l1⟩:=za3 h_l1
   refine za1 hG ?_
   refine za4 rfl hG h_l1 (fun _ h_l1=>?_) (fun _ h_l1=>?_)
   · refine za0 (za1 hG ?_)
     refine za7 ?_
     obtain rfl:=Option.some.inj h_l1
     have hx:=hx_l1 _ rfl
     subst hx
     try dsimp only at h
     exact zb0 h
   refine za5 ?_
   refine za1 hG ?_
   exact zd1 hK [] h_l1
 refine zc7 ?_
 obtain rfl:=Option.some.inj h_l1
 have hx:=hx_l1 _ rfl
 subst hx
 try dsimp only at h
 exact zc5 hK [] () (by exact h)
attribute [local irreducible] zu2
noncomputable def zl9 (a0:Queue) (a1:Proc):Option (Amount×Bool) :=
 (zn2 a0.converts a1).bind fun v1 =>
 (if (decide (0≤v1))=true then
  gd (0≤v1∧v1 < (a0.converts.length:Int)) <|
  some ((a0.converts.getD v1.toNat Wait.zero).amount,true)
 else
  (zn2 a0.waits a1).bind fun v2 =>
  (if (decide (0≤v2))=true then
   gd (0≤v2∧v2 < (a0.waits.length:Int)) <|
   some ((a0.waits.getD v2.toNat Wait.zero).amount,true)
  else
   some ({ Amount.zero with  },false)))
theorem zac0 (a0:Queue) (a1:Proc) (r:Amount×Bool) (h:zl9 a0 a1=some r):PFn C 99 [.agg (Queue.enc a0),.agg (Proc.enc a1)] (.tup [.agg (Amount.enc r.1),.bool r.2]):=by
 refine za8 zeA2 rfl fun E hG hN hK=>?_
 unfold zdu3
 unfold zl9 at h
 refine za0 (za1 hG ?_)
 refine za0 (za0 (za1 hG ?_))
 obtain ⟨v1,hv1,h⟩:=za2 h
 refine za6 (fun hg=>zR2 a0.converts a1 _ (hv1)) ?_
 refine za0 (za1 hG ?_)
 refine za4 rfl hG h (fun _ h=>?_) (fun _ h=>?_)
 · refine za0 ?_
   obtain ⟨hb1,h⟩:=za3 h
   refine za1 hG ?_
   refine za7 ?_
   exact zb0 h
 refine za5 ?_
 refine za0 (za0 (za1 hG ?_))
 obtain ⟨v2,hv2,h⟩:=za2 h
 refine za6 (fun hg=>zR2 a0.waits a1 _ (hv2)) ?_
 refine za0 (za1 hG ?_)
 refine za4 rfl hG h (fun _ h=>?_) (fun _ h=>?_)
 · refine za0 ?_
   obtain ⟨hb2,h⟩:=za3 h
   refine za1 hG ?_
   refine za7 ?_
   exact zb0 h
 refine za5 ?_
 refine za0 (za1 hG ?_)
 refine za7 ?_
 exact zb0 h
attribute [local irreducible] zl9
noncomputable def zu3 (a0:Queue):Option (Queue) :=
 gd (a0.holds.length≤4294967296) <|
 gd (a0.converts.length≤4294967296) <|
 gd (a0.waits.length≤4294967296) <|
 some a0
theorem zaM4 (a0:Queue) (r:Queue) (h:zu3 a0=some r):MFn C 100 [.agg (Queue.enc a0)] [] 0 (.agg [.str r.resource.name,.int .i64 r.resource.kind,.int .i64 r.resource.units,.int .i64 r.resource.home,.own 0 0 r.holds.length,.own 1 0 r.converts.length,.own 2 0 r.waits.length,.int .i64 r.gen]) [(0,⟨false,5,(Hold.enc Hold.zero),r.holds.map Hold.enc⟩),(1,⟨false,7,(Wait.enc Wait.zero),r.converts.map Wait.enc⟩),(2,⟨false,7,(Wait.enc Wait.zero),r.waits.map Wait.enc⟩)] 3:=by
 refine zn5 (rl:=[.agg [.str r.resource.name,.int .i64 r.resource.kind,.int .i64 r.resource.units,.int .i64 r.resource.home,.own 0 0 r.holds.length,.own 1 0 r.converts.length,.own 2 0 r.waits.length,.int .i64 r.gen]]) zeA3 rfl rfl rfl rfl fun E hG hN hK=>?_
 unfold zdu9
 unfold zu3 at h
 refine za0 (za1 hG ?_)
 refine za0 ?_
 obtain ⟨hb3,h⟩:=za3 h
 refine za1 hG ?_
 refine za0 ?_
 obtain ⟨hb2,h⟩:=za3 h
 refine za1 hG ?_
 refine za0 ?_
 obtain ⟨hb1,h⟩:=za3 h
 refine za1 hG ?_
 refine za0 (za1 hG ?_)
 refine za7 ?_
 exact zC2 [(0,3),(1,5),(2,7)] h
attribute [local irreducible] zu3
noncomputable def zp6 (a0:Queue) (a1:Proc):Option (Amount) :=
 (zv7 a0.holds a1).bind fun v1 =>
 some v1
theorem zak4 (a0:Queue) (a1:Proc) (r:Amount) (h:zp6 a0 a1=some r):PFn C 31 [.agg (Queue.enc a0),.agg (Proc.enc a1)] (.agg (Amount.enc r)):=by
 refine za8 zeA4 rfl fun E hG hN hK=>?_
 unfold zdv2
 unfold zp6 at h
 refine za0 (za1 hG ?_)
 refine za0 (za1 hG ?_)
 obtain ⟨v1,hv1,h⟩:=za2 h
 refine za6 (fun hg=>zap7 a0.holds a1 _ (hv1)) ?_
 refine za7 ?_
 exact zb0 h
attribute [local irreducible] zp6
noncomputable def zaf9  (j1:Unit):Option (Int) :=
 some 0
@[go_sem] def zel8  (j1:Unit):St:=⟨[],[],0⟩
noncomputable def zV0 (a0:Int) (a1:Int) (g1:Int):Option ((Int)⊕((Unit)⊕(Int))) :=
 (if (decide (g1≤5))=true then
  (if ((zy4 g1 a0)&&(zy4 g1 a1))=true then
   some (.inr (.inr g1))
  else
   some (.inl (IntKind.i64.wrap (g1+1))))
 else
  some (.inr (.inl ())))
@[go_sem] def zel9 (a0:Int) (a1:Int) (g1:Int):St:=⟨[(0,.int .i64 a0),(1,.int .i64 a1),(5,.int .i64 g1)],[],0⟩
noncomputable def zI1 (a0:Int) (a1:Int):Option (Int) :=
 (zb9 (zV0 a0 a1) 1).bind (fun | .inl z=>zaf9 z | .inr z=>some z)
theorem zbq4 (a0:Int) (a1:Int) (r:Int) (h:zI1 a0 a1=some r):PFn C 147 [.int .i64 a0,.int .i64 a1] (.int .i64 r):=by
 refine za8 zeA5 rfl fun E hG hN hK=>?_
 unfold zdw0
 unfold zI1 at h
 refine za0 (za1 hG ?_)
 refine za0 (za0 (za1 hG ?_))
 refine zb4 (zel8) (fun v=>zaf9 v=some r) ?_ ?_
 · intro j1 h
   unfold zaf9 at h
   refine g_st ?_
   refine za0 (za1 hG ?_)
   refine za7 ?_
   exact zb0 h
 refine zd9 (zel9 a0 a1) hK [] h (fun x_l1 h g1 y_l1 h_l1 hx_l1=>?_)
 unfold zV0 at h_l1
 refine g_st ?_
 refine za0 (za0 (za1 hG ?_))
 refine za4 rfl hG h_l1 (fun _ h_l1=>?_) (fun _ h_l1=>?_)
 · refine za5 ?_
   refine za0 (zb6 (za0 (za1 hG ?_)))
   refine za6 (fun hg=>zab8 g1 a0) ?_
   refine za6 (fun hg=>zab8 g1 a1) ?_
   refine za4 rfl hG h_l1 (fun _ h_l1=>?_) (fun _ h_l1=>?_)
   · refine za0 (za1 hG ?_)
     refine za7 ?_
     obtain rfl:=Option.some.inj h_l1
     have hx:=hx_l1 _ rfl
     subst hx
     try dsimp only at h
     exact zb0 h
   refine za5 ?_
   refine za1 hG ?_
   exact zd1 hK [] h_l1
 refine zc7 ?_
 obtain rfl:=Option.some.inj h_l1
 have hx:=hx_l1 _ rfl
 subst hx
 try dsimp only at h
 exact zc5 hK [] () (by exact h)
attribute [local irreducible] zI1
noncomputable def zB4 (a0:Resource) (a1:Amount) (a2:Amount):Option (Amount) :=
 (if ((!(zf2 a0 a1))||(!(zf2 a0 a2)))=true then
  some ({ Amount.zero with  })
 else
  (if (zg0 a0 a1 a2)=true then
   some a1
  else
   (if (zg0 a0 a2 a1)=true then
    some a2
   else
    (zI1 a1.mode a2.mode).bind fun v1 =>
    some ({ Amount.zero with mode:=v1 }))))
theorem zbh7 (a0:Resource) (a1:Amount) (a2:Amount) (r:Amount) (h:zB4 a0 a1 a2=some r):PFn C 102 [.agg (Resource.enc a0),.agg (Amount.enc a1),.agg (Amount.enc a2)] (.agg (Amount.enc r)):=by
 refine za8 zeA6 rfl fun E hG hN hK=>?_
 unfold zdw9
 unfold zB4 at h
 refine za0 (za1 hG ?_)
 refine za0 (za0 (za1 hG ?_))
 refine za6 (fun hg=>zC7 a0 a1) ?_
 refine za6 (fun hg=>zC7 a0 a2) ?_
 refine za4 rfl hG h (fun _ h=>?_) (fun _ h=>?_)
 · refine za0 (za1 hG ?_)
   refine za7 ?_
   exact zb0 h
 refine za5 ?_
 refine za0 (za0 (za1 hG ?_))
 refine za6 (fun hg=>zK1 a0 a1 a2) ?_
 refine za4 rfl hG h (fun _ h=>?_) (fun _ h=>?_)
 · refine za0 (za1 hG ?_)
   refine za7 ?_
   exact zb0 h
 refine za5 ?_
 refine za0 (za0 (za1 hG ?_))
 refine za6 (fun hg=>zK1 a0 a2 a1) ?_
 refine za4 rfl hG h (fun _ h=>?_) (fun _ h=>?_)
 · refine za0 (za1 hG ?_)
   refine za7 ?_
   exact zb0 h
 refine za5 ?_
 refine za0 (za1 hG ?_)
 obtain ⟨v1,hv1,h⟩:=za2 h
 refine za6 (fun hg=>zbq4 a1.mode a2.mode _ (hv1)) ?_
 refine za7 ?_
 exact zb0 h
attribute [local irreducible] zB4
noncomputable def zr6 (a0:Queue):Option (Queue) :=
 gd (a0.holds.length≤4294967296) <|
 gd (a0.converts.length≤4294967296) <|
 gd (a0.waits.length≤4294967296) <|
 some a0
theorem zak5 (a0:Queue) (r:Queue) (h:zr6 a0=some r):PFn C 100 [.agg (Queue.enc a0)] (.agg (Queue.enc r)):=by
 refine za8 zeA7 rfl fun E hG hN hK=>?_
 unfold zdx5
 unfold zr6 at h
 refine za0 (za1 hG ?_)
 refine za0 ?_
 obtain ⟨hb3,h⟩:=za3 h
 refine za1 hG ?_
 refine za0 ?_
 obtain ⟨hb2,h⟩:=za3 h
 refine za1 hG ?_
 refine za0 ?_
 obtain ⟨hb1,h⟩:=za3 h
 refine za1 hG ?_
 refine za0 (za1 hG ?_)
 refine za7 ?_
 exact zb0 h
attribute [local irreducible] zr6
noncomputable def zS2  (j1:Queue×(List Hold)):Option (Queue×(List Hold)) :=
 some (j1.1,j1.2)
@[go_sem] def zem0  (j1:Queue×(List Hold)):St:=⟨[(1,.ptr 0 0 0),(2,.ptr 1 0 0),(4,.own 2 0 j1.2.length)],[(0,⟨false,8,(Queue.enc Queue.zero),[Queue.enc j1.1]⟩),(1,⟨false,8,(Queue.enc Queue.zero),[Queue.enc Queue.zero]⟩),(2,⟨false,5,(Hold.enc Hold.zero),j1.2.map Hold.enc⟩)],3⟩
noncomputable def zx2 (g1:Queue×(List Hold)) (v4:Wait×Bool) (j2:Queue):Option ((Queue×(List Hold))⊕((Queue×(List Hold)))) :=
 (zs6 j2.holds v4.1.proc v4.1.amount).bind fun v5 =>
 gd (g1.2.length+1≤4294967296) <|
 some (.inl ({ j2 with holds:=v5 },(g1.2++[(⟨v4.1.proc,v4.1.amount⟩:Hold)])))
@[go_sem] def zem1 (g1:Queue×(List Hold)) (v4:Wait×Bool) (j2:Queue):St:=⟨[(1,.ptr 0 0 0),(2,.ptr 1 0 0),(4,.own 2 0 g1.2.length),(5,.ptr 3 0 0)],[(0,⟨false,8,(Queue.enc Queue.zero),[Queue.enc j2]⟩),(1,⟨false,8,(Queue.enc Queue.zero),[Queue.enc Queue.zero]⟩),(2,⟨false,5,(Hold.enc Hold.zero),g1.2.map Hold.enc⟩),(3,⟨false,7,(Wait.enc Wait.zero),[Wait.enc v4.1]⟩)],4⟩
noncomputable def zC9  (g1:Queue×(List Hold)):Option ((Queue×(List Hold))⊕((Queue×(List Hold)))) :=
 (zl7 g1.1).bind fun v3 =>
 (if (!v3)=true then
  (zx6 g1.1).bind fun v4 =>
  (if (decide (0 < (g1.1.converts.length:Int)))=true then
   gd (0≤1∧1≤(g1.1.converts.length:Int)∧(g1.1.converts.length:Int)≤(g1.1.converts.length:Int)) <|
   zx2 g1 v4 ({ g1.1 with converts:=(g1.1.converts.drop 1) })
  else
   gd (0≤1∧1≤(g1.1.waits.length:Int)∧(g1.1.waits.length:Int)≤(g1.1.waits.length:Int)) <|
   zx2 g1 v4 ({ g1.1 with waits:=(g1.1.waits.drop 1) }))
 else
  some (.inr (g1.1,g1.2)))
@[go_sem] def zem2  (g1:Queue×(List Hold)):St:=⟨[(1,.ptr 0 0 0),(2,.ptr 1 0 0),(4,.own 2 0 g1.2.length)],[(0,⟨false,8,(Queue.enc Queue.zero),[Queue.enc g1.1]⟩),(1,⟨false,8,(Queue.enc Queue.zero),[Queue.enc Queue.zero]⟩),(2,⟨false,5,(Hold.enc Hold.zero),g1.2.map Hold.enc⟩)],3⟩
noncomputable def zr7 (a0:Queue):Option (Queue×(List Hold)) :=
 (zo8 a0).bind fun v1 =>
 (if (!v1)=true then
  some ({ Queue.zero with  },[])
 else
  (zr6 a0).bind fun v2 =>
  (zb9 (zC9) (v2,[])).bind (fun z=>zS2 z))
theorem zaM5 (a0:Queue) (r:Queue×(List Hold)) (h:zr7 a0=some r):PFn C 148 [.agg (Queue.enc a0)] (.tup [.agg (Queue.enc r.1),.sl (r.2.map Hold.enc)]):=by
 refine za8 zeA8 rfl fun E hG hN hK=>?_
 unfold zdy6
 unfold zr7 at h
 refine za0 (za1 hG ?_)
 refine za0 (za0 (za1 hG ?_))
 obtain ⟨v1,hv1,h⟩:=za2 h
 refine za6 (fun hg=>zaf7 a0 _ (hv1)) ?_
 refine za4 rfl hG h (fun _ h=>?_) (fun _ h=>?_)
 · refine za0 (za1 hG ?_)
   refine za7 ?_
   exact zb0 h
 refine za5 ?_
 refine za0 (za1 hG ?_)
 obtain ⟨v2,hv2,h⟩:=za2 h
 refine za6 (fun hg=>zak5 a0 _ (hv2)) ?_
 refine za0 (za1 hG ?_)
 refine za0 ?_
 refine zb4 (zem0) (fun v=>zS2 v=some r) ?_ ?_
 · intro j1 h
   unfold zS2 at h
   refine g_st ?_
   refine za0 (za1 hG ?_)
   refine za7 ?_
   exact zb0 h
 refine zd9 (zem2) hK [(0,0),(1,1),(2,2)] h (fun x_l1 h g1 y_l1 h_l1 hx_l1=>?_)
 unfold zC9 at h_l1
 refine g_st ?_
 refine za0 (za0 (za1 hG ?_))
 obtain ⟨v3,hv3,h_l1⟩:=za2 h_l1
 refine za6 (fun hg=>zam8 g1.1 _ (hv3)) ?_
 refine za4 rfl hG h_l1 (fun _ h_l1=>?_) (fun _ h_l1=>?_)
 · refine za5 ?_
   refine zb6 (za0 (za1 hG ?_))
   obtain ⟨v4,hv4,h_l1⟩:=za2 h_l1
   refine za6 (fun hg=>zaB8 g1.1 _ (hv4)) ?_
   refine za0 (za0 (za1 hG ?_))
   refine zaV3 (zem1 g1 v4) (fun v=>zx2 g1 v4 v=some y_l1) rfl hG h_l1 ?_ (fun _ h_l1=>?_) (fun _ h_l1=>?_)
   · intro j2 h_l1
     unfold zx2 at h_l1
     refine g_st ?_
     refine za0 (za1 hG ?_)
     obtain ⟨v5,hv5,h_l1⟩:=za2 h_l1
     refine za6 (fun hg=>zap8 j2.holds v4.1.proc v4.1.amount _ (hv5)) ?_
     obtain ⟨hb1,h_l1⟩:=za3 h_l1
     refine za1 hG ?_
     exact zd1 hK [(0,0),(1,1),(2,4)] h_l1
   · obtain ⟨hb2,h_l1⟩:=za3 h_l1
     refine za1 hG ?_
     exact zc5 hK [(0,0),(1,1),(2,2),(3,3)] ({ g1.1 with converts:=(g1.1.converts.drop 1) }) (by exact h_l1)
   obtain ⟨hb3,h_l1⟩:=za3 h_l1
   refine za1 hG ?_
   exact zc5 hK [(0,0),(1,1),(2,2),(3,3)] ({ g1.1 with waits:=(g1.1.waits.drop 1) }) (by exact h_l1)
 refine zc7 ?_
 obtain rfl:=Option.some.inj h_l1
 have hx:=hx_l1 _ rfl
 subst hx
 try dsimp only at h
 exact zc5 hK [(0,0),(1,1),(2,2)] (g1.1,g1.2) (by exact h)
attribute [local irreducible] zr7
def zV1 (a0:Int):Int :=
 (if ((decide (a0 < 0))||(decide (1073741824≤a0)))=true then
  1
 else
  (IntKind.i64.wrap (a0+1)))
theorem zbh8 (a0:Int):PFn C 149 [.int .i64 a0] (.int .i64 (zV1 a0)):=by
 generalize h:zV1 a0=r
 refine za8 zeA9 rfl fun E hG hN hK=>?_
 unfold zdz1
 unfold zV1 at h
 refine za0 (za1 hG ?_)
 refine za0 (za0 (za1 hG ?_))
 refine za4 rfl hG h (fun _ h=>?_) (fun _ h=>?_)
 · refine za0 (za1 hG ?_)
   refine za7 ?_
   exact zf1 h
 refine za5 ?_
 refine za0 (za1 hG ?_)
 refine za7 ?_
 exact zf1 h
noncomputable def zi2 (a0:Queue):Option (Queue×(List Hold)×Int) :=
 (zr7 a0).bind fun v1 =>
 some ({ v1.1 with gen:=(zV1 a0.gen) },v1.2,0)
theorem zP8 (a0:Queue) (r:Queue×(List Hold)×Int) (h:zi2 a0=some r):PFn C 103 [.agg (Queue.enc a0)] (.tup [.agg (Queue.enc r.1),.sl (r.2.1.map Hold.enc),.int .i64 r.2.2]):=by
 refine za8 zeB0 rfl fun E hG hN hK=>?_
 unfold zdz6
 unfold zi2 at h
 refine za0 (za1 hG ?_)
 refine za0 (za1 hG ?_)
 obtain ⟨v1,hv1,h⟩:=za2 h
 refine za6 (fun hg=>zaM5 a0 _ (hv1)) ?_
 refine za0 (za1 hG ?_)
 refine za6 (fun hg=>zbh8 a0.gen) ?_
 refine za0 (za1 hG ?_)
 refine za7 ?_
 exact zb0 h
attribute [local irreducible] zi2
noncomputable def zL1 (j1:Int) (j2:(List Wait)):Option ((List Wait)×Int×Int) :=
 some (j2,j1,0)
@[go_sem] def zem3 (j1:Int) (j2:(List Wait)):St:=⟨[(7,.int .i64 j1),(8,.own 0 0 j2.length)],[(0,⟨false,7,(Wait.enc Wait.zero),j2.map Wait.enc⟩)],1⟩
noncomputable def zE9 (a0:List Wait) (g1:Int×(List Wait)):Option ((Int×(List Wait))⊕(((List Wait)))) :=
 (if (decide (g1.1 < (a0.length:Int)))=true then
  gd (0≤g1.1∧g1.1 < (a0.length:Int)) <|
  gd (g1.2.length+1≤4294967296) <|
  some (.inl ((IntKind.i64.wrap (g1.1+1)),(g1.2++[{ (a0.getD g1.1.toNat Wait.zero) with passed:=(IntKind.i64.wrap ((a0.getD g1.1.toNat Wait.zero).passed+1)) }])))
 else
  some (.inr g1.2))
@[go_sem] def zem4 (a0:List Wait) (j1:Int) (g1:Int×(List Wait)):St:=⟨[(0,.sl (a0.map Wait.enc)),(7,.int .i64 j1),(8,.own 0 0 g1.2.length),(9,.int .i64 g1.1)],[(0,⟨false,7,(Wait.enc Wait.zero),g1.2.map Wait.enc⟩)],1⟩
noncomputable def zL2 (a0:List Wait) (a1:Wait) (j1:Int):Option ((List Wait)×Int×Int) :=
 gd (0≤0∧0≤j1∧j1≤(a0.length:Int)) <|
 gd ((a0.take j1.toNat).length≤4294967296) <|
 gd ((a0.take j1.toNat).length+1≤4294967296) <|
 (zb9 (zE9 a0) (j1,((a0.take j1.toNat)++[a1]))).bind (fun z=>zL1 j1 z)
@[go_sem] def zem5 (a0:List Wait) (a1:Wait) (j1:Int):St:=⟨[(0,.sl (a0.map Wait.enc)),(3,.ptr 0 0 0),(7,.int .i64 j1)],[(0,⟨false,7,(Wait.enc Wait.zero),[Wait.enc a1]⟩)],1⟩
noncomputable def zL3 (a0:List Wait) (a1:Wait) (g2:Int):Option ((Int)⊕((Int))) :=
 gd ((decide (0 < g2))=true→0≤(IntKind.i64.wrap (g2 - 1))∧(IntKind.i64.wrap (g2 - 1)) < (a0.length:Int)) <|
 gd (((decide (0 < g2))&&(decide ((a0.getD ((IntKind.i64.wrap (g2 - 1)).toNat) Wait.zero).priority < a1.priority)))=true→0≤(IntKind.i64.wrap (g2 - 1))∧(IntKind.i64.wrap (g2 - 1)) < (a0.length:Int)) <|
 (if (((decide (0 < g2))&&(decide ((a0.getD ((IntKind.i64.wrap (g2 - 1)).toNat) Wait.zero).priority < a1.priority)))&&(decide ((a0.getD ((IntKind.i64.wrap (g2 - 1)).toNat) Wait.zero).passed < 3)))=true then
  some (.inl (IntKind.i64.wrap (g2 - 1)))
 else
  some (.inr g2))
@[go_sem] def zem6 (a0:List Wait) (a1:Wait) (g2:Int):St:=⟨[(0,.sl (a0.map Wait.enc)),(3,.ptr 0 0 0),(7,.int .i64 g2)],[(0,⟨false,7,(Wait.enc Wait.zero),[Wait.enc a1]⟩)],1⟩
noncomputable def zu4 (a0:List Wait) (a1:Wait):Option ((List Wait)×Int×Int) :=
 (zq7 a0).bind fun v1 =>
 (if (!v1)=true then
  some ([],0,2)
 else
  (if ((!(zi5 a1))||(!decide (a1.passed=0)))=true then
   some ([],0,1)
  else
   (zn2 a0 a1.proc).bind fun v2 =>
   (if (decide (0≤v2))=true then
    some ([],0,11)
   else
    (if (decide ((a0.length:Int)=8))=true then
     some ([],0,4)
    else
     (zb9 (zL3 a0 a1) (a0.length:Int)).bind (fun z=>zL2 a0 a1 z)))))
theorem zaS9 (a0:List Wait) (a1:Wait) (r:(List Wait)×Int×Int) (h:zu4 a0 a1=some r):PFn C 104 [.sl (a0.map Wait.enc),.agg (Wait.enc a1)] (.tup [.sl (r.1.map Wait.enc),.int .i64 r.2.1,.int .i64 r.2.2]):=by
 refine za8 zeB1 rfl fun E hG hN hK=>?_
 unfold zdA7
 unfold zu4 at h
 refine za0 (za1 hG ?_)
 refine za0 (za0 (za1 hG ?_))
 obtain ⟨v1,hv1,h⟩:=za2 h
 refine za6 (fun hg=>zau8 a0 _ (hv1)) ?_
 refine za4 rfl hG h (fun _ h=>?_) (fun _ h=>?_)
 · refine za0 (za1 hG ?_)
   refine za7 ?_
   exact zb0 h
 refine za5 ?_
 refine za0 (za0 (za1 hG ?_))
 refine za6 (fun hg=>zaf5 a1) ?_
 refine za4 rfl hG h (fun _ h=>?_) (fun _ h=>?_)
 · refine za0 (za1 hG ?_)
   refine za7 ?_
   exact zb0 h
 refine za5 ?_
 refine za0 (za0 (za1 hG ?_))
 obtain ⟨v2,hv2,h⟩:=za2 h
 refine za6 (fun hg=>zR2 a0 a1.proc _ (hv2)) ?_
 refine za4 rfl hG h (fun _ h=>?_) (fun _ h=>?_)
 · refine za0 (za1 hG ?_)
   refine za7 ?_
   exact zb0 h
 refine za5 ?_
 refine za0 (za0 (za1 hG ?_))
 refine za4 rfl hG h (fun _ h=>?_) (fun _ h=>?_)
 · refine za0 (za1 hG ?_)
   refine za7 ?_
   exact zb0 h
 refine za5 ?_
 refine za0 (za1 hG ?_)
 refine za0 ?_
 refine zb4 (zem5 a0 a1) (fun v=>zL2 a0 a1 v=some r) ?_ ?_
 · intro j1 h
   unfold zL2 at h
   refine g_st ?_
   refine za0 ?_
   obtain ⟨hb3,h⟩:=za3 h
   obtain ⟨hb4,h⟩:=za3 h
   obtain ⟨hb5,h⟩:=za3 h
   refine zB2 zd2 hG ?_
   refine za0 (za0 (za1 hG ?_))
   refine zb4 (zem3 j1) (fun v=>zL1 j1 v=some r) ?_ ?_
   · intro j2 h
     unfold zL1 at h
     refine g_st ?_
     refine za0 (za1 hG ?_)
     refine za7 ?_
     exact zb0 h
   refine zd9 (zem4 a0 j1) hK [(0,3)] h (fun x_l1 h g1 y_l1 h_l1 hx_l1=>?_)
   unfold zE9 at h_l1
   refine g_st ?_
   refine za0 (za0 (za1 hG ?_))
   refine za4 rfl hG h_l1 (fun _ h_l1=>?_) (fun _ h_l1=>?_)
   · refine za5 ?_
     refine za0 (zb6 (za0 ?_))
     obtain ⟨hb2,h_l1⟩:=za3 h_l1
     refine za1 hG ?_
     refine za0 (za1 hG ?_)
     obtain ⟨hb1,h_l1⟩:=za3 h_l1
     refine za1 hG ?_
     refine za1 hG ?_
     exact zd1 hK [(0,2)] h_l1
   refine zc7 ?_
   obtain rfl:=Option.some.inj h_l1
   have hx:=hx_l1 _ rfl
   subst hx
   try dsimp only at h
   exact zc5 hK [(0,0)] g1.2 (by exact h)
 refine zd9 (zem6 a0 a1) hK [(0,0)] h (fun x_l2 h g2 y_l2 h_l2 hx_l2=>?_)
 unfold zL3 at h_l2
 refine g_st ?_
 refine za0 (za0 ?_)
 obtain ⟨hb6,h_l2⟩:=za3 h_l2
 obtain ⟨hb7,h_l2⟩:=za3 h_l2
 refine zn3 zd2 hG ?_
 refine za4 rfl hG h_l2 (fun _ h_l2=>?_) (fun _ h_l2=>?_)
 · refine za5 ?_
   refine zb6 (za1 hG ?_)
   exact zd1 hK [(0,0)] h_l2
 refine zc7 ?_
 obtain rfl:=Option.some.inj h_l2
 have hx:=hx_l2 _ rfl
 subst hx
 try dsimp only at h
 exact zc5 hK [(0,0)] g2 (by exact h)
attribute [local irreducible] zu4
noncomputable def zq9 (a0:Queue) (a1:Proc) (a2:Amount) (a3:Int):Option (Queue×(List Hold)×Int) :=
 (zl1 a0).bind fun v1 =>
 (if (!v1)=true then
  some ({ Queue.zero with  },[],2)
 else
  (if (((!(ze7 a1))||(decide (a3 < 0)))||(decide (7 < a3)))=true then
   some ({ Queue.zero with  },[],1)
  else
   (if (!(zh3 a0.resource a2))=true then
    some ({ Queue.zero with  },[],12)
   else
    (zl9 a0 a1).bind fun v2 =>
    (if v2.2=true then
     some ({ Queue.zero with  },[],14)
    else
     (zu3 a0).bind fun v3 =>
     (zp6 v3 a1).bind fun v4 =>
     (if (zg0 v3.resource v4 a2)=true then
      some (v3,[],0)
     else
      (if (!(zd0 v4))=true then
       (zB4 v3.resource v4 a2).bind fun v5 =>
       gd (v3.converts.length+1≤4294967296) <|
       (zi2 (⟨(⟨v3.resource.name,v3.resource.kind,v3.resource.units,v3.resource.home⟩:Resource),v3.holds,(v3.converts++[{ Wait.zero with proc:=a1,amount:=v5 }]),v3.waits,v3.gen⟩:Queue)).bind fun v6 =>
       some (v6.1,v6.2.1,v6.2.2)
      else
       (if (decide (8≤(IntKind.i64.wrap (((v3.holds.length:Nat):Int)+((v3.waits.length:Nat):Int)))))=true then
        some ({ Queue.zero with  },[],4)
       else
        (zu4 v3.waits ({ Wait.zero with proc:=a1,amount:=a2,priority:=a3 })).bind fun v7 =>
        (if (!decide (v7.2.2=0))=true then
         some ({ Queue.zero with  },[],v7.2.2)
        else
         (zi2 (⟨(⟨v3.resource.name,v3.resource.kind,v3.resource.units,v3.resource.home⟩:Resource),v3.holds,v3.converts,v7.1,v3.gen⟩:Queue)).bind fun v8 =>
         some (v8.1,v8.2.1,v8.2.2)))))))))
theorem zbb3 (a0:Queue) (a1:Proc) (a2:Amount) (a3:Int) (r:Queue×(List Hold)×Int) (h:zq9 a0 a1 a2 a3=some r):PFn C 60 [.agg (Queue.enc a0),.agg (Proc.enc a1),.agg (Amount.enc a2),.int .i64 a3] (.tup [.agg (Queue.enc r.1),.sl (r.2.1.map Hold.enc),.int .i64 r.2.2]):=by
 refine za8 zeB2 rfl fun E hG hN hK=>?_
 unfold zdB8
 unfold zq9 at h
 refine za0 (za1 hG ?_)
 refine za0 (za0 (za1 hG ?_))
 obtain ⟨v1,hv1,h⟩:=za2 h
 refine za6 (fun hg=>zU8 a0 _ (hv1)) ?_
 refine za4 rfl hG h (fun _ h=>?_) (fun _ h=>?_)
 · refine za0 (za1 hG ?_)
   refine za7 ?_
   exact zb0 h
 refine za5 ?_
 refine za0 (za0 (za1 hG ?_))
 refine za6 (fun hg=>zI9 a1) ?_
 refine za4 rfl hG h (fun _ h=>?_) (fun _ h=>?_)
 · refine za0 (za1 hG ?_)
   refine za7 ?_
   exact zb0 h
 refine za5 ?_
 refine za0 (za0 (za1 hG ?_))
 refine za6 (fun hg=>zK4 a0.resource a2) ?_
 refine za4 rfl hG h (fun _ h=>?_) (fun _ h=>?_)
 · refine za0 (za1 hG ?_)
   refine za7 ?_
   exact zb0 h
 refine za5 ?_
 refine za0 (za0 (za1 hG ?_))
 obtain ⟨v2,hv2,h⟩:=za2 h
 refine za6 (fun hg=>zac0 a0 a1 _ (hv2)) ?_
 refine za0 (za1 hG ?_)
 refine za4 rfl hG h (fun _ h=>?_) (fun _ h=>?_)
 · refine za0 (za1 hG ?_)
   refine za7 ?_
   exact zb0 h
 refine za5 ?_
 refine za0 (za1 hG ?_)
 obtain ⟨v3,hv3,h⟩:=za2 h
 refine zk2 [] [(0,5),(1,6),(2,7)] [0,1,2] (zaM4 a0 _ hv3) rfl rfl ?_
 refine za0 (za1 hG ?_)
 obtain ⟨v4,hv4,h⟩:=za2 h
 refine za6 (fun hg=>zak4 v3 a1 _ (hv4)) ?_
 refine za0 (za0 (za1 hG ?_))
 refine za6 (fun hg=>zK1 v3.resource v4 a2) ?_
 refine za4 rfl hG h (fun _ h=>?_) (fun _ h=>?_)
 · refine za0 (za1 hG ?_)
   refine za7 ?_
   exact zb0 h
 refine za5 ?_
 refine za0 (za0 (za1 hG ?_))
 refine za6 (fun hg=>zt2 v4) ?_
 refine za4 rfl hG h (fun _ h=>?_) (fun _ h=>?_)
 · refine za0 (zB2 zd2 hG ?_)
   obtain ⟨v5,hv5,h⟩:=za2 h
   obtain ⟨hb1,h⟩:=za3 h
   refine zt8 (fun hg=>zbh7 v3.resource v4 a2 _ (hv5)) ?_
   refine za0 (za1 hG ?_)
   obtain ⟨v6,hv6,h⟩:=za2 h
   have hc_v6:=zP8 (⟨(⟨v3.resource.name,v3.resource.kind,v3.resource.units,v3.resource.home⟩:Resource),v3.holds,(v3.converts++[{ Wait.zero with proc:=a1,amount:=v5 }]),v3.waits,v3.gen⟩:Queue) _ (hv6)
   have el_v6:∀ x:Queue,Queue.enc x=[A.str x.resource.name,A.int .i64 x.resource.kind,A.int .i64 x.resource.units,A.int .i64 x.resource.home,A.sl (x.holds.map Hold.enc),A.sl (x.converts.map Wait.enc),A.sl (x.waits.map Wait.enc),A.int .i64 x.gen]:=fun x=>rfl
   rw [el_v6] at hc_v6
   dsimp only at hc_v6
   refine za6 (fun hg=>by exact hc_v6) ?_
   refine za7 ?_
   exact zb0 h
 refine za5 ?_
 refine za0 (za0 (za1 hG ?_))
 refine za4 rfl hG h (fun _ h=>?_) (fun _ h=>?_)
 · refine za0 (za1 hG ?_)
   refine za7 ?_
   exact zb0 h
 refine za5 ?_
 refine za0 (za1 hG ?_)
 obtain ⟨v7,hv7,h⟩:=za2 h
 refine za6 (fun hg=>zaS9 v3.waits ({ Wait.zero with proc:=a1,amount:=a2,priority:=a3 }) _ (hv7)) ?_
 refine za0 (za0 (za1 hG ?_))
 refine za4 rfl hG h (fun _ h=>?_) (fun _ h=>?_)
 · refine za0 (za1 hG ?_)
   refine za7 ?_
   exact zb0 h
 refine za5 ?_
 refine za0 (za1 hG ?_)
 refine za0 (za1 hG ?_)
 obtain ⟨v8,hv8,h⟩:=za2 h
 have hc_v8:=zP8 (⟨(⟨v3.resource.name,v3.resource.kind,v3.resource.units,v3.resource.home⟩:Resource),v3.holds,v3.converts,v7.1,v3.gen⟩:Queue) _ (hv8)
 have el_v8:∀ x:Queue,Queue.enc x=[A.str x.resource.name,A.int .i64 x.resource.kind,A.int .i64 x.resource.units,A.int .i64 x.resource.home,A.sl (x.holds.map Hold.enc),A.sl (x.converts.map Wait.enc),A.sl (x.waits.map Wait.enc),A.int .i64 x.gen]:=fun x=>rfl
 rw [el_v8] at hc_v8
 dsimp only at hc_v8
 refine za6 (fun hg=>by exact hc_v8) ?_
 refine za7 ?_
 exact zb0 h
attribute [local irreducible] zq9
noncomputable def zi3 (a0:List Queue) (a1:Int) (a2:Queue):Option ((List Queue)) :=
 gd (a0.length≤4294967296) <|
 gd (0≤a1∧a1 < ((a0.length:Nat):Int)) <|
 some (a0.set a1.toNat a2)
theorem zY2 (a0:List Queue) (a1:Int) (a2:Queue) (r:(List Queue)) (h:zi3 a0 a1 a2=some r):PFn C 61 [.sl (a0.map Queue.enc),.int .i64 a1,.agg (Queue.enc a2)] (.sl (r.map Queue.enc)):=by
 refine za8 zeB3 rfl fun E hG hN hK=>?_
 unfold zdC3
 unfold zi3 at h
 refine za0 (za1 hG ?_)
 refine za0 ?_
 obtain ⟨hb2,h⟩:=za3 h
 refine za1 hG ?_
 refine za0 ?_
 obtain ⟨hb1,h⟩:=za3 h
 refine za1 hG ?_
 refine za0 (za1 hG ?_)
 refine za7 ?_
 exact zb0 h
attribute [local irreducible] zi3
noncomputable def zV2  (j1:(List Event)):Option ((List Event)) :=
 some j1
@[go_sem] def zem7  (j1:(List Event)):St:=⟨[(5,.own 0 0 j1.length)],[(0,⟨false,7,(Event.enc Event.zero),j1.map Event.enc⟩)],1⟩
noncomputable def zL4 (a0:ByteArray) (a1:List Hold) (g1:Int×(List Event)):Option ((Int×(List Event))⊕(((List Event)))) :=
 (if (decide (g1.1 < (a1.length:Int)))=true then
  gd (0≤g1.1∧g1.1 < (a1.length:Int)) <|
  gd (0≤g1.1∧g1.1 < (a1.length:Int)) <|
  gd (g1.2.length+1≤4294967296) <|
  some (.inl ((IntKind.i64.wrap (g1.1+1)),(g1.2++[(⟨1,(a1.getD g1.1.toNat Hold.zero).proc,a0,(a1.getD g1.1.toNat Hold.zero).amount⟩:Event)])))
 else
  some (.inr g1.2))
@[go_sem] def zem8 (a0:ByteArray) (a1:List Hold) (g1:Int×(List Event)):St:=⟨[(0,.str a0),(1,.sl (a1.map Hold.enc)),(5,.own 0 0 g1.2.length),(6,.int .i64 g1.1)],[(0,⟨false,7,(Event.enc Event.zero),g1.2.map Event.enc⟩)],1⟩
noncomputable def zi7 (a0:ByteArray) (a1:List Hold):Option ((List Event)) :=
 (zb9 (zL4 a0 a1) (0,[])).bind (fun z=>zV2 z)
theorem zac1 (a0:ByteArray) (a1:List Hold) (r:(List Event)) (h:zi7 a0 a1=some r):PFn C 62 [.str a0,.sl (a1.map Hold.enc)] (.sl (r.map Event.enc)):=by
 refine za8 zeB4 rfl fun E hG hN hK=>?_
 unfold zdD1
 unfold zi7 at h
 refine za0 (za1 hG ?_)
 refine za0 (za1 hG ?_)
 refine za0 (za0 (za1 hG ?_))
 refine zb4 (zem7) (fun v=>zV2 v=some r) ?_ ?_
 · intro j1 h
   unfold zV2 at h
   refine g_st ?_
   refine za0 (za1 hG ?_)
   refine za7 ?_
   exact zb0 h
 refine zd9 (zem8 a0 a1) hK [(0,0)] h (fun x_l1 h g1 y_l1 h_l1 hx_l1=>?_)
 unfold zL4 at h_l1
 refine g_st ?_
 refine za0 (za0 (za1 hG ?_))
 refine za4 rfl hG h_l1 (fun _ h_l1=>?_) (fun _ h_l1=>?_)
 · refine za5 ?_
   refine za0 (zb6 ?_)
   obtain ⟨hb1,h_l1⟩:=za3 h_l1
   obtain ⟨hb2,h_l1⟩:=za3 h_l1
   obtain ⟨hb3,h_l1⟩:=za3 h_l1
   refine zB2 zd2 hG ?_
   refine za1 hG ?_
   exact zd1 hK [(0,1)] h_l1
 refine zc7 ?_
 obtain rfl:=Option.some.inj h_l1
 have hx:=hx_l1 _ rfl
 subst hx
 try dsimp only at h
 exact zc5 hK [(0,0)] g1.2 (by exact h)
attribute [local irreducible] zi7
noncomputable def zx8 (a0:List Queue) (a1:Proc) (a2:Atom) (a3:Int):Option ((List Queue)×(List Event)×Int) :=
 (zl2 a0).bind fun v1 =>
 (if (!v1)=true then
  some ([],[],2)
 else
  (zu2 a0 a2.name).bind fun v2 =>
  (if (decide (v2 < 0))=true then
   some ([],[],10)
  else
   (zq8 a0).bind fun v3 =>
   ((if (decide ((v3.length:Int)=8))=true then zl8 v3 a1 else some (false))).bind fun v4 =>
   (if ((decide ((v3.length:Int)=8))&&(!v4))=true then
    some ([],[],4)
   else
    gd (0≤v2∧v2 < (a0.length:Int)) <|
    (zq9 (a0.getD v2.toNat Queue.zero) a1 a2.amount a3).bind fun v5 =>
    (if (!decide (v5.2.2=0))=true then
     some ([],[],v5.2.2)
    else
     (zi3 a0 v2 v5.1).bind fun v6 =>
     (zi7 a2.name v5.2.1).bind fun v7 =>
     some (v6,v7,0)))))
theorem zbb4 (a0:List Queue) (a1:Proc) (a2:Atom) (a3:Int) (r:(List Queue)×(List Event)×Int) (h:zx8 a0 a1 a2 a3=some r):PFn C 18 [.sl (a0.map Queue.enc),.agg (Proc.enc a1),.agg (Atom.enc a2),.int .i64 a3] (.tup [.sl (r.1.map Queue.enc),.sl (r.2.1.map Event.enc),.int .i64 r.2.2]):=by
 refine za8 zeB5 rfl fun E hG hN hK=>?_
 unfold zdE2
 unfold zx8 at h
 refine za0 (za1 hG ?_)
 refine za0 (za0 (za1 hG ?_))
 obtain ⟨v1,hv1,h⟩:=za2 h
 refine za6 (fun hg=>zU9 a0 _ (hv1)) ?_
 refine za4 rfl hG h (fun _ h=>?_) (fun _ h=>?_)
 · refine za0 (za1 hG ?_)
   refine za7 ?_
   exact zb0 h
 refine za5 ?_
 refine za0 (za1 hG ?_)
 obtain ⟨v2,hv2,h⟩:=za2 h
 refine za6 (fun hg=>zak3 a0 a2.name _ (hv2)) ?_
 refine za0 (za0 (za1 hG ?_))
 refine za4 rfl hG h (fun _ h=>?_) (fun _ h=>?_)
 · refine za0 (za1 hG ?_)
   refine za7 ?_
   exact zb0 h
 refine za5 ?_
 refine za0 (za1 hG ?_)
 obtain ⟨v3,hv3,h⟩:=za2 h
 refine za6 (fun hg=>zau9 a0 _ (hv3)) ?_
 refine za0 (za0 (za1 hG ?_))
 obtain ⟨v4,hv4,h⟩:=za2 h
 refine za6 (fun hg=>zam9 v3 a1 _ (zA6 hg hv4)) ?_
 refine za4 rfl hG h (fun _ h=>?_) (fun _ h=>?_)
 · refine za0 (za1 hG ?_)
   refine za7 ?_
   exact zb0 h
 refine za5 ?_
 refine za0 ?_
 obtain ⟨hb1,h⟩:=za3 h
 refine zB2 zd2 hG ?_
 obtain ⟨v5,hv5,h⟩:=za2 h
 refine zt8 (fun hg=>zbb3 (a0.getD v2.toNat Queue.zero) a1 a2.amount a3 _ (hv5)) ?_
 refine za0 (za0 (za1 hG ?_))
 refine za4 rfl hG h (fun _ h=>?_) (fun _ h=>?_)
 · refine za0 (za1 hG ?_)
   refine za7 ?_
   exact zb0 h
 refine za5 ?_
 refine za0 (zn3 zd2 hG ?_)
 obtain ⟨v6,hv6,h⟩:=za2 h
 refine zf7 (fun hg=>zY2 a0 v2 v5.1 _ (hv6)) ?_
 obtain ⟨v7,hv7,h⟩:=za2 h
 refine zf7 (fun hg=>zac1 a2.name v5.2.1 _ (hv7)) ?_
 refine za7 ?_
 exact zb0 h
attribute [local irreducible] zx8
noncomputable def zas5  (j1:Unit):Option (Bool) :=
 some true
@[go_sem] def zeX4  (j1:Unit):St:=⟨[],[],0⟩
noncomputable def zas6 (a0:List Event) (a1:List Event) (g1:Int):Option ((Int)⊕((Unit)⊕(Bool))) :=
 (if (decide (g1 < (a0.length:Int)))=true then
  gd (0≤g1∧g1 < (a0.length:Int)) <|
  gd (0≤g1∧g1 < (a1.length:Int)) <|
  (if (!decide ((a0.getD g1.toNat Event.zero)=(a1.getD g1.toNat Event.zero)))=true then
   some (.inr (.inr false))
  else
   some (.inl (IntKind.i64.wrap (g1+1))))
 else
  some (.inr (.inl ())))
@[go_sem] def zeX5 (a0:List Event) (a1:List Event) (g1:Int):St:=⟨[(0,.sl (a0.map Event.enc)),(1,.sl (a1.map Event.enc)),(5,.int .i64 g1)],[],0⟩
noncomputable def zD0 (a0:List Event) (a1:List Event):Option (Bool) :=
 (if (!decide ((a0.length:Int)=(a1.length:Int)))=true then
  some false
 else
  (zb9 (zas6 a0 a1) 0).bind (fun | .inl z=>zas5 z | .inr z=>some z))
attribute [local irreducible] zD0
noncomputable def zad1 (a0:List Queue) (a1:List Event) (a2:Int) (a3:List Queue) (a4:List Event) (a5:Int):Option (Bool) :=
 ((if (decide (a2=a5))=true then zu1 a0 a3 else some (false))).bind fun v1 =>
 ((if ((decide (a2=a5))&&v1)=true then zD0 a1 a4 else some (false))).bind fun v2 =>
 some (((decide (a2=a5))&&v1)&&v2)
attribute [local irreducible] zad1
def zF0 (a0:List Int):Bool :=
 (decide ((a0.length:Int)≤300))
theorem zaB9 (a0:List Int):PFn C 20 [.sl (a0.map (eI .i64))] (.bool (zF0 a0)):=by
 generalize h:zF0 a0=r
 refine za8 zeC7 rfl fun E hG hN hK=>?_
 unfold zdE5
 unfold zF0 at h
 refine za0 (za1 hG ?_)
 refine za0 (za1 hG ?_)
 refine za7 ?_
 exact zf1 h
noncomputable def zc2 (a0:Int) (a1:Tape):Option (Int×Tape) :=
 (if (decide ((a1.l.length:Int)≤a1.at_))=true then
  some (0,a1)
 else
  gd (0≤(IntKind.i64.wrap (({ a1 with at_:=(IntKind.i64.wrap (a1.at_+1)) }).at_ - 1))∧(IntKind.i64.wrap (({ a1 with at_:=(IntKind.i64.wrap (a1.at_+1)) }).at_ - 1)) < ((({ a1 with at_:=(IntKind.i64.wrap (a1.at_+1)) }).l).length:Int)) <|
  (zn8 ((({ a1 with at_:=(IntKind.i64.wrap (a1.at_+1)) }).l).getD ((IntKind.i64.wrap (({ a1 with at_:=(IntKind.i64.wrap (a1.at_+1)) }).at_ - 1)).toNat) 0) a0).bind fun v1 =>
  some (v1,{ a1 with at_:=(IntKind.i64.wrap (a1.at_+1)) }))
theorem zd8 (a0:Int) (a1:Tape) (r:Int×Tape) (h:zc2 a0 a1=some r):MFn C 47 [.ptr 0 0 0,.int .i64 a0] [(0,⟨false,2,(Tape.enc Tape.zero),[Tape.enc a1]⟩)] 1 (.int .i64 r.1) [(0,⟨false,2,(Tape.enc Tape.zero),[Tape.enc r.2]⟩)] 1:=by
 refine zn5 (rl:=[.int .i64 r.1]) zeC8 rfl rfl rfl rfl fun E hG hN hK=>?_
 unfold zdF1
 unfold zc2 at h
 refine za0 (za1 hG ?_)
 refine za0 (za0 (zn3 zd2 hG ?_))
 refine za4 rfl hG h (fun _ h=>?_) (fun _ h=>?_)
 · refine za0 (za1 hG ?_)
   refine za7 ?_
   exact zC2 [(0,0)] h
 refine za5 ?_
 refine za0 (za1 hG ?_)
 refine za0 ?_
 obtain ⟨hb1,h⟩:=za3 h
 refine zn3 zd2 hG ?_
 obtain ⟨v1,hv1,h⟩:=za2 h
 refine zf7 (fun hg=>zT1 ((({ a1 with at_:=(IntKind.i64.wrap (a1.at_+1)) }).l).getD ((IntKind.i64.wrap (({ a1 with at_:=(IntKind.i64.wrap (a1.at_+1)) }).at_ - 1)).toNat) 0) a0 _ (hv1)) ?_
 refine za7 ?_
 exact zC2 [(0,0)] h
attribute [local irreducible] zc2
def ze5 :List ByteArray:=[(⟨#[97]⟩:ByteArray),(⟨#[98]⟩:ByteArray),(⟨#[99]⟩:ByteArray),(⟨#[100]⟩:ByteArray)]
noncomputable def zG6  (j1:Tape×(List Resource)):Option ((List Resource)×Tape) :=
 (zc2 8 j1.1).bind fun v1 =>
 (zc2 4 v1.2).bind fun v2 =>
 gd (j1.2.length+1≤4294967296) <|
 (zc2 3 v2.2).bind fun v3 =>
 (zc2 4 v3.2).bind fun v4 =>
 gd (j1.2.length+1+1≤4294967296) <|
 some (((j1.2++[(⟨(⟨#[112]⟩:ByteArray),2,(IntKind.i64.wrap (1+v1.1)),v2.1⟩:Resource)])++[(⟨(⟨#[113]⟩:ByteArray),2,(IntKind.i64.wrap (1+v3.1)),v4.1⟩:Resource)]),v4.2)
@[go_sem] def zem9  (j1:Tape×(List Resource)):St:=⟨[(0,.ptr 0 0 0),(3,.own 1 0 j1.2.length)],[(0,⟨false,2,(Tape.enc Tape.zero),[Tape.enc j1.1]⟩),(1,⟨false,4,(Resource.enc Resource.zero),j1.2.map Resource.enc⟩)],2⟩
noncomputable def zv3  (g1:Int×Tape×(List Resource)):Option ((Int×Tape×(List Resource))⊕((Tape×(List Resource)))) :=
 (if (decide (g1.1 < (ze5.length:Int)))=true then
  gd (0≤g1.1∧g1.1 < (ze5.length:Int)) <|
  (zc2 4 g1.2.1).bind fun v5 =>
  gd (g1.2.2.length+1≤4294967296) <|
  some (.inl ((IntKind.i64.wrap (g1.1+1)),v5.2,(g1.2.2++[(⟨(ze5.getD g1.1.toNat (⟨#[]⟩)),1,1,v5.1⟩:Resource)])))
 else
  some (.inr (g1.2.1,g1.2.2)))
@[go_sem] def zen0  (g1:Int×Tape×(List Resource)):St:=⟨[(0,.ptr 0 0 0),(3,.own 1 0 g1.2.2.length),(4,.full (ze5.map eS)),(5,.int .i64 g1.1)],[(0,⟨false,2,(Tape.enc Tape.zero),[Tape.enc g1.2.1]⟩),(1,⟨false,4,(Resource.enc Resource.zero),g1.2.2.map Resource.enc⟩)],2⟩
noncomputable def zm6 (a0:Tape):Option ((List Resource)×Tape) :=
 (zb9 (zv3) (0,a0,[])).bind (fun z=>zG6 z)
theorem zag0 (a0:Tape) (r:(List Resource)×Tape) (h:zm6 a0=some r):MFn C 45 [.ptr 0 0 0] [(0,⟨false,2,(Tape.enc Tape.zero),[Tape.enc a0]⟩)] 1 (.sl (r.1.map Resource.enc)) [(0,⟨false,2,(Tape.enc Tape.zero),[Tape.enc r.2]⟩)] 1:=by
 refine zn5 (rl:=[.sl (r.1.map Resource.enc)]) zeC9 rfl rfl rfl rfl fun E hG hN hK=>?_
 unfold zdG1
 unfold zm6 at h
 refine za0 (za1 hG ?_)
 refine za0 (za1 hG ?_)
 refine za0 (za1 hG ?_)
 refine g_gh (.cast 4 (.full (ze5.map eS))) ?_
 refine za0 (za0 (za1 hG ?_))
 refine zb4 (zem9) (fun v=>zG6 v=some r) ?_ ?_
 · intro j1 h
   unfold zG6 at h
   refine g_st ?_
   refine za0 (za1 hG ?_)
   obtain ⟨v1,hv1,h⟩:=za2 h
   refine zk2 [(0,0)] [] [0] (zd8 8 j1.1 _ hv1) rfl rfl ?_
   obtain ⟨v2,hv2,h⟩:=za2 h
   obtain ⟨hb2,h⟩:=za3 h
   refine zk2 [(0,0)] [] [0] (zd8 4 v1.2 _ hv2) rfl rfl ?_
   refine za0 (za1 hG ?_)
   obtain ⟨v3,hv3,h⟩:=za2 h
   refine zk2 [(0,0)] [] [0] (zd8 3 v2.2 _ hv3) rfl rfl ?_
   obtain ⟨v4,hv4,h⟩:=za2 h
   obtain ⟨hb1,h⟩:=za3 h
   refine zk2 [(0,0)] [] [0] (zd8 4 v3.2 _ hv4) rfl rfl ?_
   refine g_gh (.fz [3]) ?_
   refine za7 ?_
   exact zC2 [(0,0)] h
 refine zd9 (zen0) hK [(0,0),(1,1)] h (fun x_l1 h g1 y_l1 h_l1 hx_l1=>?_)
 unfold zv3 at h_l1
 refine g_st ?_
 refine za0 (za0 (za1 hG ?_))
 refine za4 rfl hG h_l1 (fun _ h_l1=>?_) (fun _ h_l1=>?_)
 · refine za5 ?_
   refine za0 (zb6 ?_)
   obtain ⟨hb3,h_l1⟩:=za3 h_l1
   refine zB2 zd2 hG ?_
   obtain ⟨v5,hv5,h_l1⟩:=za2 h_l1
   obtain ⟨hb4,h_l1⟩:=za3 h_l1
   refine zQ8 [(0,0)] [] [0] (zd8 4 g1.2.1 _ hv5) rfl rfl ?_
   refine za1 hG ?_
   exact zd1 hK [(0,0),(1,2)] h_l1
 refine zc7 ?_
 obtain rfl:=Option.some.inj h_l1
 have hx:=hx_l1 _ rfl
 subst hx
 try dsimp only at h
 exact zc5 hK [(0,0),(1,1)] (g1.2.1,g1.2.2) (by exact h)
attribute [local irreducible] zm6
noncomputable def zj0 (a0:Tape):Option (Bool×Tape) :=
 some ((decide (a0.at_ < (a0.l.length:Int))),a0)
theorem zaa9 (a0:Tape) (r:Bool×Tape) (h:zj0 a0=some r):MFn C 46 [.ptr 0 0 0] [(0,⟨false,2,(Tape.enc Tape.zero),[Tape.enc a0]⟩)] 1 (.bool r.1) [(0,⟨false,2,(Tape.enc Tape.zero),[Tape.enc r.2]⟩)] 1:=by
 refine zn5 (rl:=[.bool r.1]) zeD0 rfl rfl rfl rfl fun E hG hN hK=>?_
 unfold zdG4
 unfold zj0 at h
 refine za0 (za1 hG ?_)
 refine za0 (zn3 zd2 hG ?_)
 refine za7 ?_
 exact zC2 [(0,0)] h
attribute [local irreducible] zj0
def zA2 :List Int:=[5,5,3,4,2,1,3,5]
noncomputable def zF1 (a0:Int):Option (Int) :=
 (zn8 a0 (zA2.length:Int)).bind fun v1 =>
 gd (0≤v1∧v1 < (zA2.length:Int)) <|
 some (zA2.getD v1.toNat 0)
theorem zbq5 (a0:Int) (r:Int) (h:zF1 a0=some r):PFn C 63 [.int .i64 a0] (.int .i64 r):=by
 refine za8 zeD1 rfl fun E hG hN hK=>?_
 unfold zdG8
 unfold zF1 at h
 refine za0 (za1 hG ?_)
 refine za0 (za1 hG ?_)
 refine g_gh (.cast 3 (.full (zA2.map (eI .i64)))) ?_
 refine za0 (za1 hG ?_)
 obtain ⟨v1,hv1,h⟩:=za2 h
 obtain ⟨hb1,h⟩:=za3 h
 refine za6 (fun hg=>zT1 a0 (zA2.length:Int) _ (hv1)) ?_
 refine za7 ?_
 exact zb0 h
attribute [local irreducible] zF1
noncomputable def zr0 (a0:Resource) (a1:Int):Option (Amount) :=
 (if (decide (a0.kind=1))=true then
  (zF1 a1).bind fun v1 =>
  some ({ Amount.zero with mode:=v1 })
 else
  (zn8 a1 a0.units).bind fun v2 =>
  some ({ Amount.zero with units:=(IntKind.i64.wrap (1+v2)) }))
theorem zag1 (a0:Resource) (a1:Int) (r:Amount) (h:zr0 a0 a1=some r):PFn C 24 [.agg (Resource.enc a0),.int .i64 a1] (.agg (Amount.enc r)):=by
 refine za8 zeD2 rfl fun E hG hN hK=>?_
 unfold zdH3
 unfold zr0 at h
 refine za0 (za1 hG ?_)
 refine za0 (za0 (za1 hG ?_))
 refine za4 rfl hG h (fun _ h=>?_) (fun _ h=>?_)
 · refine za0 (za1 hG ?_)
   obtain ⟨v1,hv1,h⟩:=za2 h
   refine za6 (fun hg=>zbq5 a1 _ (hv1)) ?_
   refine za7 ?_
   exact zb0 h
 refine za5 ?_
 refine za0 (za1 hG ?_)
 obtain ⟨v2,hv2,h⟩:=za2 h
 refine za6 (fun hg=>zT1 a1 a0.units _ (hv2)) ?_
 refine za7 ?_
 exact zb0 h
attribute [local irreducible] zr0
noncomputable def zV3 (a0:List Wait) (j1:(List Wait)):Option ((List Wait)×Bool) :=
 some (j1,(decide (((j1.length:Nat):Int) < (a0.length:Int))))
@[go_sem] def zen1 (a0:List Wait) (j1:(List Wait)):St:=⟨[(0,.sl (a0.map Wait.enc)),(6,.own 0 0 j1.length)],[(0,⟨false,7,(Wait.enc Wait.zero),j1.map Wait.enc⟩)],1⟩
noncomputable def zL5 (a0:List Wait) (a1:Proc) (g1:Int×(List Wait)):Option ((Int×(List Wait))⊕(((List Wait)))) :=
 (if (decide (g1.1 < (a0.length:Int)))=true then
  gd (0≤g1.1∧g1.1 < (a0.length:Int)) <|
  (if (!decide ((a0.getD g1.1.toNat Wait.zero).proc=a1))=true then
   gd (0≤g1.1∧g1.1 < (a0.length:Int)) <|
   gd (g1.2.length+1≤4294967296) <|
   some (.inl ((IntKind.i64.wrap (g1.1+1)),(g1.2++[(a0.getD g1.1.toNat Wait.zero)])))
  else
   some (.inl ((IntKind.i64.wrap (g1.1+1)),g1.2)))
 else
  some (.inr g1.2))
@[go_sem] def zen2 (a0:List Wait) (a1:Proc) (g1:Int×(List Wait)):St:=⟨[(0,.sl (a0.map Wait.enc)),(3,.ptr 0 0 0),(6,.own 1 0 g1.2.length),(7,.int .i64 g1.1)],[(0,⟨false,3,(Proc.enc Proc.zero),[Proc.enc a1]⟩),(1,⟨false,7,(Wait.enc Wait.zero),g1.2.map Wait.enc⟩)],2⟩
noncomputable def zm0 (a0:List Wait) (a1:Proc):Option ((List Wait)×Bool) :=
 (zb9 (zL5 a0 a1) (0,[])).bind (fun z=>zV3 a0 z)
theorem zar9 (a0:List Wait) (a1:Proc) (r:(List Wait)×Bool) (h:zm0 a0 a1=some r):PFn C 113 [.sl (a0.map Wait.enc),.agg (Proc.enc a1)] (.tup [.sl (r.1.map Wait.enc),.bool r.2]):=by
 refine za8 zeD3 rfl fun E hG hN hK=>?_
 unfold zdI2
 unfold zm0 at h
 refine za0 (za1 hG ?_)
 refine za0 (za1 hG ?_)
 refine za0 (za0 (za1 hG ?_))
 refine zb4 (zen1 a0) (fun v=>zV3 a0 v=some r) ?_ ?_
 · intro j1 h
   unfold zV3 at h
   refine g_st ?_
   refine za0 (za1 hG ?_)
   refine za7 ?_
   exact zb0 h
 refine zd9 (zen2 a0 a1) hK [(0,0),(1,1)] h (fun x_l1 h g1 y_l1 h_l1 hx_l1=>?_)
 unfold zL5 at h_l1
 refine g_st ?_
 refine za0 (za0 (za1 hG ?_))
 refine za4 rfl hG h_l1 (fun _ h_l1=>?_) (fun _ h_l1=>?_)
 · refine za5 ?_
   refine za0 (zb6 (za0 ?_))
   obtain ⟨hb3,h_l1⟩:=za3 h_l1
   refine zn3 zd2 hG ?_
   refine za4 rfl hG h_l1 (fun _ h_l1=>?_) (fun _ h_l1=>?_)
   · obtain ⟨hb1,h_l1⟩:=za3 h_l1
     obtain ⟨hb2,h_l1⟩:=za3 h_l1
     refine za1 hG ?_
     refine za1 hG ?_
     exact zd1 hK [(0,0),(1,2)] h_l1
   refine za5 ?_
   refine za1 hG ?_
   exact zd1 hK [(0,0),(1,1)] h_l1
 refine zc7 ?_
 obtain rfl:=Option.some.inj h_l1
 have hx:=hx_l1 _ rfl
 subst hx
 try dsimp only at h
 exact zc5 hK [(0,1)] g1.2 (by exact h)
attribute [local irreducible] zm0
noncomputable def zu5 (a0:Queue) (a1:Proc):Option (Queue×(List Hold)×Int) :=
 (zl1 a0).bind fun v1 =>
 (if (!v1)=true then
  some ({ Queue.zero with  },[],2)
 else
  (zl9 a0 a1).bind fun v2 =>
  (if (!v2.2)=true then
   some ({ Queue.zero with  },[],10)
  else
   (zr6 a0).bind fun v3 =>
   (zm0 v3.converts a1).bind fun v4 =>
   (zm0 (({ v3 with converts:=v4.1 }).waits) a1).bind fun v5 =>
   (zi2 ({ { v3 with converts:=v4.1 } with waits:=v5.1 })).bind fun v6 =>
   some (v6.1,v6.2.1,v6.2.2)))
theorem zaT0 (a0:Queue) (a1:Proc) (r:Queue×(List Hold)×Int) (h:zu5 a0 a1=some r):PFn C 79 [.agg (Queue.enc a0),.agg (Proc.enc a1)] (.tup [.agg (Queue.enc r.1),.sl (r.2.1.map Hold.enc),.int .i64 r.2.2]):=by
 refine za8 zeD4 rfl fun E hG hN hK=>?_
 unfold zdJ3
 unfold zu5 at h
 refine za0 (za1 hG ?_)
 refine za0 (za0 (za1 hG ?_))
 obtain ⟨v1,hv1,h⟩:=za2 h
 refine za6 (fun hg=>zU8 a0 _ (hv1)) ?_
 refine za4 rfl hG h (fun _ h=>?_) (fun _ h=>?_)
 · refine za0 (za1 hG ?_)
   refine za7 ?_
   exact zb0 h
 refine za5 ?_
 refine za0 (za0 (za1 hG ?_))
 obtain ⟨v2,hv2,h⟩:=za2 h
 refine za6 (fun hg=>zac0 a0 a1 _ (hv2)) ?_
 refine za0 (za1 hG ?_)
 refine za4 rfl hG h (fun _ h=>?_) (fun _ h=>?_)
 · refine za0 (za1 hG ?_)
   refine za7 ?_
   exact zb0 h
 refine za5 ?_
 refine za0 (za1 hG ?_)
 obtain ⟨v3,hv3,h⟩:=za2 h
 refine za6 (fun hg=>zak5 a0 _ (hv3)) ?_
 refine za0 (za1 hG ?_)
 obtain ⟨v4,hv4,h⟩:=za2 h
 refine za6 (fun hg=>zar9 v3.converts a1 _ (hv4)) ?_
 refine za0 (za1 hG ?_)
 obtain ⟨v5,hv5,h⟩:=za2 h
 refine za6 (fun hg=>zar9 (({ v3 with converts:=v4.1 }).waits) a1 _ (hv5)) ?_
 refine za0 (za1 hG ?_)
 obtain ⟨v6,hv6,h⟩:=za2 h
 refine za6 (fun hg=>zP8 ({ { v3 with converts:=v4.1 } with waits:=v5.1 }) _ (hv6)) ?_
 refine za7 ?_
 exact zb0 h
attribute [local irreducible] zu5
noncomputable def zu6 (a0:List Queue) (a1:Proc) (a2:ByteArray):Option ((List Queue)×(List Event)×Int) :=
 (zl2 a0).bind fun v1 =>
 (if (!v1)=true then
  some ([],[],2)
 else
  (zu2 a0 a2).bind fun v2 =>
  (if (decide (v2 < 0))=true then
   some ([],[],10)
  else
   gd (0≤v2∧v2 < (a0.length:Int)) <|
   (zu5 (a0.getD v2.toNat Queue.zero) a1).bind fun v3 =>
   (if (!decide (v3.2.2=0))=true then
    some ([],[],v3.2.2)
   else
    (zi3 a0 v2 v3.1).bind fun v4 =>
    (zi7 a2 v3.2.1).bind fun v5 =>
    some (v4,v5,0))))
theorem zaT1 (a0:List Queue) (a1:Proc) (a2:ByteArray) (r:(List Queue)×(List Event)×Int) (h:zu6 a0 a1 a2=some r):PFn C 42 [.sl (a0.map Queue.enc),.agg (Proc.enc a1),.str a2] (.tup [.sl (r.1.map Queue.enc),.sl (r.2.1.map Event.enc),.int .i64 r.2.2]):=by
 refine za8 zeD5 rfl fun E hG hN hK=>?_
 unfold zdK4
 unfold zu6 at h
 refine za0 (za1 hG ?_)
 refine za0 (za0 (za1 hG ?_))
 obtain ⟨v1,hv1,h⟩:=za2 h
 refine za6 (fun hg=>zU9 a0 _ (hv1)) ?_
 refine za4 rfl hG h (fun _ h=>?_) (fun _ h=>?_)
 · refine za0 (za1 hG ?_)
   refine za7 ?_
   exact zb0 h
 refine za5 ?_
 refine za0 (za1 hG ?_)
 obtain ⟨v2,hv2,h⟩:=za2 h
 refine za6 (fun hg=>zak3 a0 a2 _ (hv2)) ?_
 refine za0 (za0 (za1 hG ?_))
 refine za4 rfl hG h (fun _ h=>?_) (fun _ h=>?_)
 · refine za0 (za1 hG ?_)
   refine za7 ?_
   exact zb0 h
 refine za5 ?_
 refine za0 ?_
 obtain ⟨hb1,h⟩:=za3 h
 refine zB2 zd2 hG ?_
 obtain ⟨v3,hv3,h⟩:=za2 h
 refine zt8 (fun hg=>zaT0 (a0.getD v2.toNat Queue.zero) a1 _ (hv3)) ?_
 refine za0 (za0 (za1 hG ?_))
 refine za4 rfl hG h (fun _ h=>?_) (fun _ h=>?_)
 · refine za0 (za1 hG ?_)
   refine za7 ?_
   exact zb0 h
 refine za5 ?_
 refine za0 (za1 hG ?_)
 obtain ⟨v4,hv4,h⟩:=za2 h
 refine za6 (fun hg=>zY2 a0 v2 v3.1 _ (hv4)) ?_
 obtain ⟨v5,hv5,h⟩:=za2 h
 refine za6 (fun hg=>zac1 a2 v3.2.1 _ (hv5)) ?_
 refine za7 ?_
 exact zb0 h
attribute [local irreducible] zu6
noncomputable def zx9 (a0:Queue) (a1:Proc) (a2:Amount):Option (Queue×(List Hold)×Int) :=
 (zl1 a0).bind fun v1 =>
 (if (!v1)=true then
  some ({ Queue.zero with  },[],2)
 else
  (zp6 a0 a1).bind fun v2 =>
  (if (zd0 v2)=true then
   some ({ Queue.zero with  },[],10)
  else
   (zl9 a0 a1).bind fun v3 =>
   (if v3.2=true then
    some ({ Queue.zero with  },[],14)
   else
    (if (!(zg0 a0.resource v2 a2))=true then
     some ({ Queue.zero with  },[],12)
    else
     (zr6 a0).bind fun v4 =>
     (if (decide (v2=a2))=true then
      some (v4,[],0)
     else
      (zs6 v4.holds a1 a2).bind fun v5 =>
      (zi2 ({ v4 with holds:=v5 })).bind fun v6 =>
      some (v6.1,v6.2.1,v6.2.2))))))
theorem zbb5 (a0:Queue) (a1:Proc) (a2:Amount) (r:Queue×(List Hold)×Int) (h:zx9 a0 a1 a2=some r):PFn C 81 [.agg (Queue.enc a0),.agg (Proc.enc a1),.agg (Amount.enc a2)] (.tup [.agg (Queue.enc r.1),.sl (r.2.1.map Hold.enc),.int .i64 r.2.2]):=by
 refine za8 zeD6 rfl fun E hG hN hK=>?_
 unfold zdL5
 unfold zx9 at h
 refine za0 (za1 hG ?_)
 refine za0 (za0 (za1 hG ?_))
 obtain ⟨v1,hv1,h⟩:=za2 h
 refine za6 (fun hg=>zU8 a0 _ (hv1)) ?_
 refine za4 rfl hG h (fun _ h=>?_) (fun _ h=>?_)
 · refine za0 (za1 hG ?_)
   refine za7 ?_
   exact zb0 h
 refine za5 ?_
 refine za0 (za1 hG ?_)
 obtain ⟨v2,hv2,h⟩:=za2 h
 refine za6 (fun hg=>zak4 a0 a1 _ (hv2)) ?_
 refine za0 (za0 (za1 hG ?_))
 refine za6 (fun hg=>zt2 v2) ?_
 refine za4 rfl hG h (fun _ h=>?_) (fun _ h=>?_)
 · refine za0 (za1 hG ?_)
   refine za7 ?_
   exact zb0 h
 refine za5 ?_
 refine za0 (za0 (za1 hG ?_))
 obtain ⟨v3,hv3,h⟩:=za2 h
 refine za6 (fun hg=>zac0 a0 a1 _ (hv3)) ?_
 refine za0 (za1 hG ?_)
 refine za4 rfl hG h (fun _ h=>?_) (fun _ h=>?_)
 · refine za0 (za1 hG ?_)
   refine za7 ?_
   exact zb0 h
 refine za5 ?_
 refine za0 (za0 (za1 hG ?_))
 refine za6 (fun hg=>zK1 a0.resource v2 a2) ?_
 refine za4 rfl hG h (fun _ h=>?_) (fun _ h=>?_)
 · refine za0 (za1 hG ?_)
   refine za7 ?_
   exact zb0 h
 refine za5 ?_
 refine za0 (za1 hG ?_)
 obtain ⟨v4,hv4,h⟩:=za2 h
 refine za6 (fun hg=>zak5 a0 _ (hv4)) ?_
 refine za0 (za0 (za1 hG ?_))
 refine za4 rfl hG h (fun _ h=>?_) (fun _ h=>?_)
 · refine za0 (za1 hG ?_)
   refine za7 ?_
   exact zb0 h
 refine za5 ?_
 refine za0 (za1 hG ?_)
 obtain ⟨v5,hv5,h⟩:=za2 h
 refine za6 (fun hg=>zap8 v4.holds a1 a2 _ (hv5)) ?_
 refine za0 (za1 hG ?_)
 obtain ⟨v6,hv6,h⟩:=za2 h
 refine za6 (fun hg=>zP8 ({ v4 with holds:=v5 }) _ (hv6)) ?_
 refine za7 ?_
 exact zb0 h
attribute [local irreducible] zx9
noncomputable def zB9 (a0:List Queue) (a2:Atom) (v2:Int) (v4:Queue×(List Hold)×Int) (j1:(List Event)):Option ((List Queue)×(List Event)×Int) :=
 (zi3 a0 v2 v4.1).bind fun v5 =>
 (zi7 a2.name v4.2.1).bind fun v6 =>
 gd (j1.length+v6.length≤4294967296) <|
 some (v5,(j1++v6),0)
@[go_sem] def zen3 (a0:List Queue) (a2:Atom) (v2:Int) (v4:Queue×(List Hold)×Int) (j1:(List Event)):St:=⟨[(0,.sl (a0.map Queue.enc)),(5,.ptr 0 0 0),(9,.int .i64 v2),(11,.ptr 1 0 0),(12,.sl (v4.2.1.map Hold.enc)),(14,.own 2 0 j1.length)],[(0,⟨false,3,(Atom.enc Atom.zero),[Atom.enc a2]⟩),(1,⟨false,8,(Queue.enc Queue.zero),[Queue.enc v4.1]⟩),(2,⟨false,7,(Event.enc Event.zero),j1.map Event.enc⟩)],3⟩
noncomputable def zy0 (a0:List Queue) (a1:Proc) (a2:Atom):Option ((List Queue)×(List Event)×Int) :=
 (zl2 a0).bind fun v1 =>
 (if (!v1)=true then
  some ([],[],2)
 else
  (zu2 a0 a2.name).bind fun v2 =>
  (if (decide (v2 < 0))=true then
   some ([],[],10)
  else
   gd (0≤v2∧v2 < (a0.length:Int)) <|
   (zp6 (a0.getD v2.toNat Queue.zero) a1).bind fun v3 =>
   gd (0≤v2∧v2 < (a0.length:Int)) <|
   (zx9 (a0.getD v2.toNat Queue.zero) a1 a2.amount).bind fun v4 =>
   (if (!decide (v4.2.2=0))=true then
    some ([],[],v4.2.2)
   else
    (if (!decide (v3=a2.amount))=true then
     gd (1≤4294967296) <|
     zB9 a0 a2 v2 v4 [(⟨3,a1,a2.name,a2.amount⟩:Event)]
    else
     zB9 a0 a2 v2 v4 []))))
theorem zbb6 (a0:List Queue) (a1:Proc) (a2:Atom) (r:(List Queue)×(List Event)×Int) (h:zy0 a0 a1 a2=some r):PFn C 44 [.sl (a0.map Queue.enc),.agg (Proc.enc a1),.agg (Atom.enc a2)] (.tup [.sl (r.1.map Queue.enc),.sl (r.2.1.map Event.enc),.int .i64 r.2.2]):=by
 refine za8 zeD7 rfl fun E hG hN hK=>?_
 unfold zdM6
 unfold zy0 at h
 refine za0 (za1 hG ?_)
 refine za0 (za0 (za1 hG ?_))
 obtain ⟨v1,hv1,h⟩:=za2 h
 refine za6 (fun hg=>zU9 a0 _ (hv1)) ?_
 refine za4 rfl hG h (fun _ h=>?_) (fun _ h=>?_)
 · refine za0 (za1 hG ?_)
   refine za7 ?_
   exact zb0 h
 refine za5 ?_
 refine za0 (za1 hG ?_)
 obtain ⟨v2,hv2,h⟩:=za2 h
 refine za6 (fun hg=>zak3 a0 a2.name _ (hv2)) ?_
 refine za0 (za0 (za1 hG ?_))
 refine za4 rfl hG h (fun _ h=>?_) (fun _ h=>?_)
 · refine za0 (za1 hG ?_)
   refine za7 ?_
   exact zb0 h
 refine za5 ?_
 refine za0 ?_
 obtain ⟨hb4,h⟩:=za3 h
 refine zB2 zd2 hG ?_
 obtain ⟨v3,hv3,h⟩:=za2 h
 refine zt8 (fun hg=>zak4 (a0.getD v2.toNat Queue.zero) a1 _ (hv3)) ?_
 refine za0 ?_
 obtain ⟨hb3,h⟩:=za3 h
 refine zB2 zd2 hG ?_
 obtain ⟨v4,hv4,h⟩:=za2 h
 refine zt8 (fun hg=>zbb5 (a0.getD v2.toNat Queue.zero) a1 a2.amount _ (hv4)) ?_
 refine za0 (za0 (za1 hG ?_))
 refine za4 rfl hG h (fun _ h=>?_) (fun _ h=>?_)
 · refine za0 (za1 hG ?_)
   refine za7 ?_
   exact zb0 h
 refine za5 ?_
 refine za0 (za1 hG ?_)
 refine za0 (za0 (za1 hG ?_))
 refine zaV3 (zen3 a0 a2 v2 v4) (fun v=>zB9 a0 a2 v2 v4 v=some r) rfl hG h ?_ (fun _ h=>?_) (fun _ h=>?_)
 · intro j1 h
   unfold zB9 at h
   refine g_st ?_
   refine za0 (zB2 zd2 hG ?_)
   obtain ⟨v5,hv5,h⟩:=za2 h
   refine zt8 (fun hg=>zY2 a0 v2 v4.1 _ (hv5)) ?_
   obtain ⟨v6,hv6,h⟩:=za2 h
   obtain ⟨hb1,h⟩:=za3 h
   refine zt8 (fun hg=>zac1 a2.name v4.2.1 _ (hv6)) ?_
   refine za7 ?_
   exact zb0 h
 · obtain ⟨hb2,h⟩:=za3 h
   refine za1 hG ?_
   exact zc5 hK [(0,1),(1,3),(2,5)] [(⟨3,a1,a2.name,a2.amount⟩:Event)] (by exact h)
 refine za5 ?_
 exact zc5 hK [(0,1),(1,3),(2,4)] [] (by exact h)
attribute [local irreducible] zy0
noncomputable def zac2  (j1:(List Queue)):Option ((List Queue)) :=
 some j1
@[go_sem] def zen4  (j1:(List Queue)):St:=⟨[(4,.sl (j1.map Queue.enc))],[],0⟩
noncomputable def zA3 (g1:(List Queue)×Tape) (j2:(List Queue)×Int×Tape):Option (((List Queue)×Tape)⊕(((List Queue)))) :=
 (if (decide (j2.2.1=0))=true then
  some (.inl (j2.1,j2.2.2))
 else
  some (.inl (g1.1,j2.2.2)))
@[go_sem] def zen5 (g1:(List Queue)×Tape) (j2:(List Queue)×Int×Tape):St:=⟨[(3,.ptr 0 0 0),(4,.sl (g1.1.map Queue.enc)),(10,.sl (j2.1.map Queue.enc)),(11,.int .i64 j2.2.1)],[(0,⟨false,2,(Tape.enc Tape.zero),[Tape.enc j2.2.2]⟩)],1⟩
noncomputable def zv8  (g1:(List Queue)×Tape):Option (((List Queue)×Tape)⊕(((List Queue)))) :=
 (zj0 g1.2).bind fun v3 =>
 (if v3.1=true then
  (zc2 8 v3.2).bind fun v4 =>
  (zc2 (g1.1.length:Int) v4.2).bind fun v5 =>
  gd (0≤v5.1∧v5.1 < (g1.1.length:Int)) <|
  (zc2 8 v5.2).bind fun v6 =>
  (zn9 v6.1).bind fun v7 =>
  (zc2 64 v6.2).bind fun v8 =>
  (zr0 ((g1.1.getD v5.1.toNat Queue.zero).resource) v8.1).bind fun v9 =>
  (if (decide (v4.1=0))=true then
   (zu6 g1.1 v7 ((⟨((g1.1.getD v5.1.toNat Queue.zero).resource).name,v9⟩:Atom).name)).bind fun v10 =>
   zA3 g1 (v10.1,v10.2.2,v8.2)
  else
   (if (decide (v4.1=1))=true then
    (zy0 g1.1 v7 (⟨((g1.1.getD v5.1.toNat Queue.zero).resource).name,v9⟩:Atom)).bind fun v11 =>
    zA3 g1 (v11.1,v11.2.2,v8.2)
   else
    (zc2 8 v8.2).bind fun v12 =>
    (zx8 g1.1 v7 (⟨((g1.1.getD v5.1.toNat Queue.zero).resource).name,v9⟩:Atom) v12.1).bind fun v13 =>
    zA3 g1 (v13.1,v13.2.2,v12.2)))
 else
  some (.inr g1.1))
@[go_sem] def zen6  (g1:(List Queue)×Tape):St:=⟨[(3,.ptr 0 0 0),(4,.sl (g1.1.map Queue.enc))],[(0,⟨false,2,(Tape.enc Tape.zero),[Tape.enc g1.2]⟩)],1⟩
noncomputable def zu7 (a0:List Int):Option ((List Queue)) :=
 (zm6 ({ Tape.zero with l:=a0 })).bind fun v1 =>
 (zv6 v1.1).bind fun v2 =>
 (zb9 (zv8) (v2.1,v1.2)).bind (fun z=>zac2 z)
theorem zaC0 (a0:List Int) (r:(List Queue)) (h:zu7 a0=some r):PFn C 21 [.sl (a0.map (eI .i64))] (.sl (r.map Queue.enc)):=by
 refine za8 zeD8 rfl fun E hG hN hK=>?_
 unfold zdN7
 unfold zu7 at h
 refine za0 (za1 hG ?_)
 refine za0 (za1 hG ?_)
 refine za0 (za1 hG ?_)
 obtain ⟨v1,hv1,h⟩:=za2 h
 refine zk2 [(0,0)] [] [0] (zag0 ({ Tape.zero with l:=a0 }) _ hv1) rfl rfl ?_
 obtain ⟨v2,hv2,h⟩:=za2 h
 refine za6 (fun hg=>zbq2 v1.1 _ (hv2)) ?_
 refine za0 ?_
 refine zb4 (zen4) (fun v=>zac2 v=some r) ?_ ?_
 · intro j1 h
   unfold zac2 at h
   refine g_st ?_
   refine za0 (za1 hG ?_)
   refine za7 ?_
   exact zb0 h
 refine zd9 (zen6) hK [(0,0)] h (fun x_l1 h g1 y_l1 h_l1 hx_l1=>?_)
 unfold zv8 at h_l1
 refine g_st ?_
 refine za0 (za0 (za1 hG ?_))
 obtain ⟨v3,hv3,h_l1⟩:=za2 h_l1
 refine zk2 [(0,0)] [] [0] (zaa9 g1.2 _ hv3) rfl rfl ?_
 refine za4 rfl hG h_l1 (fun _ h_l1=>?_) (fun _ h_l1=>?_)
 · refine za5 ?_
   refine zb6 (za0 (za1 hG ?_))
   obtain ⟨v4,hv4,h_l1⟩:=za2 h_l1
   refine zk2 [(0,0)] [] [0] (zd8 8 v3.2 _ hv4) rfl rfl ?_
   refine za0 (za1 hG ?_)
   obtain ⟨v5,hv5,h_l1⟩:=za2 h_l1
   obtain ⟨hb1,h_l1⟩:=za3 h_l1
   refine zk2 [(0,0)] [] [0] (zd8 (g1.1.length:Int) v4.2 _ hv5) rfl rfl ?_
   refine za0 (za1 hG ?_)
   obtain ⟨v6,hv6,h_l1⟩:=za2 h_l1
   refine zk2 [(0,0)] [] [0] (zd8 8 v5.2 _ hv6) rfl rfl ?_
   obtain ⟨v7,hv7,h_l1⟩:=za2 h_l1
   refine za6 (fun hg=>zac9 v6.1 _ (hv7)) ?_
   refine za0 (zB2 zd2 hG ?_)
   obtain ⟨v8,hv8,h_l1⟩:=za2 h_l1
   refine zQ8 [(0,0)] [] [0] (zd8 64 v6.2 _ hv8) rfl rfl ?_
   obtain ⟨v9,hv9,h_l1⟩:=za2 h_l1
   refine zt8 (fun hg=>zag1 ((g1.1.getD v5.1.toNat Queue.zero).resource) v8.1 _ (hv9)) ?_
   refine za0 (za1 hG ?_)
   refine za0 (za1 hG ?_)
   refine za0 (za0 (za1 hG ?_))
   refine zb4 (zen5 g1) (fun v=>zA3 g1 v=some y_l1) ?_ ?_
   · intro j2 h_l1
     unfold zA3 at h_l1
     refine g_st ?_
     refine za0 (za1 hG ?_)
     refine za4 rfl hG h_l1 (fun _ h_l1=>?_) (fun _ h_l1=>?_)
     · refine za1 hG ?_
       exact zd1 hK [(0,0)] h_l1
     refine za5 ?_
     exact zd1 hK [(0,0)] h_l1
   refine za0 (za1 hG ?_)
   refine za4 rfl hG h_l1 (fun _ h_l1=>?_) (fun _ h_l1=>?_)
   · refine za1 hG ?_
     obtain ⟨v10,hv10,h_l1⟩:=za2 h_l1
     refine za6 (fun hg=>zaT1 g1.1 v7 ((⟨((g1.1.getD v5.1.toNat Queue.zero).resource).name,v9⟩:Atom).name) _ (hv10)) ?_
     exact zc5 hK [(0,0)] (v10.1,v10.2.2,v8.2) (by exact h_l1)
   refine za0 (za1 hG ?_)
   refine za4 rfl hG h_l1 (fun _ h_l1=>?_) (fun _ h_l1=>?_)
   · refine za1 hG ?_
     obtain ⟨v11,hv11,h_l1⟩:=za2 h_l1
     refine za6 (fun hg=>zbb6 g1.1 v7 (⟨((g1.1.getD v5.1.toNat Queue.zero).resource).name,v9⟩:Atom) _ (hv11)) ?_
     exact zc5 hK [(0,0)] (v11.1,v11.2.2,v8.2) (by exact h_l1)
   refine zB2 zd2 hG ?_
   obtain ⟨v12,hv12,h_l1⟩:=za2 h_l1
   refine zQ8 [(0,0)] [] [0] (zd8 8 v8.2 _ hv12) rfl rfl ?_
   obtain ⟨v13,hv13,h_l1⟩:=za2 h_l1
   refine zt8 (fun hg=>zbb4 g1.1 v7 (⟨((g1.1.getD v5.1.toNat Queue.zero).resource).name,v9⟩:Atom) v12.1 _ (hv13)) ?_
   exact zc5 hK [(0,0)] (v13.1,v13.2.2,v12.2) (by exact h_l1)
 refine zc7 ?_
 obtain rfl:=Option.some.inj h_l1
 have hx:=hx_l1 _ rfl
 subst hx
 try dsimp only at h
 exact zc5 hK [] g1.1 (by exact h)
attribute [local irreducible] zu7
noncomputable def zav0 (a1:Int) (a2:Queue) (j1:(List Queue)):Option ((List Queue)) :=
 (if (decide (0≤a1))=true then
  gd (0≤a1∧a1 < ((j1.length:Nat):Int)) <|
  some (j1.set a1.toNat a2)
 else
  some j1)
@[go_sem] def zeX6 (a1:Int) (a2:Queue) (j1:(List Queue)):St:=⟨[(1,.int .i64 a1),(5,.ptr 0 0 0),(7,.own 1 0 j1.length)],[(0,⟨false,8,(Queue.enc Queue.zero),[Queue.enc a2]⟩),(1,⟨false,8,(Queue.enc Queue.zero),j1.map Queue.enc⟩)],2⟩
noncomputable def zav1 (a0:List Queue) (g1:Int×(List Queue)):Option ((Int×(List Queue))⊕(((List Queue)))) :=
 (if (decide (g1.1 < (a0.length:Int)))=true then
  gd (0≤g1.1∧g1.1 < (a0.length:Int)) <|
  gd (((a0.getD g1.1.toNat Queue.zero).holds).length≤4294967296) <|
  gd ((({ (a0.getD g1.1.toNat Queue.zero) with holds:=(a0.getD g1.1.toNat Queue.zero).holds }).converts).length≤4294967296) <|
  gd ((({ { (a0.getD g1.1.toNat Queue.zero) with holds:=(a0.getD g1.1.toNat Queue.zero).holds } with converts:=({ (a0.getD g1.1.toNat Queue.zero) with holds:=(a0.getD g1.1.toNat Queue.zero).holds }).converts }).waits).length≤4294967296) <|
  gd (0≤g1.1∧g1.1 < ((g1.2.length:Nat):Int)) <|
  some (.inl ((IntKind.i64.wrap (g1.1+1)),(g1.2.set g1.1.toNat ({ { { (a0.getD g1.1.toNat Queue.zero) with holds:=(a0.getD g1.1.toNat Queue.zero).holds } with converts:=({ (a0.getD g1.1.toNat Queue.zero) with holds:=(a0.getD g1.1.toNat Queue.zero).holds }).converts } with waits:=({ { (a0.getD g1.1.toNat Queue.zero) with holds:=(a0.getD g1.1.toNat Queue.zero).holds } with converts:=({ (a0.getD g1.1.toNat Queue.zero) with holds:=(a0.getD g1.1.toNat Queue.zero).holds }).converts }).waits }))))
 else
  some (.inr g1.2))
@[go_sem] def zeX7 (a0:List Queue) (a1:Int) (a2:Queue) (g1:Int×(List Queue)):St:=⟨[(1,.int .i64 a1),(5,.ptr 0 0 0),(7,.own 1 0 g1.2.length),(13,.sl (a0.map Queue.enc)),(14,.int .i64 (a0.length:Int)),(15,.int .i64 g1.1)],[(0,⟨false,8,(Queue.enc Queue.zero),[Queue.enc a2]⟩),(1,⟨false,8,(Queue.enc Queue.zero),g1.2.map Queue.enc⟩)],2⟩
noncomputable def zF2 (a0:List Queue) (a1:Int) (a2:Queue):Option ((List Queue)) :=
 gd (0≤(a0.length:Int)∧(a0.length:Int)≤(a0.length:Int)∧(a0.length:Int)≤4294967296) <|
 (zb9 (zav1 a0) (0,(List.replicate ((a0.length:Int).toNat) Queue.zero))).bind (fun z=>zav0 a1 a2 z)
attribute [local irreducible] zF2
noncomputable def zr1 (a0:Queue):Option (Queue) :=
 gd (a0.holds.length≤4294967296) <|
 gd (a0.converts.length≤4294967296) <|
 gd (a0.waits.length≤4294967296) <|
 some a0
theorem zav2 (a0:Queue) (r:Queue) (h:zr1 a0=some r):PFn C 88 [.agg (Queue.enc a0)] (.agg (Queue.enc r)):=by
 refine za8 zeE9 rfl fun E hG hN hK=>?_
 unfold zdO3
 unfold zr1 at h
 refine za0 (za1 hG ?_)
 refine za0 ?_
 obtain ⟨hb3,h⟩:=za3 h
 refine za1 hG ?_
 refine za0 ?_
 obtain ⟨hb2,h⟩:=za3 h
 refine za1 hG ?_
 refine za0 ?_
 obtain ⟨hb1,h⟩:=za3 h
 refine za1 hG ?_
 refine za0 (za1 hG ?_)
 refine za7 ?_
 exact zb0 h
attribute [local irreducible] zr1
noncomputable def zD1 (a0:Queue) (a1:Proc):Option (Queue×Proc) :=
 (zi8 a0.holds a1 ({ Amount.zero with  })).bind fun v1 =>
 some ({ a0 with holds:=v1 },a1)
attribute [local irreducible] zD1
noncomputable def zP9 (a0:List Wait) (j1:(List Wait)):Option ((List Wait)×Bool) :=
 some (j1,(decide (((j1.length:Nat):Int) < (a0.length:Int))))
@[go_sem] def zen7 (a0:List Wait) (j1:(List Wait)):St:=⟨[(0,.sl (a0.map Wait.enc)),(6,.own 0 0 j1.length)],[(0,⟨false,7,(Wait.enc Wait.zero),j1.map Wait.enc⟩)],1⟩
noncomputable def zx3 (a0:List Wait) (a1:Proc) (g1:Int×(List Wait)):Option ((Int×(List Wait))⊕(((List Wait)))) :=
 (if (decide (g1.1 < (a0.length:Int)))=true then
  gd (0≤g1.1∧g1.1 < (a0.length:Int)) <|
  (if (!decide ((a0.getD g1.1.toNat Wait.zero).proc=a1))=true then
   gd (g1.2.length+1≤4294967296) <|
   some (.inl ((IntKind.i64.wrap (g1.1+1)),(g1.2++[(a0.getD g1.1.toNat Wait.zero)])))
  else
   some (.inl ((IntKind.i64.wrap (g1.1+1)),g1.2)))
 else
  some (.inr g1.2))
@[go_sem] def zen8 (a0:List Wait) (a1:Proc) (g1:Int×(List Wait)):St:=⟨[(0,.sl (a0.map Wait.enc)),(3,.ptr 0 0 0),(6,.own 1 0 g1.2.length),(9,.sl (a0.map Wait.enc)),(10,.int .i64 (a0.length:Int)),(11,.int .i64 g1.1)],[(0,⟨false,3,(Proc.enc Proc.zero),[Proc.enc a1]⟩),(1,⟨false,7,(Wait.enc Wait.zero),g1.2.map Wait.enc⟩)],2⟩
noncomputable def zm7 (a0:List Wait) (a1:Proc):Option ((List Wait)×Bool) :=
 (zb9 (zx3 a0 a1) (0,[])).bind (fun z=>zP9 a0 z)
theorem zav3 (a0:List Wait) (a1:Proc) (r:(List Wait)×Bool) (h:zm7 a0 a1=some r):PFn C 108 [.sl (a0.map Wait.enc),.agg (Proc.enc a1)] (.tup [.sl (r.1.map Wait.enc),.bool r.2]):=by
 refine za8 zeF1 rfl fun E hG hN hK=>?_
 unfold zdP3
 unfold zm7 at h
 refine za0 (za1 hG ?_)
 refine za0 (za1 hG ?_)
 refine za0 (za0 (za1 hG ?_))
 refine zb4 (zen7 a0) (fun v=>zP9 a0 v=some r) ?_ ?_
 · intro j1 h
   unfold zP9 at h
   refine g_st ?_
   refine za0 (za1 hG ?_)
   refine za7 ?_
   exact zb0 h
 refine zd9 (zen8 a0 a1) hK [(0,0),(1,1)] h (fun x_l1 h g1 y_l1 h_l1 hx_l1=>?_)
 unfold zx3 at h_l1
 refine g_st ?_
 refine za0 (za1 hG ?_)
 refine za0 ?_
 refine za4 rfl hG h_l1 (fun _ h_l1=>?_) (fun _ h_l1=>?_)
 · refine za5 ?_
   refine za0 (zb6 (za0 ?_))
   obtain ⟨hb2,h_l1⟩:=za3 h_l1
   refine za1 hG ?_
   refine za0 (za1 hG ?_)
   refine za4 rfl hG h_l1 (fun _ h_l1=>?_) (fun _ h_l1=>?_)
   · obtain ⟨hb1,h_l1⟩:=za3 h_l1
     refine za1 hG ?_
     refine za1 hG ?_
     exact zd1 hK [(0,0),(1,3)] h_l1
   refine za5 ?_
   refine za1 hG ?_
   exact zd1 hK [(0,0),(1,1)] h_l1
 refine zc7 ?_
 obtain rfl:=Option.some.inj h_l1
 have hx:=hx_l1 _ rfl
 subst hx
 try dsimp only at h
 exact zc5 hK [(0,1)] g1.2 (by exact h)
attribute [local irreducible] zm7
noncomputable def zD2 (a0:Queue) (a1:Proc):Option (Queue×Proc) :=
 (zm7 a0.converts a1).bind fun v1 =>
 some ({ a0 with converts:=v1.1 },a1)
attribute [local irreducible] zD2
noncomputable def zD3 (a0:Queue) (a1:Proc):Option (Queue×Proc) :=
 (zm7 a0.waits a1).bind fun v1 =>
 some ({ a0 with waits:=v1.1 },a1)
attribute [local irreducible] zD3
noncomputable def zav4  (j1:Queue×Proc):Option (Queue×(List Hold)×Int×Queue×Proc) :=
 (ze4 j1.1).bind fun v1 =>
 some ({ v1.2 with gen:=(zg2 v1.2.gen) },v1.1,0,{ v1.2 with gen:=(zg2 v1.2.gen) },j1.2)
@[go_sem] def zeX8  (j1:Queue×Proc):St:=⟨[(0,.ptr 0 0 0),(4,.ptr 3 0 0)],[(0,⟨false,8,(Queue.enc Queue.zero),[Queue.enc j1.1]⟩),(1,⟨false,1,[A.any],[[.clo 105 [.ptr 0 0 0,.ptr 2 0 0]],[.clo 107 [.ptr 0 0 0,.ptr 2 0 0]],[.clo 109 [.ptr 0 0 0,.ptr 2 0 0]]]⟩),(2,⟨false,3,(Proc.enc Proc.zero),[Proc.enc j1.2]⟩),(3,⟨false,8,(Queue.enc Queue.zero),[Queue.enc Queue.zero]⟩)],4⟩
noncomputable def zF3 (a0:Queue) (a1:Proc):Option (Queue×(List Hold)×Int×Queue×Proc) :=
 gd (0≤0∧0 < (3:Int)) <|
 (zD1 a0 a1).bind fun v2 =>
 gd (0≤1∧1 < (3:Int)) <|
 (zD2 v2.1 v2.2).bind fun v3 =>
 gd (0≤2∧2 < (3:Int)) <|
 (zD3 v3.1 v3.2).bind fun v4 =>
 zav4 (v4.1,v4.2)
attribute [local irreducible] zF3
end Ab
end Go.Proofs.YtfjeceicgfdmjaaGreatDoor
