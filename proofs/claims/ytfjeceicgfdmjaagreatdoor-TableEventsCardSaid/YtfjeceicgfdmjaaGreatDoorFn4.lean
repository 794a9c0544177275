/-
  Functions of the program,as Lean functions; what the program's code computes is what they say.
-/
import Derived.Test.YtfjeceicgfdmjaaGreatDoorFn3
namespace Go.Proofs.YtfjeceicgfdmjaaGreatDoor
namespace Ab
set_option linter.unusedSimpArgs false
set_option linter.unusedVariables false
set_option maxRecDepth 100000
set_option maxHeartbeats 1000000
attribute [local irreducible] zf5 zd4 zj8 zw0 zw1 zh4 ze3 zo4 zw2 zs8 zq6 zj9 ze0 zh5 zf6 zh2 zm1 zh6 zl6 zk4 zh3 zf0 zn3 zg6 zo6 zp5 zi8 zj0 zk0 zk1 zi0 zh7 zc9 zc7 zo7 zr5 zc0 zc2 zh8 zo8 zm2 zk6 zt0 zy3 zd3 zc5 zk2 zk3 zm3 zH2 zr6 zl0 ze4 zn4 zr7 zl1 zl2 zr8 zf4 zl7 zv5 zn5 zr9 zj1 zx9 zT3 zT4 zY2 zp6 zj6 zp1 zn6 zs1 zw5 zp2 zz7 zq8 zz8 zm4 zk7 zv6 zp7 zv7 zm5 zj3 zv8
noncomputable def zO6  (j1:(List Proc)):Option ((List Proc)) :=
 (zj3 j1).bind fun v1 =>
 some v1
@[go_sem] def zeg7  (j1:(List Proc)):St:=⟨[(3,.own 0 0 j1.length)],[(0,⟨false,3,(Proc.enc Proc.zero),j1.map Proc.enc⟩)],1⟩
noncomputable def zF8 (a0:List Queue) (g1:Int×(List Proc)):Option ((Int×(List Proc))⊕(((List Proc)))) :=
 (if (decide (g1.1 < (a0.length:Int)))=true then
  gd (0≤g1.1∧g1.1 < (a0.length:Int)) <|
  (zv8 (a0.getD g1.1.toNat Queue.zero)).bind fun v2 =>
  gd (g1.2.length+v2.length≤4294967296) <|
  some (.inl ((IntKind.i64.wrap (g1.1+1)),(g1.2++v2)))
 else
  some (.inr g1.2))
@[go_sem] def zeg8 (a0:List Queue) (g1:Int×(List Proc)):St:=⟨[(0,.sl (a0.map Queue.enc)),(3,.own 0 0 g1.2.length),(4,.int .i64 g1.1)],[(0,⟨false,3,(Proc.enc Proc.zero),g1.2.map Proc.enc⟩)],1⟩
noncomputable def zs2 (a0:List Queue):Option ((List Proc)) :=
 (zb8 (zF8 a0) (0,[])).bind (fun z=>zO6 z)
theorem zat7 (a0:List Queue) (r:(List Proc)) (h:zs2 a0=some r):PFn C 37 [.sl (a0.map Queue.enc)] (.sl (r.map Proc.enc)):=by
 refine za8 zex8 rfl fun E hG hN hK=>?_
 unfold zdq5
 unfold zs2 at h
 refine za0 (za1 hG ?_)
 refine za0 (za1 hG ?_)
 refine za0 (za0 (za1 hG ?_))
 refine zb5 (zeg7) (fun v=>zO6 v=some r) ?_ ?_
 · intro j1 h
   unfold zO6 at h
   refine g_st ?_
   refine za0 (za1 hG ?_)
   obtain ⟨v1,hv1,h⟩:=za3 h
   refine za6 (fun hg=>zae0 j1 _ (hv1)) ?_
   refine za7 ?_
   exact zb1 h
 refine zd9 (zeg8 a0) hK [(0,0)] h (fun x_l1 h g1 y_l1 h_l1 hx_l1=>?_)
 unfold zF8 at h_l1
 refine g_st ?_
 refine za0 (za0 (za1 hG ?_))
 refine za4 rfl hG h_l1 (fun _ h_l1=>?_) (fun _ h_l1=>?_)
 · refine za5 ?_
   refine za0 (zb6 ?_)
   obtain ⟨hb1,h_l1⟩:=za2 h_l1
   refine za1 hG ?_
   obtain ⟨v2,hv2,h_l1⟩:=za3 h_l1
   obtain ⟨hb2,h_l1⟩:=za2 h_l1
   refine za6 (fun hg=>zaY2 (a0.getD g1.1.toNat Queue.zero) _ (hv2)) ?_
   refine za1 hG ?_
   exact zc8 hK [(0,1)] h_l1
 refine zc3 ?_
 obtain rfl:=Option.some.inj h_l1
 have hx:=hx_l1 _ rfl
 subst hx
 try dsimp only at h
 exact zc4 hK [(0,0)] g1.2 (by exact h)
attribute [local irreducible] zs2
noncomputable def zm6 (a0:List Queue):Option (Bool) :=
 (zv6 a0).bind fun v1 =>
 ((if v1=true then zs2 a0 else some ([]))).bind fun v2 =>
 some (v1&&(decide ((v2.length:Int)≤8)))
theorem zae1 (a0:List Queue) (r:Bool) (h:zm6 a0=some r):PFn C 38 [.sl (a0.map Queue.enc)] (.bool r):=by
 refine za8 zex9 rfl fun E hG hN hK=>?_
 unfold zdq8
 unfold zm6 at h
 refine za0 (za1 hG ?_)
 refine za0 (za1 hG ?_)
 obtain ⟨v1,hv1,h⟩:=za3 h
 refine za6 (fun hg=>zaY0 a0 _ (hv1)) ?_
 obtain ⟨v2,hv2,h⟩:=za3 h
 refine za6 (fun hg=>zat7 a0 _ (zD1 hg hv2)) ?_
 refine za7 ?_
 exact zb1 h
attribute [local irreducible] zm6
noncomputable def zaa5  (j1:Unit):Option (Int) :=
 some (-1)
@[go_sem] def zeg9  (j1:Unit):St:=⟨[],[],0⟩
noncomputable def zQ7 (a0:List Queue) (a1:ByteArray) (g1:Int):Option ((Int)⊕((Unit)⊕(Int))) :=
 (if (decide (g1 < (a0.length:Int)))=true then
  gd (0≤g1∧g1 < (a0.length:Int)) <|
  (if ((((a0.getD g1.toNat Queue.zero).resource).name).toList == a1.toList)=true then
   some (.inr (.inr g1))
  else
   some (.inl (IntKind.i64.wrap (g1+1))))
 else
  some (.inr (.inl ())))
@[go_sem] def zeh0 (a0:List Queue) (a1:ByteArray) (g1:Int):St:=⟨[(0,.sl (a0.map Queue.enc)),(1,.str a1),(5,.int .i64 g1)],[],0⟩
noncomputable def zt1 (a0:List Queue) (a1:ByteArray):Option (Int) :=
 (zb8 (zQ7 a0 a1) 0).bind (fun | .inl z=>zaa5 z | .inr z=>some z)
theorem zY3 (a0:List Queue) (a1:ByteArray) (r:Int) (h:zt1 a0 a1=some r):PFn C 27 [.sl (a0.map Queue.enc),.str a1] (.int .i64 r):=by
 refine za8 zey0 rfl fun E hG hN hK=>?_
 unfold zdr6
 unfold zt1 at h
 refine za0 (za1 hG ?_)
 refine za0 (za0 (za1 hG ?_))
 refine zb5 (zeg9) (fun v=>zaa5 v=some r) ?_ ?_
 · intro j1 h
   unfold zaa5 at h
   refine g_st ?_
   refine za0 (za1 hG ?_)
   refine za7 ?_
   exact zb1 h
 refine zd9 (zeh0 a0 a1) hK [] h (fun x_l1 h g1 y_l1 h_l1 hx_l1=>?_)
 unfold zQ7 at h_l1
 refine g_st ?_
 refine za0 (za0 (za1 hG ?_))
 refine za4 rfl hG h_l1 (fun _ h_l1=>?_) (fun _ h_l1=>?_)
 · refine za5 ?_
   refine za0 (zb6 (za0 ?_))
   obtain ⟨hb1,h_l1⟩:=za2 h_l1
   refine za1 hG ?_
   refine za4 rfl hG h_l1 (fun _ h_l1=>?_) (fun _ h_l1=>?_)
   · refine za0 (za1 hG ?_)
     refine za7 ?_
     obtain rfl:=Option.some.inj h_l1
     have hx:=hx_l1 _ rfl
     subst hx
     try dsimp only at h
     exact zb1 h
   refine za5 ?_
   refine za1 hG ?_
   exact zc8 hK [] h_l1
 refine zc3 ?_
 obtain rfl:=Option.some.inj h_l1
 have hx:=hx_l1 _ rfl
 subst hx
 try dsimp only at h
 exact zc4 hK [] () (by exact h)
attribute [local irreducible] zt1
noncomputable def zl8 (a0:Queue) (a1:Proc):Option (Amount×Bool) :=
 (zn6 a0.converts a1).bind fun v1 =>
 (if (decide (0≤v1))=true then
  gd (0≤v1∧v1 < (a0.converts.length:Int)) <|
  some ((a0.converts.getD v1.toNat Wait.zero).amount,true)
 else
  (zn6 a0.waits a1).bind fun v2 =>
  (if (decide (0≤v2))=true then
   gd (0≤v2∧v2 < (a0.waits.length:Int)) <|
   some ((a0.waits.getD v2.toNat Wait.zero).amount,true)
  else
   some ({ Amount.zero with  },false)))
theorem zaa6 (a0:Queue) (a1:Proc) (r:Amount×Bool) (h:zl8 a0 a1=some r):PFn C 99 [.agg (Queue.enc a0),.agg (Proc.enc a1)] (.tup [.agg (Amount.enc r.1),.bool r.2]):=by
 refine za8 zey1 rfl fun E hG hN hK=>?_
 unfold zds5
 unfold zl8 at h
 refine za0 (za1 hG ?_)
 refine za0 (za0 (za1 hG ?_))
 obtain ⟨v1,hv1,h⟩:=za3 h
 refine za6 (fun hg=>zQ0 a0.converts a1 _ (hv1)) ?_
 refine za0 (za1 hG ?_)
 refine za4 rfl hG h (fun _ h=>?_) (fun _ h=>?_)
 · refine za0 ?_
   obtain ⟨hb1,h⟩:=za2 h
   refine za1 hG ?_
   refine za7 ?_
   exact zb1 h
 refine za5 ?_
 refine za0 (za0 (za1 hG ?_))
 obtain ⟨v2,hv2,h⟩:=za3 h
 refine za6 (fun hg=>zQ0 a0.waits a1 _ (hv2)) ?_
 refine za0 (za1 hG ?_)
 refine za4 rfl hG h (fun _ h=>?_) (fun _ h=>?_)
 · refine za0 ?_
   obtain ⟨hb2,h⟩:=za2 h
   refine za1 hG ?_
   refine za7 ?_
   exact zb1 h
 refine za5 ?_
 refine za0 (za1 hG ?_)
 refine za7 ?_
 exact zb1 h
attribute [local irreducible] zl8
noncomputable def zw9 (a0:Queue):Option (Queue) :=
 gd (a0.holds.length≤4294967296) <|
 gd (a0.converts.length≤4294967296) <|
 gd (a0.waits.length≤4294967296) <|
 some a0
theorem zaK3 (a0:Queue) (r:Queue) (h:zw9 a0=some r):MFn C 100 [.agg (Queue.enc a0)] [] 0 (.agg [.str r.resource.name,.int .i64 r.resource.kind,.int .i64 r.resource.units,.int .i64 r.resource.home,.own 0 0 r.holds.length,.own 1 0 r.converts.length,.own 2 0 r.waits.length,.int .i64 r.gen]) [(0,⟨false,5,(Hold.enc Hold.zero),r.holds.map Hold.enc⟩),(1,⟨false,7,(Wait.enc Wait.zero),r.converts.map Wait.enc⟩),(2,⟨false,7,(Wait.enc Wait.zero),r.waits.map Wait.enc⟩)] 3:=by
 refine zl5 (rl:=[.agg [.str r.resource.name,.int .i64 r.resource.kind,.int .i64 r.resource.units,.int .i64 r.resource.home,.own 0 0 r.holds.length,.own 1 0 r.converts.length,.own 2 0 r.waits.length,.int .i64 r.gen]]) zey2 rfl rfl rfl rfl fun E hG hN hK=>?_
 unfold zdt1
 unfold zw9 at h
 refine za0 (za1 hG ?_)
 refine za0 ?_
 obtain ⟨hb3,h⟩:=za2 h
 refine za1 hG ?_
 refine za0 ?_
 obtain ⟨hb2,h⟩:=za2 h
 refine za1 hG ?_
 refine za0 ?_
 obtain ⟨hb1,h⟩:=za2 h
 refine za1 hG ?_
 refine za0 (za1 hG ?_)
 refine za7 ?_
 exact zz5 [(0,3),(1,5),(2,7)] h
attribute [local irreducible] zw9
noncomputable def zn7 (a0:Queue) (a1:Proc):Option (Amount) :=
 (zw5 a0.holds a1).bind fun v1 =>
 some v1
theorem zY4 (a0:Queue) (a1:Proc) (r:Amount) (h:zn7 a0 a1=some r):PFn C 31 [.agg (Queue.enc a0),.agg (Proc.enc a1)] (.agg (Amount.enc r)):=by
 refine za8 zey3 rfl fun E hG hN hK=>?_
 unfold zdt4
 unfold zn7 at h
 refine za0 (za1 hG ?_)
 refine za0 (za1 hG ?_)
 obtain ⟨v1,hv1,h⟩:=za3 h
 refine za6 (fun hg=>zao2 a0.holds a1 _ (hv1)) ?_
 refine za7 ?_
 exact zb1 h
attribute [local irreducible] zn7
noncomputable def zae2  (j1:Unit):Option (Int) :=
 some 0
@[go_sem] def zeh1  (j1:Unit):St:=⟨[],[],0⟩
noncomputable def zT8 (a0:Int) (a1:Int) (g1:Int):Option ((Int)⊕((Unit)⊕(Int))) :=
 (if (decide (g1≤5))=true then
  (if ((zw6 g1 a0)&&(zw6 g1 a1))=true then
   some (.inr (.inr g1))
  else
   some (.inl (IntKind.i64.wrap (g1+1))))
 else
  some (.inr (.inl ())))
@[go_sem] def zeh2 (a0:Int) (a1:Int) (g1:Int):St:=⟨[(0,.int .i64 a0),(1,.int .i64 a1),(5,.int .i64 g1)],[],0⟩
noncomputable def zM2 (a0:Int) (a1:Int):Option (Int) :=
 (zb8 (zT8 a0 a1) 1).bind (fun | .inl z=>zae2 z | .inr z=>some z)
theorem zbn2 (a0:Int) (a1:Int) (r:Int) (h:zM2 a0 a1=some r):PFn C 147 [.int .i64 a0,.int .i64 a1] (.int .i64 r):=by
 refine za8 zey4 rfl fun E hG hN hK=>?_
 unfold zdu2
 unfold zM2 at h
 refine za0 (za1 hG ?_)
 refine za0 (za0 (za1 hG ?_))
 refine zb5 (zeh1) (fun v=>zae2 v=some r) ?_ ?_
 · intro j1 h
   unfold zae2 at h
   refine g_st ?_
   refine za0 (za1 hG ?_)
   refine za7 ?_
   exact zb1 h
 refine zd9 (zeh2 a0 a1) hK [] h (fun x_l1 h g1 y_l1 h_l1 hx_l1=>?_)
 unfold zT8 at h_l1
 refine g_st ?_
 refine za0 (za0 (za1 hG ?_))
 refine za4 rfl hG h_l1 (fun _ h_l1=>?_) (fun _ h_l1=>?_)
 · refine za5 ?_
   refine za0 (zb6 (za0 (za1 hG ?_)))
   refine za6 (fun hg=>zaa4 g1 a0) ?_
   refine za6 (fun hg=>zaa4 g1 a1) ?_
   refine za4 rfl hG h_l1 (fun _ h_l1=>?_) (fun _ h_l1=>?_)
   · refine za0 (za1 hG ?_)
     refine za7 ?_
     obtain rfl:=Option.some.inj h_l1
     have hx:=hx_l1 _ rfl
     subst hx
     try dsimp only at h
     exact zb1 h
   refine za5 ?_
   refine za1 hG ?_
   exact zc8 hK [] h_l1
 refine zc3 ?_
 obtain rfl:=Option.some.inj h_l1
 have hx:=hx_l1 _ rfl
 subst hx
 try dsimp only at h
 exact zc4 hK [] () (by exact h)
attribute [local irreducible] zM2
noncomputable def zD5 (a0:Resource) (a1:Amount) (a2:Amount):Option (Amount) :=
 (if ((!(zf1 a0 a1))||(!(zf1 a0 a2)))=true then
  some ({ Amount.zero with  })
 else
  (if (zf7 a0 a1 a2)=true then
   some a1
  else
   (if (zf7 a0 a2 a1)=true then
    some a2
   else
    (zM2 a1.mode a2.mode).bind fun v1 =>
    some ({ Amount.zero with mode:=v1 }))))
theorem zbe5 (a0:Resource) (a1:Amount) (a2:Amount) (r:Amount) (h:zD5 a0 a1 a2=some r):PFn C 102 [.agg (Resource.enc a0),.agg (Amount.enc a1),.agg (Amount.enc a2)] (.agg (Amount.enc r)):=by
 refine za8 zey5 rfl fun E hG hN hK=>?_
 unfold zdv1
 unfold zD5 at h
 refine za0 (za1 hG ?_)
 refine za0 (za0 (za1 hG ?_))
 refine za6 (fun hg=>zB8 a0 a1) ?_
 refine za6 (fun hg=>zB8 a0 a2) ?_
 refine za4 rfl hG h (fun _ h=>?_) (fun _ h=>?_)
 · refine za0 (za1 hG ?_)
   refine za7 ?_
   exact zb1 h
 refine za5 ?_
 refine za0 (za0 (za1 hG ?_))
 refine za6 (fun hg=>zI6 a0 a1 a2) ?_
 refine za4 rfl hG h (fun _ h=>?_) (fun _ h=>?_)
 · refine za0 (za1 hG ?_)
   refine za7 ?_
   exact zb1 h
 refine za5 ?_
 refine za0 (za0 (za1 hG ?_))
 refine za6 (fun hg=>zI6 a0 a2 a1) ?_
 refine za4 rfl hG h (fun _ h=>?_) (fun _ h=>?_)
 · refine za0 (za1 hG ?_)
   refine za7 ?_
   exact zb1 h
 refine za5 ?_
 refine za0 (za1 hG ?_)
 obtain ⟨v1,hv1,h⟩:=za3 h
 refine za6 (fun hg=>zbn2 a1.mode a2.mode _ (hv1)) ?_
 refine za7 ?_
 exact zb1 h
attribute [local irreducible] zD5
noncomputable def zt2 (a0:Queue):Option (Queue) :=
 gd (a0.holds.length≤4294967296) <|
 gd (a0.converts.length≤4294967296) <|
 gd (a0.waits.length≤4294967296) <|
 some a0
theorem zaj1 (a0:Queue) (r:Queue) (h:zt2 a0=some r):PFn C 100 [.agg (Queue.enc a0)] (.agg (Queue.enc r)):=by
 refine za8 zey6 rfl fun E hG hN hK=>?_
 unfold zdv7
 unfold zt2 at h
 refine za0 (za1 hG ?_)
 refine za0 ?_
 obtain ⟨hb3,h⟩:=za2 h
 refine za1 hG ?_
 refine za0 ?_
 obtain ⟨hb2,h⟩:=za2 h
 refine za1 hG ?_
 refine za0 ?_
 obtain ⟨hb1,h⟩:=za2 h
 refine za1 hG ?_
 refine za0 (za1 hG ?_)
 refine za7 ?_
 exact zb1 h
attribute [local irreducible] zt2
noncomputable def zR3  (j1:Queue×(List Hold)):Option (Queue×(List Hold)) :=
 some (j1.1,j1.2)
@[go_sem] def zeh3  (j1:Queue×(List Hold)):St:=⟨[(1,.ptr 0 0 0),(2,.ptr 1 0 0),(4,.own 2 0 j1.2.length)],[(0,⟨false,8,(Queue.enc Queue.zero),[Queue.enc j1.1]⟩),(1,⟨false,8,(Queue.enc Queue.zero),[Queue.enc Queue.zero]⟩),(2,⟨false,5,(Hold.enc Hold.zero),j1.2.map Hold.enc⟩)],3⟩
noncomputable def zv0 (g1:Queue×(List Hold)) (v4:Wait×Bool) (j2:Queue):Option ((Queue×(List Hold))⊕((Queue×(List Hold)))) :=
 (zq8 j2.holds v4.1.proc v4.1.amount).bind fun v5 =>
 gd (g1.2.length+1≤4294967296) <|
 some (.inl ({ j2 with holds:=v5 },(g1.2++[(⟨v4.1.proc,v4.1.amount⟩:Hold)])))
@[go_sem] def zeh4 (g1:Queue×(List Hold)) (v4:Wait×Bool) (j2:Queue):St:=⟨[(1,.ptr 0 0 0),(2,.ptr 1 0 0),(4,.own 2 0 g1.2.length),(5,.ptr 3 0 0)],[(0,⟨false,8,(Queue.enc Queue.zero),[Queue.enc j2]⟩),(1,⟨false,8,(Queue.enc Queue.zero),[Queue.enc Queue.zero]⟩),(2,⟨false,5,(Hold.enc Hold.zero),g1.2.map Hold.enc⟩),(3,⟨false,7,(Wait.enc Wait.zero),[Wait.enc v4.1]⟩)],4⟩
noncomputable def zC0  (g1:Queue×(List Hold)):Option ((Queue×(List Hold))⊕((Queue×(List Hold)))) :=
 (zm4 g1.1).bind fun v3 =>
 (if (!v3)=true then
  (zz7 g1.1).bind fun v4 =>
  (if (decide (0 < (g1.1.converts.length:Int)))=true then
   gd (0≤1∧1≤(g1.1.converts.length:Int)∧(g1.1.converts.length:Int)≤(g1.1.converts.length:Int)) <|
   zv0 g1 v4 ({ g1.1 with converts:=(g1.1.converts.drop 1) })
  else
   gd (0≤1∧1≤(g1.1.waits.length:Int)∧(g1.1.waits.length:Int)≤(g1.1.waits.length:Int)) <|
   zv0 g1 v4 ({ g1.1 with waits:=(g1.1.waits.drop 1) }))
 else
  some (.inr (g1.1,g1.2)))
@[go_sem] def zeh5  (g1:Queue×(List Hold)):St:=⟨[(1,.ptr 0 0 0),(2,.ptr 1 0 0),(4,.own 2 0 g1.2.length)],[(0,⟨false,8,(Queue.enc Queue.zero),[Queue.enc g1.1]⟩),(1,⟨false,8,(Queue.enc Queue.zero),[Queue.enc Queue.zero]⟩),(2,⟨false,5,(Hold.enc Hold.zero),g1.2.map Hold.enc⟩)],3⟩
noncomputable def zu1 (a0:Queue):Option (Queue×(List Hold)) :=
 (zp2 a0).bind fun v1 =>
 (if (!v1)=true then
  some ({ Queue.zero with  },[])
 else
  (zt2 a0).bind fun v2 =>
  (zb8 (zC0) (v2,[])).bind (fun z=>zR3 z))
theorem zaK4 (a0:Queue) (r:Queue×(List Hold)) (h:zu1 a0=some r):PFn C 148 [.agg (Queue.enc a0)] (.tup [.agg (Queue.enc r.1),.sl (r.2.map Hold.enc)]):=by
 refine za8 zey7 rfl fun E hG hN hK=>?_
 unfold zdw8
 unfold zu1 at h
 refine za0 (za1 hG ?_)
 refine za0 (za0 (za1 hG ?_))
 obtain ⟨v1,hv1,h⟩:=za3 h
 refine za6 (fun hg=>zad9 a0 _ (hv1)) ?_
 refine za4 rfl hG h (fun _ h=>?_) (fun _ h=>?_)
 · refine za0 (za1 hG ?_)
   refine za7 ?_
   exact zb1 h
 refine za5 ?_
 refine za0 (za1 hG ?_)
 obtain ⟨v2,hv2,h⟩:=za3 h
 refine za6 (fun hg=>zaj1 a0 _ (hv2)) ?_
 refine za0 (za1 hG ?_)
 refine za0 ?_
 refine zb5 (zeh3) (fun v=>zR3 v=some r) ?_ ?_
 · intro j1 h
   unfold zR3 at h
   refine g_st ?_
   refine za0 (za1 hG ?_)
   refine za7 ?_
   exact zb1 h
 refine zd9 (zeh5) hK [(0,0),(1,1),(2,2)] h (fun x_l1 h g1 y_l1 h_l1 hx_l1=>?_)
 unfold zC0 at h_l1
 refine g_st ?_
 refine za0 (za0 (za1 hG ?_))
 obtain ⟨v3,hv3,h_l1⟩:=za3 h_l1
 refine za6 (fun hg=>zal3 g1.1 _ (hv3)) ?_
 refine za4 rfl hG h_l1 (fun _ h_l1=>?_) (fun _ h_l1=>?_)
 · refine za5 ?_
   refine zb6 (za0 (za1 hG ?_))
   obtain ⟨v4,hv4,h_l1⟩:=za3 h_l1
   refine za6 (fun hg=>zaA3 g1.1 _ (hv4)) ?_
   refine za0 (za0 (za1 hG ?_))
   refine zaS8 (zeh4 g1 v4) (fun v=>zv0 g1 v4 v=some y_l1) rfl hG h_l1 ?_ (fun _ h_l1=>?_) (fun _ h_l1=>?_)
   · intro j2 h_l1
     unfold zv0 at h_l1
     refine g_st ?_
     refine za0 (za1 hG ?_)
     obtain ⟨v5,hv5,h_l1⟩:=za3 h_l1
     refine za6 (fun hg=>zab5 j2.holds v4.1.proc v4.1.amount _ (hv5)) ?_
     obtain ⟨hb1,h_l1⟩:=za2 h_l1
     refine za1 hG ?_
     exact zc8 hK [(0,0),(1,1),(2,4)] h_l1
   · obtain ⟨hb2,h_l1⟩:=za2 h_l1
     refine za1 hG ?_
     exact zc4 hK [(0,0),(1,1),(2,2),(3,3)] ({ g1.1 with converts:=(g1.1.converts.drop 1) }) (by exact h_l1)
   obtain ⟨hb3,h_l1⟩:=za2 h_l1
   refine za1 hG ?_
   exact zc4 hK [(0,0),(1,1),(2,2),(3,3)] ({ g1.1 with waits:=(g1.1.waits.drop 1) }) (by exact h_l1)
 refine zc3 ?_
 obtain rfl:=Option.some.inj h_l1
 have hx:=hx_l1 _ rfl
 subst hx
 try dsimp only at h
 exact zc4 hK [(0,0),(1,1),(2,2)] (g1.1,g1.2) (by exact h)
attribute [local irreducible] zu1
def zT9 (a0:Int):Int :=
 (if ((decide (a0 < 0))||(decide (1073741824≤a0)))=true then
  1
 else
  (IntKind.i64.wrap (a0+1)))
theorem zbe6 (a0:Int):PFn C 149 [.int .i64 a0] (.int .i64 (zT9 a0)):=by
 generalize h:zT9 a0=r
 refine za8 zey8 rfl fun E hG hN hK=>?_
 unfold zdx3
 unfold zT9 at h
 refine za0 (za1 hG ?_)
 refine za0 (za0 (za1 hG ?_))
 refine za4 rfl hG h (fun _ h=>?_) (fun _ h=>?_)
 · refine za0 (za1 hG ?_)
   refine za7 ?_
   exact ze9 h
 refine za5 ?_
 refine za0 (za1 hG ?_)
 refine za7 ?_
 exact ze9 h
noncomputable def zi6 (a0:Queue):Option (Queue×(List Hold)×Int) :=
 (zu1 a0).bind fun v1 =>
 some ({ v1.1 with gen:=(zT9 a0.gen) },v1.2,0)
theorem zO7 (a0:Queue) (r:Queue×(List Hold)×Int) (h:zi6 a0=some r):PFn C 103 [.agg (Queue.enc a0)] (.tup [.agg (Queue.enc r.1),.sl (r.2.1.map Hold.enc),.int .i64 r.2.2]):=by
 refine za8 zey9 rfl fun E hG hN hK=>?_
 unfold zdx8
 unfold zi6 at h
 refine za0 (za1 hG ?_)
 refine za0 (za1 hG ?_)
 obtain ⟨v1,hv1,h⟩:=za3 h
 refine za6 (fun hg=>zaK4 a0 _ (hv1)) ?_
 refine za0 (za1 hG ?_)
 refine za6 (fun hg=>zbe6 a0.gen) ?_
 refine za0 (za1 hG ?_)
 refine za7 ?_
 exact zb1 h
attribute [local irreducible] zi6
noncomputable def zJ9 (j1:Int) (j2:(List Wait)):Option ((List Wait)×Int×Int) :=
 some (j2,j1,0)
@[go_sem] def zeh6 (j1:Int) (j2:(List Wait)):St:=⟨[(7,.int .i64 j1),(8,.own 0 0 j2.length)],[(0,⟨false,7,(Wait.enc Wait.zero),j2.map Wait.enc⟩)],1⟩
noncomputable def zD6 (a0:List Wait) (g1:Int×(List Wait)):Option ((Int×(List Wait))⊕(((List Wait)))) :=
 (if (decide (g1.1 < (a0.length:Int)))=true then
  gd (0≤g1.1∧g1.1 < (a0.length:Int)) <|
  gd (g1.2.length+1≤4294967296) <|
  some (.inl ((IntKind.i64.wrap (g1.1+1)),(g1.2++[{ (a0.getD g1.1.toNat Wait.zero) with passed:=(IntKind.i64.wrap ((a0.getD g1.1.toNat Wait.zero).passed+1)) }])))
 else
  some (.inr g1.2))
@[go_sem] def zeh7 (a0:List Wait) (j1:Int) (g1:Int×(List Wait)):St:=⟨[(0,.sl (a0.map Wait.enc)),(7,.int .i64 j1),(8,.own 0 0 g1.2.length),(9,.int .i64 g1.1)],[(0,⟨false,7,(Wait.enc Wait.zero),g1.2.map Wait.enc⟩)],1⟩
noncomputable def zK0 (a0:List Wait) (a1:Wait) (j1:Int):Option ((List Wait)×Int×Int) :=
 gd (0≤0∧0≤j1∧j1≤(a0.length:Int)) <|
 gd ((a0.take j1.toNat).length≤4294967296) <|
 gd ((a0.take j1.toNat).length+1≤4294967296) <|
 (zb8 (zD6 a0) (j1,((a0.take j1.toNat)++[a1]))).bind (fun z=>zJ9 j1 z)
@[go_sem] def zeh8 (a0:List Wait) (a1:Wait) (j1:Int):St:=⟨[(0,.sl (a0.map Wait.enc)),(3,.ptr 0 0 0),(7,.int .i64 j1)],[(0,⟨false,7,(Wait.enc Wait.zero),[Wait.enc a1]⟩)],1⟩
noncomputable def zK1 (a0:List Wait) (a1:Wait) (g2:Int):Option ((Int)⊕((Int))) :=
 gd ((decide (0 < g2))=true→0≤(IntKind.i64.wrap (g2 - 1))∧(IntKind.i64.wrap (g2 - 1)) < (a0.length:Int)) <|
 gd (((decide (0 < g2))&&(decide ((a0.getD ((IntKind.i64.wrap (g2 - 1)).toNat) Wait.zero).priority < a1.priority)))=true→0≤(IntKind.i64.wrap (g2 - 1))∧(IntKind.i64.wrap (g2 - 1)) < (a0.length:Int)) <|
 (if (((decide (0 < g2))&&(decide ((a0.getD ((IntKind.i64.wrap (g2 - 1)).toNat) Wait.zero).priority < a1.priority)))&&(decide ((a0.getD ((IntKind.i64.wrap (g2 - 1)).toNat) Wait.zero).passed < 3)))=true then
  some (.inl (IntKind.i64.wrap (g2 - 1)))
 else
  some (.inr g2))
@[go_sem] def zeh9 (a0:List Wait) (a1:Wait) (g2:Int):St:=⟨[(0,.sl (a0.map Wait.enc)),(3,.ptr 0 0 0),(7,.int .i64 g2)],[(0,⟨false,7,(Wait.enc Wait.zero),[Wait.enc a1]⟩)],1⟩
noncomputable def zx0 (a0:List Wait) (a1:Wait):Option ((List Wait)×Int×Int) :=
 (zs1 a0).bind fun v1 =>
 (if (!v1)=true then
  some ([],0,2)
 else
  (if ((!(zh9 a1))||(!decide (a1.passed=0)))=true then
   some ([],0,1)
  else
   (zn6 a0 a1.proc).bind fun v2 =>
   (if (decide (0≤v2))=true then
    some ([],0,11)
   else
    (if (decide ((a0.length:Int)=8))=true then
     some ([],0,4)
    else
     (zb8 (zK1 a0 a1) (a0.length:Int)).bind (fun z=>zK0 a0 a1 z)))))
theorem zaQ4 (a0:List Wait) (a1:Wait) (r:(List Wait)×Int×Int) (h:zx0 a0 a1=some r):PFn C 104 [.sl (a0.map Wait.enc),.agg (Wait.enc a1)] (.tup [.sl (r.1.map Wait.enc),.int .i64 r.2.1,.int .i64 r.2.2]):=by
 refine za8 zez0 rfl fun E hG hN hK=>?_
 unfold zdy9
 unfold zx0 at h
 refine za0 (za1 hG ?_)
 refine za0 (za0 (za1 hG ?_))
 obtain ⟨v1,hv1,h⟩:=za3 h
 refine za6 (fun hg=>zat6 a0 _ (hv1)) ?_
 refine za4 rfl hG h (fun _ h=>?_) (fun _ h=>?_)
 · refine za0 (za1 hG ?_)
   refine za7 ?_
   exact zb1 h
 refine za5 ?_
 refine za0 (za0 (za1 hG ?_))
 refine za6 (fun hg=>zad7 a1) ?_
 refine za4 rfl hG h (fun _ h=>?_) (fun _ h=>?_)
 · refine za0 (za1 hG ?_)
   refine za7 ?_
   exact zb1 h
 refine za5 ?_
 refine za0 (za0 (za1 hG ?_))
 obtain ⟨v2,hv2,h⟩:=za3 h
 refine za6 (fun hg=>zQ0 a0 a1.proc _ (hv2)) ?_
 refine za4 rfl hG h (fun _ h=>?_) (fun _ h=>?_)
 · refine za0 (za1 hG ?_)
   refine za7 ?_
   exact zb1 h
 refine za5 ?_
 refine za0 (za0 (za1 hG ?_))
 refine za4 rfl hG h (fun _ h=>?_) (fun _ h=>?_)
 · refine za0 (za1 hG ?_)
   refine za7 ?_
   exact zb1 h
 refine za5 ?_
 refine za0 (za1 hG ?_)
 refine za0 ?_
 refine zb5 (zeh8 a0 a1) (fun v=>zK0 a0 a1 v=some r) ?_ ?_
 · intro j1 h
   unfold zK0 at h
   refine g_st ?_
   refine za0 ?_
   obtain ⟨hb3,h⟩:=za2 h
   obtain ⟨hb4,h⟩:=za2 h
   obtain ⟨hb5,h⟩:=za2 h
   refine zF1 zd8 hG ?_
   refine za0 (za0 (za1 hG ?_))
   refine zb5 (zeh6 j1) (fun v=>zJ9 j1 v=some r) ?_ ?_
   · intro j2 h
     unfold zJ9 at h
     refine g_st ?_
     refine za0 (za1 hG ?_)
     refine za7 ?_
     exact zb1 h
   refine zd9 (zeh7 a0 j1) hK [(0,3)] h (fun x_l1 h g1 y_l1 h_l1 hx_l1=>?_)
   unfold zD6 at h_l1
   refine g_st ?_
   refine za0 (za0 (za1 hG ?_))
   refine za4 rfl hG h_l1 (fun _ h_l1=>?_) (fun _ h_l1=>?_)
   · refine za5 ?_
     refine za0 (zb6 (za0 ?_))
     obtain ⟨hb2,h_l1⟩:=za2 h_l1
     refine za1 hG ?_
     refine za0 (za1 hG ?_)
     obtain ⟨hb1,h_l1⟩:=za2 h_l1
     refine za1 hG ?_
     refine za1 hG ?_
     exact zc8 hK [(0,2)] h_l1
   refine zc3 ?_
   obtain rfl:=Option.some.inj h_l1
   have hx:=hx_l1 _ rfl
   subst hx
   try dsimp only at h
   exact zc4 hK [(0,0)] g1.2 (by exact h)
 refine zd9 (zeh9 a0 a1) hK [(0,0)] h (fun x_l2 h g2 y_l2 h_l2 hx_l2=>?_)
 unfold zK1 at h_l2
 refine g_st ?_
 refine za0 (za0 ?_)
 obtain ⟨hb6,h_l2⟩:=za2 h_l2
 obtain ⟨hb7,h_l2⟩:=za2 h_l2
 refine zm9 zd8 hG ?_
 refine za4 rfl hG h_l2 (fun _ h_l2=>?_) (fun _ h_l2=>?_)
 · refine za5 ?_
   refine zb6 (za1 hG ?_)
   exact zc8 hK [(0,0)] h_l2
 refine zc3 ?_
 obtain rfl:=Option.some.inj h_l2
 have hx:=hx_l2 _ rfl
 subst hx
 try dsimp only at h
 exact zc4 hK [(0,0)] g2 (by exact h)
attribute [local irreducible] zx0
noncomputable def zs3 (a0:Queue) (a1:Proc) (a2:Amount) (a3:Int):Option (Queue×(List Hold)×Int) :=
 (zk7 a0).bind fun v1 =>
 (if (!v1)=true then
  some ({ Queue.zero with  },[],2)
 else
  (if (((!(ze5 a1))||(decide (a3 < 0)))||(decide (7 < a3)))=true then
   some ({ Queue.zero with  },[],1)
  else
   (if (!(zg7 a0.resource a2))=true then
    some ({ Queue.zero with  },[],12)
   else
    (zl8 a0 a1).bind fun v2 =>
    (if v2.2=true then
     some ({ Queue.zero with  },[],14)
    else
     (zw9 a0).bind fun v3 =>
     (zn7 v3 a1).bind fun v4 =>
     (if (zf7 v3.resource v4 a2)=true then
      some (v3,[],0)
     else
      (if (!(zc6 v4))=true then
       (zD5 v3.resource v4 a2).bind fun v5 =>
       gd (v3.converts.length+1≤4294967296) <|
       (zi6 (⟨(⟨v3.resource.name,v3.resource.kind,v3.resource.units,v3.resource.home⟩:Resource),v3.holds,(v3.converts++[{ Wait.zero with proc:=a1,amount:=v5 }]),v3.waits,v3.gen⟩:Queue)).bind fun v6 =>
       some (v6.1,v6.2.1,v6.2.2)
      else
       (if (decide (8≤(IntKind.i64.wrap (((v3.holds.length:Nat):Int)+((v3.waits.length:Nat):Int)))))=true then
        some ({ Queue.zero with  },[],4)
       else
        (zx0 v3.waits ({ Wait.zero with proc:=a1,amount:=a2,priority:=a3 })).bind fun v7 =>
        (if (!decide (v7.2.2=0))=true then
         some ({ Queue.zero with  },[],v7.2.2)
        else
         (zi6 (⟨(⟨v3.resource.name,v3.resource.kind,v3.resource.units,v3.resource.home⟩:Resource),v3.holds,v3.converts,v7.1,v3.gen⟩:Queue)).bind fun v8 =>
         some (v8.1,v8.2.1,v8.2.2)))))))))
theorem zaY3 (a0:Queue) (a1:Proc) (a2:Amount) (a3:Int) (r:Queue×(List Hold)×Int) (h:zs3 a0 a1 a2 a3=some r):PFn C 60 [.agg (Queue.enc a0),.agg (Proc.enc a1),.agg (Amount.enc a2),.int .i64 a3] (.tup [.agg (Queue.enc r.1),.sl (r.2.1.map Hold.enc),.int .i64 r.2.2]):=by
 refine za8 zez1 rfl fun E hG hN hK=>?_
 unfold zdA0
 unfold zs3 at h
 refine za0 (za1 hG ?_)
 refine za0 (za0 (za1 hG ?_))
 obtain ⟨v1,hv1,h⟩:=za3 h
 refine za6 (fun hg=>zT7 a0 _ (hv1)) ?_
 refine za4 rfl hG h (fun _ h=>?_) (fun _ h=>?_)
 · refine za0 (za1 hG ?_)
   refine za7 ?_
   exact zb1 h
 refine za5 ?_
 refine za0 (za0 (za1 hG ?_))
 refine za6 (fun hg=>zH4 a1) ?_
 refine za4 rfl hG h (fun _ h=>?_) (fun _ h=>?_)
 · refine za0 (za1 hG ?_)
   refine za7 ?_
   exact zb1 h
 refine za5 ?_
 refine za0 (za0 (za1 hG ?_))
 refine za6 (fun hg=>zJ1 a0.resource a2) ?_
 refine za4 rfl hG h (fun _ h=>?_) (fun _ h=>?_)
 · refine za0 (za1 hG ?_)
   refine za7 ?_
   exact zb1 h
 refine za5 ?_
 refine za0 (za0 (za1 hG ?_))
 obtain ⟨v2,hv2,h⟩:=za3 h
 refine za6 (fun hg=>zaa6 a0 a1 _ (hv2)) ?_
 refine za0 (za1 hG ?_)
 refine za4 rfl hG h (fun _ h=>?_) (fun _ h=>?_)
 · refine za0 (za1 hG ?_)
   refine za7 ?_
   exact zb1 h
 refine za5 ?_
 refine za0 (za1 hG ?_)
 obtain ⟨v3,hv3,h⟩:=za3 h
 refine zo0 [] [(0,5),(1,6),(2,7)] [0,1,2] (zaK3 a0 _ hv3) rfl rfl ?_
 refine za0 (za1 hG ?_)
 obtain ⟨v4,hv4,h⟩:=za3 h
 refine za6 (fun hg=>zY4 v3 a1 _ (hv4)) ?_
 refine za0 (za0 (za1 hG ?_))
 refine za6 (fun hg=>zI6 v3.resource v4 a2) ?_
 refine za4 rfl hG h (fun _ h=>?_) (fun _ h=>?_)
 · refine za0 (za1 hG ?_)
   refine za7 ?_
   exact zb1 h
 refine za5 ?_
 refine za0 (za0 (za1 hG ?_))
 refine za6 (fun hg=>zp0 v4) ?_
 refine za4 rfl hG h (fun _ h=>?_) (fun _ h=>?_)
 · refine za0 (zF1 zd8 hG ?_)
   obtain ⟨v5,hv5,h⟩:=za3 h
   obtain ⟨hb1,h⟩:=za2 h
   refine zC5 (fun hg=>zbe5 v3.resource v4 a2 _ (hv5)) ?_
   refine za0 (za1 hG ?_)
   obtain ⟨v6,hv6,h⟩:=za3 h
   have hc_v6:=zO7 (⟨(⟨v3.resource.name,v3.resource.kind,v3.resource.units,v3.resource.home⟩:Resource),v3.holds,(v3.converts++[{ Wait.zero with proc:=a1,amount:=v5 }]),v3.waits,v3.gen⟩:Queue) _ (hv6)
   have el_v6:∀ x:Queue,Queue.enc x=[A.str x.resource.name,A.int .i64 x.resource.kind,A.int .i64 x.resource.units,A.int .i64 x.resource.home,A.sl (x.holds.map Hold.enc),A.sl (x.converts.map Wait.enc),A.sl (x.waits.map Wait.enc),A.int .i64 x.gen]:=fun x=>rfl
   rw [el_v6] at hc_v6
   dsimp only at hc_v6
   refine za6 (fun hg=>by exact hc_v6) ?_
   refine za7 ?_
   exact zb1 h
 refine za5 ?_
 refine za0 (za0 (za1 hG ?_))
 refine za4 rfl hG h (fun _ h=>?_) (fun _ h=>?_)
 · refine za0 (za1 hG ?_)
   refine za7 ?_
   exact zb1 h
 refine za5 ?_
 refine za0 (za1 hG ?_)
 obtain ⟨v7,hv7,h⟩:=za3 h
 refine za6 (fun hg=>zaQ4 v3.waits ({ Wait.zero with proc:=a1,amount:=a2,priority:=a3 }) _ (hv7)) ?_
 refine za0 (za0 (za1 hG ?_))
 refine za4 rfl hG h (fun _ h=>?_) (fun _ h=>?_)
 · refine za0 (za1 hG ?_)
   refine za7 ?_
   exact zb1 h
 refine za5 ?_
 refine za0 (za1 hG ?_)
 refine za0 (za1 hG ?_)
 obtain ⟨v8,hv8,h⟩:=za3 h
 have hc_v8:=zO7 (⟨(⟨v3.resource.name,v3.resource.kind,v3.resource.units,v3.resource.home⟩:Resource),v3.holds,v3.converts,v7.1,v3.gen⟩:Queue) _ (hv8)
 have el_v8:∀ x:Queue,Queue.enc x=[A.str x.resource.name,A.int .i64 x.resource.kind,A.int .i64 x.resource.units,A.int .i64 x.resource.home,A.sl (x.holds.map Hold.enc),A.sl (x.converts.map Wait.enc),A.sl (x.waits.map Wait.enc),A.int .i64 x.gen]:=fun x=>rfl
 rw [el_v8] at hc_v8
 dsimp only at hc_v8
 refine za6 (fun hg=>by exact hc_v8) ?_
 refine za7 ?_
 exact zb1 h
attribute [local irreducible] zs3
noncomputable def zi7 (a0:List Queue) (a1:Int) (a2:Queue):Option ((List Queue)) :=
 gd (a0.length≤4294967296) <|
 gd (0≤a1∧a1 < ((a0.length:Nat):Int)) <|
 some (a0.set a1.toNat a2)
theorem zW8 (a0:List Queue) (a1:Int) (a2:Queue) (r:(List Queue)) (h:zi7 a0 a1 a2=some r):PFn C 61 [.sl (a0.map Queue.enc),.int .i64 a1,.agg (Queue.enc a2)] (.sl (r.map Queue.enc)):=by
 refine za8 zez2 rfl fun E hG hN hK=>?_
 unfold zdA5
 unfold zi7 at h
 refine za0 (za1 hG ?_)
 refine za0 ?_
 obtain ⟨hb2,h⟩:=za2 h
 refine za1 hG ?_
 refine za0 ?_
 obtain ⟨hb1,h⟩:=za2 h
 refine za1 hG ?_
 refine za0 (za1 hG ?_)
 refine za7 ?_
 exact zb1 h
attribute [local irreducible] zi7
noncomputable def zU0  (j1:(List Event)):Option ((List Event)) :=
 some j1
@[go_sem] def zei0  (j1:(List Event)):St:=⟨[(5,.own 0 0 j1.length)],[(0,⟨false,7,(Event.enc Event.zero),j1.map Event.enc⟩)],1⟩
noncomputable def zK2 (a0:ByteArray) (a1:List Hold) (g1:Int×(List Event)):Option ((Int×(List Event))⊕(((List Event)))) :=
 (if (decide (g1.1 < (a1.length:Int)))=true then
  gd (0≤g1.1∧g1.1 < (a1.length:Int)) <|
  gd (0≤g1.1∧g1.1 < (a1.length:Int)) <|
  gd (g1.2.length+1≤4294967296) <|
  some (.inl ((IntKind.i64.wrap (g1.1+1)),(g1.2++[(⟨1,(a1.getD g1.1.toNat Hold.zero).proc,a0,(a1.getD g1.1.toNat Hold.zero).amount⟩:Event)])))
 else
  some (.inr g1.2))
@[go_sem] def zei1 (a0:ByteArray) (a1:List Hold) (g1:Int×(List Event)):St:=⟨[(0,.str a0),(1,.sl (a1.map Hold.enc)),(5,.own 0 0 g1.2.length),(6,.int .i64 g1.1)],[(0,⟨false,7,(Event.enc Event.zero),g1.2.map Event.enc⟩)],1⟩
noncomputable def zi9 (a0:ByteArray) (a1:List Hold):Option ((List Event)) :=
 (zb8 (zK2 a0 a1) (0,[])).bind (fun z=>zU0 z)
theorem zaa7 (a0:ByteArray) (a1:List Hold) (r:(List Event)) (h:zi9 a0 a1=some r):PFn C 62 [.str a0,.sl (a1.map Hold.enc)] (.sl (r.map Event.enc)):=by
 refine za8 zez3 rfl fun E hG hN hK=>?_
 unfold zdB3
 unfold zi9 at h
 refine za0 (za1 hG ?_)
 refine za0 (za1 hG ?_)
 refine za0 (za0 (za1 hG ?_))
 refine zb5 (zei0) (fun v=>zU0 v=some r) ?_ ?_
 · intro j1 h
   unfold zU0 at h
   refine g_st ?_
   refine za0 (za1 hG ?_)
   refine za7 ?_
   exact zb1 h
 refine zd9 (zei1 a0 a1) hK [(0,0)] h (fun x_l1 h g1 y_l1 h_l1 hx_l1=>?_)
 unfold zK2 at h_l1
 refine g_st ?_
 refine za0 (za0 (za1 hG ?_))
 refine za4 rfl hG h_l1 (fun _ h_l1=>?_) (fun _ h_l1=>?_)
 · refine za5 ?_
   refine za0 (zb6 ?_)
   obtain ⟨hb1,h_l1⟩:=za2 h_l1
   obtain ⟨hb2,h_l1⟩:=za2 h_l1
   obtain ⟨hb3,h_l1⟩:=za2 h_l1
   refine zF1 zd8 hG ?_
   refine za1 hG ?_
   exact zc8 hK [(0,1)] h_l1
 refine zc3 ?_
 obtain rfl:=Option.some.inj h_l1
 have hx:=hx_l1 _ rfl
 subst hx
 try dsimp only at h
 exact zc4 hK [(0,0)] g1.2 (by exact h)
attribute [local irreducible] zi9
noncomputable def zA4 (a0:List Queue) (a1:Proc) (a2:Atom) (a3:Int):Option ((List Queue)×(List Event)×Int) :=
 (zm6 a0).bind fun v1 =>
 (if (!v1)=true then
  some ([],[],2)
 else
  (zt1 a0 a2.name).bind fun v2 =>
  (if (decide (v2 < 0))=true then
   some ([],[],10)
  else
   (zs2 a0).bind fun v3 =>
   ((if (decide ((v3.length:Int)=8))=true then zm5 v3 a1 else some (false))).bind fun v4 =>
   (if ((decide ((v3.length:Int)=8))&&(!v4))=true then
    some ([],[],4)
   else
    gd (0≤v2∧v2 < (a0.length:Int)) <|
    (zs3 (a0.getD v2.toNat Queue.zero) a1 a2.amount a3).bind fun v5 =>
    (if (!decide (v5.2.2=0))=true then
     some ([],[],v5.2.2)
    else
     (zi7 a0 v2 v5.1).bind fun v6 =>
     (zi9 a2.name v5.2.1).bind fun v7 =>
     some (v6,v7,0)))))
theorem zaY4 (a0:List Queue) (a1:Proc) (a2:Atom) (a3:Int) (r:(List Queue)×(List Event)×Int) (h:zA4 a0 a1 a2 a3=some r):PFn C 18 [.sl (a0.map Queue.enc),.agg (Proc.enc a1),.agg (Atom.enc a2),.int .i64 a3] (.tup [.sl (r.1.map Queue.enc),.sl (r.2.1.map Event.enc),.int .i64 r.2.2]):=by
 refine za8 zez4 rfl fun E hG hN hK=>?_
 unfold zdC4
 unfold zA4 at h
 refine za0 (za1 hG ?_)
 refine za0 (za0 (za1 hG ?_))
 obtain ⟨v1,hv1,h⟩:=za3 h
 refine za6 (fun hg=>zae1 a0 _ (hv1)) ?_
 refine za4 rfl hG h (fun _ h=>?_) (fun _ h=>?_)
 · refine za0 (za1 hG ?_)
   refine za7 ?_
   exact zb1 h
 refine za5 ?_
 refine za0 (za1 hG ?_)
 obtain ⟨v2,hv2,h⟩:=za3 h
 refine za6 (fun hg=>zY3 a0 a2.name _ (hv2)) ?_
 refine za0 (za0 (za1 hG ?_))
 refine za4 rfl hG h (fun _ h=>?_) (fun _ h=>?_)
 · refine za0 (za1 hG ?_)
   refine za7 ?_
   exact zb1 h
 refine za5 ?_
 refine za0 (za1 hG ?_)
 obtain ⟨v3,hv3,h⟩:=za3 h
 refine za6 (fun hg=>zat7 a0 _ (hv3)) ?_
 refine za0 (za0 (za1 hG ?_))
 obtain ⟨v4,hv4,h⟩:=za3 h
 refine za6 (fun hg=>zal4 v3 a1 _ (zD1 hg hv4)) ?_
 refine za4 rfl hG h (fun _ h=>?_) (fun _ h=>?_)
 · refine za0 (za1 hG ?_)
   refine za7 ?_
   exact zb1 h
 refine za5 ?_
 refine za0 ?_
 obtain ⟨hb1,h⟩:=za2 h
 refine zF1 zd8 hG ?_
 obtain ⟨v5,hv5,h⟩:=za3 h
 refine zC5 (fun hg=>zaY3 (a0.getD v2.toNat Queue.zero) a1 a2.amount a3 _ (hv5)) ?_
 refine za0 (za0 (za1 hG ?_))
 refine za4 rfl hG h (fun _ h=>?_) (fun _ h=>?_)
 · refine za0 (za1 hG ?_)
   refine za7 ?_
   exact zb1 h
 refine za5 ?_
 refine za0 (zm9 zd8 hG ?_)
 obtain ⟨v6,hv6,h⟩:=za3 h
 refine zf8 (fun hg=>zW8 a0 v2 v5.1 _ (hv6)) ?_
 obtain ⟨v7,hv7,h⟩:=za3 h
 refine zf8 (fun hg=>zaa7 a2.name v5.2.1 _ (hv7)) ?_
 refine za7 ?_
 exact zb1 h
attribute [local irreducible] zA4
noncomputable def zar3  (j1:Unit):Option (Bool) :=
 some true
@[go_sem] def zeW2  (j1:Unit):St:=⟨[],[],0⟩
noncomputable def zar4 (a0:List Event) (a1:List Event) (g1:Int):Option ((Int)⊕((Unit)⊕(Bool))) :=
 (if (decide (g1 < (a0.length:Int)))=true then
  gd (0≤g1∧g1 < (a0.length:Int)) <|
  gd (0≤g1∧g1 < (a1.length:Int)) <|
  (if (!decide ((a0.getD g1.toNat Event.zero)=(a1.getD g1.toNat Event.zero)))=true then
   some (.inr (.inr false))
  else
   some (.inl (IntKind.i64.wrap (g1+1))))
 else
  some (.inr (.inl ())))
@[go_sem] def zeW3 (a0:List Event) (a1:List Event) (g1:Int):St:=⟨[(0,.sl (a0.map Event.enc)),(1,.sl (a1.map Event.enc)),(5,.int .i64 g1)],[],0⟩
noncomputable def zH8 (a0:List Event) (a1:List Event):Option (Bool) :=
 (if (!decide ((a0.length:Int)=(a1.length:Int)))=true then
  some false
 else
  (zb8 (zar4 a0 a1) 0).bind (fun | .inl z=>zar3 z | .inr z=>some z))
attribute [local irreducible] zH8
noncomputable def zao3 (a0:List Queue) (a1:List Event) (a2:Int) (a3:List Queue) (a4:List Event) (a5:Int):Option (Bool) :=
 ((if (decide (a2=a5))=true then zT4 a0 a3 else some (false))).bind fun v1 =>
 ((if ((decide (a2=a5))&&v1)=true then zH8 a1 a4 else some (false))).bind fun v2 =>
 some (((decide (a2=a5))&&v1)&&v2)
attribute [local irreducible] zao3
def zH9 (a0:List Int):Bool :=
 (decide ((a0.length:Int)≤300))
theorem zbe7 (a0:List Int):PFn C 20 [.sl (a0.map (eI .i64))] (.bool (zH9 a0)):=by
 generalize h:zH9 a0=r
 refine za8 zeA6 rfl fun E hG hN hK=>?_
 unfold zdC7
 unfold zH9 at h
 refine za0 (za1 hG ?_)
 refine za0 (za1 hG ?_)
 refine za7 ?_
 exact ze9 h
noncomputable def zd7 (a0:Int) (a1:Tape):Option (Int×Tape) :=
 (if (decide ((a1.l.length:Int)≤a1.at_))=true then
  some (0,a1)
 else
  gd (0≤(IntKind.i64.wrap (({ a1 with at_:=(IntKind.i64.wrap (a1.at_+1)) }).at_ - 1))∧(IntKind.i64.wrap (({ a1 with at_:=(IntKind.i64.wrap (a1.at_+1)) }).at_ - 1)) < ((({ a1 with at_:=(IntKind.i64.wrap (a1.at_+1)) }).l).length:Int)) <|
  (zs8 ((({ a1 with at_:=(IntKind.i64.wrap (a1.at_+1)) }).l).getD ((IntKind.i64.wrap (({ a1 with at_:=(IntKind.i64.wrap (a1.at_+1)) }).at_ - 1)).toNat) 0) a0).bind fun v1 =>
  some (v1,{ a1 with at_:=(IntKind.i64.wrap (a1.at_+1)) }))
theorem zg2 (a0:Int) (a1:Tape) (r:Int×Tape) (h:zd7 a0 a1=some r):MFn C 47 [.ptr 0 0 0,.int .i64 a0] [(0,⟨false,2,(Tape.enc Tape.zero),[Tape.enc a1]⟩)] 1 (.int .i64 r.1) [(0,⟨false,2,(Tape.enc Tape.zero),[Tape.enc r.2]⟩)] 1:=by
 refine zl5 (rl:=[.int .i64 r.1]) zeA7 rfl rfl rfl rfl fun E hG hN hK=>?_
 unfold zdD3
 unfold zd7 at h
 refine za0 (za1 hG ?_)
 refine za0 (za0 (zm9 zd8 hG ?_))
 refine za4 rfl hG h (fun _ h=>?_) (fun _ h=>?_)
 · refine za0 (za1 hG ?_)
   refine za7 ?_
   exact zz5 [(0,0)] h
 refine za5 ?_
 refine za0 (za1 hG ?_)
 refine za0 ?_
 obtain ⟨hb1,h⟩:=za2 h
 refine zm9 zd8 hG ?_
 obtain ⟨v1,hv1,h⟩:=za3 h
 refine zf8 (fun hg=>zah5 ((({ a1 with at_:=(IntKind.i64.wrap (a1.at_+1)) }).l).getD ((IntKind.i64.wrap (({ a1 with at_:=(IntKind.i64.wrap (a1.at_+1)) }).at_ - 1)).toNat) 0) a0 _ (hv1)) ?_
 refine za7 ?_
 exact zz5 [(0,0)] h
attribute [local irreducible] zd7
def ze2 :List ByteArray:=[(⟨#[97]⟩:ByteArray),(⟨#[98]⟩:ByteArray),(⟨#[99]⟩:ByteArray),(⟨#[100]⟩:ByteArray)]
noncomputable def zE8  (j1:Tape×(List Resource)):Option ((List Resource)×Tape) :=
 (zd7 8 j1.1).bind fun v1 =>
 (zd7 4 v1.2).bind fun v2 =>
 gd (j1.2.length+1≤4294967296) <|
 (zd7 3 v2.2).bind fun v3 =>
 (zd7 4 v3.2).bind fun v4 =>
 gd (j1.2.length+1+1≤4294967296) <|
 some (((j1.2++[(⟨(⟨#[112]⟩:ByteArray),2,(IntKind.i64.wrap (1+v1.1)),v2.1⟩:Resource)])++[(⟨(⟨#[113]⟩:ByteArray),2,(IntKind.i64.wrap (1+v3.1)),v4.1⟩:Resource)]),v4.2)
@[go_sem] def zei2  (j1:Tape×(List Resource)):St:=⟨[(0,.ptr 0 0 0),(3,.own 1 0 j1.2.length)],[(0,⟨false,2,(Tape.enc Tape.zero),[Tape.enc j1.1]⟩),(1,⟨false,4,(Resource.enc Resource.zero),j1.2.map Resource.enc⟩)],2⟩
noncomputable def zu0  (g1:Int×Tape×(List Resource)):Option ((Int×Tape×(List Resource))⊕((Tape×(List Resource)))) :=
 (if (decide (g1.1 < (ze2.length:Int)))=true then
  gd (0≤g1.1∧g1.1 < (ze2.length:Int)) <|
  (zd7 4 g1.2.1).bind fun v5 =>
  gd (g1.2.2.length+1≤4294967296) <|
  some (.inl ((IntKind.i64.wrap (g1.1+1)),v5.2,(g1.2.2++[(⟨(ze2.getD g1.1.toNat (⟨#[]⟩)),1,1,v5.1⟩:Resource)])))
 else
  some (.inr (g1.2.1,g1.2.2)))
@[go_sem] def zei3  (g1:Int×Tape×(List Resource)):St:=⟨[(0,.ptr 0 0 0),(3,.own 1 0 g1.2.2.length),(4,.full (ze2.map eS)),(5,.int .i64 g1.1)],[(0,⟨false,2,(Tape.enc Tape.zero),[Tape.enc g1.2.1]⟩),(1,⟨false,4,(Resource.enc Resource.zero),g1.2.2.map Resource.enc⟩)],2⟩
noncomputable def zq9 (a0:Tape):Option ((List Resource)×Tape) :=
 (zb8 (zu0) (0,a0,[])).bind (fun z=>zE8 z)
theorem zaC7 (a0:Tape) (r:(List Resource)×Tape) (h:zq9 a0=some r):MFn C 45 [.ptr 0 0 0] [(0,⟨false,2,(Tape.enc Tape.zero),[Tape.enc a0]⟩)] 1 (.sl (r.1.map Resource.enc)) [(0,⟨false,2,(Tape.enc Tape.zero),[Tape.enc r.2]⟩)] 1:=by
 refine zl5 (rl:=[.sl (r.1.map Resource.enc)]) zeA8 rfl rfl rfl rfl fun E hG hN hK=>?_
 unfold zdE3
 unfold zq9 at h
 refine za0 (za1 hG ?_)
 refine za0 (za1 hG ?_)
 refine za0 (za1 hG ?_)
 refine g_gh (.cast 4 (.full (ze2.map eS))) ?_
 refine za0 (za0 (za1 hG ?_))
 refine zb5 (zei2) (fun v=>zE8 v=some r) ?_ ?_
 · intro j1 h
   unfold zE8 at h
   refine g_st ?_
   refine za0 (za1 hG ?_)
   obtain ⟨v1,hv1,h⟩:=za3 h
   refine zo0 [(0,0)] [] [0] (zg2 8 j1.1 _ hv1) rfl rfl ?_
   obtain ⟨v2,hv2,h⟩:=za3 h
   obtain ⟨hb2,h⟩:=za2 h
   refine zo0 [(0,0)] [] [0] (zg2 4 v1.2 _ hv2) rfl rfl ?_
   refine za0 (za1 hG ?_)
   obtain ⟨v3,hv3,h⟩:=za3 h
   refine zo0 [(0,0)] [] [0] (zg2 3 v2.2 _ hv3) rfl rfl ?_
   obtain ⟨v4,hv4,h⟩:=za3 h
   obtain ⟨hb1,h⟩:=za2 h
   refine zo0 [(0,0)] [] [0] (zg2 4 v3.2 _ hv4) rfl rfl ?_
   refine g_gh (.fz [3]) ?_
   refine za7 ?_
   exact zz5 [(0,0)] h
 refine zd9 (zei3) hK [(0,0),(1,1)] h (fun x_l1 h g1 y_l1 h_l1 hx_l1=>?_)
 unfold zu0 at h_l1
 refine g_st ?_
 refine za0 (za0 (za1 hG ?_))
 refine za4 rfl hG h_l1 (fun _ h_l1=>?_) (fun _ h_l1=>?_)
 · refine za5 ?_
   refine za0 (zb6 ?_)
   obtain ⟨hb3,h_l1⟩:=za2 h_l1
   refine zF1 zd8 hG ?_
   obtain ⟨v5,hv5,h_l1⟩:=za3 h_l1
   obtain ⟨hb4,h_l1⟩:=za2 h_l1
   refine zac6 [(0,0)] [] [0] (zg2 4 g1.2.1 _ hv5) rfl rfl ?_
   refine za1 hG ?_
   exact zc8 hK [(0,0),(1,2)] h_l1
 refine zc3 ?_
 obtain rfl:=Option.some.inj h_l1
 have hx:=hx_l1 _ rfl
 subst hx
 try dsimp only at h
 exact zc4 hK [(0,0),(1,1)] (g1.2.1,g1.2.2) (by exact h)
attribute [local irreducible] zq9
noncomputable def zp9 (a0:Tape):Option (Bool×Tape) :=
 some ((decide (a0.at_ < (a0.l.length:Int))),a0)
theorem zat8 (a0:Tape) (r:Bool×Tape) (h:zp9 a0=some r):MFn C 46 [.ptr 0 0 0] [(0,⟨false,2,(Tape.enc Tape.zero),[Tape.enc a0]⟩)] 1 (.bool r.1) [(0,⟨false,2,(Tape.enc Tape.zero),[Tape.enc r.2]⟩)] 1:=by
 refine zl5 (rl:=[.bool r.1]) zeA9 rfl rfl rfl rfl fun E hG hN hK=>?_
 unfold zdE6
 unfold zp9 at h
 refine za0 (za1 hG ?_)
 refine za0 (zm9 zd8 hG ?_)
 refine za7 ?_
 exact zz5 [(0,0)] h
attribute [local irreducible] zp9
def zy4 :List Int:=[5,5,3,4,2,1,3,5]
noncomputable def zG4 (a0:Int):Option (Int) :=
 (zs8 a0 (zy4.length:Int)).bind fun v1 =>
 gd (0≤v1∧v1 < (zy4.length:Int)) <|
 some (zy4.getD v1.toNat 0)
theorem zbn3 (a0:Int) (r:Int) (h:zG4 a0=some r):PFn C 63 [.int .i64 a0] (.int .i64 r):=by
 refine za8 zeB0 rfl fun E hG hN hK=>?_
 unfold zdF0
 unfold zG4 at h
 refine za0 (za1 hG ?_)
 refine za0 (za1 hG ?_)
 refine g_gh (.cast 3 (.full (zy4.map (eI .i64)))) ?_
 refine za0 (za1 hG ?_)
 obtain ⟨v1,hv1,h⟩:=za3 h
 obtain ⟨hb1,h⟩:=za2 h
 refine za6 (fun hg=>zah5 a0 (zy4.length:Int) _ (hv1)) ?_
 refine za7 ?_
 exact zb1 h
attribute [local irreducible] zG4
noncomputable def zA5 (a0:Resource) (a1:Int):Option (Amount) :=
 (if (decide (a0.kind=1))=true then
  (zG4 a1).bind fun v1 =>
  some ({ Amount.zero with mode:=v1 })
 else
  (zs8 a1 a0.units).bind fun v2 =>
  some ({ Amount.zero with units:=(IntKind.i64.wrap (1+v2)) }))
theorem zaY5 (a0:Resource) (a1:Int) (r:Amount) (h:zA5 a0 a1=some r):PFn C 24 [.agg (Resource.enc a0),.int .i64 a1] (.agg (Amount.enc r)):=by
 refine za8 zeB1 rfl fun E hG hN hK=>?_
 unfold zdF5
 unfold zA5 at h
 refine za0 (za1 hG ?_)
 refine za0 (za0 (za1 hG ?_))
 refine za4 rfl hG h (fun _ h=>?_) (fun _ h=>?_)
 · refine za0 (za1 hG ?_)
   obtain ⟨v1,hv1,h⟩:=za3 h
   refine za6 (fun hg=>zbn3 a1 _ (hv1)) ?_
   refine za7 ?_
   exact zb1 h
 refine za5 ?_
 refine za0 (za1 hG ?_)
 obtain ⟨v2,hv2,h⟩:=za3 h
 refine za6 (fun hg=>zah5 a1 a0.units _ (hv2)) ?_
 refine za7 ?_
 exact zb1 h
attribute [local irreducible] zA5
noncomputable def zU1 (a0:List Wait) (j1:(List Wait)):Option ((List Wait)×Bool) :=
 some (j1,(decide (((j1.length:Nat):Int) < (a0.length:Int))))
@[go_sem] def zei4 (a0:List Wait) (j1:(List Wait)):St:=⟨[(0,.sl (a0.map Wait.enc)),(6,.own 0 0 j1.length)],[(0,⟨false,7,(Wait.enc Wait.zero),j1.map Wait.enc⟩)],1⟩
noncomputable def zK3 (a0:List Wait) (a1:Proc) (g1:Int×(List Wait)):Option ((Int×(List Wait))⊕(((List Wait)))) :=
 (if (decide (g1.1 < (a0.length:Int)))=true then
  gd (0≤g1.1∧g1.1 < (a0.length:Int)) <|
  (if (!decide ((a0.getD g1.1.toNat Wait.zero).proc=a1))=true then
   gd (0≤g1.1∧g1.1 < (a0.length:Int)) <|
   gd (g1.2.length+1≤4294967296) <|
   some (.inl ((IntKind.i64.wrap (g1.1+1)),(g1.2++[(a0.getD g1.1.toNat Wait.zero)])))
  else
   some (.inl ((IntKind.i64.wrap (g1.1+1)),g1.2)))
 else
  some (.inr g1.2))
@[go_sem] def zei5 (a0:List Wait) (a1:Proc) (g1:Int×(List Wait)):St:=⟨[(0,.sl (a0.map Wait.enc)),(3,.ptr 0 0 0),(6,.own 1 0 g1.2.length),(7,.int .i64 g1.1)],[(0,⟨false,3,(Proc.enc Proc.zero),[Proc.enc a1]⟩),(1,⟨false,7,(Wait.enc Wait.zero),g1.2.map Wait.enc⟩)],2⟩
noncomputable def zl9 (a0:List Wait) (a1:Proc):Option ((List Wait)×Bool) :=
 (zb8 (zK3 a0 a1) (0,[])).bind (fun z=>zU1 a0 z)
theorem zaq6 (a0:List Wait) (a1:Proc) (r:(List Wait)×Bool) (h:zl9 a0 a1=some r):PFn C 113 [.sl (a0.map Wait.enc),.agg (Proc.enc a1)] (.tup [.sl (r.1.map Wait.enc),.bool r.2]):=by
 refine za8 zeB2 rfl fun E hG hN hK=>?_
 unfold zdG4
 unfold zl9 at h
 refine za0 (za1 hG ?_)
 refine za0 (za1 hG ?_)
 refine za0 (za0 (za1 hG ?_))
 refine zb5 (zei4 a0) (fun v=>zU1 a0 v=some r) ?_ ?_
 · intro j1 h
   unfold zU1 at h
   refine g_st ?_
   refine za0 (za1 hG ?_)
   refine za7 ?_
   exact zb1 h
 refine zd9 (zei5 a0 a1) hK [(0,0),(1,1)] h (fun x_l1 h g1 y_l1 h_l1 hx_l1=>?_)
 unfold zK3 at h_l1
 refine g_st ?_
 refine za0 (za0 (za1 hG ?_))
 refine za4 rfl hG h_l1 (fun _ h_l1=>?_) (fun _ h_l1=>?_)
 · refine za5 ?_
   refine za0 (zb6 (za0 ?_))
   obtain ⟨hb3,h_l1⟩:=za2 h_l1
   refine zm9 zd8 hG ?_
   refine za4 rfl hG h_l1 (fun _ h_l1=>?_) (fun _ h_l1=>?_)
   · obtain ⟨hb1,h_l1⟩:=za2 h_l1
     obtain ⟨hb2,h_l1⟩:=za2 h_l1
     refine za1 hG ?_
     refine za1 hG ?_
     exact zc8 hK [(0,0),(1,2)] h_l1
   refine za5 ?_
   refine za1 hG ?_
   exact zc8 hK [(0,0),(1,1)] h_l1
 refine zc3 ?_
 obtain rfl:=Option.some.inj h_l1
 have hx:=hx_l1 _ rfl
 subst hx
 try dsimp only at h
 exact zc4 hK [(0,1)] g1.2 (by exact h)
attribute [local irreducible] zl9
noncomputable def zx1 (a0:Queue) (a1:Proc):Option (Queue×(List Hold)×Int) :=
 (zk7 a0).bind fun v1 =>
 (if (!v1)=true then
  some ({ Queue.zero with  },[],2)
 else
  (zl8 a0 a1).bind fun v2 =>
  (if (!v2.2)=true then
   some ({ Queue.zero with  },[],10)
  else
   (zt2 a0).bind fun v3 =>
   (zl9 v3.converts a1).bind fun v4 =>
   (zl9 (({ v3 with converts:=v4.1 }).waits) a1).bind fun v5 =>
   (zi6 ({ { v3 with converts:=v4.1 } with waits:=v5.1 })).bind fun v6 =>
   some (v6.1,v6.2.1,v6.2.2)))
theorem zaQ5 (a0:Queue) (a1:Proc) (r:Queue×(List Hold)×Int) (h:zx1 a0 a1=some r):PFn C 79 [.agg (Queue.enc a0),.agg (Proc.enc a1)] (.tup [.agg (Queue.enc r.1),.sl (r.2.1.map Hold.enc),.int .i64 r.2.2]):=by
 refine za8 zeB3 rfl fun E hG hN hK=>?_
 unfold zdH5
 unfold zx1 at h
 refine za0 (za1 hG ?_)
 refine za0 (za0 (za1 hG ?_))
 obtain ⟨v1,hv1,h⟩:=za3 h
 refine za6 (fun hg=>zT7 a0 _ (hv1)) ?_
 refine za4 rfl hG h (fun _ h=>?_) (fun _ h=>?_)
 · refine za0 (za1 hG ?_)
   refine za7 ?_
   exact zb1 h
 refine za5 ?_
 refine za0 (za0 (za1 hG ?_))
 obtain ⟨v2,hv2,h⟩:=za3 h
 refine za6 (fun hg=>zaa6 a0 a1 _ (hv2)) ?_
 refine za0 (za1 hG ?_)
 refine za4 rfl hG h (fun _ h=>?_) (fun _ h=>?_)
 · refine za0 (za1 hG ?_)
   refine za7 ?_
   exact zb1 h
 refine za5 ?_
 refine za0 (za1 hG ?_)
 obtain ⟨v3,hv3,h⟩:=za3 h
 refine za6 (fun hg=>zaj1 a0 _ (hv3)) ?_
 refine za0 (za1 hG ?_)
 obtain ⟨v4,hv4,h⟩:=za3 h
 refine za6 (fun hg=>zaq6 v3.converts a1 _ (hv4)) ?_
 refine za0 (za1 hG ?_)
 obtain ⟨v5,hv5,h⟩:=za3 h
 refine za6 (fun hg=>zaq6 (({ v3 with converts:=v4.1 }).waits) a1 _ (hv5)) ?_
 refine za0 (za1 hG ?_)
 obtain ⟨v6,hv6,h⟩:=za3 h
 refine za6 (fun hg=>zO7 ({ { v3 with converts:=v4.1 } with waits:=v5.1 }) _ (hv6)) ?_
 refine za7 ?_
 exact zb1 h
attribute [local irreducible] zx1
noncomputable def zx2 (a0:List Queue) (a1:Proc) (a2:ByteArray):Option ((List Queue)×(List Event)×Int) :=
 (zm6 a0).bind fun v1 =>
 (if (!v1)=true then
  some ([],[],2)
 else
  (zt1 a0 a2).bind fun v2 =>
  (if (decide (v2 < 0))=true then
   some ([],[],10)
  else
   gd (0≤v2∧v2 < (a0.length:Int)) <|
   (zx1 (a0.getD v2.toNat Queue.zero) a1).bind fun v3 =>
   (if (!decide (v3.2.2=0))=true then
    some ([],[],v3.2.2)
   else
    (zi7 a0 v2 v3.1).bind fun v4 =>
    (zi9 a2 v3.2.1).bind fun v5 =>
    some (v4,v5,0))))
theorem zaQ6 (a0:List Queue) (a1:Proc) (a2:ByteArray) (r:(List Queue)×(List Event)×Int) (h:zx2 a0 a1 a2=some r):PFn C 42 [.sl (a0.map Queue.enc),.agg (Proc.enc a1),.str a2] (.tup [.sl (r.1.map Queue.enc),.sl (r.2.1.map Event.enc),.int .i64 r.2.2]):=by
 refine za8 zeB4 rfl fun E hG hN hK=>?_
 unfold zdI6
 unfold zx2 at h
 refine za0 (za1 hG ?_)
 refine za0 (za0 (za1 hG ?_))
 obtain ⟨v1,hv1,h⟩:=za3 h
 refine za6 (fun hg=>zae1 a0 _ (hv1)) ?_
 refine za4 rfl hG h (fun _ h=>?_) (fun _ h=>?_)
 · refine za0 (za1 hG ?_)
   refine za7 ?_
   exact zb1 h
 refine za5 ?_
 refine za0 (za1 hG ?_)
 obtain ⟨v2,hv2,h⟩:=za3 h
 refine za6 (fun hg=>zY3 a0 a2 _ (hv2)) ?_
 refine za0 (za0 (za1 hG ?_))
 refine za4 rfl hG h (fun _ h=>?_) (fun _ h=>?_)
 · refine za0 (za1 hG ?_)
   refine za7 ?_
   exact zb1 h
 refine za5 ?_
 refine za0 ?_
 obtain ⟨hb1,h⟩:=za2 h
 refine zF1 zd8 hG ?_
 obtain ⟨v3,hv3,h⟩:=za3 h
 refine zC5 (fun hg=>zaQ5 (a0.getD v2.toNat Queue.zero) a1 _ (hv3)) ?_
 refine za0 (za0 (za1 hG ?_))
 refine za4 rfl hG h (fun _ h=>?_) (fun _ h=>?_)
 · refine za0 (za1 hG ?_)
   refine za7 ?_
   exact zb1 h
 refine za5 ?_
 refine za0 (za1 hG ?_)
 obtain ⟨v4,hv4,h⟩:=za3 h
 refine za6 (fun hg=>zW8 a0 v2 v3.1 _ (hv4)) ?_
 obtain ⟨v5,hv5,h⟩:=za3 h
 refine za6 (fun hg=>zaa7 a2 v3.2.1 _ (hv5)) ?_
 refine za7 ?_
 exact zb1 h
attribute [local irreducible] zx2
noncomputable def zA6 (a0:Queue) (a1:Proc) (a2:Amount):Option (Queue×(List Hold)×Int) :=
 (zk7 a0).bind fun v1 =>
 (if (!v1)=true then
  some ({ Queue.zero with  },[],2)
 else
  (zn7 a0 a1).bind fun v2 =>
  (if (zc6 v2)=true then
   some ({ Queue.zero with  },[],10)
  else
   (zl8 a0 a1).bind fun v3 =>
   (if v3.2=true then
    some ({ Queue.zero with  },[],14)
   else
    (if (!(zf7 a0.resource v2 a2))=true then
     some ({ Queue.zero with  },[],12)
    else
     (zt2 a0).bind fun v4 =>
     (if (decide (v2=a2))=true then
      some (v4,[],0)
     else
      (zq8 v4.holds a1 a2).bind fun v5 =>
      (zi6 ({ v4 with holds:=v5 })).bind fun v6 =>
      some (v6.1,v6.2.1,v6.2.2))))))
theorem zaY6 (a0:Queue) (a1:Proc) (a2:Amount) (r:Queue×(List Hold)×Int) (h:zA6 a0 a1 a2=some r):PFn C 81 [.agg (Queue.enc a0),.agg (Proc.enc a1),.agg (Amount.enc a2)] (.tup [.agg (Queue.enc r.1),.sl (r.2.1.map Hold.enc),.int .i64 r.2.2]):=by
 refine za8 zeB5 rfl fun E hG hN hK=>?_
 unfold zdJ7
 unfold zA6 at h
 refine za0 (za1 hG ?_)
 refine za0 (za0 (za1 hG ?_))
 obtain ⟨v1,hv1,h⟩:=za3 h
 refine za6 (fun hg=>zT7 a0 _ (hv1)) ?_
 refine za4 rfl hG h (fun _ h=>?_) (fun _ h=>?_)
 · refine za0 (za1 hG ?_)
   refine za7 ?_
   exact zb1 h
 refine za5 ?_
 refine za0 (za1 hG ?_)
 obtain ⟨v2,hv2,h⟩:=za3 h
 refine za6 (fun hg=>zY4 a0 a1 _ (hv2)) ?_
 refine za0 (za0 (za1 hG ?_))
 refine za6 (fun hg=>zp0 v2) ?_
 refine za4 rfl hG h (fun _ h=>?_) (fun _ h=>?_)
 · refine za0 (za1 hG ?_)
   refine za7 ?_
   exact zb1 h
 refine za5 ?_
 refine za0 (za0 (za1 hG ?_))
 obtain ⟨v3,hv3,h⟩:=za3 h
 refine za6 (fun hg=>zaa6 a0 a1 _ (hv3)) ?_
 refine za0 (za1 hG ?_)
 refine za4 rfl hG h (fun _ h=>?_) (fun _ h=>?_)
 · refine za0 (za1 hG ?_)
   refine za7 ?_
   exact zb1 h
 refine za5 ?_
 refine za0 (za0 (za1 hG ?_))
 refine za6 (fun hg=>zI6 a0.resource v2 a2) ?_
 refine za4 rfl hG h (fun _ h=>?_) (fun _ h=>?_)
 · refine za0 (za1 hG ?_)
   refine za7 ?_
   exact zb1 h
 refine za5 ?_
 refine za0 (za1 hG ?_)
 obtain ⟨v4,hv4,h⟩:=za3 h
 refine za6 (fun hg=>zaj1 a0 _ (hv4)) ?_
 refine za0 (za0 (za1 hG ?_))
 refine za4 rfl hG h (fun _ h=>?_) (fun _ h=>?_)
 · refine za0 (za1 hG ?_)
   refine za7 ?_
   exact zb1 h
 refine za5 ?_
 refine za0 (za1 hG ?_)
 obtain ⟨v5,hv5,h⟩:=za3 h
 refine za6 (fun hg=>zab5 v4.holds a1 a2 _ (hv5)) ?_
 refine za0 (za1 hG ?_)
 obtain ⟨v6,hv6,h⟩:=za3 h
 refine za6 (fun hg=>zO7 ({ v4 with holds:=v5 }) _ (hv6)) ?_
 refine za7 ?_
 exact zb1 h
attribute [local irreducible] zA6
noncomputable def zB1 (a0:List Queue) (a2:Atom) (v2:Int) (v4:Queue×(List Hold)×Int) (j1:(List Event)):Option ((List Queue)×(List Event)×Int) :=
 (zi7 a0 v2 v4.1).bind fun v5 =>
 (zi9 a2.name v4.2.1).bind fun v6 =>
 gd (j1.length+v6.length≤4294967296) <|
 some (v5,(j1++v6),0)
@[go_sem] def zei6 (a0:List Queue) (a2:Atom) (v2:Int) (v4:Queue×(List Hold)×Int) (j1:(List Event)):St:=⟨[(0,.sl (a0.map Queue.enc)),(5,.ptr 0 0 0),(9,.int .i64 v2),(11,.ptr 1 0 0),(12,.sl (v4.2.1.map Hold.enc)),(14,.own 2 0 j1.length)],[(0,⟨false,3,(Atom.enc Atom.zero),[Atom.enc a2]⟩),(1,⟨false,8,(Queue.enc Queue.zero),[Queue.enc v4.1]⟩),(2,⟨false,7,(Event.enc Event.zero),j1.map Event.enc⟩)],3⟩
noncomputable def zA7 (a0:List Queue) (a1:Proc) (a2:Atom):Option ((List Queue)×(List Event)×Int) :=
 (zm6 a0).bind fun v1 =>
 (if (!v1)=true then
  some ([],[],2)
 else
  (zt1 a0 a2.name).bind fun v2 =>
  (if (decide (v2 < 0))=true then
   some ([],[],10)
  else
   gd (0≤v2∧v2 < (a0.length:Int)) <|
   (zn7 (a0.getD v2.toNat Queue.zero) a1).bind fun v3 =>
   gd (0≤v2∧v2 < (a0.length:Int)) <|
   (zA6 (a0.getD v2.toNat Queue.zero) a1 a2.amount).bind fun v4 =>
   (if (!decide (v4.2.2=0))=true then
    some ([],[],v4.2.2)
   else
    (if (!decide (v3=a2.amount))=true then
     gd (1≤4294967296) <|
     zB1 a0 a2 v2 v4 [(⟨3,a1,a2.name,a2.amount⟩:Event)]
    else
     zB1 a0 a2 v2 v4 []))))
theorem zaY7 (a0:List Queue) (a1:Proc) (a2:Atom) (r:(List Queue)×(List Event)×Int) (h:zA7 a0 a1 a2=some r):PFn C 44 [.sl (a0.map Queue.enc),.agg (Proc.enc a1),.agg (Atom.enc a2)] (.tup [.sl (r.1.map Queue.enc),.sl (r.2.1.map Event.enc),.int .i64 r.2.2]):=by
 refine za8 zeB6 rfl fun E hG hN hK=>?_
 unfold zdK8
 unfold zA7 at h
 refine za0 (za1 hG ?_)
 refine za0 (za0 (za1 hG ?_))
 obtain ⟨v1,hv1,h⟩:=za3 h
 refine za6 (fun hg=>zae1 a0 _ (hv1)) ?_
 refine za4 rfl hG h (fun _ h=>?_) (fun _ h=>?_)
 · refine za0 (za1 hG ?_)
   refine za7 ?_
   exact zb1 h
 refine za5 ?_
 refine za0 (za1 hG ?_)
 obtain ⟨v2,hv2,h⟩:=za3 h
 refine za6 (fun hg=>zY3 a0 a2.name _ (hv2)) ?_
 refine za0 (za0 (za1 hG ?_))
 refine za4 rfl hG h (fun _ h=>?_) (fun _ h=>?_)
 · refine za0 (za1 hG ?_)
   refine za7 ?_
   exact zb1 h
 refine za5 ?_
 refine za0 ?_
 obtain ⟨hb4,h⟩:=za2 h
 refine zF1 zd8 hG ?_
 obtain ⟨v3,hv3,h⟩:=za3 h
 refine zC5 (fun hg=>zY4 (a0.getD v2.toNat Queue.zero) a1 _ (hv3)) ?_
 refine za0 ?_
 obtain ⟨hb3,h⟩:=za2 h
 refine zF1 zd8 hG ?_
 obtain ⟨v4,hv4,h⟩:=za3 h
 refine zC5 (fun hg=>zaY6 (a0.getD v2.toNat Queue.zero) a1 a2.amount _ (hv4)) ?_
 refine za0 (za0 (za1 hG ?_))
 refine za4 rfl hG h (fun _ h=>?_) (fun _ h=>?_)
 · refine za0 (za1 hG ?_)
   refine za7 ?_
   exact zb1 h
 refine za5 ?_
 refine za0 (za1 hG ?_)
 refine za0 (za0 (za1 hG ?_))
 refine zaS8 (zei6 a0 a2 v2 v4) (fun v=>zB1 a0 a2 v2 v4 v=some r) rfl hG h ?_ (fun _ h=>?_) (fun _ h=>?_)
 · intro j1 h
   unfold zB1 at h
   refine g_st ?_
   refine za0 (zF1 zd8 hG ?_)
   obtain ⟨v5,hv5,h⟩:=za3 h
   refine zC5 (fun hg=>zW8 a0 v2 v4.1 _ (hv5)) ?_
   obtain ⟨v6,hv6,h⟩:=za3 h
   obtain ⟨hb1,h⟩:=za2 h
   refine zC5 (fun hg=>zaa7 a2.name v4.2.1 _ (hv6)) ?_
   refine za7 ?_
   exact zb1 h
 · obtain ⟨hb2,h⟩:=za2 h
   refine za1 hG ?_
   exact zc4 hK [(0,1),(1,3),(2,5)] [(⟨3,a1,a2.name,a2.amount⟩:Event)] (by exact h)
 refine za5 ?_
 exact zc4 hK [(0,1),(1,3),(2,4)] [] (by exact h)
attribute [local irreducible] zA7
noncomputable def zaa8  (j1:(List Queue)):Option ((List Queue)) :=
 some j1
@[go_sem] def zei7  (j1:(List Queue)):St:=⟨[(4,.sl (j1.map Queue.enc))],[],0⟩
noncomputable def zy5 (g1:(List Queue)×Tape) (j2:(List Queue)×Int×Tape):Option (((List Queue)×Tape)⊕(((List Queue)))) :=
 (if (decide (j2.2.1=0))=true then
  some (.inl (j2.1,j2.2.2))
 else
  some (.inl (g1.1,j2.2.2)))
@[go_sem] def zei8 (g1:(List Queue)×Tape) (j2:(List Queue)×Int×Tape):St:=⟨[(3,.ptr 0 0 0),(4,.sl (g1.1.map Queue.enc)),(10,.sl (j2.1.map Queue.enc)),(11,.int .i64 j2.2.1)],[(0,⟨false,2,(Tape.enc Tape.zero),[Tape.enc j2.2.2]⟩)],1⟩
noncomputable def zI7  (g1:(List Queue)×Tape):Option (((List Queue)×Tape)⊕(((List Queue)))) :=
 (zp9 g1.2).bind fun v3 =>
 (if v3.1=true then
  (zd7 8 v3.2).bind fun v4 =>
  (zd7 (g1.1.length:Int) v4.2).bind fun v5 =>
  gd (0≤v5.1∧v5.1 < (g1.1.length:Int)) <|
  (zd7 8 v5.2).bind fun v6 =>
  (zq6 v6.1).bind fun v7 =>
  (zd7 64 v6.2).bind fun v8 =>
  (zA5 ((g1.1.getD v5.1.toNat Queue.zero).resource) v8.1).bind fun v9 =>
  (if (decide (v4.1=0))=true then
   (zx2 g1.1 v7 ((⟨((g1.1.getD v5.1.toNat Queue.zero).resource).name,v9⟩:Atom).name)).bind fun v10 =>
   zy5 g1 (v10.1,v10.2.2,v8.2)
  else
   (if (decide (v4.1=1))=true then
    (zA7 g1.1 v7 (⟨((g1.1.getD v5.1.toNat Queue.zero).resource).name,v9⟩:Atom)).bind fun v11 =>
    zy5 g1 (v11.1,v11.2.2,v8.2)
   else
    (zd7 8 v8.2).bind fun v12 =>
    (zA4 g1.1 v7 (⟨((g1.1.getD v5.1.toNat Queue.zero).resource).name,v9⟩:Atom) v12.1).bind fun v13 =>
    zy5 g1 (v13.1,v13.2.2,v12.2)))
 else
  some (.inr g1.1))
@[go_sem] def zei9  (g1:(List Queue)×Tape):St:=⟨[(3,.ptr 0 0 0),(4,.sl (g1.1.map Queue.enc))],[(0,⟨false,2,(Tape.enc Tape.zero),[Tape.enc g1.2]⟩)],1⟩
noncomputable def zD7 (a0:List Int):Option ((List Queue)) :=
 (zq9 ({ Tape.zero with l:=a0 })).bind fun v1 =>
 (zw2 v1.1).bind fun v2 =>
 (zb8 (zI7) (v2.1,v1.2)).bind (fun z=>zaa8 z)
theorem zbe8 (a0:List Int) (r:(List Queue)) (h:zD7 a0=some r):PFn C 21 [.sl (a0.map (eI .i64))] (.sl (r.map Queue.enc)):=by
 refine za8 zeB7 rfl fun E hG hN hK=>?_
 unfold zdL9
 unfold zD7 at h
 refine za0 (za1 hG ?_)
 refine za0 (za1 hG ?_)
 refine za0 (za1 hG ?_)
 obtain ⟨v1,hv1,h⟩:=za3 h
 refine zo0 [(0,0)] [] [0] (zaC7 ({ Tape.zero with l:=a0 }) _ hv1) rfl rfl ?_
 obtain ⟨v2,hv2,h⟩:=za3 h
 refine za6 (fun hg=>zbn0 v1.1 _ (hv2)) ?_
 refine za0 ?_
 refine zb5 (zei7) (fun v=>zaa8 v=some r) ?_ ?_
 · intro j1 h
   unfold zaa8 at h
   refine g_st ?_
   refine za0 (za1 hG ?_)
   refine za7 ?_
   exact zb1 h
 refine zd9 (zei9) hK [(0,0)] h (fun x_l1 h g1 y_l1 h_l1 hx_l1=>?_)
 unfold zI7 at h_l1
 refine g_st ?_
 refine za0 (za0 (za1 hG ?_))
 obtain ⟨v3,hv3,h_l1⟩:=za3 h_l1
 refine zo0 [(0,0)] [] [0] (zat8 g1.2 _ hv3) rfl rfl ?_
 refine za4 rfl hG h_l1 (fun _ h_l1=>?_) (fun _ h_l1=>?_)
 · refine za5 ?_
   refine zb6 (za0 (za1 hG ?_))
   obtain ⟨v4,hv4,h_l1⟩:=za3 h_l1
   refine zo0 [(0,0)] [] [0] (zg2 8 v3.2 _ hv4) rfl rfl ?_
   refine za0 (za1 hG ?_)
   obtain ⟨v5,hv5,h_l1⟩:=za3 h_l1
   obtain ⟨hb1,h_l1⟩:=za2 h_l1
   refine zo0 [(0,0)] [] [0] (zg2 (g1.1.length:Int) v4.2 _ hv5) rfl rfl ?_
   refine za0 (za1 hG ?_)
   obtain ⟨v6,hv6,h_l1⟩:=za3 h_l1
   refine zo0 [(0,0)] [] [0] (zg2 8 v5.2 _ hv6) rfl rfl ?_
   obtain ⟨v7,hv7,h_l1⟩:=za3 h_l1
   refine za6 (fun hg=>zan9 v6.1 _ (hv7)) ?_
   refine za0 (zF1 zd8 hG ?_)
   obtain ⟨v8,hv8,h_l1⟩:=za3 h_l1
   refine zac6 [(0,0)] [] [0] (zg2 64 v6.2 _ hv8) rfl rfl ?_
   obtain ⟨v9,hv9,h_l1⟩:=za3 h_l1
   refine zC5 (fun hg=>zaY5 ((g1.1.getD v5.1.toNat Queue.zero).resource) v8.1 _ (hv9)) ?_
   refine za0 (za1 hG ?_)
   refine za0 (za1 hG ?_)
   refine za0 (za0 (za1 hG ?_))
   refine zb5 (zei8 g1) (fun v=>zy5 g1 v=some y_l1) ?_ ?_
   · intro j2 h_l1
     unfold zy5 at h_l1
     refine g_st ?_
     refine za0 (za1 hG ?_)
     refine za4 rfl hG h_l1 (fun _ h_l1=>?_) (fun _ h_l1=>?_)
     · refine za1 hG ?_
       exact zc8 hK [(0,0)] h_l1
     refine za5 ?_
     exact zc8 hK [(0,0)] h_l1
   refine za0 (za1 hG ?_)
   refine za4 rfl hG h_l1 (fun _ h_l1=>?_) (fun _ h_l1=>?_)
   · refine za1 hG ?_
     obtain ⟨v10,hv10,h_l1⟩:=za3 h_l1
     refine za6 (fun hg=>zaQ6 g1.1 v7 ((⟨((g1.1.getD v5.1.toNat Queue.zero).resource).name,v9⟩:Atom).name) _ (hv10)) ?_
     exact zc4 hK [(0,0)] (v10.1,v10.2.2,v8.2) (by exact h_l1)
   refine za0 (za1 hG ?_)
   refine za4 rfl hG h_l1 (fun _ h_l1=>?_) (fun _ h_l1=>?_)
   · refine za1 hG ?_
     obtain ⟨v11,hv11,h_l1⟩:=za3 h_l1
     refine za6 (fun hg=>zaY7 g1.1 v7 (⟨((g1.1.getD v5.1.toNat Queue.zero).resource).name,v9⟩:Atom) _ (hv11)) ?_
     exact zc4 hK [(0,0)] (v11.1,v11.2.2,v8.2) (by exact h_l1)
   refine zF1 zd8 hG ?_
   obtain ⟨v12,hv12,h_l1⟩:=za3 h_l1
   refine zac6 [(0,0)] [] [0] (zg2 8 v8.2 _ hv12) rfl rfl ?_
   obtain ⟨v13,hv13,h_l1⟩:=za3 h_l1
   refine zC5 (fun hg=>zaY4 g1.1 v7 (⟨((g1.1.getD v5.1.toNat Queue.zero).resource).name,v9⟩:Atom) v12.1 _ (hv13)) ?_
   exact zc4 hK [(0,0)] (v13.1,v13.2.2,v12.2) (by exact h_l1)
 refine zc3 ?_
 obtain rfl:=Option.some.inj h_l1
 have hx:=hx_l1 _ rfl
 subst hx
 try dsimp only at h
 exact zc4 hK [] g1.1 (by exact h)
attribute [local irreducible] zD7
noncomputable def zM3 (a1:Int) (a2:Queue) (j1:(List Queue)):Option ((List Queue)) :=
 (if (decide (0≤a1))=true then
  gd (0≤a1∧a1 < ((j1.length:Nat):Int)) <|
  some (j1.set a1.toNat a2)
 else
  some j1)
@[go_sem] def zej0 (a1:Int) (a2:Queue) (j1:(List Queue)):St:=⟨[(1,.int .i64 a1),(5,.ptr 0 0 0),(7,.own 1 0 j1.length)],[(0,⟨false,8,(Queue.enc Queue.zero),[Queue.enc a2]⟩),(1,⟨false,8,(Queue.enc Queue.zero),j1.map Queue.enc⟩)],2⟩
noncomputable def zZ7 (a0:List Queue) (g1:Int×(List Queue)):Option ((Int×(List Queue))⊕(((List Queue)))) :=
 (if (decide (g1.1 < (a0.length:Int)))=true then
  gd (0≤g1.1∧g1.1 < (a0.length:Int)) <|
  gd (((a0.getD g1.1.toNat Queue.zero).holds).length≤4294967296) <|
  gd ((({ (a0.getD g1.1.toNat Queue.zero) with holds:=(a0.getD g1.1.toNat Queue.zero).holds }).converts).length≤4294967296) <|
  gd ((({ { (a0.getD g1.1.toNat Queue.zero) with holds:=(a0.getD g1.1.toNat Queue.zero).holds } with converts:=({ (a0.getD g1.1.toNat Queue.zero) with holds:=(a0.getD g1.1.toNat Queue.zero).holds }).converts }).waits).length≤4294967296) <|
  gd (0≤g1.1∧g1.1 < ((g1.2.length:Nat):Int)) <|
  some (.inl ((IntKind.i64.wrap (g1.1+1)),(g1.2.set g1.1.toNat ({ { { (a0.getD g1.1.toNat Queue.zero) with holds:=(a0.getD g1.1.toNat Queue.zero).holds } with converts:=({ (a0.getD g1.1.toNat Queue.zero) with holds:=(a0.getD g1.1.toNat Queue.zero).holds }).converts } with waits:=({ { (a0.getD g1.1.toNat Queue.zero) with holds:=(a0.getD g1.1.toNat Queue.zero).holds } with converts:=({ (a0.getD g1.1.toNat Queue.zero) with holds:=(a0.getD g1.1.toNat Queue.zero).holds }).converts }).waits }))))
 else
  some (.inr g1.2))
@[go_sem] def zej1 (a0:List Queue) (a1:Int) (a2:Queue) (g1:Int×(List Queue)):St:=⟨[(1,.int .i64 a1),(5,.ptr 0 0 0),(7,.own 1 0 g1.2.length),(13,.sl (a0.map Queue.enc)),(14,.int .i64 (a0.length:Int)),(15,.int .i64 g1.1)],[(0,⟨false,8,(Queue.enc Queue.zero),[Queue.enc a2]⟩),(1,⟨false,8,(Queue.enc Queue.zero),g1.2.map Queue.enc⟩)],2⟩
noncomputable def zo1 (a0:List Queue) (a1:Int) (a2:Queue):Option ((List Queue)) :=
 gd (0≤(a0.length:Int)∧(a0.length:Int)≤(a0.length:Int)∧(a0.length:Int)≤4294967296) <|
 (zb8 (zZ7 a0) (0,(List.replicate ((a0.length:Int).toNat) Queue.zero))).bind (fun z=>zM3 a1 a2 z)
theorem zaz2 (a0:List Queue) (a1:Int) (a2:Queue) (r:(List Queue)) (h:zo1 a0 a1 a2=some r):MFn C 57 [.sl (a0.map Queue.enc),.int .i64 a1,.agg (Queue.enc a2)] [] 0 (.own 0 0 r.length) [(0,⟨false,8,(Queue.enc Queue.zero),r.map Queue.enc⟩)] 1:=by
 refine zl5 (rl:=[.own 0 0 r.length]) zeB8 rfl rfl rfl rfl fun E hG hN hK=>?_
 unfold zdN0
 unfold zo1 at h
 refine za0 (za1 hG ?_)
 refine za0 ?_
 obtain ⟨hb7,h⟩:=za2 h
 refine za1 hG ?_
 refine za0 (za0 (za1 hG ?_))
 refine zb5 (zej0 a1 a2) (fun v=>zM3 a1 a2 v=some r) ?_ ?_
 · intro j1 h
   unfold zM3 at h
   refine g_st ?_
   refine za0 (za0 (za1 hG ?_))
   refine za4 rfl hG h (fun _ h=>?_) (fun _ h=>?_)
   · obtain ⟨hb1,h⟩:=za2 h
     refine za1 hG ?_
     refine za0 (za1 hG ?_)
     refine za7 ?_
     exact zz5 [(0,1)] h
   refine za5 ?_
   refine za0 (za1 hG ?_)
   refine za7 ?_
   exact zz5 [(0,1)] h
 refine zd9 (zej1 a0 a1 a2) hK [(0,0),(1,2)] h (fun x_l1 h g1 y_l1 h_l1 hx_l1=>?_)
 unfold zZ7 at h_l1
 refine g_st ?_
 refine za0 (za1 hG ?_)
 refine za0 ?_
 refine za4 rfl hG h_l1 (fun _ h_l1=>?_) (fun _ h_l1=>?_)
 · refine za5 ?_
   refine za0 (zb6 (za0 ?_))
   obtain ⟨hb6,h_l1⟩:=za2 h_l1
   refine za1 hG ?_
   refine za0 ?_
   obtain ⟨hb5,h_l1⟩:=za2 h_l1
   refine za1 hG ?_
   refine za0 ?_
   obtain ⟨hb4,h_l1⟩:=za2 h_l1
   refine za1 hG ?_
   refine za0 ?_
   obtain ⟨hb3,h_l1⟩:=za2 h_l1
   refine za1 hG ?_
   obtain ⟨hb2,h_l1⟩:=za2 h_l1
   refine za1 hG ?_
   refine za1 hG ?_
   exact zc8 hK [(0,0),(1,1)] h_l1
 refine zc3 ?_
 obtain rfl:=Option.some.inj h_l1
 have hx:=hx_l1 _ rfl
 subst hx
 try dsimp only at h
 exact zc4 hK [(0,0),(1,1)] g1.2 (by exact h)
attribute [local irreducible] zo1
noncomputable def zs4 (a0:Queue):Option (Queue) :=
 gd (a0.holds.length≤4294967296) <|
 gd (a0.converts.length≤4294967296) <|
 gd (a0.waits.length≤4294967296) <|
 some a0
theorem zaY8 (a0:Queue) (r:Queue) (h:zs4 a0=some r):PFn C 88 [.agg (Queue.enc a0)] (.agg (Queue.enc r)):=by
 refine za8 zeB9 rfl fun E hG hN hK=>?_
 unfold zdN6
 unfold zs4 at h
 refine za0 (za1 hG ?_)
 refine za0 ?_
 obtain ⟨hb3,h⟩:=za2 h
 refine za1 hG ?_
 refine za0 ?_
 obtain ⟨hb2,h⟩:=za2 h
 refine za1 hG ?_
 refine za0 ?_
 obtain ⟨hb1,h⟩:=za2 h
 refine za1 hG ?_
 refine za0 (za1 hG ?_)
 refine za7 ?_
 exact zb1 h
attribute [local irreducible] zs4
noncomputable def zq0 (a0:Queue) (a1:Proc):Option (Queue×Proc) :=
 (zj0 a0.holds a1 ({ Amount.zero with  })).bind fun v1 =>
 some ({ a0 with holds:=v1 },a1)
theorem zat9 (a0:Queue) (a1:Proc) (r:Queue×Proc) (h:zq0 a0 a1=some r):MFn C 105 [.ptr 0 0 0,.ptr 1 0 0] [(0,⟨false,8,(Queue.enc Queue.zero),[Queue.enc a0]⟩),(1,⟨false,3,(Proc.enc Proc.zero),[Proc.enc a1]⟩)] 2 (.tup []) [(0,⟨false,8,(Queue.enc Queue.zero),[Queue.enc r.1]⟩),(1,⟨false,3,(Proc.enc Proc.zero),[Proc.enc r.2]⟩)] 2:=by
 refine zl5 (rl:=[]) zeC0 rfl rfl rfl rfl fun E hG hN hK=>?_
 unfold zdN8
 unfold zq0 at h
 refine za1 hG ?_
 obtain ⟨v1,hv1,h⟩:=za3 h
 refine za6 (fun hg=>zad1 a0.holds a1 ({ Amount.zero with  }) _ (hv1)) ?_
 exact zz5 [(0,0),(1,1)] h
attribute [local irreducible] zq0
noncomputable def zO8 (a0:List Wait) (j1:(List Wait)):Option ((List Wait)×Bool) :=
 some (j1,(decide (((j1.length:Nat):Int) < (a0.length:Int))))
@[go_sem] def zej2 (a0:List Wait) (j1:(List Wait)):St:=⟨[(0,.sl (a0.map Wait.enc)),(6,.own 0 0 j1.length)],[(0,⟨false,7,(Wait.enc Wait.zero),j1.map Wait.enc⟩)],1⟩
noncomputable def zv1 (a0:List Wait) (a1:Proc) (g1:Int×(List Wait)):Option ((Int×(List Wait))⊕(((List Wait)))) :=
 (if (decide (g1.1 < (a0.length:Int)))=true then
  gd (0≤g1.1∧g1.1 < (a0.length:Int)) <|
  (if (!decide ((a0.getD g1.1.toNat Wait.zero).proc=a1))=true then
   gd (g1.2.length+1≤4294967296) <|
   some (.inl ((IntKind.i64.wrap (g1.1+1)),(g1.2++[(a0.getD g1.1.toNat Wait.zero)])))
  else
   some (.inl ((IntKind.i64.wrap (g1.1+1)),g1.2)))
 else
  some (.inr g1.2))
@[go_sem] def zej3 (a0:List Wait) (a1:Proc) (g1:Int×(List Wait)):St:=⟨[(0,.sl (a0.map Wait.enc)),(3,.ptr 0 0 0),(6,.own 1 0 g1.2.length),(9,.sl (a0.map Wait.enc)),(10,.int .i64 (a0.length:Int)),(11,.int .i64 g1.1)],[(0,⟨false,3,(Proc.enc Proc.zero),[Proc.enc a1]⟩),(1,⟨false,7,(Wait.enc Wait.zero),g1.2.map Wait.enc⟩)],2⟩
noncomputable def zm7 (a0:List Wait) (a1:Proc):Option ((List Wait)×Bool) :=
 (zb8 (zv1 a0 a1) (0,[])).bind (fun z=>zO8 a0 z)
theorem zau0 (a0:List Wait) (a1:Proc) (r:(List Wait)×Bool) (h:zm7 a0 a1=some r):PFn C 108 [.sl (a0.map Wait.enc),.agg (Proc.enc a1)] (.tup [.sl (r.1.map Wait.enc),.bool r.2]):=by
 refine za8 zeC1 rfl fun E hG hN hK=>?_
 unfold zdO8
 unfold zm7 at h
 refine za0 (za1 hG ?_)
 refine za0 (za1 hG ?_)
 refine za0 (za0 (za1 hG ?_))
 refine zb5 (zej2 a0) (fun v=>zO8 a0 v=some r) ?_ ?_
 · intro j1 h
   unfold zO8 at h
   refine g_st ?_
   refine za0 (za1 hG ?_)
   refine za7 ?_
   exact zb1 h
 refine zd9 (zej3 a0 a1) hK [(0,0),(1,1)] h (fun x_l1 h g1 y_l1 h_l1 hx_l1=>?_)
 unfold zv1 at h_l1
 refine g_st ?_
 refine za0 (za1 hG ?_)
 refine za0 ?_
 refine za4 rfl hG h_l1 (fun _ h_l1=>?_) (fun _ h_l1=>?_)
 · refine za5 ?_
   refine za0 (zb6 (za0 ?_))
   obtain ⟨hb2,h_l1⟩:=za2 h_l1
   refine za1 hG ?_
   refine za0 (za1 hG ?_)
   refine za4 rfl hG h_l1 (fun _ h_l1=>?_) (fun _ h_l1=>?_)
   · obtain ⟨hb1,h_l1⟩:=za2 h_l1
     refine za1 hG ?_
     refine za1 hG ?_
     exact zc8 hK [(0,0),(1,3)] h_l1
   refine za5 ?_
   refine za1 hG ?_
   exact zc8 hK [(0,0),(1,1)] h_l1
 refine zc3 ?_
 obtain rfl:=Option.some.inj h_l1
 have hx:=hx_l1 _ rfl
 subst hx
 try dsimp only at h
 exact zc4 hK [(0,1)] g1.2 (by exact h)
attribute [local irreducible] zm7
noncomputable def zq1 (a0:Queue) (a1:Proc):Option (Queue×Proc) :=
 (zm7 a0.converts a1).bind fun v1 =>
 some ({ a0 with converts:=v1.1 },a1)
theorem zau1 (a0:Queue) (a1:Proc) (r:Queue×Proc) (h:zq1 a0 a1=some r):MFn C 107 [.ptr 0 0 0,.ptr 1 0 0] [(0,⟨false,8,(Queue.enc Queue.zero),[Queue.enc a0]⟩),(1,⟨false,3,(Proc.enc Proc.zero),[Proc.enc a1]⟩)] 2 (.tup []) [(0,⟨false,8,(Queue.enc Queue.zero),[Queue.enc r.1]⟩),(1,⟨false,3,(Proc.enc Proc.zero),[Proc.enc r.2]⟩)] 2:=by
 refine zl5 (rl:=[]) zeC2 rfl rfl rfl rfl fun E hG hN hK=>?_
 unfold zdP0
 unfold zq1 at h
 refine za1 hG ?_
 obtain ⟨v1,hv1,h⟩:=za3 h
 refine za6 (fun hg=>zau0 a0.converts a1 _ (hv1)) ?_
 exact zz5 [(0,0),(1,1)] h
attribute [local irreducible] zq1
noncomputable def zq2 (a0:Queue) (a1:Proc):Option (Queue×Proc) :=
 (zm7 a0.waits a1).bind fun v1 =>
 some ({ a0 with waits:=v1.1 },a1)
theorem zau2 (a0:Queue) (a1:Proc) (r:Queue×Proc) (h:zq2 a0 a1=some r):MFn C 109 [.ptr 0 0 0,.ptr 1 0 0] [(0,⟨false,8,(Queue.enc Queue.zero),[Queue.enc a0]⟩),(1,⟨false,3,(Proc.enc Proc.zero),[Proc.enc a1]⟩)] 2 (.tup []) [(0,⟨false,8,(Queue.enc Queue.zero),[Queue.enc r.1]⟩),(1,⟨false,3,(Proc.enc Proc.zero),[Proc.enc r.2]⟩)] 2:=by
 refine zl5 (rl:=[]) zeC3 rfl rfl rfl rfl fun E hG hN hK=>?_
 unfold zdP2
 unfold zq2 at h
 refine za1 hG ?_
 obtain ⟨v1,hv1,h⟩:=za3 h
 refine za6 (fun hg=>zau0 a0.waits a1 _ (hv1)) ?_
 exact zz5 [(0,0),(1,1)] h
attribute [local irreducible] zq2
noncomputable def zD8  (j1:Queue×Proc):Option (Queue×(List Hold)×Int×Queue×Proc) :=
 (ze4 j1.1).bind fun v1 =>
 some ({ v1.2 with gen:=(zg0 v1.2.gen) },v1.1,0,{ v1.2 with gen:=(zg0 v1.2.gen) },j1.2)
@[go_sem] def zej4  (j1:Queue×Proc):St:=⟨[(0,.ptr 0 0 0),(4,.ptr 3 0 0)],[(0,⟨false,8,(Queue.enc Queue.zero),[Queue.enc j1.1]⟩),(1,⟨false,1,[A.any],[[.clo 105 [.ptr 0 0 0,.ptr 2 0 0]],[.clo 107 [.ptr 0 0 0,.ptr 2 0 0]],[.clo 109 [.ptr 0 0 0,.ptr 2 0 0]]]⟩),(2,⟨false,3,(Proc.enc Proc.zero),[Proc.enc j1.2]⟩),(3,⟨false,8,(Queue.enc Queue.zero),[Queue.enc Queue.zero]⟩)],4⟩
noncomputable def zt3 (a0:Queue) (a1:Proc):Option (Queue×(List Hold)×Int×Queue×Proc) :=
 gd (0≤0∧0 < (3:Int)) <|
 (zq0 a0 a1).bind fun v2 =>
 gd (0≤1∧1 < (3:Int)) <|
 (zq1 v2.1 v2.2).bind fun v3 =>
 gd (0≤2∧2 < (3:Int)) <|
 (zq2 v3.1 v3.2).bind fun v4 =>
 zD8 (v4.1,v4.2)
theorem zaz3 (a0:Queue) (a1:Proc) (r:Queue×(List Hold)×Int×Queue×Proc) (h:zt3 a0 a1=some r):MFn C 91 [.ptr 0 0 0,.own 1 0 3] [(0,⟨false,8,(Queue.enc Queue.zero),[Queue.enc a0]⟩),(1,⟨false,1,[A.any],[[.clo 105 [.ptr 0 0 0,.ptr 2 0 0]],[.clo 107 [.ptr 0 0 0,.ptr 2 0 0]],[.clo 109 [.ptr 0 0 0,.ptr 2 0 0]]]⟩),(2,⟨false,3,(Proc.enc Proc.zero),[Proc.enc a1]⟩)] 3 (.tup [.agg (Queue.enc r.1),.sl (r.2.1.map Hold.enc),.int .i64 r.2.2.1]) [(0,⟨false,8,(Queue.enc Queue.zero),[Queue.enc r.2.2.2.1]⟩),(1,⟨false,1,[A.any],[[.clo 105 [.ptr 0 0 0,.ptr 2 0 0]],[.clo 107 [.ptr 0 0 0,.ptr 2 0 0]],[.clo 109 [.ptr 0 0 0,.ptr 2 0 0]]]⟩),(2,⟨false,3,(Proc.enc Proc.zero),[Proc.enc r.2.2.2.2]⟩)] 3:=by
 refine zl5 (rl:=[.agg (Queue.enc r.1),.sl (r.2.1.map Hold.enc),.int .i64 r.2.2.1]) zeC4 rfl rfl rfl rfl fun E hG hN hK=>?_
 unfold zdQ2
 unfold zt3 at h
 refine za0 (za1 hG ?_)
 refine za0 (za0 (za1 hG ?_))
 refine zb5 (zej4) (fun v=>zD8 v=some r) ?_ ?_
 · intro j1 h
   unfold zD8 at h
   refine g_st ?_
   refine za0 (za1 hG ?_)
   obtain ⟨v1,hv1,h⟩:=za3 h
   refine zo0 [(0,0)] [] [0] (zP4 j1.1 _ hv1) rfl rfl ?_
   refine za0 (za1 hG ?_)
   refine za6 (fun hg=>zaj0 v1.2.gen) ?_
   refine za0 (za1 hG ?_)
   refine za7 ?_
   exact zz5 [(0,0),(1,1),(2,2)] h
 refine zaJ0 5 ?_
 refine zah4 ?_
 refine za0 (za1 hG ?_)
 refine za0 ?_
 refine zaF2 rfl hG ?_
 refine za5 ?_
 refine za0 (zb6 (za0 ?_))
 obtain ⟨hb3,h⟩:=za2 h
 refine za1 hG ?_
 refine za1 hG ?_
 obtain ⟨v2,hv2,h⟩:=za3 h
 refine zo0 [(0,0),(1,2)] [] [0,1] (zat9 a0 a1 _ hv2) rfl rfl ?_
 refine za1 hG ?_
 refine zah4 ?_
 refine za0 (za1 hG ?_)
 refine za0 ?_
 refine zaF2 rfl hG ?_
 refine za5 ?_
 refine za0 (zb6 (za0 ?_))
 obtain ⟨hb2,h⟩:=za2 h
 refine za1 hG ?_
 refine za1 hG ?_
 obtain ⟨v3,hv3,h⟩:=za3 h
 refine zo0 [(0,0),(1,2)] [] [0,1] (zau1 v2.1 v2.2 _ hv3) rfl rfl ?_
 refine za1 hG ?_
 refine zah4 ?_
 refine za0 (za1 hG ?_)
 refine za0 ?_
 refine zaF2 rfl hG ?_
 refine za5 ?_
 refine za0 (zb6 (za0 ?_))
 obtain ⟨hb1,h⟩:=za2 h
 refine za1 hG ?_
 refine za1 hG ?_
 obtain ⟨v4,hv4,h⟩:=za3 h
 refine zo0 [(0,0),(1,2)] [] [0,1] (zau2 v3.1 v3.2 _ hv4) rfl rfl ?_
 refine za1 hG ?_
 refine zah4 ?_
 refine za0 (za1 hG ?_)
 refine za0 ?_
 refine zbm5 rfl hG ?_
 refine zc3 ?_
 exact zc4 hK [(0,0),(1,1),(2,2),(3,3)] (v4.1,v4.2) (by exact h)
attribute [local irreducible] zt3
end Ab
end Go.Proofs.YtfjeceicgfdmjaaGreatDoor
