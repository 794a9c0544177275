/-
  Functions of the program,as Lean functions; what the program's code computes is what they say.
-/
import Derived.Test.YtfjeceicgfdmjaaGreatDoorFn3
namespace Go.Proofs.YtfjeceicgfdmjaaGreatDoor
namespace Ab
set_option linter.unusedSimpArgs false
set_option linter.unusedVariables false
set_option maxRecDepth 100000
set_option maxHeartbeats 1000000
attribute [local irreducible] zf4 zd3 zj0 zu2 zu3 zh0 zd8 zA1 zG1 zr2 zs1 zj1 zd7 zh1 zf5 zg8 zl3 zh2 zk8 zj6 zg9 ze5 zm4 zg1 zn6 zo4 zi2 zi4 zj2 zj3 zh5 zh3 zc8 zc4 zn7 zp9 zb7 zc0 zh4 zn8 zl4 zj8 zr4 zw3 zd2 zc1 zj4 zj5 zl5 zC8 zq0 zk2 ze0 zm5 zq1 zk3 zk4 zq2 zf3 zk9 zt6 zm6 zq3 zk5 zi5 zx3 zr5 zt7 zo5 zi9 zo0 zm7 zq6 zu6 zo1 zx4 zs2 zx5 zl6 zj9 zt8 zo6 zt9 zl7 zi8 zu0
noncomputable def zJ4  (j1:(List Proc)):Option ((List Proc)) :=
 (zi8 j1).bind fun v1 =>
 some v1
@[go_sem] def zdL7  (j1:(List Proc)):St:=⟨[(3,.own 0 0 j1.length)],[(0,⟨false,3,(Proc.enc Proc.zero),j1.map Proc.enc⟩)],1⟩
noncomputable def zB5 (a0:List Queue) (g1:Int×(List Proc)):Option ((Int×(List Proc))⊕(((List Proc)))) :=
 (if (decide (g1.1 < (a0.length:Int)))=true then
  gd (0≤g1.1∧g1.1 < (a0.length:Int)) <|
  (zu0 (a0.getD g1.1.toNat Queue.zero)).bind fun v2 =>
  gd (g1.2.length+v2.length≤4294967296) <|
  some (.inl ((IntKind.i64.wrap (g1.1+1)),(g1.2++v2)))
 else
  some (.inr g1.2))
@[go_sem] def zdL8 (a0:List Queue) (g1:Int×(List Proc)):St:=⟨[(0,.sl (a0.map Queue.enc)),(3,.own 0 0 g1.2.length),(4,.int .i64 g1.1)],[(0,⟨false,3,(Proc.enc Proc.zero),g1.2.map Proc.enc⟩)],1⟩
noncomputable def zq7 (a0:List Queue):Option ((List Proc)) :=
 (zb6 (zB5 a0) (0,[])).bind (fun z=>zJ4 z)
theorem zam0 (a0:List Queue) (r:(List Proc)) (h:zq7 a0=some r):PFn C 37 [.sl (a0.map Queue.enc)] (.sl (r.map Proc.enc)):=by
 refine za6 zdY6 rfl fun E hG hN hK=>?_
 unfold zdc6
 unfold zq7 at h
 refine za0 (za1 hG ?_)
 refine za0 (za1 hG ?_)
 refine za0 (za0 (za1 hG ?_))
 refine zb4 (zdL7) (fun v=>zJ4 v=some r) ?_ ?_
 · intro j1 h
   unfold zJ4 at h
   refine g_st ?_
   refine za0 (za1 hG ?_)
   obtain ⟨v1,hv1,h⟩:=za5 h
   refine za7 (fun hg=>zY6 j1 _ (hv1)) ?_
   refine za8 ?_
   exact zb1 h
 refine zd6 (zdL8 a0) hK [(0,0)] h (fun x_l1 h g1 y_l1 h_l1 hx_l1=>?_)
 unfold zB5 at h_l1
 refine g_st ?_
 refine za0 (za0 (za1 hG ?_))
 refine za3 rfl hG h_l1 (fun _ h_l1=>?_) (fun _ h_l1=>?_)
 · refine za4 ?_
   refine za0 (zb5 ?_)
   obtain ⟨hb1,h_l1⟩:=za2 h_l1
   refine za1 hG ?_
   obtain ⟨v2,hv2,h_l1⟩:=za5 h_l1
   obtain ⟨hb2,h_l1⟩:=za2 h_l1
   refine za7 (fun hg=>zaQ6 (a0.getD g1.1.toNat Queue.zero) _ (hv2)) ?_
   refine za1 hG ?_
   exact zc7 hK [(0,1)] h_l1
 refine zc2 ?_
 obtain rfl:=Option.some.inj h_l1
 have hx:=hx_l1 _ rfl
 subst hx
 try dsimp only at h
 exact zc6 hK [(0,0)] g1.2 (by exact h)
attribute [local irreducible] zq7
noncomputable def zl8 (a0:List Queue):Option (Bool) :=
 (zt8 a0).bind fun v1 =>
 ((if v1=true then zq7 a0 else some ([]))).bind fun v2 =>
 some (v1&&(decide ((v2.length:Int)≤8)))
theorem zam1 (a0:List Queue) (r:Bool) (h:zl8 a0=some r):PFn C 38 [.sl (a0.map Queue.enc)] (.bool r):=by
 refine za6 zdY7 rfl fun E hG hN hK=>?_
 unfold zdc9
 unfold zl8 at h
 refine za0 (za1 hG ?_)
 refine za0 (za1 hG ?_)
 obtain ⟨v1,hv1,h⟩:=za5 h
 refine za7 (fun hg=>zaQ4 a0 _ (hv1)) ?_
 obtain ⟨v2,hv2,h⟩:=za5 h
 refine za7 (fun hg=>zam0 a0 _ (zv7 hg hv2)) ?_
 refine za8 ?_
 exact zb1 h
attribute [local irreducible] zl8
noncomputable def zaI3  (j1:Unit):Option (Int) :=
 some (-1)
@[go_sem] def zeE1  (j1:Unit):St:=⟨[],[],0⟩
noncomputable def zaI4 (a0:List Queue) (a1:ByteArray) (g1:Int):Option ((Int)⊕((Unit)⊕(Int))) :=
 (if (decide (g1 < (a0.length:Int)))=true then
  gd (0≤g1∧g1 < (a0.length:Int)) <|
  (if ((((a0.getD g1.toNat Queue.zero).resource).name).toList == a1.toList)=true then
   some (.inr (.inr g1))
  else
   some (.inl (IntKind.i64.wrap (g1+1))))
 else
  some (.inr (.inl ())))
@[go_sem] def zeE2 (a0:List Queue) (a1:ByteArray) (g1:Int):St:=⟨[(0,.sl (a0.map Queue.enc)),(1,.str a1),(5,.int .i64 g1)],[],0⟩
noncomputable def zJ5 (a0:List Queue) (a1:ByteArray):Option (Int) :=
 (zb6 (zaI4 a0 a1) 0).bind (fun | .inl z=>zaI3 z | .inr z=>some z)
attribute [local irreducible] zJ5
noncomputable def zl0 (a0:Queue) (a1:Proc):Option (Amount×Bool) :=
 (zm7 a0.converts a1).bind fun v1 =>
 (if (decide (0≤v1))=true then
  gd (0≤v1∧v1 < (a0.converts.length:Int)) <|
  some ((a0.converts.getD v1.toNat Wait.zero).amount,true)
 else
  (zm7 a0.waits a1).bind fun v2 =>
  (if (decide (0≤v2))=true then
   gd (0≤v2∧v2 < (a0.waits.length:Int)) <|
   some ((a0.waits.getD v2.toNat Wait.zero).amount,true)
  else
   some ({ Amount.zero with  },false)))
theorem zaI5 (a0:Queue) (a1:Proc) (r:Amount×Bool) (h:zl0 a0 a1=some r):PFn C 99 [.agg (Queue.enc a0),.agg (Proc.enc a1)] (.tup [.agg (Amount.enc r.1),.bool r.2]):=by
 refine za6 zdZ5 rfl fun E hG hN hK=>?_
 unfold zdd8
 unfold zl0 at h
 refine za0 (za1 hG ?_)
 refine za0 (za0 (za1 hG ?_))
 obtain ⟨v1,hv1,h⟩:=za5 h
 refine za7 (fun hg=>zS6 a0.converts a1 _ (hv1)) ?_
 refine za0 (za1 hG ?_)
 refine za3 rfl hG h (fun _ h=>?_) (fun _ h=>?_)
 · refine za0 ?_
   obtain ⟨hb1,h⟩:=za2 h
   refine za1 hG ?_
   refine za8 ?_
   exact zb1 h
 refine za4 ?_
 refine za0 (za0 (za1 hG ?_))
 obtain ⟨v2,hv2,h⟩:=za5 h
 refine za7 (fun hg=>zS6 a0.waits a1 _ (hv2)) ?_
 refine za0 (za1 hG ?_)
 refine za3 rfl hG h (fun _ h=>?_) (fun _ h=>?_)
 · refine za0 ?_
   obtain ⟨hb2,h⟩:=za2 h
   refine za1 hG ?_
   refine za8 ?_
   exact zb1 h
 refine za4 ?_
 refine za0 (za1 hG ?_)
 refine za8 ?_
 exact zb1 h
attribute [local irreducible] zl0
noncomputable def zO6 (a0:Queue):Option (Queue) :=
 gd (a0.holds.length≤4294967296) <|
 gd (a0.converts.length≤4294967296) <|
 gd (a0.waits.length≤4294967296) <|
 some a0
attribute [local irreducible] zO6
noncomputable def zo7 (a0:Queue) (a1:Proc):Option (Amount) :=
 (zu6 a0.holds a1).bind fun v1 =>
 some v1
theorem zas2 (a0:Queue) (a1:Proc) (r:Amount) (h:zo7 a0 a1=some r):PFn C 31 [.agg (Queue.enc a0),.agg (Proc.enc a1)] (.agg (Amount.enc r)):=by
 refine za6 zea1 rfl fun E hG hN hK=>?_
 unfold zde1
 unfold zo7 at h
 refine za0 (za1 hG ?_)
 refine za0 (za1 hG ?_)
 obtain ⟨v1,hv1,h⟩:=za5 h
 refine za7 (fun hg=>zah6 a0.holds a1 _ (hv1)) ?_
 refine za8 ?_
 exact zb1 h
attribute [local irreducible] zo7
noncomputable def zaQ7  (j1:Unit):Option (Int) :=
 some 0
@[go_sem] def zeE3  (j1:Unit):St:=⟨[],[],0⟩
noncomputable def zaQ8 (a0:Int) (a1:Int) (g1:Int):Option ((Int)⊕((Unit)⊕(Int))) :=
 (if (decide (g1≤5))=true then
  (if ((zu7 g1 a0)&&(zu7 g1 a1))=true then
   some (.inr (.inr g1))
  else
   some (.inl (IntKind.i64.wrap (g1+1))))
 else
  some (.inr (.inl ())))
@[go_sem] def zeE4 (a0:Int) (a1:Int) (g1:Int):St:=⟨[(0,.int .i64 a0),(1,.int .i64 a1),(5,.int .i64 g1)],[],0⟩
noncomputable def zab3 (a0:Int) (a1:Int):Option (Int) :=
 (zb6 (zaQ8 a0 a1) 1).bind (fun | .inl z=>zaQ7 z | .inr z=>some z)
attribute [local irreducible] zab3
noncomputable def zW2 (a0:Resource) (a1:Amount) (a2:Amount):Option (Amount) :=
 (if ((!(ze7 a0 a1))||(!(ze7 a0 a2)))=true then
  some ({ Amount.zero with  })
 else
  (if (zi3 a0 a1 a2)=true then
   some a1
  else
   (if (zi3 a0 a2 a1)=true then
    some a2
   else
    (zab3 a1.mode a2.mode).bind fun v1 =>
    some ({ Amount.zero with mode:=v1 }))))
attribute [local irreducible] zW2
noncomputable def zr6 (a0:Queue):Option (Queue) :=
 gd (a0.holds.length≤4294967296) <|
 gd (a0.converts.length≤4294967296) <|
 gd (a0.waits.length≤4294967296) <|
 some a0
theorem zas3 (a0:Queue) (r:Queue) (h:zr6 a0=some r):PFn C 100 [.agg (Queue.enc a0)] (.agg (Queue.enc r)):=by
 refine za6 zeb7 rfl fun E hG hN hK=>?_
 unfold zde7
 unfold zr6 at h
 refine za0 (za1 hG ?_)
 refine za0 ?_
 obtain ⟨hb3,h⟩:=za2 h
 refine za1 hG ?_
 refine za0 ?_
 obtain ⟨hb2,h⟩:=za2 h
 refine za1 hG ?_
 refine za0 ?_
 obtain ⟨hb1,h⟩:=za2 h
 refine za1 hG ?_
 refine za0 (za1 hG ?_)
 refine za8 ?_
 exact zb1 h
attribute [local irreducible] zr6
noncomputable def zM3  (j1:Queue×(List Hold)):Option (Queue×(List Hold)) :=
 some (j1.1,j1.2)
@[go_sem] def zdL9  (j1:Queue×(List Hold)):St:=⟨[(1,.ptr 0 0 0),(2,.ptr 1 0 0),(4,.own 2 0 j1.2.length)],[(0,⟨false,8,(Queue.enc Queue.zero),[Queue.enc j1.1]⟩),(1,⟨false,8,(Queue.enc Queue.zero),[Queue.enc Queue.zero]⟩),(2,⟨false,5,(Hold.enc Hold.zero),j1.2.map Hold.enc⟩)],3⟩
noncomputable def zt2 (g1:Queue×(List Hold)) (v4:Wait×Bool) (j2:Queue):Option ((Queue×(List Hold))⊕((Queue×(List Hold)))) :=
 (zs2 j2.holds v4.1.proc v4.1.amount).bind fun v5 =>
 gd (g1.2.length+1≤4294967296) <|
 some (.inl ({ j2 with holds:=v5 },(g1.2++[(⟨v4.1.proc,v4.1.amount⟩:Hold)])))
@[go_sem] def zdM0 (g1:Queue×(List Hold)) (v4:Wait×Bool) (j2:Queue):St:=⟨[(1,.ptr 0 0 0),(2,.ptr 1 0 0),(4,.own 2 0 g1.2.length),(5,.ptr 3 0 0)],[(0,⟨false,8,(Queue.enc Queue.zero),[Queue.enc j2]⟩),(1,⟨false,8,(Queue.enc Queue.zero),[Queue.enc Queue.zero]⟩),(2,⟨false,5,(Hold.enc Hold.zero),g1.2.map Hold.enc⟩),(3,⟨false,7,(Wait.enc Wait.zero),[Wait.enc v4.1]⟩)],4⟩
noncomputable def zy7  (g1:Queue×(List Hold)):Option ((Queue×(List Hold))⊕((Queue×(List Hold)))) :=
 (zl6 g1.1).bind fun v3 =>
 (if (!v3)=true then
  (zx4 g1.1).bind fun v4 =>
  (if (decide (0 < (g1.1.converts.length:Int)))=true then
   gd (0≤1∧1≤(g1.1.converts.length:Int)∧(g1.1.converts.length:Int)≤(g1.1.converts.length:Int)) <|
   zt2 g1 v4 ({ g1.1 with converts:=(g1.1.converts.drop 1) })
  else
   gd (0≤1∧1≤(g1.1.waits.length:Int)∧(g1.1.waits.length:Int)≤(g1.1.waits.length:Int)) <|
   zt2 g1 v4 ({ g1.1 with waits:=(g1.1.waits.drop 1) }))
 else
  some (.inr (g1.1,g1.2)))
@[go_sem] def zdM1  (g1:Queue×(List Hold)):St:=⟨[(1,.ptr 0 0 0),(2,.ptr 1 0 0),(4,.own 2 0 g1.2.length)],[(0,⟨false,8,(Queue.enc Queue.zero),[Queue.enc g1.1]⟩),(1,⟨false,8,(Queue.enc Queue.zero),[Queue.enc Queue.zero]⟩),(2,⟨false,5,(Hold.enc Hold.zero),g1.2.map Hold.enc⟩)],3⟩
noncomputable def zs3 (a0:Queue):Option (Queue×(List Hold)) :=
 (zo1 a0).bind fun v1 =>
 (if (!v1)=true then
  some ({ Queue.zero with  },[])
 else
  (zr6 a0).bind fun v2 =>
  (zb6 (zy7) (v2,[])).bind (fun z=>zM3 z))
theorem zaC6 (a0:Queue) (r:Queue×(List Hold)) (h:zs3 a0=some r):PFn C 148 [.agg (Queue.enc a0)] (.tup [.agg (Queue.enc r.1),.sl (r.2.map Hold.enc)]):=by
 refine za6 zeb8 rfl fun E hG hN hK=>?_
 unfold zdf8
 unfold zs3 at h
 refine za0 (za1 hG ?_)
 refine za0 (za0 (za1 hG ?_))
 obtain ⟨v1,hv1,h⟩:=za5 h
 refine za7 (fun hg=>zY5 a0 _ (hv1)) ?_
 refine za3 rfl hG h (fun _ h=>?_) (fun _ h=>?_)
 · refine za0 (za1 hG ?_)
   refine za8 ?_
   exact zb1 h
 refine za4 ?_
 refine za0 (za1 hG ?_)
 obtain ⟨v2,hv2,h⟩:=za5 h
 refine za7 (fun hg=>zas3 a0 _ (hv2)) ?_
 refine za0 (za1 hG ?_)
 refine za0 ?_
 refine zb4 (zdL9) (fun v=>zM3 v=some r) ?_ ?_
 · intro j1 h
   unfold zM3 at h
   refine g_st ?_
   refine za0 (za1 hG ?_)
   refine za8 ?_
   exact zb1 h
 refine zd6 (zdM1) hK [(0,0),(1,1),(2,2)] h (fun x_l1 h g1 y_l1 h_l1 hx_l1=>?_)
 unfold zy7 at h_l1
 refine g_st ?_
 refine za0 (za0 (za1 hG ?_))
 obtain ⟨v3,hv3,h_l1⟩:=za5 h_l1
 refine za7 (fun hg=>zae7 g1.1 _ (hv3)) ?_
 refine za3 rfl hG h_l1 (fun _ h_l1=>?_) (fun _ h_l1=>?_)
 · refine za4 ?_
   refine zb5 (za0 (za1 hG ?_))
   obtain ⟨v4,hv4,h_l1⟩:=za5 h_l1
   refine za7 (fun hg=>zas1 g1.1 _ (hv4)) ?_
   refine za0 (za0 (za1 hG ?_))
   refine zaK7 (zdM0 g1 v4) (fun v=>zt2 g1 v4 v=some y_l1) rfl hG h_l1 ?_ (fun _ h_l1=>?_) (fun _ h_l1=>?_)
   · intro j2 h_l1
     unfold zt2 at h_l1
     refine g_st ?_
     refine za0 (za1 hG ?_)
     obtain ⟨v5,hv5,h_l1⟩:=za5 h_l1
     refine za7 (fun hg=>zah7 j2.holds v4.1.proc v4.1.amount _ (hv5)) ?_
     obtain ⟨hb1,h_l1⟩:=za2 h_l1
     refine za1 hG ?_
     exact zc7 hK [(0,0),(1,1),(2,4)] h_l1
   · obtain ⟨hb2,h_l1⟩:=za2 h_l1
     refine za1 hG ?_
     exact zc6 hK [(0,0),(1,1),(2,2),(3,3)] ({ g1.1 with converts:=(g1.1.converts.drop 1) }) (by exact h_l1)
   obtain ⟨hb3,h_l1⟩:=za2 h_l1
   refine za1 hG ?_
   exact zc6 hK [(0,0),(1,1),(2,2),(3,3)] ({ g1.1 with waits:=(g1.1.waits.drop 1) }) (by exact h_l1)
 refine zc2 ?_
 obtain rfl:=Option.some.inj h_l1
 have hx:=hx_l1 _ rfl
 subst hx
 try dsimp only at h
 exact zc6 hK [(0,0),(1,1),(2,2)] (g1.1,g1.2) (by exact h)
attribute [local irreducible] zs3
def zO7 (a0:Int):Int :=
 (if ((decide (a0 < 0))||(decide (1073741824≤a0)))=true then
  1
 else
  (IntKind.i64.wrap (a0+1)))
theorem zaW4 (a0:Int):PFn C 149 [.int .i64 a0] (.int .i64 (zO7 a0)):=by
 generalize h:zO7 a0=r
 refine za6 zeb9 rfl fun E hG hN hK=>?_
 unfold zdg3
 unfold zO7 at h
 refine za0 (za1 hG ?_)
 refine za0 (za0 (za1 hG ?_))
 refine za3 rfl hG h (fun _ h=>?_) (fun _ h=>?_)
 · refine za0 (za1 hG ?_)
   refine za8 ?_
   exact ze9 h
 refine za4 ?_
 refine za0 (za1 hG ?_)
 refine za8 ?_
 exact ze9 h
noncomputable def zi1 (a0:Queue):Option (Queue×(List Hold)×Int) :=
 (zs3 a0).bind fun v1 =>
 some ({ v1.1 with gen:=(zO7 a0.gen) },v1.2,0)
theorem zaC7 (a0:Queue) (r:Queue×(List Hold)×Int) (h:zi1 a0=some r):PFn C 103 [.agg (Queue.enc a0)] (.tup [.agg (Queue.enc r.1),.sl (r.2.1.map Hold.enc),.int .i64 r.2.2]):=by
 refine za6 zec0 rfl fun E hG hN hK=>?_
 unfold zdg8
 unfold zi1 at h
 refine za0 (za1 hG ?_)
 refine za0 (za1 hG ?_)
 obtain ⟨v1,hv1,h⟩:=za5 h
 refine za7 (fun hg=>zaC6 a0 _ (hv1)) ?_
 refine za0 (za1 hG ?_)
 refine za7 (fun hg=>zaW4 a0.gen) ?_
 refine za0 (za1 hG ?_)
 refine za8 ?_
 exact zb1 h
attribute [local irreducible] zi1
noncomputable def zay2 (j1:Int) (j2:(List Wait)):Option ((List Wait)×Int×Int) :=
 some (j2,j1,0)
@[go_sem] def zeE5 (j1:Int) (j2:(List Wait)):St:=⟨[(7,.int .i64 j1),(8,.own 0 0 j2.length)],[(0,⟨false,7,(Wait.enc Wait.zero),j2.map Wait.enc⟩)],1⟩
noncomputable def zay3 (a0:List Wait) (g1:Int×(List Wait)):Option ((Int×(List Wait))⊕(((List Wait)))) :=
 (if (decide (g1.1 < (a0.length:Int)))=true then
  gd (0≤g1.1∧g1.1 < (a0.length:Int)) <|
  gd (g1.2.length+1≤4294967296) <|
  some (.inl ((IntKind.i64.wrap (g1.1+1)),(g1.2++[{ (a0.getD g1.1.toNat Wait.zero) with passed:=(IntKind.i64.wrap ((a0.getD g1.1.toNat Wait.zero).passed+1)) }])))
 else
  some (.inr g1.2))
@[go_sem] def zeE6 (a0:List Wait) (j1:Int) (g1:Int×(List Wait)):St:=⟨[(0,.sl (a0.map Wait.enc)),(7,.int .i64 j1),(8,.own 0 0 g1.2.length),(9,.int .i64 g1.1)],[(0,⟨false,7,(Wait.enc Wait.zero),g1.2.map Wait.enc⟩)],1⟩
noncomputable def zay4 (a0:List Wait) (a1:Wait) (j1:Int):Option ((List Wait)×Int×Int) :=
 gd (0≤0∧0≤j1∧j1≤(a0.length:Int)) <|
 gd ((a0.take j1.toNat).length≤4294967296) <|
 gd ((a0.take j1.toNat).length+1≤4294967296) <|
 (zb6 (zay3 a0) (j1,((a0.take j1.toNat)++[a1]))).bind (fun z=>zay2 j1 z)
@[go_sem] def zeE7 (a0:List Wait) (a1:Wait) (j1:Int):St:=⟨[(0,.sl (a0.map Wait.enc)),(3,.ptr 0 0 0),(7,.int .i64 j1)],[(0,⟨false,7,(Wait.enc Wait.zero),[Wait.enc a1]⟩)],1⟩
noncomputable def zay5 (a0:List Wait) (a1:Wait) (g2:Int):Option ((Int)⊕((Int))) :=
 gd ((decide (0 < g2))=true→0≤(IntKind.i64.wrap (g2 - 1))∧(IntKind.i64.wrap (g2 - 1)) < (a0.length:Int)) <|
 gd (((decide (0 < g2))&&(decide ((a0.getD ((IntKind.i64.wrap (g2 - 1)).toNat) Wait.zero).priority < a1.priority)))=true→0≤(IntKind.i64.wrap (g2 - 1))∧(IntKind.i64.wrap (g2 - 1)) < (a0.length:Int)) <|
 (if (((decide (0 < g2))&&(decide ((a0.getD ((IntKind.i64.wrap (g2 - 1)).toNat) Wait.zero).priority < a1.priority)))&&(decide ((a0.getD ((IntKind.i64.wrap (g2 - 1)).toNat) Wait.zero).passed < 3)))=true then
  some (.inl (IntKind.i64.wrap (g2 - 1)))
 else
  some (.inr g2))
@[go_sem] def zeE8 (a0:List Wait) (a1:Wait) (g2:Int):St:=⟨[(0,.sl (a0.map Wait.enc)),(3,.ptr 0 0 0),(7,.int .i64 g2)],[(0,⟨false,7,(Wait.enc Wait.zero),[Wait.enc a1]⟩)],1⟩
noncomputable def zO8 (a0:List Wait) (a1:Wait):Option ((List Wait)×Int×Int) :=
 (zq6 a0).bind fun v1 =>
 (if (!v1)=true then
  some ([],0,2)
 else
  (if ((!(zi7 a1))||(!decide (a1.passed=0)))=true then
   some ([],0,1)
  else
   (zm7 a0 a1.proc).bind fun v2 =>
   (if (decide (0≤v2))=true then
    some ([],0,11)
   else
    (if (decide ((a0.length:Int)=8))=true then
     some ([],0,4)
    else
     (zb6 (zay5 a0 a1) (a0.length:Int)).bind (fun z=>zay4 a0 a1 z)))))
attribute [local irreducible] zO8
noncomputable def zS7 (a0:Queue) (a1:Proc) (a2:Amount) (a3:Int):Option (Queue×(List Hold)×Int) :=
 (zj9 a0).bind fun v1 =>
 (if (!v1)=true then
  some ({ Queue.zero with  },[],2)
 else
  (if (((!(ze1 a1))||(decide (a3 < 0)))||(decide (7 < a3)))=true then
   some ({ Queue.zero with  },[],1)
  else
   (if (!(zg2 a0.resource a2))=true then
    some ({ Queue.zero with  },[],12)
   else
    (zl0 a0 a1).bind fun v2 =>
    (if v2.2=true then
     some ({ Queue.zero with  },[],14)
    else
     (zO6 a0).bind fun v3 =>
     (zo7 v3 a1).bind fun v4 =>
     (if (zi3 v3.resource v4 a2)=true then
      some (v3,[],0)
     else
      (if (!(zc5 v4))=true then
       (zW2 v3.resource v4 a2).bind fun v5 =>
       gd (v3.converts.length+1≤4294967296) <|
       (zi1 (⟨(⟨v3.resource.name,v3.resource.kind,v3.resource.units,v3.resource.home⟩:Resource),v3.holds,(v3.converts++[{ Wait.zero with proc:=a1,amount:=v5 }]),v3.waits,v3.gen⟩:Queue)).bind fun v6 =>
       some (v6.1,v6.2.1,v6.2.2)
      else
       (if (decide (8≤(IntKind.i64.wrap (((v3.holds.length:Nat):Int)+((v3.waits.length:Nat):Int)))))=true then
        some ({ Queue.zero with  },[],4)
       else
        (zO8 v3.waits ({ Wait.zero with proc:=a1,amount:=a2,priority:=a3 })).bind fun v7 =>
        (if (!decide (v7.2.2=0))=true then
         some ({ Queue.zero with  },[],v7.2.2)
        else
         (zi1 (⟨(⟨v3.resource.name,v3.resource.kind,v3.resource.units,v3.resource.home⟩:Resource),v3.holds,v3.converts,v7.1,v3.gen⟩:Queue)).bind fun v8 =>
         some (v8.1,v8.2.1,v8.2.2)))))))))
attribute [local irreducible] zS7
noncomputable def zz3 (a0:List Queue) (a1:Int) (a2:Queue):Option ((List Queue)) :=
 gd (a0.length≤4294967296) <|
 gd (0≤a1∧a1 < ((a0.length:Nat):Int)) <|
 some (a0.set a1.toNat a2)
attribute [local irreducible] zz3
noncomputable def zO9  (j1:(List Event)):Option ((List Event)) :=
 some j1
@[go_sem] def zdM2  (j1:(List Event)):St:=⟨[(5,.own 0 0 j1.length)],[(0,⟨false,7,(Event.enc Event.zero),j1.map Event.enc⟩)],1⟩
noncomputable def zF1 (a0:ByteArray) (a1:List Hold) (g1:Int×(List Event)):Option ((Int×(List Event))⊕(((List Event)))) :=
 (if (decide (g1.1 < (a1.length:Int)))=true then
  gd (0≤g1.1∧g1.1 < (a1.length:Int)) <|
  gd (0≤g1.1∧g1.1 < (a1.length:Int)) <|
  gd (g1.2.length+1≤4294967296) <|
  some (.inl ((IntKind.i64.wrap (g1.1+1)),(g1.2++[(⟨1,(a1.getD g1.1.toNat Hold.zero).proc,a0,(a1.getD g1.1.toNat Hold.zero).amount⟩:Event)])))
 else
  some (.inr g1.2))
@[go_sem] def zdM3 (a0:ByteArray) (a1:List Hold) (g1:Int×(List Event)):St:=⟨[(0,.str a0),(1,.sl (a1.map Hold.enc)),(5,.own 0 0 g1.2.length),(6,.int .i64 g1.1)],[(0,⟨false,7,(Event.enc Event.zero),g1.2.map Event.enc⟩)],1⟩
noncomputable def zl1 (a0:ByteArray) (a1:List Hold):Option ((List Event)) :=
 (zb6 (zF1 a0 a1) (0,[])).bind (fun z=>zO9 z)
theorem zaI6 (a0:ByteArray) (a1:List Hold) (r:(List Event)) (h:zl1 a0 a1=some r):PFn C 62 [.str a0,.sl (a1.map Hold.enc)] (.sl (r.map Event.enc)):=by
 refine za6 zee5 rfl fun E hG hN hK=>?_
 unfold zdh6
 unfold zl1 at h
 refine za0 (za1 hG ?_)
 refine za0 (za1 hG ?_)
 refine za0 (za0 (za1 hG ?_))
 refine zb4 (zdM2) (fun v=>zO9 v=some r) ?_ ?_
 · intro j1 h
   unfold zO9 at h
   refine g_st ?_
   refine za0 (za1 hG ?_)
   refine za8 ?_
   exact zb1 h
 refine zd6 (zdM3 a0 a1) hK [(0,0)] h (fun x_l1 h g1 y_l1 h_l1 hx_l1=>?_)
 unfold zF1 at h_l1
 refine g_st ?_
 refine za0 (za0 (za1 hG ?_))
 refine za3 rfl hG h_l1 (fun _ h_l1=>?_) (fun _ h_l1=>?_)
 · refine za4 ?_
   refine za0 (zb5 ?_)
   obtain ⟨hb1,h_l1⟩:=za2 h_l1
   obtain ⟨hb2,h_l1⟩:=za2 h_l1
   obtain ⟨hb3,h_l1⟩:=za2 h_l1
   refine zX3 ze6 hG ?_
   refine za1 hG ?_
   exact zc7 hK [(0,1)] h_l1
 refine zc2 ?_
 obtain rfl:=Option.some.inj h_l1
 have hx:=hx_l1 _ rfl
 subst hx
 try dsimp only at h
 exact zc6 hK [(0,0)] g1.2 (by exact h)
attribute [local irreducible] zl1
noncomputable def zS8 (a0:List Queue) (a1:Proc) (a2:Atom) (a3:Int):Option ((List Queue)×(List Event)×Int) :=
 (zl8 a0).bind fun v1 =>
 (if (!v1)=true then
  some ([],[],2)
 else
  (zJ5 a0 a2.name).bind fun v2 =>
  (if (decide (v2 < 0))=true then
   some ([],[],10)
  else
   (zq7 a0).bind fun v3 =>
   ((if (decide ((v3.length:Int)=8))=true then zl7 v3 a1 else some (false))).bind fun v4 =>
   (if ((decide ((v3.length:Int)=8))&&(!v4))=true then
    some ([],[],4)
   else
    gd (0≤v2∧v2 < (a0.length:Int)) <|
    (zS7 (a0.getD v2.toNat Queue.zero) a1 a2.amount a3).bind fun v5 =>
    (if (!decide (v5.2.2=0))=true then
     some ([],[],v5.2.2)
    else
     (zz3 a0 v2 v5.1).bind fun v6 =>
     (zl1 a2.name v5.2.1).bind fun v7 =>
     some (v6,v7,0)))))
attribute [local irreducible] zS8
noncomputable def zE6  (j1:Unit):Option (Bool) :=
 some true
@[go_sem] def zdM4  (j1:Unit):St:=⟨[],[],0⟩
noncomputable def zQ7 (a0:List Event) (a1:List Event) (g1:Int):Option ((Int)⊕((Unit)⊕(Bool))) :=
 (if (decide (g1 < (a0.length:Int)))=true then
  gd (0≤g1∧g1 < (a0.length:Int)) <|
  gd (0≤g1∧g1 < (a1.length:Int)) <|
  (if (!decide ((a0.getD g1.toNat Event.zero)=(a1.getD g1.toNat Event.zero)))=true then
   some (.inr (.inr false))
  else
   some (.inl (IntKind.i64.wrap (g1+1))))
 else
  some (.inr (.inl ())))
@[go_sem] def zdM5 (a0:List Event) (a1:List Event) (g1:Int):St:=⟨[(0,.sl (a0.map Event.enc)),(1,.sl (a1.map Event.enc)),(5,.int .i64 g1)],[],0⟩
noncomputable def zh6 (a0:List Event) (a1:List Event):Option (Bool) :=
 (if (!decide ((a0.length:Int)=(a1.length:Int)))=true then
  some false
 else
  (zb6 (zQ7 a0 a1) 0).bind (fun | .inl z=>zE6 z | .inr z=>some z))
theorem zV6 (a0:List Event) (a1:List Event) (r:Bool) (h:zh6 a0 a1=some r):PFn C 36 [.sl (a0.map Event.enc),.sl (a1.map Event.enc)] (.bool r):=by
 refine za6 zef6 rfl fun E hG hN hK=>?_
 unfold zdi6
 unfold zh6 at h
 refine za0 (za1 hG ?_)
 refine za0 (za0 (za1 hG ?_))
 refine za3 rfl hG h (fun _ h=>?_) (fun _ h=>?_)
 · refine za0 (za1 hG ?_)
   refine za8 ?_
   exact zb1 h
 refine za4 ?_
 refine za0 (za0 (za1 hG ?_))
 refine zb4 (zdM4) (fun v=>zE6 v=some r) ?_ ?_
 · intro j1 h
   unfold zE6 at h
   refine g_st ?_
   refine za0 (za1 hG ?_)
   refine za8 ?_
   exact zb1 h
 refine zd6 (zdM5 a0 a1) hK [] h (fun x_l1 h g1 y_l1 h_l1 hx_l1=>?_)
 unfold zQ7 at h_l1
 refine g_st ?_
 refine za0 (za0 (za1 hG ?_))
 refine za3 rfl hG h_l1 (fun _ h_l1=>?_) (fun _ h_l1=>?_)
 · refine za4 ?_
   refine za0 (zb5 (za0 ?_))
   obtain ⟨hb1,h_l1⟩:=za2 h_l1
   obtain ⟨hb2,h_l1⟩:=za2 h_l1
   refine zo8 ze6 hG ?_
   refine za3 rfl hG h_l1 (fun _ h_l1=>?_) (fun _ h_l1=>?_)
   · refine za0 (za1 hG ?_)
     refine za8 ?_
     obtain rfl:=Option.some.inj h_l1
     have hx:=hx_l1 _ rfl
     subst hx
     try dsimp only at h
     exact zb1 h
   refine za4 ?_
   refine za1 hG ?_
   exact zc7 hK [] h_l1
 refine zc2 ?_
 obtain rfl:=Option.some.inj h_l1
 have hx:=hx_l1 _ rfl
 subst hx
 try dsimp only at h
 exact zc6 hK [] () (by exact h)
attribute [local irreducible] zh6
noncomputable def zah8 (a0:List Queue) (a1:List Event) (a2:Int) (a3:List Queue) (a4:List Event) (a5:Int):Option (Bool) :=
 ((if (decide (a2=a5))=true then zr5 a0 a3 else some (false))).bind fun v1 =>
 ((if ((decide (a2=a5))&&v1)=true then zh6 a1 a4 else some (false))).bind fun v2 =>
 some (((decide (a2=a5))&&v1)&&v2)
attribute [local irreducible] zah8
noncomputable def zf0 (a0:Int) (a1:Tape):Option (Int×Tape) :=
 (if (decide ((a1.l.length:Int)≤a1.at_))=true then
  some (0,a1)
 else
  gd (0≤(IntKind.i64.wrap (({ a1 with at_:=(IntKind.i64.wrap (a1.at_+1)) }).at_ - 1))∧(IntKind.i64.wrap (({ a1 with at_:=(IntKind.i64.wrap (a1.at_+1)) }).at_ - 1)) < ((({ a1 with at_:=(IntKind.i64.wrap (a1.at_+1)) }).l).length:Int)) <|
  (zr2 ((({ a1 with at_:=(IntKind.i64.wrap (a1.at_+1)) }).l).getD ((IntKind.i64.wrap (({ a1 with at_:=(IntKind.i64.wrap (a1.at_+1)) }).at_ - 1)).toNat) 0) a0).bind fun v1 =>
  some (v1,{ a1 with at_:=(IntKind.i64.wrap (a1.at_+1)) }))
attribute [local irreducible] zf0
def zz8 :List ByteArray:=[(⟨#[97]⟩:ByteArray),(⟨#[98]⟩:ByteArray),(⟨#[99]⟩:ByteArray),(⟨#[100]⟩:ByteArray)]
noncomputable def zaq6  (j1:Tape×(List Resource)):Option ((List Resource)×Tape) :=
 (zf0 8 j1.1).bind fun v1 =>
 (zf0 4 v1.2).bind fun v2 =>
 gd (j1.2.length+1≤4294967296) <|
 (zf0 3 v2.2).bind fun v3 =>
 (zf0 4 v3.2).bind fun v4 =>
 gd (j1.2.length+1+1≤4294967296) <|
 some (((j1.2++[(⟨(⟨#[112]⟩:ByteArray),2,(IntKind.i64.wrap (1+v1.1)),v2.1⟩:Resource)])++[(⟨(⟨#[113]⟩:ByteArray),2,(IntKind.i64.wrap (1+v3.1)),v4.1⟩:Resource)]),v4.2)
@[go_sem] def zeE9  (j1:Tape×(List Resource)):St:=⟨[(0,.ptr 0 0 0),(3,.own 1 0 j1.2.length)],[(0,⟨false,2,(Tape.enc Tape.zero),[Tape.enc j1.1]⟩),(1,⟨false,4,(Resource.enc Resource.zero),j1.2.map Resource.enc⟩)],2⟩
noncomputable def zaq7  (g1:Int×Tape×(List Resource)):Option ((Int×Tape×(List Resource))⊕((Tape×(List Resource)))) :=
 (if (decide (g1.1 < (zz8.length:Int)))=true then
  gd (0≤g1.1∧g1.1 < (zz8.length:Int)) <|
  (zf0 4 g1.2.1).bind fun v5 =>
  gd (g1.2.2.length+1≤4294967296) <|
  some (.inl ((IntKind.i64.wrap (g1.1+1)),v5.2,(g1.2.2++[(⟨(zz8.getD g1.1.toNat (⟨#[]⟩)),1,1,v5.1⟩:Resource)])))
 else
  some (.inr (g1.2.1,g1.2.2)))
@[go_sem] def zeF0  (g1:Int×Tape×(List Resource)):St:=⟨[(0,.ptr 0 0 0),(3,.own 1 0 g1.2.2.length),(4,.full (zz8.map eS)),(5,.int .i64 g1.1)],[(0,⟨false,2,(Tape.enc Tape.zero),[Tape.enc g1.2.1]⟩),(1,⟨false,4,(Resource.enc Resource.zero),g1.2.2.map Resource.enc⟩)],2⟩
noncomputable def zJ6 (a0:Tape):Option ((List Resource)×Tape) :=
 (zb6 (zaq7) (0,a0,[])).bind (fun z=>zaq6 z)
attribute [local irreducible] zJ6
noncomputable def zD3 (a0:Tape):Option (Bool×Tape) :=
 some ((decide (a0.at_ < (a0.l.length:Int))),a0)
attribute [local irreducible] zD3
def zV2 :List Int:=[5,5,3,4,2,1,3,5]
noncomputable def zab4 (a0:Int):Option (Int) :=
 (zr2 a0 (zV2.length:Int)).bind fun v1 =>
 gd (0≤v1∧v1 < (zV2.length:Int)) <|
 some (zV2.getD v1.toNat 0)
attribute [local irreducible] zab4
noncomputable def zS9 (a0:Resource) (a1:Int):Option (Amount) :=
 (if (decide (a0.kind=1))=true then
  (zab4 a1).bind fun v1 =>
  some ({ Amount.zero with mode:=v1 })
 else
  (zr2 a1 a0.units).bind fun v2 =>
  some ({ Amount.zero with units:=(IntKind.i64.wrap (1+v2)) }))
attribute [local irreducible] zS9
noncomputable def zP0 (a0:List Wait) (j1:(List Wait)):Option ((List Wait)×Bool) :=
 some (j1,(decide (((j1.length:Nat):Int) < (a0.length:Int))))
@[go_sem] def zdM6 (a0:List Wait) (j1:(List Wait)):St:=⟨[(0,.sl (a0.map Wait.enc)),(6,.own 0 0 j1.length)],[(0,⟨false,7,(Wait.enc Wait.zero),j1.map Wait.enc⟩)],1⟩
noncomputable def zF2 (a0:List Wait) (a1:Proc) (g1:Int×(List Wait)):Option ((Int×(List Wait))⊕(((List Wait)))) :=
 (if (decide (g1.1 < (a0.length:Int)))=true then
  gd (0≤g1.1∧g1.1 < (a0.length:Int)) <|
  (if (!decide ((a0.getD g1.1.toNat Wait.zero).proc=a1))=true then
   gd (0≤g1.1∧g1.1 < (a0.length:Int)) <|
   gd (g1.2.length+1≤4294967296) <|
   some (.inl ((IntKind.i64.wrap (g1.1+1)),(g1.2++[(a0.getD g1.1.toNat Wait.zero)])))
  else
   some (.inl ((IntKind.i64.wrap (g1.1+1)),g1.2)))
 else
  some (.inr g1.2))
@[go_sem] def zdM7 (a0:List Wait) (a1:Proc) (g1:Int×(List Wait)):St:=⟨[(0,.sl (a0.map Wait.enc)),(3,.ptr 0 0 0),(6,.own 1 0 g1.2.length),(7,.int .i64 g1.1)],[(0,⟨false,3,(Proc.enc Proc.zero),[Proc.enc a1]⟩),(1,⟨false,7,(Wait.enc Wait.zero),g1.2.map Wait.enc⟩)],2⟩
noncomputable def zl2 (a0:List Wait) (a1:Proc):Option ((List Wait)×Bool) :=
 (zb6 (zF2 a0 a1) (0,[])).bind (fun z=>zP0 a0 z)
theorem zaj3 (a0:List Wait) (a1:Proc) (r:(List Wait)×Bool) (h:zl2 a0 a1=some r):PFn C 113 [.sl (a0.map Wait.enc),.agg (Proc.enc a1)] (.tup [.sl (r.1.map Wait.enc),.bool r.2]):=by
 refine za6 zei4 rfl fun E hG hN hK=>?_
 unfold zdj5
 unfold zl2 at h
 refine za0 (za1 hG ?_)
 refine za0 (za1 hG ?_)
 refine za0 (za0 (za1 hG ?_))
 refine zb4 (zdM6 a0) (fun v=>zP0 a0 v=some r) ?_ ?_
 · intro j1 h
   unfold zP0 at h
   refine g_st ?_
   refine za0 (za1 hG ?_)
   refine za8 ?_
   exact zb1 h
 refine zd6 (zdM7 a0 a1) hK [(0,0),(1,1)] h (fun x_l1 h g1 y_l1 h_l1 hx_l1=>?_)
 unfold zF2 at h_l1
 refine g_st ?_
 refine za0 (za0 (za1 hG ?_))
 refine za3 rfl hG h_l1 (fun _ h_l1=>?_) (fun _ h_l1=>?_)
 · refine za4 ?_
   refine za0 (zb5 (za0 ?_))
   obtain ⟨hb3,h_l1⟩:=za2 h_l1
   refine zo8 ze6 hG ?_
   refine za3 rfl hG h_l1 (fun _ h_l1=>?_) (fun _ h_l1=>?_)
   · obtain ⟨hb1,h_l1⟩:=za2 h_l1
     obtain ⟨hb2,h_l1⟩:=za2 h_l1
     refine za1 hG ?_
     refine za1 hG ?_
     exact zc7 hK [(0,0),(1,2)] h_l1
   refine za4 ?_
   refine za1 hG ?_
   exact zc7 hK [(0,0),(1,1)] h_l1
 refine zc2 ?_
 obtain rfl:=Option.some.inj h_l1
 have hx:=hx_l1 _ rfl
 subst hx
 try dsimp only at h
 exact zc6 hK [(0,1)] g1.2 (by exact h)
attribute [local irreducible] zl2
noncomputable def zP1 (a0:Queue) (a1:Proc):Option (Queue×(List Hold)×Int) :=
 (zj9 a0).bind fun v1 =>
 (if (!v1)=true then
  some ({ Queue.zero with  },[],2)
 else
  (zl0 a0 a1).bind fun v2 =>
  (if (!v2.2)=true then
   some ({ Queue.zero with  },[],10)
  else
   (zr6 a0).bind fun v3 =>
   (zl2 v3.converts a1).bind fun v4 =>
   (zl2 (({ v3 with converts:=v4.1 }).waits) a1).bind fun v5 =>
   (zi1 ({ { v3 with converts:=v4.1 } with waits:=v5.1 })).bind fun v6 =>
   some (v6.1,v6.2.1,v6.2.2)))
attribute [local irreducible] zP1
noncomputable def zP2 (a0:List Queue) (a1:Proc) (a2:ByteArray):Option ((List Queue)×(List Event)×Int) :=
 (zl8 a0).bind fun v1 =>
 (if (!v1)=true then
  some ([],[],2)
 else
  (zJ5 a0 a2).bind fun v2 =>
  (if (decide (v2 < 0))=true then
   some ([],[],10)
  else
   gd (0≤v2∧v2 < (a0.length:Int)) <|
   (zP1 (a0.getD v2.toNat Queue.zero) a1).bind fun v3 =>
   (if (!decide (v3.2.2=0))=true then
    some ([],[],v3.2.2)
   else
    (zz3 a0 v2 v3.1).bind fun v4 =>
    (zl1 a2 v3.2.1).bind fun v5 =>
    some (v4,v5,0))))
attribute [local irreducible] zP2
noncomputable def zT0 (a0:Queue) (a1:Proc) (a2:Amount):Option (Queue×(List Hold)×Int) :=
 (zj9 a0).bind fun v1 =>
 (if (!v1)=true then
  some ({ Queue.zero with  },[],2)
 else
  (zo7 a0 a1).bind fun v2 =>
  (if (zc5 v2)=true then
   some ({ Queue.zero with  },[],10)
  else
   (zl0 a0 a1).bind fun v3 =>
   (if v3.2=true then
    some ({ Queue.zero with  },[],14)
   else
    (if (!(zi3 a0.resource v2 a2))=true then
     some ({ Queue.zero with  },[],12)
    else
     (zr6 a0).bind fun v4 =>
     (if (decide (v2=a2))=true then
      some (v4,[],0)
     else
      (zs2 v4.holds a1 a2).bind fun v5 =>
      (zi1 ({ v4 with holds:=v5 })).bind fun v6 =>
      some (v6.1,v6.2.1,v6.2.2))))))
attribute [local irreducible] zT0
noncomputable def zae8 (a0:List Queue) (a2:Atom) (v2:Int) (v4:Queue×(List Hold)×Int) (j1:(List Event)):Option ((List Queue)×(List Event)×Int) :=
 (zz3 a0 v2 v4.1).bind fun v5 =>
 (zl1 a2.name v4.2.1).bind fun v6 =>
 gd (j1.length+v6.length≤4294967296) <|
 some (v5,(j1++v6),0)
@[go_sem] def zeF1 (a0:List Queue) (a2:Atom) (v2:Int) (v4:Queue×(List Hold)×Int) (j1:(List Event)):St:=⟨[(0,.sl (a0.map Queue.enc)),(5,.ptr 0 0 0),(9,.int .i64 v2),(11,.ptr 1 0 0),(12,.sl (v4.2.1.map Hold.enc)),(14,.own 2 0 j1.length)],[(0,⟨false,3,(Atom.enc Atom.zero),[Atom.enc a2]⟩),(1,⟨false,8,(Queue.enc Queue.zero),[Queue.enc v4.1]⟩),(2,⟨false,7,(Event.enc Event.zero),j1.map Event.enc⟩)],3⟩
noncomputable def zT1 (a0:List Queue) (a1:Proc) (a2:Atom):Option ((List Queue)×(List Event)×Int) :=
 (zl8 a0).bind fun v1 =>
 (if (!v1)=true then
  some ([],[],2)
 else
  (zJ5 a0 a2.name).bind fun v2 =>
  (if (decide (v2 < 0))=true then
   some ([],[],10)
  else
   gd (0≤v2∧v2 < (a0.length:Int)) <|
   (zo7 (a0.getD v2.toNat Queue.zero) a1).bind fun v3 =>
   gd (0≤v2∧v2 < (a0.length:Int)) <|
   (zT0 (a0.getD v2.toNat Queue.zero) a1 a2.amount).bind fun v4 =>
   (if (!decide (v4.2.2=0))=true then
    some ([],[],v4.2.2)
   else
    (if (!decide (v3=a2.amount))=true then
     gd (1≤4294967296) <|
     zae8 a0 a2 v2 v4 [(⟨3,a1,a2.name,a2.amount⟩:Event)]
    else
     zae8 a0 a2 v2 v4 []))))
attribute [local irreducible] zT1
noncomputable def zaI7  (j1:(List Queue)):Option ((List Queue)) :=
 some j1
@[go_sem] def zeF2  (j1:(List Queue)):St:=⟨[(4,.sl (j1.map Queue.enc))],[],0⟩
noncomputable def zV3 (g1:(List Queue)×Tape) (j2:(List Queue)×Int×Tape):Option (((List Queue)×Tape)⊕(((List Queue)))) :=
 (if (decide (j2.2.1=0))=true then
  some (.inl (j2.1,j2.2.2))
 else
  some (.inl (g1.1,j2.2.2)))
@[go_sem] def zeF3 (g1:(List Queue)×Tape) (j2:(List Queue)×Int×Tape):St:=⟨[(3,.ptr 0 0 0),(4,.sl (g1.1.map Queue.enc)),(10,.sl (j2.1.map Queue.enc)),(11,.int .i64 j2.2.1)],[(0,⟨false,2,(Tape.enc Tape.zero),[Tape.enc j2.2.2]⟩)],1⟩
noncomputable def zaI8  (g1:(List Queue)×Tape):Option (((List Queue)×Tape)⊕(((List Queue)))) :=
 (zD3 g1.2).bind fun v3 =>
 (if v3.1=true then
  (zf0 8 v3.2).bind fun v4 =>
  (zf0 (g1.1.length:Int) v4.2).bind fun v5 =>
  gd (0≤v5.1∧v5.1 < (g1.1.length:Int)) <|
  (zf0 8 v5.2).bind fun v6 =>
  (zs1 v6.1).bind fun v7 =>
  (zf0 64 v6.2).bind fun v8 =>
  (zS9 ((g1.1.getD v5.1.toNat Queue.zero).resource) v8.1).bind fun v9 =>
  (if (decide (v4.1=0))=true then
   (zP2 g1.1 v7 ((⟨((g1.1.getD v5.1.toNat Queue.zero).resource).name,v9⟩:Atom).name)).bind fun v10 =>
   zV3 g1 (v10.1,v10.2.2,v8.2)
  else
   (if (decide (v4.1=1))=true then
    (zT1 g1.1 v7 (⟨((g1.1.getD v5.1.toNat Queue.zero).resource).name,v9⟩:Atom)).bind fun v11 =>
    zV3 g1 (v11.1,v11.2.2,v8.2)
   else
    (zf0 8 v8.2).bind fun v12 =>
    (zS8 g1.1 v7 (⟨((g1.1.getD v5.1.toNat Queue.zero).resource).name,v9⟩:Atom) v12.1).bind fun v13 =>
    zV3 g1 (v13.1,v13.2.2,v12.2)))
 else
  some (.inr g1.1))
@[go_sem] def zeF4  (g1:(List Queue)×Tape):St:=⟨[(3,.ptr 0 0 0),(4,.sl (g1.1.map Queue.enc))],[(0,⟨false,2,(Tape.enc Tape.zero),[Tape.enc g1.2]⟩)],1⟩
noncomputable def zah9 (a0:List Int):Option ((List Queue)) :=
 (zJ6 ({ Tape.zero with l:=a0 })).bind fun v1 =>
 (zG1 v1.1).bind fun v2 =>
 (zb6 (zaI8) (v2.1,v1.2)).bind (fun z=>zaI7 z)
attribute [local irreducible] zah9
noncomputable def zH3 (a1:Int) (a2:Queue) (j1:(List Queue)):Option ((List Queue)) :=
 (if (decide (0≤a1))=true then
  gd (0≤a1∧a1 < ((j1.length:Nat):Int)) <|
  some (j1.set a1.toNat a2)
 else
  some j1)
@[go_sem] def zdM8 (a1:Int) (a2:Queue) (j1:(List Queue)):St:=⟨[(1,.int .i64 a1),(5,.ptr 0 0 0),(7,.own 1 0 j1.length)],[(0,⟨false,8,(Queue.enc Queue.zero),[Queue.enc a2]⟩),(1,⟨false,8,(Queue.enc Queue.zero),j1.map Queue.enc⟩)],2⟩
noncomputable def zU2 (a0:List Queue) (g1:Int×(List Queue)):Option ((Int×(List Queue))⊕(((List Queue)))) :=
 (if (decide (g1.1 < (a0.length:Int)))=true then
  gd (0≤g1.1∧g1.1 < (a0.length:Int)) <|
  gd (((a0.getD g1.1.toNat Queue.zero).holds).length≤4294967296) <|
  gd ((({ (a0.getD g1.1.toNat Queue.zero) with holds:=(a0.getD g1.1.toNat Queue.zero).holds }).converts).length≤4294967296) <|
  gd ((({ { (a0.getD g1.1.toNat Queue.zero) with holds:=(a0.getD g1.1.toNat Queue.zero).holds } with converts:=({ (a0.getD g1.1.toNat Queue.zero) with holds:=(a0.getD g1.1.toNat Queue.zero).holds }).converts }).waits).length≤4294967296) <|
  gd (0≤g1.1∧g1.1 < ((g1.2.length:Nat):Int)) <|
  some (.inl ((IntKind.i64.wrap (g1.1+1)),(g1.2.set g1.1.toNat ({ { { (a0.getD g1.1.toNat Queue.zero) with holds:=(a0.getD g1.1.toNat Queue.zero).holds } with converts:=({ (a0.getD g1.1.toNat Queue.zero) with holds:=(a0.getD g1.1.toNat Queue.zero).holds }).converts } with waits:=({ { (a0.getD g1.1.toNat Queue.zero) with holds:=(a0.getD g1.1.toNat Queue.zero).holds } with converts:=({ (a0.getD g1.1.toNat Queue.zero) with holds:=(a0.getD g1.1.toNat Queue.zero).holds }).converts }).waits }))))
 else
  some (.inr g1.2))
@[go_sem] def zdM9 (a0:List Queue) (a1:Int) (a2:Queue) (g1:Int×(List Queue)):St:=⟨[(1,.int .i64 a1),(5,.ptr 0 0 0),(7,.own 1 0 g1.2.length),(13,.sl (a0.map Queue.enc)),(14,.int .i64 (a0.length:Int)),(15,.int .i64 g1.1)],[(0,⟨false,8,(Queue.enc Queue.zero),[Queue.enc a2]⟩),(1,⟨false,8,(Queue.enc Queue.zero),g1.2.map Queue.enc⟩)],2⟩
noncomputable def zn1 (a0:List Queue) (a1:Int) (a2:Queue):Option ((List Queue)) :=
 gd (0≤(a0.length:Int)∧(a0.length:Int)≤(a0.length:Int)∧(a0.length:Int)≤4294967296) <|
 (zb6 (zU2 a0) (0,(List.replicate ((a0.length:Int).toNat) Queue.zero))).bind (fun z=>zH3 a1 a2 z)
theorem zaq8 (a0:List Queue) (a1:Int) (a2:Queue) (r:(List Queue)) (h:zn1 a0 a1 a2=some r):MFn C 57 [.sl (a0.map Queue.enc),.int .i64 a1,.agg (Queue.enc a2)] [] 0 (.own 0 0 r.length) [(0,⟨false,8,(Queue.enc Queue.zero),r.map Queue.enc⟩)] 1:=by
 refine zs0 (rl:=[.own 0 0 r.length]) zen5 rfl rfl rfl rfl fun E hG hN hK=>?_
 unfold zdk6
 unfold zn1 at h
 refine za0 (za1 hG ?_)
 refine za0 ?_
 obtain ⟨hb7,h⟩:=za2 h
 refine za1 hG ?_
 refine za0 (za0 (za1 hG ?_))
 refine zb4 (zdM8 a1 a2) (fun v=>zH3 a1 a2 v=some r) ?_ ?_
 · intro j1 h
   unfold zH3 at h
   refine g_st ?_
   refine za0 (za0 (za1 hG ?_))
   refine za3 rfl hG h (fun _ h=>?_) (fun _ h=>?_)
   · obtain ⟨hb1,h⟩:=za2 h
     refine za1 hG ?_
     refine za0 (za1 hG ?_)
     refine za8 ?_
     exact zC2 [(0,1)] h
   refine za4 ?_
   refine za0 (za1 hG ?_)
   refine za8 ?_
   exact zC2 [(0,1)] h
 refine zd6 (zdM9 a0 a1 a2) hK [(0,0),(1,2)] h (fun x_l1 h g1 y_l1 h_l1 hx_l1=>?_)
 unfold zU2 at h_l1
 refine g_st ?_
 refine za0 (za1 hG ?_)
 refine za0 ?_
 refine za3 rfl hG h_l1 (fun _ h_l1=>?_) (fun _ h_l1=>?_)
 · refine za4 ?_
   refine za0 (zb5 (za0 ?_))
   obtain ⟨hb6,h_l1⟩:=za2 h_l1
   refine za1 hG ?_
   refine za0 ?_
   obtain ⟨hb5,h_l1⟩:=za2 h_l1
   refine za1 hG ?_
   refine za0 ?_
   obtain ⟨hb4,h_l1⟩:=za2 h_l1
   refine za1 hG ?_
   refine za0 ?_
   obtain ⟨hb3,h_l1⟩:=za2 h_l1
   refine za1 hG ?_
   obtain ⟨hb2,h_l1⟩:=za2 h_l1
   refine za1 hG ?_
   refine za1 hG ?_
   exact zc7 hK [(0,0),(1,1)] h_l1
 refine zc2 ?_
 obtain rfl:=Option.some.inj h_l1
 have hx:=hx_l1 _ rfl
 subst hx
 try dsimp only at h
 exact zc6 hK [(0,0),(1,1)] g1.2 (by exact h)
attribute [local irreducible] zn1
noncomputable def zq8 (a0:Queue):Option (Queue) :=
 gd (a0.holds.length≤4294967296) <|
 gd (a0.converts.length≤4294967296) <|
 gd (a0.waits.length≤4294967296) <|
 some a0
theorem zaQ9 (a0:Queue) (r:Queue) (h:zq8 a0=some r):PFn C 88 [.agg (Queue.enc a0)] (.agg (Queue.enc r)):=by
 refine za6 zen6 rfl fun E hG hN hK=>?_
 unfold zdl2
 unfold zq8 at h
 refine za0 (za1 hG ?_)
 refine za0 ?_
 obtain ⟨hb3,h⟩:=za2 h
 refine za1 hG ?_
 refine za0 ?_
 obtain ⟨hb2,h⟩:=za2 h
 refine za1 hG ?_
 refine za0 ?_
 obtain ⟨hb1,h⟩:=za2 h
 refine za1 hG ?_
 refine za0 (za1 hG ?_)
 refine za8 ?_
 exact zb1 h
attribute [local irreducible] zq8
noncomputable def zp0 (a0:Queue) (a1:Proc):Option (Queue×Proc) :=
 (zi4 a0.holds a1 ({ Amount.zero with  })).bind fun v1 =>
 some ({ a0 with holds:=v1 },a1)
theorem zam2 (a0:Queue) (a1:Proc) (r:Queue×Proc) (h:zp0 a0 a1=some r):MFn C 105 [.ptr 0 0 0,.ptr 1 0 0] [(0,⟨false,8,(Queue.enc Queue.zero),[Queue.enc a0]⟩),(1,⟨false,3,(Proc.enc Proc.zero),[Proc.enc a1]⟩)] 2 (.tup []) [(0,⟨false,8,(Queue.enc Queue.zero),[Queue.enc r.1]⟩),(1,⟨false,3,(Proc.enc Proc.zero),[Proc.enc r.2]⟩)] 2:=by
 refine zs0 (rl:=[]) zen7 rfl rfl rfl rfl fun E hG hN hK=>?_
 unfold zdl4
 unfold zp0 at h
 refine za1 hG ?_
 obtain ⟨v1,hv1,h⟩:=za5 h
 refine za7 (fun hg=>zX7 a0.holds a1 ({ Amount.zero with  }) _ (hv1)) ?_
 exact zC2 [(0,0),(1,1)] h
attribute [local irreducible] zp0
noncomputable def zJ7 (a0:List Wait) (j1:(List Wait)):Option ((List Wait)×Bool) :=
 some (j1,(decide (((j1.length:Nat):Int) < (a0.length:Int))))
@[go_sem] def zdN0 (a0:List Wait) (j1:(List Wait)):St:=⟨[(0,.sl (a0.map Wait.enc)),(6,.own 0 0 j1.length)],[(0,⟨false,7,(Wait.enc Wait.zero),j1.map Wait.enc⟩)],1⟩
noncomputable def zt3 (a0:List Wait) (a1:Proc) (g1:Int×(List Wait)):Option ((Int×(List Wait))⊕(((List Wait)))) :=
 (if (decide (g1.1 < (a0.length:Int)))=true then
  gd (0≤g1.1∧g1.1 < (a0.length:Int)) <|
  (if (!decide ((a0.getD g1.1.toNat Wait.zero).proc=a1))=true then
   gd (g1.2.length+1≤4294967296) <|
   some (.inl ((IntKind.i64.wrap (g1.1+1)),(g1.2++[(a0.getD g1.1.toNat Wait.zero)])))
  else
   some (.inl ((IntKind.i64.wrap (g1.1+1)),g1.2)))
 else
  some (.inr g1.2))
@[go_sem] def zdN1 (a0:List Wait) (a1:Proc) (g1:Int×(List Wait)):St:=⟨[(0,.sl (a0.map Wait.enc)),(3,.ptr 0 0 0),(6,.own 1 0 g1.2.length),(9,.sl (a0.map Wait.enc)),(10,.int .i64 (a0.length:Int)),(11,.int .i64 g1.1)],[(0,⟨false,3,(Proc.enc Proc.zero),[Proc.enc a1]⟩),(1,⟨false,7,(Wait.enc Wait.zero),g1.2.map Wait.enc⟩)],2⟩
noncomputable def zl9 (a0:List Wait) (a1:Proc):Option ((List Wait)×Bool) :=
 (zb6 (zt3 a0 a1) (0,[])).bind (fun z=>zJ7 a0 z)
theorem zam3 (a0:List Wait) (a1:Proc) (r:(List Wait)×Bool) (h:zl9 a0 a1=some r):PFn C 108 [.sl (a0.map Wait.enc),.agg (Proc.enc a1)] (.tup [.sl (r.1.map Wait.enc),.bool r.2]):=by
 refine za6 zen8 rfl fun E hG hN hK=>?_
 unfold zdm4
 unfold zl9 at h
 refine za0 (za1 hG ?_)
 refine za0 (za1 hG ?_)
 refine za0 (za0 (za1 hG ?_))
 refine zb4 (zdN0 a0) (fun v=>zJ7 a0 v=some r) ?_ ?_
 · intro j1 h
   unfold zJ7 at h
   refine g_st ?_
   refine za0 (za1 hG ?_)
   refine za8 ?_
   exact zb1 h
 refine zd6 (zdN1 a0 a1) hK [(0,0),(1,1)] h (fun x_l1 h g1 y_l1 h_l1 hx_l1=>?_)
 unfold zt3 at h_l1
 refine g_st ?_
 refine za0 (za1 hG ?_)
 refine za0 ?_
 refine za3 rfl hG h_l1 (fun _ h_l1=>?_) (fun _ h_l1=>?_)
 · refine za4 ?_
   refine za0 (zb5 (za0 ?_))
   obtain ⟨hb2,h_l1⟩:=za2 h_l1
   refine za1 hG ?_
   refine za0 (za1 hG ?_)
   refine za3 rfl hG h_l1 (fun _ h_l1=>?_) (fun _ h_l1=>?_)
   · obtain ⟨hb1,h_l1⟩:=za2 h_l1
     refine za1 hG ?_
     refine za1 hG ?_
     exact zc7 hK [(0,0),(1,3)] h_l1
   refine za4 ?_
   refine za1 hG ?_
   exact zc7 hK [(0,0),(1,1)] h_l1
 refine zc2 ?_
 obtain rfl:=Option.some.inj h_l1
 have hx:=hx_l1 _ rfl
 subst hx
 try dsimp only at h
 exact zc6 hK [(0,1)] g1.2 (by exact h)
attribute [local irreducible] zl9
noncomputable def zp1 (a0:Queue) (a1:Proc):Option (Queue×Proc) :=
 (zl9 a0.converts a1).bind fun v1 =>
 some ({ a0 with converts:=v1.1 },a1)
theorem zam4 (a0:Queue) (a1:Proc) (r:Queue×Proc) (h:zp1 a0 a1=some r):MFn C 107 [.ptr 0 0 0,.ptr 1 0 0] [(0,⟨false,8,(Queue.enc Queue.zero),[Queue.enc a0]⟩),(1,⟨false,3,(Proc.enc Proc.zero),[Proc.enc a1]⟩)] 2 (.tup []) [(0,⟨false,8,(Queue.enc Queue.zero),[Queue.enc r.1]⟩),(1,⟨false,3,(Proc.enc Proc.zero),[Proc.enc r.2]⟩)] 2:=by
 refine zs0 (rl:=[]) zen9 rfl rfl rfl rfl fun E hG hN hK=>?_
 unfold zdm6
 unfold zp1 at h
 refine za1 hG ?_
 obtain ⟨v1,hv1,h⟩:=za5 h
 refine za7 (fun hg=>zam3 a0.converts a1 _ (hv1)) ?_
 exact zC2 [(0,0),(1,1)] h
attribute [local irreducible] zp1
noncomputable def zp2 (a0:Queue) (a1:Proc):Option (Queue×Proc) :=
 (zl9 a0.waits a1).bind fun v1 =>
 some ({ a0 with waits:=v1.1 },a1)
theorem zam5 (a0:Queue) (a1:Proc) (r:Queue×Proc) (h:zp2 a0 a1=some r):MFn C 109 [.ptr 0 0 0,.ptr 1 0 0] [(0,⟨false,8,(Queue.enc Queue.zero),[Queue.enc a0]⟩),(1,⟨false,3,(Proc.enc Proc.zero),[Proc.enc a1]⟩)] 2 (.tup []) [(0,⟨false,8,(Queue.enc Queue.zero),[Queue.enc r.1]⟩),(1,⟨false,3,(Proc.enc Proc.zero),[Proc.enc r.2]⟩)] 2:=by
 refine zs0 (rl:=[]) zeo0 rfl rfl rfl rfl fun E hG hN hK=>?_
 unfold zdm8
 unfold zp2 at h
 refine za1 hG ?_
 obtain ⟨v1,hv1,h⟩:=za5 h
 refine za7 (fun hg=>zam3 a0.waits a1 _ (hv1)) ?_
 exact zC2 [(0,0),(1,1)] h
attribute [local irreducible] zp2
noncomputable def zz9  (j1:Queue×Proc):Option (Queue×(List Hold)×Int×Queue×Proc) :=
 (ze0 j1.1).bind fun v1 =>
 some ({ v1.2 with gen:=(zf7 v1.2.gen) },v1.1,0,{ v1.2 with gen:=(zf7 v1.2.gen) },j1.2)
@[go_sem] def zdN2  (j1:Queue×Proc):St:=⟨[(0,.ptr 0 0 0),(4,.ptr 3 0 0)],[(0,⟨false,8,(Queue.enc Queue.zero),[Queue.enc j1.1]⟩),(1,⟨false,1,[A.any],[[.clo 105 [.ptr 0 0 0,.ptr 2 0 0]],[.clo 107 [.ptr 0 0 0,.ptr 2 0 0]],[.clo 109 [.ptr 0 0 0,.ptr 2 0 0]]]⟩),(2,⟨false,3,(Proc.enc Proc.zero),[Proc.enc j1.2]⟩),(3,⟨false,8,(Queue.enc Queue.zero),[Queue.enc Queue.zero]⟩)],4⟩
noncomputable def zr7 (a0:Queue) (a1:Proc):Option (Queue×(List Hold)×Int×Queue×Proc) :=
 gd (0≤0∧0 < (3:Int)) <|
 (zp0 a0 a1).bind fun v2 =>
 gd (0≤1∧1 < (3:Int)) <|
 (zp1 v2.1 v2.2).bind fun v3 =>
 gd (0≤2∧2 < (3:Int)) <|
 (zp2 v3.1 v3.2).bind fun v4 =>
 zz9 (v4.1,v4.2)
theorem zaq9 (a0:Queue) (a1:Proc) (r:Queue×(List Hold)×Int×Queue×Proc) (h:zr7 a0 a1=some r):MFn C 91 [.ptr 0 0 0,.own 1 0 3] [(0,⟨false,8,(Queue.enc Queue.zero),[Queue.enc a0]⟩),(1,⟨false,1,[A.any],[[.clo 105 [.ptr 0 0 0,.ptr 2 0 0]],[.clo 107 [.ptr 0 0 0,.ptr 2 0 0]],[.clo 109 [.ptr 0 0 0,.ptr 2 0 0]]]⟩),(2,⟨false,3,(Proc.enc Proc.zero),[Proc.enc a1]⟩)] 3 (.tup [.agg (Queue.enc r.1),.sl (r.2.1.map Hold.enc),.int .i64 r.2.2.1]) [(0,⟨false,8,(Queue.enc Queue.zero),[Queue.enc r.2.2.2.1]⟩),(1,⟨false,1,[A.any],[[.clo 105 [.ptr 0 0 0,.ptr 2 0 0]],[.clo 107 [.ptr 0 0 0,.ptr 2 0 0]],[.clo 109 [.ptr 0 0 0,.ptr 2 0 0]]]⟩),(2,⟨false,3,(Proc.enc Proc.zero),[Proc.enc r.2.2.2.2]⟩)] 3:=by
 refine zs0 (rl:=[.agg (Queue.enc r.1),.sl (r.2.1.map Hold.enc),.int .i64 r.2.2.1]) zeo1 rfl rfl rfl rfl fun E hG hN hK=>?_
 unfold zdn8
 unfold zr7 at h
 refine za0 (za1 hG ?_)
 refine za0 (za0 (za1 hG ?_))
 refine zb4 (zdN2) (fun v=>zz9 v=some r) ?_ ?_
 · intro j1 h
   unfold zz9 at h
   refine g_st ?_
   refine za0 (za1 hG ?_)
   obtain ⟨v1,hv1,h⟩:=za5 h
   refine zA5 [(0,0)] [] [0] (zK5 j1.1 _ hv1) rfl rfl ?_
   refine za0 (za1 hG ?_)
   refine za7 (fun hg=>zac4 v1.2.gen) ?_
   refine za0 (za1 hG ?_)
   refine za8 ?_
   exact zC2 [(0,0),(1,1),(2,2)] h
 refine zaB3 5 ?_
 refine zab1 ?_
 refine za0 (za1 hG ?_)
 refine za0 ?_
 refine zax5 rfl hG ?_
 refine za4 ?_
 refine za0 (zb5 (za0 ?_))
 obtain ⟨hb3,h⟩:=za2 h
 refine za1 hG ?_
 refine za1 hG ?_
 obtain ⟨v2,hv2,h⟩:=za5 h
 refine zA5 [(0,0),(1,2)] [] [0,1] (zam2 a0 a1 _ hv2) rfl rfl ?_
 refine za1 hG ?_
 refine zab1 ?_
 refine za0 (za1 hG ?_)
 refine za0 ?_
 refine zax5 rfl hG ?_
 refine za4 ?_
 refine za0 (zb5 (za0 ?_))
 obtain ⟨hb2,h⟩:=za2 h
 refine za1 hG ?_
 refine za1 hG ?_
 obtain ⟨v3,hv3,h⟩:=za5 h
 refine zA5 [(0,0),(1,2)] [] [0,1] (zam4 v2.1 v2.2 _ hv3) rfl rfl ?_
 refine za1 hG ?_
 refine zab1 ?_
 refine za0 (za1 hG ?_)
 refine za0 ?_
 refine zax5 rfl hG ?_
 refine za4 ?_
 refine za0 (zb5 (za0 ?_))
 obtain ⟨hb1,h⟩:=za2 h
 refine za1 hG ?_
 refine za1 hG ?_
 obtain ⟨v4,hv4,h⟩:=za5 h
 refine zA5 [(0,0),(1,2)] [] [0,1] (zam5 v3.1 v3.2 _ hv4) rfl rfl ?_
 refine za1 hG ?_
 refine zab1 ?_
 refine za0 (za1 hG ?_)
 refine za0 ?_
 refine zbd7 rfl hG ?_
 refine zc2 ?_
 exact zc6 hK [(0,0),(1,1),(2,2),(3,3)] (v4.1,v4.2) (by exact h)
attribute [local irreducible] zr7
end Ab
end Go.Proofs.YtfjeceicgfdmjaaGreatDoor
