/-
  Functions of the program,as Lean functions; what the program's code computes is what they say.
-/
import Derived.Test.YtfjeceicgfdmjaaGreatDoorFn2
namespace Go.Proofs.YtfjeceicgfdmjaaGreatDoor
namespace Ab
set_option linter.unusedSimpArgs false
set_option linter.unusedVariables false
set_option maxRecDepth 100000
set_option maxHeartbeats 1000000
attribute [local irreducible] zf4 zd3 zj0 zu2 zu3 zh0 zd8 zA1 zG1 zr2 zs1 zj1 zd7 zh1 zf5 zg8 zl3 zh2 zk8 zj6 zg9 ze5 zm4 zg1 zn6 zo4 zi2 zi4 zj2 zj3 zh5 zh3 zc8 zc4 zn7 zp9 zb7 zc0 zh4 zn8 zl4 zj8 zr4 zw3 zd2 zc1 zj4 zj5 zl5 zC8 zq0 zk2 ze0 zm5 zq1 zk3 zk4 zq2 zf3 zk9
noncomputable def zt6 (a0:List Queue) (a1:Proc) (a2:Atom) (a3:Int):Option ((List Queue)×(List Event)×Int) :=
 (zw3 a0 a2.name).bind fun v1 =>
 (if (!decide (v1.2=0))=true then
  some ([],[],v1.2)
 else
  (zl4 a0).bind fun v2 =>
  (zj4 v2 a1).bind fun v3 =>
  (if ((!v3)&&(decide (8≤(v2.length:Int))))=true then
   some ([],[],4)
  else
   gd (0≤v1.1∧v1.1 < (a0.length:Int)) <|
   (zq2 (a0.getD v1.1.toNat Queue.zero) a1 a2.amount a3).bind fun v4 =>
   (if (!decide (v4.2.2=0))=true then
    some ([],[],v4.2.2)
   else
    (zf3 a0 v1.1 v4.1).bind fun v5 =>
    (zk9 a2.name v4.2.1).bind fun v6 =>
    some (v5,v6,0))))
theorem zaQ1 (a0:List Queue) (a1:Proc) (a2:Atom) (a3:Int) (r:(List Queue)×(List Event)×Int) (h:zt6 a0 a1 a2 a3=some r):PFn C 17 [.sl (a0.map Queue.enc),.agg (Proc.enc a1),.agg (Atom.enc a2),.int .i64 a3] (.tup [.sl (r.1.map Queue.enc),.sl (r.2.1.map Event.enc),.int .i64 r.2.2]):=by
 refine za6 zdU8 rfl fun E hG hN hK=>?_
 unfold zcA7
 unfold zt6 at h
 refine za0 (za1 hG ?_)
 refine za0 (za1 hG ?_)
 obtain ⟨v1,hv1,h⟩:=za5 h
 refine za7 (fun hg=>zbk8 a0 a2.name _ (hv1)) ?_
 refine za0 (za0 (za1 hG ?_))
 refine za3 rfl hG h (fun _ h=>?_) (fun _ h=>?_)
 · refine za0 (za1 hG ?_)
   refine za8 ?_
   exact zb1 h
 refine za4 ?_
 refine za0 (za1 hG ?_)
 obtain ⟨v2,hv2,h⟩:=za5 h
 refine za7 (fun hg=>zY0 a0 _ (hv2)) ?_
 refine za0 (za0 (za1 hG ?_))
 obtain ⟨v3,hv3,h⟩:=za5 h
 refine za7 (fun hg=>zae5 v2 a1 _ (hv3)) ?_
 refine za3 rfl hG h (fun _ h=>?_) (fun _ h=>?_)
 · refine za0 (za1 hG ?_)
   refine za8 ?_
   exact zb1 h
 refine za4 ?_
 refine za0 ?_
 obtain ⟨hb1,h⟩:=za2 h
 refine zX3 ze6 hG ?_
 obtain ⟨v4,hv4,h⟩:=za5 h
 refine zW1 (fun hg=>zaQ0 (a0.getD v1.1.toNat Queue.zero) a1 a2.amount a3 _ (hv4)) ?_
 refine za0 (za0 (za1 hG ?_))
 refine za3 rfl hG h (fun _ h=>?_) (fun _ h=>?_)
 · refine za0 (za1 hG ?_)
   refine za8 ?_
   exact zb1 h
 refine za4 ?_
 refine za0 (zX3 ze6 hG ?_)
 obtain ⟨v5,hv5,h⟩:=za5 h
 refine zW1 (fun hg=>zae6 a0 v1.1 v4.1 _ (hv5)) ?_
 obtain ⟨v6,hv6,h⟩:=za5 h
 refine zax6 [] [] [] (zaC3 a2.name v4.2.1 _ hv6) rfl rfl ?_
 refine za8 ?_
 exact zb1 h
attribute [local irreducible] zt6
noncomputable def zK6  (j1:(List Atom)):Option ((List Atom)) :=
 some j1
@[go_sem] def zdH3  (j1:(List Atom)):St:=⟨[(5,.own 0 0 j1.length)],[(0,⟨false,3,(Atom.enc Atom.zero),j1.map Atom.enc⟩)],1⟩
noncomputable def zw7 (a0:List Queue) (a1:Proc) (g1:Int×(List Atom)):Option ((Int×(List Atom))⊕(((List Atom)))) :=
 (if (decide (g1.1 < (a0.length:Int)))=true then
  gd (0≤g1.1∧g1.1 < (a0.length:Int)) <|
  (zh2 (a0.getD g1.1.toNat Queue.zero) a1).bind fun v1 =>
  (if (!decide (v1={ Amount.zero with  }))=true then
   gd (g1.2.length+1≤4294967296) <|
   some (.inl ((IntKind.i64.wrap (g1.1+1)),(g1.2++[(⟨((a0.getD g1.1.toNat Queue.zero).resource).name,v1⟩:Atom)])))
  else
   some (.inl ((IntKind.i64.wrap (g1.1+1)),g1.2)))
 else
  some (.inr g1.2))
@[go_sem] def zdH4 (a0:List Queue) (a1:Proc) (g1:Int×(List Atom)):St:=⟨[(3,.ptr 0 0 0),(5,.own 1 0 g1.2.length),(9,.sl (a0.map Queue.enc)),(10,.int .i64 (a0.length:Int)),(11,.int .i64 g1.1)],[(0,⟨false,3,(Proc.enc Proc.zero),[Proc.enc a1]⟩),(1,⟨false,3,(Atom.enc Atom.zero),g1.2.map Atom.enc⟩)],2⟩
noncomputable def zm6 (a0:List Queue) (a1:Proc):Option ((List Atom)) :=
 (zb6 (zw7 a0 a1) (0,[])).bind (fun z=>zK6 z)
theorem zay0 (a0:List Queue) (a1:Proc) (r:(List Atom)) (h:zm6 a0 a1=some r):PFn C 51 [.sl (a0.map Queue.enc),.agg (Proc.enc a1)] (.sl (r.map Atom.enc)):=by
 refine za6 zdU9 rfl fun E hG hN hK=>?_
 unfold zcB8
 unfold zm6 at h
 refine za0 (za1 hG ?_)
 refine za0 (za1 hG ?_)
 refine za0 (za0 (za1 hG ?_))
 refine zb4 (zdH3) (fun v=>zK6 v=some r) ?_ ?_
 · intro j1 h
   unfold zK6 at h
   refine g_st ?_
   refine za0 (za1 hG ?_)
   refine za8 ?_
   exact zb1 h
 refine zd6 (zdH4 a0 a1) hK [(0,0),(1,1)] h (fun x_l1 h g1 y_l1 h_l1 hx_l1=>?_)
 unfold zw7 at h_l1
 refine g_st ?_
 refine za0 (za1 hG ?_)
 refine za0 ?_
 refine za3 rfl hG h_l1 (fun _ h_l1=>?_) (fun _ h_l1=>?_)
 · refine za4 ?_
   refine za0 (zb5 (za0 ?_))
   obtain ⟨hb2,h_l1⟩:=za2 h_l1
   refine za1 hG ?_
   refine za0 (za1 hG ?_)
   obtain ⟨v1,hv1,h_l1⟩:=za5 h_l1
   refine za7 (fun hg=>zK8 (a0.getD g1.1.toNat Queue.zero) a1 _ (hv1)) ?_
   refine za0 (za1 hG ?_)
   refine za3 rfl hG h_l1 (fun _ h_l1=>?_) (fun _ h_l1=>?_)
   · obtain ⟨hb1,h_l1⟩:=za2 h_l1
     refine za1 hG ?_
     refine za1 hG ?_
     exact zc7 hK [(0,0),(1,4)] h_l1
   refine za4 ?_
   refine za1 hG ?_
   exact zc7 hK [(0,0),(1,1)] h_l1
 refine zc2 ?_
 obtain rfl:=Option.some.inj h_l1
 have hx:=hx_l1 _ rfl
 subst hx
 try dsimp only at h
 exact zc6 hK [(0,1)] g1.2 (by exact h)
attribute [local irreducible] zm6
noncomputable def zq3 :Option (Bool) :=
 (zu3 [{ Resource.zero with name:=(⟨#[97]⟩:ByteArray),kind:=1,units:=1 }]).bind fun v1 =>
 (zs1 0).bind fun v2 =>
 (zt6 v1.1 v2 (⟨(⟨#[97]⟩:ByteArray),{ Amount.zero with mode:=5 }⟩:Atom) 0).bind fun v3 =>
 (zm6 v3.1 v2).bind fun v4 =>
 gd ((((decide (v1.2=0))&&(decide (v3.2.2=0)))&&(decide ((v3.2.1.length:Int)=1)))=true→0≤0∧0 < (v3.2.1.length:Int)) <|
 gd ((((((decide (v1.2=0))&&(decide (v3.2.2=0)))&&(decide ((v3.2.1.length:Int)=1)))&&(decide ((v3.2.1.getD 0 Event.zero).kind=1)))&&(decide ((v4.length:Int)=1)))=true→0≤0∧0 < (v4.length:Int)) <|
 ((if ((((((decide (v1.2=0))&&(decide (v3.2.2=0)))&&(decide ((v3.2.1.length:Int)=1)))&&(decide ((v3.2.1.getD 0 Event.zero).kind=1)))&&(decide ((v4.length:Int)=1)))&&(decide ((v4.getD 0 Atom.zero)=(⟨(⟨#[97]⟩:ByteArray),{ Amount.zero with mode:=5 }⟩:Atom))))=true then zr4 v3.1 (⟨#[97]⟩:ByteArray) else some (0))).bind fun v5 =>
 ((if (((((((decide (v1.2=0))&&(decide (v3.2.2=0)))&&(decide ((v3.2.1.length:Int)=1)))&&(decide ((v3.2.1.getD 0 Event.zero).kind=1)))&&(decide ((v4.length:Int)=1)))&&(decide ((v4.getD 0 Atom.zero)=(⟨(⟨#[97]⟩:ByteArray),{ Amount.zero with mode:=5 }⟩:Atom))))&&(decide (v5=0)))=true then zj8 v3.1 else some (false))).bind fun v6 =>
 some ((((((((decide (v1.2=0))&&(decide (v3.2.2=0)))&&(decide ((v3.2.1.length:Int)=1)))&&(decide ((v3.2.1.getD 0 Event.zero).kind=1)))&&(decide ((v4.length:Int)=1)))&&(decide ((v4.getD 0 Atom.zero)=(⟨(⟨#[97]⟩:ByteArray),{ Amount.zero with mode:=5 }⟩:Atom))))&&(decide (v5=0)))&&v6)
theorem zal8  (r:Bool) (h:zq3=some r):PFn C 14 [] (.bool r):=by
 refine za6 zdV0 rfl fun E hG hN hK=>?_
 unfold zcC6
 unfold zq3 at h
 refine za0 (za1 hG ?_)
 refine za0 (za1 hG ?_)
 obtain ⟨v1,hv1,h⟩:=za5 h
 refine za7 (fun hg=>PFn.unfull (zbe1 [{ Resource.zero with name:=(⟨#[97]⟩:ByteArray),kind:=1,units:=1 }] _ (hv1))) ?_
 refine za0 (za1 hG ?_)
 obtain ⟨v2,hv2,h⟩:=za5 h
 refine za7 (fun hg=>zbe2 0 _ (hv2)) ?_
 refine za0 (za1 hG ?_)
 refine za0 (za1 hG ?_)
 obtain ⟨v3,hv3,h⟩:=za5 h
 have hc_v3:=zaQ1 v1.1 v2 (⟨(⟨#[97]⟩:ByteArray),{ Amount.zero with mode:=5 }⟩:Atom) 0 _ (hv3)
 have el_v3:∀ x:Atom,Atom.enc x=[A.str x.name,A.int .i64 x.amount.mode,A.int .i64 x.amount.units]:=fun x=>rfl
 rw [el_v3] at hc_v3
 dsimp only at hc_v3
 refine za7 (fun hg=>by exact hc_v3) ?_
 refine za0 (za1 hG ?_)
 obtain ⟨v4,hv4,h⟩:=za5 h
 refine za7 (fun hg=>zay0 v3.1 v2 _ (hv4)) ?_
 refine za0 ?_
 obtain ⟨hb1,h⟩:=za2 h
 obtain ⟨hb2,h⟩:=za2 h
 refine zo8 ze6 hG ?_
 obtain ⟨v5,hv5,h⟩:=za5 h
 refine zg4 (fun hg=>zar9 v3.1 (⟨#[97]⟩:ByteArray) _ (zv7 hg hv5)) ?_
 obtain ⟨v6,hv6,h⟩:=za5 h
 refine zg4 (fun hg=>zO1 v3.1 _ (zv7 hg hv6)) ?_
 refine za8 ?_
 exact zb1 h
attribute [local irreducible] zq3
noncomputable def zG8  (j1:Unit):Option (Bool) :=
 some true
@[go_sem] def zdH5  (j1:Unit):St:=⟨[],[],0⟩
noncomputable def zU0 (a0:List Hold) (a1:List Hold) (g1:Int):Option ((Int)⊕((Unit)⊕(Bool))) :=
 (if (decide (g1 < (a0.length:Int)))=true then
  gd (0≤g1∧g1 < (a0.length:Int)) <|
  gd (0≤g1∧g1 < (a1.length:Int)) <|
  (if (!decide ((a0.getD g1.toNat Hold.zero)=(a1.getD g1.toNat Hold.zero)))=true then
   some (.inr (.inr false))
  else
   some (.inl (IntKind.i64.wrap (g1+1))))
 else
  some (.inr (.inl ())))
@[go_sem] def zdH6 (a0:List Hold) (a1:List Hold) (g1:Int):St:=⟨[(0,.sl (a0.map Hold.enc)),(1,.sl (a1.map Hold.enc)),(5,.int .i64 g1)],[],0⟩
noncomputable def zk5 (a0:List Hold) (a1:List Hold):Option (Bool) :=
 (if (!decide ((a0.length:Int)=(a1.length:Int)))=true then
  some false
 else
  (zb6 (zU0 a0 a1) 0).bind (fun | .inl z=>zG8 z | .inr z=>some z))
theorem zau6 (a0:List Hold) (a1:List Hold) (r:Bool) (h:zk5 a0 a1=some r):PFn C 29 [.sl (a0.map Hold.enc),.sl (a1.map Hold.enc)] (.bool r):=by
 refine za6 zdV1 rfl fun E hG hN hK=>?_
 unfold zcD6
 unfold zk5 at h
 refine za0 (za1 hG ?_)
 refine za0 (za0 (za1 hG ?_))
 refine za3 rfl hG h (fun _ h=>?_) (fun _ h=>?_)
 · refine za0 (za1 hG ?_)
   refine za8 ?_
   exact zb1 h
 refine za4 ?_
 refine za0 (za0 (za1 hG ?_))
 refine zb4 (zdH5) (fun v=>zG8 v=some r) ?_ ?_
 · intro j1 h
   unfold zG8 at h
   refine g_st ?_
   refine za0 (za1 hG ?_)
   refine za8 ?_
   exact zb1 h
 refine zd6 (zdH6 a0 a1) hK [] h (fun x_l1 h g1 y_l1 h_l1 hx_l1=>?_)
 unfold zU0 at h_l1
 refine g_st ?_
 refine za0 (za0 (za1 hG ?_))
 refine za3 rfl hG h_l1 (fun _ h_l1=>?_) (fun _ h_l1=>?_)
 · refine za4 ?_
   refine za0 (zb5 (za0 ?_))
   obtain ⟨hb1,h_l1⟩:=za2 h_l1
   obtain ⟨hb2,h_l1⟩:=za2 h_l1
   refine zo8 ze6 hG ?_
   refine za3 rfl hG h_l1 (fun _ h_l1=>?_) (fun _ h_l1=>?_)
   · refine za0 (za1 hG ?_)
     refine za8 ?_
     obtain rfl:=Option.some.inj h_l1
     have hx:=hx_l1 _ rfl
     subst hx
     try dsimp only at h
     exact zb1 h
   refine za4 ?_
   refine za1 hG ?_
   exact zc7 hK [] h_l1
 refine zc2 ?_
 obtain rfl:=Option.some.inj h_l1
 have hx:=hx_l1 _ rfl
 subst hx
 try dsimp only at h
 exact zc6 hK [] () (by exact h)
attribute [local irreducible] zk5
noncomputable def zG9  (j1:Unit):Option (Bool) :=
 some true
@[go_sem] def zdH7  (j1:Unit):St:=⟨[],[],0⟩
noncomputable def zU1 (a0:List Wait) (a1:List Wait) (g1:Int):Option ((Int)⊕((Unit)⊕(Bool))) :=
 (if (decide (g1 < (a0.length:Int)))=true then
  gd (0≤g1∧g1 < (a0.length:Int)) <|
  gd (0≤g1∧g1 < (a1.length:Int)) <|
  (if (!decide ((a0.getD g1.toNat Wait.zero)=(a1.getD g1.toNat Wait.zero)))=true then
   some (.inr (.inr false))
  else
   some (.inl (IntKind.i64.wrap (g1+1))))
 else
  some (.inr (.inl ())))
@[go_sem] def zdH8 (a0:List Wait) (a1:List Wait) (g1:Int):St:=⟨[(0,.sl (a0.map Wait.enc)),(1,.sl (a1.map Wait.enc)),(5,.int .i64 g1)],[],0⟩
noncomputable def zi5 (a0:List Wait) (a1:List Wait):Option (Bool) :=
 (if (!decide ((a0.length:Int)=(a1.length:Int)))=true then
  some false
 else
  (zb6 (zU1 a0 a1) 0).bind (fun | .inl z=>zG9 z | .inr z=>some z))
theorem zY1 (a0:List Wait) (a1:List Wait) (r:Bool) (h:zi5 a0 a1=some r):PFn C 64 [.sl (a0.map Wait.enc),.sl (a1.map Wait.enc)] (.bool r):=by
 refine za6 zdV2 rfl fun E hG hN hK=>?_
 unfold zcE6
 unfold zi5 at h
 refine za0 (za1 hG ?_)
 refine za0 (za0 (za1 hG ?_))
 refine za3 rfl hG h (fun _ h=>?_) (fun _ h=>?_)
 · refine za0 (za1 hG ?_)
   refine za8 ?_
   exact zb1 h
 refine za4 ?_
 refine za0 (za0 (za1 hG ?_))
 refine zb4 (zdH7) (fun v=>zG9 v=some r) ?_ ?_
 · intro j1 h
   unfold zG9 at h
   refine g_st ?_
   refine za0 (za1 hG ?_)
   refine za8 ?_
   exact zb1 h
 refine zd6 (zdH8 a0 a1) hK [] h (fun x_l1 h g1 y_l1 h_l1 hx_l1=>?_)
 unfold zU1 at h_l1
 refine g_st ?_
 refine za0 (za0 (za1 hG ?_))
 refine za3 rfl hG h_l1 (fun _ h_l1=>?_) (fun _ h_l1=>?_)
 · refine za4 ?_
   refine za0 (zb5 (za0 ?_))
   obtain ⟨hb1,h_l1⟩:=za2 h_l1
   obtain ⟨hb2,h_l1⟩:=za2 h_l1
   refine zo8 ze6 hG ?_
   refine za3 rfl hG h_l1 (fun _ h_l1=>?_) (fun _ h_l1=>?_)
   · refine za0 (za1 hG ?_)
     refine za8 ?_
     obtain rfl:=Option.some.inj h_l1
     have hx:=hx_l1 _ rfl
     subst hx
     try dsimp only at h
     exact zb1 h
   refine za4 ?_
   refine za1 hG ?_
   exact zc7 hK [] h_l1
 refine zc2 ?_
 obtain rfl:=Option.some.inj h_l1
 have hx:=hx_l1 _ rfl
 subst hx
 try dsimp only at h
 exact zc6 hK [] () (by exact h)
attribute [local irreducible] zi5
noncomputable def zx3 (a0:Queue) (a1:Queue):Option (Bool) :=
 ((if ((decide (a0.resource=a1.resource))&&(decide (a0.gen=a1.gen)))=true then zk5 a0.holds a1.holds else some (false))).bind fun v1 =>
 ((if (((decide (a0.resource=a1.resource))&&(decide (a0.gen=a1.gen)))&&v1)=true then zi5 a0.converts a1.converts else some (false))).bind fun v2 =>
 ((if ((((decide (a0.resource=a1.resource))&&(decide (a0.gen=a1.gen)))&&v1)&&v2)=true then zi5 a0.waits a1.waits else some (false))).bind fun v3 =>
 some (((((decide (a0.resource=a1.resource))&&(decide (a0.gen=a1.gen)))&&v1)&&v2)&&v3)
theorem zaW2 (a0:Queue) (a1:Queue) (r:Bool) (h:zx3 a0 a1=some r):PFn C 25 [.agg (Queue.enc a0),.agg (Queue.enc a1)] (.bool r):=by
 refine za6 zdV3 rfl fun E hG hN hK=>?_
 unfold zcE9
 unfold zx3 at h
 refine za0 (za1 hG ?_)
 refine za0 (za1 hG ?_)
 obtain ⟨v1,hv1,h⟩:=za5 h
 refine za7 (fun hg=>zau6 a0.holds a1.holds _ (zv7 hg hv1)) ?_
 obtain ⟨v2,hv2,h⟩:=za5 h
 refine za7 (fun hg=>zY1 a0.converts a1.converts _ (zv7 hg hv2)) ?_
 obtain ⟨v3,hv3,h⟩:=za5 h
 refine za7 (fun hg=>zY1 a0.waits a1.waits _ (zv7 hg hv3)) ?_
 refine za8 ?_
 exact zb1 h
attribute [local irreducible] zx3
noncomputable def zL4  (j1:Unit):Option (Bool) :=
 some true
@[go_sem] def zdH9  (j1:Unit):St:=⟨[],[],0⟩
noncomputable def zz2 (a0:List Queue) (a1:List Queue) (g1:Int):Option ((Int)⊕((Unit)⊕(Bool))) :=
 (if (decide (g1 < (a0.length:Int)))=true then
  gd (0≤g1∧g1 < (a0.length:Int)) <|
  gd (0≤g1∧g1 < (a1.length:Int)) <|
  (zx3 (a0.getD g1.toNat Queue.zero) (a1.getD g1.toNat Queue.zero)).bind fun v1 =>
  (if (!v1)=true then
   some (.inr (.inr false))
  else
   some (.inl (IntKind.i64.wrap (g1+1))))
 else
  some (.inr (.inl ())))
@[go_sem] def zdI0 (a0:List Queue) (a1:List Queue) (g1:Int):St:=⟨[(0,.sl (a0.map Queue.enc)),(1,.sl (a1.map Queue.enc)),(5,.int .i64 g1)],[],0⟩
noncomputable def zr5 (a0:List Queue) (a1:List Queue):Option (Bool) :=
 (if (!decide ((a0.length:Int)=(a1.length:Int)))=true then
  some false
 else
  (zb6 (zz2 a0 a1) 0).bind (fun | .inl z=>zL4 z | .inr z=>some z))
theorem zas0 (a0:List Queue) (a1:List Queue) (r:Bool) (h:zr5 a0 a1=some r):PFn C 15 [.sl (a0.map Queue.enc),.sl (a1.map Queue.enc)] (.bool r):=by
 refine za6 zdV4 rfl fun E hG hN hK=>?_
 unfold zcF9
 unfold zr5 at h
 refine za0 (za1 hG ?_)
 refine za0 (za0 (za1 hG ?_))
 refine za3 rfl hG h (fun _ h=>?_) (fun _ h=>?_)
 · refine za0 (za1 hG ?_)
   refine za8 ?_
   exact zb1 h
 refine za4 ?_
 refine za0 (za0 (za1 hG ?_))
 refine zb4 (zdH9) (fun v=>zL4 v=some r) ?_ ?_
 · intro j1 h
   unfold zL4 at h
   refine g_st ?_
   refine za0 (za1 hG ?_)
   refine za8 ?_
   exact zb1 h
 refine zd6 (zdI0 a0 a1) hK [] h (fun x_l1 h g1 y_l1 h_l1 hx_l1=>?_)
 unfold zz2 at h_l1
 refine g_st ?_
 refine za0 (za0 (za1 hG ?_))
 refine za3 rfl hG h_l1 (fun _ h_l1=>?_) (fun _ h_l1=>?_)
 · refine za4 ?_
   refine za0 (zb5 (za0 ?_))
   obtain ⟨hb1,h_l1⟩:=za2 h_l1
   obtain ⟨hb2,h_l1⟩:=za2 h_l1
   refine zo8 ze6 hG ?_
   obtain ⟨v1,hv1,h_l1⟩:=za5 h_l1
   refine zg4 (fun hg=>zaW2 (a0.getD g1.toNat Queue.zero) (a1.getD g1.toNat Queue.zero) _ (hv1)) ?_
   refine za3 rfl hG h_l1 (fun _ h_l1=>?_) (fun _ h_l1=>?_)
   · refine za0 (za1 hG ?_)
     refine za8 ?_
     obtain rfl:=Option.some.inj h_l1
     have hx:=hx_l1 _ rfl
     subst hx
     try dsimp only at h
     exact zb1 h
   refine za4 ?_
   refine za1 hG ?_
   exact zc7 hK [] h_l1
 refine zc2 ?_
 obtain rfl:=Option.some.inj h_l1
 have hx:=hx_l1 _ rfl
 subst hx
 try dsimp only at h
 exact zc6 hK [] () (by exact h)
attribute [local irreducible] zr5
noncomputable def zR5  (j1:Unit):Option (Bool) :=
 some true
@[go_sem] def zdI1  (j1:Unit):St:=⟨[],[],0⟩
noncomputable def zB1 (a0:List Queue) (g1:Int):Option ((Int)⊕((Unit)⊕(Bool))) :=
 (if (decide (g1 < (a0.length:Int)))=true then
  gd (0≤g1∧g1 < (a0.length:Int)) <|
  gd ((!(decide (20 < (((a0.getD g1.toNat Queue.zero).holds).length:Int))))=true→0≤g1∧g1 < (a0.length:Int)) <|
  gd ((!((decide (20 < (((a0.getD g1.toNat Queue.zero).holds).length:Int)))||(decide (20 < (((a0.getD g1.toNat Queue.zero).converts).length:Int)))))=true→0≤g1∧g1 < (a0.length:Int)) <|
  (if (((decide (20 < (((a0.getD g1.toNat Queue.zero).holds).length:Int)))||(decide (20 < (((a0.getD g1.toNat Queue.zero).converts).length:Int))))||(decide (20 < (((a0.getD g1.toNat Queue.zero).waits).length:Int))))=true then
   some (.inr (.inr false))
  else
   some (.inl (IntKind.i64.wrap (g1+1))))
 else
  some (.inr (.inl ())))
@[go_sem] def zdI2 (a0:List Queue) (g1:Int):St:=⟨[(0,.sl (a0.map Queue.enc)),(3,.int .i64 g1)],[],0⟩
noncomputable def zt7 (a0:List Queue):Option (Bool) :=
 (if (decide (20 < (a0.length:Int)))=true then
  some false
 else
  (zb6 (zB1 a0) 0).bind (fun | .inl z=>zR5 z | .inr z=>some z))
theorem zaQ2 (a0:List Queue) (r:Bool) (h:zt7 a0=some r):PFn C 16 [.sl (a0.map Queue.enc)] (.bool r):=by
 refine za6 zdV5 rfl fun E hG hN hK=>?_
 unfold zcG9
 unfold zt7 at h
 refine za0 (za1 hG ?_)
 refine za0 (za0 (za1 hG ?_))
 refine za3 rfl hG h (fun _ h=>?_) (fun _ h=>?_)
 · refine za0 (za1 hG ?_)
   refine za8 ?_
   exact zb1 h
 refine za4 ?_
 refine za0 (za0 (za1 hG ?_))
 refine zb4 (zdI1) (fun v=>zR5 v=some r) ?_ ?_
 · intro j1 h
   unfold zR5 at h
   refine g_st ?_
   refine za0 (za1 hG ?_)
   refine za8 ?_
   exact zb1 h
 refine zd6 (zdI2 a0) hK [] h (fun x_l1 h g1 y_l1 h_l1 hx_l1=>?_)
 unfold zB1 at h_l1
 refine g_st ?_
 refine za0 (za0 (za1 hG ?_))
 refine za3 rfl hG h_l1 (fun _ h_l1=>?_) (fun _ h_l1=>?_)
 · refine za4 ?_
   refine za0 (zb5 (za0 ?_))
   obtain ⟨hb1,h_l1⟩:=za2 h_l1
   obtain ⟨hb2,h_l1⟩:=za2 h_l1
   obtain ⟨hb3,h_l1⟩:=za2 h_l1
   refine za1 hG ?_
   refine za3 rfl hG h_l1 (fun _ h_l1=>?_) (fun _ h_l1=>?_)
   · refine za0 (za1 hG ?_)
     refine za8 ?_
     obtain rfl:=Option.some.inj h_l1
     have hx:=hx_l1 _ rfl
     subst hx
     try dsimp only at h
     exact zb1 h
   refine za4 ?_
   refine za1 hG ?_
   exact zc7 hK [] h_l1
 refine zc2 ?_
 obtain rfl:=Option.some.inj h_l1
 have hx:=hx_l1 _ rfl
 subst hx
 try dsimp only at h
 exact zc6 hK [] () (by exact h)
attribute [local irreducible] zt7
def ze1 (a0:Proc):Bool :=
 ((((((decide (0≤a0.site))&&(decide (a0.site < 4)))&&(decide (1≤a0.inc)))&&(decide (a0.inc≤99)))&&(decide (1≤a0.num)))&&(decide (a0.num≤999)))
theorem zM0 (a0:Proc):PFn C 97 [.agg (Proc.enc a0)] (.bool (ze1 a0)):=by
 generalize h:ze1 a0=r
 refine za6 zdV6 rfl fun E hG hN hK=>?_
 unfold zcH2
 unfold ze1 at h
 refine za0 (za1 hG ?_)
 refine za0 (za1 hG ?_)
 refine za8 ?_
 exact ze9 h
def zi6 (a0:Int):Bool :=
 ((decide (1≤a0))&&(decide (a0≤5)))
theorem zB2 (a0:Int):PFn C 143 [.int .i64 a0] (.bool (zi6 a0)):=by
 generalize h:zi6 a0=r
 refine za6 zdV7 rfl fun E hG hN hK=>?_
 unfold zcH5
 unfold zi6 at h
 refine za0 (za1 hG ?_)
 refine za0 (za1 hG ?_)
 refine za8 ?_
 exact ze9 h
def zg2 (a0:Resource) (a1:Amount):Bool :=
 (if (!(zn4 a0))=true then
  false
 else
  (if (decide (a0.kind=1))=true then
   ((zi6 a1.mode)&&(decide (a1.units=0)))
  else
   (((decide (a1.mode=0))&&(decide (1≤a1.units)))&&(decide (a1.units≤a0.units)))))
theorem zL0 (a0:Resource) (a1:Amount):PFn C 98 [.agg (Resource.enc a0),.agg (Amount.enc a1)] (.bool (zg2 a0 a1)):=by
 generalize h:zg2 a0 a1=r
 refine za6 zdV8 rfl fun E hG hN hK=>?_
 unfold zcI2
 unfold zg2 at h
 refine za0 (za1 hG ?_)
 refine za0 (za0 (za1 hG ?_))
 refine za7 (fun hg=>zE0 a0) ?_
 refine za3 rfl hG h (fun _ h=>?_) (fun _ h=>?_)
 · refine za0 (za1 hG ?_)
   refine za8 ?_
   exact ze9 h
 refine za4 ?_
 refine za0 (za0 (za1 hG ?_))
 refine za3 rfl hG h (fun _ h=>?_) (fun _ h=>?_)
 · refine za0 (za1 hG ?_)
   refine za7 (fun hg=>zB2 a1.mode) ?_
   refine za8 ?_
   exact ze9 h
 refine za4 ?_
 refine za0 (za1 hG ?_)
 refine za8 ?_
 exact ze9 h
def zq4 (a0:Int) (a1:Int):Int :=
 (if (decide (a0 < a1))=true then
  (-1)
 else
  (if (decide (a1 < a0))=true then
   1
  else
   0))
theorem zY2 (a0:Int) (a1:Int):PFn C 111 [.int .i64 a0,.int .i64 a1] (.int .i64 (zq4 a0 a1)):=by
 generalize h:zq4 a0 a1=r
 refine za6 zdV9 rfl fun E hG hN hK=>?_
 unfold zcI9
 unfold zq4 at h
 refine za0 (za1 hG ?_)
 refine za0 (za0 (za1 hG ?_))
 refine za3 rfl hG h (fun _ h=>?_) (fun _ h=>?_)
 · refine za0 (za1 hG ?_)
   refine za8 ?_
   exact ze9 h
 refine za4 ?_
 refine za0 (za0 (za1 hG ?_))
 refine za3 rfl hG h (fun _ h=>?_) (fun _ h=>?_)
 · refine za0 (za1 hG ?_)
   refine za8 ?_
   exact ze9 h
 refine za4 ?_
 refine za0 (za1 hG ?_)
 refine za8 ?_
 exact ze9 h
def zi0 (a0:Proc) (a1:Proc):Int :=
 (if (!decide ((zq4 a0.site a1.site)=0))=true then
  (zq4 a0.site a1.site)
 else
  (if (!decide ((zq4 a0.inc a1.inc)=0))=true then
   (zq4 a0.inc a1.inc)
  else
   (zq4 a0.num a1.num)))
theorem zH0 (a0:Proc) (a1:Proc):PFn C 68 [.agg (Proc.enc a0),.agg (Proc.enc a1)] (.int .i64 (zi0 a0 a1)):=by
 generalize h:zi0 a0 a1=r
 refine za6 zdW0 rfl fun E hG hN hK=>?_
 unfold zcJ8
 unfold zi0 at h
 refine za0 (za1 hG ?_)
 refine za0 (za0 (za1 hG ?_))
 refine za7 (fun hg=>zY2 a0.site a1.site) ?_
 refine za0 (za1 hG ?_)
 refine za3 rfl hG h (fun _ h=>?_) (fun _ h=>?_)
 · refine za0 (za1 hG ?_)
   refine za8 ?_
   exact ze9 h
 refine za4 ?_
 refine za0 (za0 (za1 hG ?_))
 refine za7 (fun hg=>zY2 a0.inc a1.inc) ?_
 refine za0 (za1 hG ?_)
 refine za3 rfl hG h (fun _ h=>?_) (fun _ h=>?_)
 · refine za0 (za1 hG ?_)
   refine za8 ?_
   exact ze9 h
 refine za4 ?_
 refine za0 (za1 hG ?_)
 refine za7 (fun hg=>zY2 a0.num a1.num) ?_
 refine za8 ?_
 exact ze9 h
noncomputable def zD0  (j1:(List Amount)):Option ((List Amount)) :=
 some j1
@[go_sem] def zdI3  (j1:(List Amount)):St:=⟨[(3,.own 0 0 j1.length)],[(0,⟨false,2,(Amount.enc Amount.zero),j1.map Amount.enc⟩)],1⟩
noncomputable def zy5 (a0:List Hold) (g1:Int×(List Amount)):Option ((Int×(List Amount))⊕(((List Amount)))) :=
 (if (decide (g1.1 < (a0.length:Int)))=true then
  gd (0≤g1.1∧g1.1 < (a0.length:Int)) <|
  gd (g1.2.length+1≤4294967296) <|
  some (.inl ((IntKind.i64.wrap (g1.1+1)),(g1.2++[(a0.getD g1.1.toNat Hold.zero).amount])))
 else
  some (.inr g1.2))
@[go_sem] def zdI4 (a0:List Hold) (g1:Int×(List Amount)):St:=⟨[(0,.sl (a0.map Hold.enc)),(3,.own 0 0 g1.2.length),(4,.int .i64 g1.1)],[(0,⟨false,2,(Amount.enc Amount.zero),g1.2.map Amount.enc⟩)],1⟩
noncomputable def zo5 (a0:List Hold):Option ((List Amount)) :=
 (zb6 (zy5 a0) (0,[])).bind (fun z=>zD0 z)
theorem zaC4 (a0:List Hold) (r:(List Amount)) (h:zo5 a0=some r):PFn C 184 [.sl (a0.map Hold.enc)] (.sl (r.map Amount.enc)):=by
 refine za6 zdW1 rfl fun E hG hN hK=>?_
 unfold zcK6
 unfold zo5 at h
 refine za0 (za1 hG ?_)
 refine za0 (za1 hG ?_)
 refine za0 (za0 (za1 hG ?_))
 refine zb4 (zdI3) (fun v=>zD0 v=some r) ?_ ?_
 · intro j1 h
   unfold zD0 at h
   refine g_st ?_
   refine za0 (za1 hG ?_)
   refine za8 ?_
   exact zb1 h
 refine zd6 (zdI4 a0) hK [(0,0)] h (fun x_l1 h g1 y_l1 h_l1 hx_l1=>?_)
 unfold zy5 at h_l1
 refine g_st ?_
 refine za0 (za0 (za1 hG ?_))
 refine za3 rfl hG h_l1 (fun _ h_l1=>?_) (fun _ h_l1=>?_)
 · refine za4 ?_
   refine za0 (zb5 ?_)
   obtain ⟨hb1,h_l1⟩:=za2 h_l1
   obtain ⟨hb2,h_l1⟩:=za2 h_l1
   refine za1 hG ?_
   refine za1 hG ?_
   exact zc7 hK [(0,1)] h_l1
 refine zc2 ?_
 obtain rfl:=Option.some.inj h_l1
 have hx:=hx_l1 _ rfl
 subst hx
 try dsimp only at h
 exact zc6 hK [(0,0)] g1.2 (by exact h)
attribute [local irreducible] zo5
def zc5 (a0:Amount):Bool :=
 (decide (a0={ Amount.zero with  }))
theorem zq5 (a0:Amount):PFn C 30 [.agg (Amount.enc a0)] (.bool (zc5 a0)):=by
 generalize h:zc5 a0=r
 refine za6 zdW2 rfl fun E hG hN hK=>?_
 unfold zcK9
 unfold zc5 at h
 refine za0 (za1 hG ?_)
 refine za0 (za1 hG ?_)
 refine za8 ?_
 exact ze9 h
def ze7 (a0:Resource) (a1:Amount):Bool :=
 ((zn4 a0)&&((zc5 a1)||(zg2 a0 a1)))
theorem zM1 (a0:Resource) (a1:Amount):PFn C 145 [.agg (Resource.enc a0),.agg (Amount.enc a1)] (.bool (ze7 a0 a1)):=by
 generalize h:ze7 a0 a1=r
 refine za6 zdW3 rfl fun E hG hN hK=>?_
 unfold zcL2
 unfold ze7 at h
 refine za0 (za1 hG ?_)
 refine za0 (za1 hG ?_)
 refine za7 (fun hg=>zE0 a0) ?_
 refine za7 (fun hg=>zq5 a1) ?_
 refine za7 (fun hg=>zL0 a0 a1) ?_
 refine za8 ?_
 exact ze9 h
def zo9 (a0:Int) (a1:Int):Bool :=
 (if ((((!(zi6 a0))||(!(zi6 a1)))||(decide (a0=5)))||(decide (a1=5)))=true then
  false
 else
  (((decide (a0=1))||(decide (a1=1)))||((decide (a0=a1))&&(!decide (a0=4)))))
theorem zaq4 (a0:Int) (a1:Int):PFn C 191 [.int .i64 a0,.int .i64 a1] (.bool (zo9 a0 a1)):=by
 generalize h:zo9 a0 a1=r
 refine za6 zdW4 rfl fun E hG hN hK=>?_
 unfold zcL7
 unfold zo9 at h
 refine za0 (za1 hG ?_)
 refine za0 (za0 (za1 hG ?_))
 refine za7 (fun hg=>zB2 a0) ?_
 refine za7 (fun hg=>zB2 a1) ?_
 refine za3 rfl hG h (fun _ h=>?_) (fun _ h=>?_)
 · refine za0 (za1 hG ?_)
   refine za8 ?_
   exact ze9 h
 refine za4 ?_
 refine za0 (za1 hG ?_)
 refine za8 ?_
 exact ze9 h
noncomputable def zE5  (j1:Unit):Option (Bool) :=
 some true
@[go_sem] def zdI5  (j1:Unit):St:=⟨[],[],0⟩
noncomputable def zz1 (g1:Int×Int) (j2:Unit):Option ((Int×Int)⊕((Unit)⊕(Bool))) :=
 some (.inl (g1.1,(IntKind.i64.wrap (g1.2+1))))
@[go_sem] def zdI6 (a0:Resource) (a1:List Amount) (g1:Int×Int) (j2:Unit):St:=⟨[(1,.sl (a1.map Amount.enc)),(2,.ptr 0 0 0),(5,.int .i64 g1.1),(6,.int .i64 g1.2)],[(0,⟨false,4,(Resource.enc Resource.zero),[Resource.enc a0]⟩)],1⟩
noncomputable def zn3 (a1:List Amount) (g1:Int×Int) (g2:Int):Option ((Int)⊕((Unit)⊕(Bool))) :=
 (if (decide (g2 < g1.2))=true then
  gd (0≤g1.2∧g1.2 < (a1.length:Int)) <|
  gd ((!(zc5 (a1.getD g1.2.toNat Amount.zero)))=true→0≤g2∧g2 < (a1.length:Int)) <|
  gd (((!(zc5 (a1.getD g1.2.toNat Amount.zero)))&&(!(zc5 (a1.getD g2.toNat Amount.zero))))=true→0≤g1.2∧g1.2 < (a1.length:Int)) <|
  gd (((!(zc5 (a1.getD g1.2.toNat Amount.zero)))&&(!(zc5 (a1.getD g2.toNat Amount.zero))))=true→0≤g2∧g2 < (a1.length:Int)) <|
  (if (((!(zc5 (a1.getD g1.2.toNat Amount.zero)))&&(!(zc5 (a1.getD g2.toNat Amount.zero))))&&(!(zo9 ((a1.getD g1.2.toNat Amount.zero).mode) ((a1.getD g2.toNat Amount.zero).mode))))=true then
   some (.inr (.inr false))
  else
   some (.inl (IntKind.i64.wrap (g2+1))))
 else
  some (.inr (.inl ())))
@[go_sem] def zdI7 (a0:Resource) (a1:List Amount) (g1:Int×Int) (g2:Int):St:=⟨[(1,.sl (a1.map Amount.enc)),(2,.ptr 0 0 0),(5,.int .i64 g1.1),(6,.int .i64 g1.2),(7,.int .i64 g2)],[(0,⟨false,4,(Resource.enc Resource.zero),[Resource.enc a0]⟩)],1⟩
noncomputable def zs5 (a0:Resource) (a1:List Amount) (g1:Int×Int):Option ((Int×Int)⊕((Unit)⊕(Bool))) :=
 (if (decide (g1.2 < (a1.length:Int)))=true then
  gd (0≤g1.2∧g1.2 < (a1.length:Int)) <|
  (if (!(ze7 a0 (a1.getD g1.2.toNat Amount.zero)))=true then
   some (.inr (.inr false))
  else
   (if (decide (a0.kind=2))=true then
    gd (0≤g1.2∧g1.2 < (a1.length:Int)) <|
    (if (decide (a0.units < (IntKind.i64.wrap (g1.1+(a1.getD g1.2.toNat Amount.zero).units))))=true then
     some (.inr (.inr false))
    else
     some (.inl ((IntKind.i64.wrap (g1.1+(a1.getD g1.2.toNat Amount.zero).units)),(IntKind.i64.wrap (g1.2+1)))))
   else
    (zb6 (zn3 a1 g1) 0).bind (fun | .inl z=>zz1 g1 z | .inr z=>some (.inr (.inr z)))))
 else
  some (.inr (.inl ())))
@[go_sem] def zdI8 (a0:Resource) (a1:List Amount) (g1:Int×Int):St:=⟨[(1,.sl (a1.map Amount.enc)),(2,.ptr 0 0 0),(5,.int .i64 g1.1),(6,.int .i64 g1.2)],[(0,⟨false,4,(Resource.enc Resource.zero),[Resource.enc a0]⟩)],1⟩
noncomputable def zi9 (a0:Resource) (a1:List Amount):Option (Bool) :=
 (if (!(zn4 a0))=true then
  some false
 else
  (zb6 (zs5 a0 a1) (0,0)).bind (fun | .inl z=>zE5 z | .inr z=>some z))
theorem zaq5 (a0:Resource) (a1:List Amount) (r:Bool) (h:zi9 a0 a1=some r):PFn C 183 [.agg (Resource.enc a0),.sl (a1.map Amount.enc)] (.bool r):=by
 refine za6 zdW5 rfl fun E hG hN hK=>?_
 unfold zcM8
 unfold zi9 at h
 refine za0 (za1 hG ?_)
 refine za0 (za0 (za1 hG ?_))
 refine za7 (fun hg=>zE0 a0) ?_
 refine za3 rfl hG h (fun _ h=>?_) (fun _ h=>?_)
 · refine za0 (za1 hG ?_)
   refine za8 ?_
   exact zb1 h
 refine za4 ?_
 refine za0 (za1 hG ?_)
 refine za0 (za0 (za1 hG ?_))
 refine zb4 (zdI5) (fun v=>zE5 v=some r) ?_ ?_
 · intro j1 h
   unfold zE5 at h
   refine g_st ?_
   refine za0 (za1 hG ?_)
   refine za8 ?_
   exact zb1 h
 refine zd6 (zdI8 a0 a1) hK [(0,0)] h (fun x_l1 h g1 y_l1 h_l1 hx_l1=>?_)
 unfold zs5 at h_l1
 refine g_st ?_
 refine za0 (za0 (za1 hG ?_))
 refine za3 rfl hG h_l1 (fun _ h_l1=>?_) (fun _ h_l1=>?_)
 · refine za4 ?_
   refine za0 (zb5 (za0 (za0 ?_)))
   obtain ⟨hb6,h_l1⟩:=za2 h_l1
   refine zo8 ze6 hG ?_
   refine zg4 (fun hg=>zM1 a0 (a1.getD g1.2.toNat Amount.zero)) ?_
   refine za3 rfl hG h_l1 (fun _ h_l1=>?_) (fun _ h_l1=>?_)
   · refine za0 (za1 hG ?_)
     refine za8 ?_
     obtain rfl:=Option.some.inj h_l1
     have hx:=hx_l1 _ rfl
     subst hx
     try dsimp only at h
     exact zb1 h
   refine za4 ?_
   refine za0 (za0 (za1 hG ?_))
   refine za3 rfl hG h_l1 (fun _ h_l1=>?_) (fun _ h_l1=>?_)
   · refine za0 ?_
     obtain ⟨hb1,h_l1⟩:=za2 h_l1
     refine za1 hG ?_
     refine za0 (za0 (za1 hG ?_))
     refine za3 rfl hG h_l1 (fun _ h_l1=>?_) (fun _ h_l1=>?_)
     · refine za0 (za1 hG ?_)
       refine za8 ?_
       obtain rfl:=Option.some.inj h_l1
       have hx:=hx_l1 _ rfl
       subst hx
       try dsimp only at h
       exact zb1 h
     refine za4 ?_
     refine zc2 ?_
     refine za1 hG ?_
     exact zc7 hK [(0,0)] h_l1
   refine za4 ?_
   refine za0 (za1 hG ?_)
   refine zb4 (zdI6 a0 a1 g1) (fun v=>zz1 g1 v=some y_l1) ?_ ?_
   · intro j2 h_l1
     unfold zz1 at h_l1
     refine g_st ?_
     refine za1 hG ?_
     exact zc7 hK [(0,0)] h_l1
   refine zd6 (zdI7 a0 a1 g1) hK [(0,0)] h_l1 (fun x_l2 h_l1 g2 y_l2 h_l2 hx_l2=>?_)
   unfold zn3 at h_l2
   refine g_st ?_
   refine za0 (za0 (za1 hG ?_))
   refine za3 rfl hG h_l2 (fun _ h_l2=>?_) (fun _ h_l2=>?_)
   · refine za4 ?_
     refine za0 (zb5 (za0 ?_))
     obtain ⟨hb2,h_l2⟩:=za2 h_l2
     refine zo8 ze6 hG ?_
     obtain ⟨hb3,h_l2⟩:=za2 h_l2
     refine zg4 (fun hg=>zq5 (a1.getD g1.2.toNat Amount.zero)) ?_
     obtain ⟨hb4,h_l2⟩:=za2 h_l2
     obtain ⟨hb5,h_l2⟩:=za2 h_l2
     refine zg4 (fun hg=>zq5 (a1.getD g2.toNat Amount.zero)) ?_
     refine zg4 (fun hg=>zaq4 ((a1.getD g1.2.toNat Amount.zero).mode) ((a1.getD g2.toNat Amount.zero).mode)) ?_
     refine za3 rfl hG h_l2 (fun _ h_l2=>?_) (fun _ h_l2=>?_)
     · refine za0 (za1 hG ?_)
       refine za8 ?_
       obtain rfl:=Option.some.inj h_l2
       have hx:=hx_l2 _ rfl
       subst hx
       try dsimp only at h_l1
       obtain rfl:=Option.some.inj h_l1
       have hx:=hx_l1 _ rfl
       subst hx
       try dsimp only at h
       exact zb1 h
     refine za4 ?_
     refine za1 hG ?_
     exact zc7 hK [(0,0)] h_l2
   refine zc2 ?_
   obtain rfl:=Option.some.inj h_l2
   have hx:=hx_l2 _ rfl
   subst hx
   try dsimp only at h_l1
   exact zc6 hK [(0,0)] () (by exact h_l1)
 refine zc2 ?_
 obtain rfl:=Option.some.inj h_l1
 have hx:=hx_l1 _ rfl
 subst hx
 try dsimp only at h
 exact zc6 hK [] () (by exact h)
attribute [local irreducible] zi9
noncomputable def zI5 (a0:Resource) (a1:List Hold) (j1:Unit):Option (Bool) :=
 (zo5 a1).bind fun v1 =>
 (zi9 a0 v1).bind fun v2 =>
 some v2
@[go_sem] def zdI9 (a0:Resource) (a1:List Hold) (j1:Unit):St:=⟨[(1,.sl (a1.map Hold.enc)),(2,.ptr 0 0 0)],[(0,⟨false,4,(Resource.enc Resource.zero),[Resource.enc a0]⟩)],1⟩
noncomputable def zB3 (a0:Resource) (a1:List Hold) (g1:Int):Option ((Int)⊕((Unit)⊕(Bool))) :=
 (if (decide (g1 < (a1.length:Int)))=true then
  gd (0≤g1∧g1 < (a1.length:Int)) <|
  gd ((ze1 ((a1.getD g1.toNat Hold.zero).proc))=true→0≤g1∧g1 < (a1.length:Int)) <|
  gd (((!((!(ze1 ((a1.getD g1.toNat Hold.zero).proc)))||(!(zg2 a0 ((a1.getD g1.toNat Hold.zero).amount)))))&&(decide (0 < g1)))=true→0≤(IntKind.i64.wrap (g1 - 1))∧(IntKind.i64.wrap (g1 - 1)) < (a1.length:Int)) <|
  gd (((!((!(ze1 ((a1.getD g1.toNat Hold.zero).proc)))||(!(zg2 a0 ((a1.getD g1.toNat Hold.zero).amount)))))&&(decide (0 < g1)))=true→0≤g1∧g1 < (a1.length:Int)) <|
  (if (((!(ze1 ((a1.getD g1.toNat Hold.zero).proc)))||(!(zg2 a0 ((a1.getD g1.toNat Hold.zero).amount))))||((decide (0 < g1))&&(decide (0≤(zi0 ((a1.getD ((IntKind.i64.wrap (g1 - 1)).toNat) Hold.zero).proc) ((a1.getD g1.toNat Hold.zero).proc))))))=true then
   some (.inr (.inr false))
  else
   some (.inl (IntKind.i64.wrap (g1+1))))
 else
  some (.inr (.inl ())))
@[go_sem] def zdJ0 (a0:Resource) (a1:List Hold) (g1:Int):St:=⟨[(1,.sl (a1.map Hold.enc)),(2,.ptr 0 0 0),(5,.int .i64 g1)],[(0,⟨false,4,(Resource.enc Resource.zero),[Resource.enc a0]⟩)],1⟩
noncomputable def zo0 (a0:Resource) (a1:List Hold):Option (Bool) :=
 (if ((!(zn4 a0))||(decide (8 < (a1.length:Int))))=true then
  some false
 else
  (zb6 (zB3 a0 a1) 0).bind (fun | .inl z=>zI5 a0 a1 z | .inr z=>some z))
theorem zY3 (a0:Resource) (a1:List Hold) (r:Bool) (h:zo0 a0 a1=some r):PFn C 164 [.agg (Resource.enc a0),.sl (a1.map Hold.enc)] (.bool r):=by
 refine za6 zdW6 rfl fun E hG hN hK=>?_
 unfold zcN8
 unfold zo0 at h
 refine za0 (za1 hG ?_)
 refine za0 (za0 (za1 hG ?_))
 refine za7 (fun hg=>zE0 a0) ?_
 refine za3 rfl hG h (fun _ h=>?_) (fun _ h=>?_)
 · refine za0 (za1 hG ?_)
   refine za8 ?_
   exact zb1 h
 refine za4 ?_
 refine za0 (za0 (za1 hG ?_))
 refine zb4 (zdI9 a0 a1) (fun v=>zI5 a0 a1 v=some r) ?_ ?_
 · intro j1 h
   unfold zI5 at h
   refine g_st ?_
   refine za0 (zo8 ze6 hG ?_)
   obtain ⟨v1,hv1,h⟩:=za5 h
   refine zg4 (fun hg=>zaC4 a1 _ (hv1)) ?_
   obtain ⟨v2,hv2,h⟩:=za5 h
   refine zg4 (fun hg=>zaq5 a0 v1 _ (hv2)) ?_
   refine za8 ?_
   exact zb1 h
 refine zd6 (zdJ0 a0 a1) hK [(0,0)] h (fun x_l1 h g1 y_l1 h_l1 hx_l1=>?_)
 unfold zB3 at h_l1
 refine g_st ?_
 refine za0 (za0 (za1 hG ?_))
 refine za3 rfl hG h_l1 (fun _ h_l1=>?_) (fun _ h_l1=>?_)
 · refine za4 ?_
   refine za0 (zb5 (za0 ?_))
   obtain ⟨hb1,h_l1⟩:=za2 h_l1
   refine zo8 ze6 hG ?_
   obtain ⟨hb2,h_l1⟩:=za2 h_l1
   refine zg4 (fun hg=>zM0 ((a1.getD g1.toNat Hold.zero).proc)) ?_
   obtain ⟨hb3,h_l1⟩:=za2 h_l1
   obtain ⟨hb4,h_l1⟩:=za2 h_l1
   refine zg4 (fun hg=>zL0 a0 ((a1.getD g1.toNat Hold.zero).amount)) ?_
   refine zg4 (fun hg=>zH0 ((a1.getD ((IntKind.i64.wrap (g1 - 1)).toNat) Hold.zero).proc) ((a1.getD g1.toNat Hold.zero).proc)) ?_
   refine za3 rfl hG h_l1 (fun _ h_l1=>?_) (fun _ h_l1=>?_)
   · refine za0 (za1 hG ?_)
     refine za8 ?_
     obtain rfl:=Option.some.inj h_l1
     have hx:=hx_l1 _ rfl
     subst hx
     try dsimp only at h
     exact zb1 h
   refine za4 ?_
   refine za1 hG ?_
   exact zc7 hK [(0,0)] h_l1
 refine zc2 ?_
 obtain rfl:=Option.some.inj h_l1
 have hx:=hx_l1 _ rfl
 subst hx
 try dsimp only at h
 exact zc6 hK [(0,0)] () (by exact h)
attribute [local irreducible] zo0
def zB4 (a0:Amount):Bool :=
 (((zi6 a0.mode)&&(decide (a0.units=0)))||(((decide (a0.mode=0))&&(decide (1≤a0.units)))&&(decide (a0.units≤8))))
theorem zaI0 (a0:Amount):PFn C 167 [.agg (Amount.enc a0)] (.bool (zB4 a0)):=by
 generalize h:zB4 a0=r
 refine za6 zdW7 rfl fun E hG hN hK=>?_
 unfold zcO1
 unfold zB4 at h
 refine za0 (za1 hG ?_)
 refine za0 (za1 hG ?_)
 refine za7 (fun hg=>zB2 a0.mode) ?_
 refine za8 ?_
 exact ze9 h
def zi7 (a0:Wait):Bool :=
 ((((((ze1 a0.proc)&&(zB4 a0.amount))&&(decide (0≤a0.priority)))&&(decide (a0.priority≤7)))&&(decide (0≤a0.passed)))&&(decide (a0.passed≤3)))
theorem zau7 (a0:Wait):PFn C 151 [.agg (Wait.enc a0)] (.bool (zi7 a0)):=by
 generalize h:zi7 a0=r
 refine za6 zdW8 rfl fun E hG hN hK=>?_
 unfold zcO4
 unfold zi7 at h
 refine za0 (za1 hG ?_)
 refine za0 (za1 hG ?_)
 refine za7 (fun hg=>zM0 a0.proc) ?_
 refine za7 (fun hg=>zaI0 a0.amount) ?_
 refine za8 ?_
 exact ze9 h
noncomputable def zV1  (j1:Unit):Option (Int) :=
 some (-1)
@[go_sem] def zdJ1  (j1:Unit):St:=⟨[],[],0⟩
noncomputable def zaj2 (a0:List Wait) (a1:Proc) (g1:Int):Option ((Int)⊕((Unit)⊕(Int))) :=
 (if (decide (g1 < (a0.length:Int)))=true then
  gd (0≤g1∧g1 < (a0.length:Int)) <|
  (if (decide ((a0.getD g1.toNat Wait.zero).proc=a1))=true then
   some (.inr (.inr g1))
  else
   some (.inl (IntKind.i64.wrap (g1+1))))
 else
  some (.inr (.inl ())))
@[go_sem] def zdJ2 (a0:List Wait) (a1:Proc) (g1:Int):St:=⟨[(0,.sl (a0.map Wait.enc)),(3,.ptr 0 0 0),(5,.int .i64 g1)],[(0,⟨false,3,(Proc.enc Proc.zero),[Proc.enc a1]⟩)],1⟩
noncomputable def zm7 (a0:List Wait) (a1:Proc):Option (Int) :=
 (zb6 (zaj2 a0 a1) 0).bind (fun | .inl z=>zV1 z | .inr z=>some z)
theorem zS6 (a0:List Wait) (a1:Proc) (r:Int) (h:zm7 a0 a1=some r):PFn C 144 [.sl (a0.map Wait.enc),.agg (Proc.enc a1)] (.int .i64 r):=by
 refine za6 zdW9 rfl fun E hG hN hK=>?_
 unfold zcP2
 unfold zm7 at h
 refine za0 (za1 hG ?_)
 refine za0 (za0 (za1 hG ?_))
 refine zb4 (zdJ1) (fun v=>zV1 v=some r) ?_ ?_
 · intro j1 h
   unfold zV1 at h
   refine g_st ?_
   refine za0 (za1 hG ?_)
   refine za8 ?_
   exact zb1 h
 refine zd6 (zdJ2 a0 a1) hK [(0,0)] h (fun x_l1 h g1 y_l1 h_l1 hx_l1=>?_)
 unfold zaj2 at h_l1
 refine g_st ?_
 refine za0 (za0 (za1 hG ?_))
 refine za3 rfl hG h_l1 (fun _ h_l1=>?_) (fun _ h_l1=>?_)
 · refine za4 ?_
   refine za0 (zb5 (za0 ?_))
   obtain ⟨hb1,h_l1⟩:=za2 h_l1
   refine zo8 ze6 hG ?_
   refine za3 rfl hG h_l1 (fun _ h_l1=>?_) (fun _ h_l1=>?_)
   · refine za0 (za1 hG ?_)
     refine za8 ?_
     obtain rfl:=Option.some.inj h_l1
     have hx:=hx_l1 _ rfl
     subst hx
     try dsimp only at h
     exact zb1 h
   refine za4 ?_
   refine za1 hG ?_
   exact zc7 hK [(0,0)] h_l1
 refine zc2 ?_
 obtain rfl:=Option.some.inj h_l1
 have hx:=hx_l1 _ rfl
 subst hx
 try dsimp only at h
 exact zc6 hK [] () (by exact h)
attribute [local irreducible] zm7
noncomputable def zR6  (j1:Unit):Option (Bool) :=
 some true
@[go_sem] def zdJ3  (j1:Unit):St:=⟨[],[],0⟩
noncomputable def zI6 (a0:List Wait) (g1:Int):Option ((Int)⊕((Unit)⊕(Bool))) :=
 (if (decide (g1 < (a0.length:Int)))=true then
  gd (0≤g1∧g1 < (a0.length:Int)) <|
  gd ((zi7 (a0.getD g1.toNat Wait.zero))=true→0≤g1∧g1 < (a0.length:Int)) <|
  ((if (zi7 (a0.getD g1.toNat Wait.zero))=true then zm7 a0 ((a0.getD g1.toNat Wait.zero).proc) else some (0))).bind fun v1 =>
  (if ((!(zi7 (a0.getD g1.toNat Wait.zero)))||(!decide (v1=g1)))=true then
   some (.inr (.inr false))
  else
   some (.inl (IntKind.i64.wrap (g1+1))))
 else
  some (.inr (.inl ())))
@[go_sem] def zdJ4 (a0:List Wait) (g1:Int):St:=⟨[(0,.sl (a0.map Wait.enc)),(3,.int .i64 g1)],[],0⟩
noncomputable def zq6 (a0:List Wait):Option (Bool) :=
 (if (decide (8 < (a0.length:Int)))=true then
  some false
 else
  (zb6 (zI6 a0) 0).bind (fun | .inl z=>zR6 z | .inr z=>some z))
theorem zaQ3 (a0:List Wait) (r:Bool) (h:zq6 a0=some r):PFn C 150 [.sl (a0.map Wait.enc)] (.bool r):=by
 refine za6 zdX0 rfl fun E hG hN hK=>?_
 unfold zcQ2
 unfold zq6 at h
 refine za0 (za1 hG ?_)
 refine za0 (za0 (za1 hG ?_))
 refine za3 rfl hG h (fun _ h=>?_) (fun _ h=>?_)
 · refine za0 (za1 hG ?_)
   refine za8 ?_
   exact zb1 h
 refine za4 ?_
 refine za0 (za0 (za1 hG ?_))
 refine zb4 (zdJ3) (fun v=>zR6 v=some r) ?_ ?_
 · intro j1 h
   unfold zR6 at h
   refine g_st ?_
   refine za0 (za1 hG ?_)
   refine za8 ?_
   exact zb1 h
 refine zd6 (zdJ4 a0) hK [] h (fun x_l1 h g1 y_l1 h_l1 hx_l1=>?_)
 unfold zI6 at h_l1
 refine g_st ?_
 refine za0 (za0 (za1 hG ?_))
 refine za3 rfl hG h_l1 (fun _ h_l1=>?_) (fun _ h_l1=>?_)
 · refine za4 ?_
   refine za0 (zb5 (za0 ?_))
   obtain ⟨hb1,h_l1⟩:=za2 h_l1
   refine za1 hG ?_
   obtain ⟨hb2,h_l1⟩:=za2 h_l1
   refine za7 (fun hg=>zau7 (a0.getD g1.toNat Wait.zero)) ?_
   obtain ⟨v1,hv1,h_l1⟩:=za5 h_l1
   refine za7 (fun hg=>zS6 a0 ((a0.getD g1.toNat Wait.zero).proc) _ (zv7 hg hv1)) ?_
   refine za3 rfl hG h_l1 (fun _ h_l1=>?_) (fun _ h_l1=>?_)
   · refine za0 (za1 hG ?_)
     refine za8 ?_
     obtain rfl:=Option.some.inj h_l1
     have hx:=hx_l1 _ rfl
     subst hx
     try dsimp only at h
     exact zb1 h
   refine za4 ?_
   refine za1 hG ?_
   exact zc7 hK [] h_l1
 refine zc2 ?_
 obtain rfl:=Option.some.inj h_l1
 have hx:=hx_l1 _ rfl
 subst hx
 try dsimp only at h
 exact zc6 hK [] () (by exact h)
attribute [local irreducible] zq6
noncomputable def zY4  (j1:Unit):Option (Amount) :=
 some ({ Amount.zero with  })
@[go_sem] def zdJ5  (j1:Unit):St:=⟨[(4,.ptr 0 0 0)],[(0,⟨false,2,(Amount.enc Amount.zero),[Amount.enc Amount.zero]⟩)],1⟩
noncomputable def zO4 (a0:List Hold) (a1:Proc) (g1:Int):Option ((Int)⊕((Unit)⊕(Amount))) :=
 (if (decide (g1 < (a0.length:Int)))=true then
  gd (0≤g1∧g1 < (a0.length:Int)) <|
  (if (decide ((a0.getD g1.toNat Hold.zero).proc=a1))=true then
   gd (0≤g1∧g1 < (a0.length:Int)) <|
   some (.inr (.inr ((a0.getD g1.toNat Hold.zero).amount)))
  else
   some (.inl (IntKind.i64.wrap (g1+1))))
 else
  some (.inr (.inl ())))
@[go_sem] def zdJ6 (a0:List Hold) (a1:Proc) (g1:Int):St:=⟨[(0,.sl (a0.map Hold.enc)),(3,.ptr 0 0 0),(4,.ptr 1 0 0),(5,.int .i64 g1)],[(0,⟨false,3,(Proc.enc Proc.zero),[Proc.enc a1]⟩),(1,⟨false,2,(Amount.enc Amount.zero),[Amount.enc Amount.zero]⟩)],2⟩
noncomputable def zu6 (a0:List Hold) (a1:Proc):Option (Amount) :=
 (zb6 (zO4 a0 a1) 0).bind (fun | .inl z=>zY4 z | .inr z=>some z)
theorem zah6 (a0:List Hold) (a1:Proc) (r:Amount) (h:zu6 a0 a1=some r):PFn C 69 [.sl (a0.map Hold.enc),.agg (Proc.enc a1)] (.agg (Amount.enc r)):=by
 refine za6 zdX1 rfl fun E hG hN hK=>?_
 unfold zcR0
 unfold zu6 at h
 refine za0 (za1 hG ?_)
 refine za0 (za0 (za1 hG ?_))
 refine zb4 (zdJ5) (fun v=>zY4 v=some r) ?_ ?_
 · intro j1 h
   unfold zY4 at h
   refine g_st ?_
   refine za0 (za1 hG ?_)
   refine za8 ?_
   exact zb1 h
 refine zd6 (zdJ6 a0 a1) hK [(0,0),(1,1)] h (fun x_l1 h g1 y_l1 h_l1 hx_l1=>?_)
 unfold zO4 at h_l1
 refine g_st ?_
 refine za0 (za0 (za1 hG ?_))
 refine za3 rfl hG h_l1 (fun _ h_l1=>?_) (fun _ h_l1=>?_)
 · refine za4 ?_
   refine za0 (zb5 (za0 ?_))
   obtain ⟨hb2,h_l1⟩:=za2 h_l1
   refine zo8 ze6 hG ?_
   refine za3 rfl hG h_l1 (fun _ h_l1=>?_) (fun _ h_l1=>?_)
   · refine za0 ?_
     obtain ⟨hb1,h_l1⟩:=za2 h_l1
     refine za1 hG ?_
     refine za8 ?_
     obtain rfl:=Option.some.inj h_l1
     have hx:=hx_l1 _ rfl
     subst hx
     try dsimp only at h
     exact zb1 h
   refine za4 ?_
   refine za1 hG ?_
   exact zc7 hK [(0,0),(1,1)] h_l1
 refine zc2 ?_
 obtain rfl:=Option.some.inj h_l1
 have hx:=hx_l1 _ rfl
 subst hx
 try dsimp only at h
 exact zc6 hK [(0,1)] () (by exact h)
attribute [local irreducible] zu6
def zu7 (a0:Int) (a1:Int):Bool :=
 (if ((!(zi6 a0))||(!(zi6 a1)))=true then
  false
 else
  ((((decide (a0=a1))||(decide (a0=5)))||(decide (a1=1)))||((decide (a0=4))&&(!decide (a1=5)))))
theorem zaI1 (a0:Int) (a1:Int):PFn C 146 [.int .i64 a0,.int .i64 a1] (.bool (zu7 a0 a1)):=by
 generalize h:zu7 a0 a1=r
 refine za6 zdX2 rfl fun E hG hN hK=>?_
 unfold zcR5
 unfold zu7 at h
 refine za0 (za1 hG ?_)
 refine za0 (za0 (za1 hG ?_))
 refine za7 (fun hg=>zB2 a0) ?_
 refine za7 (fun hg=>zB2 a1) ?_
 refine za3 rfl hG h (fun _ h=>?_) (fun _ h=>?_)
 · refine za0 (za1 hG ?_)
   refine za8 ?_
   exact ze9 h
 refine za4 ?_
 refine za0 (za1 hG ?_)
 refine za8 ?_
 exact ze9 h
def zi3 (a0:Resource) (a1:Amount) (a2:Amount):Bool :=
 (if ((!(ze7 a0 a1))||(!(ze7 a0 a2)))=true then
  false
 else
  (if (zc5 a2)=true then
   true
  else
   (if (zc5 a1)=true then
    false
   else
    (if (decide (a0.kind=1))=true then
     (zu7 a1.mode a2.mode)
    else
     (decide (a2.units≤a1.units))))))
theorem zaI2 (a0:Resource) (a1:Amount) (a2:Amount):PFn C 101 [.agg (Resource.enc a0),.agg (Amount.enc a1),.agg (Amount.enc a2)] (.bool (zi3 a0 a1 a2)):=by
 generalize h:zi3 a0 a1 a2=r
 refine za6 zdX3 rfl fun E hG hN hK=>?_
 unfold zcS6
 unfold zi3 at h
 refine za0 (za1 hG ?_)
 refine za0 (za0 (za1 hG ?_))
 refine za7 (fun hg=>zM1 a0 a1) ?_
 refine za7 (fun hg=>zM1 a0 a2) ?_
 refine za3 rfl hG h (fun _ h=>?_) (fun _ h=>?_)
 · refine za0 (za1 hG ?_)
   refine za8 ?_
   exact ze9 h
 refine za4 ?_
 refine za0 (za0 (za1 hG ?_))
 refine za7 (fun hg=>zq5 a2) ?_
 refine za3 rfl hG h (fun _ h=>?_) (fun _ h=>?_)
 · refine za0 (za1 hG ?_)
   refine za8 ?_
   exact ze9 h
 refine za4 ?_
 refine za0 (za0 (za1 hG ?_))
 refine za7 (fun hg=>zq5 a1) ?_
 refine za3 rfl hG h (fun _ h=>?_) (fun _ h=>?_)
 · refine za0 (za1 hG ?_)
   refine za8 ?_
   exact ze9 h
 refine za4 ?_
 refine za0 (za0 (za1 hG ?_))
 refine za3 rfl hG h (fun _ h=>?_) (fun _ h=>?_)
 · refine za0 (za1 hG ?_)
   refine za7 (fun hg=>zaI1 a1.mode a2.mode) ?_
   refine za8 ?_
   exact ze9 h
 refine za4 ?_
 refine za0 (za1 hG ?_)
 refine za8 ?_
 exact ze9 h
noncomputable def zR7  (j2:Unit):Option (Bool) :=
 some true
@[go_sem] def zdJ7  (j2:Unit):St:=⟨[],[],0⟩
noncomputable def zI7 (a0:Queue) (g1:Int):Option ((Int)⊕((Unit)⊕(Bool))) :=
 (if (decide (g1 < (a0.waits.length:Int)))=true then
  gd (0≤g1∧g1 < (a0.waits.length:Int)) <|
  gd ((zg2 a0.resource ((a0.waits.getD g1.toNat Wait.zero).amount))=true→0≤g1∧g1 < (a0.waits.length:Int)) <|
  ((if (zg2 a0.resource ((a0.waits.getD g1.toNat Wait.zero).amount))=true then zu6 a0.holds ((a0.waits.getD g1.toNat Wait.zero).proc) else some (Amount.zero))).bind fun v4 =>
  (if ((!(zg2 a0.resource ((a0.waits.getD g1.toNat Wait.zero).amount)))||(!(zc5 v4)))=true then
   some (.inr (.inr false))
  else
   some (.inl (IntKind.i64.wrap (g1+1))))
 else
  some (.inr (.inl ())))
@[go_sem] def zdJ8 (a0:Queue) (g1:Int):St:=⟨[(1,.ptr 0 0 0),(3,.ptr 1 0 0),(7,.int .i64 g1)],[(0,⟨false,8,(Queue.enc Queue.zero),[Queue.enc a0]⟩),(1,⟨false,4,(Resource.enc Resource.zero),[Resource.enc a0.resource]⟩)],2⟩
noncomputable def zI8 (a0:Queue) (j1:Unit):Option (Bool) :=
 (zb6 (zI7 a0) 0).bind (fun | .inl z=>zR7 z | .inr z=>some z)
@[go_sem] def zdJ9 (a0:Queue) (j1:Unit):St:=⟨[(1,.ptr 0 0 0),(3,.ptr 1 0 0)],[(0,⟨false,8,(Queue.enc Queue.zero),[Queue.enc a0]⟩),(1,⟨false,4,(Resource.enc Resource.zero),[Resource.enc a0.resource]⟩)],2⟩
noncomputable def zx9 (a0:Queue) (g2:Int):Option ((Int)⊕((Unit)⊕(Bool))) :=
 (if (decide (g2 < (a0.converts.length:Int)))=true then
  gd (0≤g2∧g2 < (a0.converts.length:Int)) <|
  (zu6 a0.holds ((a0.converts.getD g2.toNat Wait.zero).proc)).bind fun v5 =>
  ((if (!((((((zc5 v5)||(!(zg2 a0.resource ((a0.converts.getD g2.toNat Wait.zero).amount))))||(!(zi3 a0.resource ((a0.converts.getD g2.toNat Wait.zero).amount) v5)))||(decide ((a0.converts.getD g2.toNat Wait.zero).amount=v5)))||(!decide ((a0.converts.getD g2.toNat Wait.zero).priority=0)))||(!decide ((a0.converts.getD g2.toNat Wait.zero).passed=0))))=true then zm7 a0.converts ((a0.converts.getD g2.toNat Wait.zero).proc) else some (0))).bind fun v6 =>
  (if (((((((zc5 v5)||(!(zg2 a0.resource ((a0.converts.getD g2.toNat Wait.zero).amount))))||(!(zi3 a0.resource ((a0.converts.getD g2.toNat Wait.zero).amount) v5)))||(decide ((a0.converts.getD g2.toNat Wait.zero).amount=v5)))||(!decide ((a0.converts.getD g2.toNat Wait.zero).priority=0)))||(!decide ((a0.converts.getD g2.toNat Wait.zero).passed=0)))||(!decide (v6=g2)))=true then
   some (.inr (.inr false))
  else
   some (.inl (IntKind.i64.wrap (g2+1))))
 else
  some (.inr (.inl ())))
@[go_sem] def zdK0 (a0:Queue) (g2:Int):St:=⟨[(1,.ptr 0 0 0),(3,.ptr 1 0 0),(4,.int .i64 g2)],[(0,⟨false,8,(Queue.enc Queue.zero),[Queue.enc a0]⟩),(1,⟨false,4,(Resource.enc Resource.zero),[Resource.enc a0.resource]⟩)],2⟩
noncomputable def zo1 (a0:Queue):Option (Bool) :=
 (zd8 a0.resource).bind fun v1 =>
 ((if v1=true then zo0 a0.resource a0.holds else some (false))).bind fun v2 =>
 ((if (!(((!v1)||(!v2))||(decide (8 < (a0.converts.length:Int)))))=true then zq6 a0.waits else some (false))).bind fun v3 =>
 (if (((((((!v1)||(!v2))||(decide (8 < (a0.converts.length:Int))))||(!v3))||(decide (8 < (IntKind.i64.wrap ((a0.holds.length:Int)+(a0.waits.length:Int))))))||(decide (a0.gen < 0)))||(decide (1073741824 < a0.gen)))=true then
  some false
 else
  (zb6 (zx9 a0) 0).bind (fun | .inl z=>zI8 a0 z | .inr z=>some z))
theorem zY5 (a0:Queue) (r:Bool) (h:zo1 a0=some r):PFn C 141 [.agg (Queue.enc a0)] (.bool r):=by
 refine za6 zdX4 rfl fun E hG hN hK=>?_
 unfold zcT7
 unfold zo1 at h
 refine za0 (za1 hG ?_)
 refine za0 (za1 hG ?_)
 refine za0 (za0 (za1 hG ?_))
 obtain ⟨v1,hv1,h⟩:=za5 h
 refine za7 (fun hg=>zah3 a0.resource _ (hv1)) ?_
 obtain ⟨v2,hv2,h⟩:=za5 h
 refine za7 (fun hg=>zY3 a0.resource a0.holds _ (zv7 hg hv2)) ?_
 obtain ⟨v3,hv3,h⟩:=za5 h
 refine za7 (fun hg=>zaQ3 a0.waits _ (zv7 hg hv3)) ?_
 refine za3 rfl hG h (fun _ h=>?_) (fun _ h=>?_)
 · refine za0 (za1 hG ?_)
   refine za8 ?_
   exact zb1 h
 refine za4 ?_
 refine za0 (za0 (za1 hG ?_))
 refine zb4 (zdJ9 a0) (fun v=>zI8 a0 v=some r) ?_ ?_
 · intro j1 h
   unfold zI8 at h
   refine g_st ?_
   refine za0 (za0 (za1 hG ?_))
   refine zb4 (zdJ7) (fun v=>zR7 v=some r) ?_ ?_
   · intro j2 h
     unfold zR7 at h
     refine g_st ?_
     refine za0 (za1 hG ?_)
     refine za8 ?_
     exact zb1 h
   refine zd6 (zdJ8 a0) hK [(0,0),(1,1)] h (fun x_l1 h g1 y_l1 h_l1 hx_l1=>?_)
   unfold zI7 at h_l1
   refine g_st ?_
   refine za0 (za0 (za1 hG ?_))
   refine za3 rfl hG h_l1 (fun _ h_l1=>?_) (fun _ h_l1=>?_)
   · refine za4 ?_
     refine za0 (zb5 (za0 ?_))
     obtain ⟨hb1,h_l1⟩:=za2 h_l1
     refine zo8 ze6 hG ?_
     obtain ⟨hb2,h_l1⟩:=za2 h_l1
     refine zg4 (fun hg=>zL0 a0.resource ((a0.waits.getD g1.toNat Wait.zero).amount)) ?_
     obtain ⟨v4,hv4,h_l1⟩:=za5 h_l1
     refine zg4 (fun hg=>zah6 a0.holds ((a0.waits.getD g1.toNat Wait.zero).proc) _ (zv7 hg hv4)) ?_
     refine zg4 (fun hg=>zq5 v4) ?_
     refine za3 rfl hG h_l1 (fun _ h_l1=>?_) (fun _ h_l1=>?_)
     · refine za0 (za1 hG ?_)
       refine za8 ?_
       obtain rfl:=Option.some.inj h_l1
       have hx:=hx_l1 _ rfl
       subst hx
       try dsimp only at h
       exact zb1 h
     refine za4 ?_
     refine za1 hG ?_
     exact zc7 hK [(0,0),(1,1)] h_l1
   refine zc2 ?_
   obtain rfl:=Option.some.inj h_l1
   have hx:=hx_l1 _ rfl
   subst hx
   try dsimp only at h
   exact zc6 hK [] () (by exact h)
 refine zd6 (zdK0 a0) hK [(0,0),(1,1)] h (fun x_l2 h g2 y_l2 h_l2 hx_l2=>?_)
 unfold zx9 at h_l2
 refine g_st ?_
 refine za0 (za0 (za1 hG ?_))
 refine za3 rfl hG h_l2 (fun _ h_l2=>?_) (fun _ h_l2=>?_)
 · refine za4 ?_
   refine za0 (zb5 (za0 ?_))
   obtain ⟨hb3,h_l2⟩:=za2 h_l2
   refine za1 hG ?_
   refine za0 (za1 hG ?_)
   obtain ⟨v5,hv5,h_l2⟩:=za5 h_l2
   refine za7 (fun hg=>zah6 a0.holds ((a0.converts.getD g2.toNat Wait.zero).proc) _ (hv5)) ?_
   refine za0 (za1 hG ?_)
   refine za7 (fun hg=>zq5 v5) ?_
   refine za7 (fun hg=>zL0 a0.resource ((a0.converts.getD g2.toNat Wait.zero).amount)) ?_
   refine za7 (fun hg=>zaI2 a0.resource ((a0.converts.getD g2.toNat Wait.zero).amount) v5) ?_
   obtain ⟨v6,hv6,h_l2⟩:=za5 h_l2
   refine za7 (fun hg=>zS6 a0.converts ((a0.converts.getD g2.toNat Wait.zero).proc) _ (zv7 hg hv6)) ?_
   refine za3 rfl hG h_l2 (fun _ h_l2=>?_) (fun _ h_l2=>?_)
   · refine za0 (za1 hG ?_)
     refine za8 ?_
     obtain rfl:=Option.some.inj h_l2
     have hx:=hx_l2 _ rfl
     subst hx
     try dsimp only at h
     exact zb1 h
   refine za4 ?_
   refine za1 hG ?_
   exact zc7 hK [(0,0),(1,1)] h_l2
 refine zc2 ?_
 obtain rfl:=Option.some.inj h_l2
 have hx:=hx_l2 _ rfl
 subst hx
 try dsimp only at h
 exact zc6 hK [(0,0),(1,1)] () (by exact h)
attribute [local irreducible] zo1
noncomputable def zx4 (a0:Queue):Option (Wait×Bool) :=
 (if (decide (0 < (a0.converts.length:Int)))=true then
  gd (0≤0∧0 < (a0.converts.length:Int)) <|
  some ((a0.converts.getD 0 Wait.zero),true)
 else
  (if (decide (0 < (a0.waits.length:Int)))=true then
   gd (0≤0∧0 < (a0.waits.length:Int)) <|
   some ((a0.waits.getD 0 Wait.zero),true)
  else
   some ({ Wait.zero with  },false)))
theorem zas1 (a0:Queue) (r:Wait×Bool) (h:zx4 a0=some r):PFn C 165 [.agg (Queue.enc a0)] (.tup [.agg (Wait.enc r.1),.bool r.2]):=by
 refine za6 zdX5 rfl fun E hG hN hK=>?_
 unfold zcU4
 unfold zx4 at h
 refine za0 (za1 hG ?_)
 refine za0 (za0 (za1 hG ?_))
 refine za3 rfl hG h (fun _ h=>?_) (fun _ h=>?_)
 · refine za0 ?_
   obtain ⟨hb1,h⟩:=za2 h
   refine za1 hG ?_
   refine za8 ?_
   exact zb1 h
 refine za4 ?_
 refine za0 (za0 (za1 hG ?_))
 refine za3 rfl hG h (fun _ h=>?_) (fun _ h=>?_)
 · refine za0 ?_
   obtain ⟨hb2,h⟩:=za2 h
   refine za1 hG ?_
   refine za8 ?_
   exact zb1 h
 refine za4 ?_
 refine za0 (za1 hG ?_)
 refine za8 ?_
 exact zb1 h
attribute [local irreducible] zx4
noncomputable def zO5 (a1:Proc) (a2:Amount) (j1:Bool×(List Hold)):Option ((List Hold)) :=
 (if (!j1.1)=true then
  gd (j1.2.length+1≤4294967296) <|
  some (j1.2++[(⟨a1,a2⟩:Hold)])
 else
  some j1.2)
@[go_sem] def zdK1 (a1:Proc) (a2:Amount) (j1:Bool×(List Hold)):St:=⟨[(4,.ptr 0 0 0),(5,.ptr 1 0 0),(7,.own 2 0 j1.2.length),(8,.bool j1.1)],[(0,⟨false,3,(Proc.enc Proc.zero),[Proc.enc a1]⟩),(1,⟨false,2,(Amount.enc Amount.zero),[Amount.enc a2]⟩),(2,⟨false,5,(Hold.enc Hold.zero),j1.2.map Hold.enc⟩)],3⟩
noncomputable def zH1 (a0:List Hold) (a1:Proc) (a2:Amount) (g1:Bool×Int×(List Hold)):Option ((Bool×Int×(List Hold))⊕((Bool×(List Hold)))) :=
 (if (decide (g1.2.1 < (a0.length:Int)))=true then
  gd (0≤g1.2.1∧g1.2.1 < (a0.length:Int)) <|
  (if (decide ((a0.getD g1.2.1.toNat Hold.zero).proc=a1))=true then
   some (.inl (g1.1,(IntKind.i64.wrap (g1.2.1+1)),g1.2.2))
  else
   gd ((!g1.1)=true→0≤g1.2.1∧g1.2.1 < (a0.length:Int)) <|
   (if ((!g1.1)&&(decide (0 < (zi0 ((a0.getD g1.2.1.toNat Hold.zero).proc) a1))))=true then
    gd (g1.2.2.length+1≤4294967296) <|
    gd (0≤g1.2.1∧g1.2.1 < (a0.length:Int)) <|
    gd (g1.2.2.length+1+1≤4294967296) <|
    some (.inl (true,(IntKind.i64.wrap (g1.2.1+1)),((g1.2.2++[(⟨a1,a2⟩:Hold)])++[(a0.getD g1.2.1.toNat Hold.zero)])))
   else
    gd (0≤g1.2.1∧g1.2.1 < (a0.length:Int)) <|
    gd (g1.2.2.length+1≤4294967296) <|
    some (.inl (g1.1,(IntKind.i64.wrap (g1.2.1+1)),(g1.2.2++[(a0.getD g1.2.1.toNat Hold.zero)])))))
 else
  some (.inr (g1.1,g1.2.2)))
@[go_sem] def zdK2 (a0:List Hold) (a1:Proc) (a2:Amount) (g1:Bool×Int×(List Hold)):St:=⟨[(0,.sl (a0.map Hold.enc)),(4,.ptr 0 0 0),(5,.ptr 1 0 0),(7,.own 2 0 g1.2.2.length),(8,.bool g1.1),(9,.int .i64 g1.2.1)],[(0,⟨false,3,(Proc.enc Proc.zero),[Proc.enc a1]⟩),(1,⟨false,2,(Amount.enc Amount.zero),[Amount.enc a2]⟩),(2,⟨false,5,(Hold.enc Hold.zero),g1.2.2.map Hold.enc⟩)],3⟩
noncomputable def zs2 (a0:List Hold) (a1:Proc) (a2:Amount):Option ((List Hold)) :=
 (zb6 (zH1 a0 a1 a2) ((zc5 a2),0,[])).bind (fun z=>zO5 a1 a2 z)
theorem zah7 (a0:List Hold) (a1:Proc) (a2:Amount) (r:(List Hold)) (h:zs2 a0 a1 a2=some r):PFn C 28 [.sl (a0.map Hold.enc),.agg (Proc.enc a1),.agg (Amount.enc a2)] (.sl (r.map Hold.enc)):=by
 refine za6 zdX6 rfl fun E hG hN hK=>?_
 unfold zcV5
 unfold zs2 at h
 refine za0 (za1 hG ?_)
 refine za0 (za1 hG ?_)
 refine za0 (za1 hG ?_)
 refine za7 (fun hg=>zq5 a2) ?_
 refine za0 (za0 (za1 hG ?_))
 refine zb4 (zdK1 a1 a2) (fun v=>zO5 a1 a2 v=some r) ?_ ?_
 · intro j1 h
   unfold zO5 at h
   refine g_st ?_
   refine za0 (za0 (za1 hG ?_))
   refine za3 rfl hG h (fun _ h=>?_) (fun _ h=>?_)
   · obtain ⟨hb1,h⟩:=za2 h
     refine za1 hG ?_
     refine za0 (za1 hG ?_)
     refine za8 ?_
     exact zb1 h
   refine za4 ?_
   refine za0 (za1 hG ?_)
   refine za8 ?_
   exact zb1 h
 refine zd6 (zdK2 a0 a1 a2) hK [(0,0),(1,1),(2,2)] h (fun x_l1 h g1 y_l1 h_l1 hx_l1=>?_)
 unfold zH1 at h_l1
 refine g_st ?_
 refine za0 (za0 (za1 hG ?_))
 refine za3 rfl hG h_l1 (fun _ h_l1=>?_) (fun _ h_l1=>?_)
 · refine za4 ?_
   refine za0 (zb5 (za0 (za0 ?_)))
   obtain ⟨hb8,h_l1⟩:=za2 h_l1
   refine zo8 ze6 hG ?_
   refine za3 rfl hG h_l1 (fun _ h_l1=>?_) (fun _ h_l1=>?_)
   · refine zc2 ?_
     refine za1 hG ?_
     exact zc7 hK [(0,0),(1,1),(2,2)] h_l1
   refine za4 ?_
   refine za0 (za0 ?_)
   obtain ⟨hb7,h_l1⟩:=za2 h_l1
   refine zo8 ze6 hG ?_
   refine zg4 (fun hg=>zH0 ((a0.getD g1.2.1.toNat Hold.zero).proc) a1) ?_
   refine za3 rfl hG h_l1 (fun _ h_l1=>?_) (fun _ h_l1=>?_)
   · refine za0 ?_
     obtain ⟨hb4,h_l1⟩:=za2 h_l1
     refine za1 hG ?_
     refine za1 hG ?_
     obtain ⟨hb2,h_l1⟩:=za2 h_l1
     obtain ⟨hb3,h_l1⟩:=za2 h_l1
     refine za1 hG ?_
     refine za1 hG ?_
     exact zc7 hK [(0,0),(1,1),(2,4)] h_l1
   refine za4 ?_
   obtain ⟨hb5,h_l1⟩:=za2 h_l1
   obtain ⟨hb6,h_l1⟩:=za2 h_l1
   refine za1 hG ?_
   refine za1 hG ?_
   exact zc7 hK [(0,0),(1,1),(2,3)] h_l1
 refine zc2 ?_
 obtain rfl:=Option.some.inj h_l1
 have hx:=hx_l1 _ rfl
 subst hx
 try dsimp only at h
 exact zc6 hK [(0,0),(1,1),(2,2)] (g1.1,g1.2.2) (by exact h)
attribute [local irreducible] zs2
noncomputable def zx5 (a0:Resource) (a1:List Hold) (a2:Proc) (a3:Amount):Option (Bool) :=
 (zo0 a0 a1).bind fun v1 =>
 ((if ((v1&&(ze1 a2))&&(zg2 a0 a3))=true then zs2 a1 a2 a3 else some ([]))).bind fun v2 =>
 ((if ((v1&&(ze1 a2))&&(zg2 a0 a3))=true then zo0 a0 v2 else some (false))).bind fun v3 =>
 some (((v1&&(ze1 a2))&&(zg2 a0 a3))&&v3)
theorem zaW3 (a0:Resource) (a1:List Hold) (a2:Proc) (a3:Amount) (r:Bool) (h:zx5 a0 a1 a2 a3=some r):PFn C 166 [.agg (Resource.enc a0),.sl (a1.map Hold.enc),.agg (Proc.enc a2),.agg (Amount.enc a3)] (.bool r):=by
 refine za6 zdX7 rfl fun E hG hN hK=>?_
 unfold zcV8
 unfold zx5 at h
 refine za0 (za1 hG ?_)
 refine za0 (zo8 ze6 hG ?_)
 obtain ⟨v1,hv1,h⟩:=za5 h
 refine zg4 (fun hg=>zY3 a0 a1 _ (hv1)) ?_
 refine zg4 (fun hg=>zM0 a2) ?_
 refine zg4 (fun hg=>zL0 a0 a3) ?_
 obtain ⟨v2,hv2,h⟩:=za5 h
 refine zg4 (fun hg=>zah7 a1 a2 a3 _ (zv7 hg hv2)) ?_
 obtain ⟨v3,hv3,h⟩:=za5 h
 refine zg4 (fun hg=>zY3 a0 v2 _ (zv7 hg hv3)) ?_
 refine za8 ?_
 exact zb1 h
attribute [local irreducible] zx5
noncomputable def zl6 (a0:Queue):Option (Bool) :=
 (zo1 a0).bind fun v1 =>
 (if (!v1)=true then
  some false
 else
  (zx4 a0).bind fun v2 =>
  ((if v2.2=true then zx5 a0.resource a0.holds v2.1.proc v2.1.amount else some (false))).bind fun v3 =>
  some ((!v2.2)||(!v3)))
theorem zae7 (a0:Queue) (r:Bool) (h:zl6 a0=some r):PFn C 142 [.agg (Queue.enc a0)] (.bool r):=by
 refine za6 zdX8 rfl fun E hG hN hK=>?_
 unfold zcW4
 unfold zl6 at h
 refine za0 (za1 hG ?_)
 refine za0 (za0 (za1 hG ?_))
 obtain ⟨v1,hv1,h⟩:=za5 h
 refine za7 (fun hg=>zY5 a0 _ (hv1)) ?_
 refine za3 rfl hG h (fun _ h=>?_) (fun _ h=>?_)
 · refine za0 (za1 hG ?_)
   refine za8 ?_
   exact zb1 h
 refine za4 ?_
 refine za0 (za1 hG ?_)
 obtain ⟨v2,hv2,h⟩:=za5 h
 refine za7 (fun hg=>zas1 a0 _ (hv2)) ?_
 refine za0 (za1 hG ?_)
 obtain ⟨v3,hv3,h⟩:=za5 h
 refine za7 (fun hg=>zaW3 a0.resource a0.holds v2.1.proc v2.1.amount _ (zv7 hg hv3)) ?_
 refine za8 ?_
 exact zb1 h
attribute [local irreducible] zl6
noncomputable def zj9 (a0:Queue):Option (Bool) :=
 (zo1 a0).bind fun v1 =>
 ((if v1=true then zl6 a0 else some (false))).bind fun v2 =>
 some (v1&&v2)
theorem zal9 (a0:Queue) (r:Bool) (h:zj9 a0=some r):PFn C 96 [.agg (Queue.enc a0)] (.bool r):=by
 refine za6 zdX9 rfl fun E hG hN hK=>?_
 unfold zcW7
 unfold zj9 at h
 refine za0 (za1 hG ?_)
 refine za0 (za1 hG ?_)
 obtain ⟨v1,hv1,h⟩:=za5 h
 refine za7 (fun hg=>zY5 a0 _ (hv1)) ?_
 obtain ⟨v2,hv2,h⟩:=za5 h
 refine za7 (fun hg=>zae7 a0 _ (zv7 hg hv2)) ?_
 refine za8 ?_
 exact zb1 h
attribute [local irreducible] zj9
noncomputable def zR8  (j1:Unit):Option (Bool) :=
 some true
@[go_sem] def zdK3  (j1:Unit):St:=⟨[],[],0⟩
noncomputable def zI9 (a0:List Queue) (g1:Int):Option ((Int)⊕((Unit)⊕(Bool))) :=
 (if (decide (g1 < (a0.length:Int)))=true then
  gd (0≤g1∧g1 < (a0.length:Int)) <|
  (zj9 (a0.getD g1.toNat Queue.zero)).bind fun v1 =>
  gd ((v1&&(decide (0 < g1)))=true→0≤(IntKind.i64.wrap (g1 - 1))∧(IntKind.i64.wrap (g1 - 1)) < (a0.length:Int)) <|
  gd ((v1&&(decide (0 < g1)))=true→0≤g1∧g1 < (a0.length:Int)) <|
  (if ((!v1)||((decide (0 < g1))&&(!Op.bytesLess (((a0.getD ((IntKind.i64.wrap (g1 - 1)).toNat) Queue.zero).resource).name).toList (((a0.getD g1.toNat Queue.zero).resource).name).toList)))=true then
   some (.inr (.inr false))
  else
   some (.inl (IntKind.i64.wrap (g1+1))))
 else
  some (.inr (.inl ())))
@[go_sem] def zdK4 (a0:List Queue) (g1:Int):St:=⟨[(0,.sl (a0.map Queue.enc)),(3,.int .i64 g1)],[],0⟩
noncomputable def zt8 (a0:List Queue):Option (Bool) :=
 (if (decide (8 < (a0.length:Int)))=true then
  some false
 else
  (zb6 (zI9 a0) 0).bind (fun | .inl z=>zR8 z | .inr z=>some z))
theorem zaQ4 (a0:List Queue) (r:Bool) (h:zt8 a0=some r):PFn C 75 [.sl (a0.map Queue.enc)] (.bool r):=by
 refine za6 zdY0 rfl fun E hG hN hK=>?_
 unfold zcX7
 unfold zt8 at h
 refine za0 (za1 hG ?_)
 refine za0 (za0 (za1 hG ?_))
 refine za3 rfl hG h (fun _ h=>?_) (fun _ h=>?_)
 · refine za0 (za1 hG ?_)
   refine za8 ?_
   exact zb1 h
 refine za4 ?_
 refine za0 (za0 (za1 hG ?_))
 refine zb4 (zdK3) (fun v=>zR8 v=some r) ?_ ?_
 · intro j1 h
   unfold zR8 at h
   refine g_st ?_
   refine za0 (za1 hG ?_)
   refine za8 ?_
   exact zb1 h
 refine zd6 (zdK4 a0) hK [] h (fun x_l1 h g1 y_l1 h_l1 hx_l1=>?_)
 unfold zI9 at h_l1
 refine g_st ?_
 refine za0 (za0 (za1 hG ?_))
 refine za3 rfl hG h_l1 (fun _ h_l1=>?_) (fun _ h_l1=>?_)
 · refine za4 ?_
   refine za0 (zb5 (za0 ?_))
   obtain ⟨hb1,h_l1⟩:=za2 h_l1
   refine zo8 ze6 hG ?_
   obtain ⟨v1,hv1,h_l1⟩:=za5 h_l1
   obtain ⟨hb2,h_l1⟩:=za2 h_l1
   obtain ⟨hb3,h_l1⟩:=za2 h_l1
   refine zg4 (fun hg=>zal9 (a0.getD g1.toNat Queue.zero) _ (hv1)) ?_
   refine za3 rfl hG h_l1 (fun _ h_l1=>?_) (fun _ h_l1=>?_)
   · refine za0 (za1 hG ?_)
     refine za8 ?_
     obtain rfl:=Option.some.inj h_l1
     have hx:=hx_l1 _ rfl
     subst hx
     try dsimp only at h
     exact zb1 h
   refine za4 ?_
   refine za1 hG ?_
   exact zc7 hK [] h_l1
 refine zc2 ?_
 obtain rfl:=Option.some.inj h_l1
 have hx:=hx_l1 _ rfl
 subst hx
 try dsimp only at h
 exact zc6 hK [] () (by exact h)
attribute [local irreducible] zt8
noncomputable def zM2  (j1:(List Proc)):Option ((List Proc)) :=
 some j1
@[go_sem] def zdK5  (j1:(List Proc)):St:=⟨[(3,.own 0 0 j1.length)],[(0,⟨false,3,(Proc.enc Proc.zero),j1.map Proc.enc⟩)],1⟩
noncomputable def zD1 (a0:List Hold) (g1:Int×(List Proc)):Option ((Int×(List Proc))⊕(((List Proc)))) :=
 (if (decide (g1.1 < (a0.length:Int)))=true then
  gd (0≤g1.1∧g1.1 < (a0.length:Int)) <|
  gd (g1.2.length+1≤4294967296) <|
  some (.inl ((IntKind.i64.wrap (g1.1+1)),(g1.2++[(a0.getD g1.1.toNat Hold.zero).proc])))
 else
  some (.inr g1.2))
@[go_sem] def zdK6 (a0:List Hold) (g1:Int×(List Proc)):St:=⟨[(0,.sl (a0.map Hold.enc)),(3,.own 0 0 g1.2.length),(4,.int .i64 g1.1)],[(0,⟨false,3,(Proc.enc Proc.zero),g1.2.map Proc.enc⟩)],1⟩
noncomputable def zo6 (a0:List Hold):Option ((List Proc)) :=
 (zb6 (zD1 a0) (0,[])).bind (fun z=>zM2 z)
theorem zay1 (a0:List Hold) (r:(List Proc)) (h:zo6 a0=some r):MFn C 114 [.sl (a0.map Hold.enc)] [] 0 (.own 0 0 r.length) [(0,⟨false,3,(Proc.enc Proc.zero),r.map Proc.enc⟩)] 1:=by
 refine zs0 (rl:=[.own 0 0 r.length]) zdY1 rfl rfl rfl rfl fun E hG hN hK=>?_
 unfold zcY5
 unfold zo6 at h
 refine za0 (za1 hG ?_)
 refine za0 (za1 hG ?_)
 refine za0 (za0 (za1 hG ?_))
 refine zb4 (zdK5) (fun v=>zM2 v=some r) ?_ ?_
 · intro j1 h
   unfold zM2 at h
   refine g_st ?_
   refine za0 (za1 hG ?_)
   refine za8 ?_
   exact zC2 [(0,0)] h
 refine zd6 (zdK6 a0) hK [(0,1)] h (fun x_l1 h g1 y_l1 h_l1 hx_l1=>?_)
 unfold zD1 at h_l1
 refine g_st ?_
 refine za0 (za0 (za1 hG ?_))
 refine za3 rfl hG h_l1 (fun _ h_l1=>?_) (fun _ h_l1=>?_)
 · refine za4 ?_
   refine za0 (zb5 ?_)
   obtain ⟨hb1,h_l1⟩:=za2 h_l1
   obtain ⟨hb2,h_l1⟩:=za2 h_l1
   refine za1 hG ?_
   refine za1 hG ?_
   exact zc7 hK [(0,1)] h_l1
 refine zc2 ?_
 obtain rfl:=Option.some.inj h_l1
 have hx:=hx_l1 _ rfl
 subst hx
 try dsimp only at h
 exact zc6 hK [(0,0)] g1.2 (by exact h)
attribute [local irreducible] zo6
noncomputable def zJ0  (j2:(List Proc)):Option ((List Proc)) :=
 some j2
@[go_sem] def zdK7  (j2:(List Proc)):St:=⟨[(3,.own 0 0 j2.length)],[(0,⟨false,3,(Proc.enc Proc.zero),j2.map Proc.enc⟩)],1⟩
noncomputable def zJ1 (a0:Queue) (g1:Int×(List Proc)):Option ((Int×(List Proc))⊕(((List Proc)))) :=
 (if (decide (g1.1 < (a0.waits.length:Int)))=true then
  gd (0≤g1.1∧g1.1 < (a0.waits.length:Int)) <|
  gd (g1.2.length+1≤4294967296) <|
  some (.inl ((IntKind.i64.wrap (g1.1+1)),(g1.2++[(a0.waits.getD g1.1.toNat Wait.zero).proc])))
 else
  some (.inr g1.2))
@[go_sem] def zdK8 (a0:Queue) (g1:Int×(List Proc)):St:=⟨[(1,.ptr 0 0 0),(3,.own 1 0 g1.2.length),(5,.int .i64 g1.1)],[(0,⟨false,8,(Queue.enc Queue.zero),[Queue.enc a0]⟩),(1,⟨false,3,(Proc.enc Proc.zero),g1.2.map Proc.enc⟩)],2⟩
noncomputable def zJ2 (a0:Queue) (j1:(List Proc)):Option ((List Proc)) :=
 (zb6 (zJ1 a0) (0,j1)).bind (fun z=>zJ0 z)
@[go_sem] def zdK9 (a0:Queue) (j1:(List Proc)):St:=⟨[(1,.ptr 0 0 0),(3,.own 1 0 j1.length)],[(0,⟨false,8,(Queue.enc Queue.zero),[Queue.enc a0]⟩),(1,⟨false,3,(Proc.enc Proc.zero),j1.map Proc.enc⟩)],2⟩
noncomputable def zJ3 (a0:Queue) (g2:Int×(List Proc)):Option ((Int×(List Proc))⊕(((List Proc)))) :=
 (if (decide (g2.1 < (a0.converts.length:Int)))=true then
  gd (0≤g2.1∧g2.1 < (a0.converts.length:Int)) <|
  gd (g2.2.length+1≤4294967296) <|
  some (.inl ((IntKind.i64.wrap (g2.1+1)),(g2.2++[(a0.converts.getD g2.1.toNat Wait.zero).proc])))
 else
  some (.inr g2.2))
@[go_sem] def zdL0 (a0:Queue) (g2:Int×(List Proc)):St:=⟨[(1,.ptr 0 0 0),(3,.own 1 0 g2.2.length),(4,.int .i64 g2.1)],[(0,⟨false,8,(Queue.enc Queue.zero),[Queue.enc a0]⟩),(1,⟨false,3,(Proc.enc Proc.zero),g2.2.map Proc.enc⟩)],2⟩
noncomputable def zt9 (a0:Queue):Option ((List Proc)) :=
 (zb6 (zJ3 a0) (0,[])).bind (fun z=>zJ2 a0 z)
theorem zaQ5 (a0:Queue) (r:(List Proc)) (h:zt9 a0=some r):PFn C 115 [.agg (Queue.enc a0)] (.sl (r.map Proc.enc)):=by
 refine za6 zdY2 rfl fun E hG hN hK=>?_
 unfold zcZ6
 unfold zt9 at h
 refine za0 (za1 hG ?_)
 refine za0 (za1 hG ?_)
 refine za0 (za0 (za1 hG ?_))
 refine zb4 (zdK9 a0) (fun v=>zJ2 a0 v=some r) ?_ ?_
 · intro j1 h
   unfold zJ2 at h
   refine g_st ?_
   refine za0 (za0 (za1 hG ?_))
   refine zb4 (zdK7) (fun v=>zJ0 v=some r) ?_ ?_
   · intro j2 h
     unfold zJ0 at h
     refine g_st ?_
     refine za0 (za1 hG ?_)
     refine za8 ?_
     exact zb1 h
   refine zd6 (zdK8 a0) hK [(0,0),(1,1)] h (fun x_l1 h g1 y_l1 h_l1 hx_l1=>?_)
   unfold zJ1 at h_l1
   refine g_st ?_
   refine za0 (za0 (za1 hG ?_))
   refine za3 rfl hG h_l1 (fun _ h_l1=>?_) (fun _ h_l1=>?_)
   · refine za4 ?_
     refine za0 (zb5 ?_)
     obtain ⟨hb1,h_l1⟩:=za2 h_l1
     obtain ⟨hb2,h_l1⟩:=za2 h_l1
     refine za1 hG ?_
     refine za1 hG ?_
     exact zc7 hK [(0,0),(1,2)] h_l1
   refine zc2 ?_
   obtain rfl:=Option.some.inj h_l1
   have hx:=hx_l1 _ rfl
   subst hx
   try dsimp only at h
   exact zc6 hK [(0,1)] g1.2 (by exact h)
 refine zd6 (zdL0 a0) hK [(0,0),(1,1)] h (fun x_l2 h g2 y_l2 h_l2 hx_l2=>?_)
 unfold zJ3 at h_l2
 refine g_st ?_
 refine za0 (za0 (za1 hG ?_))
 refine za3 rfl hG h_l2 (fun _ h_l2=>?_) (fun _ h_l2=>?_)
 · refine za4 ?_
   refine za0 (zb5 ?_)
   obtain ⟨hb3,h_l2⟩:=za2 h_l2
   obtain ⟨hb4,h_l2⟩:=za2 h_l2
   refine za1 hG ?_
   refine za1 hG ?_
   exact zc7 hK [(0,0),(1,2)] h_l2
 refine zc2 ?_
 obtain rfl:=Option.some.inj h_l2
 have hx:=hx_l2 _ rfl
 subst hx
 try dsimp only at h
 exact zc6 hK [(0,0),(1,1)] g2.2 (by exact h)
attribute [local irreducible] zt9
noncomputable def zD2  (j1:Unit):Option (Bool) :=
 some false
@[go_sem] def zdL1  (j1:Unit):St:=⟨[],[],0⟩
noncomputable def zy6 (a0:List Proc) (a1:Proc) (g1:Int):Option ((Int)⊕((Unit)⊕(Bool))) :=
 (if (decide (g1 < (a0.length:Int)))=true then
  gd (0≤g1∧g1 < (a0.length:Int)) <|
  (if (decide ((a0.getD g1.toNat Proc.zero)=a1))=true then
   some (.inr (.inr true))
  else
   some (.inl (IntKind.i64.wrap (g1+1))))
 else
  some (.inr (.inl ())))
@[go_sem] def zdL2 (a0:List Proc) (a1:Proc) (g1:Int):St:=⟨[(0,.sl (a0.map Proc.enc)),(3,.ptr 0 0 0),(5,.int .i64 g1)],[(0,⟨false,3,(Proc.enc Proc.zero),[Proc.enc a1]⟩)],1⟩
noncomputable def zl7 (a0:List Proc) (a1:Proc):Option (Bool) :=
 (zb6 (zy6 a0 a1) 0).bind (fun | .inl z=>zD2 z | .inr z=>some z)
theorem zaC5 (a0:List Proc) (a1:Proc) (r:Bool) (h:zl7 a0 a1=some r):PFn C 59 [.sl (a0.map Proc.enc),.agg (Proc.enc a1)] (.bool r):=by
 refine za6 zdY3 rfl fun E hG hN hK=>?_
 unfold zda4
 unfold zl7 at h
 refine za0 (za1 hG ?_)
 refine za0 (za0 (za1 hG ?_))
 refine zb4 (zdL1) (fun v=>zD2 v=some r) ?_ ?_
 · intro j1 h
   unfold zD2 at h
   refine g_st ?_
   refine za0 (za1 hG ?_)
   refine za8 ?_
   exact zb1 h
 refine zd6 (zdL2 a0 a1) hK [(0,0)] h (fun x_l1 h g1 y_l1 h_l1 hx_l1=>?_)
 unfold zy6 at h_l1
 refine g_st ?_
 refine za0 (za0 (za1 hG ?_))
 refine za3 rfl hG h_l1 (fun _ h_l1=>?_) (fun _ h_l1=>?_)
 · refine za4 ?_
   refine za0 (zb5 (za0 ?_))
   obtain ⟨hb1,h_l1⟩:=za2 h_l1
   refine zo8 ze6 hG ?_
   refine za3 rfl hG h_l1 (fun _ h_l1=>?_) (fun _ h_l1=>?_)
   · refine za0 (za1 hG ?_)
     refine za8 ?_
     obtain rfl:=Option.some.inj h_l1
     have hx:=hx_l1 _ rfl
     subst hx
     try dsimp only at h
     exact zb1 h
   refine za4 ?_
   refine za1 hG ?_
   exact zc7 hK [(0,0)] h_l1
 refine zc2 ?_
 obtain rfl:=Option.some.inj h_l1
 have hx:=hx_l1 _ rfl
 subst hx
 try dsimp only at h
 exact zc6 hK [] () (by exact h)
attribute [local irreducible] zl7
noncomputable def zH2  (j1:(List Proc)):Option ((List Proc)) :=
 some j1
@[go_sem] def zdL3  (j1:(List Proc)):St:=⟨[(3,.own 0 0 j1.length)],[(0,⟨false,3,(Proc.enc Proc.zero),j1.map Proc.enc⟩)],1⟩
noncomputable def zz7 (g1:Int×(List Proc)) (j2:(List Proc)):Option ((Int×(List Proc))⊕(((List Proc)))) :=
 some (.inl ((IntKind.i64.wrap (g1.1+1)),j2))
@[go_sem] def zdL4 (a0:List Proc) (g1:Int×(List Proc)) (j2:(List Proc)):St:=⟨[(0,.sl (a0.map Proc.enc)),(3,.own 0 0 j2.length),(4,.int .i64 g1.1)],[(0,⟨false,3,(Proc.enc Proc.zero),j2.map Proc.enc⟩)],1⟩
noncomputable def zu8  (g2:Int×(List Proc)):Option ((Int×(List Proc))⊕(((List Proc)))) :=
 gd ((decide (0 < g2.1))=true→0≤(IntKind.i64.wrap (g2.1 - 1))∧(IntKind.i64.wrap (g2.1 - 1)) < ((g2.2.length:Nat):Int)) <|
 gd ((decide (0 < g2.1))=true→0≤g2.1∧g2.1 < ((g2.2.length:Nat):Int)) <|
 (if ((decide (0 < g2.1))&&(decide (0 < (zi0 (g2.2.getD ((IntKind.i64.wrap (g2.1 - 1)).toNat) Proc.zero) (g2.2.getD g2.1.toNat Proc.zero)))))=true then
  gd (0≤(IntKind.i64.wrap (g2.1 - 1))∧(IntKind.i64.wrap (g2.1 - 1)) < ((g2.2.length:Nat):Int)) <|
  gd (0≤g2.1∧g2.1 < ((g2.2.length:Nat):Int)) <|
  gd (0≤(IntKind.i64.wrap (g2.1 - 1))∧(IntKind.i64.wrap (g2.1 - 1)) < ((g2.2.length:Nat):Int)) <|
  gd (0≤g2.1∧g2.1 < ((g2.2.length:Nat):Int)) <|
  some (.inl ((IntKind.i64.wrap (g2.1 - 1)),((g2.2.set ((IntKind.i64.wrap (g2.1 - 1)).toNat) (g2.2.getD g2.1.toNat Proc.zero)).set g2.1.toNat (g2.2.getD ((IntKind.i64.wrap (g2.1 - 1)).toNat) Proc.zero))))
 else
  some (.inr g2.2))
@[go_sem] def zdL5 (a0:List Proc) (g1:Int×(List Proc)) (g2:Int×(List Proc)):St:=⟨[(0,.sl (a0.map Proc.enc)),(3,.own 0 0 g2.2.length),(4,.int .i64 g1.1),(5,.int .i64 g2.1)],[(0,⟨false,3,(Proc.enc Proc.zero),g2.2.map Proc.enc⟩)],1⟩
noncomputable def zu9 (a0:List Proc) (g1:Int×(List Proc)):Option ((Int×(List Proc))⊕(((List Proc)))) :=
 (if (decide (g1.1 < (a0.length:Int)))=true then
  gd (0≤g1.1∧g1.1 < (a0.length:Int)) <|
  (zl7 g1.2 (a0.getD g1.1.toNat Proc.zero)).bind fun v1 =>
  (if v1=true then
   some (.inl ((IntKind.i64.wrap (g1.1+1)),g1.2))
  else
   gd (0≤g1.1∧g1.1 < (a0.length:Int)) <|
   gd (g1.2.length+1≤4294967296) <|
   (zb6 (zu8) (((g1.2.length:Nat):Int),(g1.2++[(a0.getD g1.1.toNat Proc.zero)]))).bind (fun z=>zz7 g1 z))
 else
  some (.inr g1.2))
@[go_sem] def zdL6 (a0:List Proc) (g1:Int×(List Proc)):St:=⟨[(0,.sl (a0.map Proc.enc)),(3,.own 0 0 g1.2.length),(4,.int .i64 g1.1)],[(0,⟨false,3,(Proc.enc Proc.zero),g1.2.map Proc.enc⟩)],1⟩
noncomputable def zi8 (a0:List Proc):Option ((List Proc)) :=
 (zb6 (zu9 a0) (0,[])).bind (fun z=>zH2 z)
theorem zY6 (a0:List Proc) (r:(List Proc)) (h:zi8 a0=some r):PFn C 74 [.sl (a0.map Proc.enc)] (.sl (r.map Proc.enc)):=by
 refine za6 zdY4 rfl fun E hG hN hK=>?_
 unfold zdb5
 unfold zi8 at h
 refine za0 (za1 hG ?_)
 refine za0 (za1 hG ?_)
 refine za0 (za0 (za1 hG ?_))
 refine zb4 (zdL3) (fun v=>zH2 v=some r) ?_ ?_
 · intro j1 h
   unfold zH2 at h
   refine g_st ?_
   refine za0 (za1 hG ?_)
   refine za8 ?_
   exact zb1 h
 refine zd6 (zdL6 a0) hK [(0,0)] h (fun x_l1 h g1 y_l1 h_l1 hx_l1=>?_)
 unfold zu9 at h_l1
 refine g_st ?_
 refine za0 (za0 (za1 hG ?_))
 refine za3 rfl hG h_l1 (fun _ h_l1=>?_) (fun _ h_l1=>?_)
 · refine za4 ?_
   refine za0 (zb5 (za0 (za0 ?_)))
   obtain ⟨hb9,h_l1⟩:=za2 h_l1
   refine za1 hG ?_
   obtain ⟨v1,hv1,h_l1⟩:=za5 h_l1
   refine za7 (fun hg=>zaC5 g1.2 (a0.getD g1.1.toNat Proc.zero) _ (hv1)) ?_
   refine za3 rfl hG h_l1 (fun _ h_l1=>?_) (fun _ h_l1=>?_)
   · refine zc2 ?_
     refine za1 hG ?_
     exact zc7 hK [(0,0)] h_l1
   refine za4 ?_
   refine za0 (za1 hG ?_)
   refine za0 ?_
   obtain ⟨hb7,h_l1⟩:=za2 h_l1
   obtain ⟨hb8,h_l1⟩:=za2 h_l1
   refine za1 hG ?_
   refine zb4 (zdL4 a0 g1) (fun v=>zz7 g1 v=some y_l1) ?_ ?_
   · intro j2 h_l1
     unfold zz7 at h_l1
     refine g_st ?_
     refine za1 hG ?_
     exact zc7 hK [(0,0)] h_l1
   refine zd6 (zdL5 a0 g1) hK [(0,1)] h_l1 (fun x_l2 h_l1 g2 y_l2 h_l2 hx_l2=>?_)
   unfold zu8 at h_l2
   refine g_st ?_
   refine za0 (za0 ?_)
   obtain ⟨hb5,h_l2⟩:=za2 h_l2
   obtain ⟨hb6,h_l2⟩:=za2 h_l2
   refine zo8 ze6 hG ?_
   refine zg4 (fun hg=>zH0 (g2.2.getD ((IntKind.i64.wrap (g2.1 - 1)).toNat) Proc.zero) (g2.2.getD g2.1.toNat Proc.zero)) ?_
   refine za3 rfl hG h_l2 (fun _ h_l2=>?_) (fun _ h_l2=>?_)
   · refine za4 ?_
     refine zb5 (za0 ?_)
     obtain ⟨hb4,h_l2⟩:=za2 h_l2
     refine za1 hG ?_
     refine za0 ?_
     obtain ⟨hb2,h_l2⟩:=za2 h_l2
     obtain ⟨hb3,h_l2⟩:=za2 h_l2
     refine za1 hG ?_
     refine za0 ?_
     obtain ⟨hb1,h_l2⟩:=za2 h_l2
     refine za1 hG ?_
     refine za1 hG ?_
     exact zc7 hK [(0,0)] h_l2
   refine zc2 ?_
   obtain rfl:=Option.some.inj h_l2
   have hx:=hx_l2 _ rfl
   subst hx
   try dsimp only at h_l1
   exact zc6 hK [(0,0)] g2.2 (by exact h_l1)
 refine zc2 ?_
 obtain rfl:=Option.some.inj h_l1
 have hx:=hx_l1 _ rfl
 subst hx
 try dsimp only at h
 exact zc6 hK [(0,0)] g1.2 (by exact h)
attribute [local irreducible] zi8
noncomputable def zu0 (a0:Queue):Option ((List Proc)) :=
 (zo6 a0.holds).bind fun v1 =>
 (zt9 a0).bind fun v2 =>
 gd (v1.length+v2.length≤4294967296) <|
 (zi8 (v1++v2)).bind fun v3 =>
 some v3
theorem zaQ6 (a0:Queue) (r:(List Proc)) (h:zu0 a0=some r):PFn C 73 [.agg (Queue.enc a0)] (.sl (r.map Proc.enc)):=by
 refine za6 zdY5 rfl fun E hG hN hK=>?_
 unfold zdb8
 unfold zu0 at h
 refine za0 (za1 hG ?_)
 refine za0 (zX3 ze6 hG ?_)
 obtain ⟨v1,hv1,h⟩:=za5 h
 refine zax6 [] [(0,1)] [0] (zay1 a0.holds _ hv1) rfl rfl ?_
 obtain ⟨v2,hv2,h⟩:=za5 h
 obtain ⟨hb1,h⟩:=za2 h
 refine zW1 (fun hg=>zaQ5 a0 _ (hv2)) ?_
 obtain ⟨v3,hv3,h⟩:=za5 h
 refine zW1 (fun hg=>zY6 (v1++v2) _ (hv3)) ?_
 refine za8 ?_
 exact zb1 h
attribute [local irreducible] zu0
end Ab
end Go.Proofs.YtfjeceicgfdmjaaGreatDoor
