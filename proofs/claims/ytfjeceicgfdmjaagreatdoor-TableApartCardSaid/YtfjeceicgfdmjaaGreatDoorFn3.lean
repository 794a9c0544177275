/-
  Functions of the program,as Lean functions; what the program's code computes is what they say.
-/
import Derived.Test.YtfjeceicgfdmjaaGreatDoorFn2
namespace Go.Proofs.YtfjeceicgfdmjaaGreatDoor
namespace Ab
set_option linter.unusedSimpArgs false
set_option linter.unusedVariables false
set_option maxRecDepth 100000
set_option maxHeartbeats 1000000
attribute [local irreducible] zf3 zd3 zj5 zv5 zs3 zg6 ze1 zo1 zv6 zn8 zn9 zj6 ze0 zg7 zf4 zg8 zm1 zh2 zm8 zk3 zg9 ze6 zn1 zf8 zo2 zp4 zi1 zi8 zj9 zj7 zh5 zh0 zc8 zc6 zo3 zq2 zb7 zc0 zh1 zo4 zm3 zk4 zr5 zx1 zc9 zc1 zj8 zk0 zl5 zG2 zq4 zk5 ze4 zm4 zq5 zk6 zk7 zq6 zf9 zl6
noncomputable def zo5 (a0:List Queue) (a1:Proc) (a2:Atom) (a3:Int):Option ((List Queue)×(List Event)×Int) :=
 (zx1 a0 a2.name).bind fun v1 =>
 (if (!decide (v1.2=0))=true then
  some ([],[],v1.2)
 else
  (zm3 a0).bind fun v2 =>
  (zj8 v2 a1).bind fun v3 =>
  (if ((!v3)&&(decide (8≤(v2.length:Int))))=true then
   some ([],[],4)
  else
   gd (0≤v1.1∧v1.1 < (a0.length:Int)) <|
   (zq6 (a0.getD v1.1.toNat Queue.zero) a1 a2.amount a3).bind fun v4 =>
   (if (!decide (v4.2.2=0))=true then
    some ([],[],v4.2.2)
   else
    (zf9 a0 v1.1 v4.1).bind fun v5 =>
    (zl6 a2.name v4.2.1).bind fun v6 =>
    some (v5,v6,0))))
theorem zaf1 (a0:List Queue) (a1:Proc) (a2:Atom) (a3:Int) (r:(List Queue)×(List Event)×Int) (h:zo5 a0 a1 a2 a3=some r):PFn C 17 [.sl (a0.map Queue.enc),.agg (Proc.enc a1),.agg (Atom.enc a2),.int .i64 a3] (.tup [.sl (r.1.map Queue.enc),.sl (r.2.1.map Event.enc),.int .i64 r.2.2]):=by
 refine za8 zev3 rfl fun E hG hN hK=>?_
 unfold zcR4
 unfold zo5 at h
 refine za0 (za1 hG ?_)
 refine za0 (za1 hG ?_)
 obtain ⟨v1,hv1,h⟩:=za2 h
 refine za6 (fun hg=>zau7 a0 a2.name _ (hv1)) ?_
 refine za0 (za0 (za1 hG ?_))
 refine za4 rfl hG h (fun _ h=>?_) (fun _ h=>?_)
 · refine za0 (za1 hG ?_)
   refine za7 ?_
   exact zb0 h
 refine za5 ?_
 refine za0 (za1 hG ?_)
 obtain ⟨v2,hv2,h⟩:=za2 h
 refine za6 (fun hg=>zau5 a0 _ (hv2)) ?_
 refine za0 (za0 (za1 hG ?_))
 obtain ⟨v3,hv3,h⟩:=za2 h
 refine za6 (fun hg=>zaM0 v2 a1 _ (hv3)) ?_
 refine za4 rfl hG h (fun _ h=>?_) (fun _ h=>?_)
 · refine za0 (za1 hG ?_)
   refine za7 ?_
   exact zb0 h
 refine za5 ?_
 refine za0 ?_
 obtain ⟨hb1,h⟩:=za3 h
 refine zB2 zd2 hG ?_
 obtain ⟨v4,hv4,h⟩:=za2 h
 refine zt8 (fun hg=>zba9 (a0.getD v1.1.toNat Queue.zero) a1 a2.amount a3 _ (hv4)) ?_
 refine za0 (za0 (za1 hG ?_))
 refine za4 rfl hG h (fun _ h=>?_) (fun _ h=>?_)
 · refine za0 (za1 hG ?_)
   refine za7 ?_
   exact zb0 h
 refine za5 ?_
 refine za0 (zB2 zd2 hG ?_)
 obtain ⟨v5,hv5,h⟩:=za2 h
 refine zt8 (fun hg=>zO7 a0 v1.1 v4.1 _ (hv5)) ?_
 obtain ⟨v6,hv6,h⟩:=za2 h
 refine zQ8 [] [] [] (zam7 a2.name v4.2.1 _ hv6) rfl rfl ?_
 refine za7 ?_
 exact zb0 h
attribute [local irreducible] zo5
noncomputable def zQ7  (j1:(List Atom)):Option ((List Atom)) :=
 some j1
@[go_sem] def zeh2  (j1:(List Atom)):St:=⟨[(5,.own 0 0 j1.length)],[(0,⟨false,3,(Atom.enc Atom.zero),j1.map Atom.enc⟩)],1⟩
noncomputable def zA8 (a0:List Queue) (a1:Proc) (g1:Int×(List Atom)):Option ((Int×(List Atom))⊕(((List Atom)))) :=
 (if (decide (g1.1 < (a0.length:Int)))=true then
  gd (0≤g1.1∧g1.1 < (a0.length:Int)) <|
  (zh2 (a0.getD g1.1.toNat Queue.zero) a1).bind fun v1 =>
  (if (!decide (v1={ Amount.zero with  }))=true then
   gd (g1.2.length+1≤4294967296) <|
   some (.inl ((IntKind.i64.wrap (g1.1+1)),(g1.2++[(⟨((a0.getD g1.1.toNat Queue.zero).resource).name,v1⟩:Atom)])))
  else
   some (.inl ((IntKind.i64.wrap (g1.1+1)),g1.2)))
 else
  some (.inr g1.2))
@[go_sem] def zeh3 (a0:List Queue) (a1:Proc) (g1:Int×(List Atom)):St:=⟨[(3,.ptr 0 0 0),(5,.own 1 0 g1.2.length),(9,.sl (a0.map Queue.enc)),(10,.int .i64 (a0.length:Int)),(11,.int .i64 g1.1)],[(0,⟨false,3,(Proc.enc Proc.zero),[Proc.enc a1]⟩),(1,⟨false,3,(Atom.enc Atom.zero),g1.2.map Atom.enc⟩)],2⟩
noncomputable def zm5 (a0:List Queue) (a1:Proc):Option ((List Atom)) :=
 (zb9 (zA8 a0 a1) (0,[])).bind (fun z=>zQ7 z)
theorem zaG6 (a0:List Queue) (a1:Proc) (r:(List Atom)) (h:zm5 a0 a1=some r):PFn C 51 [.sl (a0.map Queue.enc),.agg (Proc.enc a1)] (.sl (r.map Atom.enc)):=by
 refine za8 zev4 rfl fun E hG hN hK=>?_
 unfold zcS5
 unfold zm5 at h
 refine za0 (za1 hG ?_)
 refine za0 (za1 hG ?_)
 refine za0 (za0 (za1 hG ?_))
 refine zb4 (zeh2) (fun v=>zQ7 v=some r) ?_ ?_
 · intro j1 h
   unfold zQ7 at h
   refine g_st ?_
   refine za0 (za1 hG ?_)
   refine za7 ?_
   exact zb0 h
 refine zd9 (zeh3 a0 a1) hK [(0,0),(1,1)] h (fun x_l1 h g1 y_l1 h_l1 hx_l1=>?_)
 unfold zA8 at h_l1
 refine g_st ?_
 refine za0 (za1 hG ?_)
 refine za0 ?_
 refine za4 rfl hG h_l1 (fun _ h_l1=>?_) (fun _ h_l1=>?_)
 · refine za5 ?_
   refine za0 (zb6 (za0 ?_))
   obtain ⟨hb2,h_l1⟩:=za3 h_l1
   refine za1 hG ?_
   refine za0 (za1 hG ?_)
   obtain ⟨v1,hv1,h_l1⟩:=za2 h_l1
   refine za6 (fun hg=>zK2 (a0.getD g1.1.toNat Queue.zero) a1 _ (hv1)) ?_
   refine za0 (za1 hG ?_)
   refine za4 rfl hG h_l1 (fun _ h_l1=>?_) (fun _ h_l1=>?_)
   · obtain ⟨hb1,h_l1⟩:=za3 h_l1
     refine za1 hG ?_
     refine za1 hG ?_
     exact zd1 hK [(0,0),(1,4)] h_l1
   refine za5 ?_
   refine za1 hG ?_
   exact zd1 hK [(0,0),(1,1)] h_l1
 refine zc7 ?_
 obtain rfl:=Option.some.inj h_l1
 have hx:=hx_l1 _ rfl
 subst hx
 try dsimp only at h
 exact zc5 hK [(0,1)] g1.2 (by exact h)
attribute [local irreducible] zm5
noncomputable def zk8 :Option (Bool) :=
 (zs3 [{ Resource.zero with name:=(⟨#[97]⟩:ByteArray),kind:=1,units:=1 }]).bind fun v1 =>
 (zn9 0).bind fun v2 =>
 (zo5 v1.1 v2 (⟨(⟨#[97]⟩:ByteArray),{ Amount.zero with mode:=5 }⟩:Atom) 0).bind fun v3 =>
 (zm5 v3.1 v2).bind fun v4 =>
 gd ((((decide (v1.2=0))&&(decide (v3.2.2=0)))&&(decide ((v3.2.1.length:Int)=1)))=true→0≤0∧0 < (v3.2.1.length:Int)) <|
 gd ((((((decide (v1.2=0))&&(decide (v3.2.2=0)))&&(decide ((v3.2.1.length:Int)=1)))&&(decide ((v3.2.1.getD 0 Event.zero).kind=1)))&&(decide ((v4.length:Int)=1)))=true→0≤0∧0 < (v4.length:Int)) <|
 ((if ((((((decide (v1.2=0))&&(decide (v3.2.2=0)))&&(decide ((v3.2.1.length:Int)=1)))&&(decide ((v3.2.1.getD 0 Event.zero).kind=1)))&&(decide ((v4.length:Int)=1)))&&(decide ((v4.getD 0 Atom.zero)=(⟨(⟨#[97]⟩:ByteArray),{ Amount.zero with mode:=5 }⟩:Atom))))=true then zr5 v3.1 (⟨#[97]⟩:ByteArray) else some (0))).bind fun v5 =>
 ((if (((((((decide (v1.2=0))&&(decide (v3.2.2=0)))&&(decide ((v3.2.1.length:Int)=1)))&&(decide ((v3.2.1.getD 0 Event.zero).kind=1)))&&(decide ((v4.length:Int)=1)))&&(decide ((v4.getD 0 Atom.zero)=(⟨(⟨#[97]⟩:ByteArray),{ Amount.zero with mode:=5 }⟩:Atom))))&&(decide (v5=0)))=true then zk4 v3.1 else some (false))).bind fun v6 =>
 some ((((((((decide (v1.2=0))&&(decide (v3.2.2=0)))&&(decide ((v3.2.1.length:Int)=1)))&&(decide ((v3.2.1.getD 0 Event.zero).kind=1)))&&(decide ((v4.length:Int)=1)))&&(decide ((v4.getD 0 Atom.zero)=(⟨(⟨#[97]⟩:ByteArray),{ Amount.zero with mode:=5 }⟩:Atom))))&&(decide (v5=0)))&&v6)
theorem zM7  (r:Bool) (h:zk8=some r):PFn C 14 [] (.bool r):=by
 refine za8 zev5 rfl fun E hG hN hK=>?_
 unfold zcT3
 unfold zk8 at h
 refine za0 (za1 hG ?_)
 refine za0 (za1 hG ?_)
 obtain ⟨v1,hv1,h⟩:=za2 h
 refine za6 (fun hg=>PFn.unfull (zaG2 [{ Resource.zero with name:=(⟨#[97]⟩:ByteArray),kind:=1,units:=1 }] _ (hv1))) ?_
 refine za0 (za1 hG ?_)
 obtain ⟨v2,hv2,h⟩:=za2 h
 refine za6 (fun hg=>zac9 0 _ (hv2)) ?_
 refine za0 (za1 hG ?_)
 refine za0 (za1 hG ?_)
 obtain ⟨v3,hv3,h⟩:=za2 h
 have hc_v3:=zaf1 v1.1 v2 (⟨(⟨#[97]⟩:ByteArray),{ Amount.zero with mode:=5 }⟩:Atom) 0 _ (hv3)
 have el_v3:∀ x:Atom,Atom.enc x=[A.str x.name,A.int .i64 x.amount.mode,A.int .i64 x.amount.units]:=fun x=>rfl
 rw [el_v3] at hc_v3
 dsimp only at hc_v3
 refine za6 (fun hg=>by exact hc_v3) ?_
 refine za0 (za1 hG ?_)
 obtain ⟨v4,hv4,h⟩:=za2 h
 refine za6 (fun hg=>zaG6 v3.1 v2 _ (hv4)) ?_
 refine za0 ?_
 obtain ⟨hb1,h⟩:=za3 h
 obtain ⟨hb2,h⟩:=za3 h
 refine zn3 zd2 hG ?_
 obtain ⟨v5,hv5,h⟩:=za2 h
 refine zf7 (fun hg=>zaB6 v3.1 (⟨#[97]⟩:ByteArray) _ (zA6 hg hv5)) ?_
 obtain ⟨v6,hv6,h⟩:=za2 h
 refine zf7 (fun hg=>zau6 v3.1 _ (zA6 hg hv6)) ?_
 refine za7 ?_
 exact zb0 h
attribute [local irreducible] zk8
noncomputable def zM8  (j1:Unit):Option (Bool) :=
 some true
@[go_sem] def zeh4  (j1:Unit):St:=⟨[],[],0⟩
noncomputable def zaa7 (a0:List Hold) (a1:List Hold) (g1:Int):Option ((Int)⊕((Unit)⊕(Bool))) :=
 (if (decide (g1 < (a0.length:Int)))=true then
  gd (0≤g1∧g1 < (a0.length:Int)) <|
  gd (0≤g1∧g1 < (a1.length:Int)) <|
  (if (!decide ((a0.getD g1.toNat Hold.zero)=(a1.getD g1.toNat Hold.zero)))=true then
   some (.inr (.inr false))
  else
   some (.inl (IntKind.i64.wrap (g1+1))))
 else
  some (.inr (.inl ())))
@[go_sem] def zeh5 (a0:List Hold) (a1:List Hold) (g1:Int):St:=⟨[(0,.sl (a0.map Hold.enc)),(1,.sl (a1.map Hold.enc)),(5,.int .i64 g1)],[],0⟩
noncomputable def zk9 (a0:List Hold) (a1:List Hold):Option (Bool) :=
 (if (!decide ((a0.length:Int)=(a1.length:Int)))=true then
  some false
 else
  (zb9 (zaa7 a0 a1) 0).bind (fun | .inl z=>zM8 z | .inr z=>some z))
theorem zaD9 (a0:List Hold) (a1:List Hold) (r:Bool) (h:zk9 a0 a1=some r):PFn C 29 [.sl (a0.map Hold.enc),.sl (a1.map Hold.enc)] (.bool r):=by
 refine za8 zev6 rfl fun E hG hN hK=>?_
 unfold zcU3
 unfold zk9 at h
 refine za0 (za1 hG ?_)
 refine za0 (za0 (za1 hG ?_))
 refine za4 rfl hG h (fun _ h=>?_) (fun _ h=>?_)
 · refine za0 (za1 hG ?_)
   refine za7 ?_
   exact zb0 h
 refine za5 ?_
 refine za0 (za0 (za1 hG ?_))
 refine zb4 (zeh4) (fun v=>zM8 v=some r) ?_ ?_
 · intro j1 h
   unfold zM8 at h
   refine g_st ?_
   refine za0 (za1 hG ?_)
   refine za7 ?_
   exact zb0 h
 refine zd9 (zeh5 a0 a1) hK [] h (fun x_l1 h g1 y_l1 h_l1 hx_l1=>?_)
 unfold zaa7 at h_l1
 refine g_st ?_
 refine za0 (za0 (za1 hG ?_))
 refine za4 rfl hG h_l1 (fun _ h_l1=>?_) (fun _ h_l1=>?_)
 · refine za5 ?_
   refine za0 (zb6 (za0 ?_))
   obtain ⟨hb1,h_l1⟩:=za3 h_l1
   obtain ⟨hb2,h_l1⟩:=za3 h_l1
   refine zn3 zd2 hG ?_
   refine za4 rfl hG h_l1 (fun _ h_l1=>?_) (fun _ h_l1=>?_)
   · refine za0 (za1 hG ?_)
     refine za7 ?_
     obtain rfl:=Option.some.inj h_l1
     have hx:=hx_l1 _ rfl
     subst hx
     try dsimp only at h
     exact zb0 h
   refine za5 ?_
   refine za1 hG ?_
   exact zd1 hK [] h_l1
 refine zc7 ?_
 obtain rfl:=Option.some.inj h_l1
 have hx:=hx_l1 _ rfl
 subst hx
 try dsimp only at h
 exact zc5 hK [] () (by exact h)
attribute [local irreducible] zk9
noncomputable def zM9  (j1:Unit):Option (Bool) :=
 some true
@[go_sem] def zeh6  (j1:Unit):St:=⟨[],[],0⟩
noncomputable def zaa8 (a0:List Wait) (a1:List Wait) (g1:Int):Option ((Int)⊕((Unit)⊕(Bool))) :=
 (if (decide (g1 < (a0.length:Int)))=true then
  gd (0≤g1∧g1 < (a0.length:Int)) <|
  gd (0≤g1∧g1 < (a1.length:Int)) <|
  (if (!decide ((a0.getD g1.toNat Wait.zero)=(a1.getD g1.toNat Wait.zero)))=true then
   some (.inr (.inr false))
  else
   some (.inl (IntKind.i64.wrap (g1+1))))
 else
  some (.inr (.inl ())))
@[go_sem] def zeh7 (a0:List Wait) (a1:List Wait) (g1:Int):St:=⟨[(0,.sl (a0.map Wait.enc)),(1,.sl (a1.map Wait.enc)),(5,.int .i64 g1)],[],0⟩
noncomputable def zi4 (a0:List Wait) (a1:List Wait):Option (Bool) :=
 (if (!decide ((a0.length:Int)=(a1.length:Int)))=true then
  some false
 else
  (zb9 (zaa8 a0 a1) 0).bind (fun | .inl z=>zM9 z | .inr z=>some z))
theorem zaf2 (a0:List Wait) (a1:List Wait) (r:Bool) (h:zi4 a0 a1=some r):PFn C 64 [.sl (a0.map Wait.enc),.sl (a1.map Wait.enc)] (.bool r):=by
 refine za8 zev7 rfl fun E hG hN hK=>?_
 unfold zcV3
 unfold zi4 at h
 refine za0 (za1 hG ?_)
 refine za0 (za0 (za1 hG ?_))
 refine za4 rfl hG h (fun _ h=>?_) (fun _ h=>?_)
 · refine za0 (za1 hG ?_)
   refine za7 ?_
   exact zb0 h
 refine za5 ?_
 refine za0 (za0 (za1 hG ?_))
 refine zb4 (zeh6) (fun v=>zM9 v=some r) ?_ ?_
 · intro j1 h
   unfold zM9 at h
   refine g_st ?_
   refine za0 (za1 hG ?_)
   refine za7 ?_
   exact zb0 h
 refine zd9 (zeh7 a0 a1) hK [] h (fun x_l1 h g1 y_l1 h_l1 hx_l1=>?_)
 unfold zaa8 at h_l1
 refine g_st ?_
 refine za0 (za0 (za1 hG ?_))
 refine za4 rfl hG h_l1 (fun _ h_l1=>?_) (fun _ h_l1=>?_)
 · refine za5 ?_
   refine za0 (zb6 (za0 ?_))
   obtain ⟨hb1,h_l1⟩:=za3 h_l1
   obtain ⟨hb2,h_l1⟩:=za3 h_l1
   refine zn3 zd2 hG ?_
   refine za4 rfl hG h_l1 (fun _ h_l1=>?_) (fun _ h_l1=>?_)
   · refine za0 (za1 hG ?_)
     refine za7 ?_
     obtain rfl:=Option.some.inj h_l1
     have hx:=hx_l1 _ rfl
     subst hx
     try dsimp only at h
     exact zb0 h
   refine za5 ?_
   refine za1 hG ?_
   exact zd1 hK [] h_l1
 refine zc7 ?_
 obtain rfl:=Option.some.inj h_l1
 have hx:=hx_l1 _ rfl
 subst hx
 try dsimp only at h
 exact zc5 hK [] () (by exact h)
attribute [local irreducible] zi4
noncomputable def zp5 (a0:Queue) (a1:Queue):Option (Bool) :=
 ((if ((decide (a0.resource=a1.resource))&&(decide (a0.gen=a1.gen)))=true then zk9 a0.holds a1.holds else some (false))).bind fun v1 =>
 ((if (((decide (a0.resource=a1.resource))&&(decide (a0.gen=a1.gen)))&&v1)=true then zi4 a0.converts a1.converts else some (false))).bind fun v2 =>
 ((if ((((decide (a0.resource=a1.resource))&&(decide (a0.gen=a1.gen)))&&v1)&&v2)=true then zi4 a0.waits a1.waits else some (false))).bind fun v3 =>
 some (((((decide (a0.resource=a1.resource))&&(decide (a0.gen=a1.gen)))&&v1)&&v2)&&v3)
theorem zaB7 (a0:Queue) (a1:Queue) (r:Bool) (h:zp5 a0 a1=some r):PFn C 25 [.agg (Queue.enc a0),.agg (Queue.enc a1)] (.bool r):=by
 refine za8 zev8 rfl fun E hG hN hK=>?_
 unfold zcV6
 unfold zp5 at h
 refine za0 (za1 hG ?_)
 refine za0 (za1 hG ?_)
 obtain ⟨v1,hv1,h⟩:=za2 h
 refine za6 (fun hg=>zaD9 a0.holds a1.holds _ (zA6 hg hv1)) ?_
 obtain ⟨v2,hv2,h⟩:=za2 h
 refine za6 (fun hg=>zaf2 a0.converts a1.converts _ (zA6 hg hv2)) ?_
 obtain ⟨v3,hv3,h⟩:=za2 h
 refine za6 (fun hg=>zaf2 a0.waits a1.waits _ (zA6 hg hv3)) ?_
 refine za7 ?_
 exact zb0 h
attribute [local irreducible] zp5
noncomputable def zR5  (j1:Unit):Option (Bool) :=
 some true
@[go_sem] def zeh8  (j1:Unit):St:=⟨[],[],0⟩
noncomputable def zE2 (a0:List Queue) (a1:List Queue) (g1:Int):Option ((Int)⊕((Unit)⊕(Bool))) :=
 (if (decide (g1 < (a0.length:Int)))=true then
  gd (0≤g1∧g1 < (a0.length:Int)) <|
  gd (0≤g1∧g1 < (a1.length:Int)) <|
  (zp5 (a0.getD g1.toNat Queue.zero) (a1.getD g1.toNat Queue.zero)).bind fun v1 =>
  (if (!v1)=true then
   some (.inr (.inr false))
  else
   some (.inl (IntKind.i64.wrap (g1+1))))
 else
  some (.inr (.inl ())))
@[go_sem] def zeh9 (a0:List Queue) (a1:List Queue) (g1:Int):St:=⟨[(0,.sl (a0.map Queue.enc)),(1,.sl (a1.map Queue.enc)),(5,.int .i64 g1)],[],0⟩
noncomputable def zu1 (a0:List Queue) (a1:List Queue):Option (Bool) :=
 (if (!decide ((a0.length:Int)=(a1.length:Int)))=true then
  some false
 else
  (zb9 (zE2 a0 a1) 0).bind (fun | .inl z=>zR5 z | .inr z=>some z))
theorem zbh5 (a0:List Queue) (a1:List Queue) (r:Bool) (h:zu1 a0 a1=some r):PFn C 15 [.sl (a0.map Queue.enc),.sl (a1.map Queue.enc)] (.bool r):=by
 refine za8 zev9 rfl fun E hG hN hK=>?_
 unfold zcW6
 unfold zu1 at h
 refine za0 (za1 hG ?_)
 refine za0 (za0 (za1 hG ?_))
 refine za4 rfl hG h (fun _ h=>?_) (fun _ h=>?_)
 · refine za0 (za1 hG ?_)
   refine za7 ?_
   exact zb0 h
 refine za5 ?_
 refine za0 (za0 (za1 hG ?_))
 refine zb4 (zeh8) (fun v=>zR5 v=some r) ?_ ?_
 · intro j1 h
   unfold zR5 at h
   refine g_st ?_
   refine za0 (za1 hG ?_)
   refine za7 ?_
   exact zb0 h
 refine zd9 (zeh9 a0 a1) hK [] h (fun x_l1 h g1 y_l1 h_l1 hx_l1=>?_)
 unfold zE2 at h_l1
 refine g_st ?_
 refine za0 (za0 (za1 hG ?_))
 refine za4 rfl hG h_l1 (fun _ h_l1=>?_) (fun _ h_l1=>?_)
 · refine za5 ?_
   refine za0 (zb6 (za0 ?_))
   obtain ⟨hb1,h_l1⟩:=za3 h_l1
   obtain ⟨hb2,h_l1⟩:=za3 h_l1
   refine zn3 zd2 hG ?_
   obtain ⟨v1,hv1,h_l1⟩:=za2 h_l1
   refine zf7 (fun hg=>zaB7 (a0.getD g1.toNat Queue.zero) (a1.getD g1.toNat Queue.zero) _ (hv1)) ?_
   refine za4 rfl hG h_l1 (fun _ h_l1=>?_) (fun _ h_l1=>?_)
   · refine za0 (za1 hG ?_)
     refine za7 ?_
     obtain rfl:=Option.some.inj h_l1
     have hx:=hx_l1 _ rfl
     subst hx
     try dsimp only at h
     exact zb0 h
   refine za5 ?_
   refine za1 hG ?_
   exact zd1 hK [] h_l1
 refine zc7 ?_
 obtain rfl:=Option.some.inj h_l1
 have hx:=hx_l1 _ rfl
 subst hx
 try dsimp only at h
 exact zc5 hK [] () (by exact h)
attribute [local irreducible] zu1
noncomputable def zaM1  (j1:Unit):Option (Bool) :=
 some true
@[go_sem] def zeX2  (j1:Unit):St:=⟨[],[],0⟩
noncomputable def zaM2 (a0:List Queue) (g1:Int):Option ((Int)⊕((Unit)⊕(Bool))) :=
 (if (decide (g1 < (a0.length:Int)))=true then
  gd (0≤g1∧g1 < (a0.length:Int)) <|
  gd ((!(decide (20 < (((a0.getD g1.toNat Queue.zero).holds).length:Int))))=true→0≤g1∧g1 < (a0.length:Int)) <|
  gd ((!((decide (20 < (((a0.getD g1.toNat Queue.zero).holds).length:Int)))||(decide (20 < (((a0.getD g1.toNat Queue.zero).converts).length:Int)))))=true→0≤g1∧g1 < (a0.length:Int)) <|
  (if (((decide (20 < (((a0.getD g1.toNat Queue.zero).holds).length:Int)))||(decide (20 < (((a0.getD g1.toNat Queue.zero).converts).length:Int))))||(decide (20 < (((a0.getD g1.toNat Queue.zero).waits).length:Int))))=true then
   some (.inr (.inr false))
  else
   some (.inl (IntKind.i64.wrap (g1+1))))
 else
  some (.inr (.inl ())))
@[go_sem] def zeX3 (a0:List Queue) (g1:Int):St:=⟨[(0,.sl (a0.map Queue.enc)),(3,.int .i64 g1)],[],0⟩
noncomputable def zR1 (a0:List Queue):Option (Bool) :=
 (if (decide (20 < (a0.length:Int)))=true then
  some false
 else
  (zb9 (zaM2 a0) 0).bind (fun | .inl z=>zaM1 z | .inr z=>some z))
attribute [local irreducible] zR1
def ze7 (a0:Proc):Bool :=
 ((((((decide (0≤a0.site))&&(decide (a0.site < 4)))&&(decide (1≤a0.inc)))&&(decide (a0.inc≤99)))&&(decide (1≤a0.num)))&&(decide (a0.num≤999)))
theorem zI9 (a0:Proc):PFn C 97 [.agg (Proc.enc a0)] (.bool (ze7 a0)):=by
 generalize h:ze7 a0=r
 refine za8 zew9 rfl fun E hG hN hK=>?_
 unfold zcW9
 unfold ze7 at h
 refine za0 (za1 hG ?_)
 refine za0 (za1 hG ?_)
 refine za7 ?_
 exact zf1 h
def zl0 (a0:Int):Bool :=
 ((decide (1≤a0))&&(decide (a0≤5)))
theorem zH2 (a0:Int):PFn C 143 [.int .i64 a0] (.bool (zl0 a0)):=by
 generalize h:zl0 a0=r
 refine za8 zex0 rfl fun E hG hN hK=>?_
 unfold zcX2
 unfold zl0 at h
 refine za0 (za1 hG ?_)
 refine za0 (za1 hG ?_)
 refine za7 ?_
 exact zf1 h
def zh3 (a0:Resource) (a1:Amount):Bool :=
 (if (!(zq1 a0))=true then
  false
 else
  (if (decide (a0.kind=1))=true then
   ((zl0 a1.mode)&&(decide (a1.units=0)))
  else
   (((decide (a1.mode=0))&&(decide (1≤a1.units)))&&(decide (a1.units≤a0.units)))))
theorem zK4 (a0:Resource) (a1:Amount):PFn C 98 [.agg (Resource.enc a0),.agg (Amount.enc a1)] (.bool (zh3 a0 a1)):=by
 generalize h:zh3 a0 a1=r
 refine za8 zex1 rfl fun E hG hN hK=>?_
 unfold zcX9
 unfold zh3 at h
 refine za0 (za1 hG ?_)
 refine za0 (za0 (za1 hG ?_))
 refine za6 (fun hg=>zK0 a0) ?_
 refine za4 rfl hG h (fun _ h=>?_) (fun _ h=>?_)
 · refine za0 (za1 hG ?_)
   refine za7 ?_
   exact zf1 h
 refine za5 ?_
 refine za0 (za0 (za1 hG ?_))
 refine za4 rfl hG h (fun _ h=>?_) (fun _ h=>?_)
 · refine za0 (za1 hG ?_)
   refine za6 (fun hg=>zH2 a1.mode) ?_
   refine za7 ?_
   exact zf1 h
 refine za5 ?_
 refine za0 (za1 hG ?_)
 refine za7 ?_
 exact zf1 h
def zt1 (a0:Int) (a1:Int):Int :=
 (if (decide (a0 < a1))=true then
  (-1)
 else
  (if (decide (a1 < a0))=true then
   1
  else
   0))
theorem zaf3 (a0:Int) (a1:Int):PFn C 111 [.int .i64 a0,.int .i64 a1] (.int .i64 (zt1 a0 a1)):=by
 generalize h:zt1 a0 a1=r
 refine za8 zex2 rfl fun E hG hN hK=>?_
 unfold zcY6
 unfold zt1 at h
 refine za0 (za1 hG ?_)
 refine za0 (za0 (za1 hG ?_))
 refine za4 rfl hG h (fun _ h=>?_) (fun _ h=>?_)
 · refine za0 (za1 hG ?_)
   refine za7 ?_
   exact zf1 h
 refine za5 ?_
 refine za0 (za0 (za1 hG ?_))
 refine za4 rfl hG h (fun _ h=>?_) (fun _ h=>?_)
 · refine za0 (za1 hG ?_)
   refine za7 ?_
   exact zf1 h
 refine za5 ?_
 refine za0 (za1 hG ?_)
 refine za7 ?_
 exact zf1 h
def zj4 (a0:Proc) (a1:Proc):Int :=
 (if (!decide ((zt1 a0.site a1.site)=0))=true then
  (zt1 a0.site a1.site)
 else
  (if (!decide ((zt1 a0.inc a1.inc)=0))=true then
   (zt1 a0.inc a1.inc)
  else
   (zt1 a0.num a1.num)))
theorem zN0 (a0:Proc) (a1:Proc):PFn C 68 [.agg (Proc.enc a0),.agg (Proc.enc a1)] (.int .i64 (zj4 a0 a1)):=by
 generalize h:zj4 a0 a1=r
 refine za8 zex3 rfl fun E hG hN hK=>?_
 unfold zcZ5
 unfold zj4 at h
 refine za0 (za1 hG ?_)
 refine za0 (za0 (za1 hG ?_))
 refine za6 (fun hg=>zaf3 a0.site a1.site) ?_
 refine za0 (za1 hG ?_)
 refine za4 rfl hG h (fun _ h=>?_) (fun _ h=>?_)
 · refine za0 (za1 hG ?_)
   refine za7 ?_
   exact zf1 h
 refine za5 ?_
 refine za0 (za0 (za1 hG ?_))
 refine za6 (fun hg=>zaf3 a0.inc a1.inc) ?_
 refine za0 (za1 hG ?_)
 refine za4 rfl hG h (fun _ h=>?_) (fun _ h=>?_)
 · refine za0 (za1 hG ?_)
   refine za7 ?_
   exact zf1 h
 refine za5 ?_
 refine za0 (za1 hG ?_)
 refine za6 (fun hg=>zaf3 a0.num a1.num) ?_
 refine za7 ?_
 exact zf1 h
noncomputable def zJ0  (j1:(List Amount)):Option ((List Amount)) :=
 some j1
@[go_sem] def zei0  (j1:(List Amount)):St:=⟨[(3,.own 0 0 j1.length)],[(0,⟨false,2,(Amount.enc Amount.zero),j1.map Amount.enc⟩)],1⟩
noncomputable def zC6 (a0:List Hold) (g1:Int×(List Amount)):Option ((Int×(List Amount))⊕(((List Amount)))) :=
 (if (decide (g1.1 < (a0.length:Int)))=true then
  gd (0≤g1.1∧g1.1 < (a0.length:Int)) <|
  gd (g1.2.length+1≤4294967296) <|
  some (.inl ((IntKind.i64.wrap (g1.1+1)),(g1.2++[(a0.getD g1.1.toNat Hold.zero).amount])))
 else
  some (.inr g1.2))
@[go_sem] def zei1 (a0:List Hold) (g1:Int×(List Amount)):St:=⟨[(0,.sl (a0.map Hold.enc)),(3,.own 0 0 g1.2.length),(4,.int .i64 g1.1)],[(0,⟨false,2,(Amount.enc Amount.zero),g1.2.map Amount.enc⟩)],1⟩
noncomputable def zo6 (a0:List Hold):Option ((List Amount)) :=
 (zb9 (zC6 a0) (0,[])).bind (fun z=>zJ0 z)
theorem zaM3 (a0:List Hold) (r:(List Amount)) (h:zo6 a0=some r):PFn C 184 [.sl (a0.map Hold.enc)] (.sl (r.map Amount.enc)):=by
 refine za8 zex4 rfl fun E hG hN hK=>?_
 unfold zda3
 unfold zo6 at h
 refine za0 (za1 hG ?_)
 refine za0 (za1 hG ?_)
 refine za0 (za0 (za1 hG ?_))
 refine zb4 (zei0) (fun v=>zJ0 v=some r) ?_ ?_
 · intro j1 h
   unfold zJ0 at h
   refine g_st ?_
   refine za0 (za1 hG ?_)
   refine za7 ?_
   exact zb0 h
 refine zd9 (zei1 a0) hK [(0,0)] h (fun x_l1 h g1 y_l1 h_l1 hx_l1=>?_)
 unfold zC6 at h_l1
 refine g_st ?_
 refine za0 (za0 (za1 hG ?_))
 refine za4 rfl hG h_l1 (fun _ h_l1=>?_) (fun _ h_l1=>?_)
 · refine za5 ?_
   refine za0 (zb6 ?_)
   obtain ⟨hb1,h_l1⟩:=za3 h_l1
   obtain ⟨hb2,h_l1⟩:=za3 h_l1
   refine za1 hG ?_
   refine za1 hG ?_
   exact zd1 hK [(0,1)] h_l1
 refine zc7 ?_
 obtain rfl:=Option.some.inj h_l1
 have hx:=hx_l1 _ rfl
 subst hx
 try dsimp only at h
 exact zc5 hK [(0,0)] g1.2 (by exact h)
attribute [local irreducible] zo6
def zd0 (a0:Amount):Bool :=
 (decide (a0={ Amount.zero with  }))
theorem zt2 (a0:Amount):PFn C 30 [.agg (Amount.enc a0)] (.bool (zd0 a0)):=by
 generalize h:zd0 a0=r
 refine za8 zex5 rfl fun E hG hN hK=>?_
 unfold zda6
 unfold zd0 at h
 refine za0 (za1 hG ?_)
 refine za0 (za1 hG ?_)
 refine za7 ?_
 exact zf1 h
def zf2 (a0:Resource) (a1:Amount):Bool :=
 ((zq1 a0)&&((zd0 a1)||(zh3 a0 a1)))
theorem zC7 (a0:Resource) (a1:Amount):PFn C 145 [.agg (Resource.enc a0),.agg (Amount.enc a1)] (.bool (zf2 a0 a1)):=by
 generalize h:zf2 a0 a1=r
 refine za8 zex6 rfl fun E hG hN hK=>?_
 unfold zda9
 unfold zf2 at h
 refine za0 (za1 hG ?_)
 refine za0 (za1 hG ?_)
 refine za6 (fun hg=>zK0 a0) ?_
 refine za6 (fun hg=>zt2 a1) ?_
 refine za6 (fun hg=>zK4 a0 a1) ?_
 refine za7 ?_
 exact zf1 h
def zr8 (a0:Int) (a1:Int):Bool :=
 (if ((((!(zl0 a0))||(!(zl0 a1)))||(decide (a0=5)))||(decide (a1=5)))=true then
  false
 else
  (((decide (a0=1))||(decide (a1=1)))||((decide (a0=a1))&&(!decide (a0=4)))))
theorem zaA0 (a0:Int) (a1:Int):PFn C 191 [.int .i64 a0,.int .i64 a1] (.bool (zr8 a0 a1)):=by
 generalize h:zr8 a0 a1=r
 refine za8 zex7 rfl fun E hG hN hK=>?_
 unfold zdb4
 unfold zr8 at h
 refine za0 (za1 hG ?_)
 refine za0 (za0 (za1 hG ?_))
 refine za6 (fun hg=>zH2 a0) ?_
 refine za6 (fun hg=>zH2 a1) ?_
 refine za4 rfl hG h (fun _ h=>?_) (fun _ h=>?_)
 · refine za0 (za1 hG ?_)
   refine za7 ?_
   exact zf1 h
 refine za5 ?_
 refine za0 (za1 hG ?_)
 refine za7 ?_
 exact zf1 h
noncomputable def zK7  (j1:Unit):Option (Bool) :=
 some true
@[go_sem] def zei2  (j1:Unit):St:=⟨[],[],0⟩
noncomputable def zD9 (g1:Int×Int) (j2:Unit):Option ((Int×Int)⊕((Unit)⊕(Bool))) :=
 some (.inl (g1.1,(IntKind.i64.wrap (g1.2+1))))
@[go_sem] def zei3 (a0:Resource) (a1:List Amount) (g1:Int×Int) (j2:Unit):St:=⟨[(1,.sl (a1.map Amount.enc)),(2,.ptr 0 0 0),(5,.int .i64 g1.1),(6,.int .i64 g1.2)],[(0,⟨false,4,(Resource.enc Resource.zero),[Resource.enc a0]⟩)],1⟩
noncomputable def zq0 (a1:List Amount) (g1:Int×Int) (g2:Int):Option ((Int)⊕((Unit)⊕(Bool))) :=
 (if (decide (g2 < g1.2))=true then
  gd (0≤g1.2∧g1.2 < (a1.length:Int)) <|
  gd ((!(zd0 (a1.getD g1.2.toNat Amount.zero)))=true→0≤g2∧g2 < (a1.length:Int)) <|
  gd (((!(zd0 (a1.getD g1.2.toNat Amount.zero)))&&(!(zd0 (a1.getD g2.toNat Amount.zero))))=true→0≤g1.2∧g1.2 < (a1.length:Int)) <|
  gd (((!(zd0 (a1.getD g1.2.toNat Amount.zero)))&&(!(zd0 (a1.getD g2.toNat Amount.zero))))=true→0≤g2∧g2 < (a1.length:Int)) <|
  (if (((!(zd0 (a1.getD g1.2.toNat Amount.zero)))&&(!(zd0 (a1.getD g2.toNat Amount.zero))))&&(!(zr8 ((a1.getD g1.2.toNat Amount.zero).mode) ((a1.getD g2.toNat Amount.zero).mode))))=true then
   some (.inr (.inr false))
  else
   some (.inl (IntKind.i64.wrap (g2+1))))
 else
  some (.inr (.inl ())))
@[go_sem] def zei4 (a0:Resource) (a1:List Amount) (g1:Int×Int) (g2:Int):St:=⟨[(1,.sl (a1.map Amount.enc)),(2,.ptr 0 0 0),(5,.int .i64 g1.1),(6,.int .i64 g1.2),(7,.int .i64 g2)],[(0,⟨false,4,(Resource.enc Resource.zero),[Resource.enc a0]⟩)],1⟩
noncomputable def zw2 (a0:Resource) (a1:List Amount) (g1:Int×Int):Option ((Int×Int)⊕((Unit)⊕(Bool))) :=
 (if (decide (g1.2 < (a1.length:Int)))=true then
  gd (0≤g1.2∧g1.2 < (a1.length:Int)) <|
  (if (!(zf2 a0 (a1.getD g1.2.toNat Amount.zero)))=true then
   some (.inr (.inr false))
  else
   (if (decide (a0.kind=2))=true then
    gd (0≤g1.2∧g1.2 < (a1.length:Int)) <|
    (if (decide (a0.units < (IntKind.i64.wrap (g1.1+(a1.getD g1.2.toNat Amount.zero).units))))=true then
     some (.inr (.inr false))
    else
     some (.inl ((IntKind.i64.wrap (g1.1+(a1.getD g1.2.toNat Amount.zero).units)),(IntKind.i64.wrap (g1.2+1)))))
   else
    (zb9 (zq0 a1 g1) 0).bind (fun | .inl z=>zD9 g1 z | .inr z=>some (.inr (.inr z)))))
 else
  some (.inr (.inl ())))
@[go_sem] def zei5 (a0:Resource) (a1:List Amount) (g1:Int×Int):St:=⟨[(1,.sl (a1.map Amount.enc)),(2,.ptr 0 0 0),(5,.int .i64 g1.1),(6,.int .i64 g1.2)],[(0,⟨false,4,(Resource.enc Resource.zero),[Resource.enc a0]⟩)],1⟩
noncomputable def zi9 (a0:Resource) (a1:List Amount):Option (Bool) :=
 (if (!(zq1 a0))=true then
  some false
 else
  (zb9 (zw2 a0 a1) (0,0)).bind (fun | .inl z=>zK7 z | .inr z=>some z))
theorem zaA1 (a0:Resource) (a1:List Amount) (r:Bool) (h:zi9 a0 a1=some r):PFn C 183 [.agg (Resource.enc a0),.sl (a1.map Amount.enc)] (.bool r):=by
 refine za8 zex8 rfl fun E hG hN hK=>?_
 unfold zdc5
 unfold zi9 at h
 refine za0 (za1 hG ?_)
 refine za0 (za0 (za1 hG ?_))
 refine za6 (fun hg=>zK0 a0) ?_
 refine za4 rfl hG h (fun _ h=>?_) (fun _ h=>?_)
 · refine za0 (za1 hG ?_)
   refine za7 ?_
   exact zb0 h
 refine za5 ?_
 refine za0 (za1 hG ?_)
 refine za0 (za0 (za1 hG ?_))
 refine zb4 (zei2) (fun v=>zK7 v=some r) ?_ ?_
 · intro j1 h
   unfold zK7 at h
   refine g_st ?_
   refine za0 (za1 hG ?_)
   refine za7 ?_
   exact zb0 h
 refine zd9 (zei5 a0 a1) hK [(0,0)] h (fun x_l1 h g1 y_l1 h_l1 hx_l1=>?_)
 unfold zw2 at h_l1
 refine g_st ?_
 refine za0 (za0 (za1 hG ?_))
 refine za4 rfl hG h_l1 (fun _ h_l1=>?_) (fun _ h_l1=>?_)
 · refine za5 ?_
   refine za0 (zb6 (za0 (za0 ?_)))
   obtain ⟨hb6,h_l1⟩:=za3 h_l1
   refine zn3 zd2 hG ?_
   refine zf7 (fun hg=>zC7 a0 (a1.getD g1.2.toNat Amount.zero)) ?_
   refine za4 rfl hG h_l1 (fun _ h_l1=>?_) (fun _ h_l1=>?_)
   · refine za0 (za1 hG ?_)
     refine za7 ?_
     obtain rfl:=Option.some.inj h_l1
     have hx:=hx_l1 _ rfl
     subst hx
     try dsimp only at h
     exact zb0 h
   refine za5 ?_
   refine za0 (za0 (za1 hG ?_))
   refine za4 rfl hG h_l1 (fun _ h_l1=>?_) (fun _ h_l1=>?_)
   · refine za0 ?_
     obtain ⟨hb1,h_l1⟩:=za3 h_l1
     refine za1 hG ?_
     refine za0 (za0 (za1 hG ?_))
     refine za4 rfl hG h_l1 (fun _ h_l1=>?_) (fun _ h_l1=>?_)
     · refine za0 (za1 hG ?_)
       refine za7 ?_
       obtain rfl:=Option.some.inj h_l1
       have hx:=hx_l1 _ rfl
       subst hx
       try dsimp only at h
       exact zb0 h
     refine za5 ?_
     refine zc7 ?_
     refine za1 hG ?_
     exact zd1 hK [(0,0)] h_l1
   refine za5 ?_
   refine za0 (za1 hG ?_)
   refine zb4 (zei3 a0 a1 g1) (fun v=>zD9 g1 v=some y_l1) ?_ ?_
   · intro j2 h_l1
     unfold zD9 at h_l1
     refine g_st ?_
     refine za1 hG ?_
     exact zd1 hK [(0,0)] h_l1
   refine zd9 (zei4 a0 a1 g1) hK [(0,0)] h_l1 (fun x_l2 h_l1 g2 y_l2 h_l2 hx_l2=>?_)
   unfold zq0 at h_l2
   refine g_st ?_
   refine za0 (za0 (za1 hG ?_))
   refine za4 rfl hG h_l2 (fun _ h_l2=>?_) (fun _ h_l2=>?_)
   · refine za5 ?_
     refine za0 (zb6 (za0 ?_))
     obtain ⟨hb2,h_l2⟩:=za3 h_l2
     refine zn3 zd2 hG ?_
     obtain ⟨hb3,h_l2⟩:=za3 h_l2
     refine zf7 (fun hg=>zt2 (a1.getD g1.2.toNat Amount.zero)) ?_
     obtain ⟨hb4,h_l2⟩:=za3 h_l2
     obtain ⟨hb5,h_l2⟩:=za3 h_l2
     refine zf7 (fun hg=>zt2 (a1.getD g2.toNat Amount.zero)) ?_
     refine zf7 (fun hg=>zaA0 ((a1.getD g1.2.toNat Amount.zero).mode) ((a1.getD g2.toNat Amount.zero).mode)) ?_
     refine za4 rfl hG h_l2 (fun _ h_l2=>?_) (fun _ h_l2=>?_)
     · refine za0 (za1 hG ?_)
       refine za7 ?_
       obtain rfl:=Option.some.inj h_l2
       have hx:=hx_l2 _ rfl
       subst hx
       try dsimp only at h_l1
       obtain rfl:=Option.some.inj h_l1
       have hx:=hx_l1 _ rfl
       subst hx
       try dsimp only at h
       exact zb0 h
     refine za5 ?_
     refine za1 hG ?_
     exact zd1 hK [(0,0)] h_l2
   refine zc7 ?_
   obtain rfl:=Option.some.inj h_l2
   have hx:=hx_l2 _ rfl
   subst hx
   try dsimp only at h_l1
   exact zc5 hK [(0,0)] () (by exact h_l1)
 refine zc7 ?_
 obtain rfl:=Option.some.inj h_l1
 have hx:=hx_l1 _ rfl
 subst hx
 try dsimp only at h
 exact zc5 hK [] () (by exact h)
attribute [local irreducible] zi9
noncomputable def zO8 (a0:Resource) (a1:List Hold) (j1:Unit):Option (Bool) :=
 (zo6 a1).bind fun v1 =>
 (zi9 a0 v1).bind fun v2 =>
 some v2
@[go_sem] def zei6 (a0:Resource) (a1:List Hold) (j1:Unit):St:=⟨[(1,.sl (a1.map Hold.enc)),(2,.ptr 0 0 0)],[(0,⟨false,4,(Resource.enc Resource.zero),[Resource.enc a0]⟩)],1⟩
noncomputable def zH3 (a0:Resource) (a1:List Hold) (g1:Int):Option ((Int)⊕((Unit)⊕(Bool))) :=
 (if (decide (g1 < (a1.length:Int)))=true then
  gd (0≤g1∧g1 < (a1.length:Int)) <|
  gd ((ze7 ((a1.getD g1.toNat Hold.zero).proc))=true→0≤g1∧g1 < (a1.length:Int)) <|
  gd (((!((!(ze7 ((a1.getD g1.toNat Hold.zero).proc)))||(!(zh3 a0 ((a1.getD g1.toNat Hold.zero).amount)))))&&(decide (0 < g1)))=true→0≤(IntKind.i64.wrap (g1 - 1))∧(IntKind.i64.wrap (g1 - 1)) < (a1.length:Int)) <|
  gd (((!((!(ze7 ((a1.getD g1.toNat Hold.zero).proc)))||(!(zh3 a0 ((a1.getD g1.toNat Hold.zero).amount)))))&&(decide (0 < g1)))=true→0≤g1∧g1 < (a1.length:Int)) <|
  (if (((!(ze7 ((a1.getD g1.toNat Hold.zero).proc)))||(!(zh3 a0 ((a1.getD g1.toNat Hold.zero).amount))))||((decide (0 < g1))&&(decide (0≤(zj4 ((a1.getD ((IntKind.i64.wrap (g1 - 1)).toNat) Hold.zero).proc) ((a1.getD g1.toNat Hold.zero).proc))))))=true then
   some (.inr (.inr false))
  else
   some (.inl (IntKind.i64.wrap (g1+1))))
 else
  some (.inr (.inl ())))
@[go_sem] def zei7 (a0:Resource) (a1:List Hold) (g1:Int):St:=⟨[(1,.sl (a1.map Hold.enc)),(2,.ptr 0 0 0),(5,.int .i64 g1)],[(0,⟨false,4,(Resource.enc Resource.zero),[Resource.enc a0]⟩)],1⟩
noncomputable def zo7 (a0:Resource) (a1:List Hold):Option (Bool) :=
 (if ((!(zq1 a0))||(decide (8 < (a1.length:Int))))=true then
  some false
 else
  (zb9 (zH3 a0 a1) 0).bind (fun | .inl z=>zO8 a0 a1 z | .inr z=>some z))
theorem zaf4 (a0:Resource) (a1:List Hold) (r:Bool) (h:zo7 a0 a1=some r):PFn C 164 [.agg (Resource.enc a0),.sl (a1.map Hold.enc)] (.bool r):=by
 refine za8 zex9 rfl fun E hG hN hK=>?_
 unfold zdd5
 unfold zo7 at h
 refine za0 (za1 hG ?_)
 refine za0 (za0 (za1 hG ?_))
 refine za6 (fun hg=>zK0 a0) ?_
 refine za4 rfl hG h (fun _ h=>?_) (fun _ h=>?_)
 · refine za0 (za1 hG ?_)
   refine za7 ?_
   exact zb0 h
 refine za5 ?_
 refine za0 (za0 (za1 hG ?_))
 refine zb4 (zei6 a0 a1) (fun v=>zO8 a0 a1 v=some r) ?_ ?_
 · intro j1 h
   unfold zO8 at h
   refine g_st ?_
   refine za0 (zn3 zd2 hG ?_)
   obtain ⟨v1,hv1,h⟩:=za2 h
   refine zf7 (fun hg=>zaM3 a1 _ (hv1)) ?_
   obtain ⟨v2,hv2,h⟩:=za2 h
   refine zf7 (fun hg=>zaA1 a0 v1 _ (hv2)) ?_
   refine za7 ?_
   exact zb0 h
 refine zd9 (zei7 a0 a1) hK [(0,0)] h (fun x_l1 h g1 y_l1 h_l1 hx_l1=>?_)
 unfold zH3 at h_l1
 refine g_st ?_
 refine za0 (za0 (za1 hG ?_))
 refine za4 rfl hG h_l1 (fun _ h_l1=>?_) (fun _ h_l1=>?_)
 · refine za5 ?_
   refine za0 (zb6 (za0 ?_))
   obtain ⟨hb1,h_l1⟩:=za3 h_l1
   refine zn3 zd2 hG ?_
   obtain ⟨hb2,h_l1⟩:=za3 h_l1
   refine zf7 (fun hg=>zI9 ((a1.getD g1.toNat Hold.zero).proc)) ?_
   obtain ⟨hb3,h_l1⟩:=za3 h_l1
   obtain ⟨hb4,h_l1⟩:=za3 h_l1
   refine zf7 (fun hg=>zK4 a0 ((a1.getD g1.toNat Hold.zero).amount)) ?_
   refine zf7 (fun hg=>zN0 ((a1.getD ((IntKind.i64.wrap (g1 - 1)).toNat) Hold.zero).proc) ((a1.getD g1.toNat Hold.zero).proc)) ?_
   refine za4 rfl hG h_l1 (fun _ h_l1=>?_) (fun _ h_l1=>?_)
   · refine za0 (za1 hG ?_)
     refine za7 ?_
     obtain rfl:=Option.some.inj h_l1
     have hx:=hx_l1 _ rfl
     subst hx
     try dsimp only at h
     exact zb0 h
   refine za5 ?_
   refine za1 hG ?_
   exact zd1 hK [(0,0)] h_l1
 refine zc7 ?_
 obtain rfl:=Option.some.inj h_l1
 have hx:=hx_l1 _ rfl
 subst hx
 try dsimp only at h
 exact zc5 hK [(0,0)] () (by exact h)
attribute [local irreducible] zo7
def zH4 (a0:Amount):Bool :=
 (((zl0 a0.mode)&&(decide (a0.units=0)))||(((decide (a0.mode=0))&&(decide (1≤a0.units)))&&(decide (a0.units≤8))))
theorem zaS8 (a0:Amount):PFn C 167 [.agg (Amount.enc a0)] (.bool (zH4 a0)):=by
 generalize h:zH4 a0=r
 refine za8 zey0 rfl fun E hG hN hK=>?_
 unfold zdd8
 unfold zH4 at h
 refine za0 (za1 hG ?_)
 refine za0 (za1 hG ?_)
 refine za6 (fun hg=>zH2 a0.mode) ?_
 refine za7 ?_
 exact zf1 h
def zi5 (a0:Wait):Bool :=
 ((((((ze7 a0.proc)&&(zH4 a0.amount))&&(decide (0≤a0.priority)))&&(decide (a0.priority≤7)))&&(decide (0≤a0.passed)))&&(decide (a0.passed≤3)))
theorem zaf5 (a0:Wait):PFn C 151 [.agg (Wait.enc a0)] (.bool (zi5 a0)):=by
 generalize h:zi5 a0=r
 refine za8 zey1 rfl fun E hG hN hK=>?_
 unfold zde1
 unfold zi5 at h
 refine za0 (za1 hG ?_)
 refine za0 (za1 hG ?_)
 refine za6 (fun hg=>zI9 a0.proc) ?_
 refine za6 (fun hg=>zaS8 a0.amount) ?_
 refine za7 ?_
 exact zf1 h
noncomputable def zab7  (j1:Unit):Option (Int) :=
 some (-1)
@[go_sem] def zei8  (j1:Unit):St:=⟨[],[],0⟩
noncomputable def zar8 (a0:List Wait) (a1:Proc) (g1:Int):Option ((Int)⊕((Unit)⊕(Int))) :=
 (if (decide (g1 < (a0.length:Int)))=true then
  gd (0≤g1∧g1 < (a0.length:Int)) <|
  (if (decide ((a0.getD g1.toNat Wait.zero).proc=a1))=true then
   some (.inr (.inr g1))
  else
   some (.inl (IntKind.i64.wrap (g1+1))))
 else
  some (.inr (.inl ())))
@[go_sem] def zei9 (a0:List Wait) (a1:Proc) (g1:Int):St:=⟨[(0,.sl (a0.map Wait.enc)),(3,.ptr 0 0 0),(5,.int .i64 g1)],[(0,⟨false,3,(Proc.enc Proc.zero),[Proc.enc a1]⟩)],1⟩
noncomputable def zn2 (a0:List Wait) (a1:Proc):Option (Int) :=
 (zb9 (zar8 a0 a1) 0).bind (fun | .inl z=>zab7 z | .inr z=>some z)
theorem zR2 (a0:List Wait) (a1:Proc) (r:Int) (h:zn2 a0 a1=some r):PFn C 144 [.sl (a0.map Wait.enc),.agg (Proc.enc a1)] (.int .i64 r):=by
 refine za8 zey2 rfl fun E hG hN hK=>?_
 unfold zde9
 unfold zn2 at h
 refine za0 (za1 hG ?_)
 refine za0 (za0 (za1 hG ?_))
 refine zb4 (zei8) (fun v=>zab7 v=some r) ?_ ?_
 · intro j1 h
   unfold zab7 at h
   refine g_st ?_
   refine za0 (za1 hG ?_)
   refine za7 ?_
   exact zb0 h
 refine zd9 (zei9 a0 a1) hK [(0,0)] h (fun x_l1 h g1 y_l1 h_l1 hx_l1=>?_)
 unfold zar8 at h_l1
 refine g_st ?_
 refine za0 (za0 (za1 hG ?_))
 refine za4 rfl hG h_l1 (fun _ h_l1=>?_) (fun _ h_l1=>?_)
 · refine za5 ?_
   refine za0 (zb6 (za0 ?_))
   obtain ⟨hb1,h_l1⟩:=za3 h_l1
   refine zn3 zd2 hG ?_
   refine za4 rfl hG h_l1 (fun _ h_l1=>?_) (fun _ h_l1=>?_)
   · refine za0 (za1 hG ?_)
     refine za7 ?_
     obtain rfl:=Option.some.inj h_l1
     have hx:=hx_l1 _ rfl
     subst hx
     try dsimp only at h
     exact zb0 h
   refine za5 ?_
   refine za1 hG ?_
   exact zd1 hK [(0,0)] h_l1
 refine zc7 ?_
 obtain rfl:=Option.some.inj h_l1
 have hx:=hx_l1 _ rfl
 subst hx
 try dsimp only at h
 exact zc5 hK [] () (by exact h)
attribute [local irreducible] zn2
noncomputable def zX9  (j1:Unit):Option (Bool) :=
 some true
@[go_sem] def zej0  (j1:Unit):St:=⟨[],[],0⟩
noncomputable def zO9 (a0:List Wait) (g1:Int):Option ((Int)⊕((Unit)⊕(Bool))) :=
 (if (decide (g1 < (a0.length:Int)))=true then
  gd (0≤g1∧g1 < (a0.length:Int)) <|
  gd ((zi5 (a0.getD g1.toNat Wait.zero))=true→0≤g1∧g1 < (a0.length:Int)) <|
  ((if (zi5 (a0.getD g1.toNat Wait.zero))=true then zn2 a0 ((a0.getD g1.toNat Wait.zero).proc) else some (0))).bind fun v1 =>
  (if ((!(zi5 (a0.getD g1.toNat Wait.zero)))||(!decide (v1=g1)))=true then
   some (.inr (.inr false))
  else
   some (.inl (IntKind.i64.wrap (g1+1))))
 else
  some (.inr (.inl ())))
@[go_sem] def zej1 (a0:List Wait) (g1:Int):St:=⟨[(0,.sl (a0.map Wait.enc)),(3,.int .i64 g1)],[],0⟩
noncomputable def zq7 (a0:List Wait):Option (Bool) :=
 (if (decide (8 < (a0.length:Int)))=true then
  some false
 else
  (zb9 (zO9 a0) 0).bind (fun | .inl z=>zX9 z | .inr z=>some z))
theorem zau8 (a0:List Wait) (r:Bool) (h:zq7 a0=some r):PFn C 150 [.sl (a0.map Wait.enc)] (.bool r):=by
 refine za8 zey3 rfl fun E hG hN hK=>?_
 unfold zdf9
 unfold zq7 at h
 refine za0 (za1 hG ?_)
 refine za0 (za0 (za1 hG ?_))
 refine za4 rfl hG h (fun _ h=>?_) (fun _ h=>?_)
 · refine za0 (za1 hG ?_)
   refine za7 ?_
   exact zb0 h
 refine za5 ?_
 refine za0 (za0 (za1 hG ?_))
 refine zb4 (zej0) (fun v=>zX9 v=some r) ?_ ?_
 · intro j1 h
   unfold zX9 at h
   refine g_st ?_
   refine za0 (za1 hG ?_)
   refine za7 ?_
   exact zb0 h
 refine zd9 (zej1 a0) hK [] h (fun x_l1 h g1 y_l1 h_l1 hx_l1=>?_)
 unfold zO9 at h_l1
 refine g_st ?_
 refine za0 (za0 (za1 hG ?_))
 refine za4 rfl hG h_l1 (fun _ h_l1=>?_) (fun _ h_l1=>?_)
 · refine za5 ?_
   refine za0 (zb6 (za0 ?_))
   obtain ⟨hb1,h_l1⟩:=za3 h_l1
   refine za1 hG ?_
   obtain ⟨hb2,h_l1⟩:=za3 h_l1
   refine za6 (fun hg=>zaf5 (a0.getD g1.toNat Wait.zero)) ?_
   obtain ⟨v1,hv1,h_l1⟩:=za2 h_l1
   refine za6 (fun hg=>zR2 a0 ((a0.getD g1.toNat Wait.zero).proc) _ (zA6 hg hv1)) ?_
   refine za4 rfl hG h_l1 (fun _ h_l1=>?_) (fun _ h_l1=>?_)
   · refine za0 (za1 hG ?_)
     refine za7 ?_
     obtain rfl:=Option.some.inj h_l1
     have hx:=hx_l1 _ rfl
     subst hx
     try dsimp only at h
     exact zb0 h
   refine za5 ?_
   refine za1 hG ?_
   exact zd1 hK [] h_l1
 refine zc7 ?_
 obtain rfl:=Option.some.inj h_l1
 have hx:=hx_l1 _ rfl
 subst hx
 try dsimp only at h
 exact zc5 hK [] () (by exact h)
attribute [local irreducible] zq7
noncomputable def zaf6  (j1:Unit):Option (Amount) :=
 some ({ Amount.zero with  })
@[go_sem] def zej2  (j1:Unit):St:=⟨[(4,.ptr 0 0 0)],[(0,⟨false,2,(Amount.enc Amount.zero),[Amount.enc Amount.zero]⟩)],1⟩
noncomputable def zU6 (a0:List Hold) (a1:Proc) (g1:Int):Option ((Int)⊕((Unit)⊕(Amount))) :=
 (if (decide (g1 < (a0.length:Int)))=true then
  gd (0≤g1∧g1 < (a0.length:Int)) <|
  (if (decide ((a0.getD g1.toNat Hold.zero).proc=a1))=true then
   gd (0≤g1∧g1 < (a0.length:Int)) <|
   some (.inr (.inr ((a0.getD g1.toNat Hold.zero).amount)))
  else
   some (.inl (IntKind.i64.wrap (g1+1))))
 else
  some (.inr (.inl ())))
@[go_sem] def zej3 (a0:List Hold) (a1:Proc) (g1:Int):St:=⟨[(0,.sl (a0.map Hold.enc)),(3,.ptr 0 0 0),(4,.ptr 1 0 0),(5,.int .i64 g1)],[(0,⟨false,3,(Proc.enc Proc.zero),[Proc.enc a1]⟩),(1,⟨false,2,(Amount.enc Amount.zero),[Amount.enc Amount.zero]⟩)],2⟩
noncomputable def zv7 (a0:List Hold) (a1:Proc):Option (Amount) :=
 (zb9 (zU6 a0 a1) 0).bind (fun | .inl z=>zaf6 z | .inr z=>some z)
theorem zap7 (a0:List Hold) (a1:Proc) (r:Amount) (h:zv7 a0 a1=some r):PFn C 69 [.sl (a0.map Hold.enc),.agg (Proc.enc a1)] (.agg (Amount.enc r)):=by
 refine za8 zey4 rfl fun E hG hN hK=>?_
 unfold zdg7
 unfold zv7 at h
 refine za0 (za1 hG ?_)
 refine za0 (za0 (za1 hG ?_))
 refine zb4 (zej2) (fun v=>zaf6 v=some r) ?_ ?_
 · intro j1 h
   unfold zaf6 at h
   refine g_st ?_
   refine za0 (za1 hG ?_)
   refine za7 ?_
   exact zb0 h
 refine zd9 (zej3 a0 a1) hK [(0,0),(1,1)] h (fun x_l1 h g1 y_l1 h_l1 hx_l1=>?_)
 unfold zU6 at h_l1
 refine g_st ?_
 refine za0 (za0 (za1 hG ?_))
 refine za4 rfl hG h_l1 (fun _ h_l1=>?_) (fun _ h_l1=>?_)
 · refine za5 ?_
   refine za0 (zb6 (za0 ?_))
   obtain ⟨hb2,h_l1⟩:=za3 h_l1
   refine zn3 zd2 hG ?_
   refine za4 rfl hG h_l1 (fun _ h_l1=>?_) (fun _ h_l1=>?_)
   · refine za0 ?_
     obtain ⟨hb1,h_l1⟩:=za3 h_l1
     refine za1 hG ?_
     refine za7 ?_
     obtain rfl:=Option.some.inj h_l1
     have hx:=hx_l1 _ rfl
     subst hx
     try dsimp only at h
     exact zb0 h
   refine za5 ?_
   refine za1 hG ?_
   exact zd1 hK [(0,0),(1,1)] h_l1
 refine zc7 ?_
 obtain rfl:=Option.some.inj h_l1
 have hx:=hx_l1 _ rfl
 subst hx
 try dsimp only at h
 exact zc5 hK [(0,1)] () (by exact h)
attribute [local irreducible] zv7
def zy4 (a0:Int) (a1:Int):Bool :=
 (if ((!(zl0 a0))||(!(zl0 a1)))=true then
  false
 else
  ((((decide (a0=a1))||(decide (a0=5)))||(decide (a1=1)))||((decide (a0=4))&&(!decide (a1=5)))))
theorem zab8 (a0:Int) (a1:Int):PFn C 146 [.int .i64 a0,.int .i64 a1] (.bool (zy4 a0 a1)):=by
 generalize h:zy4 a0 a1=r
 refine za8 zey5 rfl fun E hG hN hK=>?_
 unfold zdh2
 unfold zy4 at h
 refine za0 (za1 hG ?_)
 refine za0 (za0 (za1 hG ?_))
 refine za6 (fun hg=>zH2 a0) ?_
 refine za6 (fun hg=>zH2 a1) ?_
 refine za4 rfl hG h (fun _ h=>?_) (fun _ h=>?_)
 · refine za0 (za1 hG ?_)
   refine za7 ?_
   exact zf1 h
 refine za5 ?_
 refine za0 (za1 hG ?_)
 refine za7 ?_
 exact zf1 h
def zg0 (a0:Resource) (a1:Amount) (a2:Amount):Bool :=
 (if ((!(zf2 a0 a1))||(!(zf2 a0 a2)))=true then
  false
 else
  (if (zd0 a2)=true then
   true
  else
   (if (zd0 a1)=true then
    false
   else
    (if (decide (a0.kind=1))=true then
     (zy4 a1.mode a2.mode)
    else
     (decide (a2.units≤a1.units))))))
theorem zK1 (a0:Resource) (a1:Amount) (a2:Amount):PFn C 101 [.agg (Resource.enc a0),.agg (Amount.enc a1),.agg (Amount.enc a2)] (.bool (zg0 a0 a1 a2)):=by
 generalize h:zg0 a0 a1 a2=r
 refine za8 zey6 rfl fun E hG hN hK=>?_
 unfold zdi3
 unfold zg0 at h
 refine za0 (za1 hG ?_)
 refine za0 (za0 (za1 hG ?_))
 refine za6 (fun hg=>zC7 a0 a1) ?_
 refine za6 (fun hg=>zC7 a0 a2) ?_
 refine za4 rfl hG h (fun _ h=>?_) (fun _ h=>?_)
 · refine za0 (za1 hG ?_)
   refine za7 ?_
   exact zf1 h
 refine za5 ?_
 refine za0 (za0 (za1 hG ?_))
 refine za6 (fun hg=>zt2 a2) ?_
 refine za4 rfl hG h (fun _ h=>?_) (fun _ h=>?_)
 · refine za0 (za1 hG ?_)
   refine za7 ?_
   exact zf1 h
 refine za5 ?_
 refine za0 (za0 (za1 hG ?_))
 refine za6 (fun hg=>zt2 a1) ?_
 refine za4 rfl hG h (fun _ h=>?_) (fun _ h=>?_)
 · refine za0 (za1 hG ?_)
   refine za7 ?_
   exact zf1 h
 refine za5 ?_
 refine za0 (za0 (za1 hG ?_))
 refine za4 rfl hG h (fun _ h=>?_) (fun _ h=>?_)
 · refine za0 (za1 hG ?_)
   refine za6 (fun hg=>zab8 a1.mode a2.mode) ?_
   refine za7 ?_
   exact zf1 h
 refine za5 ?_
 refine za0 (za1 hG ?_)
 refine za7 ?_
 exact zf1 h
noncomputable def zY0  (j2:Unit):Option (Bool) :=
 some true
@[go_sem] def zej4  (j2:Unit):St:=⟨[],[],0⟩
noncomputable def zP0 (a0:Queue) (g1:Int):Option ((Int)⊕((Unit)⊕(Bool))) :=
 (if (decide (g1 < (a0.waits.length:Int)))=true then
  gd (0≤g1∧g1 < (a0.waits.length:Int)) <|
  gd ((zh3 a0.resource ((a0.waits.getD g1.toNat Wait.zero).amount))=true→0≤g1∧g1 < (a0.waits.length:Int)) <|
  ((if (zh3 a0.resource ((a0.waits.getD g1.toNat Wait.zero).amount))=true then zv7 a0.holds ((a0.waits.getD g1.toNat Wait.zero).proc) else some (Amount.zero))).bind fun v4 =>
  (if ((!(zh3 a0.resource ((a0.waits.getD g1.toNat Wait.zero).amount)))||(!(zd0 v4)))=true then
   some (.inr (.inr false))
  else
   some (.inl (IntKind.i64.wrap (g1+1))))
 else
  some (.inr (.inl ())))
@[go_sem] def zej5 (a0:Queue) (g1:Int):St:=⟨[(1,.ptr 0 0 0),(3,.ptr 1 0 0),(7,.int .i64 g1)],[(0,⟨false,8,(Queue.enc Queue.zero),[Queue.enc a0]⟩),(1,⟨false,4,(Resource.enc Resource.zero),[Resource.enc a0.resource]⟩)],2⟩
noncomputable def zP1 (a0:Queue) (j1:Unit):Option (Bool) :=
 (zb9 (zP0 a0) 0).bind (fun | .inl z=>zY0 z | .inr z=>some z)
@[go_sem] def zej6 (a0:Queue) (j1:Unit):St:=⟨[(1,.ptr 0 0 0),(3,.ptr 1 0 0)],[(0,⟨false,8,(Queue.enc Queue.zero),[Queue.enc a0]⟩),(1,⟨false,4,(Resource.enc Resource.zero),[Resource.enc a0.resource]⟩)],2⟩
noncomputable def zB8 (a0:Queue) (g2:Int):Option ((Int)⊕((Unit)⊕(Bool))) :=
 (if (decide (g2 < (a0.converts.length:Int)))=true then
  gd (0≤g2∧g2 < (a0.converts.length:Int)) <|
  (zv7 a0.holds ((a0.converts.getD g2.toNat Wait.zero).proc)).bind fun v5 =>
  ((if (!((((((zd0 v5)||(!(zh3 a0.resource ((a0.converts.getD g2.toNat Wait.zero).amount))))||(!(zg0 a0.resource ((a0.converts.getD g2.toNat Wait.zero).amount) v5)))||(decide ((a0.converts.getD g2.toNat Wait.zero).amount=v5)))||(!decide ((a0.converts.getD g2.toNat Wait.zero).priority=0)))||(!decide ((a0.converts.getD g2.toNat Wait.zero).passed=0))))=true then zn2 a0.converts ((a0.converts.getD g2.toNat Wait.zero).proc) else some (0))).bind fun v6 =>
  (if (((((((zd0 v5)||(!(zh3 a0.resource ((a0.converts.getD g2.toNat Wait.zero).amount))))||(!(zg0 a0.resource ((a0.converts.getD g2.toNat Wait.zero).amount) v5)))||(decide ((a0.converts.getD g2.toNat Wait.zero).amount=v5)))||(!decide ((a0.converts.getD g2.toNat Wait.zero).priority=0)))||(!decide ((a0.converts.getD g2.toNat Wait.zero).passed=0)))||(!decide (v6=g2)))=true then
   some (.inr (.inr false))
  else
   some (.inl (IntKind.i64.wrap (g2+1))))
 else
  some (.inr (.inl ())))
@[go_sem] def zej7 (a0:Queue) (g2:Int):St:=⟨[(1,.ptr 0 0 0),(3,.ptr 1 0 0),(4,.int .i64 g2)],[(0,⟨false,8,(Queue.enc Queue.zero),[Queue.enc a0]⟩),(1,⟨false,4,(Resource.enc Resource.zero),[Resource.enc a0.resource]⟩)],2⟩
noncomputable def zo8 (a0:Queue):Option (Bool) :=
 (ze1 a0.resource).bind fun v1 =>
 ((if v1=true then zo7 a0.resource a0.holds else some (false))).bind fun v2 =>
 ((if (!(((!v1)||(!v2))||(decide (8 < (a0.converts.length:Int)))))=true then zq7 a0.waits else some (false))).bind fun v3 =>
 (if (((((((!v1)||(!v2))||(decide (8 < (a0.converts.length:Int))))||(!v3))||(decide (8 < (IntKind.i64.wrap ((a0.holds.length:Int)+(a0.waits.length:Int))))))||(decide (a0.gen < 0)))||(decide (1073741824 < a0.gen)))=true then
  some false
 else
  (zb9 (zB8 a0) 0).bind (fun | .inl z=>zP1 a0 z | .inr z=>some z))
theorem zaf7 (a0:Queue) (r:Bool) (h:zo8 a0=some r):PFn C 141 [.agg (Queue.enc a0)] (.bool r):=by
 refine za8 zey7 rfl fun E hG hN hK=>?_
 unfold zdj4
 unfold zo8 at h
 refine za0 (za1 hG ?_)
 refine za0 (za1 hG ?_)
 refine za0 (za0 (za1 hG ?_))
 obtain ⟨v1,hv1,h⟩:=za2 h
 refine za6 (fun hg=>zU0 a0.resource _ (hv1)) ?_
 obtain ⟨v2,hv2,h⟩:=za2 h
 refine za6 (fun hg=>zaf4 a0.resource a0.holds _ (zA6 hg hv2)) ?_
 obtain ⟨v3,hv3,h⟩:=za2 h
 refine za6 (fun hg=>zau8 a0.waits _ (zA6 hg hv3)) ?_
 refine za4 rfl hG h (fun _ h=>?_) (fun _ h=>?_)
 · refine za0 (za1 hG ?_)
   refine za7 ?_
   exact zb0 h
 refine za5 ?_
 refine za0 (za0 (za1 hG ?_))
 refine zb4 (zej6 a0) (fun v=>zP1 a0 v=some r) ?_ ?_
 · intro j1 h
   unfold zP1 at h
   refine g_st ?_
   refine za0 (za0 (za1 hG ?_))
   refine zb4 (zej4) (fun v=>zY0 v=some r) ?_ ?_
   · intro j2 h
     unfold zY0 at h
     refine g_st ?_
     refine za0 (za1 hG ?_)
     refine za7 ?_
     exact zb0 h
   refine zd9 (zej5 a0) hK [(0,0),(1,1)] h (fun x_l1 h g1 y_l1 h_l1 hx_l1=>?_)
   unfold zP0 at h_l1
   refine g_st ?_
   refine za0 (za0 (za1 hG ?_))
   refine za4 rfl hG h_l1 (fun _ h_l1=>?_) (fun _ h_l1=>?_)
   · refine za5 ?_
     refine za0 (zb6 (za0 ?_))
     obtain ⟨hb1,h_l1⟩:=za3 h_l1
     refine zn3 zd2 hG ?_
     obtain ⟨hb2,h_l1⟩:=za3 h_l1
     refine zf7 (fun hg=>zK4 a0.resource ((a0.waits.getD g1.toNat Wait.zero).amount)) ?_
     obtain ⟨v4,hv4,h_l1⟩:=za2 h_l1
     refine zf7 (fun hg=>zap7 a0.holds ((a0.waits.getD g1.toNat Wait.zero).proc) _ (zA6 hg hv4)) ?_
     refine zf7 (fun hg=>zt2 v4) ?_
     refine za4 rfl hG h_l1 (fun _ h_l1=>?_) (fun _ h_l1=>?_)
     · refine za0 (za1 hG ?_)
       refine za7 ?_
       obtain rfl:=Option.some.inj h_l1
       have hx:=hx_l1 _ rfl
       subst hx
       try dsimp only at h
       exact zb0 h
     refine za5 ?_
     refine za1 hG ?_
     exact zd1 hK [(0,0),(1,1)] h_l1
   refine zc7 ?_
   obtain rfl:=Option.some.inj h_l1
   have hx:=hx_l1 _ rfl
   subst hx
   try dsimp only at h
   exact zc5 hK [] () (by exact h)
 refine zd9 (zej7 a0) hK [(0,0),(1,1)] h (fun x_l2 h g2 y_l2 h_l2 hx_l2=>?_)
 unfold zB8 at h_l2
 refine g_st ?_
 refine za0 (za0 (za1 hG ?_))
 refine za4 rfl hG h_l2 (fun _ h_l2=>?_) (fun _ h_l2=>?_)
 · refine za5 ?_
   refine za0 (zb6 (za0 ?_))
   obtain ⟨hb3,h_l2⟩:=za3 h_l2
   refine za1 hG ?_
   refine za0 (za1 hG ?_)
   obtain ⟨v5,hv5,h_l2⟩:=za2 h_l2
   refine za6 (fun hg=>zap7 a0.holds ((a0.converts.getD g2.toNat Wait.zero).proc) _ (hv5)) ?_
   refine za0 (za1 hG ?_)
   refine za6 (fun hg=>zt2 v5) ?_
   refine za6 (fun hg=>zK4 a0.resource ((a0.converts.getD g2.toNat Wait.zero).amount)) ?_
   refine za6 (fun hg=>zK1 a0.resource ((a0.converts.getD g2.toNat Wait.zero).amount) v5) ?_
   obtain ⟨v6,hv6,h_l2⟩:=za2 h_l2
   refine za6 (fun hg=>zR2 a0.converts ((a0.converts.getD g2.toNat Wait.zero).proc) _ (zA6 hg hv6)) ?_
   refine za4 rfl hG h_l2 (fun _ h_l2=>?_) (fun _ h_l2=>?_)
   · refine za0 (za1 hG ?_)
     refine za7 ?_
     obtain rfl:=Option.some.inj h_l2
     have hx:=hx_l2 _ rfl
     subst hx
     try dsimp only at h
     exact zb0 h
   refine za5 ?_
   refine za1 hG ?_
   exact zd1 hK [(0,0),(1,1)] h_l2
 refine zc7 ?_
 obtain rfl:=Option.some.inj h_l2
 have hx:=hx_l2 _ rfl
 subst hx
 try dsimp only at h
 exact zc5 hK [(0,0),(1,1)] () (by exact h)
attribute [local irreducible] zo8
noncomputable def zx6 (a0:Queue):Option (Wait×Bool) :=
 (if (decide (0 < (a0.converts.length:Int)))=true then
  gd (0≤0∧0 < (a0.converts.length:Int)) <|
  some ((a0.converts.getD 0 Wait.zero),true)
 else
  (if (decide (0 < (a0.waits.length:Int)))=true then
   gd (0≤0∧0 < (a0.waits.length:Int)) <|
   some ((a0.waits.getD 0 Wait.zero),true)
  else
   some ({ Wait.zero with  },false)))
theorem zaB8 (a0:Queue) (r:Wait×Bool) (h:zx6 a0=some r):PFn C 165 [.agg (Queue.enc a0)] (.tup [.agg (Wait.enc r.1),.bool r.2]):=by
 refine za8 zey8 rfl fun E hG hN hK=>?_
 unfold zdk1
 unfold zx6 at h
 refine za0 (za1 hG ?_)
 refine za0 (za0 (za1 hG ?_))
 refine za4 rfl hG h (fun _ h=>?_) (fun _ h=>?_)
 · refine za0 ?_
   obtain ⟨hb1,h⟩:=za3 h
   refine za1 hG ?_
   refine za7 ?_
   exact zb0 h
 refine za5 ?_
 refine za0 (za0 (za1 hG ?_))
 refine za4 rfl hG h (fun _ h=>?_) (fun _ h=>?_)
 · refine za0 ?_
   obtain ⟨hb2,h⟩:=za3 h
   refine za1 hG ?_
   refine za7 ?_
   exact zb0 h
 refine za5 ?_
 refine za0 (za1 hG ?_)
 refine za7 ?_
 exact zb0 h
attribute [local irreducible] zx6
noncomputable def zU7 (a1:Proc) (a2:Amount) (j1:Bool×(List Hold)):Option ((List Hold)) :=
 (if (!j1.1)=true then
  gd (j1.2.length+1≤4294967296) <|
  some (j1.2++[(⟨a1,a2⟩:Hold)])
 else
  some j1.2)
@[go_sem] def zej8 (a1:Proc) (a2:Amount) (j1:Bool×(List Hold)):St:=⟨[(4,.ptr 0 0 0),(5,.ptr 1 0 0),(7,.own 2 0 j1.2.length),(8,.bool j1.1)],[(0,⟨false,3,(Proc.enc Proc.zero),[Proc.enc a1]⟩),(1,⟨false,2,(Amount.enc Amount.zero),[Amount.enc a2]⟩),(2,⟨false,5,(Hold.enc Hold.zero),j1.2.map Hold.enc⟩)],3⟩
noncomputable def zN1 (a0:List Hold) (a1:Proc) (a2:Amount) (g1:Bool×Int×(List Hold)):Option ((Bool×Int×(List Hold))⊕((Bool×(List Hold)))) :=
 (if (decide (g1.2.1 < (a0.length:Int)))=true then
  gd (0≤g1.2.1∧g1.2.1 < (a0.length:Int)) <|
  (if (decide ((a0.getD g1.2.1.toNat Hold.zero).proc=a1))=true then
   some (.inl (g1.1,(IntKind.i64.wrap (g1.2.1+1)),g1.2.2))
  else
   gd ((!g1.1)=true→0≤g1.2.1∧g1.2.1 < (a0.length:Int)) <|
   (if ((!g1.1)&&(decide (0 < (zj4 ((a0.getD g1.2.1.toNat Hold.zero).proc) a1))))=true then
    gd (g1.2.2.length+1≤4294967296) <|
    gd (0≤g1.2.1∧g1.2.1 < (a0.length:Int)) <|
    gd (g1.2.2.length+1+1≤4294967296) <|
    some (.inl (true,(IntKind.i64.wrap (g1.2.1+1)),((g1.2.2++[(⟨a1,a2⟩:Hold)])++[(a0.getD g1.2.1.toNat Hold.zero)])))
   else
    gd (0≤g1.2.1∧g1.2.1 < (a0.length:Int)) <|
    gd (g1.2.2.length+1≤4294967296) <|
    some (.inl (g1.1,(IntKind.i64.wrap (g1.2.1+1)),(g1.2.2++[(a0.getD g1.2.1.toNat Hold.zero)])))))
 else
  some (.inr (g1.1,g1.2.2)))
@[go_sem] def zej9 (a0:List Hold) (a1:Proc) (a2:Amount) (g1:Bool×Int×(List Hold)):St:=⟨[(0,.sl (a0.map Hold.enc)),(4,.ptr 0 0 0),(5,.ptr 1 0 0),(7,.own 2 0 g1.2.2.length),(8,.bool g1.1),(9,.int .i64 g1.2.1)],[(0,⟨false,3,(Proc.enc Proc.zero),[Proc.enc a1]⟩),(1,⟨false,2,(Amount.enc Amount.zero),[Amount.enc a2]⟩),(2,⟨false,5,(Hold.enc Hold.zero),g1.2.2.map Hold.enc⟩)],3⟩
noncomputable def zs6 (a0:List Hold) (a1:Proc) (a2:Amount):Option ((List Hold)) :=
 (zb9 (zN1 a0 a1 a2) ((zd0 a2),0,[])).bind (fun z=>zU7 a1 a2 z)
theorem zap8 (a0:List Hold) (a1:Proc) (a2:Amount) (r:(List Hold)) (h:zs6 a0 a1 a2=some r):PFn C 28 [.sl (a0.map Hold.enc),.agg (Proc.enc a1),.agg (Amount.enc a2)] (.sl (r.map Hold.enc)):=by
 refine za8 zey9 rfl fun E hG hN hK=>?_
 unfold zdl2
 unfold zs6 at h
 refine za0 (za1 hG ?_)
 refine za0 (za1 hG ?_)
 refine za0 (za1 hG ?_)
 refine za6 (fun hg=>zt2 a2) ?_
 refine za0 (za0 (za1 hG ?_))
 refine zb4 (zej8 a1 a2) (fun v=>zU7 a1 a2 v=some r) ?_ ?_
 · intro j1 h
   unfold zU7 at h
   refine g_st ?_
   refine za0 (za0 (za1 hG ?_))
   refine za4 rfl hG h (fun _ h=>?_) (fun _ h=>?_)
   · obtain ⟨hb1,h⟩:=za3 h
     refine za1 hG ?_
     refine za0 (za1 hG ?_)
     refine za7 ?_
     exact zb0 h
   refine za5 ?_
   refine za0 (za1 hG ?_)
   refine za7 ?_
   exact zb0 h
 refine zd9 (zej9 a0 a1 a2) hK [(0,0),(1,1),(2,2)] h (fun x_l1 h g1 y_l1 h_l1 hx_l1=>?_)
 unfold zN1 at h_l1
 refine g_st ?_
 refine za0 (za0 (za1 hG ?_))
 refine za4 rfl hG h_l1 (fun _ h_l1=>?_) (fun _ h_l1=>?_)
 · refine za5 ?_
   refine za0 (zb6 (za0 (za0 ?_)))
   obtain ⟨hb8,h_l1⟩:=za3 h_l1
   refine zn3 zd2 hG ?_
   refine za4 rfl hG h_l1 (fun _ h_l1=>?_) (fun _ h_l1=>?_)
   · refine zc7 ?_
     refine za1 hG ?_
     exact zd1 hK [(0,0),(1,1),(2,2)] h_l1
   refine za5 ?_
   refine za0 (za0 ?_)
   obtain ⟨hb7,h_l1⟩:=za3 h_l1
   refine zn3 zd2 hG ?_
   refine zf7 (fun hg=>zN0 ((a0.getD g1.2.1.toNat Hold.zero).proc) a1) ?_
   refine za4 rfl hG h_l1 (fun _ h_l1=>?_) (fun _ h_l1=>?_)
   · refine za0 ?_
     obtain ⟨hb4,h_l1⟩:=za3 h_l1
     refine za1 hG ?_
     refine za1 hG ?_
     obtain ⟨hb2,h_l1⟩:=za3 h_l1
     obtain ⟨hb3,h_l1⟩:=za3 h_l1
     refine za1 hG ?_
     refine za1 hG ?_
     exact zd1 hK [(0,0),(1,1),(2,4)] h_l1
   refine za5 ?_
   obtain ⟨hb5,h_l1⟩:=za3 h_l1
   obtain ⟨hb6,h_l1⟩:=za3 h_l1
   refine za1 hG ?_
   refine za1 hG ?_
   exact zd1 hK [(0,0),(1,1),(2,3)] h_l1
 refine zc7 ?_
 obtain rfl:=Option.some.inj h_l1
 have hx:=hx_l1 _ rfl
 subst hx
 try dsimp only at h
 exact zc5 hK [(0,0),(1,1),(2,2)] (g1.1,g1.2.2) (by exact h)
attribute [local irreducible] zs6
noncomputable def zx7 (a0:Resource) (a1:List Hold) (a2:Proc) (a3:Amount):Option (Bool) :=
 (zo7 a0 a1).bind fun v1 =>
 ((if ((v1&&(ze7 a2))&&(zh3 a0 a3))=true then zs6 a1 a2 a3 else some ([]))).bind fun v2 =>
 ((if ((v1&&(ze7 a2))&&(zh3 a0 a3))=true then zo7 a0 v2 else some (false))).bind fun v3 =>
 some (((v1&&(ze7 a2))&&(zh3 a0 a3))&&v3)
theorem zbh6 (a0:Resource) (a1:List Hold) (a2:Proc) (a3:Amount) (r:Bool) (h:zx7 a0 a1 a2 a3=some r):PFn C 166 [.agg (Resource.enc a0),.sl (a1.map Hold.enc),.agg (Proc.enc a2),.agg (Amount.enc a3)] (.bool r):=by
 refine za8 zez0 rfl fun E hG hN hK=>?_
 unfold zdl5
 unfold zx7 at h
 refine za0 (za1 hG ?_)
 refine za0 (zn3 zd2 hG ?_)
 obtain ⟨v1,hv1,h⟩:=za2 h
 refine zf7 (fun hg=>zaf4 a0 a1 _ (hv1)) ?_
 refine zf7 (fun hg=>zI9 a2) ?_
 refine zf7 (fun hg=>zK4 a0 a3) ?_
 obtain ⟨v2,hv2,h⟩:=za2 h
 refine zf7 (fun hg=>zap8 a1 a2 a3 _ (zA6 hg hv2)) ?_
 obtain ⟨v3,hv3,h⟩:=za2 h
 refine zf7 (fun hg=>zaf4 a0 v2 _ (zA6 hg hv3)) ?_
 refine za7 ?_
 exact zb0 h
attribute [local irreducible] zx7
noncomputable def zl7 (a0:Queue):Option (Bool) :=
 (zo8 a0).bind fun v1 =>
 (if (!v1)=true then
  some false
 else
  (zx6 a0).bind fun v2 =>
  ((if v2.2=true then zx7 a0.resource a0.holds v2.1.proc v2.1.amount else some (false))).bind fun v3 =>
  some ((!v2.2)||(!v3)))
theorem zam8 (a0:Queue) (r:Bool) (h:zl7 a0=some r):PFn C 142 [.agg (Queue.enc a0)] (.bool r):=by
 refine za8 zez1 rfl fun E hG hN hK=>?_
 unfold zdm1
 unfold zl7 at h
 refine za0 (za1 hG ?_)
 refine za0 (za0 (za1 hG ?_))
 obtain ⟨v1,hv1,h⟩:=za2 h
 refine za6 (fun hg=>zaf7 a0 _ (hv1)) ?_
 refine za4 rfl hG h (fun _ h=>?_) (fun _ h=>?_)
 · refine za0 (za1 hG ?_)
   refine za7 ?_
   exact zb0 h
 refine za5 ?_
 refine za0 (za1 hG ?_)
 obtain ⟨v2,hv2,h⟩:=za2 h
 refine za6 (fun hg=>zaB8 a0 _ (hv2)) ?_
 refine za0 (za1 hG ?_)
 obtain ⟨v3,hv3,h⟩:=za2 h
 refine za6 (fun hg=>zbh6 a0.resource a0.holds v2.1.proc v2.1.amount _ (zA6 hg hv3)) ?_
 refine za7 ?_
 exact zb0 h
attribute [local irreducible] zl7
noncomputable def zl1 (a0:Queue):Option (Bool) :=
 (zo8 a0).bind fun v1 =>
 ((if v1=true then zl7 a0 else some (false))).bind fun v2 =>
 some (v1&&v2)
theorem zU8 (a0:Queue) (r:Bool) (h:zl1 a0=some r):PFn C 96 [.agg (Queue.enc a0)] (.bool r):=by
 refine za8 zez2 rfl fun E hG hN hK=>?_
 unfold zdm4
 unfold zl1 at h
 refine za0 (za1 hG ?_)
 refine za0 (za1 hG ?_)
 obtain ⟨v1,hv1,h⟩:=za2 h
 refine za6 (fun hg=>zaf7 a0 _ (hv1)) ?_
 obtain ⟨v2,hv2,h⟩:=za2 h
 refine za6 (fun hg=>zam8 a0 _ (zA6 hg hv2)) ?_
 refine za7 ?_
 exact zb0 h
attribute [local irreducible] zl1
noncomputable def zY1  (j1:Unit):Option (Bool) :=
 some true
@[go_sem] def zek0  (j1:Unit):St:=⟨[],[],0⟩
noncomputable def zP2 (a0:List Queue) (g1:Int):Option ((Int)⊕((Unit)⊕(Bool))) :=
 (if (decide (g1 < (a0.length:Int)))=true then
  gd (0≤g1∧g1 < (a0.length:Int)) <|
  (zl1 (a0.getD g1.toNat Queue.zero)).bind fun v1 =>
  gd ((v1&&(decide (0 < g1)))=true→0≤(IntKind.i64.wrap (g1 - 1))∧(IntKind.i64.wrap (g1 - 1)) < (a0.length:Int)) <|
  gd ((v1&&(decide (0 < g1)))=true→0≤g1∧g1 < (a0.length:Int)) <|
  (if ((!v1)||((decide (0 < g1))&&(!Op.bytesLess (((a0.getD ((IntKind.i64.wrap (g1 - 1)).toNat) Queue.zero).resource).name).toList (((a0.getD g1.toNat Queue.zero).resource).name).toList)))=true then
   some (.inr (.inr false))
  else
   some (.inl (IntKind.i64.wrap (g1+1))))
 else
  some (.inr (.inl ())))
@[go_sem] def zek1 (a0:List Queue) (g1:Int):St:=⟨[(0,.sl (a0.map Queue.enc)),(3,.int .i64 g1)],[],0⟩
noncomputable def zt3 (a0:List Queue):Option (Bool) :=
 (if (decide (8 < (a0.length:Int)))=true then
  some false
 else
  (zb9 (zP2 a0) 0).bind (fun | .inl z=>zY1 z | .inr z=>some z))
theorem zbb0 (a0:List Queue) (r:Bool) (h:zt3 a0=some r):PFn C 75 [.sl (a0.map Queue.enc)] (.bool r):=by
 refine za8 zez3 rfl fun E hG hN hK=>?_
 unfold zdn4
 unfold zt3 at h
 refine za0 (za1 hG ?_)
 refine za0 (za0 (za1 hG ?_))
 refine za4 rfl hG h (fun _ h=>?_) (fun _ h=>?_)
 · refine za0 (za1 hG ?_)
   refine za7 ?_
   exact zb0 h
 refine za5 ?_
 refine za0 (za0 (za1 hG ?_))
 refine zb4 (zek0) (fun v=>zY1 v=some r) ?_ ?_
 · intro j1 h
   unfold zY1 at h
   refine g_st ?_
   refine za0 (za1 hG ?_)
   refine za7 ?_
   exact zb0 h
 refine zd9 (zek1 a0) hK [] h (fun x_l1 h g1 y_l1 h_l1 hx_l1=>?_)
 unfold zP2 at h_l1
 refine g_st ?_
 refine za0 (za0 (za1 hG ?_))
 refine za4 rfl hG h_l1 (fun _ h_l1=>?_) (fun _ h_l1=>?_)
 · refine za5 ?_
   refine za0 (zb6 (za0 ?_))
   obtain ⟨hb1,h_l1⟩:=za3 h_l1
   refine zn3 zd2 hG ?_
   obtain ⟨v1,hv1,h_l1⟩:=za2 h_l1
   obtain ⟨hb2,h_l1⟩:=za3 h_l1
   obtain ⟨hb3,h_l1⟩:=za3 h_l1
   refine zf7 (fun hg=>zU8 (a0.getD g1.toNat Queue.zero) _ (hv1)) ?_
   refine za4 rfl hG h_l1 (fun _ h_l1=>?_) (fun _ h_l1=>?_)
   · refine za0 (za1 hG ?_)
     refine za7 ?_
     obtain rfl:=Option.some.inj h_l1
     have hx:=hx_l1 _ rfl
     subst hx
     try dsimp only at h
     exact zb0 h
   refine za5 ?_
   refine za1 hG ?_
   exact zd1 hK [] h_l1
 refine zc7 ?_
 obtain rfl:=Option.some.inj h_l1
 have hx:=hx_l1 _ rfl
 subst hx
 try dsimp only at h
 exact zc5 hK [] () (by exact h)
attribute [local irreducible] zt3
noncomputable def zS1  (j1:(List Proc)):Option ((List Proc)) :=
 some j1
@[go_sem] def zek2  (j1:(List Proc)):St:=⟨[(3,.own 0 0 j1.length)],[(0,⟨false,3,(Proc.enc Proc.zero),j1.map Proc.enc⟩)],1⟩
noncomputable def zJ1 (a0:List Hold) (g1:Int×(List Proc)):Option ((Int×(List Proc))⊕(((List Proc)))) :=
 (if (decide (g1.1 < (a0.length:Int)))=true then
  gd (0≤g1.1∧g1.1 < (a0.length:Int)) <|
  gd (g1.2.length+1≤4294967296) <|
  some (.inl ((IntKind.i64.wrap (g1.1+1)),(g1.2++[(a0.getD g1.1.toNat Hold.zero).proc])))
 else
  some (.inr g1.2))
@[go_sem] def zek3 (a0:List Hold) (g1:Int×(List Proc)):St:=⟨[(0,.sl (a0.map Hold.enc)),(3,.own 0 0 g1.2.length),(4,.int .i64 g1.1)],[(0,⟨false,3,(Proc.enc Proc.zero),g1.2.map Proc.enc⟩)],1⟩
noncomputable def zo9 (a0:List Hold):Option ((List Proc)) :=
 (zb9 (zJ1 a0) (0,[])).bind (fun z=>zS1 z)
theorem zaG7 (a0:List Hold) (r:(List Proc)) (h:zo9 a0=some r):MFn C 114 [.sl (a0.map Hold.enc)] [] 0 (.own 0 0 r.length) [(0,⟨false,3,(Proc.enc Proc.zero),r.map Proc.enc⟩)] 1:=by
 refine zn5 (rl:=[.own 0 0 r.length]) zez4 rfl rfl rfl rfl fun E hG hN hK=>?_
 unfold zdo2
 unfold zo9 at h
 refine za0 (za1 hG ?_)
 refine za0 (za1 hG ?_)
 refine za0 (za0 (za1 hG ?_))
 refine zb4 (zek2) (fun v=>zS1 v=some r) ?_ ?_
 · intro j1 h
   unfold zS1 at h
   refine g_st ?_
   refine za0 (za1 hG ?_)
   refine za7 ?_
   exact zC2 [(0,0)] h
 refine zd9 (zek3 a0) hK [(0,1)] h (fun x_l1 h g1 y_l1 h_l1 hx_l1=>?_)
 unfold zJ1 at h_l1
 refine g_st ?_
 refine za0 (za0 (za1 hG ?_))
 refine za4 rfl hG h_l1 (fun _ h_l1=>?_) (fun _ h_l1=>?_)
 · refine za5 ?_
   refine za0 (zb6 ?_)
   obtain ⟨hb1,h_l1⟩:=za3 h_l1
   obtain ⟨hb2,h_l1⟩:=za3 h_l1
   refine za1 hG ?_
   refine za1 hG ?_
   exact zd1 hK [(0,1)] h_l1
 refine zc7 ?_
 obtain rfl:=Option.some.inj h_l1
 have hx:=hx_l1 _ rfl
 subst hx
 try dsimp only at h
 exact zc5 hK [(0,0)] g1.2 (by exact h)
attribute [local irreducible] zo9
noncomputable def zP3  (j2:(List Proc)):Option ((List Proc)) :=
 some j2
@[go_sem] def zek4  (j2:(List Proc)):St:=⟨[(3,.own 0 0 j2.length)],[(0,⟨false,3,(Proc.enc Proc.zero),j2.map Proc.enc⟩)],1⟩
noncomputable def zP4 (a0:Queue) (g1:Int×(List Proc)):Option ((Int×(List Proc))⊕(((List Proc)))) :=
 (if (decide (g1.1 < (a0.waits.length:Int)))=true then
  gd (0≤g1.1∧g1.1 < (a0.waits.length:Int)) <|
  gd (g1.2.length+1≤4294967296) <|
  some (.inl ((IntKind.i64.wrap (g1.1+1)),(g1.2++[(a0.waits.getD g1.1.toNat Wait.zero).proc])))
 else
  some (.inr g1.2))
@[go_sem] def zek5 (a0:Queue) (g1:Int×(List Proc)):St:=⟨[(1,.ptr 0 0 0),(3,.own 1 0 g1.2.length),(5,.int .i64 g1.1)],[(0,⟨false,8,(Queue.enc Queue.zero),[Queue.enc a0]⟩),(1,⟨false,3,(Proc.enc Proc.zero),g1.2.map Proc.enc⟩)],2⟩
noncomputable def zP5 (a0:Queue) (j1:(List Proc)):Option ((List Proc)) :=
 (zb9 (zP4 a0) (0,j1)).bind (fun z=>zP3 z)
@[go_sem] def zek6 (a0:Queue) (j1:(List Proc)):St:=⟨[(1,.ptr 0 0 0),(3,.own 1 0 j1.length)],[(0,⟨false,8,(Queue.enc Queue.zero),[Queue.enc a0]⟩),(1,⟨false,3,(Proc.enc Proc.zero),j1.map Proc.enc⟩)],2⟩
noncomputable def zP6 (a0:Queue) (g2:Int×(List Proc)):Option ((Int×(List Proc))⊕(((List Proc)))) :=
 (if (decide (g2.1 < (a0.converts.length:Int)))=true then
  gd (0≤g2.1∧g2.1 < (a0.converts.length:Int)) <|
  gd (g2.2.length+1≤4294967296) <|
  some (.inl ((IntKind.i64.wrap (g2.1+1)),(g2.2++[(a0.converts.getD g2.1.toNat Wait.zero).proc])))
 else
  some (.inr g2.2))
@[go_sem] def zek7 (a0:Queue) (g2:Int×(List Proc)):St:=⟨[(1,.ptr 0 0 0),(3,.own 1 0 g2.2.length),(4,.int .i64 g2.1)],[(0,⟨false,8,(Queue.enc Queue.zero),[Queue.enc a0]⟩),(1,⟨false,3,(Proc.enc Proc.zero),g2.2.map Proc.enc⟩)],2⟩
noncomputable def zt4 (a0:Queue):Option ((List Proc)) :=
 (zb9 (zP6 a0) (0,[])).bind (fun z=>zP5 a0 z)
theorem zbb1 (a0:Queue) (r:(List Proc)) (h:zt4 a0=some r):PFn C 115 [.agg (Queue.enc a0)] (.sl (r.map Proc.enc)):=by
 refine za8 zez5 rfl fun E hG hN hK=>?_
 unfold zdp3
 unfold zt4 at h
 refine za0 (za1 hG ?_)
 refine za0 (za1 hG ?_)
 refine za0 (za0 (za1 hG ?_))
 refine zb4 (zek6 a0) (fun v=>zP5 a0 v=some r) ?_ ?_
 · intro j1 h
   unfold zP5 at h
   refine g_st ?_
   refine za0 (za0 (za1 hG ?_))
   refine zb4 (zek4) (fun v=>zP3 v=some r) ?_ ?_
   · intro j2 h
     unfold zP3 at h
     refine g_st ?_
     refine za0 (za1 hG ?_)
     refine za7 ?_
     exact zb0 h
   refine zd9 (zek5 a0) hK [(0,0),(1,1)] h (fun x_l1 h g1 y_l1 h_l1 hx_l1=>?_)
   unfold zP4 at h_l1
   refine g_st ?_
   refine za0 (za0 (za1 hG ?_))
   refine za4 rfl hG h_l1 (fun _ h_l1=>?_) (fun _ h_l1=>?_)
   · refine za5 ?_
     refine za0 (zb6 ?_)
     obtain ⟨hb1,h_l1⟩:=za3 h_l1
     obtain ⟨hb2,h_l1⟩:=za3 h_l1
     refine za1 hG ?_
     refine za1 hG ?_
     exact zd1 hK [(0,0),(1,2)] h_l1
   refine zc7 ?_
   obtain rfl:=Option.some.inj h_l1
   have hx:=hx_l1 _ rfl
   subst hx
   try dsimp only at h
   exact zc5 hK [(0,1)] g1.2 (by exact h)
 refine zd9 (zek7 a0) hK [(0,0),(1,1)] h (fun x_l2 h g2 y_l2 h_l2 hx_l2=>?_)
 unfold zP6 at h_l2
 refine g_st ?_
 refine za0 (za0 (za1 hG ?_))
 refine za4 rfl hG h_l2 (fun _ h_l2=>?_) (fun _ h_l2=>?_)
 · refine za5 ?_
   refine za0 (zb6 ?_)
   obtain ⟨hb3,h_l2⟩:=za3 h_l2
   obtain ⟨hb4,h_l2⟩:=za3 h_l2
   refine za1 hG ?_
   refine za1 hG ?_
   exact zd1 hK [(0,0),(1,2)] h_l2
 refine zc7 ?_
 obtain rfl:=Option.some.inj h_l2
 have hx:=hx_l2 _ rfl
 subst hx
 try dsimp only at h
 exact zc5 hK [(0,0),(1,1)] g2.2 (by exact h)
attribute [local irreducible] zt4
noncomputable def zJ2  (j1:Unit):Option (Bool) :=
 some false
@[go_sem] def zek8  (j1:Unit):St:=⟨[],[],0⟩
noncomputable def zC8 (a0:List Proc) (a1:Proc) (g1:Int):Option ((Int)⊕((Unit)⊕(Bool))) :=
 (if (decide (g1 < (a0.length:Int)))=true then
  gd (0≤g1∧g1 < (a0.length:Int)) <|
  (if (decide ((a0.getD g1.toNat Proc.zero)=a1))=true then
   some (.inr (.inr true))
  else
   some (.inl (IntKind.i64.wrap (g1+1))))
 else
  some (.inr (.inl ())))
@[go_sem] def zek9 (a0:List Proc) (a1:Proc) (g1:Int):St:=⟨[(0,.sl (a0.map Proc.enc)),(3,.ptr 0 0 0),(5,.int .i64 g1)],[(0,⟨false,3,(Proc.enc Proc.zero),[Proc.enc a1]⟩)],1⟩
noncomputable def zl8 (a0:List Proc) (a1:Proc):Option (Bool) :=
 (zb9 (zC8 a0 a1) 0).bind (fun | .inl z=>zJ2 z | .inr z=>some z)
theorem zam9 (a0:List Proc) (a1:Proc) (r:Bool) (h:zl8 a0 a1=some r):PFn C 59 [.sl (a0.map Proc.enc),.agg (Proc.enc a1)] (.bool r):=by
 refine za8 zez6 rfl fun E hG hN hK=>?_
 unfold zdq1
 unfold zl8 at h
 refine za0 (za1 hG ?_)
 refine za0 (za0 (za1 hG ?_))
 refine zb4 (zek8) (fun v=>zJ2 v=some r) ?_ ?_
 · intro j1 h
   unfold zJ2 at h
   refine g_st ?_
   refine za0 (za1 hG ?_)
   refine za7 ?_
   exact zb0 h
 refine zd9 (zek9 a0 a1) hK [(0,0)] h (fun x_l1 h g1 y_l1 h_l1 hx_l1=>?_)
 unfold zC8 at h_l1
 refine g_st ?_
 refine za0 (za0 (za1 hG ?_))
 refine za4 rfl hG h_l1 (fun _ h_l1=>?_) (fun _ h_l1=>?_)
 · refine za5 ?_
   refine za0 (zb6 (za0 ?_))
   obtain ⟨hb1,h_l1⟩:=za3 h_l1
   refine zn3 zd2 hG ?_
   refine za4 rfl hG h_l1 (fun _ h_l1=>?_) (fun _ h_l1=>?_)
   · refine za0 (za1 hG ?_)
     refine za7 ?_
     obtain rfl:=Option.some.inj h_l1
     have hx:=hx_l1 _ rfl
     subst hx
     try dsimp only at h
     exact zb0 h
   refine za5 ?_
   refine za1 hG ?_
   exact zd1 hK [(0,0)] h_l1
 refine zc7 ?_
 obtain rfl:=Option.some.inj h_l1
 have hx:=hx_l1 _ rfl
 subst hx
 try dsimp only at h
 exact zc5 hK [] () (by exact h)
attribute [local irreducible] zl8
noncomputable def zN2  (j1:(List Proc)):Option ((List Proc)) :=
 some j1
@[go_sem] def zel0  (j1:(List Proc)):St:=⟨[(3,.own 0 0 j1.length)],[(0,⟨false,3,(Proc.enc Proc.zero),j1.map Proc.enc⟩)],1⟩
noncomputable def zE8 (g1:Int×(List Proc)) (j2:(List Proc)):Option ((Int×(List Proc))⊕(((List Proc)))) :=
 some (.inl ((IntKind.i64.wrap (g1.1+1)),j2))
@[go_sem] def zel1 (a0:List Proc) (g1:Int×(List Proc)) (j2:(List Proc)):St:=⟨[(0,.sl (a0.map Proc.enc)),(3,.own 0 0 j2.length),(4,.int .i64 g1.1)],[(0,⟨false,3,(Proc.enc Proc.zero),j2.map Proc.enc⟩)],1⟩
noncomputable def zy5  (g2:Int×(List Proc)):Option ((Int×(List Proc))⊕(((List Proc)))) :=
 gd ((decide (0 < g2.1))=true→0≤(IntKind.i64.wrap (g2.1 - 1))∧(IntKind.i64.wrap (g2.1 - 1)) < ((g2.2.length:Nat):Int)) <|
 gd ((decide (0 < g2.1))=true→0≤g2.1∧g2.1 < ((g2.2.length:Nat):Int)) <|
 (if ((decide (0 < g2.1))&&(decide (0 < (zj4 (g2.2.getD ((IntKind.i64.wrap (g2.1 - 1)).toNat) Proc.zero) (g2.2.getD g2.1.toNat Proc.zero)))))=true then
  gd (0≤(IntKind.i64.wrap (g2.1 - 1))∧(IntKind.i64.wrap (g2.1 - 1)) < ((g2.2.length:Nat):Int)) <|
  gd (0≤g2.1∧g2.1 < ((g2.2.length:Nat):Int)) <|
  gd (0≤(IntKind.i64.wrap (g2.1 - 1))∧(IntKind.i64.wrap (g2.1 - 1)) < ((g2.2.length:Nat):Int)) <|
  gd (0≤g2.1∧g2.1 < ((g2.2.length:Nat):Int)) <|
  some (.inl ((IntKind.i64.wrap (g2.1 - 1)),((g2.2.set ((IntKind.i64.wrap (g2.1 - 1)).toNat) (g2.2.getD g2.1.toNat Proc.zero)).set g2.1.toNat (g2.2.getD ((IntKind.i64.wrap (g2.1 - 1)).toNat) Proc.zero))))
 else
  some (.inr g2.2))
@[go_sem] def zel2 (a0:List Proc) (g1:Int×(List Proc)) (g2:Int×(List Proc)):St:=⟨[(0,.sl (a0.map Proc.enc)),(3,.own 0 0 g2.2.length),(4,.int .i64 g1.1),(5,.int .i64 g2.1)],[(0,⟨false,3,(Proc.enc Proc.zero),g2.2.map Proc.enc⟩)],1⟩
noncomputable def zy6 (a0:List Proc) (g1:Int×(List Proc)):Option ((Int×(List Proc))⊕(((List Proc)))) :=
 (if (decide (g1.1 < (a0.length:Int)))=true then
  gd (0≤g1.1∧g1.1 < (a0.length:Int)) <|
  (zl8 g1.2 (a0.getD g1.1.toNat Proc.zero)).bind fun v1 =>
  (if v1=true then
   some (.inl ((IntKind.i64.wrap (g1.1+1)),g1.2))
  else
   gd (0≤g1.1∧g1.1 < (a0.length:Int)) <|
   gd (g1.2.length+1≤4294967296) <|
   (zb9 (zy5) (((g1.2.length:Nat):Int),(g1.2++[(a0.getD g1.1.toNat Proc.zero)]))).bind (fun z=>zE8 g1 z))
 else
  some (.inr g1.2))
@[go_sem] def zel3 (a0:List Proc) (g1:Int×(List Proc)):St:=⟨[(0,.sl (a0.map Proc.enc)),(3,.own 0 0 g1.2.length),(4,.int .i64 g1.1)],[(0,⟨false,3,(Proc.enc Proc.zero),g1.2.map Proc.enc⟩)],1⟩
noncomputable def zi6 (a0:List Proc):Option ((List Proc)) :=
 (zb9 (zy6 a0) (0,[])).bind (fun z=>zN2 z)
theorem zaf8 (a0:List Proc) (r:(List Proc)) (h:zi6 a0=some r):PFn C 74 [.sl (a0.map Proc.enc)] (.sl (r.map Proc.enc)):=by
 refine za8 zez7 rfl fun E hG hN hK=>?_
 unfold zdr2
 unfold zi6 at h
 refine za0 (za1 hG ?_)
 refine za0 (za1 hG ?_)
 refine za0 (za0 (za1 hG ?_))
 refine zb4 (zel0) (fun v=>zN2 v=some r) ?_ ?_
 · intro j1 h
   unfold zN2 at h
   refine g_st ?_
   refine za0 (za1 hG ?_)
   refine za7 ?_
   exact zb0 h
 refine zd9 (zel3 a0) hK [(0,0)] h (fun x_l1 h g1 y_l1 h_l1 hx_l1=>?_)
 unfold zy6 at h_l1
 refine g_st ?_
 refine za0 (za0 (za1 hG ?_))
 refine za4 rfl hG h_l1 (fun _ h_l1=>?_) (fun _ h_l1=>?_)
 · refine za5 ?_
   refine za0 (zb6 (za0 (za0 ?_)))
   obtain ⟨hb9,h_l1⟩:=za3 h_l1
   refine za1 hG ?_
   obtain ⟨v1,hv1,h_l1⟩:=za2 h_l1
   refine za6 (fun hg=>zam9 g1.2 (a0.getD g1.1.toNat Proc.zero) _ (hv1)) ?_
   refine za4 rfl hG h_l1 (fun _ h_l1=>?_) (fun _ h_l1=>?_)
   · refine zc7 ?_
     refine za1 hG ?_
     exact zd1 hK [(0,0)] h_l1
   refine za5 ?_
   refine za0 (za1 hG ?_)
   refine za0 ?_
   obtain ⟨hb7,h_l1⟩:=za3 h_l1
   obtain ⟨hb8,h_l1⟩:=za3 h_l1
   refine za1 hG ?_
   refine zb4 (zel1 a0 g1) (fun v=>zE8 g1 v=some y_l1) ?_ ?_
   · intro j2 h_l1
     unfold zE8 at h_l1
     refine g_st ?_
     refine za1 hG ?_
     exact zd1 hK [(0,0)] h_l1
   refine zd9 (zel2 a0 g1) hK [(0,1)] h_l1 (fun x_l2 h_l1 g2 y_l2 h_l2 hx_l2=>?_)
   unfold zy5 at h_l2
   refine g_st ?_
   refine za0 (za0 ?_)
   obtain ⟨hb5,h_l2⟩:=za3 h_l2
   obtain ⟨hb6,h_l2⟩:=za3 h_l2
   refine zn3 zd2 hG ?_
   refine zf7 (fun hg=>zN0 (g2.2.getD ((IntKind.i64.wrap (g2.1 - 1)).toNat) Proc.zero) (g2.2.getD g2.1.toNat Proc.zero)) ?_
   refine za4 rfl hG h_l2 (fun _ h_l2=>?_) (fun _ h_l2=>?_)
   · refine za5 ?_
     refine zb6 (za0 ?_)
     obtain ⟨hb4,h_l2⟩:=za3 h_l2
     refine za1 hG ?_
     refine za0 ?_
     obtain ⟨hb2,h_l2⟩:=za3 h_l2
     obtain ⟨hb3,h_l2⟩:=za3 h_l2
     refine za1 hG ?_
     refine za0 ?_
     obtain ⟨hb1,h_l2⟩:=za3 h_l2
     refine za1 hG ?_
     refine za1 hG ?_
     exact zd1 hK [(0,0)] h_l2
   refine zc7 ?_
   obtain rfl:=Option.some.inj h_l2
   have hx:=hx_l2 _ rfl
   subst hx
   try dsimp only at h_l1
   exact zc5 hK [(0,0)] g2.2 (by exact h_l1)
 refine zc7 ?_
 obtain rfl:=Option.some.inj h_l1
 have hx:=hx_l1 _ rfl
 subst hx
 try dsimp only at h
 exact zc5 hK [(0,0)] g1.2 (by exact h)
attribute [local irreducible] zi6
noncomputable def zt5 (a0:Queue):Option ((List Proc)) :=
 (zo9 a0.holds).bind fun v1 =>
 (zt4 a0).bind fun v2 =>
 gd (v1.length+v2.length≤4294967296) <|
 (zi6 (v1++v2)).bind fun v3 =>
 some v3
theorem zbb2 (a0:Queue) (r:(List Proc)) (h:zt5 a0=some r):PFn C 73 [.agg (Queue.enc a0)] (.sl (r.map Proc.enc)):=by
 refine za8 zez8 rfl fun E hG hN hK=>?_
 unfold zdr5
 unfold zt5 at h
 refine za0 (za1 hG ?_)
 refine za0 (zB2 zd2 hG ?_)
 obtain ⟨v1,hv1,h⟩:=za2 h
 refine zQ8 [] [(0,1)] [0] (zaG7 a0.holds _ hv1) rfl rfl ?_
 obtain ⟨v2,hv2,h⟩:=za2 h
 obtain ⟨hb1,h⟩:=za3 h
 refine zt8 (fun hg=>zbb1 a0 _ (hv2)) ?_
 obtain ⟨v3,hv3,h⟩:=za2 h
 refine zt8 (fun hg=>zaf8 (v1++v2) _ (hv3)) ?_
 refine za7 ?_
 exact zb0 h
attribute [local irreducible] zt5
end Ab
end Go.Proofs.YtfjeceicgfdmjaaGreatDoor
