/-
  Functions of the program,as Lean functions; what the program's code computes is what they say.
-/
import Derived.Test.YtfjeceicgfdmjaaGreatDoorFn2
namespace Go.Proofs.YtfjeceicgfdmjaaGreatDoor
namespace Ab
set_option linter.unusedSimpArgs false
set_option linter.unusedVariables false
set_option maxRecDepth 100000
set_option maxHeartbeats 1000000
attribute [local irreducible] ze6 zc7 zi3 zt0 zq1 zf7 zd5 zm5 zq2 zp9 zq3 zi4 zd4 zf8 ze7 zg1 zl1 zg5 zl7 zj4 zg2 zd9 zl9 zf4 zm7 zn4 zh0 zh8 zi8 zi5 zg6 zf9 zc3 zc0 zm8 zo1 zb4 zb5 zg0 zm9 zl2 zj5 zp6 zu2 zc4 zb6 zi6 zi9 zk3 zA8 zo2 zj0 zd7 zk6 zo3 zj1 zj2 zo4 zf5 zk7
noncomputable def zo5 (a0:List Queue) (a1:Proc) (a2:Atom) (a3:Int):Option ((List Queue)×(List Event)×Int) :=
 (zu2 a0 a2.name).bind fun v1 =>
 (if (!decide (v1.2=0))=true then
  some ([],[],v1.2)
 else
  (zl2 a0).bind fun v2 =>
  (zi6 v2 a1).bind fun v3 =>
  (if ((!v3)&&(decide (8≤(v2.length:Int))))=true then
   some ([],[],4)
  else
   gd (0≤v1.1∧v1.1 < (a0.length:Int)) <|
   (zo4 (a0.getD v1.1.toNat Queue.zero) a1 a2.amount a3).bind fun v4 =>
   (if (!decide (v4.2.2=0))=true then
    some ([],[],v4.2.2)
   else
    (zf5 a0 v1.1 v4.1).bind fun v5 =>
    (zk7 a2.name v4.2.1).bind fun v6 =>
    some (v5,v6,0))))
theorem zaq2 (a0:List Queue) (a1:Proc) (a2:Atom) (a3:Int) (r:(List Queue)×(List Event)×Int) (h:zo5 a0 a1 a2 a3=some r):PFn C 17 [.sl (a0.map Queue.enc),.agg (Proc.enc a1),.agg (Atom.enc a2),.int .i64 a3] (.tup [.sl (r.1.map Queue.enc),.sl (r.2.1.map Event.enc),.int .i64 r.2.2]):=by
 refine za8 zeg2 rfl fun E hG hN hK=>?_
 unfold zcE1
 unfold zo5 at h
 refine za0 (za1 hG ?_)
 refine za0 (za1 hG ?_)
 obtain ⟨v1,hv1,h⟩:=za2 h
 refine za6 (fun hg=>zaq1 a0 a2.name _ (hv1)) ?_
 refine za0 (za0 (za1 hG ?_))
 refine za4 rfl hG h (fun _ h=>?_) (fun _ h=>?_)
 · refine za0 (za1 hG ?_)
   refine za7 ?_
   exact zb0 h
 refine za5 ?_
 refine za0 (za1 hG ?_)
 obtain ⟨v2,hv2,h⟩:=za2 h
 refine za6 (fun hg=>zap9 a0 _ (hv2)) ?_
 refine za0 (za0 (za1 hG ?_))
 obtain ⟨v3,hv3,h⟩:=za2 h
 refine za6 (fun hg=>zaG7 v2 a1 _ (hv3)) ?_
 refine za4 rfl hG h (fun _ h=>?_) (fun _ h=>?_)
 · refine za0 (za1 hG ?_)
   refine za7 ?_
   exact zb0 h
 refine za5 ?_
 refine za0 ?_
 obtain ⟨hb1,h⟩:=za3 h
 refine zF2 zd6 hG ?_
 obtain ⟨v4,hv4,h⟩:=za2 h
 refine zz7 (fun hg=>zaV4 (a0.getD v1.1.toNat Queue.zero) a1 a2.amount a3 _ (hv4)) ?_
 refine za0 (za0 (za1 hG ?_))
 refine za4 rfl hG h (fun _ h=>?_) (fun _ h=>?_)
 · refine za0 (za1 hG ?_)
   refine za7 ?_
   exact zb0 h
 refine za5 ?_
 refine za0 (zF2 zd6 hG ?_)
 obtain ⟨v5,hv5,h⟩:=za2 h
 refine zz7 (fun hg=>zM4 a0 v1.1 v4.1 _ (hv5)) ?_
 obtain ⟨v6,hv6,h⟩:=za2 h
 refine zap4 [] [] [] (zaj1 a2.name v4.2.1 _ hv6) rfl rfl ?_
 refine za7 ?_
 exact zb0 h
attribute [local irreducible] zo5
noncomputable def zO5  (j1:(List Atom)):Option ((List Atom)) :=
 some j1
@[go_sem] def zdS7  (j1:(List Atom)):St:=⟨[(5,.own 0 0 j1.length)],[(0,⟨false,3,(Atom.enc Atom.zero),j1.map Atom.enc⟩)],1⟩
noncomputable def zz0 (a0:List Queue) (a1:Proc) (g1:Int×(List Atom)):Option ((Int×(List Atom))⊕(((List Atom)))) :=
 (if (decide (g1.1 < (a0.length:Int)))=true then
  gd (0≤g1.1∧g1.1 < (a0.length:Int)) <|
  (zg5 (a0.getD g1.1.toNat Queue.zero) a1).bind fun v1 =>
  (if (!decide (v1={ Amount.zero with  }))=true then
   gd (g1.2.length+1≤4294967296) <|
   some (.inl ((IntKind.i64.wrap (g1.1+1)),(g1.2++[(⟨((a0.getD g1.1.toNat Queue.zero).resource).name,v1⟩:Atom)])))
  else
   some (.inl ((IntKind.i64.wrap (g1.1+1)),g1.2)))
 else
  some (.inr g1.2))
@[go_sem] def zdS8 (a0:List Queue) (a1:Proc) (g1:Int×(List Atom)):St:=⟨[(3,.ptr 0 0 0),(5,.own 1 0 g1.2.length),(9,.sl (a0.map Queue.enc)),(10,.int .i64 (a0.length:Int)),(11,.int .i64 g1.1)],[(0,⟨false,3,(Proc.enc Proc.zero),[Proc.enc a1]⟩),(1,⟨false,3,(Atom.enc Atom.zero),g1.2.map Atom.enc⟩)],2⟩
noncomputable def zk8 (a0:List Queue) (a1:Proc):Option ((List Atom)) :=
 (zc1 (zz0 a0 a1) (0,[])).bind (fun z=>zO5 z)
theorem zaC1 (a0:List Queue) (a1:Proc) (r:(List Atom)) (h:zk8 a0 a1=some r):PFn C 51 [.sl (a0.map Queue.enc),.agg (Proc.enc a1)] (.sl (r.map Atom.enc)):=by
 refine za8 zeg3 rfl fun E hG hN hK=>?_
 unfold zcF2
 unfold zk8 at h
 refine za0 (za1 hG ?_)
 refine za0 (za1 hG ?_)
 refine za0 (za0 (za1 hG ?_))
 refine zb7 (zdS7) (fun v=>zO5 v=some r) ?_ ?_
 · intro j1 h
   unfold zO5 at h
   refine g_st ?_
   refine za0 (za1 hG ?_)
   refine za7 ?_
   exact zb0 h
 refine ze0 (zdS8 a0 a1) hK [(0,0),(1,1)] h (fun x_l1 h g1 y_l1 h_l1 hx_l1=>?_)
 unfold zz0 at h_l1
 refine g_st ?_
 refine za0 (za1 hG ?_)
 refine za0 ?_
 refine za4 rfl hG h_l1 (fun _ h_l1=>?_) (fun _ h_l1=>?_)
 · refine za5 ?_
   refine za0 (zb9 (za0 ?_))
   obtain ⟨hb2,h_l1⟩:=za3 h_l1
   refine za1 hG ?_
   refine za0 (za1 hG ?_)
   obtain ⟨v1,hv1,h_l1⟩:=za2 h_l1
   refine za6 (fun hg=>zH2 (a0.getD g1.1.toNat Queue.zero) a1 _ (hv1)) ?_
   refine za0 (za1 hG ?_)
   refine za4 rfl hG h_l1 (fun _ h_l1=>?_) (fun _ h_l1=>?_)
   · obtain ⟨hb1,h_l1⟩:=za3 h_l1
     refine za1 hG ?_
     refine za1 hG ?_
     exact zd0 hK [(0,0),(1,4)] h_l1
   refine za5 ?_
   refine za1 hG ?_
   exact zd0 hK [(0,0),(1,1)] h_l1
 refine zc5 ?_
 obtain rfl:=Option.some.inj h_l1
 have hx:=hx_l1 _ rfl
 subst hx
 try dsimp only at h
 exact zc8 hK [(0,1)] g1.2 (by exact h)
attribute [local irreducible] zk8
noncomputable def zj6 :Option (Bool) :=
 (zq1 [{ Resource.zero with name:=(⟨#[97]⟩:ByteArray),kind:=1,units:=1 }]).bind fun v1 =>
 (zq3 0).bind fun v2 =>
 (zo5 v1.1 v2 (⟨(⟨#[97]⟩:ByteArray),{ Amount.zero with mode:=5 }⟩:Atom) 0).bind fun v3 =>
 (zk8 v3.1 v2).bind fun v4 =>
 gd ((((decide (v1.2=0))&&(decide (v3.2.2=0)))&&(decide ((v3.2.1.length:Int)=1)))=true→0≤0∧0 < (v3.2.1.length:Int)) <|
 gd ((((((decide (v1.2=0))&&(decide (v3.2.2=0)))&&(decide ((v3.2.1.length:Int)=1)))&&(decide ((v3.2.1.getD 0 Event.zero).kind=1)))&&(decide ((v4.length:Int)=1)))=true→0≤0∧0 < (v4.length:Int)) <|
 ((if ((((((decide (v1.2=0))&&(decide (v3.2.2=0)))&&(decide ((v3.2.1.length:Int)=1)))&&(decide ((v3.2.1.getD 0 Event.zero).kind=1)))&&(decide ((v4.length:Int)=1)))&&(decide ((v4.getD 0 Atom.zero)=(⟨(⟨#[97]⟩:ByteArray),{ Amount.zero with mode:=5 }⟩:Atom))))=true then zp6 v3.1 (⟨#[97]⟩:ByteArray) else some (0))).bind fun v5 =>
 ((if (((((((decide (v1.2=0))&&(decide (v3.2.2=0)))&&(decide ((v3.2.1.length:Int)=1)))&&(decide ((v3.2.1.getD 0 Event.zero).kind=1)))&&(decide ((v4.length:Int)=1)))&&(decide ((v4.getD 0 Atom.zero)=(⟨(⟨#[97]⟩:ByteArray),{ Amount.zero with mode:=5 }⟩:Atom))))&&(decide (v5=0)))=true then zj5 v3.1 else some (false))).bind fun v6 =>
 some ((((((((decide (v1.2=0))&&(decide (v3.2.2=0)))&&(decide ((v3.2.1.length:Int)=1)))&&(decide ((v3.2.1.getD 0 Event.zero).kind=1)))&&(decide ((v4.length:Int)=1)))&&(decide ((v4.getD 0 Atom.zero)=(⟨(⟨#[97]⟩:ByteArray),{ Amount.zero with mode:=5 }⟩:Atom))))&&(decide (v5=0)))&&v6)
theorem zJ9  (r:Bool) (h:zj6=some r):PFn C 14 [] (.bool r):=by
 refine za8 zeg4 rfl fun E hG hN hK=>?_
 unfold zcG0
 unfold zj6 at h
 refine za0 (za1 hG ?_)
 refine za0 (za1 hG ?_)
 obtain ⟨v1,hv1,h⟩:=za2 h
 refine za6 (fun hg=>PFn.unfull (zaB7 [{ Resource.zero with name:=(⟨#[97]⟩:ByteArray),kind:=1,units:=1 }] _ (hv1))) ?_
 refine za0 (za1 hG ?_)
 obtain ⟨v2,hv2,h⟩:=za2 h
 refine za6 (fun hg=>zbj5 0 _ (hv2)) ?_
 refine za0 (za1 hG ?_)
 refine za0 (za1 hG ?_)
 obtain ⟨v3,hv3,h⟩:=za2 h
 have hc_v3:=zaq2 v1.1 v2 (⟨(⟨#[97]⟩:ByteArray),{ Amount.zero with mode:=5 }⟩:Atom) 0 _ (hv3)
 have el_v3:∀ x:Atom,Atom.enc x=[A.str x.name,A.int .i64 x.amount.mode,A.int .i64 x.amount.units]:=fun x=>rfl
 rw [el_v3] at hc_v3
 dsimp only at hc_v3
 refine za6 (fun hg=>by exact hc_v3) ?_
 refine za0 (za1 hG ?_)
 obtain ⟨v4,hv4,h⟩:=za2 h
 refine za6 (fun hg=>zaC1 v3.1 v2 _ (hv4)) ?_
 refine za0 ?_
 obtain ⟨hb1,h⟩:=za3 h
 obtain ⟨hb2,h⟩:=za3 h
 refine zq9 zd6 hG ?_
 obtain ⟨v5,hv5,h⟩:=za2 h
 refine zi7 (fun hg=>zax2 v3.1 (⟨#[97]⟩:ByteArray) _ (zw9 hg hv5)) ?_
 obtain ⟨v6,hv6,h⟩:=za2 h
 refine zi7 (fun hg=>zaq0 v3.1 _ (zw9 hg hv6)) ?_
 refine za7 ?_
 exact zb0 h
attribute [local irreducible] zj6
noncomputable def zK0  (j1:Unit):Option (Bool) :=
 some true
@[go_sem] def zdS9  (j1:Unit):St:=⟨[],[],0⟩
noncomputable def zY0 (a0:List Hold) (a1:List Hold) (g1:Int):Option ((Int)⊕((Unit)⊕(Bool))) :=
 (if (decide (g1 < (a0.length:Int)))=true then
  gd (0≤g1∧g1 < (a0.length:Int)) <|
  gd (0≤g1∧g1 < (a1.length:Int)) <|
  (if (!decide ((a0.getD g1.toNat Hold.zero)=(a1.getD g1.toNat Hold.zero)))=true then
   some (.inr (.inr false))
  else
   some (.inl (IntKind.i64.wrap (g1+1))))
 else
  some (.inr (.inl ())))
@[go_sem] def zdT0 (a0:List Hold) (a1:List Hold) (g1:Int):St:=⟨[(0,.sl (a0.map Hold.enc)),(1,.sl (a1.map Hold.enc)),(5,.int .i64 g1)],[],0⟩
noncomputable def zj3 (a0:List Hold) (a1:List Hold):Option (Bool) :=
 (if (!decide ((a0.length:Int)=(a1.length:Int)))=true then
  some false
 else
  (zc1 (zY0 a0 a1) 0).bind (fun | .inl z=>zK0 z | .inr z=>some z))
theorem zaz0 (a0:List Hold) (a1:List Hold) (r:Bool) (h:zj3 a0 a1=some r):PFn C 29 [.sl (a0.map Hold.enc),.sl (a1.map Hold.enc)] (.bool r):=by
 refine za8 zeg5 rfl fun E hG hN hK=>?_
 unfold zcH0
 unfold zj3 at h
 refine za0 (za1 hG ?_)
 refine za0 (za0 (za1 hG ?_))
 refine za4 rfl hG h (fun _ h=>?_) (fun _ h=>?_)
 · refine za0 (za1 hG ?_)
   refine za7 ?_
   exact zb0 h
 refine za5 ?_
 refine za0 (za0 (za1 hG ?_))
 refine zb7 (zdS9) (fun v=>zK0 v=some r) ?_ ?_
 · intro j1 h
   unfold zK0 at h
   refine g_st ?_
   refine za0 (za1 hG ?_)
   refine za7 ?_
   exact zb0 h
 refine ze0 (zdT0 a0 a1) hK [] h (fun x_l1 h g1 y_l1 h_l1 hx_l1=>?_)
 unfold zY0 at h_l1
 refine g_st ?_
 refine za0 (za0 (za1 hG ?_))
 refine za4 rfl hG h_l1 (fun _ h_l1=>?_) (fun _ h_l1=>?_)
 · refine za5 ?_
   refine za0 (zb9 (za0 ?_))
   obtain ⟨hb1,h_l1⟩:=za3 h_l1
   obtain ⟨hb2,h_l1⟩:=za3 h_l1
   refine zq9 zd6 hG ?_
   refine za4 rfl hG h_l1 (fun _ h_l1=>?_) (fun _ h_l1=>?_)
   · refine za0 (za1 hG ?_)
     refine za7 ?_
     obtain rfl:=Option.some.inj h_l1
     have hx:=hx_l1 _ rfl
     subst hx
     try dsimp only at h
     exact zb0 h
   refine za5 ?_
   refine za1 hG ?_
   exact zd0 hK [] h_l1
 refine zc5 ?_
 obtain rfl:=Option.some.inj h_l1
 have hx:=hx_l1 _ rfl
 subst hx
 try dsimp only at h
 exact zc8 hK [] () (by exact h)
attribute [local irreducible] zj3
noncomputable def zK1  (j1:Unit):Option (Bool) :=
 some true
@[go_sem] def zdT1  (j1:Unit):St:=⟨[],[],0⟩
noncomputable def zY1 (a0:List Wait) (a1:List Wait) (g1:Int):Option ((Int)⊕((Unit)⊕(Bool))) :=
 (if (decide (g1 < (a0.length:Int)))=true then
  gd (0≤g1∧g1 < (a0.length:Int)) <|
  gd (0≤g1∧g1 < (a1.length:Int)) <|
  (if (!decide ((a0.getD g1.toNat Wait.zero)=(a1.getD g1.toNat Wait.zero)))=true then
   some (.inr (.inr false))
  else
   some (.inl (IntKind.i64.wrap (g1+1))))
 else
  some (.inr (.inl ())))
@[go_sem] def zdT2 (a0:List Wait) (a1:List Wait) (g1:Int):St:=⟨[(0,.sl (a0.map Wait.enc)),(1,.sl (a1.map Wait.enc)),(5,.int .i64 g1)],[],0⟩
noncomputable def zh1 (a0:List Wait) (a1:List Wait):Option (Bool) :=
 (if (!decide ((a0.length:Int)=(a1.length:Int)))=true then
  some false
 else
  (zc1 (zY1 a0 a1) 0).bind (fun | .inl z=>zK1 z | .inr z=>some z))
theorem zac1 (a0:List Wait) (a1:List Wait) (r:Bool) (h:zh1 a0 a1=some r):PFn C 64 [.sl (a0.map Wait.enc),.sl (a1.map Wait.enc)] (.bool r):=by
 refine za8 zeg6 rfl fun E hG hN hK=>?_
 unfold zcI0
 unfold zh1 at h
 refine za0 (za1 hG ?_)
 refine za0 (za0 (za1 hG ?_))
 refine za4 rfl hG h (fun _ h=>?_) (fun _ h=>?_)
 · refine za0 (za1 hG ?_)
   refine za7 ?_
   exact zb0 h
 refine za5 ?_
 refine za0 (za0 (za1 hG ?_))
 refine zb7 (zdT1) (fun v=>zK1 v=some r) ?_ ?_
 · intro j1 h
   unfold zK1 at h
   refine g_st ?_
   refine za0 (za1 hG ?_)
   refine za7 ?_
   exact zb0 h
 refine ze0 (zdT2 a0 a1) hK [] h (fun x_l1 h g1 y_l1 h_l1 hx_l1=>?_)
 unfold zY1 at h_l1
 refine g_st ?_
 refine za0 (za0 (za1 hG ?_))
 refine za4 rfl hG h_l1 (fun _ h_l1=>?_) (fun _ h_l1=>?_)
 · refine za5 ?_
   refine za0 (zb9 (za0 ?_))
   obtain ⟨hb1,h_l1⟩:=za3 h_l1
   obtain ⟨hb2,h_l1⟩:=za3 h_l1
   refine zq9 zd6 hG ?_
   refine za4 rfl hG h_l1 (fun _ h_l1=>?_) (fun _ h_l1=>?_)
   · refine za0 (za1 hG ?_)
     refine za7 ?_
     obtain rfl:=Option.some.inj h_l1
     have hx:=hx_l1 _ rfl
     subst hx
     try dsimp only at h
     exact zb0 h
   refine za5 ?_
   refine za1 hG ?_
   exact zd0 hK [] h_l1
 refine zc5 ?_
 obtain rfl:=Option.some.inj h_l1
 have hx:=hx_l1 _ rfl
 subst hx
 try dsimp only at h
 exact zc8 hK [] () (by exact h)
attribute [local irreducible] zh1
noncomputable def zu3 (a0:Queue) (a1:Queue):Option (Bool) :=
 ((if ((decide (a0.resource=a1.resource))&&(decide (a0.gen=a1.gen)))=true then zj3 a0.holds a1.holds else some (false))).bind fun v1 =>
 ((if (((decide (a0.resource=a1.resource))&&(decide (a0.gen=a1.gen)))&&v1)=true then zh1 a0.converts a1.converts else some (false))).bind fun v2 =>
 ((if ((((decide (a0.resource=a1.resource))&&(decide (a0.gen=a1.gen)))&&v1)&&v2)=true then zh1 a0.waits a1.waits else some (false))).bind fun v3 =>
 some (((((decide (a0.resource=a1.resource))&&(decide (a0.gen=a1.gen)))&&v1)&&v2)&&v3)
theorem zbb5 (a0:Queue) (a1:Queue) (r:Bool) (h:zu3 a0 a1=some r):PFn C 25 [.agg (Queue.enc a0),.agg (Queue.enc a1)] (.bool r):=by
 refine za8 zeg7 rfl fun E hG hN hK=>?_
 unfold zcI3
 unfold zu3 at h
 refine za0 (za1 hG ?_)
 refine za0 (za1 hG ?_)
 obtain ⟨v1,hv1,h⟩:=za2 h
 refine za6 (fun hg=>zaz0 a0.holds a1.holds _ (zw9 hg hv1)) ?_
 obtain ⟨v2,hv2,h⟩:=za2 h
 refine za6 (fun hg=>zac1 a0.converts a1.converts _ (zw9 hg hv2)) ?_
 obtain ⟨v3,hv3,h⟩:=za2 h
 refine za6 (fun hg=>zac1 a0.waits a1.waits _ (zw9 hg hv3)) ?_
 refine za7 ?_
 exact zb0 h
attribute [local irreducible] zu3
noncomputable def zP2  (j1:Unit):Option (Bool) :=
 some true
@[go_sem] def zdT3  (j1:Unit):St:=⟨[],[],0⟩
noncomputable def zB8 (a0:List Queue) (a1:List Queue) (g1:Int):Option ((Int)⊕((Unit)⊕(Bool))) :=
 (if (decide (g1 < (a0.length:Int)))=true then
  gd (0≤g1∧g1 < (a0.length:Int)) <|
  gd (0≤g1∧g1 < (a1.length:Int)) <|
  (zu3 (a0.getD g1.toNat Queue.zero) (a1.getD g1.toNat Queue.zero)).bind fun v1 =>
  (if (!v1)=true then
   some (.inr (.inr false))
  else
   some (.inl (IntKind.i64.wrap (g1+1))))
 else
  some (.inr (.inl ())))
@[go_sem] def zdT4 (a0:List Queue) (a1:List Queue) (g1:Int):St:=⟨[(0,.sl (a0.map Queue.enc)),(1,.sl (a1.map Queue.enc)),(5,.int .i64 g1)],[],0⟩
noncomputable def zs2 (a0:List Queue) (a1:List Queue):Option (Bool) :=
 (if (!decide ((a0.length:Int)=(a1.length:Int)))=true then
  some false
 else
  (zc1 (zB8 a0 a1) 0).bind (fun | .inl z=>zP2 z | .inr z=>some z))
theorem zax3 (a0:List Queue) (a1:List Queue) (r:Bool) (h:zs2 a0 a1=some r):PFn C 15 [.sl (a0.map Queue.enc),.sl (a1.map Queue.enc)] (.bool r):=by
 refine za8 zeg8 rfl fun E hG hN hK=>?_
 unfold zcJ3
 unfold zs2 at h
 refine za0 (za1 hG ?_)
 refine za0 (za0 (za1 hG ?_))
 refine za4 rfl hG h (fun _ h=>?_) (fun _ h=>?_)
 · refine za0 (za1 hG ?_)
   refine za7 ?_
   exact zb0 h
 refine za5 ?_
 refine za0 (za0 (za1 hG ?_))
 refine zb7 (zdT3) (fun v=>zP2 v=some r) ?_ ?_
 · intro j1 h
   unfold zP2 at h
   refine g_st ?_
   refine za0 (za1 hG ?_)
   refine za7 ?_
   exact zb0 h
 refine ze0 (zdT4 a0 a1) hK [] h (fun x_l1 h g1 y_l1 h_l1 hx_l1=>?_)
 unfold zB8 at h_l1
 refine g_st ?_
 refine za0 (za0 (za1 hG ?_))
 refine za4 rfl hG h_l1 (fun _ h_l1=>?_) (fun _ h_l1=>?_)
 · refine za5 ?_
   refine za0 (zb9 (za0 ?_))
   obtain ⟨hb1,h_l1⟩:=za3 h_l1
   obtain ⟨hb2,h_l1⟩:=za3 h_l1
   refine zq9 zd6 hG ?_
   obtain ⟨v1,hv1,h_l1⟩:=za2 h_l1
   refine zi7 (fun hg=>zbb5 (a0.getD g1.toNat Queue.zero) (a1.getD g1.toNat Queue.zero) _ (hv1)) ?_
   refine za4 rfl hG h_l1 (fun _ h_l1=>?_) (fun _ h_l1=>?_)
   · refine za0 (za1 hG ?_)
     refine za7 ?_
     obtain rfl:=Option.some.inj h_l1
     have hx:=hx_l1 _ rfl
     subst hx
     try dsimp only at h
     exact zb0 h
   refine za5 ?_
   refine za1 hG ?_
   exact zd0 hK [] h_l1
 refine zc5 ?_
 obtain rfl:=Option.some.inj h_l1
 have hx:=hx_l1 _ rfl
 subst hx
 try dsimp only at h
 exact zc8 hK [] () (by exact h)
attribute [local irreducible] zs2
noncomputable def zV2  (j1:Unit):Option (Bool) :=
 some true
@[go_sem] def zdT5  (j1:Unit):St:=⟨[],[],0⟩
noncomputable def zE0 (a0:List Queue) (g1:Int):Option ((Int)⊕((Unit)⊕(Bool))) :=
 (if (decide (g1 < (a0.length:Int)))=true then
  gd (0≤g1∧g1 < (a0.length:Int)) <|
  gd ((!(decide (20 < (((a0.getD g1.toNat Queue.zero).holds).length:Int))))=true→0≤g1∧g1 < (a0.length:Int)) <|
  gd ((!((decide (20 < (((a0.getD g1.toNat Queue.zero).holds).length:Int)))||(decide (20 < (((a0.getD g1.toNat Queue.zero).converts).length:Int)))))=true→0≤g1∧g1 < (a0.length:Int)) <|
  (if (((decide (20 < (((a0.getD g1.toNat Queue.zero).holds).length:Int)))||(decide (20 < (((a0.getD g1.toNat Queue.zero).converts).length:Int))))||(decide (20 < (((a0.getD g1.toNat Queue.zero).waits).length:Int))))=true then
   some (.inr (.inr false))
  else
   some (.inl (IntKind.i64.wrap (g1+1))))
 else
  some (.inr (.inl ())))
@[go_sem] def zdT6 (a0:List Queue) (g1:Int):St:=⟨[(0,.sl (a0.map Queue.enc)),(3,.int .i64 g1)],[],0⟩
noncomputable def zo6 (a0:List Queue):Option (Bool) :=
 (if (decide (20 < (a0.length:Int)))=true then
  some false
 else
  (zc1 (zE0 a0) 0).bind (fun | .inl z=>zV2 z | .inr z=>some z))
theorem zaq3 (a0:List Queue) (r:Bool) (h:zo6 a0=some r):PFn C 16 [.sl (a0.map Queue.enc)] (.bool r):=by
 refine za8 zeg9 rfl fun E hG hN hK=>?_
 unfold zcK3
 unfold zo6 at h
 refine za0 (za1 hG ?_)
 refine za0 (za0 (za1 hG ?_))
 refine za4 rfl hG h (fun _ h=>?_) (fun _ h=>?_)
 · refine za0 (za1 hG ?_)
   refine za7 ?_
   exact zb0 h
 refine za5 ?_
 refine za0 (za0 (za1 hG ?_))
 refine zb7 (zdT5) (fun v=>zV2 v=some r) ?_ ?_
 · intro j1 h
   unfold zV2 at h
   refine g_st ?_
   refine za0 (za1 hG ?_)
   refine za7 ?_
   exact zb0 h
 refine ze0 (zdT6 a0) hK [] h (fun x_l1 h g1 y_l1 h_l1 hx_l1=>?_)
 unfold zE0 at h_l1
 refine g_st ?_
 refine za0 (za0 (za1 hG ?_))
 refine za4 rfl hG h_l1 (fun _ h_l1=>?_) (fun _ h_l1=>?_)
 · refine za5 ?_
   refine za0 (zb9 (za0 ?_))
   obtain ⟨hb1,h_l1⟩:=za3 h_l1
   obtain ⟨hb2,h_l1⟩:=za3 h_l1
   obtain ⟨hb3,h_l1⟩:=za3 h_l1
   refine za1 hG ?_
   refine za4 rfl hG h_l1 (fun _ h_l1=>?_) (fun _ h_l1=>?_)
   · refine za0 (za1 hG ?_)
     refine za7 ?_
     obtain rfl:=Option.some.inj h_l1
     have hx:=hx_l1 _ rfl
     subst hx
     try dsimp only at h
     exact zb0 h
   refine za5 ?_
   refine za1 hG ?_
   exact zd0 hK [] h_l1
 refine zc5 ?_
 obtain rfl:=Option.some.inj h_l1
 have hx:=hx_l1 _ rfl
 subst hx
 try dsimp only at h
 exact zc8 hK [] () (by exact h)
attribute [local irreducible] zo6
def ze4 (a0:Proc):Bool :=
 ((((((decide (0≤a0.site))&&(decide (a0.site < 4)))&&(decide (1≤a0.inc)))&&(decide (a0.inc≤99)))&&(decide (1≤a0.num)))&&(decide (a0.num≤999)))
theorem zG0 (a0:Proc):PFn C 97 [.agg (Proc.enc a0)] (.bool (ze4 a0)):=by
 generalize h:ze4 a0=r
 refine za8 zeh0 rfl fun E hG hN hK=>?_
 unfold zcK6
 unfold ze4 at h
 refine za0 (za1 hG ?_)
 refine za0 (za1 hG ?_)
 refine za7 ?_
 exact zf3 h
def zl3 (a0:Int):Bool :=
 ((decide (1≤a0))&&(decide (a0≤5)))
theorem zE1 (a0:Int):PFn C 143 [.int .i64 a0] (.bool (zl3 a0)):=by
 generalize h:zl3 a0=r
 refine za8 zeh1 rfl fun E hG hN hK=>?_
 unfold zcK9
 unfold zl3 at h
 refine za0 (za1 hG ?_)
 refine za0 (za1 hG ?_)
 refine za7 ?_
 exact zf3 h
def zh7 (a0:Resource) (a1:Amount):Bool :=
 (if (!(zr0 a0))=true then
  false
 else
  (if (decide (a0.kind=1))=true then
   ((zl3 a1.mode)&&(decide (a1.units=0)))
  else
   (((decide (a1.mode=0))&&(decide (1≤a1.units)))&&(decide (a1.units≤a0.units)))))
theorem zH4 (a0:Resource) (a1:Amount):PFn C 98 [.agg (Resource.enc a0),.agg (Amount.enc a1)] (.bool (zh7 a0 a1)):=by
 generalize h:zh7 a0 a1=r
 refine za8 zeh2 rfl fun E hG hN hK=>?_
 unfold zcL6
 unfold zh7 at h
 refine za0 (za1 hG ?_)
 refine za0 (za0 (za1 hG ?_))
 refine za6 (fun hg=>zG9 a0) ?_
 refine za4 rfl hG h (fun _ h=>?_) (fun _ h=>?_)
 · refine za0 (za1 hG ?_)
   refine za7 ?_
   exact zf3 h
 refine za5 ?_
 refine za0 (za0 (za1 hG ?_))
 refine za4 rfl hG h (fun _ h=>?_) (fun _ h=>?_)
 · refine za0 (za1 hG ?_)
   refine za6 (fun hg=>zE1 a1.mode) ?_
   refine za7 ?_
   exact zf3 h
 refine za5 ?_
 refine za0 (za1 hG ?_)
 refine za7 ?_
 exact zf3 h
def zt5 (a0:Int) (a1:Int):Int :=
 (if (decide (a0 < a1))=true then
  (-1)
 else
  (if (decide (a1 < a0))=true then
   1
  else
   0))
theorem zac2 (a0:Int) (a1:Int):PFn C 111 [.int .i64 a0,.int .i64 a1] (.int .i64 (zt5 a0 a1)):=by
 generalize h:zt5 a0 a1=r
 refine za8 zeh3 rfl fun E hG hN hK=>?_
 unfold zcM3
 unfold zt5 at h
 refine za0 (za1 hG ?_)
 refine za0 (za0 (za1 hG ?_))
 refine za4 rfl hG h (fun _ h=>?_) (fun _ h=>?_)
 · refine za0 (za1 hG ?_)
   refine za7 ?_
   exact zf3 h
 refine za5 ?_
 refine za0 (za0 (za1 hG ?_))
 refine za4 rfl hG h (fun _ h=>?_) (fun _ h=>?_)
 · refine za0 (za1 hG ?_)
   refine za7 ?_
   exact zf3 h
 refine za5 ?_
 refine za0 (za1 hG ?_)
 refine za7 ?_
 exact zf3 h
def zk2 (a0:Proc) (a1:Proc):Int :=
 (if (!decide ((zt5 a0.site a1.site)=0))=true then
  (zt5 a0.site a1.site)
 else
  (if (!decide ((zt5 a0.inc a1.inc)=0))=true then
   (zt5 a0.inc a1.inc)
  else
   (zt5 a0.num a1.num)))
theorem zK2 (a0:Proc) (a1:Proc):PFn C 68 [.agg (Proc.enc a0),.agg (Proc.enc a1)] (.int .i64 (zk2 a0 a1)):=by
 generalize h:zk2 a0 a1=r
 refine za8 zeh4 rfl fun E hG hN hK=>?_
 unfold zcN2
 unfold zk2 at h
 refine za0 (za1 hG ?_)
 refine za0 (za0 (za1 hG ?_))
 refine za6 (fun hg=>zac2 a0.site a1.site) ?_
 refine za0 (za1 hG ?_)
 refine za4 rfl hG h (fun _ h=>?_) (fun _ h=>?_)
 · refine za0 (za1 hG ?_)
   refine za7 ?_
   exact zf3 h
 refine za5 ?_
 refine za0 (za0 (za1 hG ?_))
 refine za6 (fun hg=>zac2 a0.inc a1.inc) ?_
 refine za0 (za1 hG ?_)
 refine za4 rfl hG h (fun _ h=>?_) (fun _ h=>?_)
 · refine za0 (za1 hG ?_)
   refine za7 ?_
   exact zf3 h
 refine za5 ?_
 refine za0 (za1 hG ?_)
 refine za6 (fun hg=>zac2 a0.num a1.num) ?_
 refine za7 ?_
 exact zf3 h
noncomputable def zG1  (j1:(List Amount)):Option ((List Amount)) :=
 some j1
@[go_sem] def zdT7  (j1:(List Amount)):St:=⟨[(3,.own 0 0 j1.length)],[(0,⟨false,2,(Amount.enc Amount.zero),j1.map Amount.enc⟩)],1⟩
noncomputable def zB0 (a0:List Hold) (g1:Int×(List Amount)):Option ((Int×(List Amount))⊕(((List Amount)))) :=
 (if (decide (g1.1 < (a0.length:Int)))=true then
  gd (0≤g1.1∧g1.1 < (a0.length:Int)) <|
  gd (g1.2.length+1≤4294967296) <|
  some (.inl ((IntKind.i64.wrap (g1.1+1)),(g1.2++[(a0.getD g1.1.toNat Hold.zero).amount])))
 else
  some (.inr g1.2))
@[go_sem] def zdT8 (a0:List Hold) (g1:Int×(List Amount)):St:=⟨[(0,.sl (a0.map Hold.enc)),(3,.own 0 0 g1.2.length),(4,.int .i64 g1.1)],[(0,⟨false,2,(Amount.enc Amount.zero),g1.2.map Amount.enc⟩)],1⟩
noncomputable def zm3 (a0:List Hold):Option ((List Amount)) :=
 (zc1 (zB0 a0) (0,[])).bind (fun z=>zG1 z)
theorem zaG8 (a0:List Hold) (r:(List Amount)) (h:zm3 a0=some r):PFn C 184 [.sl (a0.map Hold.enc)] (.sl (r.map Amount.enc)):=by
 refine za8 zeh5 rfl fun E hG hN hK=>?_
 unfold zcO0
 unfold zm3 at h
 refine za0 (za1 hG ?_)
 refine za0 (za1 hG ?_)
 refine za0 (za0 (za1 hG ?_))
 refine zb7 (zdT7) (fun v=>zG1 v=some r) ?_ ?_
 · intro j1 h
   unfold zG1 at h
   refine g_st ?_
   refine za0 (za1 hG ?_)
   refine za7 ?_
   exact zb0 h
 refine ze0 (zdT8 a0) hK [(0,0)] h (fun x_l1 h g1 y_l1 h_l1 hx_l1=>?_)
 unfold zB0 at h_l1
 refine g_st ?_
 refine za0 (za0 (za1 hG ?_))
 refine za4 rfl hG h_l1 (fun _ h_l1=>?_) (fun _ h_l1=>?_)
 · refine za5 ?_
   refine za0 (zb9 ?_)
   obtain ⟨hb1,h_l1⟩:=za3 h_l1
   obtain ⟨hb2,h_l1⟩:=za3 h_l1
   refine za1 hG ?_
   refine za1 hG ?_
   exact zd0 hK [(0,1)] h_l1
 refine zc5 ?_
 obtain rfl:=Option.some.inj h_l1
 have hx:=hx_l1 _ rfl
 subst hx
 try dsimp only at h
 exact zc8 hK [(0,0)] g1.2 (by exact h)
attribute [local irreducible] zm3
def zc9 (a0:Amount):Bool :=
 (decide (a0={ Amount.zero with  }))
theorem zt6 (a0:Amount):PFn C 30 [.agg (Amount.enc a0)] (.bool (zc9 a0)):=by
 generalize h:zc9 a0=r
 refine za8 zeh6 rfl fun E hG hN hK=>?_
 unfold zcO3
 unfold zc9 at h
 refine za0 (za1 hG ?_)
 refine za0 (za1 hG ?_)
 refine za7 ?_
 exact zf3 h
def zf0 (a0:Resource) (a1:Amount):Bool :=
 ((zr0 a0)&&((zc9 a1)||(zh7 a0 a1)))
theorem zB1 (a0:Resource) (a1:Amount):PFn C 145 [.agg (Resource.enc a0),.agg (Amount.enc a1)] (.bool (zf0 a0 a1)):=by
 generalize h:zf0 a0 a1=r
 refine za8 zeh7 rfl fun E hG hN hK=>?_
 unfold zcO6
 unfold zf0 at h
 refine za0 (za1 hG ?_)
 refine za0 (za1 hG ?_)
 refine za6 (fun hg=>zG9 a0) ?_
 refine za6 (fun hg=>zt6 a1) ?_
 refine za6 (fun hg=>zH4 a0 a1) ?_
 refine za7 ?_
 exact zf3 h
def zs6 (a0:Int) (a1:Int):Bool :=
 (if ((((!(zl3 a0))||(!(zl3 a1)))||(decide (a0=5)))||(decide (a1=5)))=true then
  false
 else
  (((decide (a0=1))||(decide (a1=1)))||((decide (a0=a1))&&(!decide (a0=4)))))
theorem zav6 (a0:Int) (a1:Int):PFn C 191 [.int .i64 a0,.int .i64 a1] (.bool (zs6 a0 a1)):=by
 generalize h:zs6 a0 a1=r
 refine za8 zeh8 rfl fun E hG hN hK=>?_
 unfold zcP1
 unfold zs6 at h
 refine za0 (za1 hG ?_)
 refine za0 (za0 (za1 hG ?_))
 refine za6 (fun hg=>zE1 a0) ?_
 refine za6 (fun hg=>zE1 a1) ?_
 refine za4 rfl hG h (fun _ h=>?_) (fun _ h=>?_)
 · refine za0 (za1 hG ?_)
   refine za7 ?_
   exact zf3 h
 refine za5 ?_
 refine za0 (za1 hG ?_)
 refine za7 ?_
 exact zf3 h
noncomputable def zH7  (j1:Unit):Option (Bool) :=
 some true
@[go_sem] def zdT9  (j1:Unit):St:=⟨[],[],0⟩
noncomputable def zB7 (g1:Int×Int) (j2:Unit):Option ((Int×Int)⊕((Unit)⊕(Bool))) :=
 some (.inl (g1.1,(IntKind.i64.wrap (g1.2+1))))
@[go_sem] def zdU0 (a0:Resource) (a1:List Amount) (g1:Int×Int) (j2:Unit):St:=⟨[(1,.sl (a1.map Amount.enc)),(2,.ptr 0 0 0),(5,.int .i64 g1.1),(6,.int .i64 g1.2)],[(0,⟨false,4,(Resource.enc Resource.zero),[Resource.enc a0]⟩)],1⟩
noncomputable def zq8 (a1:List Amount) (g1:Int×Int) (g2:Int):Option ((Int)⊕((Unit)⊕(Bool))) :=
 (if (decide (g2 < g1.2))=true then
  gd (0≤g1.2∧g1.2 < (a1.length:Int)) <|
  gd ((!(zc9 (a1.getD g1.2.toNat Amount.zero)))=true→0≤g2∧g2 < (a1.length:Int)) <|
  gd (((!(zc9 (a1.getD g1.2.toNat Amount.zero)))&&(!(zc9 (a1.getD g2.toNat Amount.zero))))=true→0≤g1.2∧g1.2 < (a1.length:Int)) <|
  gd (((!(zc9 (a1.getD g1.2.toNat Amount.zero)))&&(!(zc9 (a1.getD g2.toNat Amount.zero))))=true→0≤g2∧g2 < (a1.length:Int)) <|
  (if (((!(zc9 (a1.getD g1.2.toNat Amount.zero)))&&(!(zc9 (a1.getD g2.toNat Amount.zero))))&&(!(zs6 ((a1.getD g1.2.toNat Amount.zero).mode) ((a1.getD g2.toNat Amount.zero).mode))))=true then
   some (.inr (.inr false))
  else
   some (.inl (IntKind.i64.wrap (g2+1))))
 else
  some (.inr (.inl ())))
@[go_sem] def zdU1 (a0:Resource) (a1:List Amount) (g1:Int×Int) (g2:Int):St:=⟨[(1,.sl (a1.map Amount.enc)),(2,.ptr 0 0 0),(5,.int .i64 g1.1),(6,.int .i64 g1.2),(7,.int .i64 g2)],[(0,⟨false,4,(Resource.enc Resource.zero),[Resource.enc a0]⟩)],1⟩
noncomputable def zv5 (a0:Resource) (a1:List Amount) (g1:Int×Int):Option ((Int×Int)⊕((Unit)⊕(Bool))) :=
 (if (decide (g1.2 < (a1.length:Int)))=true then
  gd (0≤g1.2∧g1.2 < (a1.length:Int)) <|
  (if (!(zf0 a0 (a1.getD g1.2.toNat Amount.zero)))=true then
   some (.inr (.inr false))
  else
   (if (decide (a0.kind=2))=true then
    gd (0≤g1.2∧g1.2 < (a1.length:Int)) <|
    (if (decide (a0.units < (IntKind.i64.wrap (g1.1+(a1.getD g1.2.toNat Amount.zero).units))))=true then
     some (.inr (.inr false))
    else
     some (.inl ((IntKind.i64.wrap (g1.1+(a1.getD g1.2.toNat Amount.zero).units)),(IntKind.i64.wrap (g1.2+1)))))
   else
    (zc1 (zq8 a1 g1) 0).bind (fun | .inl z=>zB7 g1 z | .inr z=>some (.inr (.inr z)))))
 else
  some (.inr (.inl ())))
@[go_sem] def zdU2 (a0:Resource) (a1:List Amount) (g1:Int×Int):St:=⟨[(1,.sl (a1.map Amount.enc)),(2,.ptr 0 0 0),(5,.int .i64 g1.1),(6,.int .i64 g1.2)],[(0,⟨false,4,(Resource.enc Resource.zero),[Resource.enc a0]⟩)],1⟩
noncomputable def zh5 (a0:Resource) (a1:List Amount):Option (Bool) :=
 (if (!(zr0 a0))=true then
  some false
 else
  (zc1 (zv5 a0 a1) (0,0)).bind (fun | .inl z=>zH7 z | .inr z=>some z))
theorem zav7 (a0:Resource) (a1:List Amount) (r:Bool) (h:zh5 a0 a1=some r):PFn C 183 [.agg (Resource.enc a0),.sl (a1.map Amount.enc)] (.bool r):=by
 refine za8 zeh9 rfl fun E hG hN hK=>?_
 unfold zcQ2
 unfold zh5 at h
 refine za0 (za1 hG ?_)
 refine za0 (za0 (za1 hG ?_))
 refine za6 (fun hg=>zG9 a0) ?_
 refine za4 rfl hG h (fun _ h=>?_) (fun _ h=>?_)
 · refine za0 (za1 hG ?_)
   refine za7 ?_
   exact zb0 h
 refine za5 ?_
 refine za0 (za1 hG ?_)
 refine za0 (za0 (za1 hG ?_))
 refine zb7 (zdT9) (fun v=>zH7 v=some r) ?_ ?_
 · intro j1 h
   unfold zH7 at h
   refine g_st ?_
   refine za0 (za1 hG ?_)
   refine za7 ?_
   exact zb0 h
 refine ze0 (zdU2 a0 a1) hK [(0,0)] h (fun x_l1 h g1 y_l1 h_l1 hx_l1=>?_)
 unfold zv5 at h_l1
 refine g_st ?_
 refine za0 (za0 (za1 hG ?_))
 refine za4 rfl hG h_l1 (fun _ h_l1=>?_) (fun _ h_l1=>?_)
 · refine za5 ?_
   refine za0 (zb9 (za0 (za0 ?_)))
   obtain ⟨hb6,h_l1⟩:=za3 h_l1
   refine zq9 zd6 hG ?_
   refine zi7 (fun hg=>zB1 a0 (a1.getD g1.2.toNat Amount.zero)) ?_
   refine za4 rfl hG h_l1 (fun _ h_l1=>?_) (fun _ h_l1=>?_)
   · refine za0 (za1 hG ?_)
     refine za7 ?_
     obtain rfl:=Option.some.inj h_l1
     have hx:=hx_l1 _ rfl
     subst hx
     try dsimp only at h
     exact zb0 h
   refine za5 ?_
   refine za0 (za0 (za1 hG ?_))
   refine za4 rfl hG h_l1 (fun _ h_l1=>?_) (fun _ h_l1=>?_)
   · refine za0 ?_
     obtain ⟨hb1,h_l1⟩:=za3 h_l1
     refine za1 hG ?_
     refine za0 (za0 (za1 hG ?_))
     refine za4 rfl hG h_l1 (fun _ h_l1=>?_) (fun _ h_l1=>?_)
     · refine za0 (za1 hG ?_)
       refine za7 ?_
       obtain rfl:=Option.some.inj h_l1
       have hx:=hx_l1 _ rfl
       subst hx
       try dsimp only at h
       exact zb0 h
     refine za5 ?_
     refine zc5 ?_
     refine za1 hG ?_
     exact zd0 hK [(0,0)] h_l1
   refine za5 ?_
   refine za0 (za1 hG ?_)
   refine zb7 (zdU0 a0 a1 g1) (fun v=>zB7 g1 v=some y_l1) ?_ ?_
   · intro j2 h_l1
     unfold zB7 at h_l1
     refine g_st ?_
     refine za1 hG ?_
     exact zd0 hK [(0,0)] h_l1
   refine ze0 (zdU1 a0 a1 g1) hK [(0,0)] h_l1 (fun x_l2 h_l1 g2 y_l2 h_l2 hx_l2=>?_)
   unfold zq8 at h_l2
   refine g_st ?_
   refine za0 (za0 (za1 hG ?_))
   refine za4 rfl hG h_l2 (fun _ h_l2=>?_) (fun _ h_l2=>?_)
   · refine za5 ?_
     refine za0 (zb9 (za0 ?_))
     obtain ⟨hb2,h_l2⟩:=za3 h_l2
     refine zq9 zd6 hG ?_
     obtain ⟨hb3,h_l2⟩:=za3 h_l2
     refine zi7 (fun hg=>zt6 (a1.getD g1.2.toNat Amount.zero)) ?_
     obtain ⟨hb4,h_l2⟩:=za3 h_l2
     obtain ⟨hb5,h_l2⟩:=za3 h_l2
     refine zi7 (fun hg=>zt6 (a1.getD g2.toNat Amount.zero)) ?_
     refine zi7 (fun hg=>zav6 ((a1.getD g1.2.toNat Amount.zero).mode) ((a1.getD g2.toNat Amount.zero).mode)) ?_
     refine za4 rfl hG h_l2 (fun _ h_l2=>?_) (fun _ h_l2=>?_)
     · refine za0 (za1 hG ?_)
       refine za7 ?_
       obtain rfl:=Option.some.inj h_l2
       have hx:=hx_l2 _ rfl
       subst hx
       try dsimp only at h_l1
       obtain rfl:=Option.some.inj h_l1
       have hx:=hx_l1 _ rfl
       subst hx
       try dsimp only at h
       exact zb0 h
     refine za5 ?_
     refine za1 hG ?_
     exact zd0 hK [(0,0)] h_l2
   refine zc5 ?_
   obtain rfl:=Option.some.inj h_l2
   have hx:=hx_l2 _ rfl
   subst hx
   try dsimp only at h_l1
   exact zc8 hK [(0,0)] () (by exact h_l1)
 refine zc5 ?_
 obtain rfl:=Option.some.inj h_l1
 have hx:=hx_l1 _ rfl
 subst hx
 try dsimp only at h
 exact zc8 hK [] () (by exact h)
attribute [local irreducible] zh5
noncomputable def zM5 (a0:Resource) (a1:List Hold) (j1:Unit):Option (Bool) :=
 (zm3 a1).bind fun v1 =>
 (zh5 a0 v1).bind fun v2 =>
 some v2
@[go_sem] def zdU3 (a0:Resource) (a1:List Hold) (j1:Unit):St:=⟨[(1,.sl (a1.map Hold.enc)),(2,.ptr 0 0 0)],[(0,⟨false,4,(Resource.enc Resource.zero),[Resource.enc a0]⟩)],1⟩
noncomputable def zE2 (a0:Resource) (a1:List Hold) (g1:Int):Option ((Int)⊕((Unit)⊕(Bool))) :=
 (if (decide (g1 < (a1.length:Int)))=true then
  gd (0≤g1∧g1 < (a1.length:Int)) <|
  gd ((ze4 ((a1.getD g1.toNat Hold.zero).proc))=true→0≤g1∧g1 < (a1.length:Int)) <|
  gd (((!((!(ze4 ((a1.getD g1.toNat Hold.zero).proc)))||(!(zh7 a0 ((a1.getD g1.toNat Hold.zero).amount)))))&&(decide (0 < g1)))=true→0≤(IntKind.i64.wrap (g1 - 1))∧(IntKind.i64.wrap (g1 - 1)) < (a1.length:Int)) <|
  gd (((!((!(ze4 ((a1.getD g1.toNat Hold.zero).proc)))||(!(zh7 a0 ((a1.getD g1.toNat Hold.zero).amount)))))&&(decide (0 < g1)))=true→0≤g1∧g1 < (a1.length:Int)) <|
  (if (((!(ze4 ((a1.getD g1.toNat Hold.zero).proc)))||(!(zh7 a0 ((a1.getD g1.toNat Hold.zero).amount))))||((decide (0 < g1))&&(decide (0≤(zk2 ((a1.getD ((IntKind.i64.wrap (g1 - 1)).toNat) Hold.zero).proc) ((a1.getD g1.toNat Hold.zero).proc))))))=true then
   some (.inr (.inr false))
  else
   some (.inl (IntKind.i64.wrap (g1+1))))
 else
  some (.inr (.inl ())))
@[go_sem] def zdU4 (a0:Resource) (a1:List Hold) (g1:Int):St:=⟨[(1,.sl (a1.map Hold.enc)),(2,.ptr 0 0 0),(5,.int .i64 g1)],[(0,⟨false,4,(Resource.enc Resource.zero),[Resource.enc a0]⟩)],1⟩
noncomputable def zn0 (a0:Resource) (a1:List Hold):Option (Bool) :=
 (if ((!(zr0 a0))||(decide (8 < (a1.length:Int))))=true then
  some false
 else
  (zc1 (zE2 a0 a1) 0).bind (fun | .inl z=>zM5 a0 a1 z | .inr z=>some z))
theorem zac3 (a0:Resource) (a1:List Hold) (r:Bool) (h:zn0 a0 a1=some r):PFn C 164 [.agg (Resource.enc a0),.sl (a1.map Hold.enc)] (.bool r):=by
 refine za8 zei0 rfl fun E hG hN hK=>?_
 unfold zcR2
 unfold zn0 at h
 refine za0 (za1 hG ?_)
 refine za0 (za0 (za1 hG ?_))
 refine za6 (fun hg=>zG9 a0) ?_
 refine za4 rfl hG h (fun _ h=>?_) (fun _ h=>?_)
 · refine za0 (za1 hG ?_)
   refine za7 ?_
   exact zb0 h
 refine za5 ?_
 refine za0 (za0 (za1 hG ?_))
 refine zb7 (zdU3 a0 a1) (fun v=>zM5 a0 a1 v=some r) ?_ ?_
 · intro j1 h
   unfold zM5 at h
   refine g_st ?_
   refine za0 (zq9 zd6 hG ?_)
   obtain ⟨v1,hv1,h⟩:=za2 h
   refine zi7 (fun hg=>zaG8 a1 _ (hv1)) ?_
   obtain ⟨v2,hv2,h⟩:=za2 h
   refine zi7 (fun hg=>zav7 a0 v1 _ (hv2)) ?_
   refine za7 ?_
   exact zb0 h
 refine ze0 (zdU4 a0 a1) hK [(0,0)] h (fun x_l1 h g1 y_l1 h_l1 hx_l1=>?_)
 unfold zE2 at h_l1
 refine g_st ?_
 refine za0 (za0 (za1 hG ?_))
 refine za4 rfl hG h_l1 (fun _ h_l1=>?_) (fun _ h_l1=>?_)
 · refine za5 ?_
   refine za0 (zb9 (za0 ?_))
   obtain ⟨hb1,h_l1⟩:=za3 h_l1
   refine zq9 zd6 hG ?_
   obtain ⟨hb2,h_l1⟩:=za3 h_l1
   refine zi7 (fun hg=>zG0 ((a1.getD g1.toNat Hold.zero).proc)) ?_
   obtain ⟨hb3,h_l1⟩:=za3 h_l1
   obtain ⟨hb4,h_l1⟩:=za3 h_l1
   refine zi7 (fun hg=>zH4 a0 ((a1.getD g1.toNat Hold.zero).amount)) ?_
   refine zi7 (fun hg=>zK2 ((a1.getD ((IntKind.i64.wrap (g1 - 1)).toNat) Hold.zero).proc) ((a1.getD g1.toNat Hold.zero).proc)) ?_
   refine za4 rfl hG h_l1 (fun _ h_l1=>?_) (fun _ h_l1=>?_)
   · refine za0 (za1 hG ?_)
     refine za7 ?_
     obtain rfl:=Option.some.inj h_l1
     have hx:=hx_l1 _ rfl
     subst hx
     try dsimp only at h
     exact zb0 h
   refine za5 ?_
   refine za1 hG ?_
   exact zd0 hK [(0,0)] h_l1
 refine zc5 ?_
 obtain rfl:=Option.some.inj h_l1
 have hx:=hx_l1 _ rfl
 subst hx
 try dsimp only at h
 exact zc8 hK [(0,0)] () (by exact h)
attribute [local irreducible] zn0
def zE3 (a0:Amount):Bool :=
 (((zl3 a0.mode)&&(decide (a0.units=0)))||(((decide (a0.mode=0))&&(decide (1≤a0.units)))&&(decide (a0.units≤8))))
theorem zaN3 (a0:Amount):PFn C 167 [.agg (Amount.enc a0)] (.bool (zE3 a0)):=by
 generalize h:zE3 a0=r
 refine za8 zei1 rfl fun E hG hN hK=>?_
 unfold zcR5
 unfold zE3 at h
 refine za0 (za1 hG ?_)
 refine za0 (za1 hG ?_)
 refine za6 (fun hg=>zE1 a0.mode) ?_
 refine za7 ?_
 exact zf3 h
def zl4 (a0:Wait):Bool :=
 ((((((ze4 a0.proc)&&(zE3 a0.amount))&&(decide (0≤a0.priority)))&&(decide (a0.priority≤7)))&&(decide (0≤a0.passed)))&&(decide (a0.passed≤3)))
theorem zac4 (a0:Wait):PFn C 151 [.agg (Wait.enc a0)] (.bool (zl4 a0)):=by
 generalize h:zl4 a0=r
 refine za8 zei2 rfl fun E hG hN hK=>?_
 unfold zcR8
 unfold zl4 at h
 refine za0 (za1 hG ?_)
 refine za0 (za1 hG ?_)
 refine za6 (fun hg=>zG0 a0.proc) ?_
 refine za6 (fun hg=>zaN3 a0.amount) ?_
 refine za7 ?_
 exact zf3 h
noncomputable def zY7  (j1:Unit):Option (Int) :=
 some (-1)
@[go_sem] def zdU5  (j1:Unit):St:=⟨[],[],0⟩
noncomputable def zan7 (a0:List Wait) (a1:Proc) (g1:Int):Option ((Int)⊕((Unit)⊕(Int))) :=
 (if (decide (g1 < (a0.length:Int)))=true then
  gd (0≤g1∧g1 < (a0.length:Int)) <|
  (if (decide ((a0.getD g1.toNat Wait.zero).proc=a1))=true then
   some (.inr (.inr g1))
  else
   some (.inl (IntKind.i64.wrap (g1+1))))
 else
  some (.inr (.inl ())))
@[go_sem] def zdU6 (a0:List Wait) (a1:Proc) (g1:Int):St:=⟨[(0,.sl (a0.map Wait.enc)),(3,.ptr 0 0 0),(5,.int .i64 g1)],[(0,⟨false,3,(Proc.enc Proc.zero),[Proc.enc a1]⟩)],1⟩
noncomputable def zm1 (a0:List Wait) (a1:Proc):Option (Int) :=
 (zc1 (zan7 a0 a1) 0).bind (fun | .inl z=>zY7 z | .inr z=>some z)
theorem zO8 (a0:List Wait) (a1:Proc) (r:Int) (h:zm1 a0 a1=some r):PFn C 144 [.sl (a0.map Wait.enc),.agg (Proc.enc a1)] (.int .i64 r):=by
 refine za8 zei3 rfl fun E hG hN hK=>?_
 unfold zcS6
 unfold zm1 at h
 refine za0 (za1 hG ?_)
 refine za0 (za0 (za1 hG ?_))
 refine zb7 (zdU5) (fun v=>zY7 v=some r) ?_ ?_
 · intro j1 h
   unfold zY7 at h
   refine g_st ?_
   refine za0 (za1 hG ?_)
   refine za7 ?_
   exact zb0 h
 refine ze0 (zdU6 a0 a1) hK [(0,0)] h (fun x_l1 h g1 y_l1 h_l1 hx_l1=>?_)
 unfold zan7 at h_l1
 refine g_st ?_
 refine za0 (za0 (za1 hG ?_))
 refine za4 rfl hG h_l1 (fun _ h_l1=>?_) (fun _ h_l1=>?_)
 · refine za5 ?_
   refine za0 (zb9 (za0 ?_))
   obtain ⟨hb1,h_l1⟩:=za3 h_l1
   refine zq9 zd6 hG ?_
   refine za4 rfl hG h_l1 (fun _ h_l1=>?_) (fun _ h_l1=>?_)
   · refine za0 (za1 hG ?_)
     refine za7 ?_
     obtain rfl:=Option.some.inj h_l1
     have hx:=hx_l1 _ rfl
     subst hx
     try dsimp only at h
     exact zb0 h
   refine za5 ?_
   refine za1 hG ?_
   exact zd0 hK [(0,0)] h_l1
 refine zc5 ?_
 obtain rfl:=Option.some.inj h_l1
 have hx:=hx_l1 _ rfl
 subst hx
 try dsimp only at h
 exact zc8 hK [] () (by exact h)
attribute [local irreducible] zm1
noncomputable def zV3  (j1:Unit):Option (Bool) :=
 some true
@[go_sem] def zdU7  (j1:Unit):St:=⟨[],[],0⟩
noncomputable def zM6 (a0:List Wait) (g1:Int):Option ((Int)⊕((Unit)⊕(Bool))) :=
 (if (decide (g1 < (a0.length:Int)))=true then
  gd (0≤g1∧g1 < (a0.length:Int)) <|
  gd ((zl4 (a0.getD g1.toNat Wait.zero))=true→0≤g1∧g1 < (a0.length:Int)) <|
  ((if (zl4 (a0.getD g1.toNat Wait.zero))=true then zm1 a0 ((a0.getD g1.toNat Wait.zero).proc) else some (0))).bind fun v1 =>
  (if ((!(zl4 (a0.getD g1.toNat Wait.zero)))||(!decide (v1=g1)))=true then
   some (.inr (.inr false))
  else
   some (.inl (IntKind.i64.wrap (g1+1))))
 else
  some (.inr (.inl ())))
@[go_sem] def zdU8 (a0:List Wait) (g1:Int):St:=⟨[(0,.sl (a0.map Wait.enc)),(3,.int .i64 g1)],[],0⟩
noncomputable def zo7 (a0:List Wait):Option (Bool) :=
 (if (decide (8 < (a0.length:Int)))=true then
  some false
 else
  (zc1 (zM6 a0) 0).bind (fun | .inl z=>zV3 z | .inr z=>some z))
theorem zaq4 (a0:List Wait) (r:Bool) (h:zo7 a0=some r):PFn C 150 [.sl (a0.map Wait.enc)] (.bool r):=by
 refine za8 zei4 rfl fun E hG hN hK=>?_
 unfold zcT6
 unfold zo7 at h
 refine za0 (za1 hG ?_)
 refine za0 (za0 (za1 hG ?_))
 refine za4 rfl hG h (fun _ h=>?_) (fun _ h=>?_)
 · refine za0 (za1 hG ?_)
   refine za7 ?_
   exact zb0 h
 refine za5 ?_
 refine za0 (za0 (za1 hG ?_))
 refine zb7 (zdU7) (fun v=>zV3 v=some r) ?_ ?_
 · intro j1 h
   unfold zV3 at h
   refine g_st ?_
   refine za0 (za1 hG ?_)
   refine za7 ?_
   exact zb0 h
 refine ze0 (zdU8 a0) hK [] h (fun x_l1 h g1 y_l1 h_l1 hx_l1=>?_)
 unfold zM6 at h_l1
 refine g_st ?_
 refine za0 (za0 (za1 hG ?_))
 refine za4 rfl hG h_l1 (fun _ h_l1=>?_) (fun _ h_l1=>?_)
 · refine za5 ?_
   refine za0 (zb9 (za0 ?_))
   obtain ⟨hb1,h_l1⟩:=za3 h_l1
   refine za1 hG ?_
   obtain ⟨hb2,h_l1⟩:=za3 h_l1
   refine za6 (fun hg=>zac4 (a0.getD g1.toNat Wait.zero)) ?_
   obtain ⟨v1,hv1,h_l1⟩:=za2 h_l1
   refine za6 (fun hg=>zO8 a0 ((a0.getD g1.toNat Wait.zero).proc) _ (zw9 hg hv1)) ?_
   refine za4 rfl hG h_l1 (fun _ h_l1=>?_) (fun _ h_l1=>?_)
   · refine za0 (za1 hG ?_)
     refine za7 ?_
     obtain rfl:=Option.some.inj h_l1
     have hx:=hx_l1 _ rfl
     subst hx
     try dsimp only at h
     exact zb0 h
   refine za5 ?_
   refine za1 hG ?_
   exact zd0 hK [] h_l1
 refine zc5 ?_
 obtain rfl:=Option.some.inj h_l1
 have hx:=hx_l1 _ rfl
 subst hx
 try dsimp only at h
 exact zc8 hK [] () (by exact h)
attribute [local irreducible] zo7
noncomputable def zac5  (j1:Unit):Option (Amount) :=
 some ({ Amount.zero with  })
@[go_sem] def zdU9  (j1:Unit):St:=⟨[(4,.ptr 0 0 0)],[(0,⟨false,2,(Amount.enc Amount.zero),[Amount.enc Amount.zero]⟩)],1⟩
noncomputable def zS6 (a0:List Hold) (a1:Proc) (g1:Int):Option ((Int)⊕((Unit)⊕(Amount))) :=
 (if (decide (g1 < (a0.length:Int)))=true then
  gd (0≤g1∧g1 < (a0.length:Int)) <|
  (if (decide ((a0.getD g1.toNat Hold.zero).proc=a1))=true then
   gd (0≤g1∧g1 < (a0.length:Int)) <|
   some (.inr (.inr ((a0.getD g1.toNat Hold.zero).amount)))
  else
   some (.inl (IntKind.i64.wrap (g1+1))))
 else
  some (.inr (.inl ())))
@[go_sem] def zdV0 (a0:List Hold) (a1:Proc) (g1:Int):St:=⟨[(0,.sl (a0.map Hold.enc)),(3,.ptr 0 0 0),(4,.ptr 1 0 0),(5,.int .i64 g1)],[(0,⟨false,3,(Proc.enc Proc.zero),[Proc.enc a1]⟩),(1,⟨false,2,(Amount.enc Amount.zero),[Amount.enc Amount.zero]⟩)],2⟩
noncomputable def zt3 (a0:List Hold) (a1:Proc):Option (Amount) :=
 (zc1 (zS6 a0 a1) 0).bind (fun | .inl z=>zac5 z | .inr z=>some z)
theorem zal4 (a0:List Hold) (a1:Proc) (r:Amount) (h:zt3 a0 a1=some r):PFn C 69 [.sl (a0.map Hold.enc),.agg (Proc.enc a1)] (.agg (Amount.enc r)):=by
 refine za8 zei5 rfl fun E hG hN hK=>?_
 unfold zcU4
 unfold zt3 at h
 refine za0 (za1 hG ?_)
 refine za0 (za0 (za1 hG ?_))
 refine zb7 (zdU9) (fun v=>zac5 v=some r) ?_ ?_
 · intro j1 h
   unfold zac5 at h
   refine g_st ?_
   refine za0 (za1 hG ?_)
   refine za7 ?_
   exact zb0 h
 refine ze0 (zdV0 a0 a1) hK [(0,0),(1,1)] h (fun x_l1 h g1 y_l1 h_l1 hx_l1=>?_)
 unfold zS6 at h_l1
 refine g_st ?_
 refine za0 (za0 (za1 hG ?_))
 refine za4 rfl hG h_l1 (fun _ h_l1=>?_) (fun _ h_l1=>?_)
 · refine za5 ?_
   refine za0 (zb9 (za0 ?_))
   obtain ⟨hb2,h_l1⟩:=za3 h_l1
   refine zq9 zd6 hG ?_
   refine za4 rfl hG h_l1 (fun _ h_l1=>?_) (fun _ h_l1=>?_)
   · refine za0 ?_
     obtain ⟨hb1,h_l1⟩:=za3 h_l1
     refine za1 hG ?_
     refine za7 ?_
     obtain rfl:=Option.some.inj h_l1
     have hx:=hx_l1 _ rfl
     subst hx
     try dsimp only at h
     exact zb0 h
   refine za5 ?_
   refine za1 hG ?_
   exact zd0 hK [(0,0),(1,1)] h_l1
 refine zc5 ?_
 obtain rfl:=Option.some.inj h_l1
 have hx:=hx_l1 _ rfl
 subst hx
 try dsimp only at h
 exact zc8 hK [(0,1)] () (by exact h)
attribute [local irreducible] zt3
def zx6 (a0:Int) (a1:Int):Bool :=
 (if ((!(zl3 a0))||(!(zl3 a1)))=true then
  false
 else
  ((((decide (a0=a1))||(decide (a0=5)))||(decide (a1=1)))||((decide (a0=4))&&(!decide (a1=5)))))
theorem zY8 (a0:Int) (a1:Int):PFn C 146 [.int .i64 a0,.int .i64 a1] (.bool (zx6 a0 a1)):=by
 generalize h:zx6 a0 a1=r
 refine za8 zei6 rfl fun E hG hN hK=>?_
 unfold zcU9
 unfold zx6 at h
 refine za0 (za1 hG ?_)
 refine za0 (za0 (za1 hG ?_))
 refine za6 (fun hg=>zE1 a0) ?_
 refine za6 (fun hg=>zE1 a1) ?_
 refine za4 rfl hG h (fun _ h=>?_) (fun _ h=>?_)
 · refine za0 (za1 hG ?_)
   refine za7 ?_
   exact zf3 h
 refine za5 ?_
 refine za0 (za1 hG ?_)
 refine za7 ?_
 exact zf3 h
def zg3 (a0:Resource) (a1:Amount) (a2:Amount):Bool :=
 (if ((!(zf0 a0 a1))||(!(zf0 a0 a2)))=true then
  false
 else
  (if (zc9 a2)=true then
   true
  else
   (if (zc9 a1)=true then
    false
   else
    (if (decide (a0.kind=1))=true then
     (zx6 a1.mode a2.mode)
    else
     (decide (a2.units≤a1.units))))))
theorem zH0 (a0:Resource) (a1:Amount) (a2:Amount):PFn C 101 [.agg (Resource.enc a0),.agg (Amount.enc a1),.agg (Amount.enc a2)] (.bool (zg3 a0 a1 a2)):=by
 generalize h:zg3 a0 a1 a2=r
 refine za8 zei7 rfl fun E hG hN hK=>?_
 unfold zcW0
 unfold zg3 at h
 refine za0 (za1 hG ?_)
 refine za0 (za0 (za1 hG ?_))
 refine za6 (fun hg=>zB1 a0 a1) ?_
 refine za6 (fun hg=>zB1 a0 a2) ?_
 refine za4 rfl hG h (fun _ h=>?_) (fun _ h=>?_)
 · refine za0 (za1 hG ?_)
   refine za7 ?_
   exact zf3 h
 refine za5 ?_
 refine za0 (za0 (za1 hG ?_))
 refine za6 (fun hg=>zt6 a2) ?_
 refine za4 rfl hG h (fun _ h=>?_) (fun _ h=>?_)
 · refine za0 (za1 hG ?_)
   refine za7 ?_
   exact zf3 h
 refine za5 ?_
 refine za0 (za0 (za1 hG ?_))
 refine za6 (fun hg=>zt6 a1) ?_
 refine za4 rfl hG h (fun _ h=>?_) (fun _ h=>?_)
 · refine za0 (za1 hG ?_)
   refine za7 ?_
   exact zf3 h
 refine za5 ?_
 refine za0 (za0 (za1 hG ?_))
 refine za4 rfl hG h (fun _ h=>?_) (fun _ h=>?_)
 · refine za0 (za1 hG ?_)
   refine za6 (fun hg=>zY8 a1.mode a2.mode) ?_
   refine za7 ?_
   exact zf3 h
 refine za5 ?_
 refine za0 (za1 hG ?_)
 refine za7 ?_
 exact zf3 h
noncomputable def zV4  (j2:Unit):Option (Bool) :=
 some true
@[go_sem] def zdV1  (j2:Unit):St:=⟨[],[],0⟩
noncomputable def zM7 (a0:Queue) (g1:Int):Option ((Int)⊕((Unit)⊕(Bool))) :=
 (if (decide (g1 < (a0.waits.length:Int)))=true then
  gd (0≤g1∧g1 < (a0.waits.length:Int)) <|
  gd ((zh7 a0.resource ((a0.waits.getD g1.toNat Wait.zero).amount))=true→0≤g1∧g1 < (a0.waits.length:Int)) <|
  ((if (zh7 a0.resource ((a0.waits.getD g1.toNat Wait.zero).amount))=true then zt3 a0.holds ((a0.waits.getD g1.toNat Wait.zero).proc) else some (Amount.zero))).bind fun v4 =>
  (if ((!(zh7 a0.resource ((a0.waits.getD g1.toNat Wait.zero).amount)))||(!(zc9 v4)))=true then
   some (.inr (.inr false))
  else
   some (.inl (IntKind.i64.wrap (g1+1))))
 else
  some (.inr (.inl ())))
@[go_sem] def zdV2 (a0:Queue) (g1:Int):St:=⟨[(1,.ptr 0 0 0),(3,.ptr 1 0 0),(7,.int .i64 g1)],[(0,⟨false,8,(Queue.enc Queue.zero),[Queue.enc a0]⟩),(1,⟨false,4,(Resource.enc Resource.zero),[Resource.enc a0.resource]⟩)],2⟩
noncomputable def zM8 (a0:Queue) (j1:Unit):Option (Bool) :=
 (zc1 (zM7 a0) 0).bind (fun | .inl z=>zV4 z | .inr z=>some z)
@[go_sem] def zdV3 (a0:Queue) (j1:Unit):St:=⟨[(1,.ptr 0 0 0),(3,.ptr 1 0 0)],[(0,⟨false,8,(Queue.enc Queue.zero),[Queue.enc a0]⟩),(1,⟨false,4,(Resource.enc Resource.zero),[Resource.enc a0.resource]⟩)],2⟩
noncomputable def zA0 (a0:Queue) (g2:Int):Option ((Int)⊕((Unit)⊕(Bool))) :=
 (if (decide (g2 < (a0.converts.length:Int)))=true then
  gd (0≤g2∧g2 < (a0.converts.length:Int)) <|
  (zt3 a0.holds ((a0.converts.getD g2.toNat Wait.zero).proc)).bind fun v5 =>
  ((if (!((((((zc9 v5)||(!(zh7 a0.resource ((a0.converts.getD g2.toNat Wait.zero).amount))))||(!(zg3 a0.resource ((a0.converts.getD g2.toNat Wait.zero).amount) v5)))||(decide ((a0.converts.getD g2.toNat Wait.zero).amount=v5)))||(!decide ((a0.converts.getD g2.toNat Wait.zero).priority=0)))||(!decide ((a0.converts.getD g2.toNat Wait.zero).passed=0))))=true then zm1 a0.converts ((a0.converts.getD g2.toNat Wait.zero).proc) else some (0))).bind fun v6 =>
  (if (((((((zc9 v5)||(!(zh7 a0.resource ((a0.converts.getD g2.toNat Wait.zero).amount))))||(!(zg3 a0.resource ((a0.converts.getD g2.toNat Wait.zero).amount) v5)))||(decide ((a0.converts.getD g2.toNat Wait.zero).amount=v5)))||(!decide ((a0.converts.getD g2.toNat Wait.zero).priority=0)))||(!decide ((a0.converts.getD g2.toNat Wait.zero).passed=0)))||(!decide (v6=g2)))=true then
   some (.inr (.inr false))
  else
   some (.inl (IntKind.i64.wrap (g2+1))))
 else
  some (.inr (.inl ())))
@[go_sem] def zdV4 (a0:Queue) (g2:Int):St:=⟨[(1,.ptr 0 0 0),(3,.ptr 1 0 0),(4,.int .i64 g2)],[(0,⟨false,8,(Queue.enc Queue.zero),[Queue.enc a0]⟩),(1,⟨false,4,(Resource.enc Resource.zero),[Resource.enc a0.resource]⟩)],2⟩
noncomputable def zn1 (a0:Queue):Option (Bool) :=
 (zd5 a0.resource).bind fun v1 =>
 ((if v1=true then zn0 a0.resource a0.holds else some (false))).bind fun v2 =>
 ((if (!(((!v1)||(!v2))||(decide (8 < (a0.converts.length:Int)))))=true then zo7 a0.waits else some (false))).bind fun v3 =>
 (if (((((((!v1)||(!v2))||(decide (8 < (a0.converts.length:Int))))||(!v3))||(decide (8 < (IntKind.i64.wrap ((a0.holds.length:Int)+(a0.waits.length:Int))))))||(decide (a0.gen < 0)))||(decide (1073741824 < a0.gen)))=true then
  some false
 else
  (zc1 (zA0 a0) 0).bind (fun | .inl z=>zM8 a0 z | .inr z=>some z))
theorem zac6 (a0:Queue) (r:Bool) (h:zn1 a0=some r):PFn C 141 [.agg (Queue.enc a0)] (.bool r):=by
 refine za8 zei8 rfl fun E hG hN hK=>?_
 unfold zcX1
 unfold zn1 at h
 refine za0 (za1 hG ?_)
 refine za0 (za1 hG ?_)
 refine za0 (za0 (za1 hG ?_))
 obtain ⟨v1,hv1,h⟩:=za2 h
 refine za6 (fun hg=>zS0 a0.resource _ (hv1)) ?_
 obtain ⟨v2,hv2,h⟩:=za2 h
 refine za6 (fun hg=>zac3 a0.resource a0.holds _ (zw9 hg hv2)) ?_
 obtain ⟨v3,hv3,h⟩:=za2 h
 refine za6 (fun hg=>zaq4 a0.waits _ (zw9 hg hv3)) ?_
 refine za4 rfl hG h (fun _ h=>?_) (fun _ h=>?_)
 · refine za0 (za1 hG ?_)
   refine za7 ?_
   exact zb0 h
 refine za5 ?_
 refine za0 (za0 (za1 hG ?_))
 refine zb7 (zdV3 a0) (fun v=>zM8 a0 v=some r) ?_ ?_
 · intro j1 h
   unfold zM8 at h
   refine g_st ?_
   refine za0 (za0 (za1 hG ?_))
   refine zb7 (zdV1) (fun v=>zV4 v=some r) ?_ ?_
   · intro j2 h
     unfold zV4 at h
     refine g_st ?_
     refine za0 (za1 hG ?_)
     refine za7 ?_
     exact zb0 h
   refine ze0 (zdV2 a0) hK [(0,0),(1,1)] h (fun x_l1 h g1 y_l1 h_l1 hx_l1=>?_)
   unfold zM7 at h_l1
   refine g_st ?_
   refine za0 (za0 (za1 hG ?_))
   refine za4 rfl hG h_l1 (fun _ h_l1=>?_) (fun _ h_l1=>?_)
   · refine za5 ?_
     refine za0 (zb9 (za0 ?_))
     obtain ⟨hb1,h_l1⟩:=za3 h_l1
     refine zq9 zd6 hG ?_
     obtain ⟨hb2,h_l1⟩:=za3 h_l1
     refine zi7 (fun hg=>zH4 a0.resource ((a0.waits.getD g1.toNat Wait.zero).amount)) ?_
     obtain ⟨v4,hv4,h_l1⟩:=za2 h_l1
     refine zi7 (fun hg=>zal4 a0.holds ((a0.waits.getD g1.toNat Wait.zero).proc) _ (zw9 hg hv4)) ?_
     refine zi7 (fun hg=>zt6 v4) ?_
     refine za4 rfl hG h_l1 (fun _ h_l1=>?_) (fun _ h_l1=>?_)
     · refine za0 (za1 hG ?_)
       refine za7 ?_
       obtain rfl:=Option.some.inj h_l1
       have hx:=hx_l1 _ rfl
       subst hx
       try dsimp only at h
       exact zb0 h
     refine za5 ?_
     refine za1 hG ?_
     exact zd0 hK [(0,0),(1,1)] h_l1
   refine zc5 ?_
   obtain rfl:=Option.some.inj h_l1
   have hx:=hx_l1 _ rfl
   subst hx
   try dsimp only at h
   exact zc8 hK [] () (by exact h)
 refine ze0 (zdV4 a0) hK [(0,0),(1,1)] h (fun x_l2 h g2 y_l2 h_l2 hx_l2=>?_)
 unfold zA0 at h_l2
 refine g_st ?_
 refine za0 (za0 (za1 hG ?_))
 refine za4 rfl hG h_l2 (fun _ h_l2=>?_) (fun _ h_l2=>?_)
 · refine za5 ?_
   refine za0 (zb9 (za0 ?_))
   obtain ⟨hb3,h_l2⟩:=za3 h_l2
   refine za1 hG ?_
   refine za0 (za1 hG ?_)
   obtain ⟨v5,hv5,h_l2⟩:=za2 h_l2
   refine za6 (fun hg=>zal4 a0.holds ((a0.converts.getD g2.toNat Wait.zero).proc) _ (hv5)) ?_
   refine za0 (za1 hG ?_)
   refine za6 (fun hg=>zt6 v5) ?_
   refine za6 (fun hg=>zH4 a0.resource ((a0.converts.getD g2.toNat Wait.zero).amount)) ?_
   refine za6 (fun hg=>zH0 a0.resource ((a0.converts.getD g2.toNat Wait.zero).amount) v5) ?_
   obtain ⟨v6,hv6,h_l2⟩:=za2 h_l2
   refine za6 (fun hg=>zO8 a0.converts ((a0.converts.getD g2.toNat Wait.zero).proc) _ (zw9 hg hv6)) ?_
   refine za4 rfl hG h_l2 (fun _ h_l2=>?_) (fun _ h_l2=>?_)
   · refine za0 (za1 hG ?_)
     refine za7 ?_
     obtain rfl:=Option.some.inj h_l2
     have hx:=hx_l2 _ rfl
     subst hx
     try dsimp only at h
     exact zb0 h
   refine za5 ?_
   refine za1 hG ?_
   exact zd0 hK [(0,0),(1,1)] h_l2
 refine zc5 ?_
 obtain rfl:=Option.some.inj h_l2
 have hx:=hx_l2 _ rfl
 subst hx
 try dsimp only at h
 exact zc8 hK [(0,0),(1,1)] () (by exact h)
attribute [local irreducible] zn1
noncomputable def zu4 (a0:Queue):Option (Wait×Bool) :=
 (if (decide (0 < (a0.converts.length:Int)))=true then
  gd (0≤0∧0 < (a0.converts.length:Int)) <|
  some ((a0.converts.getD 0 Wait.zero),true)
 else
  (if (decide (0 < (a0.waits.length:Int)))=true then
   gd (0≤0∧0 < (a0.waits.length:Int)) <|
   some ((a0.waits.getD 0 Wait.zero),true)
  else
   some ({ Wait.zero with  },false)))
theorem zax4 (a0:Queue) (r:Wait×Bool) (h:zu4 a0=some r):PFn C 165 [.agg (Queue.enc a0)] (.tup [.agg (Wait.enc r.1),.bool r.2]):=by
 refine za8 zei9 rfl fun E hG hN hK=>?_
 unfold zcX8
 unfold zu4 at h
 refine za0 (za1 hG ?_)
 refine za0 (za0 (za1 hG ?_))
 refine za4 rfl hG h (fun _ h=>?_) (fun _ h=>?_)
 · refine za0 ?_
   obtain ⟨hb1,h⟩:=za3 h
   refine za1 hG ?_
   refine za7 ?_
   exact zb0 h
 refine za5 ?_
 refine za0 (za0 (za1 hG ?_))
 refine za4 rfl hG h (fun _ h=>?_) (fun _ h=>?_)
 · refine za0 ?_
   obtain ⟨hb2,h⟩:=za3 h
   refine za1 hG ?_
   refine za7 ?_
   exact zb0 h
 refine za5 ?_
 refine za0 (za1 hG ?_)
 refine za7 ?_
 exact zb0 h
attribute [local irreducible] zu4
noncomputable def zS7 (a1:Proc) (a2:Amount) (j1:Bool×(List Hold)):Option ((List Hold)) :=
 (if (!j1.1)=true then
  gd (j1.2.length+1≤4294967296) <|
  some (j1.2++[(⟨a1,a2⟩:Hold)])
 else
  some j1.2)
@[go_sem] def zdV5 (a1:Proc) (a2:Amount) (j1:Bool×(List Hold)):St:=⟨[(4,.ptr 0 0 0),(5,.ptr 1 0 0),(7,.own 2 0 j1.2.length),(8,.bool j1.1)],[(0,⟨false,3,(Proc.enc Proc.zero),[Proc.enc a1]⟩),(1,⟨false,2,(Amount.enc Amount.zero),[Amount.enc a2]⟩),(2,⟨false,5,(Hold.enc Hold.zero),j1.2.map Hold.enc⟩)],3⟩
noncomputable def zK3 (a0:List Hold) (a1:Proc) (a2:Amount) (g1:Bool×Int×(List Hold)):Option ((Bool×Int×(List Hold))⊕((Bool×(List Hold)))) :=
 (if (decide (g1.2.1 < (a0.length:Int)))=true then
  gd (0≤g1.2.1∧g1.2.1 < (a0.length:Int)) <|
  (if (decide ((a0.getD g1.2.1.toNat Hold.zero).proc=a1))=true then
   some (.inl (g1.1,(IntKind.i64.wrap (g1.2.1+1)),g1.2.2))
  else
   gd ((!g1.1)=true→0≤g1.2.1∧g1.2.1 < (a0.length:Int)) <|
   (if ((!g1.1)&&(decide (0 < (zk2 ((a0.getD g1.2.1.toNat Hold.zero).proc) a1))))=true then
    gd (g1.2.2.length+1≤4294967296) <|
    gd (0≤g1.2.1∧g1.2.1 < (a0.length:Int)) <|
    gd (g1.2.2.length+1+1≤4294967296) <|
    some (.inl (true,(IntKind.i64.wrap (g1.2.1+1)),((g1.2.2++[(⟨a1,a2⟩:Hold)])++[(a0.getD g1.2.1.toNat Hold.zero)])))
   else
    gd (0≤g1.2.1∧g1.2.1 < (a0.length:Int)) <|
    gd (g1.2.2.length+1≤4294967296) <|
    some (.inl (g1.1,(IntKind.i64.wrap (g1.2.1+1)),(g1.2.2++[(a0.getD g1.2.1.toNat Hold.zero)])))))
 else
  some (.inr (g1.1,g1.2.2)))
@[go_sem] def zdV6 (a0:List Hold) (a1:Proc) (a2:Amount) (g1:Bool×Int×(List Hold)):St:=⟨[(0,.sl (a0.map Hold.enc)),(4,.ptr 0 0 0),(5,.ptr 1 0 0),(7,.own 2 0 g1.2.2.length),(8,.bool g1.1),(9,.int .i64 g1.2.1)],[(0,⟨false,3,(Proc.enc Proc.zero),[Proc.enc a1]⟩),(1,⟨false,2,(Amount.enc Amount.zero),[Amount.enc a2]⟩),(2,⟨false,5,(Hold.enc Hold.zero),g1.2.2.map Hold.enc⟩)],3⟩
noncomputable def zq4 (a0:List Hold) (a1:Proc) (a2:Amount):Option ((List Hold)) :=
 (zc1 (zK3 a0 a1 a2) ((zc9 a2),0,[])).bind (fun z=>zS7 a1 a2 z)
theorem zal5 (a0:List Hold) (a1:Proc) (a2:Amount) (r:(List Hold)) (h:zq4 a0 a1 a2=some r):PFn C 28 [.sl (a0.map Hold.enc),.agg (Proc.enc a1),.agg (Amount.enc a2)] (.sl (r.map Hold.enc)):=by
 refine za8 zej0 rfl fun E hG hN hK=>?_
 unfold zcY9
 unfold zq4 at h
 refine za0 (za1 hG ?_)
 refine za0 (za1 hG ?_)
 refine za0 (za1 hG ?_)
 refine za6 (fun hg=>zt6 a2) ?_
 refine za0 (za0 (za1 hG ?_))
 refine zb7 (zdV5 a1 a2) (fun v=>zS7 a1 a2 v=some r) ?_ ?_
 · intro j1 h
   unfold zS7 at h
   refine g_st ?_
   refine za0 (za0 (za1 hG ?_))
   refine za4 rfl hG h (fun _ h=>?_) (fun _ h=>?_)
   · obtain ⟨hb1,h⟩:=za3 h
     refine za1 hG ?_
     refine za0 (za1 hG ?_)
     refine za7 ?_
     exact zb0 h
   refine za5 ?_
   refine za0 (za1 hG ?_)
   refine za7 ?_
   exact zb0 h
 refine ze0 (zdV6 a0 a1 a2) hK [(0,0),(1,1),(2,2)] h (fun x_l1 h g1 y_l1 h_l1 hx_l1=>?_)
 unfold zK3 at h_l1
 refine g_st ?_
 refine za0 (za0 (za1 hG ?_))
 refine za4 rfl hG h_l1 (fun _ h_l1=>?_) (fun _ h_l1=>?_)
 · refine za5 ?_
   refine za0 (zb9 (za0 (za0 ?_)))
   obtain ⟨hb8,h_l1⟩:=za3 h_l1
   refine zq9 zd6 hG ?_
   refine za4 rfl hG h_l1 (fun _ h_l1=>?_) (fun _ h_l1=>?_)
   · refine zc5 ?_
     refine za1 hG ?_
     exact zd0 hK [(0,0),(1,1),(2,2)] h_l1
   refine za5 ?_
   refine za0 (za0 ?_)
   obtain ⟨hb7,h_l1⟩:=za3 h_l1
   refine zq9 zd6 hG ?_
   refine zi7 (fun hg=>zK2 ((a0.getD g1.2.1.toNat Hold.zero).proc) a1) ?_
   refine za4 rfl hG h_l1 (fun _ h_l1=>?_) (fun _ h_l1=>?_)
   · refine za0 ?_
     obtain ⟨hb4,h_l1⟩:=za3 h_l1
     refine za1 hG ?_
     refine za1 hG ?_
     obtain ⟨hb2,h_l1⟩:=za3 h_l1
     obtain ⟨hb3,h_l1⟩:=za3 h_l1
     refine za1 hG ?_
     refine za1 hG ?_
     exact zd0 hK [(0,0),(1,1),(2,4)] h_l1
   refine za5 ?_
   obtain ⟨hb5,h_l1⟩:=za3 h_l1
   obtain ⟨hb6,h_l1⟩:=za3 h_l1
   refine za1 hG ?_
   refine za1 hG ?_
   exact zd0 hK [(0,0),(1,1),(2,3)] h_l1
 refine zc5 ?_
 obtain rfl:=Option.some.inj h_l1
 have hx:=hx_l1 _ rfl
 subst hx
 try dsimp only at h
 exact zc8 hK [(0,0),(1,1),(2,2)] (g1.1,g1.2.2) (by exact h)
attribute [local irreducible] zq4
noncomputable def zu5 (a0:Resource) (a1:List Hold) (a2:Proc) (a3:Amount):Option (Bool) :=
 (zn0 a0 a1).bind fun v1 =>
 ((if ((v1&&(ze4 a2))&&(zh7 a0 a3))=true then zq4 a1 a2 a3 else some ([]))).bind fun v2 =>
 ((if ((v1&&(ze4 a2))&&(zh7 a0 a3))=true then zn0 a0 v2 else some (false))).bind fun v3 =>
 some (((v1&&(ze4 a2))&&(zh7 a0 a3))&&v3)
theorem zbb6 (a0:Resource) (a1:List Hold) (a2:Proc) (a3:Amount) (r:Bool) (h:zu5 a0 a1 a2 a3=some r):PFn C 166 [.agg (Resource.enc a0),.sl (a1.map Hold.enc),.agg (Proc.enc a2),.agg (Amount.enc a3)] (.bool r):=by
 refine za8 zej1 rfl fun E hG hN hK=>?_
 unfold zcZ2
 unfold zu5 at h
 refine za0 (za1 hG ?_)
 refine za0 (zq9 zd6 hG ?_)
 obtain ⟨v1,hv1,h⟩:=za2 h
 refine zi7 (fun hg=>zac3 a0 a1 _ (hv1)) ?_
 refine zi7 (fun hg=>zG0 a2) ?_
 refine zi7 (fun hg=>zH4 a0 a3) ?_
 obtain ⟨v2,hv2,h⟩:=za2 h
 refine zi7 (fun hg=>zal5 a1 a2 a3 _ (zw9 hg hv2)) ?_
 obtain ⟨v3,hv3,h⟩:=za2 h
 refine zi7 (fun hg=>zac3 a0 v2 _ (zw9 hg hv3)) ?_
 refine za7 ?_
 exact zb0 h
attribute [local irreducible] zu5
noncomputable def zk4 (a0:Queue):Option (Bool) :=
 (zn1 a0).bind fun v1 =>
 (if (!v1)=true then
  some false
 else
  (zu4 a0).bind fun v2 =>
  ((if v2.2=true then zu5 a0.resource a0.holds v2.1.proc v2.1.amount else some (false))).bind fun v3 =>
  some ((!v2.2)||(!v3)))
theorem zaj2 (a0:Queue) (r:Bool) (h:zk4 a0=some r):PFn C 142 [.agg (Queue.enc a0)] (.bool r):=by
 refine za8 zej2 rfl fun E hG hN hK=>?_
 unfold zcZ8
 unfold zk4 at h
 refine za0 (za1 hG ?_)
 refine za0 (za0 (za1 hG ?_))
 obtain ⟨v1,hv1,h⟩:=za2 h
 refine za6 (fun hg=>zac6 a0 _ (hv1)) ?_
 refine za4 rfl hG h (fun _ h=>?_) (fun _ h=>?_)
 · refine za0 (za1 hG ?_)
   refine za7 ?_
   exact zb0 h
 refine za5 ?_
 refine za0 (za1 hG ?_)
 obtain ⟨v2,hv2,h⟩:=za2 h
 refine za6 (fun hg=>zax4 a0 _ (hv2)) ?_
 refine za0 (za1 hG ?_)
 obtain ⟨v3,hv3,h⟩:=za2 h
 refine za6 (fun hg=>zbb6 a0.resource a0.holds v2.1.proc v2.1.amount _ (zw9 hg hv3)) ?_
 refine za7 ?_
 exact zb0 h
attribute [local irreducible] zk4
noncomputable def zj7 (a0:Queue):Option (Bool) :=
 (zn1 a0).bind fun v1 =>
 ((if v1=true then zk4 a0 else some (false))).bind fun v2 =>
 some (v1&&v2)
theorem zS8 (a0:Queue) (r:Bool) (h:zj7 a0=some r):PFn C 96 [.agg (Queue.enc a0)] (.bool r):=by
 refine za8 zej3 rfl fun E hG hN hK=>?_
 unfold zda1
 unfold zj7 at h
 refine za0 (za1 hG ?_)
 refine za0 (za1 hG ?_)
 obtain ⟨v1,hv1,h⟩:=za2 h
 refine za6 (fun hg=>zac6 a0 _ (hv1)) ?_
 obtain ⟨v2,hv2,h⟩:=za2 h
 refine za6 (fun hg=>zaj2 a0 _ (zw9 hg hv2)) ?_
 refine za7 ?_
 exact zb0 h
attribute [local irreducible] zj7
noncomputable def zV5  (j1:Unit):Option (Bool) :=
 some true
@[go_sem] def zdV7  (j1:Unit):St:=⟨[],[],0⟩
noncomputable def zM9 (a0:List Queue) (g1:Int):Option ((Int)⊕((Unit)⊕(Bool))) :=
 (if (decide (g1 < (a0.length:Int)))=true then
  gd (0≤g1∧g1 < (a0.length:Int)) <|
  (zj7 (a0.getD g1.toNat Queue.zero)).bind fun v1 =>
  gd ((v1&&(decide (0 < g1)))=true→0≤(IntKind.i64.wrap (g1 - 1))∧(IntKind.i64.wrap (g1 - 1)) < (a0.length:Int)) <|
  gd ((v1&&(decide (0 < g1)))=true→0≤g1∧g1 < (a0.length:Int)) <|
  (if ((!v1)||((decide (0 < g1))&&(!Op.bytesLess (((a0.getD ((IntKind.i64.wrap (g1 - 1)).toNat) Queue.zero).resource).name).toList (((a0.getD g1.toNat Queue.zero).resource).name).toList)))=true then
   some (.inr (.inr false))
  else
   some (.inl (IntKind.i64.wrap (g1+1))))
 else
  some (.inr (.inl ())))
@[go_sem] def zdV8 (a0:List Queue) (g1:Int):St:=⟨[(0,.sl (a0.map Queue.enc)),(3,.int .i64 g1)],[],0⟩
noncomputable def zr2 (a0:List Queue):Option (Bool) :=
 (if (decide (8 < (a0.length:Int)))=true then
  some false
 else
  (zc1 (zM9 a0) 0).bind (fun | .inl z=>zV5 z | .inr z=>some z))
theorem zaV5 (a0:List Queue) (r:Bool) (h:zr2 a0=some r):PFn C 75 [.sl (a0.map Queue.enc)] (.bool r):=by
 refine za8 zej4 rfl fun E hG hN hK=>?_
 unfold zdb1
 unfold zr2 at h
 refine za0 (za1 hG ?_)
 refine za0 (za0 (za1 hG ?_))
 refine za4 rfl hG h (fun _ h=>?_) (fun _ h=>?_)
 · refine za0 (za1 hG ?_)
   refine za7 ?_
   exact zb0 h
 refine za5 ?_
 refine za0 (za0 (za1 hG ?_))
 refine zb7 (zdV7) (fun v=>zV5 v=some r) ?_ ?_
 · intro j1 h
   unfold zV5 at h
   refine g_st ?_
   refine za0 (za1 hG ?_)
   refine za7 ?_
   exact zb0 h
 refine ze0 (zdV8 a0) hK [] h (fun x_l1 h g1 y_l1 h_l1 hx_l1=>?_)
 unfold zM9 at h_l1
 refine g_st ?_
 refine za0 (za0 (za1 hG ?_))
 refine za4 rfl hG h_l1 (fun _ h_l1=>?_) (fun _ h_l1=>?_)
 · refine za5 ?_
   refine za0 (zb9 (za0 ?_))
   obtain ⟨hb1,h_l1⟩:=za3 h_l1
   refine zq9 zd6 hG ?_
   obtain ⟨v1,hv1,h_l1⟩:=za2 h_l1
   obtain ⟨hb2,h_l1⟩:=za3 h_l1
   obtain ⟨hb3,h_l1⟩:=za3 h_l1
   refine zi7 (fun hg=>zS8 (a0.getD g1.toNat Queue.zero) _ (hv1)) ?_
   refine za4 rfl hG h_l1 (fun _ h_l1=>?_) (fun _ h_l1=>?_)
   · refine za0 (za1 hG ?_)
     refine za7 ?_
     obtain rfl:=Option.some.inj h_l1
     have hx:=hx_l1 _ rfl
     subst hx
     try dsimp only at h
     exact zb0 h
   refine za5 ?_
   refine za1 hG ?_
   exact zd0 hK [] h_l1
 refine zc5 ?_
 obtain rfl:=Option.some.inj h_l1
 have hx:=hx_l1 _ rfl
 subst hx
 try dsimp only at h
 exact zc8 hK [] () (by exact h)
attribute [local irreducible] zr2
noncomputable def zP8  (j1:(List Proc)):Option ((List Proc)) :=
 some j1
@[go_sem] def zdV9  (j1:(List Proc)):St:=⟨[(3,.own 0 0 j1.length)],[(0,⟨false,3,(Proc.enc Proc.zero),j1.map Proc.enc⟩)],1⟩
noncomputable def zG2 (a0:List Hold) (g1:Int×(List Proc)):Option ((Int×(List Proc))⊕(((List Proc)))) :=
 (if (decide (g1.1 < (a0.length:Int)))=true then
  gd (0≤g1.1∧g1.1 < (a0.length:Int)) <|
  gd (g1.2.length+1≤4294967296) <|
  some (.inl ((IntKind.i64.wrap (g1.1+1)),(g1.2++[(a0.getD g1.1.toNat Hold.zero).proc])))
 else
  some (.inr g1.2))
@[go_sem] def zdW0 (a0:List Hold) (g1:Int×(List Proc)):St:=⟨[(0,.sl (a0.map Hold.enc)),(3,.own 0 0 g1.2.length),(4,.int .i64 g1.1)],[(0,⟨false,3,(Proc.enc Proc.zero),g1.2.map Proc.enc⟩)],1⟩
noncomputable def zm4 (a0:List Hold):Option ((List Proc)) :=
 (zc1 (zG2 a0) (0,[])).bind (fun z=>zP8 z)
theorem zaC2 (a0:List Hold) (r:(List Proc)) (h:zm4 a0=some r):MFn C 114 [.sl (a0.map Hold.enc)] [] 0 (.own 0 0 r.length) [(0,⟨false,3,(Proc.enc Proc.zero),r.map Proc.enc⟩)] 1:=by
 refine zs9 (rl:=[.own 0 0 r.length]) zej5 rfl rfl rfl rfl fun E hG hN hK=>?_
 unfold zdb9
 unfold zm4 at h
 refine za0 (za1 hG ?_)
 refine za0 (za1 hG ?_)
 refine za0 (za0 (za1 hG ?_))
 refine zb7 (zdV9) (fun v=>zP8 v=some r) ?_ ?_
 · intro j1 h
   unfold zP8 at h
   refine g_st ?_
   refine za0 (za1 hG ?_)
   refine za7 ?_
   exact zF3 [(0,0)] h
 refine ze0 (zdW0 a0) hK [(0,1)] h (fun x_l1 h g1 y_l1 h_l1 hx_l1=>?_)
 unfold zG2 at h_l1
 refine g_st ?_
 refine za0 (za0 (za1 hG ?_))
 refine za4 rfl hG h_l1 (fun _ h_l1=>?_) (fun _ h_l1=>?_)
 · refine za5 ?_
   refine za0 (zb9 ?_)
   obtain ⟨hb1,h_l1⟩:=za3 h_l1
   obtain ⟨hb2,h_l1⟩:=za3 h_l1
   refine za1 hG ?_
   refine za1 hG ?_
   exact zd0 hK [(0,1)] h_l1
 refine zc5 ?_
 obtain rfl:=Option.some.inj h_l1
 have hx:=hx_l1 _ rfl
 subst hx
 try dsimp only at h
 exact zc8 hK [(0,0)] g1.2 (by exact h)
attribute [local irreducible] zm4
noncomputable def zN0  (j2:(List Proc)):Option ((List Proc)) :=
 some j2
@[go_sem] def zdW1  (j2:(List Proc)):St:=⟨[(3,.own 0 0 j2.length)],[(0,⟨false,3,(Proc.enc Proc.zero),j2.map Proc.enc⟩)],1⟩
noncomputable def zN1 (a0:Queue) (g1:Int×(List Proc)):Option ((Int×(List Proc))⊕(((List Proc)))) :=
 (if (decide (g1.1 < (a0.waits.length:Int)))=true then
  gd (0≤g1.1∧g1.1 < (a0.waits.length:Int)) <|
  gd (g1.2.length+1≤4294967296) <|
  some (.inl ((IntKind.i64.wrap (g1.1+1)),(g1.2++[(a0.waits.getD g1.1.toNat Wait.zero).proc])))
 else
  some (.inr g1.2))
@[go_sem] def zdW2 (a0:Queue) (g1:Int×(List Proc)):St:=⟨[(1,.ptr 0 0 0),(3,.own 1 0 g1.2.length),(5,.int .i64 g1.1)],[(0,⟨false,8,(Queue.enc Queue.zero),[Queue.enc a0]⟩),(1,⟨false,3,(Proc.enc Proc.zero),g1.2.map Proc.enc⟩)],2⟩
noncomputable def zN2 (a0:Queue) (j1:(List Proc)):Option ((List Proc)) :=
 (zc1 (zN1 a0) (0,j1)).bind (fun z=>zN0 z)
@[go_sem] def zdW3 (a0:Queue) (j1:(List Proc)):St:=⟨[(1,.ptr 0 0 0),(3,.own 1 0 j1.length)],[(0,⟨false,8,(Queue.enc Queue.zero),[Queue.enc a0]⟩),(1,⟨false,3,(Proc.enc Proc.zero),j1.map Proc.enc⟩)],2⟩
noncomputable def zN3 (a0:Queue) (g2:Int×(List Proc)):Option ((Int×(List Proc))⊕(((List Proc)))) :=
 (if (decide (g2.1 < (a0.converts.length:Int)))=true then
  gd (0≤g2.1∧g2.1 < (a0.converts.length:Int)) <|
  gd (g2.2.length+1≤4294967296) <|
  some (.inl ((IntKind.i64.wrap (g2.1+1)),(g2.2++[(a0.converts.getD g2.1.toNat Wait.zero).proc])))
 else
  some (.inr g2.2))
@[go_sem] def zdW4 (a0:Queue) (g2:Int×(List Proc)):St:=⟨[(1,.ptr 0 0 0),(3,.own 1 0 g2.2.length),(4,.int .i64 g2.1)],[(0,⟨false,8,(Queue.enc Queue.zero),[Queue.enc a0]⟩),(1,⟨false,3,(Proc.enc Proc.zero),g2.2.map Proc.enc⟩)],2⟩
noncomputable def zr3 (a0:Queue):Option ((List Proc)) :=
 (zc1 (zN3 a0) (0,[])).bind (fun z=>zN2 a0 z)
theorem zaV6 (a0:Queue) (r:(List Proc)) (h:zr3 a0=some r):PFn C 115 [.agg (Queue.enc a0)] (.sl (r.map Proc.enc)):=by
 refine za8 zej6 rfl fun E hG hN hK=>?_
 unfold zdd0
 unfold zr3 at h
 refine za0 (za1 hG ?_)
 refine za0 (za1 hG ?_)
 refine za0 (za0 (za1 hG ?_))
 refine zb7 (zdW3 a0) (fun v=>zN2 a0 v=some r) ?_ ?_
 · intro j1 h
   unfold zN2 at h
   refine g_st ?_
   refine za0 (za0 (za1 hG ?_))
   refine zb7 (zdW1) (fun v=>zN0 v=some r) ?_ ?_
   · intro j2 h
     unfold zN0 at h
     refine g_st ?_
     refine za0 (za1 hG ?_)
     refine za7 ?_
     exact zb0 h
   refine ze0 (zdW2 a0) hK [(0,0),(1,1)] h (fun x_l1 h g1 y_l1 h_l1 hx_l1=>?_)
   unfold zN1 at h_l1
   refine g_st ?_
   refine za0 (za0 (za1 hG ?_))
   refine za4 rfl hG h_l1 (fun _ h_l1=>?_) (fun _ h_l1=>?_)
   · refine za5 ?_
     refine za0 (zb9 ?_)
     obtain ⟨hb1,h_l1⟩:=za3 h_l1
     obtain ⟨hb2,h_l1⟩:=za3 h_l1
     refine za1 hG ?_
     refine za1 hG ?_
     exact zd0 hK [(0,0),(1,2)] h_l1
   refine zc5 ?_
   obtain rfl:=Option.some.inj h_l1
   have hx:=hx_l1 _ rfl
   subst hx
   try dsimp only at h
   exact zc8 hK [(0,1)] g1.2 (by exact h)
 refine ze0 (zdW4 a0) hK [(0,0),(1,1)] h (fun x_l2 h g2 y_l2 h_l2 hx_l2=>?_)
 unfold zN3 at h_l2
 refine g_st ?_
 refine za0 (za0 (za1 hG ?_))
 refine za4 rfl hG h_l2 (fun _ h_l2=>?_) (fun _ h_l2=>?_)
 · refine za5 ?_
   refine za0 (zb9 ?_)
   obtain ⟨hb3,h_l2⟩:=za3 h_l2
   obtain ⟨hb4,h_l2⟩:=za3 h_l2
   refine za1 hG ?_
   refine za1 hG ?_
   exact zd0 hK [(0,0),(1,2)] h_l2
 refine zc5 ?_
 obtain rfl:=Option.some.inj h_l2
 have hx:=hx_l2 _ rfl
 subst hx
 try dsimp only at h
 exact zc8 hK [(0,0),(1,1)] g2.2 (by exact h)
attribute [local irreducible] zr3
noncomputable def zG3  (j1:Unit):Option (Bool) :=
 some false
@[go_sem] def zdW5  (j1:Unit):St:=⟨[],[],0⟩
noncomputable def zB2 (a0:List Proc) (a1:Proc) (g1:Int):Option ((Int)⊕((Unit)⊕(Bool))) :=
 (if (decide (g1 < (a0.length:Int)))=true then
  gd (0≤g1∧g1 < (a0.length:Int)) <|
  (if (decide ((a0.getD g1.toNat Proc.zero)=a1))=true then
   some (.inr (.inr true))
  else
   some (.inl (IntKind.i64.wrap (g1+1))))
 else
  some (.inr (.inl ())))
@[go_sem] def zdW6 (a0:List Proc) (a1:Proc) (g1:Int):St:=⟨[(0,.sl (a0.map Proc.enc)),(3,.ptr 0 0 0),(5,.int .i64 g1)],[(0,⟨false,3,(Proc.enc Proc.zero),[Proc.enc a1]⟩)],1⟩
noncomputable def zk5 (a0:List Proc) (a1:Proc):Option (Bool) :=
 (zc1 (zB2 a0 a1) 0).bind (fun | .inl z=>zG3 z | .inr z=>some z)
theorem zaj3 (a0:List Proc) (a1:Proc) (r:Bool) (h:zk5 a0 a1=some r):PFn C 59 [.sl (a0.map Proc.enc),.agg (Proc.enc a1)] (.bool r):=by
 refine za8 zej7 rfl fun E hG hN hK=>?_
 unfold zdd8
 unfold zk5 at h
 refine za0 (za1 hG ?_)
 refine za0 (za0 (za1 hG ?_))
 refine zb7 (zdW5) (fun v=>zG3 v=some r) ?_ ?_
 · intro j1 h
   unfold zG3 at h
   refine g_st ?_
   refine za0 (za1 hG ?_)
   refine za7 ?_
   exact zb0 h
 refine ze0 (zdW6 a0 a1) hK [(0,0)] h (fun x_l1 h g1 y_l1 h_l1 hx_l1=>?_)
 unfold zB2 at h_l1
 refine g_st ?_
 refine za0 (za0 (za1 hG ?_))
 refine za4 rfl hG h_l1 (fun _ h_l1=>?_) (fun _ h_l1=>?_)
 · refine za5 ?_
   refine za0 (zb9 (za0 ?_))
   obtain ⟨hb1,h_l1⟩:=za3 h_l1
   refine zq9 zd6 hG ?_
   refine za4 rfl hG h_l1 (fun _ h_l1=>?_) (fun _ h_l1=>?_)
   · refine za0 (za1 hG ?_)
     refine za7 ?_
     obtain rfl:=Option.some.inj h_l1
     have hx:=hx_l1 _ rfl
     subst hx
     try dsimp only at h
     exact zb0 h
   refine za5 ?_
   refine za1 hG ?_
   exact zd0 hK [(0,0)] h_l1
 refine zc5 ?_
 obtain rfl:=Option.some.inj h_l1
 have hx:=hx_l1 _ rfl
 subst hx
 try dsimp only at h
 exact zc8 hK [] () (by exact h)
attribute [local irreducible] zk5
noncomputable def zK4  (j1:(List Proc)):Option ((List Proc)) :=
 some j1
@[go_sem] def zdW7  (j1:(List Proc)):St:=⟨[(3,.own 0 0 j1.length)],[(0,⟨false,3,(Proc.enc Proc.zero),j1.map Proc.enc⟩)],1⟩
noncomputable def zC1 (g1:Int×(List Proc)) (j2:(List Proc)):Option ((Int×(List Proc))⊕(((List Proc)))) :=
 some (.inl ((IntKind.i64.wrap (g1.1+1)),j2))
@[go_sem] def zdW8 (a0:List Proc) (g1:Int×(List Proc)) (j2:(List Proc)):St:=⟨[(0,.sl (a0.map Proc.enc)),(3,.own 0 0 j2.length),(4,.int .i64 g1.1)],[(0,⟨false,3,(Proc.enc Proc.zero),j2.map Proc.enc⟩)],1⟩
noncomputable def zx7  (g2:Int×(List Proc)):Option ((Int×(List Proc))⊕(((List Proc)))) :=
 gd ((decide (0 < g2.1))=true→0≤(IntKind.i64.wrap (g2.1 - 1))∧(IntKind.i64.wrap (g2.1 - 1)) < ((g2.2.length:Nat):Int)) <|
 gd ((decide (0 < g2.1))=true→0≤g2.1∧g2.1 < ((g2.2.length:Nat):Int)) <|
 (if ((decide (0 < g2.1))&&(decide (0 < (zk2 (g2.2.getD ((IntKind.i64.wrap (g2.1 - 1)).toNat) Proc.zero) (g2.2.getD g2.1.toNat Proc.zero)))))=true then
  gd (0≤(IntKind.i64.wrap (g2.1 - 1))∧(IntKind.i64.wrap (g2.1 - 1)) < ((g2.2.length:Nat):Int)) <|
  gd (0≤g2.1∧g2.1 < ((g2.2.length:Nat):Int)) <|
  gd (0≤(IntKind.i64.wrap (g2.1 - 1))∧(IntKind.i64.wrap (g2.1 - 1)) < ((g2.2.length:Nat):Int)) <|
  gd (0≤g2.1∧g2.1 < ((g2.2.length:Nat):Int)) <|
  some (.inl ((IntKind.i64.wrap (g2.1 - 1)),((g2.2.set ((IntKind.i64.wrap (g2.1 - 1)).toNat) (g2.2.getD g2.1.toNat Proc.zero)).set g2.1.toNat (g2.2.getD ((IntKind.i64.wrap (g2.1 - 1)).toNat) Proc.zero))))
 else
  some (.inr g2.2))
@[go_sem] def zdW9 (a0:List Proc) (g1:Int×(List Proc)) (g2:Int×(List Proc)):St:=⟨[(0,.sl (a0.map Proc.enc)),(3,.own 0 0 g2.2.length),(4,.int .i64 g1.1),(5,.int .i64 g2.1)],[(0,⟨false,3,(Proc.enc Proc.zero),g2.2.map Proc.enc⟩)],1⟩
noncomputable def zx8 (a0:List Proc) (g1:Int×(List Proc)):Option ((Int×(List Proc))⊕(((List Proc)))) :=
 (if (decide (g1.1 < (a0.length:Int)))=true then
  gd (0≤g1.1∧g1.1 < (a0.length:Int)) <|
  (zk5 g1.2 (a0.getD g1.1.toNat Proc.zero)).bind fun v1 =>
  (if v1=true then
   some (.inl ((IntKind.i64.wrap (g1.1+1)),g1.2))
  else
   gd (0≤g1.1∧g1.1 < (a0.length:Int)) <|
   gd (g1.2.length+1≤4294967296) <|
   (zc1 (zx7) (((g1.2.length:Nat):Int),(g1.2++[(a0.getD g1.1.toNat Proc.zero)]))).bind (fun z=>zC1 g1 z))
 else
  some (.inr g1.2))
@[go_sem] def zdX0 (a0:List Proc) (g1:Int×(List Proc)):St:=⟨[(0,.sl (a0.map Proc.enc)),(3,.own 0 0 g1.2.length),(4,.int .i64 g1.1)],[(0,⟨false,3,(Proc.enc Proc.zero),g1.2.map Proc.enc⟩)],1⟩
noncomputable def zh2 (a0:List Proc):Option ((List Proc)) :=
 (zc1 (zx8 a0) (0,[])).bind (fun z=>zK4 z)
theorem zac7 (a0:List Proc) (r:(List Proc)) (h:zh2 a0=some r):PFn C 74 [.sl (a0.map Proc.enc)] (.sl (r.map Proc.enc)):=by
 refine za8 zej8 rfl fun E hG hN hK=>?_
 unfold zde9
 unfold zh2 at h
 refine za0 (za1 hG ?_)
 refine za0 (za1 hG ?_)
 refine za0 (za0 (za1 hG ?_))
 refine zb7 (zdW7) (fun v=>zK4 v=some r) ?_ ?_
 · intro j1 h
   unfold zK4 at h
   refine g_st ?_
   refine za0 (za1 hG ?_)
   refine za7 ?_
   exact zb0 h
 refine ze0 (zdX0 a0) hK [(0,0)] h (fun x_l1 h g1 y_l1 h_l1 hx_l1=>?_)
 unfold zx8 at h_l1
 refine g_st ?_
 refine za0 (za0 (za1 hG ?_))
 refine za4 rfl hG h_l1 (fun _ h_l1=>?_) (fun _ h_l1=>?_)
 · refine za5 ?_
   refine za0 (zb9 (za0 (za0 ?_)))
   obtain ⟨hb9,h_l1⟩:=za3 h_l1
   refine za1 hG ?_
   obtain ⟨v1,hv1,h_l1⟩:=za2 h_l1
   refine za6 (fun hg=>zaj3 g1.2 (a0.getD g1.1.toNat Proc.zero) _ (hv1)) ?_
   refine za4 rfl hG h_l1 (fun _ h_l1=>?_) (fun _ h_l1=>?_)
   · refine zc5 ?_
     refine za1 hG ?_
     exact zd0 hK [(0,0)] h_l1
   refine za5 ?_
   refine za0 (za1 hG ?_)
   refine za0 ?_
   obtain ⟨hb7,h_l1⟩:=za3 h_l1
   obtain ⟨hb8,h_l1⟩:=za3 h_l1
   refine za1 hG ?_
   refine zb7 (zdW8 a0 g1) (fun v=>zC1 g1 v=some y_l1) ?_ ?_
   · intro j2 h_l1
     unfold zC1 at h_l1
     refine g_st ?_
     refine za1 hG ?_
     exact zd0 hK [(0,0)] h_l1
   refine ze0 (zdW9 a0 g1) hK [(0,1)] h_l1 (fun x_l2 h_l1 g2 y_l2 h_l2 hx_l2=>?_)
   unfold zx7 at h_l2
   refine g_st ?_
   refine za0 (za0 ?_)
   obtain ⟨hb5,h_l2⟩:=za3 h_l2
   obtain ⟨hb6,h_l2⟩:=za3 h_l2
   refine zq9 zd6 hG ?_
   refine zi7 (fun hg=>zK2 (g2.2.getD ((IntKind.i64.wrap (g2.1 - 1)).toNat) Proc.zero) (g2.2.getD g2.1.toNat Proc.zero)) ?_
   refine za4 rfl hG h_l2 (fun _ h_l2=>?_) (fun _ h_l2=>?_)
   · refine za5 ?_
     refine zb9 (za0 ?_)
     obtain ⟨hb4,h_l2⟩:=za3 h_l2
     refine za1 hG ?_
     refine za0 ?_
     obtain ⟨hb2,h_l2⟩:=za3 h_l2
     obtain ⟨hb3,h_l2⟩:=za3 h_l2
     refine za1 hG ?_
     refine za0 ?_
     obtain ⟨hb1,h_l2⟩:=za3 h_l2
     refine za1 hG ?_
     refine za1 hG ?_
     exact zd0 hK [(0,0)] h_l2
   refine zc5 ?_
   obtain rfl:=Option.some.inj h_l2
   have hx:=hx_l2 _ rfl
   subst hx
   try dsimp only at h_l1
   exact zc8 hK [(0,0)] g2.2 (by exact h_l1)
 refine zc5 ?_
 obtain rfl:=Option.some.inj h_l1
 have hx:=hx_l1 _ rfl
 subst hx
 try dsimp only at h
 exact zc8 hK [(0,0)] g1.2 (by exact h)
attribute [local irreducible] zh2
noncomputable def zr4 (a0:Queue):Option ((List Proc)) :=
 (zm4 a0.holds).bind fun v1 =>
 (zr3 a0).bind fun v2 =>
 gd (v1.length+v2.length≤4294967296) <|
 (zh2 (v1++v2)).bind fun v3 =>
 some v3
theorem zaV7 (a0:Queue) (r:(List Proc)) (h:zr4 a0=some r):PFn C 73 [.agg (Queue.enc a0)] (.sl (r.map Proc.enc)):=by
 refine za8 zej9 rfl fun E hG hN hK=>?_
 unfold zdf2
 unfold zr4 at h
 refine za0 (za1 hG ?_)
 refine za0 (zF2 zd6 hG ?_)
 obtain ⟨v1,hv1,h⟩:=za2 h
 refine zap4 [] [(0,1)] [0] (zaC2 a0.holds _ hv1) rfl rfl ?_
 obtain ⟨v2,hv2,h⟩:=za2 h
 obtain ⟨hb1,h⟩:=za3 h
 refine zz7 (fun hg=>zaV6 a0 _ (hv2)) ?_
 obtain ⟨v3,hv3,h⟩:=za2 h
 refine zz7 (fun hg=>zac7 (v1++v2) _ (hv3)) ?_
 refine za7 ?_
 exact zb0 h
attribute [local irreducible] zr4
end Ab
end Go.Proofs.YtfjeceicgfdmjaaGreatDoor
