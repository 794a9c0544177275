/-
  Functions of the program,as Lean functions; what the program's code computes is what they say.
-/
import Derived.Test.YtfjeceicgfdmjaaGreatDoorFn2
namespace Go.Proofs.YtfjeceicgfdmjaaGreatDoor
namespace Ab
set_option linter.unusedSimpArgs false
set_option linter.unusedVariables false
set_option maxRecDepth 100000
set_option maxHeartbeats 1000000
attribute [local irreducible] zf3 zd1 zj4 zv1 zv2 zg6 ze1 zo1 zv3 zs1 zn4 zj5 ze0 zg7 zf4 zg8 zl9 zh2 zm5 zk0 zg9 ze5 zm9 zf8 zo2 zp5 zi1 zi8 zj8 zj6 zh5 zh0 zc8 zc6 zo3 zq7 zb7 zc0 zh1 zo4 zk1 zk2 zr8 zw5 zc9 zc2 zj7 zj9 zl3 zF5 zq9 zk3 ze3 zm1 zr0 zk4 zk5 zr1 zf5 zl4
noncomputable def zt0 (a0:List Queue) (a1:Proc) (a2:Atom) (a3:Int):Option ((List Queue)×(List Event)×Int) :=
 (zw5 a0 a2.name).bind fun v1 =>
 (if (!decide (v1.2=0))=true then
  some ([],[],v1.2)
 else
  (zk1 a0).bind fun v2 =>
  (zj7 v2 a1).bind fun v3 =>
  (if ((!v3)&&(decide (8≤(v2.length:Int))))=true then
   some ([],[],4)
  else
   gd (0≤v1.1∧v1.1 < (a0.length:Int)) <|
   (zr1 (a0.getD v1.1.toNat Queue.zero) a1 a2.amount a3).bind fun v4 =>
   (if (!decide (v4.2.2=0))=true then
    some ([],[],v4.2.2)
   else
    (zf5 a0 v1.1 v4.1).bind fun v5 =>
    (zl4 a2.name v4.2.1).bind fun v6 =>
    some (v5,v6,0))))
theorem zbb3 (a0:List Queue) (a1:Proc) (a2:Atom) (a3:Int) (r:(List Queue)×(List Event)×Int) (h:zt0 a0 a1 a2 a3=some r):PFn C 17 [.sl (a0.map Queue.enc),.agg (Proc.enc a1),.agg (Atom.enc a2),.int .i64 a3] (.tup [.sl (r.1.map Queue.enc),.sl (r.2.1.map Event.enc),.int .i64 r.2.2]):=by
 refine za8 zew8 rfl fun E hG hN hK=>?_
 unfold zcT9
 unfold zt0 at h
 refine za0 (za1 hG ?_)
 refine za0 (za1 hG ?_)
 obtain ⟨v1,hv1,h⟩:=za3 h
 refine za6 (fun hg=>zbw6 a0 a2.name _ (hv1)) ?_
 refine za0 (za0 (za1 hG ?_))
 refine za4 rfl hG h (fun _ h=>?_) (fun _ h=>?_)
 · refine za0 (za1 hG ?_)
   refine za7 ?_
   exact zb0 h
 refine za5 ?_
 refine za0 (za1 hG ?_)
 obtain ⟨v2,hv2,h⟩:=za3 h
 refine za6 (fun hg=>zU3 a0 _ (hv2)) ?_
 refine za0 (za0 (za1 hG ?_))
 obtain ⟨v3,hv3,h⟩:=za3 h
 refine za6 (fun hg=>zan8 v2 a1 _ (hv3)) ?_
 refine za4 rfl hG h (fun _ h=>?_) (fun _ h=>?_)
 · refine za0 (za1 hG ?_)
   refine za7 ?_
   exact zb0 h
 refine za5 ?_
 refine za0 ?_
 obtain ⟨hb1,h⟩:=za2 h
 refine zG1 zd9 hG ?_
 obtain ⟨v4,hv4,h⟩:=za3 h
 refine zD9 (fun hg=>zbb2 (a0.getD v1.1.toNat Queue.zero) a1 a2.amount a3 _ (hv4)) ?_
 refine za0 (za0 (za1 hG ?_))
 refine za4 rfl hG h (fun _ h=>?_) (fun _ h=>?_)
 · refine za0 (za1 hG ?_)
   refine za7 ?_
   exact zb0 h
 refine za5 ?_
 refine za0 (zG1 zd9 hG ?_)
 obtain ⟨v5,hv5,h⟩:=za3 h
 refine zD9 (fun hg=>zan9 a0 v1.1 v4.1 _ (hv5)) ?_
 obtain ⟨v6,hv6,h⟩:=za3 h
 refine zaf0 [] [] [] (zaM5 a2.name v4.2.1 _ hv6) rfl rfl ?_
 refine za7 ?_
 exact zb0 h
attribute [local irreducible] zt0
noncomputable def zR0  (j1:(List Atom)):Option ((List Atom)) :=
 some j1
@[go_sem] def zei0  (j1:(List Atom)):St:=⟨[(5,.own 0 0 j1.length)],[(0,⟨false,3,(Atom.enc Atom.zero),j1.map Atom.enc⟩)],1⟩
noncomputable def zz8 (a0:List Queue) (a1:Proc) (g1:Int×(List Atom)):Option ((Int×(List Atom))⊕(((List Atom)))) :=
 (if (decide (g1.1 < (a0.length:Int)))=true then
  gd (0≤g1.1∧g1.1 < (a0.length:Int)) <|
  (zh2 (a0.getD g1.1.toNat Queue.zero) a1).bind fun v1 =>
  (if (!decide (v1={ Amount.zero with  }))=true then
   gd (g1.2.length+1≤4294967296) <|
   some (.inl ((IntKind.i64.wrap (g1.1+1)),(g1.2++[(⟨((a0.getD g1.1.toNat Queue.zero).resource).name,v1⟩:Atom)])))
  else
   some (.inl ((IntKind.i64.wrap (g1.1+1)),g1.2)))
 else
  some (.inr g1.2))
@[go_sem] def zei1 (a0:List Queue) (a1:Proc) (g1:Int×(List Atom)):St:=⟨[(3,.ptr 0 0 0),(5,.own 1 0 g1.2.length),(9,.sl (a0.map Queue.enc)),(10,.int .i64 (a0.length:Int)),(11,.int .i64 g1.1)],[(0,⟨false,3,(Proc.enc Proc.zero),[Proc.enc a1]⟩),(1,⟨false,3,(Atom.enc Atom.zero),g1.2.map Atom.enc⟩)],2⟩
noncomputable def zm2 (a0:List Queue) (a1:Proc):Option ((List Atom)) :=
 (zc1 (zz8 a0 a1) (0,[])).bind (fun z=>zR0 z)
theorem zaH7 (a0:List Queue) (a1:Proc) (r:(List Atom)) (h:zm2 a0 a1=some r):PFn C 51 [.sl (a0.map Queue.enc),.agg (Proc.enc a1)] (.sl (r.map Atom.enc)):=by
 refine za8 zew9 rfl fun E hG hN hK=>?_
 unfold zcV0
 unfold zm2 at h
 refine za0 (za1 hG ?_)
 refine za0 (za1 hG ?_)
 refine za0 (za0 (za1 hG ?_))
 refine zb5 (zei0) (fun v=>zR0 v=some r) ?_ ?_
 · intro j1 h
   unfold zR0 at h
   refine g_st ?_
   refine za0 (za1 hG ?_)
   refine za7 ?_
   exact zb0 h
 refine zd8 (zei1 a0 a1) hK [(0,0),(1,1)] h (fun x_l1 h g1 y_l1 h_l1 hx_l1=>?_)
 unfold zz8 at h_l1
 refine g_st ?_
 refine za0 (za1 hG ?_)
 refine za0 ?_
 refine za4 rfl hG h_l1 (fun _ h_l1=>?_) (fun _ h_l1=>?_)
 · refine za5 ?_
   refine za0 (zb6 (za0 ?_))
   obtain ⟨hb2,h_l1⟩:=za2 h_l1
   refine za1 hG ?_
   refine za0 (za1 hG ?_)
   obtain ⟨v1,hv1,h_l1⟩:=za3 h_l1
   refine za6 (fun hg=>zR2 (a0.getD g1.1.toNat Queue.zero) a1 _ (hv1)) ?_
   refine za0 (za1 hG ?_)
   refine za4 rfl hG h_l1 (fun _ h_l1=>?_) (fun _ h_l1=>?_)
   · obtain ⟨hb1,h_l1⟩:=za2 h_l1
     refine za1 hG ?_
     refine za1 hG ?_
     exact zc7 hK [(0,0),(1,4)] h_l1
   refine za5 ?_
   refine za1 hG ?_
   exact zc7 hK [(0,0),(1,1)] h_l1
 refine zc3 ?_
 obtain rfl:=Option.some.inj h_l1
 have hx:=hx_l1 _ rfl
 subst hx
 try dsimp only at h
 exact zc5 hK [(0,1)] g1.2 (by exact h)
attribute [local irreducible] zm2
noncomputable def zm3 :Option (Bool) :=
 (zv2 [{ Resource.zero with name:=(⟨#[97]⟩:ByteArray),kind:=1,units:=1 }]).bind fun v1 =>
 (zn4 0).bind fun v2 =>
 (zt0 v1.1 v2 (⟨(⟨#[97]⟩:ByteArray),{ Amount.zero with mode:=5 }⟩:Atom) 0).bind fun v3 =>
 (zm2 v3.1 v2).bind fun v4 =>
 gd ((((decide (v1.2=0))&&(decide (v3.2.2=0)))&&(decide ((v3.2.1.length:Int)=1)))=true→0≤0∧0 < (v3.2.1.length:Int)) <|
 gd ((((((decide (v1.2=0))&&(decide (v3.2.2=0)))&&(decide ((v3.2.1.length:Int)=1)))&&(decide ((v3.2.1.getD 0 Event.zero).kind=1)))&&(decide ((v4.length:Int)=1)))=true→0≤0∧0 < (v4.length:Int)) <|
 ((if ((((((decide (v1.2=0))&&(decide (v3.2.2=0)))&&(decide ((v3.2.1.length:Int)=1)))&&(decide ((v3.2.1.getD 0 Event.zero).kind=1)))&&(decide ((v4.length:Int)=1)))&&(decide ((v4.getD 0 Atom.zero)=(⟨(⟨#[97]⟩:ByteArray),{ Amount.zero with mode:=5 }⟩:Atom))))=true then zr8 v3.1 (⟨#[97]⟩:ByteArray) else some (0))).bind fun v5 =>
 ((if (((((((decide (v1.2=0))&&(decide (v3.2.2=0)))&&(decide ((v3.2.1.length:Int)=1)))&&(decide ((v3.2.1.getD 0 Event.zero).kind=1)))&&(decide ((v4.length:Int)=1)))&&(decide ((v4.getD 0 Atom.zero)=(⟨(⟨#[97]⟩:ByteArray),{ Amount.zero with mode:=5 }⟩:Atom))))&&(decide (v5=0)))=true then zk2 v3.1 else some (false))).bind fun v6 =>
 some ((((((((decide (v1.2=0))&&(decide (v3.2.2=0)))&&(decide ((v3.2.1.length:Int)=1)))&&(decide ((v3.2.1.getD 0 Event.zero).kind=1)))&&(decide ((v4.length:Int)=1)))&&(decide ((v4.getD 0 Atom.zero)=(⟨(⟨#[97]⟩:ByteArray),{ Amount.zero with mode:=5 }⟩:Atom))))&&(decide (v5=0)))&&v6)
theorem zU7  (r:Bool) (h:zm3=some r):PFn C 14 [] (.bool r):=by
 refine za8 zex0 rfl fun E hG hN hK=>?_
 unfold zcV8
 unfold zm3 at h
 refine za0 (za1 hG ?_)
 refine za0 (za1 hG ?_)
 obtain ⟨v1,hv1,h⟩:=za3 h
 refine za6 (fun hg=>PFn.unfull (zbq2 [{ Resource.zero with name:=(⟨#[97]⟩:ByteArray),kind:=1,units:=1 }] _ (hv1))) ?_
 refine za0 (za1 hG ?_)
 obtain ⟨v2,hv2,h⟩:=za3 h
 refine za6 (fun hg=>zad5 0 _ (hv2)) ?_
 refine za0 (za1 hG ?_)
 refine za0 (za1 hG ?_)
 obtain ⟨v3,hv3,h⟩:=za3 h
 have hc_v3:=zbb3 v1.1 v2 (⟨(⟨#[97]⟩:ByteArray),{ Amount.zero with mode:=5 }⟩:Atom) 0 _ (hv3)
 have el_v3:∀ x:Atom,Atom.enc x=[A.str x.name,A.int .i64 x.amount.mode,A.int .i64 x.amount.units]:=fun x=>rfl
 rw [el_v3] at hc_v3
 dsimp only at hc_v3
 refine za6 (fun hg=>by exact hc_v3) ?_
 refine za0 (za1 hG ?_)
 obtain ⟨v4,hv4,h⟩:=za3 h
 refine za6 (fun hg=>zaH7 v3.1 v2 _ (hv4)) ?_
 refine za0 ?_
 obtain ⟨hb1,h⟩:=za2 h
 obtain ⟨hb2,h⟩:=za2 h
 refine zp1 zd9 hG ?_
 obtain ⟨v5,hv5,h⟩:=za3 h
 refine zh7 (fun hg=>zaC1 v3.1 (⟨#[97]⟩:ByteArray) _ (zz6 hg hv5)) ?_
 obtain ⟨v6,hv6,h⟩:=za3 h
 refine zh7 (fun hg=>zU4 v3.1 _ (zz6 hg hv6)) ?_
 refine za7 ?_
 exact zb0 h
attribute [local irreducible] zm3
noncomputable def zN0  (j1:Unit):Option (Bool) :=
 some true
@[go_sem] def zei2  (j1:Unit):St:=⟨[],[],0⟩
noncomputable def zab0 (a0:List Hold) (a1:List Hold) (g1:Int):Option ((Int)⊕((Unit)⊕(Bool))) :=
 (if (decide (g1 < (a0.length:Int)))=true then
  gd (0≤g1∧g1 < (a0.length:Int)) <|
  gd (0≤g1∧g1 < (a1.length:Int)) <|
  (if (!decide ((a0.getD g1.toNat Hold.zero)=(a1.getD g1.toNat Hold.zero)))=true then
   some (.inr (.inr false))
  else
   some (.inl (IntKind.i64.wrap (g1+1))))
 else
  some (.inr (.inl ())))
@[go_sem] def zei3 (a0:List Hold) (a1:List Hold) (g1:Int):St:=⟨[(0,.sl (a0.map Hold.enc)),(1,.sl (a1.map Hold.enc)),(5,.int .i64 g1)],[],0⟩
noncomputable def zk6 (a0:List Hold) (a1:List Hold):Option (Bool) :=
 (if (!decide ((a0.length:Int)=(a1.length:Int)))=true then
  some false
 else
  (zc1 (zab0 a0 a1) 0).bind (fun | .inl z=>zN0 z | .inr z=>some z))
theorem zaE2 (a0:List Hold) (a1:List Hold) (r:Bool) (h:zk6 a0 a1=some r):PFn C 29 [.sl (a0.map Hold.enc),.sl (a1.map Hold.enc)] (.bool r):=by
 refine za8 zex1 rfl fun E hG hN hK=>?_
 unfold zcW8
 unfold zk6 at h
 refine za0 (za1 hG ?_)
 refine za0 (za0 (za1 hG ?_))
 refine za4 rfl hG h (fun _ h=>?_) (fun _ h=>?_)
 · refine za0 (za1 hG ?_)
   refine za7 ?_
   exact zb0 h
 refine za5 ?_
 refine za0 (za0 (za1 hG ?_))
 refine zb5 (zei2) (fun v=>zN0 v=some r) ?_ ?_
 · intro j1 h
   unfold zN0 at h
   refine g_st ?_
   refine za0 (za1 hG ?_)
   refine za7 ?_
   exact zb0 h
 refine zd8 (zei3 a0 a1) hK [] h (fun x_l1 h g1 y_l1 h_l1 hx_l1=>?_)
 unfold zab0 at h_l1
 refine g_st ?_
 refine za0 (za0 (za1 hG ?_))
 refine za4 rfl hG h_l1 (fun _ h_l1=>?_) (fun _ h_l1=>?_)
 · refine za5 ?_
   refine za0 (zb6 (za0 ?_))
   obtain ⟨hb1,h_l1⟩:=za2 h_l1
   obtain ⟨hb2,h_l1⟩:=za2 h_l1
   refine zp1 zd9 hG ?_
   refine za4 rfl hG h_l1 (fun _ h_l1=>?_) (fun _ h_l1=>?_)
   · refine za0 (za1 hG ?_)
     refine za7 ?_
     obtain rfl:=Option.some.inj h_l1
     have hx:=hx_l1 _ rfl
     subst hx
     try dsimp only at h
     exact zb0 h
   refine za5 ?_
   refine za1 hG ?_
   exact zc7 hK [] h_l1
 refine zc3 ?_
 obtain rfl:=Option.some.inj h_l1
 have hx:=hx_l1 _ rfl
 subst hx
 try dsimp only at h
 exact zc5 hK [] () (by exact h)
attribute [local irreducible] zk6
noncomputable def zN1  (j1:Unit):Option (Bool) :=
 some true
@[go_sem] def zei4  (j1:Unit):St:=⟨[],[],0⟩
noncomputable def zab1 (a0:List Wait) (a1:List Wait) (g1:Int):Option ((Int)⊕((Unit)⊕(Bool))) :=
 (if (decide (g1 < (a0.length:Int)))=true then
  gd (0≤g1∧g1 < (a0.length:Int)) <|
  gd (0≤g1∧g1 < (a1.length:Int)) <|
  (if (!decide ((a0.getD g1.toNat Wait.zero)=(a1.getD g1.toNat Wait.zero)))=true then
   some (.inr (.inr false))
  else
   some (.inl (IntKind.i64.wrap (g1+1))))
 else
  some (.inr (.inl ())))
@[go_sem] def zei5 (a0:List Wait) (a1:List Wait) (g1:Int):St:=⟨[(0,.sl (a0.map Wait.enc)),(1,.sl (a1.map Wait.enc)),(5,.int .i64 g1)],[],0⟩
noncomputable def zi4 (a0:List Wait) (a1:List Wait):Option (Bool) :=
 (if (!decide ((a0.length:Int)=(a1.length:Int)))=true then
  some false
 else
  (zc1 (zab1 a0 a1) 0).bind (fun | .inl z=>zN1 z | .inr z=>some z))
theorem zaf8 (a0:List Wait) (a1:List Wait) (r:Bool) (h:zi4 a0 a1=some r):PFn C 64 [.sl (a0.map Wait.enc),.sl (a1.map Wait.enc)] (.bool r):=by
 refine za8 zex2 rfl fun E hG hN hK=>?_
 unfold zcX8
 unfold zi4 at h
 refine za0 (za1 hG ?_)
 refine za0 (za0 (za1 hG ?_))
 refine za4 rfl hG h (fun _ h=>?_) (fun _ h=>?_)
 · refine za0 (za1 hG ?_)
   refine za7 ?_
   exact zb0 h
 refine za5 ?_
 refine za0 (za0 (za1 hG ?_))
 refine zb5 (zei4) (fun v=>zN1 v=some r) ?_ ?_
 · intro j1 h
   unfold zN1 at h
   refine g_st ?_
   refine za0 (za1 hG ?_)
   refine za7 ?_
   exact zb0 h
 refine zd8 (zei5 a0 a1) hK [] h (fun x_l1 h g1 y_l1 h_l1 hx_l1=>?_)
 unfold zab1 at h_l1
 refine g_st ?_
 refine za0 (za0 (za1 hG ?_))
 refine za4 rfl hG h_l1 (fun _ h_l1=>?_) (fun _ h_l1=>?_)
 · refine za5 ?_
   refine za0 (zb6 (za0 ?_))
   obtain ⟨hb1,h_l1⟩:=za2 h_l1
   obtain ⟨hb2,h_l1⟩:=za2 h_l1
   refine zp1 zd9 hG ?_
   refine za4 rfl hG h_l1 (fun _ h_l1=>?_) (fun _ h_l1=>?_)
   · refine za0 (za1 hG ?_)
     refine za7 ?_
     obtain rfl:=Option.some.inj h_l1
     have hx:=hx_l1 _ rfl
     subst hx
     try dsimp only at h
     exact zb0 h
   refine za5 ?_
   refine za1 hG ?_
   exact zc7 hK [] h_l1
 refine zc3 ?_
 obtain rfl:=Option.some.inj h_l1
 have hx:=hx_l1 _ rfl
 subst hx
 try dsimp only at h
 exact zc5 hK [] () (by exact h)
attribute [local irreducible] zi4
noncomputable def zu0 (a0:Queue) (a1:Queue):Option (Bool) :=
 ((if ((decide (a0.resource=a1.resource))&&(decide (a0.gen=a1.gen)))=true then zk6 a0.holds a1.holds else some (false))).bind fun v1 =>
 ((if (((decide (a0.resource=a1.resource))&&(decide (a0.gen=a1.gen)))&&v1)=true then zi4 a0.converts a1.converts else some (false))).bind fun v2 =>
 ((if ((((decide (a0.resource=a1.resource))&&(decide (a0.gen=a1.gen)))&&v1)&&v2)=true then zi4 a0.waits a1.waits else some (false))).bind fun v3 =>
 some (((((decide (a0.resource=a1.resource))&&(decide (a0.gen=a1.gen)))&&v1)&&v2)&&v3)
theorem zbh7 (a0:Queue) (a1:Queue) (r:Bool) (h:zu0 a0 a1=some r):PFn C 25 [.agg (Queue.enc a0),.agg (Queue.enc a1)] (.bool r):=by
 refine za8 zex3 rfl fun E hG hN hK=>?_
 unfold zcY1
 unfold zu0 at h
 refine za0 (za1 hG ?_)
 refine za0 (za1 hG ?_)
 obtain ⟨v1,hv1,h⟩:=za3 h
 refine za6 (fun hg=>zaE2 a0.holds a1.holds _ (zz6 hg hv1)) ?_
 obtain ⟨v2,hv2,h⟩:=za3 h
 refine za6 (fun hg=>zaf8 a0.converts a1.converts _ (zz6 hg hv2)) ?_
 obtain ⟨v3,hv3,h⟩:=za3 h
 refine za6 (fun hg=>zaf8 a0.waits a1.waits _ (zz6 hg hv3)) ?_
 refine za7 ?_
 exact zb0 h
attribute [local irreducible] zu0
noncomputable def zaT1  (j1:Unit):Option (Bool) :=
 some true
@[go_sem] def zeZ3  (j1:Unit):St:=⟨[],[],0⟩
noncomputable def zaT2 (a0:List Queue) (a1:List Queue) (g1:Int):Option ((Int)⊕((Unit)⊕(Bool))) :=
 (if (decide (g1 < (a0.length:Int)))=true then
  gd (0≤g1∧g1 < (a0.length:Int)) <|
  gd (0≤g1∧g1 < (a1.length:Int)) <|
  (zu0 (a0.getD g1.toNat Queue.zero) (a1.getD g1.toNat Queue.zero)).bind fun v1 =>
  (if (!v1)=true then
   some (.inr (.inr false))
  else
   some (.inl (IntKind.i64.wrap (g1+1))))
 else
  some (.inr (.inl ())))
@[go_sem] def zeZ4 (a0:List Queue) (a1:List Queue) (g1:Int):St:=⟨[(0,.sl (a0.map Queue.enc)),(1,.sl (a1.map Queue.enc)),(5,.int .i64 g1)],[],0⟩
noncomputable def zP0 (a0:List Queue) (a1:List Queue):Option (Bool) :=
 (if (!decide ((a0.length:Int)=(a1.length:Int)))=true then
  some false
 else
  (zc1 (zaT2 a0 a1) 0).bind (fun | .inl z=>zaT1 z | .inr z=>some z))
attribute [local irreducible] zP0
noncomputable def zaM6  (j1:Unit):Option (Bool) :=
 some true
@[go_sem] def zeZ5  (j1:Unit):St:=⟨[],[],0⟩
noncomputable def zaM7 (a0:List Queue) (g1:Int):Option ((Int)⊕((Unit)⊕(Bool))) :=
 (if (decide (g1 < (a0.length:Int)))=true then
  gd (0≤g1∧g1 < (a0.length:Int)) <|
  gd ((!(decide (20 < (((a0.getD g1.toNat Queue.zero).holds).length:Int))))=true→0≤g1∧g1 < (a0.length:Int)) <|
  gd ((!((decide (20 < (((a0.getD g1.toNat Queue.zero).holds).length:Int)))||(decide (20 < (((a0.getD g1.toNat Queue.zero).converts).length:Int)))))=true→0≤g1∧g1 < (a0.length:Int)) <|
  (if (((decide (20 < (((a0.getD g1.toNat Queue.zero).holds).length:Int)))||(decide (20 < (((a0.getD g1.toNat Queue.zero).converts).length:Int))))||(decide (20 < (((a0.getD g1.toNat Queue.zero).waits).length:Int))))=true then
   some (.inr (.inr false))
  else
   some (.inl (IntKind.i64.wrap (g1+1))))
 else
  some (.inr (.inl ())))
@[go_sem] def zeZ6 (a0:List Queue) (g1:Int):St:=⟨[(0,.sl (a0.map Queue.enc)),(3,.int .i64 g1)],[],0⟩
noncomputable def zR4 (a0:List Queue):Option (Bool) :=
 (if (decide (20 < (a0.length:Int)))=true then
  some false
 else
  (zc1 (zaM7 a0) 0).bind (fun | .inl z=>zaM6 z | .inr z=>some z))
attribute [local irreducible] zR4
def ze6 (a0:Proc):Bool :=
 ((((((decide (0≤a0.site))&&(decide (a0.site < 4)))&&(decide (1≤a0.inc)))&&(decide (a0.inc≤99)))&&(decide (1≤a0.num)))&&(decide (a0.num≤999)))
theorem zI4 (a0:Proc):PFn C 97 [.agg (Proc.enc a0)] (.bool (ze6 a0)):=by
 generalize h:ze6 a0=r
 refine za8 zez2 rfl fun E hG hN hK=>?_
 unfold zcY4
 unfold ze6 at h
 refine za0 (za1 hG ?_)
 refine za0 (za1 hG ?_)
 refine za7 ?_
 exact zf1 h
def zk7 (a0:Int):Bool :=
 ((decide (1≤a0))&&(decide (a0≤5)))
theorem zG5 (a0:Int):PFn C 143 [.int .i64 a0] (.bool (zk7 a0)):=by
 generalize h:zk7 a0=r
 refine za8 zez3 rfl fun E hG hN hK=>?_
 unfold zcY7
 unfold zk7 at h
 refine za0 (za1 hG ?_)
 refine za0 (za1 hG ?_)
 refine za7 ?_
 exact zf1 h
def zh3 (a0:Resource) (a1:Amount):Bool :=
 (if (!(zq5 a0))=true then
  false
 else
  (if (decide (a0.kind=1))=true then
   ((zk7 a1.mode)&&(decide (a1.units=0)))
  else
   (((decide (a1.mode=0))&&(decide (1≤a1.units)))&&(decide (a1.units≤a0.units)))))
theorem zK1 (a0:Resource) (a1:Amount):PFn C 98 [.agg (Resource.enc a0),.agg (Amount.enc a1)] (.bool (zh3 a0 a1)):=by
 generalize h:zh3 a0 a1=r
 refine za8 zez4 rfl fun E hG hN hK=>?_
 unfold zcZ4
 unfold zh3 at h
 refine za0 (za1 hG ?_)
 refine za0 (za0 (za1 hG ?_))
 refine za6 (fun hg=>zJ6 a0) ?_
 refine za4 rfl hG h (fun _ h=>?_) (fun _ h=>?_)
 · refine za0 (za1 hG ?_)
   refine za7 ?_
   exact zf1 h
 refine za5 ?_
 refine za0 (za0 (za1 hG ?_))
 refine za4 rfl hG h (fun _ h=>?_) (fun _ h=>?_)
 · refine za0 (za1 hG ?_)
   refine za6 (fun hg=>zG5 a1.mode) ?_
   refine za7 ?_
   exact zf1 h
 refine za5 ?_
 refine za0 (za1 hG ?_)
 refine za7 ?_
 exact zf1 h
def zt1 (a0:Int) (a1:Int):Int :=
 (if (decide (a0 < a1))=true then
  (-1)
 else
  (if (decide (a1 < a0))=true then
   1
  else
   0))
theorem zaf9 (a0:Int) (a1:Int):PFn C 111 [.int .i64 a0,.int .i64 a1] (.int .i64 (zt1 a0 a1)):=by
 generalize h:zt1 a0 a1=r
 refine za8 zez5 rfl fun E hG hN hK=>?_
 unfold zda1
 unfold zt1 at h
 refine za0 (za1 hG ?_)
 refine za0 (za0 (za1 hG ?_))
 refine za4 rfl hG h (fun _ h=>?_) (fun _ h=>?_)
 · refine za0 (za1 hG ?_)
   refine za7 ?_
   exact zf1 h
 refine za5 ?_
 refine za0 (za0 (za1 hG ?_))
 refine za4 rfl hG h (fun _ h=>?_) (fun _ h=>?_)
 · refine za0 (za1 hG ?_)
   refine za7 ?_
   exact zf1 h
 refine za5 ?_
 refine za0 (za1 hG ?_)
 refine za7 ?_
 exact zf1 h
def zj3 (a0:Proc) (a1:Proc):Int :=
 (if (!decide ((zt1 a0.site a1.site)=0))=true then
  (zt1 a0.site a1.site)
 else
  (if (!decide ((zt1 a0.inc a1.inc)=0))=true then
   (zt1 a0.inc a1.inc)
  else
   (zt1 a0.num a1.num)))
theorem zN2 (a0:Proc) (a1:Proc):PFn C 68 [.agg (Proc.enc a0),.agg (Proc.enc a1)] (.int .i64 (zj3 a0 a1)):=by
 generalize h:zj3 a0 a1=r
 refine za8 zez6 rfl fun E hG hN hK=>?_
 unfold zdb0
 unfold zj3 at h
 refine za0 (za1 hG ?_)
 refine za0 (za0 (za1 hG ?_))
 refine za6 (fun hg=>zaf9 a0.site a1.site) ?_
 refine za0 (za1 hG ?_)
 refine za4 rfl hG h (fun _ h=>?_) (fun _ h=>?_)
 · refine za0 (za1 hG ?_)
   refine za7 ?_
   exact zf1 h
 refine za5 ?_
 refine za0 (za0 (za1 hG ?_))
 refine za6 (fun hg=>zaf9 a0.inc a1.inc) ?_
 refine za0 (za1 hG ?_)
 refine za4 rfl hG h (fun _ h=>?_) (fun _ h=>?_)
 · refine za0 (za1 hG ?_)
   refine za7 ?_
   exact zf1 h
 refine za5 ?_
 refine za0 (za1 hG ?_)
 refine za6 (fun hg=>zaf9 a0.num a1.num) ?_
 refine za7 ?_
 exact zf1 h
noncomputable def zI5  (j1:(List Amount)):Option ((List Amount)) :=
 some j1
@[go_sem] def zei6  (j1:(List Amount)):St:=⟨[(3,.own 0 0 j1.length)],[(0,⟨false,2,(Amount.enc Amount.zero),j1.map Amount.enc⟩)],1⟩
noncomputable def zC4 (a0:List Hold) (g1:Int×(List Amount)):Option ((Int×(List Amount))⊕(((List Amount)))) :=
 (if (decide (g1.1 < (a0.length:Int)))=true then
  gd (0≤g1.1∧g1.1 < (a0.length:Int)) <|
  gd (g1.2.length+1≤4294967296) <|
  some (.inl ((IntKind.i64.wrap (g1.1+1)),(g1.2++[(a0.getD g1.1.toNat Hold.zero).amount])))
 else
  some (.inr g1.2))
@[go_sem] def zei7 (a0:List Hold) (g1:Int×(List Amount)):St:=⟨[(0,.sl (a0.map Hold.enc)),(3,.own 0 0 g1.2.length),(4,.int .i64 g1.1)],[(0,⟨false,2,(Amount.enc Amount.zero),g1.2.map Amount.enc⟩)],1⟩
noncomputable def zo5 (a0:List Hold):Option ((List Amount)) :=
 (zc1 (zC4 a0) (0,[])).bind (fun z=>zI5 z)
theorem zaM8 (a0:List Hold) (r:(List Amount)) (h:zo5 a0=some r):PFn C 184 [.sl (a0.map Hold.enc)] (.sl (r.map Amount.enc)):=by
 refine za8 zez7 rfl fun E hG hN hK=>?_
 unfold zdb8
 unfold zo5 at h
 refine za0 (za1 hG ?_)
 refine za0 (za1 hG ?_)
 refine za0 (za0 (za1 hG ?_))
 refine zb5 (zei6) (fun v=>zI5 v=some r) ?_ ?_
 · intro j1 h
   unfold zI5 at h
   refine g_st ?_
   refine za0 (za1 hG ?_)
   refine za7 ?_
   exact zb0 h
 refine zd8 (zei7 a0) hK [(0,0)] h (fun x_l1 h g1 y_l1 h_l1 hx_l1=>?_)
 unfold zC4 at h_l1
 refine g_st ?_
 refine za0 (za0 (za1 hG ?_))
 refine za4 rfl hG h_l1 (fun _ h_l1=>?_) (fun _ h_l1=>?_)
 · refine za5 ?_
   refine za0 (zb6 ?_)
   obtain ⟨hb1,h_l1⟩:=za2 h_l1
   obtain ⟨hb2,h_l1⟩:=za2 h_l1
   refine za1 hG ?_
   refine za1 hG ?_
   exact zc7 hK [(0,1)] h_l1
 refine zc3 ?_
 obtain rfl:=Option.some.inj h_l1
 have hx:=hx_l1 _ rfl
 subst hx
 try dsimp only at h
 exact zc5 hK [(0,0)] g1.2 (by exact h)
attribute [local irreducible] zo5
def zd0 (a0:Amount):Bool :=
 (decide (a0={ Amount.zero with  }))
theorem zt2 (a0:Amount):PFn C 30 [.agg (Amount.enc a0)] (.bool (zd0 a0)):=by
 generalize h:zd0 a0=r
 refine za8 zez8 rfl fun E hG hN hK=>?_
 unfold zdc1
 unfold zd0 at h
 refine za0 (za1 hG ?_)
 refine za0 (za1 hG ?_)
 refine za7 ?_
 exact zf1 h
def zf2 (a0:Resource) (a1:Amount):Bool :=
 ((zq5 a0)&&((zd0 a1)||(zh3 a0 a1)))
theorem zC5 (a0:Resource) (a1:Amount):PFn C 145 [.agg (Resource.enc a0),.agg (Amount.enc a1)] (.bool (zf2 a0 a1)):=by
 generalize h:zf2 a0 a1=r
 refine za8 zez9 rfl fun E hG hN hK=>?_
 unfold zdc4
 unfold zf2 at h
 refine za0 (za1 hG ?_)
 refine za0 (za1 hG ?_)
 refine za6 (fun hg=>zJ6 a0) ?_
 refine za6 (fun hg=>zt2 a1) ?_
 refine za6 (fun hg=>zK1 a0 a1) ?_
 refine za7 ?_
 exact zf1 h
def zs2 (a0:Int) (a1:Int):Bool :=
 (if ((((!(zk7 a0))||(!(zk7 a1)))||(decide (a0=5)))||(decide (a1=5)))=true then
  false
 else
  (((decide (a0=1))||(decide (a1=1)))||((decide (a0=a1))&&(!decide (a0=4)))))
theorem zaA9 (a0:Int) (a1:Int):PFn C 191 [.int .i64 a0,.int .i64 a1] (.bool (zs2 a0 a1)):=by
 generalize h:zs2 a0 a1=r
 refine za8 zeA0 rfl fun E hG hN hK=>?_
 unfold zdc9
 unfold zs2 at h
 refine za0 (za1 hG ?_)
 refine za0 (za0 (za1 hG ?_))
 refine za6 (fun hg=>zG5 a0) ?_
 refine za6 (fun hg=>zG5 a1) ?_
 refine za4 rfl hG h (fun _ h=>?_) (fun _ h=>?_)
 · refine za0 (za1 hG ?_)
   refine za7 ?_
   exact zf1 h
 refine za5 ?_
 refine za0 (za1 hG ?_)
 refine za7 ?_
 exact zf1 h
noncomputable def zK4  (j1:Unit):Option (Bool) :=
 some true
@[go_sem] def zei8  (j1:Unit):St:=⟨[],[],0⟩
noncomputable def zD2 (g1:Int×Int) (j2:Unit):Option ((Int×Int)⊕((Unit)⊕(Bool))) :=
 some (.inl (g1.1,(IntKind.i64.wrap (g1.2+1))))
@[go_sem] def zei9 (a0:Resource) (a1:List Amount) (g1:Int×Int) (j2:Unit):St:=⟨[(1,.sl (a1.map Amount.enc)),(2,.ptr 0 0 0),(5,.int .i64 g1.1),(6,.int .i64 g1.2)],[(0,⟨false,4,(Resource.enc Resource.zero),[Resource.enc a0]⟩)],1⟩
noncomputable def zq3 (a1:List Amount) (g1:Int×Int) (g2:Int):Option ((Int)⊕((Unit)⊕(Bool))) :=
 (if (decide (g2 < g1.2))=true then
  gd (0≤g1.2∧g1.2 < (a1.length:Int)) <|
  gd ((!(zd0 (a1.getD g1.2.toNat Amount.zero)))=true→0≤g2∧g2 < (a1.length:Int)) <|
  gd (((!(zd0 (a1.getD g1.2.toNat Amount.zero)))&&(!(zd0 (a1.getD g2.toNat Amount.zero))))=true→0≤g1.2∧g1.2 < (a1.length:Int)) <|
  gd (((!(zd0 (a1.getD g1.2.toNat Amount.zero)))&&(!(zd0 (a1.getD g2.toNat Amount.zero))))=true→0≤g2∧g2 < (a1.length:Int)) <|
  (if (((!(zd0 (a1.getD g1.2.toNat Amount.zero)))&&(!(zd0 (a1.getD g2.toNat Amount.zero))))&&(!(zs2 ((a1.getD g1.2.toNat Amount.zero).mode) ((a1.getD g2.toNat Amount.zero).mode))))=true then
   some (.inr (.inr false))
  else
   some (.inl (IntKind.i64.wrap (g2+1))))
 else
  some (.inr (.inl ())))
@[go_sem] def zej0 (a0:Resource) (a1:List Amount) (g1:Int×Int) (g2:Int):St:=⟨[(1,.sl (a1.map Amount.enc)),(2,.ptr 0 0 0),(5,.int .i64 g1.1),(6,.int .i64 g1.2),(7,.int .i64 g2)],[(0,⟨false,4,(Resource.enc Resource.zero),[Resource.enc a0]⟩)],1⟩
noncomputable def zv8 (a0:Resource) (a1:List Amount) (g1:Int×Int):Option ((Int×Int)⊕((Unit)⊕(Bool))) :=
 (if (decide (g1.2 < (a1.length:Int)))=true then
  gd (0≤g1.2∧g1.2 < (a1.length:Int)) <|
  (if (!(zf2 a0 (a1.getD g1.2.toNat Amount.zero)))=true then
   some (.inr (.inr false))
  else
   (if (decide (a0.kind=2))=true then
    gd (0≤g1.2∧g1.2 < (a1.length:Int)) <|
    (if (decide (a0.units < (IntKind.i64.wrap (g1.1+(a1.getD g1.2.toNat Amount.zero).units))))=true then
     some (.inr (.inr false))
    else
     some (.inl ((IntKind.i64.wrap (g1.1+(a1.getD g1.2.toNat Amount.zero).units)),(IntKind.i64.wrap (g1.2+1)))))
   else
    (zc1 (zq3 a1 g1) 0).bind (fun | .inl z=>zD2 g1 z | .inr z=>some (.inr (.inr z)))))
 else
  some (.inr (.inl ())))
@[go_sem] def zej1 (a0:Resource) (a1:List Amount) (g1:Int×Int):St:=⟨[(1,.sl (a1.map Amount.enc)),(2,.ptr 0 0 0),(5,.int .i64 g1.1),(6,.int .i64 g1.2)],[(0,⟨false,4,(Resource.enc Resource.zero),[Resource.enc a0]⟩)],1⟩
noncomputable def zi9 (a0:Resource) (a1:List Amount):Option (Bool) :=
 (if (!(zq5 a0))=true then
  some false
 else
  (zc1 (zv8 a0 a1) (0,0)).bind (fun | .inl z=>zK4 z | .inr z=>some z))
theorem zaB0 (a0:Resource) (a1:List Amount) (r:Bool) (h:zi9 a0 a1=some r):PFn C 183 [.agg (Resource.enc a0),.sl (a1.map Amount.enc)] (.bool r):=by
 refine za8 zeA1 rfl fun E hG hN hK=>?_
 unfold zde0
 unfold zi9 at h
 refine za0 (za1 hG ?_)
 refine za0 (za0 (za1 hG ?_))
 refine za6 (fun hg=>zJ6 a0) ?_
 refine za4 rfl hG h (fun _ h=>?_) (fun _ h=>?_)
 · refine za0 (za1 hG ?_)
   refine za7 ?_
   exact zb0 h
 refine za5 ?_
 refine za0 (za1 hG ?_)
 refine za0 (za0 (za1 hG ?_))
 refine zb5 (zei8) (fun v=>zK4 v=some r) ?_ ?_
 · intro j1 h
   unfold zK4 at h
   refine g_st ?_
   refine za0 (za1 hG ?_)
   refine za7 ?_
   exact zb0 h
 refine zd8 (zej1 a0 a1) hK [(0,0)] h (fun x_l1 h g1 y_l1 h_l1 hx_l1=>?_)
 unfold zv8 at h_l1
 refine g_st ?_
 refine za0 (za0 (za1 hG ?_))
 refine za4 rfl hG h_l1 (fun _ h_l1=>?_) (fun _ h_l1=>?_)
 · refine za5 ?_
   refine za0 (zb6 (za0 (za0 ?_)))
   obtain ⟨hb6,h_l1⟩:=za2 h_l1
   refine zp1 zd9 hG ?_
   refine zh7 (fun hg=>zC5 a0 (a1.getD g1.2.toNat Amount.zero)) ?_
   refine za4 rfl hG h_l1 (fun _ h_l1=>?_) (fun _ h_l1=>?_)
   · refine za0 (za1 hG ?_)
     refine za7 ?_
     obtain rfl:=Option.some.inj h_l1
     have hx:=hx_l1 _ rfl
     subst hx
     try dsimp only at h
     exact zb0 h
   refine za5 ?_
   refine za0 (za0 (za1 hG ?_))
   refine za4 rfl hG h_l1 (fun _ h_l1=>?_) (fun _ h_l1=>?_)
   · refine za0 ?_
     obtain ⟨hb1,h_l1⟩:=za2 h_l1
     refine za1 hG ?_
     refine za0 (za0 (za1 hG ?_))
     refine za4 rfl hG h_l1 (fun _ h_l1=>?_) (fun _ h_l1=>?_)
     · refine za0 (za1 hG ?_)
       refine za7 ?_
       obtain rfl:=Option.some.inj h_l1
       have hx:=hx_l1 _ rfl
       subst hx
       try dsimp only at h
       exact zb0 h
     refine za5 ?_
     refine zc3 ?_
     refine za1 hG ?_
     exact zc7 hK [(0,0)] h_l1
   refine za5 ?_
   refine za0 (za1 hG ?_)
   refine zb5 (zei9 a0 a1 g1) (fun v=>zD2 g1 v=some y_l1) ?_ ?_
   · intro j2 h_l1
     unfold zD2 at h_l1
     refine g_st ?_
     refine za1 hG ?_
     exact zc7 hK [(0,0)] h_l1
   refine zd8 (zej0 a0 a1 g1) hK [(0,0)] h_l1 (fun x_l2 h_l1 g2 y_l2 h_l2 hx_l2=>?_)
   unfold zq3 at h_l2
   refine g_st ?_
   refine za0 (za0 (za1 hG ?_))
   refine za4 rfl hG h_l2 (fun _ h_l2=>?_) (fun _ h_l2=>?_)
   · refine za5 ?_
     refine za0 (zb6 (za0 ?_))
     obtain ⟨hb2,h_l2⟩:=za2 h_l2
     refine zp1 zd9 hG ?_
     obtain ⟨hb3,h_l2⟩:=za2 h_l2
     refine zh7 (fun hg=>zt2 (a1.getD g1.2.toNat Amount.zero)) ?_
     obtain ⟨hb4,h_l2⟩:=za2 h_l2
     obtain ⟨hb5,h_l2⟩:=za2 h_l2
     refine zh7 (fun hg=>zt2 (a1.getD g2.toNat Amount.zero)) ?_
     refine zh7 (fun hg=>zaA9 ((a1.getD g1.2.toNat Amount.zero).mode) ((a1.getD g2.toNat Amount.zero).mode)) ?_
     refine za4 rfl hG h_l2 (fun _ h_l2=>?_) (fun _ h_l2=>?_)
     · refine za0 (za1 hG ?_)
       refine za7 ?_
       obtain rfl:=Option.some.inj h_l2
       have hx:=hx_l2 _ rfl
       subst hx
       try dsimp only at h_l1
       obtain rfl:=Option.some.inj h_l1
       have hx:=hx_l1 _ rfl
       subst hx
       try dsimp only at h
       exact zb0 h
     refine za5 ?_
     refine za1 hG ?_
     exact zc7 hK [(0,0)] h_l2
   refine zc3 ?_
   obtain rfl:=Option.some.inj h_l2
   have hx:=hx_l2 _ rfl
   subst hx
   try dsimp only at h_l1
   exact zc5 hK [(0,0)] () (by exact h_l1)
 refine zc3 ?_
 obtain rfl:=Option.some.inj h_l1
 have hx:=hx_l1 _ rfl
 subst hx
 try dsimp only at h
 exact zc5 hK [] () (by exact h)
attribute [local irreducible] zi9
noncomputable def zP1 (a0:Resource) (a1:List Hold) (j1:Unit):Option (Bool) :=
 (zo5 a1).bind fun v1 =>
 (zi9 a0 v1).bind fun v2 =>
 some v2
@[go_sem] def zej2 (a0:Resource) (a1:List Hold) (j1:Unit):St:=⟨[(1,.sl (a1.map Hold.enc)),(2,.ptr 0 0 0)],[(0,⟨false,4,(Resource.enc Resource.zero),[Resource.enc a0]⟩)],1⟩
noncomputable def zG6 (a0:Resource) (a1:List Hold) (g1:Int):Option ((Int)⊕((Unit)⊕(Bool))) :=
 (if (decide (g1 < (a1.length:Int)))=true then
  gd (0≤g1∧g1 < (a1.length:Int)) <|
  gd ((ze6 ((a1.getD g1.toNat Hold.zero).proc))=true→0≤g1∧g1 < (a1.length:Int)) <|
  gd (((!((!(ze6 ((a1.getD g1.toNat Hold.zero).proc)))||(!(zh3 a0 ((a1.getD g1.toNat Hold.zero).amount)))))&&(decide (0 < g1)))=true→0≤(IntKind.i64.wrap (g1 - 1))∧(IntKind.i64.wrap (g1 - 1)) < (a1.length:Int)) <|
  gd (((!((!(ze6 ((a1.getD g1.toNat Hold.zero).proc)))||(!(zh3 a0 ((a1.getD g1.toNat Hold.zero).amount)))))&&(decide (0 < g1)))=true→0≤g1∧g1 < (a1.length:Int)) <|
  (if (((!(ze6 ((a1.getD g1.toNat Hold.zero).proc)))||(!(zh3 a0 ((a1.getD g1.toNat Hold.zero).amount))))||((decide (0 < g1))&&(decide (0≤(zj3 ((a1.getD ((IntKind.i64.wrap (g1 - 1)).toNat) Hold.zero).proc) ((a1.getD g1.toNat Hold.zero).proc))))))=true then
   some (.inr (.inr false))
  else
   some (.inl (IntKind.i64.wrap (g1+1))))
 else
  some (.inr (.inl ())))
@[go_sem] def zej3 (a0:Resource) (a1:List Hold) (g1:Int):St:=⟨[(1,.sl (a1.map Hold.enc)),(2,.ptr 0 0 0),(5,.int .i64 g1)],[(0,⟨false,4,(Resource.enc Resource.zero),[Resource.enc a0]⟩)],1⟩
noncomputable def zo6 (a0:Resource) (a1:List Hold):Option (Bool) :=
 (if ((!(zq5 a0))||(decide (8 < (a1.length:Int))))=true then
  some false
 else
  (zc1 (zG6 a0 a1) 0).bind (fun | .inl z=>zP1 a0 a1 z | .inr z=>some z))
theorem zag0 (a0:Resource) (a1:List Hold) (r:Bool) (h:zo6 a0 a1=some r):PFn C 164 [.agg (Resource.enc a0),.sl (a1.map Hold.enc)] (.bool r):=by
 refine za8 zeA2 rfl fun E hG hN hK=>?_
 unfold zdf0
 unfold zo6 at h
 refine za0 (za1 hG ?_)
 refine za0 (za0 (za1 hG ?_))
 refine za6 (fun hg=>zJ6 a0) ?_
 refine za4 rfl hG h (fun _ h=>?_) (fun _ h=>?_)
 · refine za0 (za1 hG ?_)
   refine za7 ?_
   exact zb0 h
 refine za5 ?_
 refine za0 (za0 (za1 hG ?_))
 refine zb5 (zej2 a0 a1) (fun v=>zP1 a0 a1 v=some r) ?_ ?_
 · intro j1 h
   unfold zP1 at h
   refine g_st ?_
   refine za0 (zp1 zd9 hG ?_)
   obtain ⟨v1,hv1,h⟩:=za3 h
   refine zh7 (fun hg=>zaM8 a1 _ (hv1)) ?_
   obtain ⟨v2,hv2,h⟩:=za3 h
   refine zh7 (fun hg=>zaB0 a0 v1 _ (hv2)) ?_
   refine za7 ?_
   exact zb0 h
 refine zd8 (zej3 a0 a1) hK [(0,0)] h (fun x_l1 h g1 y_l1 h_l1 hx_l1=>?_)
 unfold zG6 at h_l1
 refine g_st ?_
 refine za0 (za0 (za1 hG ?_))
 refine za4 rfl hG h_l1 (fun _ h_l1=>?_) (fun _ h_l1=>?_)
 · refine za5 ?_
   refine za0 (zb6 (za0 ?_))
   obtain ⟨hb1,h_l1⟩:=za2 h_l1
   refine zp1 zd9 hG ?_
   obtain ⟨hb2,h_l1⟩:=za2 h_l1
   refine zh7 (fun hg=>zI4 ((a1.getD g1.toNat Hold.zero).proc)) ?_
   obtain ⟨hb3,h_l1⟩:=za2 h_l1
   obtain ⟨hb4,h_l1⟩:=za2 h_l1
   refine zh7 (fun hg=>zK1 a0 ((a1.getD g1.toNat Hold.zero).amount)) ?_
   refine zh7 (fun hg=>zN2 ((a1.getD ((IntKind.i64.wrap (g1 - 1)).toNat) Hold.zero).proc) ((a1.getD g1.toNat Hold.zero).proc)) ?_
   refine za4 rfl hG h_l1 (fun _ h_l1=>?_) (fun _ h_l1=>?_)
   · refine za0 (za1 hG ?_)
     refine za7 ?_
     obtain rfl:=Option.some.inj h_l1
     have hx:=hx_l1 _ rfl
     subst hx
     try dsimp only at h
     exact zb0 h
   refine za5 ?_
   refine za1 hG ?_
   exact zc7 hK [(0,0)] h_l1
 refine zc3 ?_
 obtain rfl:=Option.some.inj h_l1
 have hx:=hx_l1 _ rfl
 subst hx
 try dsimp only at h
 exact zc5 hK [(0,0)] () (by exact h)
attribute [local irreducible] zo6
def zG7 (a0:Amount):Bool :=
 (((zk7 a0.mode)&&(decide (a0.units=0)))||(((decide (a0.mode=0))&&(decide (1≤a0.units)))&&(decide (a0.units≤8))))
theorem zaT3 (a0:Amount):PFn C 167 [.agg (Amount.enc a0)] (.bool (zG7 a0)):=by
 generalize h:zG7 a0=r
 refine za8 zeA3 rfl fun E hG hN hK=>?_
 unfold zdf3
 unfold zG7 at h
 refine za0 (za1 hG ?_)
 refine za0 (za1 hG ?_)
 refine za6 (fun hg=>zG5 a0.mode) ?_
 refine za7 ?_
 exact zf1 h
def zi5 (a0:Wait):Bool :=
 ((((((ze6 a0.proc)&&(zG7 a0.amount))&&(decide (0≤a0.priority)))&&(decide (a0.priority≤7)))&&(decide (0≤a0.passed)))&&(decide (a0.passed≤3)))
theorem zag1 (a0:Wait):PFn C 151 [.agg (Wait.enc a0)] (.bool (zi5 a0)):=by
 generalize h:zi5 a0=r
 refine za8 zeA4 rfl fun E hG hN hK=>?_
 unfold zdf6
 unfold zi5 at h
 refine za0 (za1 hG ?_)
 refine za0 (za1 hG ?_)
 refine za6 (fun hg=>zI4 a0.proc) ?_
 refine za6 (fun hg=>zaT3 a0.amount) ?_
 refine za7 ?_
 exact zf1 h
noncomputable def zac2  (j1:Unit):Option (Int) :=
 some (-1)
@[go_sem] def zej4  (j1:Unit):St:=⟨[],[],0⟩
noncomputable def zat2 (a0:List Wait) (a1:Proc) (g1:Int):Option ((Int)⊕((Unit)⊕(Int))) :=
 (if (decide (g1 < (a0.length:Int)))=true then
  gd (0≤g1∧g1 < (a0.length:Int)) <|
  (if (decide ((a0.getD g1.toNat Wait.zero).proc=a1))=true then
   some (.inr (.inr g1))
  else
   some (.inl (IntKind.i64.wrap (g1+1))))
 else
  some (.inr (.inl ())))
@[go_sem] def zej5 (a0:List Wait) (a1:Proc) (g1:Int):St:=⟨[(0,.sl (a0.map Wait.enc)),(3,.ptr 0 0 0),(5,.int .i64 g1)],[(0,⟨false,3,(Proc.enc Proc.zero),[Proc.enc a1]⟩)],1⟩
noncomputable def zn0 (a0:List Wait) (a1:Proc):Option (Int) :=
 (zc1 (zat2 a0 a1) 0).bind (fun | .inl z=>zac2 z | .inr z=>some z)
theorem zR5 (a0:List Wait) (a1:Proc) (r:Int) (h:zn0 a0 a1=some r):PFn C 144 [.sl (a0.map Wait.enc),.agg (Proc.enc a1)] (.int .i64 r):=by
 refine za8 zeA5 rfl fun E hG hN hK=>?_
 unfold zdg4
 unfold zn0 at h
 refine za0 (za1 hG ?_)
 refine za0 (za0 (za1 hG ?_))
 refine zb5 (zej4) (fun v=>zac2 v=some r) ?_ ?_
 · intro j1 h
   unfold zac2 at h
   refine g_st ?_
   refine za0 (za1 hG ?_)
   refine za7 ?_
   exact zb0 h
 refine zd8 (zej5 a0 a1) hK [(0,0)] h (fun x_l1 h g1 y_l1 h_l1 hx_l1=>?_)
 unfold zat2 at h_l1
 refine g_st ?_
 refine za0 (za0 (za1 hG ?_))
 refine za4 rfl hG h_l1 (fun _ h_l1=>?_) (fun _ h_l1=>?_)
 · refine za5 ?_
   refine za0 (zb6 (za0 ?_))
   obtain ⟨hb1,h_l1⟩:=za2 h_l1
   refine zp1 zd9 hG ?_
   refine za4 rfl hG h_l1 (fun _ h_l1=>?_) (fun _ h_l1=>?_)
   · refine za0 (za1 hG ?_)
     refine za7 ?_
     obtain rfl:=Option.some.inj h_l1
     have hx:=hx_l1 _ rfl
     subst hx
     try dsimp only at h
     exact zb0 h
   refine za5 ?_
   refine za1 hG ?_
   exact zc7 hK [(0,0)] h_l1
 refine zc3 ?_
 obtain rfl:=Option.some.inj h_l1
 have hx:=hx_l1 _ rfl
 subst hx
 try dsimp only at h
 exact zc5 hK [] () (by exact h)
attribute [local irreducible] zn0
noncomputable def zY3  (j1:Unit):Option (Bool) :=
 some true
@[go_sem] def zej6  (j1:Unit):St:=⟨[],[],0⟩
noncomputable def zP2 (a0:List Wait) (g1:Int):Option ((Int)⊕((Unit)⊕(Bool))) :=
 (if (decide (g1 < (a0.length:Int)))=true then
  gd (0≤g1∧g1 < (a0.length:Int)) <|
  gd ((zi5 (a0.getD g1.toNat Wait.zero))=true→0≤g1∧g1 < (a0.length:Int)) <|
  ((if (zi5 (a0.getD g1.toNat Wait.zero))=true then zn0 a0 ((a0.getD g1.toNat Wait.zero).proc) else some (0))).bind fun v1 =>
  (if ((!(zi5 (a0.getD g1.toNat Wait.zero)))||(!decide (v1=g1)))=true then
   some (.inr (.inr false))
  else
   some (.inl (IntKind.i64.wrap (g1+1))))
 else
  some (.inr (.inl ())))
@[go_sem] def zej7 (a0:List Wait) (g1:Int):St:=⟨[(0,.sl (a0.map Wait.enc)),(3,.int .i64 g1)],[],0⟩
noncomputable def zr2 (a0:List Wait):Option (Bool) :=
 (if (decide (8 < (a0.length:Int)))=true then
  some false
 else
  (zc1 (zP2 a0) 0).bind (fun | .inl z=>zY3 z | .inr z=>some z))
theorem zav9 (a0:List Wait) (r:Bool) (h:zr2 a0=some r):PFn C 150 [.sl (a0.map Wait.enc)] (.bool r):=by
 refine za8 zeA6 rfl fun E hG hN hK=>?_
 unfold zdh4
 unfold zr2 at h
 refine za0 (za1 hG ?_)
 refine za0 (za0 (za1 hG ?_))
 refine za4 rfl hG h (fun _ h=>?_) (fun _ h=>?_)
 · refine za0 (za1 hG ?_)
   refine za7 ?_
   exact zb0 h
 refine za5 ?_
 refine za0 (za0 (za1 hG ?_))
 refine zb5 (zej6) (fun v=>zY3 v=some r) ?_ ?_
 · intro j1 h
   unfold zY3 at h
   refine g_st ?_
   refine za0 (za1 hG ?_)
   refine za7 ?_
   exact zb0 h
 refine zd8 (zej7 a0) hK [] h (fun x_l1 h g1 y_l1 h_l1 hx_l1=>?_)
 unfold zP2 at h_l1
 refine g_st ?_
 refine za0 (za0 (za1 hG ?_))
 refine za4 rfl hG h_l1 (fun _ h_l1=>?_) (fun _ h_l1=>?_)
 · refine za5 ?_
   refine za0 (zb6 (za0 ?_))
   obtain ⟨hb1,h_l1⟩:=za2 h_l1
   refine za1 hG ?_
   obtain ⟨hb2,h_l1⟩:=za2 h_l1
   refine za6 (fun hg=>zag1 (a0.getD g1.toNat Wait.zero)) ?_
   obtain ⟨v1,hv1,h_l1⟩:=za3 h_l1
   refine za6 (fun hg=>zR5 a0 ((a0.getD g1.toNat Wait.zero).proc) _ (zz6 hg hv1)) ?_
   refine za4 rfl hG h_l1 (fun _ h_l1=>?_) (fun _ h_l1=>?_)
   · refine za0 (za1 hG ?_)
     refine za7 ?_
     obtain rfl:=Option.some.inj h_l1
     have hx:=hx_l1 _ rfl
     subst hx
     try dsimp only at h
     exact zb0 h
   refine za5 ?_
   refine za1 hG ?_
   exact zc7 hK [] h_l1
 refine zc3 ?_
 obtain rfl:=Option.some.inj h_l1
 have hx:=hx_l1 _ rfl
 subst hx
 try dsimp only at h
 exact zc5 hK [] () (by exact h)
attribute [local irreducible] zr2
noncomputable def zag2  (j1:Unit):Option (Amount) :=
 some ({ Amount.zero with  })
@[go_sem] def zej8  (j1:Unit):St:=⟨[(4,.ptr 0 0 0)],[(0,⟨false,2,(Amount.enc Amount.zero),[Amount.enc Amount.zero]⟩)],1⟩
noncomputable def zU8 (a0:List Hold) (a1:Proc) (g1:Int):Option ((Int)⊕((Unit)⊕(Amount))) :=
 (if (decide (g1 < (a0.length:Int)))=true then
  gd (0≤g1∧g1 < (a0.length:Int)) <|
  (if (decide ((a0.getD g1.toNat Hold.zero).proc=a1))=true then
   gd (0≤g1∧g1 < (a0.length:Int)) <|
   some (.inr (.inr ((a0.getD g1.toNat Hold.zero).amount)))
  else
   some (.inl (IntKind.i64.wrap (g1+1))))
 else
  some (.inr (.inl ())))
@[go_sem] def zej9 (a0:List Hold) (a1:Proc) (g1:Int):St:=⟨[(0,.sl (a0.map Hold.enc)),(3,.ptr 0 0 0),(4,.ptr 1 0 0),(5,.int .i64 g1)],[(0,⟨false,3,(Proc.enc Proc.zero),[Proc.enc a1]⟩),(1,⟨false,2,(Amount.enc Amount.zero),[Amount.enc Amount.zero]⟩)],2⟩
noncomputable def zv4 (a0:List Hold) (a1:Proc):Option (Amount) :=
 (zc1 (zU8 a0 a1) 0).bind (fun | .inl z=>zag2 z | .inr z=>some z)
theorem zaq9 (a0:List Hold) (a1:Proc) (r:Amount) (h:zv4 a0 a1=some r):PFn C 69 [.sl (a0.map Hold.enc),.agg (Proc.enc a1)] (.agg (Amount.enc r)):=by
 refine za8 zeA7 rfl fun E hG hN hK=>?_
 unfold zdi2
 unfold zv4 at h
 refine za0 (za1 hG ?_)
 refine za0 (za0 (za1 hG ?_))
 refine zb5 (zej8) (fun v=>zag2 v=some r) ?_ ?_
 · intro j1 h
   unfold zag2 at h
   refine g_st ?_
   refine za0 (za1 hG ?_)
   refine za7 ?_
   exact zb0 h
 refine zd8 (zej9 a0 a1) hK [(0,0),(1,1)] h (fun x_l1 h g1 y_l1 h_l1 hx_l1=>?_)
 unfold zU8 at h_l1
 refine g_st ?_
 refine za0 (za0 (za1 hG ?_))
 refine za4 rfl hG h_l1 (fun _ h_l1=>?_) (fun _ h_l1=>?_)
 · refine za5 ?_
   refine za0 (zb6 (za0 ?_))
   obtain ⟨hb2,h_l1⟩:=za2 h_l1
   refine zp1 zd9 hG ?_
   refine za4 rfl hG h_l1 (fun _ h_l1=>?_) (fun _ h_l1=>?_)
   · refine za0 ?_
     obtain ⟨hb1,h_l1⟩:=za2 h_l1
     refine za1 hG ?_
     refine za7 ?_
     obtain rfl:=Option.some.inj h_l1
     have hx:=hx_l1 _ rfl
     subst hx
     try dsimp only at h
     exact zb0 h
   refine za5 ?_
   refine za1 hG ?_
   exact zc7 hK [(0,0),(1,1)] h_l1
 refine zc3 ?_
 obtain rfl:=Option.some.inj h_l1
 have hx:=hx_l1 _ rfl
 subst hx
 try dsimp only at h
 exact zc5 hK [(0,1)] () (by exact h)
attribute [local irreducible] zv4
def zy2 (a0:Int) (a1:Int):Bool :=
 (if ((!(zk7 a0))||(!(zk7 a1)))=true then
  false
 else
  ((((decide (a0=a1))||(decide (a0=5)))||(decide (a1=1)))||((decide (a0=4))&&(!decide (a1=5)))))
theorem zac3 (a0:Int) (a1:Int):PFn C 146 [.int .i64 a0,.int .i64 a1] (.bool (zy2 a0 a1)):=by
 generalize h:zy2 a0 a1=r
 refine za8 zeA8 rfl fun E hG hN hK=>?_
 unfold zdi7
 unfold zy2 at h
 refine za0 (za1 hG ?_)
 refine za0 (za0 (za1 hG ?_))
 refine za6 (fun hg=>zG5 a0) ?_
 refine za6 (fun hg=>zG5 a1) ?_
 refine za4 rfl hG h (fun _ h=>?_) (fun _ h=>?_)
 · refine za0 (za1 hG ?_)
   refine za7 ?_
   exact zf1 h
 refine za5 ?_
 refine za0 (za1 hG ?_)
 refine za7 ?_
 exact zf1 h
def zf9 (a0:Resource) (a1:Amount) (a2:Amount):Bool :=
 (if ((!(zf2 a0 a1))||(!(zf2 a0 a2)))=true then
  false
 else
  (if (zd0 a2)=true then
   true
  else
   (if (zd0 a1)=true then
    false
   else
    (if (decide (a0.kind=1))=true then
     (zy2 a1.mode a2.mode)
    else
     (decide (a2.units≤a1.units))))))
theorem zJ7 (a0:Resource) (a1:Amount) (a2:Amount):PFn C 101 [.agg (Resource.enc a0),.agg (Amount.enc a1),.agg (Amount.enc a2)] (.bool (zf9 a0 a1 a2)):=by
 generalize h:zf9 a0 a1 a2=r
 refine za8 zeA9 rfl fun E hG hN hK=>?_
 unfold zdj8
 unfold zf9 at h
 refine za0 (za1 hG ?_)
 refine za0 (za0 (za1 hG ?_))
 refine za6 (fun hg=>zC5 a0 a1) ?_
 refine za6 (fun hg=>zC5 a0 a2) ?_
 refine za4 rfl hG h (fun _ h=>?_) (fun _ h=>?_)
 · refine za0 (za1 hG ?_)
   refine za7 ?_
   exact zf1 h
 refine za5 ?_
 refine za0 (za0 (za1 hG ?_))
 refine za6 (fun hg=>zt2 a2) ?_
 refine za4 rfl hG h (fun _ h=>?_) (fun _ h=>?_)
 · refine za0 (za1 hG ?_)
   refine za7 ?_
   exact zf1 h
 refine za5 ?_
 refine za0 (za0 (za1 hG ?_))
 refine za6 (fun hg=>zt2 a1) ?_
 refine za4 rfl hG h (fun _ h=>?_) (fun _ h=>?_)
 · refine za0 (za1 hG ?_)
   refine za7 ?_
   exact zf1 h
 refine za5 ?_
 refine za0 (za0 (za1 hG ?_))
 refine za4 rfl hG h (fun _ h=>?_) (fun _ h=>?_)
 · refine za0 (za1 hG ?_)
   refine za6 (fun hg=>zac3 a1.mode a2.mode) ?_
   refine za7 ?_
   exact zf1 h
 refine za5 ?_
 refine za0 (za1 hG ?_)
 refine za7 ?_
 exact zf1 h
noncomputable def zY4  (j2:Unit):Option (Bool) :=
 some true
@[go_sem] def zek0  (j2:Unit):St:=⟨[],[],0⟩
noncomputable def zP3 (a0:Queue) (g1:Int):Option ((Int)⊕((Unit)⊕(Bool))) :=
 (if (decide (g1 < (a0.waits.length:Int)))=true then
  gd (0≤g1∧g1 < (a0.waits.length:Int)) <|
  gd ((zh3 a0.resource ((a0.waits.getD g1.toNat Wait.zero).amount))=true→0≤g1∧g1 < (a0.waits.length:Int)) <|
  ((if (zh3 a0.resource ((a0.waits.getD g1.toNat Wait.zero).amount))=true then zv4 a0.holds ((a0.waits.getD g1.toNat Wait.zero).proc) else some (Amount.zero))).bind fun v4 =>
  (if ((!(zh3 a0.resource ((a0.waits.getD g1.toNat Wait.zero).amount)))||(!(zd0 v4)))=true then
   some (.inr (.inr false))
  else
   some (.inl (IntKind.i64.wrap (g1+1))))
 else
  some (.inr (.inl ())))
@[go_sem] def zek1 (a0:Queue) (g1:Int):St:=⟨[(1,.ptr 0 0 0),(3,.ptr 1 0 0),(7,.int .i64 g1)],[(0,⟨false,8,(Queue.enc Queue.zero),[Queue.enc a0]⟩),(1,⟨false,4,(Resource.enc Resource.zero),[Resource.enc a0.resource]⟩)],2⟩
noncomputable def zP4 (a0:Queue) (j1:Unit):Option (Bool) :=
 (zc1 (zP3 a0) 0).bind (fun | .inl z=>zY4 z | .inr z=>some z)
@[go_sem] def zek2 (a0:Queue) (j1:Unit):St:=⟨[(1,.ptr 0 0 0),(3,.ptr 1 0 0)],[(0,⟨false,8,(Queue.enc Queue.zero),[Queue.enc a0]⟩),(1,⟨false,4,(Resource.enc Resource.zero),[Resource.enc a0.resource]⟩)],2⟩
noncomputable def zB7 (a0:Queue) (g2:Int):Option ((Int)⊕((Unit)⊕(Bool))) :=
 (if (decide (g2 < (a0.converts.length:Int)))=true then
  gd (0≤g2∧g2 < (a0.converts.length:Int)) <|
  (zv4 a0.holds ((a0.converts.getD g2.toNat Wait.zero).proc)).bind fun v5 =>
  ((if (!((((((zd0 v5)||(!(zh3 a0.resource ((a0.converts.getD g2.toNat Wait.zero).amount))))||(!(zf9 a0.resource ((a0.converts.getD g2.toNat Wait.zero).amount) v5)))||(decide ((a0.converts.getD g2.toNat Wait.zero).amount=v5)))||(!decide ((a0.converts.getD g2.toNat Wait.zero).priority=0)))||(!decide ((a0.converts.getD g2.toNat Wait.zero).passed=0))))=true then zn0 a0.converts ((a0.converts.getD g2.toNat Wait.zero).proc) else some (0))).bind fun v6 =>
  (if (((((((zd0 v5)||(!(zh3 a0.resource ((a0.converts.getD g2.toNat Wait.zero).amount))))||(!(zf9 a0.resource ((a0.converts.getD g2.toNat Wait.zero).amount) v5)))||(decide ((a0.converts.getD g2.toNat Wait.zero).amount=v5)))||(!decide ((a0.converts.getD g2.toNat Wait.zero).priority=0)))||(!decide ((a0.converts.getD g2.toNat Wait.zero).passed=0)))||(!decide (v6=g2)))=true then
   some (.inr (.inr false))
  else
   some (.inl (IntKind.i64.wrap (g2+1))))
 else
  some (.inr (.inl ())))
@[go_sem] def zek3 (a0:Queue) (g2:Int):St:=⟨[(1,.ptr 0 0 0),(3,.ptr 1 0 0),(4,.int .i64 g2)],[(0,⟨false,8,(Queue.enc Queue.zero),[Queue.enc a0]⟩),(1,⟨false,4,(Resource.enc Resource.zero),[Resource.enc a0.resource]⟩)],2⟩
noncomputable def zo7 (a0:Queue):Option (Bool) :=
 (ze1 a0.resource).bind fun v1 =>
 ((if v1=true then zo6 a0.resource a0.holds else some (false))).bind fun v2 =>
 ((if (!(((!v1)||(!v2))||(decide (8 < (a0.converts.length:Int)))))=true then zr2 a0.waits else some (false))).bind fun v3 =>
 (if (((((((!v1)||(!v2))||(decide (8 < (a0.converts.length:Int))))||(!v3))||(decide (8 < (IntKind.i64.wrap ((a0.holds.length:Int)+(a0.waits.length:Int))))))||(decide (a0.gen < 0)))||(decide (1073741824 < a0.gen)))=true then
  some false
 else
  (zc1 (zB7 a0) 0).bind (fun | .inl z=>zP4 a0 z | .inr z=>some z))
theorem zag3 (a0:Queue) (r:Bool) (h:zo7 a0=some r):PFn C 141 [.agg (Queue.enc a0)] (.bool r):=by
 refine za8 zeB0 rfl fun E hG hN hK=>?_
 unfold zdk9
 unfold zo7 at h
 refine za0 (za1 hG ?_)
 refine za0 (za1 hG ?_)
 refine za0 (za0 (za1 hG ?_))
 obtain ⟨v1,hv1,h⟩:=za3 h
 refine za6 (fun hg=>zU0 a0.resource _ (hv1)) ?_
 obtain ⟨v2,hv2,h⟩:=za3 h
 refine za6 (fun hg=>zag0 a0.resource a0.holds _ (zz6 hg hv2)) ?_
 obtain ⟨v3,hv3,h⟩:=za3 h
 refine za6 (fun hg=>zav9 a0.waits _ (zz6 hg hv3)) ?_
 refine za4 rfl hG h (fun _ h=>?_) (fun _ h=>?_)
 · refine za0 (za1 hG ?_)
   refine za7 ?_
   exact zb0 h
 refine za5 ?_
 refine za0 (za0 (za1 hG ?_))
 refine zb5 (zek2 a0) (fun v=>zP4 a0 v=some r) ?_ ?_
 · intro j1 h
   unfold zP4 at h
   refine g_st ?_
   refine za0 (za0 (za1 hG ?_))
   refine zb5 (zek0) (fun v=>zY4 v=some r) ?_ ?_
   · intro j2 h
     unfold zY4 at h
     refine g_st ?_
     refine za0 (za1 hG ?_)
     refine za7 ?_
     exact zb0 h
   refine zd8 (zek1 a0) hK [(0,0),(1,1)] h (fun x_l1 h g1 y_l1 h_l1 hx_l1=>?_)
   unfold zP3 at h_l1
   refine g_st ?_
   refine za0 (za0 (za1 hG ?_))
   refine za4 rfl hG h_l1 (fun _ h_l1=>?_) (fun _ h_l1=>?_)
   · refine za5 ?_
     refine za0 (zb6 (za0 ?_))
     obtain ⟨hb1,h_l1⟩:=za2 h_l1
     refine zp1 zd9 hG ?_
     obtain ⟨hb2,h_l1⟩:=za2 h_l1
     refine zh7 (fun hg=>zK1 a0.resource ((a0.waits.getD g1.toNat Wait.zero).amount)) ?_
     obtain ⟨v4,hv4,h_l1⟩:=za3 h_l1
     refine zh7 (fun hg=>zaq9 a0.holds ((a0.waits.getD g1.toNat Wait.zero).proc) _ (zz6 hg hv4)) ?_
     refine zh7 (fun hg=>zt2 v4) ?_
     refine za4 rfl hG h_l1 (fun _ h_l1=>?_) (fun _ h_l1=>?_)
     · refine za0 (za1 hG ?_)
       refine za7 ?_
       obtain rfl:=Option.some.inj h_l1
       have hx:=hx_l1 _ rfl
       subst hx
       try dsimp only at h
       exact zb0 h
     refine za5 ?_
     refine za1 hG ?_
     exact zc7 hK [(0,0),(1,1)] h_l1
   refine zc3 ?_
   obtain rfl:=Option.some.inj h_l1
   have hx:=hx_l1 _ rfl
   subst hx
   try dsimp only at h
   exact zc5 hK [] () (by exact h)
 refine zd8 (zek3 a0) hK [(0,0),(1,1)] h (fun x_l2 h g2 y_l2 h_l2 hx_l2=>?_)
 unfold zB7 at h_l2
 refine g_st ?_
 refine za0 (za0 (za1 hG ?_))
 refine za4 rfl hG h_l2 (fun _ h_l2=>?_) (fun _ h_l2=>?_)
 · refine za5 ?_
   refine za0 (zb6 (za0 ?_))
   obtain ⟨hb3,h_l2⟩:=za2 h_l2
   refine za1 hG ?_
   refine za0 (za1 hG ?_)
   obtain ⟨v5,hv5,h_l2⟩:=za3 h_l2
   refine za6 (fun hg=>zaq9 a0.holds ((a0.converts.getD g2.toNat Wait.zero).proc) _ (hv5)) ?_
   refine za0 (za1 hG ?_)
   refine za6 (fun hg=>zt2 v5) ?_
   refine za6 (fun hg=>zK1 a0.resource ((a0.converts.getD g2.toNat Wait.zero).amount)) ?_
   refine za6 (fun hg=>zJ7 a0.resource ((a0.converts.getD g2.toNat Wait.zero).amount) v5) ?_
   obtain ⟨v6,hv6,h_l2⟩:=za3 h_l2
   refine za6 (fun hg=>zR5 a0.converts ((a0.converts.getD g2.toNat Wait.zero).proc) _ (zz6 hg hv6)) ?_
   refine za4 rfl hG h_l2 (fun _ h_l2=>?_) (fun _ h_l2=>?_)
   · refine za0 (za1 hG ?_)
     refine za7 ?_
     obtain rfl:=Option.some.inj h_l2
     have hx:=hx_l2 _ rfl
     subst hx
     try dsimp only at h
     exact zb0 h
   refine za5 ?_
   refine za1 hG ?_
   exact zc7 hK [(0,0),(1,1)] h_l2
 refine zc3 ?_
 obtain rfl:=Option.some.inj h_l2
 have hx:=hx_l2 _ rfl
 subst hx
 try dsimp only at h
 exact zc5 hK [(0,0),(1,1)] () (by exact h)
attribute [local irreducible] zo7
noncomputable def zx1 (a0:Queue):Option (Wait×Bool) :=
 (if (decide (0 < (a0.converts.length:Int)))=true then
  gd (0≤0∧0 < (a0.converts.length:Int)) <|
  some ((a0.converts.getD 0 Wait.zero),true)
 else
  (if (decide (0 < (a0.waits.length:Int)))=true then
   gd (0≤0∧0 < (a0.waits.length:Int)) <|
   some ((a0.waits.getD 0 Wait.zero),true)
  else
   some ({ Wait.zero with  },false)))
theorem zaC2 (a0:Queue) (r:Wait×Bool) (h:zx1 a0=some r):PFn C 165 [.agg (Queue.enc a0)] (.tup [.agg (Wait.enc r.1),.bool r.2]):=by
 refine za8 zeB1 rfl fun E hG hN hK=>?_
 unfold zdl6
 unfold zx1 at h
 refine za0 (za1 hG ?_)
 refine za0 (za0 (za1 hG ?_))
 refine za4 rfl hG h (fun _ h=>?_) (fun _ h=>?_)
 · refine za0 ?_
   obtain ⟨hb1,h⟩:=za2 h
   refine za1 hG ?_
   refine za7 ?_
   exact zb0 h
 refine za5 ?_
 refine za0 (za0 (za1 hG ?_))
 refine za4 rfl hG h (fun _ h=>?_) (fun _ h=>?_)
 · refine za0 ?_
   obtain ⟨hb2,h⟩:=za2 h
   refine za1 hG ?_
   refine za7 ?_
   exact zb0 h
 refine za5 ?_
 refine za0 (za1 hG ?_)
 refine za7 ?_
 exact zb0 h
attribute [local irreducible] zx1
noncomputable def zU9 (a1:Proc) (a2:Amount) (j1:Bool×(List Hold)):Option ((List Hold)) :=
 (if (!j1.1)=true then
  gd (j1.2.length+1≤4294967296) <|
  some (j1.2++[(⟨a1,a2⟩:Hold)])
 else
  some j1.2)
@[go_sem] def zek4 (a1:Proc) (a2:Amount) (j1:Bool×(List Hold)):St:=⟨[(4,.ptr 0 0 0),(5,.ptr 1 0 0),(7,.own 2 0 j1.2.length),(8,.bool j1.1)],[(0,⟨false,3,(Proc.enc Proc.zero),[Proc.enc a1]⟩),(1,⟨false,2,(Amount.enc Amount.zero),[Amount.enc a2]⟩),(2,⟨false,5,(Hold.enc Hold.zero),j1.2.map Hold.enc⟩)],3⟩
noncomputable def zN3 (a0:List Hold) (a1:Proc) (a2:Amount) (g1:Bool×Int×(List Hold)):Option ((Bool×Int×(List Hold))⊕((Bool×(List Hold)))) :=
 (if (decide (g1.2.1 < (a0.length:Int)))=true then
  gd (0≤g1.2.1∧g1.2.1 < (a0.length:Int)) <|
  (if (decide ((a0.getD g1.2.1.toNat Hold.zero).proc=a1))=true then
   some (.inl (g1.1,(IntKind.i64.wrap (g1.2.1+1)),g1.2.2))
  else
   gd ((!g1.1)=true→0≤g1.2.1∧g1.2.1 < (a0.length:Int)) <|
   (if ((!g1.1)&&(decide (0 < (zj3 ((a0.getD g1.2.1.toNat Hold.zero).proc) a1))))=true then
    gd (g1.2.2.length+1≤4294967296) <|
    gd (0≤g1.2.1∧g1.2.1 < (a0.length:Int)) <|
    gd (g1.2.2.length+1+1≤4294967296) <|
    some (.inl (true,(IntKind.i64.wrap (g1.2.1+1)),((g1.2.2++[(⟨a1,a2⟩:Hold)])++[(a0.getD g1.2.1.toNat Hold.zero)])))
   else
    gd (0≤g1.2.1∧g1.2.1 < (a0.length:Int)) <|
    gd (g1.2.2.length+1≤4294967296) <|
    some (.inl (g1.1,(IntKind.i64.wrap (g1.2.1+1)),(g1.2.2++[(a0.getD g1.2.1.toNat Hold.zero)])))))
 else
  some (.inr (g1.1,g1.2.2)))
@[go_sem] def zek5 (a0:List Hold) (a1:Proc) (a2:Amount) (g1:Bool×Int×(List Hold)):St:=⟨[(0,.sl (a0.map Hold.enc)),(4,.ptr 0 0 0),(5,.ptr 1 0 0),(7,.own 2 0 g1.2.2.length),(8,.bool g1.1),(9,.int .i64 g1.2.1)],[(0,⟨false,3,(Proc.enc Proc.zero),[Proc.enc a1]⟩),(1,⟨false,2,(Amount.enc Amount.zero),[Amount.enc a2]⟩),(2,⟨false,5,(Hold.enc Hold.zero),g1.2.2.map Hold.enc⟩)],3⟩
noncomputable def zs7 (a0:List Hold) (a1:Proc) (a2:Amount):Option ((List Hold)) :=
 (zc1 (zN3 a0 a1 a2) ((zd0 a2),0,[])).bind (fun z=>zU9 a1 a2 z)
theorem zar0 (a0:List Hold) (a1:Proc) (a2:Amount) (r:(List Hold)) (h:zs7 a0 a1 a2=some r):PFn C 28 [.sl (a0.map Hold.enc),.agg (Proc.enc a1),.agg (Amount.enc a2)] (.sl (r.map Hold.enc)):=by
 refine za8 zeB2 rfl fun E hG hN hK=>?_
 unfold zdm7
 unfold zs7 at h
 refine za0 (za1 hG ?_)
 refine za0 (za1 hG ?_)
 refine za0 (za1 hG ?_)
 refine za6 (fun hg=>zt2 a2) ?_
 refine za0 (za0 (za1 hG ?_))
 refine zb5 (zek4 a1 a2) (fun v=>zU9 a1 a2 v=some r) ?_ ?_
 · intro j1 h
   unfold zU9 at h
   refine g_st ?_
   refine za0 (za0 (za1 hG ?_))
   refine za4 rfl hG h (fun _ h=>?_) (fun _ h=>?_)
   · obtain ⟨hb1,h⟩:=za2 h
     refine za1 hG ?_
     refine za0 (za1 hG ?_)
     refine za7 ?_
     exact zb0 h
   refine za5 ?_
   refine za0 (za1 hG ?_)
   refine za7 ?_
   exact zb0 h
 refine zd8 (zek5 a0 a1 a2) hK [(0,0),(1,1),(2,2)] h (fun x_l1 h g1 y_l1 h_l1 hx_l1=>?_)
 unfold zN3 at h_l1
 refine g_st ?_
 refine za0 (za0 (za1 hG ?_))
 refine za4 rfl hG h_l1 (fun _ h_l1=>?_) (fun _ h_l1=>?_)
 · refine za5 ?_
   refine za0 (zb6 (za0 (za0 ?_)))
   obtain ⟨hb8,h_l1⟩:=za2 h_l1
   refine zp1 zd9 hG ?_
   refine za4 rfl hG h_l1 (fun _ h_l1=>?_) (fun _ h_l1=>?_)
   · refine zc3 ?_
     refine za1 hG ?_
     exact zc7 hK [(0,0),(1,1),(2,2)] h_l1
   refine za5 ?_
   refine za0 (za0 ?_)
   obtain ⟨hb7,h_l1⟩:=za2 h_l1
   refine zp1 zd9 hG ?_
   refine zh7 (fun hg=>zN2 ((a0.getD g1.2.1.toNat Hold.zero).proc) a1) ?_
   refine za4 rfl hG h_l1 (fun _ h_l1=>?_) (fun _ h_l1=>?_)
   · refine za0 ?_
     obtain ⟨hb4,h_l1⟩:=za2 h_l1
     refine za1 hG ?_
     refine za1 hG ?_
     obtain ⟨hb2,h_l1⟩:=za2 h_l1
     obtain ⟨hb3,h_l1⟩:=za2 h_l1
     refine za1 hG ?_
     refine za1 hG ?_
     exact zc7 hK [(0,0),(1,1),(2,4)] h_l1
   refine za5 ?_
   obtain ⟨hb5,h_l1⟩:=za2 h_l1
   obtain ⟨hb6,h_l1⟩:=za2 h_l1
   refine za1 hG ?_
   refine za1 hG ?_
   exact zc7 hK [(0,0),(1,1),(2,3)] h_l1
 refine zc3 ?_
 obtain rfl:=Option.some.inj h_l1
 have hx:=hx_l1 _ rfl
 subst hx
 try dsimp only at h
 exact zc5 hK [(0,0),(1,1),(2,2)] (g1.1,g1.2.2) (by exact h)
attribute [local irreducible] zs7
noncomputable def zx2 (a0:Resource) (a1:List Hold) (a2:Proc) (a3:Amount):Option (Bool) :=
 (zo6 a0 a1).bind fun v1 =>
 ((if ((v1&&(ze6 a2))&&(zh3 a0 a3))=true then zs7 a1 a2 a3 else some ([]))).bind fun v2 =>
 ((if ((v1&&(ze6 a2))&&(zh3 a0 a3))=true then zo6 a0 v2 else some (false))).bind fun v3 =>
 some (((v1&&(ze6 a2))&&(zh3 a0 a3))&&v3)
theorem zbh8 (a0:Resource) (a1:List Hold) (a2:Proc) (a3:Amount) (r:Bool) (h:zx2 a0 a1 a2 a3=some r):PFn C 166 [.agg (Resource.enc a0),.sl (a1.map Hold.enc),.agg (Proc.enc a2),.agg (Amount.enc a3)] (.bool r):=by
 refine za8 zeB3 rfl fun E hG hN hK=>?_
 unfold zdn0
 unfold zx2 at h
 refine za0 (za1 hG ?_)
 refine za0 (zp1 zd9 hG ?_)
 obtain ⟨v1,hv1,h⟩:=za3 h
 refine zh7 (fun hg=>zag0 a0 a1 _ (hv1)) ?_
 refine zh7 (fun hg=>zI4 a2) ?_
 refine zh7 (fun hg=>zK1 a0 a3) ?_
 obtain ⟨v2,hv2,h⟩:=za3 h
 refine zh7 (fun hg=>zar0 a1 a2 a3 _ (zz6 hg hv2)) ?_
 obtain ⟨v3,hv3,h⟩:=za3 h
 refine zh7 (fun hg=>zag0 a0 v2 _ (zz6 hg hv3)) ?_
 refine za7 ?_
 exact zb0 h
attribute [local irreducible] zx2
noncomputable def zl5 (a0:Queue):Option (Bool) :=
 (zo7 a0).bind fun v1 =>
 (if (!v1)=true then
  some false
 else
  (zx1 a0).bind fun v2 =>
  ((if v2.2=true then zx2 a0.resource a0.holds v2.1.proc v2.1.amount else some (false))).bind fun v3 =>
  some ((!v2.2)||(!v3)))
theorem zao0 (a0:Queue) (r:Bool) (h:zl5 a0=some r):PFn C 142 [.agg (Queue.enc a0)] (.bool r):=by
 refine za8 zeB4 rfl fun E hG hN hK=>?_
 unfold zdn6
 unfold zl5 at h
 refine za0 (za1 hG ?_)
 refine za0 (za0 (za1 hG ?_))
 obtain ⟨v1,hv1,h⟩:=za3 h
 refine za6 (fun hg=>zag3 a0 _ (hv1)) ?_
 refine za4 rfl hG h (fun _ h=>?_) (fun _ h=>?_)
 · refine za0 (za1 hG ?_)
   refine za7 ?_
   exact zb0 h
 refine za5 ?_
 refine za0 (za1 hG ?_)
 obtain ⟨v2,hv2,h⟩:=za3 h
 refine za6 (fun hg=>zaC2 a0 _ (hv2)) ?_
 refine za0 (za1 hG ?_)
 obtain ⟨v3,hv3,h⟩:=za3 h
 refine za6 (fun hg=>zbh8 a0.resource a0.holds v2.1.proc v2.1.amount _ (zz6 hg hv3)) ?_
 refine za7 ?_
 exact zb0 h
attribute [local irreducible] zl5
noncomputable def zk8 (a0:Queue):Option (Bool) :=
 (zo7 a0).bind fun v1 =>
 ((if v1=true then zl5 a0 else some (false))).bind fun v2 =>
 some (v1&&v2)
theorem zV0 (a0:Queue) (r:Bool) (h:zk8 a0=some r):PFn C 96 [.agg (Queue.enc a0)] (.bool r):=by
 refine za8 zeB5 rfl fun E hG hN hK=>?_
 unfold zdn9
 unfold zk8 at h
 refine za0 (za1 hG ?_)
 refine za0 (za1 hG ?_)
 obtain ⟨v1,hv1,h⟩:=za3 h
 refine za6 (fun hg=>zag3 a0 _ (hv1)) ?_
 obtain ⟨v2,hv2,h⟩:=za3 h
 refine za6 (fun hg=>zao0 a0 _ (zz6 hg hv2)) ?_
 refine za7 ?_
 exact zb0 h
attribute [local irreducible] zk8
noncomputable def zY5  (j1:Unit):Option (Bool) :=
 some true
@[go_sem] def zek6  (j1:Unit):St:=⟨[],[],0⟩
noncomputable def zP5 (a0:List Queue) (g1:Int):Option ((Int)⊕((Unit)⊕(Bool))) :=
 (if (decide (g1 < (a0.length:Int)))=true then
  gd (0≤g1∧g1 < (a0.length:Int)) <|
  (zk8 (a0.getD g1.toNat Queue.zero)).bind fun v1 =>
  gd ((v1&&(decide (0 < g1)))=true→0≤(IntKind.i64.wrap (g1 - 1))∧(IntKind.i64.wrap (g1 - 1)) < (a0.length:Int)) <|
  gd ((v1&&(decide (0 < g1)))=true→0≤g1∧g1 < (a0.length:Int)) <|
  (if ((!v1)||((decide (0 < g1))&&(!Op.bytesLess (((a0.getD ((IntKind.i64.wrap (g1 - 1)).toNat) Queue.zero).resource).name).toList (((a0.getD g1.toNat Queue.zero).resource).name).toList)))=true then
   some (.inr (.inr false))
  else
   some (.inl (IntKind.i64.wrap (g1+1))))
 else
  some (.inr (.inl ())))
@[go_sem] def zek7 (a0:List Queue) (g1:Int):St:=⟨[(0,.sl (a0.map Queue.enc)),(3,.int .i64 g1)],[],0⟩
noncomputable def zt3 (a0:List Queue):Option (Bool) :=
 (if (decide (8 < (a0.length:Int)))=true then
  some false
 else
  (zc1 (zP5 a0) 0).bind (fun | .inl z=>zY5 z | .inr z=>some z))
theorem zbb4 (a0:List Queue) (r:Bool) (h:zt3 a0=some r):PFn C 75 [.sl (a0.map Queue.enc)] (.bool r):=by
 refine za8 zeB6 rfl fun E hG hN hK=>?_
 unfold zdo9
 unfold zt3 at h
 refine za0 (za1 hG ?_)
 refine za0 (za0 (za1 hG ?_))
 refine za4 rfl hG h (fun _ h=>?_) (fun _ h=>?_)
 · refine za0 (za1 hG ?_)
   refine za7 ?_
   exact zb0 h
 refine za5 ?_
 refine za0 (za0 (za1 hG ?_))
 refine zb5 (zek6) (fun v=>zY5 v=some r) ?_ ?_
 · intro j1 h
   unfold zY5 at h
   refine g_st ?_
   refine za0 (za1 hG ?_)
   refine za7 ?_
   exact zb0 h
 refine zd8 (zek7 a0) hK [] h (fun x_l1 h g1 y_l1 h_l1 hx_l1=>?_)
 unfold zP5 at h_l1
 refine g_st ?_
 refine za0 (za0 (za1 hG ?_))
 refine za4 rfl hG h_l1 (fun _ h_l1=>?_) (fun _ h_l1=>?_)
 · refine za5 ?_
   refine za0 (zb6 (za0 ?_))
   obtain ⟨hb1,h_l1⟩:=za2 h_l1
   refine zp1 zd9 hG ?_
   obtain ⟨v1,hv1,h_l1⟩:=za3 h_l1
   obtain ⟨hb2,h_l1⟩:=za2 h_l1
   obtain ⟨hb3,h_l1⟩:=za2 h_l1
   refine zh7 (fun hg=>zV0 (a0.getD g1.toNat Queue.zero) _ (hv1)) ?_
   refine za4 rfl hG h_l1 (fun _ h_l1=>?_) (fun _ h_l1=>?_)
   · refine za0 (za1 hG ?_)
     refine za7 ?_
     obtain rfl:=Option.some.inj h_l1
     have hx:=hx_l1 _ rfl
     subst hx
     try dsimp only at h
     exact zb0 h
   refine za5 ?_
   refine za1 hG ?_
   exact zc7 hK [] h_l1
 refine zc3 ?_
 obtain rfl:=Option.some.inj h_l1
 have hx:=hx_l1 _ rfl
 subst hx
 try dsimp only at h
 exact zc5 hK [] () (by exact h)
attribute [local irreducible] zt3
noncomputable def zS6  (j1:(List Proc)):Option ((List Proc)) :=
 some j1
@[go_sem] def zek8  (j1:(List Proc)):St:=⟨[(3,.own 0 0 j1.length)],[(0,⟨false,3,(Proc.enc Proc.zero),j1.map Proc.enc⟩)],1⟩
noncomputable def zI6 (a0:List Hold) (g1:Int×(List Proc)):Option ((Int×(List Proc))⊕(((List Proc)))) :=
 (if (decide (g1.1 < (a0.length:Int)))=true then
  gd (0≤g1.1∧g1.1 < (a0.length:Int)) <|
  gd (g1.2.length+1≤4294967296) <|
  some (.inl ((IntKind.i64.wrap (g1.1+1)),(g1.2++[(a0.getD g1.1.toNat Hold.zero).proc])))
 else
  some (.inr g1.2))
@[go_sem] def zek9 (a0:List Hold) (g1:Int×(List Proc)):St:=⟨[(0,.sl (a0.map Hold.enc)),(3,.own 0 0 g1.2.length),(4,.int .i64 g1.1)],[(0,⟨false,3,(Proc.enc Proc.zero),g1.2.map Proc.enc⟩)],1⟩
noncomputable def zo8 (a0:List Hold):Option ((List Proc)) :=
 (zc1 (zI6 a0) (0,[])).bind (fun z=>zS6 z)
theorem zaH8 (a0:List Hold) (r:(List Proc)) (h:zo8 a0=some r):MFn C 114 [.sl (a0.map Hold.enc)] [] 0 (.own 0 0 r.length) [(0,⟨false,3,(Proc.enc Proc.zero),r.map Proc.enc⟩)] 1:=by
 refine zn3 (rl:=[.own 0 0 r.length]) zeB7 rfl rfl rfl rfl fun E hG hN hK=>?_
 unfold zdp7
 unfold zo8 at h
 refine za0 (za1 hG ?_)
 refine za0 (za1 hG ?_)
 refine za0 (za0 (za1 hG ?_))
 refine zb5 (zek8) (fun v=>zS6 v=some r) ?_ ?_
 · intro j1 h
   unfold zS6 at h
   refine g_st ?_
   refine za0 (za1 hG ?_)
   refine za7 ?_
   exact zA5 [(0,0)] h
 refine zd8 (zek9 a0) hK [(0,1)] h (fun x_l1 h g1 y_l1 h_l1 hx_l1=>?_)
 unfold zI6 at h_l1
 refine g_st ?_
 refine za0 (za0 (za1 hG ?_))
 refine za4 rfl hG h_l1 (fun _ h_l1=>?_) (fun _ h_l1=>?_)
 · refine za5 ?_
   refine za0 (zb6 ?_)
   obtain ⟨hb1,h_l1⟩:=za2 h_l1
   obtain ⟨hb2,h_l1⟩:=za2 h_l1
   refine za1 hG ?_
   refine za1 hG ?_
   exact zc7 hK [(0,1)] h_l1
 refine zc3 ?_
 obtain rfl:=Option.some.inj h_l1
 have hx:=hx_l1 _ rfl
 subst hx
 try dsimp only at h
 exact zc5 hK [(0,0)] g1.2 (by exact h)
attribute [local irreducible] zo8
noncomputable def zP6  (j2:(List Proc)):Option ((List Proc)) :=
 some j2
@[go_sem] def zel0  (j2:(List Proc)):St:=⟨[(3,.own 0 0 j2.length)],[(0,⟨false,3,(Proc.enc Proc.zero),j2.map Proc.enc⟩)],1⟩
noncomputable def zP7 (a0:Queue) (g1:Int×(List Proc)):Option ((Int×(List Proc))⊕(((List Proc)))) :=
 (if (decide (g1.1 < (a0.waits.length:Int)))=true then
  gd (0≤g1.1∧g1.1 < (a0.waits.length:Int)) <|
  gd (g1.2.length+1≤4294967296) <|
  some (.inl ((IntKind.i64.wrap (g1.1+1)),(g1.2++[(a0.waits.getD g1.1.toNat Wait.zero).proc])))
 else
  some (.inr g1.2))
@[go_sem] def zel1 (a0:Queue) (g1:Int×(List Proc)):St:=⟨[(1,.ptr 0 0 0),(3,.own 1 0 g1.2.length),(5,.int .i64 g1.1)],[(0,⟨false,8,(Queue.enc Queue.zero),[Queue.enc a0]⟩),(1,⟨false,3,(Proc.enc Proc.zero),g1.2.map Proc.enc⟩)],2⟩
noncomputable def zP8 (a0:Queue) (j1:(List Proc)):Option ((List Proc)) :=
 (zc1 (zP7 a0) (0,j1)).bind (fun z=>zP6 z)
@[go_sem] def zel2 (a0:Queue) (j1:(List Proc)):St:=⟨[(1,.ptr 0 0 0),(3,.own 1 0 j1.length)],[(0,⟨false,8,(Queue.enc Queue.zero),[Queue.enc a0]⟩),(1,⟨false,3,(Proc.enc Proc.zero),j1.map Proc.enc⟩)],2⟩
noncomputable def zP9 (a0:Queue) (g2:Int×(List Proc)):Option ((Int×(List Proc))⊕(((List Proc)))) :=
 (if (decide (g2.1 < (a0.converts.length:Int)))=true then
  gd (0≤g2.1∧g2.1 < (a0.converts.length:Int)) <|
  gd (g2.2.length+1≤4294967296) <|
  some (.inl ((IntKind.i64.wrap (g2.1+1)),(g2.2++[(a0.converts.getD g2.1.toNat Wait.zero).proc])))
 else
  some (.inr g2.2))
@[go_sem] def zel3 (a0:Queue) (g2:Int×(List Proc)):St:=⟨[(1,.ptr 0 0 0),(3,.own 1 0 g2.2.length),(4,.int .i64 g2.1)],[(0,⟨false,8,(Queue.enc Queue.zero),[Queue.enc a0]⟩),(1,⟨false,3,(Proc.enc Proc.zero),g2.2.map Proc.enc⟩)],2⟩
noncomputable def zt4 (a0:Queue):Option ((List Proc)) :=
 (zc1 (zP9 a0) (0,[])).bind (fun z=>zP8 a0 z)
theorem zbb5 (a0:Queue) (r:(List Proc)) (h:zt4 a0=some r):PFn C 115 [.agg (Queue.enc a0)] (.sl (r.map Proc.enc)):=by
 refine za8 zeB8 rfl fun E hG hN hK=>?_
 unfold zdq8
 unfold zt4 at h
 refine za0 (za1 hG ?_)
 refine za0 (za1 hG ?_)
 refine za0 (za0 (za1 hG ?_))
 refine zb5 (zel2 a0) (fun v=>zP8 a0 v=some r) ?_ ?_
 · intro j1 h
   unfold zP8 at h
   refine g_st ?_
   refine za0 (za0 (za1 hG ?_))
   refine zb5 (zel0) (fun v=>zP6 v=some r) ?_ ?_
   · intro j2 h
     unfold zP6 at h
     refine g_st ?_
     refine za0 (za1 hG ?_)
     refine za7 ?_
     exact zb0 h
   refine zd8 (zel1 a0) hK [(0,0),(1,1)] h (fun x_l1 h g1 y_l1 h_l1 hx_l1=>?_)
   unfold zP7 at h_l1
   refine g_st ?_
   refine za0 (za0 (za1 hG ?_))
   refine za4 rfl hG h_l1 (fun _ h_l1=>?_) (fun _ h_l1=>?_)
   · refine za5 ?_
     refine za0 (zb6 ?_)
     obtain ⟨hb1,h_l1⟩:=za2 h_l1
     obtain ⟨hb2,h_l1⟩:=za2 h_l1
     refine za1 hG ?_
     refine za1 hG ?_
     exact zc7 hK [(0,0),(1,2)] h_l1
   refine zc3 ?_
   obtain rfl:=Option.some.inj h_l1
   have hx:=hx_l1 _ rfl
   subst hx
   try dsimp only at h
   exact zc5 hK [(0,1)] g1.2 (by exact h)
 refine zd8 (zel3 a0) hK [(0,0),(1,1)] h (fun x_l2 h g2 y_l2 h_l2 hx_l2=>?_)
 unfold zP9 at h_l2
 refine g_st ?_
 refine za0 (za0 (za1 hG ?_))
 refine za4 rfl hG h_l2 (fun _ h_l2=>?_) (fun _ h_l2=>?_)
 · refine za5 ?_
   refine za0 (zb6 ?_)
   obtain ⟨hb3,h_l2⟩:=za2 h_l2
   obtain ⟨hb4,h_l2⟩:=za2 h_l2
   refine za1 hG ?_
   refine za1 hG ?_
   exact zc7 hK [(0,0),(1,2)] h_l2
 refine zc3 ?_
 obtain rfl:=Option.some.inj h_l2
 have hx:=hx_l2 _ rfl
 subst hx
 try dsimp only at h
 exact zc5 hK [(0,0),(1,1)] g2.2 (by exact h)
attribute [local irreducible] zt4
noncomputable def zI7  (j1:Unit):Option (Bool) :=
 some false
@[go_sem] def zel4  (j1:Unit):St:=⟨[],[],0⟩
noncomputable def zC6 (a0:List Proc) (a1:Proc) (g1:Int):Option ((Int)⊕((Unit)⊕(Bool))) :=
 (if (decide (g1 < (a0.length:Int)))=true then
  gd (0≤g1∧g1 < (a0.length:Int)) <|
  (if (decide ((a0.getD g1.toNat Proc.zero)=a1))=true then
   some (.inr (.inr true))
  else
   some (.inl (IntKind.i64.wrap (g1+1))))
 else
  some (.inr (.inl ())))
@[go_sem] def zel5 (a0:List Proc) (a1:Proc) (g1:Int):St:=⟨[(0,.sl (a0.map Proc.enc)),(3,.ptr 0 0 0),(5,.int .i64 g1)],[(0,⟨false,3,(Proc.enc Proc.zero),[Proc.enc a1]⟩)],1⟩
noncomputable def zl6 (a0:List Proc) (a1:Proc):Option (Bool) :=
 (zc1 (zC6 a0 a1) 0).bind (fun | .inl z=>zI7 z | .inr z=>some z)
theorem zao1 (a0:List Proc) (a1:Proc) (r:Bool) (h:zl6 a0 a1=some r):PFn C 59 [.sl (a0.map Proc.enc),.agg (Proc.enc a1)] (.bool r):=by
 refine za8 zeB9 rfl fun E hG hN hK=>?_
 unfold zdr6
 unfold zl6 at h
 refine za0 (za1 hG ?_)
 refine za0 (za0 (za1 hG ?_))
 refine zb5 (zel4) (fun v=>zI7 v=some r) ?_ ?_
 · intro j1 h
   unfold zI7 at h
   refine g_st ?_
   refine za0 (za1 hG ?_)
   refine za7 ?_
   exact zb0 h
 refine zd8 (zel5 a0 a1) hK [(0,0)] h (fun x_l1 h g1 y_l1 h_l1 hx_l1=>?_)
 unfold zC6 at h_l1
 refine g_st ?_
 refine za0 (za0 (za1 hG ?_))
 refine za4 rfl hG h_l1 (fun _ h_l1=>?_) (fun _ h_l1=>?_)
 · refine za5 ?_
   refine za0 (zb6 (za0 ?_))
   obtain ⟨hb1,h_l1⟩:=za2 h_l1
   refine zp1 zd9 hG ?_
   refine za4 rfl hG h_l1 (fun _ h_l1=>?_) (fun _ h_l1=>?_)
   · refine za0 (za1 hG ?_)
     refine za7 ?_
     obtain rfl:=Option.some.inj h_l1
     have hx:=hx_l1 _ rfl
     subst hx
     try dsimp only at h
     exact zb0 h
   refine za5 ?_
   refine za1 hG ?_
   exact zc7 hK [(0,0)] h_l1
 refine zc3 ?_
 obtain rfl:=Option.some.inj h_l1
 have hx:=hx_l1 _ rfl
 subst hx
 try dsimp only at h
 exact zc5 hK [] () (by exact h)
attribute [local irreducible] zl6
noncomputable def zN4  (j1:(List Proc)):Option ((List Proc)) :=
 some j1
@[go_sem] def zel6  (j1:(List Proc)):St:=⟨[(3,.own 0 0 j1.length)],[(0,⟨false,3,(Proc.enc Proc.zero),j1.map Proc.enc⟩)],1⟩
noncomputable def zE2 (g1:Int×(List Proc)) (j2:(List Proc)):Option ((Int×(List Proc))⊕(((List Proc)))) :=
 some (.inl ((IntKind.i64.wrap (g1.1+1)),j2))
@[go_sem] def zel7 (a0:List Proc) (g1:Int×(List Proc)) (j2:(List Proc)):St:=⟨[(0,.sl (a0.map Proc.enc)),(3,.own 0 0 j2.length),(4,.int .i64 g1.1)],[(0,⟨false,3,(Proc.enc Proc.zero),j2.map Proc.enc⟩)],1⟩
noncomputable def zy3  (g2:Int×(List Proc)):Option ((Int×(List Proc))⊕(((List Proc)))) :=
 gd ((decide (0 < g2.1))=true→0≤(IntKind.i64.wrap (g2.1 - 1))∧(IntKind.i64.wrap (g2.1 - 1)) < ((g2.2.length:Nat):Int)) <|
 gd ((decide (0 < g2.1))=true→0≤g2.1∧g2.1 < ((g2.2.length:Nat):Int)) <|
 (if ((decide (0 < g2.1))&&(decide (0 < (zj3 (g2.2.getD ((IntKind.i64.wrap (g2.1 - 1)).toNat) Proc.zero) (g2.2.getD g2.1.toNat Proc.zero)))))=true then
  gd (0≤(IntKind.i64.wrap (g2.1 - 1))∧(IntKind.i64.wrap (g2.1 - 1)) < ((g2.2.length:Nat):Int)) <|
  gd (0≤g2.1∧g2.1 < ((g2.2.length:Nat):Int)) <|
  gd (0≤(IntKind.i64.wrap (g2.1 - 1))∧(IntKind.i64.wrap (g2.1 - 1)) < ((g2.2.length:Nat):Int)) <|
  gd (0≤g2.1∧g2.1 < ((g2.2.length:Nat):Int)) <|
  some (.inl ((IntKind.i64.wrap (g2.1 - 1)),((g2.2.set ((IntKind.i64.wrap (g2.1 - 1)).toNat) (g2.2.getD g2.1.toNat Proc.zero)).set g2.1.toNat (g2.2.getD ((IntKind.i64.wrap (g2.1 - 1)).toNat) Proc.zero))))
 else
  some (.inr g2.2))
@[go_sem] def zel8 (a0:List Proc) (g1:Int×(List Proc)) (g2:Int×(List Proc)):St:=⟨[(0,.sl (a0.map Proc.enc)),(3,.own 0 0 g2.2.length),(4,.int .i64 g1.1),(5,.int .i64 g2.1)],[(0,⟨false,3,(Proc.enc Proc.zero),g2.2.map Proc.enc⟩)],1⟩
noncomputable def zy4 (a0:List Proc) (g1:Int×(List Proc)):Option ((Int×(List Proc))⊕(((List Proc)))) :=
 (if (decide (g1.1 < (a0.length:Int)))=true then
  gd (0≤g1.1∧g1.1 < (a0.length:Int)) <|
  (zl6 g1.2 (a0.getD g1.1.toNat Proc.zero)).bind fun v1 =>
  (if v1=true then
   some (.inl ((IntKind.i64.wrap (g1.1+1)),g1.2))
  else
   gd (0≤g1.1∧g1.1 < (a0.length:Int)) <|
   gd (g1.2.length+1≤4294967296) <|
   (zc1 (zy3) (((g1.2.length:Nat):Int),(g1.2++[(a0.getD g1.1.toNat Proc.zero)]))).bind (fun z=>zE2 g1 z))
 else
  some (.inr g1.2))
@[go_sem] def zel9 (a0:List Proc) (g1:Int×(List Proc)):St:=⟨[(0,.sl (a0.map Proc.enc)),(3,.own 0 0 g1.2.length),(4,.int .i64 g1.1)],[(0,⟨false,3,(Proc.enc Proc.zero),g1.2.map Proc.enc⟩)],1⟩
noncomputable def zi6 (a0:List Proc):Option ((List Proc)) :=
 (zc1 (zy4 a0) (0,[])).bind (fun z=>zN4 z)
theorem zag4 (a0:List Proc) (r:(List Proc)) (h:zi6 a0=some r):PFn C 74 [.sl (a0.map Proc.enc)] (.sl (r.map Proc.enc)):=by
 refine za8 zeC0 rfl fun E hG hN hK=>?_
 unfold zds7
 unfold zi6 at h
 refine za0 (za1 hG ?_)
 refine za0 (za1 hG ?_)
 refine za0 (za0 (za1 hG ?_))
 refine zb5 (zel6) (fun v=>zN4 v=some r) ?_ ?_
 · intro j1 h
   unfold zN4 at h
   refine g_st ?_
   refine za0 (za1 hG ?_)
   refine za7 ?_
   exact zb0 h
 refine zd8 (zel9 a0) hK [(0,0)] h (fun x_l1 h g1 y_l1 h_l1 hx_l1=>?_)
 unfold zy4 at h_l1
 refine g_st ?_
 refine za0 (za0 (za1 hG ?_))
 refine za4 rfl hG h_l1 (fun _ h_l1=>?_) (fun _ h_l1=>?_)
 · refine za5 ?_
   refine za0 (zb6 (za0 (za0 ?_)))
   obtain ⟨hb9,h_l1⟩:=za2 h_l1
   refine za1 hG ?_
   obtain ⟨v1,hv1,h_l1⟩:=za3 h_l1
   refine za6 (fun hg=>zao1 g1.2 (a0.getD g1.1.toNat Proc.zero) _ (hv1)) ?_
   refine za4 rfl hG h_l1 (fun _ h_l1=>?_) (fun _ h_l1=>?_)
   · refine zc3 ?_
     refine za1 hG ?_
     exact zc7 hK [(0,0)] h_l1
   refine za5 ?_
   refine za0 (za1 hG ?_)
   refine za0 ?_
   obtain ⟨hb7,h_l1⟩:=za2 h_l1
   obtain ⟨hb8,h_l1⟩:=za2 h_l1
   refine za1 hG ?_
   refine zb5 (zel7 a0 g1) (fun v=>zE2 g1 v=some y_l1) ?_ ?_
   · intro j2 h_l1
     unfold zE2 at h_l1
     refine g_st ?_
     refine za1 hG ?_
     exact zc7 hK [(0,0)] h_l1
   refine zd8 (zel8 a0 g1) hK [(0,1)] h_l1 (fun x_l2 h_l1 g2 y_l2 h_l2 hx_l2=>?_)
   unfold zy3 at h_l2
   refine g_st ?_
   refine za0 (za0 ?_)
   obtain ⟨hb5,h_l2⟩:=za2 h_l2
   obtain ⟨hb6,h_l2⟩:=za2 h_l2
   refine zp1 zd9 hG ?_
   refine zh7 (fun hg=>zN2 (g2.2.getD ((IntKind.i64.wrap (g2.1 - 1)).toNat) Proc.zero) (g2.2.getD g2.1.toNat Proc.zero)) ?_
   refine za4 rfl hG h_l2 (fun _ h_l2=>?_) (fun _ h_l2=>?_)
   · refine za5 ?_
     refine zb6 (za0 ?_)
     obtain ⟨hb4,h_l2⟩:=za2 h_l2
     refine za1 hG ?_
     refine za0 ?_
     obtain ⟨hb2,h_l2⟩:=za2 h_l2
     obtain ⟨hb3,h_l2⟩:=za2 h_l2
     refine za1 hG ?_
     refine za0 ?_
     obtain ⟨hb1,h_l2⟩:=za2 h_l2
     refine za1 hG ?_
     refine za1 hG ?_
     exact zc7 hK [(0,0)] h_l2
   refine zc3 ?_
   obtain rfl:=Option.some.inj h_l2
   have hx:=hx_l2 _ rfl
   subst hx
   try dsimp only at h_l1
   exact zc5 hK [(0,0)] g2.2 (by exact h_l1)
 refine zc3 ?_
 obtain rfl:=Option.some.inj h_l1
 have hx:=hx_l1 _ rfl
 subst hx
 try dsimp only at h
 exact zc5 hK [(0,0)] g1.2 (by exact h)
attribute [local irreducible] zi6
noncomputable def zt5 (a0:Queue):Option ((List Proc)) :=
 (zo8 a0.holds).bind fun v1 =>
 (zt4 a0).bind fun v2 =>
 gd (v1.length+v2.length≤4294967296) <|
 (zi6 (v1++v2)).bind fun v3 =>
 some v3
theorem zbb6 (a0:Queue) (r:(List Proc)) (h:zt5 a0=some r):PFn C 73 [.agg (Queue.enc a0)] (.sl (r.map Proc.enc)):=by
 refine za8 zeC1 rfl fun E hG hN hK=>?_
 unfold zdt0
 unfold zt5 at h
 refine za0 (za1 hG ?_)
 refine za0 (zG1 zd9 hG ?_)
 obtain ⟨v1,hv1,h⟩:=za3 h
 refine zaf0 [] [(0,1)] [0] (zaH8 a0.holds _ hv1) rfl rfl ?_
 obtain ⟨v2,hv2,h⟩:=za3 h
 obtain ⟨hb1,h⟩:=za2 h
 refine zD9 (fun hg=>zbb5 a0 _ (hv2)) ?_
 obtain ⟨v3,hv3,h⟩:=za3 h
 refine zD9 (fun hg=>zag4 (v1++v2) _ (hv3)) ?_
 refine za7 ?_
 exact zb0 h
attribute [local irreducible] zt5
end Ab
end Go.Proofs.YtfjeceicgfdmjaaGreatDoor
