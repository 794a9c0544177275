/-
  Functions of the program,as Lean functions; what the program's code computes is what they say.
-/
import Derived.Test.YtfjeceicgfdmjaaGreatDoorCode
import Derived.Test.YtfjeceicgfdmjaaGreatDoorHand
import Derived.Test.YtfjeceicgfdmjaaGreatDoorSort
namespace Go.Proofs.YtfjeceicgfdmjaaGreatDoor
namespace Ab
set_option linter.unusedSimpArgs false
set_option linter.unusedVariables false
set_option maxRecDepth 100000
set_option maxHeartbeats 1000000
def zi2  (j1:Bool):Bool :=
 (if j1=true then
  true
 else
  false)
@[go_sem] def zeQ3  (j1:Bool):St:=⟨[(4,.bool j1)],[],0⟩
def zu8 (a0:ByteArray):Bool :=
 (if (a0.toList == (⟨#[97,108,108]⟩:ByteArray).toList)=true then
  zi2 (a0.toList == (⟨#[97,108,108]⟩:ByteArray).toList)
 else
  (if (a0.toList == (⟨#[97,110,121]⟩:ByteArray).toList)=true then
   zi2 (a0.toList == (⟨#[97,110,121]⟩:ByteArray).toList)
  else
   (if (a0.toList == (⟨#[111,102]⟩:ByteArray).toList)=true then
    zi2 (a0.toList == (⟨#[111,102]⟩:ByteArray).toList)
   else
    (if (a0.toList == (⟨#[112,114,105,111]⟩:ByteArray).toList)=true then
     zi2 (a0.toList == (⟨#[112,114,105,111]⟩:ByteArray).toList)
    else
     zi2 (a0.toList == (⟨#[108,105,109,105,116]⟩:ByteArray).toList)))))
theorem zay4 (a0:ByteArray):PFn C 156 [.str a0] (.bool (zu8 a0)):=by
 generalize h:zu8 a0=r
 refine za8 ck_0 rfl fun E hG hN hK=>?_
 unfold pc_0
 unfold zu8 at h
 refine za0 (za1 hG ?_)
 refine za0 (za0 (za1 hG ?_))
 refine zb6 (za0 (za0 (za1 hG ?_)))
 refine zaS8 (zeQ3) (fun v=>zi2 v=r) rfl hG h ?_ (fun _ h=>?_) (fun _ h=>?_)
 · intro j1 h
   unfold zi2 at h
   refine g_st ?_
   refine za4 rfl hG h (fun _ h=>?_) (fun _ h=>?_)
   · refine za0 (za1 hG ?_)
     refine za7 ?_
     exact ze9 h
   refine za5 ?_
   refine za0 (za1 hG ?_)
   refine za7 ?_
   exact ze9 h
 · refine za5 ?_
   exact zc4 hK [] (a0.toList == (⟨#[97,108,108]⟩:ByteArray).toList) (by exact h)
 refine za0 (za1 hG ?_)
 refine za4 rfl hG h (fun _ h=>?_) (fun _ h=>?_)
 · refine za5 ?_
   exact zc4 hK [] (a0.toList == (⟨#[97,110,121]⟩:ByteArray).toList) (by exact h)
 refine za0 (za1 hG ?_)
 refine za4 rfl hG h (fun _ h=>?_) (fun _ h=>?_)
 · refine za5 ?_
   exact zc4 hK [] (a0.toList == (⟨#[111,102]⟩:ByteArray).toList) (by exact h)
 refine za0 (za1 hG ?_)
 refine za4 rfl hG h (fun _ h=>?_) (fun _ h=>?_)
 · refine za5 ?_
   exact zc4 hK [] (a0.toList == (⟨#[112,114,105,111]⟩:ByteArray).toList) (by exact h)
 refine za1 hG ?_
 exact zc4 hK [] (a0.toList == (⟨#[108,105,109,105,116]⟩:ByteArray).toList) (by exact h)
noncomputable def zG7  (j1:Unit):Option (Bool) :=
 some true
@[go_sem] def zeQ4  (j1:Unit):St:=⟨[],[],0⟩
noncomputable def zn0 (a0:ByteArray) (g1:Int):Option ((Int)⊕((Unit)⊕(Bool))) :=
 (if (decide (g1 < (a0.size:Int)))=true then
  gd (0≤g1∧g1 < (a0.size:Int)) <|
  (if ((!((decide (97≤((a0.toList.getD g1.toNat 0).toNat:Int)))&&(decide (((a0.toList.getD g1.toNat 0).toNat:Int)≤122))))&&((decide (g1=0))||(!((((decide (48≤((a0.toList.getD g1.toNat 0).toNat:Int)))&&(decide (((a0.toList.getD g1.toNat 0).toNat:Int)≤57)))||(decide (((a0.toList.getD g1.toNat 0).toNat:Int)=95)))||(decide (((a0.toList.getD g1.toNat 0).toNat:Int)=45))))))=true then
   some (.inr (.inr false))
  else
   some (.inl (IntKind.i64.wrap (g1+1))))
 else
  some (.inr (.inl ())))
@[go_sem] def zeQ5 (a0:ByteArray) (g1:Int):St:=⟨[(0,.str a0),(20,.int .i64 (a0.size:Int)),(21,.int .i64 g1)],[],0⟩
noncomputable def zf5 (a0:ByteArray):Option (Bool) :=
 (if (((decide ((a0.size:Int) < 1))||(decide (12 < (a0.size:Int))))||(zu8 a0))=true then
  some false
 else
  (zb8 (zn0 a0) 0).bind (fun | .inl z=>zG7 z | .inr z=>some z))
theorem zas8 (a0:ByteArray) (r:Bool) (h:zf5 a0=some r):PFn C 125 [.str a0] (.bool r):=by
 refine za8 ck_1 rfl fun E hG hN hK=>?_
 unfold pc_1
 unfold zf5 at h
 refine za0 (za1 hG ?_)
 refine za0 (za0 (za1 hG ?_))
 refine za6 (fun hg=>zay4 a0) ?_
 refine za4 rfl hG h (fun _ h=>?_) (fun _ h=>?_)
 · refine za0 (za1 hG ?_)
   refine za7 ?_
   exact zb1 h
 refine za5 ?_
 refine za0 (za0 (za1 hG ?_))
 refine zb5 (zeQ4) (fun v=>zG7 v=some r) ?_ ?_
 · intro j1 h
   unfold zG7 at h
   refine g_st ?_
   refine za0 (za1 hG ?_)
   refine za7 ?_
   exact zb1 h
 refine zd9 (zeQ5 a0) hK [] h (fun x_l1 h g1 y_l1 h_l1 hx_l1=>?_)
 unfold zn0 at h_l1
 refine g_st ?_
 refine za0 (za1 hG ?_)
 refine za0 ?_
 refine za4 rfl hG h_l1 (fun _ h_l1=>?_) (fun _ h_l1=>?_)
 · refine za5 ?_
   refine za0 (zb6 (za0 (za1 hG ?_)))
   refine za0 ?_
   obtain ⟨hb1,h_l1⟩:=za2 h_l1
   refine za1 hG ?_
   refine za0 (za1 hG ?_)
   refine za0 (za1 hG ?_)
   refine za0 (za1 hG ?_)
   refine za4 rfl hG h_l1 (fun _ h_l1=>?_) (fun _ h_l1=>?_)
   · refine za0 (za1 hG ?_)
     refine za7 ?_
     obtain rfl:=Option.some.inj h_l1
     have hx:=hx_l1 _ rfl
     subst hx
     try dsimp only at h
     exact zb1 h
   refine za5 ?_
   refine za1 hG ?_
   exact zc8 hK [] h_l1
 refine zc3 ?_
 obtain rfl:=Option.some.inj h_l1
 have hx:=hx_l1 _ rfl
 subst hx
 try dsimp only at h
 exact zc4 hK [] () (by exact h)
attribute [local irreducible] zf5
def zb4 (a0:Resource):Bool :=
 (if (decide (a0.kind=1))=true then
  (decide (a0.units=1))
 else
  (if (decide (a0.kind=2))=true then
   ((decide (1≤a0.units))&&(decide (a0.units≤8)))
  else
   false))
theorem zF2 (a0:Resource):PFn C 126 [.agg (Resource.enc a0)] (.bool (zb4 a0)):=by
 generalize h:zb4 a0=r
 refine za8 ck_2 rfl fun E hG hN hK=>?_
 unfold pc_2
 unfold zb4 at h
 refine za0 (za1 hG ?_)
 refine za0 (za0 (za1 hG ?_))
 refine zb6 (za0 (za1 hG ?_))
 refine za4 rfl hG h (fun _ h=>?_) (fun _ h=>?_)
 · refine za0 (za1 hG ?_)
   refine za7 ?_
   exact ze9 h
 refine za0 (za1 hG ?_)
 refine za4 rfl hG h (fun _ h=>?_) (fun _ h=>?_)
 · refine za0 (za1 hG ?_)
   refine za7 ?_
   exact ze9 h
 refine za5 ?_
 refine za0 (za1 hG ?_)
 refine za7 ?_
 exact ze9 h
noncomputable def zd4 (a0:Resource):Option (Bool) :=
 (zf5 a0.name).bind fun v1 =>
 some (((v1&&(zb4 a0))&&(decide (0≤a0.home)))&&(decide (a0.home < 4)))
theorem zE4 (a0:Resource) (r:Bool) (h:zd4 a0=some r):PFn C 82 [.agg (Resource.enc a0)] (.bool r):=by
 refine za8 ck_3 rfl fun E hG hN hK=>?_
 unfold pc_3
 unfold zd4 at h
 refine za0 (za1 hG ?_)
 refine za0 (za1 hG ?_)
 obtain ⟨v1,hv1,h⟩:=za3 h
 refine za6 (fun hg=>zas8 a0.name _ (hv1)) ?_
 refine za6 (fun hg=>zF2 a0) ?_
 refine za7 ?_
 exact zb1 h
attribute [local irreducible] zd4
noncomputable def zQ9  (j1:Unit):Option (Bool) :=
 some true
@[go_sem] def zeQ6  (j1:Unit):St:=⟨[],[],0⟩
noncomputable def zG8 (a0:List Resource) (g1:Int):Option ((Int)⊕((Unit)⊕(Bool))) :=
 (if (decide (g1 < (a0.length:Int)))=true then
  gd (0≤g1∧g1 < (a0.length:Int)) <|
  (zd4 (a0.getD g1.toNat Resource.zero)).bind fun v1 =>
  gd ((v1&&(decide (0 < g1)))=true→0≤(IntKind.i64.wrap (g1 - 1))∧(IntKind.i64.wrap (g1 - 1)) < (a0.length:Int)) <|
  (if ((!v1)||((decide (0 < g1))&&(!Op.bytesLess ((a0.getD ((IntKind.i64.wrap (g1 - 1)).toNat) Resource.zero).name).toList ((a0.getD g1.toNat Resource.zero).name).toList)))=true then
   some (.inr (.inr false))
  else
   some (.inl (IntKind.i64.wrap (g1+1))))
 else
  some (.inr (.inl ())))
@[go_sem] def zeQ7 (a0:List Resource) (g1:Int):St:=⟨[(0,.sl (a0.map Resource.enc)),(8,.sl (a0.map Resource.enc)),(9,.int .i64 (a0.length:Int)),(10,.int .i64 g1)],[],0⟩
noncomputable def zj8 (a0:List Resource):Option (Bool) :=
 (if (decide (8 < (a0.length:Int)))=true then
  some false
 else
  (zb8 (zG8 a0) 0).bind (fun | .inl z=>zQ9 z | .inr z=>some z))
theorem zaJ5 (a0:List Resource) (r:Bool) (h:zj8 a0=some r):PFn C 48 [.sl (a0.map Resource.enc)] (.bool r):=by
 refine za8 ck_4 rfl fun E hG hN hK=>?_
 unfold pc_4
 unfold zj8 at h
 refine za0 (za1 hG ?_)
 refine za0 (za0 (za1 hG ?_))
 refine za4 rfl hG h (fun _ h=>?_) (fun _ h=>?_)
 · refine za0 (za1 hG ?_)
   refine za7 ?_
   exact zb1 h
 refine za5 ?_
 refine za0 (za0 (za1 hG ?_))
 refine zb5 (zeQ6) (fun v=>zQ9 v=some r) ?_ ?_
 · intro j1 h
   unfold zQ9 at h
   refine g_st ?_
   refine za0 (za1 hG ?_)
   refine za7 ?_
   exact zb1 h
 refine zd9 (zeQ7 a0) hK [] h (fun x_l1 h g1 y_l1 h_l1 hx_l1=>?_)
 unfold zG8 at h_l1
 refine g_st ?_
 refine za0 (za1 hG ?_)
 refine za0 ?_
 refine za4 rfl hG h_l1 (fun _ h_l1=>?_) (fun _ h_l1=>?_)
 · refine za5 ?_
   refine za0 (zb6 (za0 ?_))
   obtain ⟨hb2,h_l1⟩:=za2 h_l1
   refine za1 hG ?_
   refine za0 (zm9 zd8 hG ?_)
   obtain ⟨v1,hv1,h_l1⟩:=za3 h_l1
   obtain ⟨hb1,h_l1⟩:=za2 h_l1
   refine zf8 (fun hg=>zE4 (a0.getD g1.toNat Resource.zero) _ (hv1)) ?_
   refine za4 rfl hG h_l1 (fun _ h_l1=>?_) (fun _ h_l1=>?_)
   · refine za0 (za1 hG ?_)
     refine za7 ?_
     obtain rfl:=Option.some.inj h_l1
     have hx:=hx_l1 _ rfl
     subst hx
     try dsimp only at h
     exact zb1 h
   refine za5 ?_
   refine za1 hG ?_
   exact zc8 hK [] h_l1
 refine zc3 ?_
 obtain rfl:=Option.some.inj h_l1
 have hx:=hx_l1 _ rfl
 subst hx
 try dsimp only at h
 exact zc4 hK [] () (by exact h)
attribute [local irreducible] zj8
noncomputable def zw0 (a0:Resource):Option (Queue×Int) :=
 (zd4 a0).bind fun v1 =>
 (if (!v1)=true then
  some ({ Queue.zero with  },1)
 else
  some ({ Queue.zero with resource:=a0 },0))
theorem zbm8 (a0:Resource) (r:Queue×Int) (h:zw0 a0=some r):PFn C 49 [.agg (Resource.enc a0)] (.tup [.agg (Queue.enc r.1),.int .i64 r.2]):=by
 refine za8 ck_5 rfl fun E hG hN hK=>?_
 unfold pc_5
 unfold zw0 at h
 refine za0 (za1 hG ?_)
 refine za0 (za0 (za1 hG ?_))
 obtain ⟨v1,hv1,h⟩:=za3 h
 refine za6 (fun hg=>zE4 a0 _ (hv1)) ?_
 refine za4 rfl hG h (fun _ h=>?_) (fun _ h=>?_)
 · refine za0 (za1 hG ?_)
   refine za7 ?_
   exact zb1 h
 refine za5 ?_
 refine za0 (za1 hG ?_)
 refine za7 ?_
 exact zb1 h
attribute [local irreducible] zw0
noncomputable def zac7  (j1:(List Queue)):Option ((List Queue)×Int) :=
 some (j1,0)
@[go_sem] def zeQ8  (j1:(List Queue)):St:=⟨[(4,.own 0 0 j1.length)],[(0,⟨false,8,(Queue.enc Queue.zero),j1.map Queue.enc⟩)],1⟩
noncomputable def zL0 (a0:List Resource) (g1:Int×(List Queue)):Option ((Int×(List Queue))⊕(((List Queue))⊕((List Queue)×Int))) :=
 (if (decide (g1.1 < (a0.length:Int)))=true then
  gd (0≤g1.1∧g1.1 < (a0.length:Int)) <|
  (zw0 (a0.getD g1.1.toNat Resource.zero)).bind fun v2 =>
  (if (!decide (v2.2=0))=true then
   some (.inr (.inr ([],v2.2)))
  else
   gd (g1.2.length+1≤4294967296) <|
   some (.inl ((IntKind.i64.wrap (g1.1+1)),(g1.2++[v2.1]))))
 else
  some (.inr (.inl g1.2)))
@[go_sem] def zeQ9 (a0:List Resource) (g1:Int×(List Queue)):St:=⟨[(4,.own 0 0 g1.2.length),(12,.sl (a0.map Resource.enc)),(13,.int .i64 (a0.length:Int)),(14,.int .i64 g1.1)],[(0,⟨false,8,(Queue.enc Queue.zero),g1.2.map Queue.enc⟩)],1⟩
noncomputable def zw1 (a0:List Resource):Option ((List Queue)×Int) :=
 (zj8 a0).bind fun v1 =>
 (if (!v1)=true then
  some ([],1)
 else
  (zb8 (zL0 a0) (0,[])).bind (fun | .inl z=>zac7 z | .inr z=>some z))
theorem zbm9 (a0:List Resource) (r:(List Queue)×Int) (h:zw1 a0=some r):PFn C 12 [.sl (a0.map Resource.enc)] (.tup [.sl (r.1.map Queue.enc),.int .i64 r.2]):=by
 refine za8 ck_6 rfl fun E hG hN hK=>?_
 unfold pc_6
 unfold zw1 at h
 refine za0 (za1 hG ?_)
 refine za0 (za0 (za1 hG ?_))
 obtain ⟨v1,hv1,h⟩:=za3 h
 refine za6 (fun hg=>zaJ5 a0 _ (hv1)) ?_
 refine za4 rfl hG h (fun _ h=>?_) (fun _ h=>?_)
 · refine za0 (za1 hG ?_)
   refine za7 ?_
   exact zb1 h
 refine za5 ?_
 refine za0 (za1 hG ?_)
 refine za0 (za0 (za1 hG ?_))
 refine zb5 (zeQ8) (fun v=>zac7 v=some r) ?_ ?_
 · intro j1 h
   unfold zac7 at h
   refine g_st ?_
   refine za0 (za1 hG ?_)
   refine za7 ?_
   exact zb1 h
 refine zd9 (zeQ9 a0) hK [(0,0)] h (fun x_l1 h g1 y_l1 h_l1 hx_l1=>?_)
 unfold zL0 at h_l1
 refine g_st ?_
 refine za0 (za1 hG ?_)
 refine za0 ?_
 refine za4 rfl hG h_l1 (fun _ h_l1=>?_) (fun _ h_l1=>?_)
 · refine za5 ?_
   refine za0 (zb6 (za0 ?_))
   obtain ⟨hb2,h_l1⟩:=za2 h_l1
   refine za1 hG ?_
   refine za0 (za1 hG ?_)
   obtain ⟨v2,hv2,h_l1⟩:=za3 h_l1
   refine za6 (fun hg=>zbm8 (a0.getD g1.1.toNat Resource.zero) _ (hv2)) ?_
   refine za0 (za0 (za1 hG ?_))
   refine za4 rfl hG h_l1 (fun _ h_l1=>?_) (fun _ h_l1=>?_)
   · refine za0 (za1 hG ?_)
     refine za7 ?_
     obtain rfl:=Option.some.inj h_l1
     have hx:=hx_l1 _ rfl
     subst hx
     try dsimp only at h
     exact zb1 h
   refine za5 ?_
   obtain ⟨hb1,h_l1⟩:=za2 h_l1
   refine za1 hG ?_
   refine za1 hG ?_
   exact zc8 hK [(0,3)] h_l1
 refine zc3 ?_
 obtain rfl:=Option.some.inj h_l1
 have hx:=hx_l1 _ rfl
 subst hx
 try dsimp only at h
 exact zc4 hK [(0,0)] g1.2 (by exact h)
attribute [local irreducible] zw1
def zs7 (a0:Int):Bool :=
 ((decide (97≤a0))&&(decide (a0≤122)))
theorem zaq2 (a0:Int):PFn C 157 [.int .u8 a0] (.bool (zs7 a0)):=by
 generalize h:zs7 a0=r
 refine za8 ck_7 rfl fun E hG hN hK=>?_
 unfold pc_7
 unfold zs7 at h
 refine za0 (za1 hG ?_)
 refine za0 (za1 hG ?_)
 refine za7 ?_
 exact ze9 h
def zn1 (a0:ByteArray):Bool :=
 (((((a0.toList == (⟨#[97,108,108]⟩:ByteArray).toList)||(a0.toList == (⟨#[97,110,121]⟩:ByteArray).toList))||(a0.toList == (⟨#[111,102]⟩:ByteArray).toList))||(a0.toList == (⟨#[112,114,105,111]⟩:ByteArray).toList))||(a0.toList == (⟨#[108,105,109,105,116]⟩:ByteArray).toList))
theorem zaF3 (a0:ByteArray):PFn C 158 [.str a0] (.bool (zn1 a0)):=by
 generalize h:zn1 a0=r
 refine za8 ck_8 rfl fun E hG hN hK=>?_
 unfold pc_8
 unfold zn1 at h
 refine za0 (za1 hG ?_)
 refine za0 (za1 hG ?_)
 refine za7 ?_
 exact ze9 h
def zk9 (a0:Int):Bool :=
 ((((zs7 a0)||((decide (48≤a0))&&(decide (a0≤57))))||(decide (a0=95)))||(decide (a0=45)))
theorem zbe3 (a0:Int):PFn C 159 [.int .u8 a0] (.bool (zk9 a0)):=by
 generalize h:zk9 a0=r
 refine za8 ck_9 rfl fun E hG hN hK=>?_
 unfold pc_9
 unfold zk9 at h
 refine za0 (za1 hG ?_)
 refine za0 (za1 hG ?_)
 refine za6 (fun hg=>zaq2 a0) ?_
 refine za7 ?_
 exact ze9 h
noncomputable def zL1  (j1:Unit):Option (Bool) :=
 some true
@[go_sem] def zeR0  (j1:Unit):St:=⟨[],[],0⟩
noncomputable def zq5 (a0:ByteArray) (g1:Int):Option ((Int)⊕((Unit)⊕(Bool))) :=
 (if (decide (g1 < (a0.size:Int)))=true then
  gd (0≤g1∧g1 < (a0.size:Int)) <|
  (if (!(zk9 ((a0.toList.getD g1.toNat 0).toNat:Int)))=true then
   some (.inr (.inr false))
  else
   some (.inl (IntKind.i64.wrap (g1+1))))
 else
  some (.inr (.inl ())))
@[go_sem] def zeR1 (a0:ByteArray) (g1:Int):St:=⟨[(0,.str a0),(3,.int .i64 g1)],[],0⟩
noncomputable def zh4 (a0:ByteArray):Option (Bool) :=
 gd ((!((decide ((a0.size:Int) < 1))||(decide (12 < (a0.size:Int)))))=true→0≤0∧0 < (a0.size:Int)) <|
 (if ((((decide ((a0.size:Int) < 1))||(decide (12 < (a0.size:Int))))||(!(zs7 ((a0.toList.getD 0 0).toNat:Int))))||(zn1 a0))=true then
  some false
 else
  (zb8 (zq5 a0) 0).bind (fun | .inl z=>zL1 z | .inr z=>some z))
theorem zaC3 (a0:ByteArray) (r:Bool) (h:zh4 a0=some r):PFn C 127 [.str a0] (.bool r):=by
 refine za8 ck_a rfl fun E hG hN hK=>?_
 unfold pc_a
 unfold zh4 at h
 refine za0 (za1 hG ?_)
 refine za0 (za0 ?_)
 obtain ⟨hb2,h⟩:=za2 h
 refine za1 hG ?_
 refine za6 (fun hg=>zaq2 ((a0.toList.getD 0 0).toNat:Int)) ?_
 refine za6 (fun hg=>zaF3 a0) ?_
 refine za4 rfl hG h (fun _ h=>?_) (fun _ h=>?_)
 · refine za0 (za1 hG ?_)
   refine za7 ?_
   exact zb1 h
 refine za5 ?_
 refine za0 (za0 (za1 hG ?_))
 refine zb5 (zeR0) (fun v=>zL1 v=some r) ?_ ?_
 · intro j1 h
   unfold zL1 at h
   refine g_st ?_
   refine za0 (za1 hG ?_)
   refine za7 ?_
   exact zb1 h
 refine zd9 (zeR1 a0) hK [] h (fun x_l1 h g1 y_l1 h_l1 hx_l1=>?_)
 unfold zq5 at h_l1
 refine g_st ?_
 refine za0 (za0 (za1 hG ?_))
 refine za4 rfl hG h_l1 (fun _ h_l1=>?_) (fun _ h_l1=>?_)
 · refine za5 ?_
   refine za0 (zb6 (za0 ?_))
   obtain ⟨hb1,h_l1⟩:=za2 h_l1
   refine za1 hG ?_
   refine za6 (fun hg=>zbe3 ((a0.toList.getD g1.toNat 0).toNat:Int)) ?_
   refine za4 rfl hG h_l1 (fun _ h_l1=>?_) (fun _ h_l1=>?_)
   · refine za0 (za1 hG ?_)
     refine za7 ?_
     obtain rfl:=Option.some.inj h_l1
     have hx:=hx_l1 _ rfl
     subst hx
     try dsimp only at h
     exact zb1 h
   refine za5 ?_
   refine za1 hG ?_
   exact zc8 hK [] h_l1
 refine zc3 ?_
 obtain rfl:=Option.some.inj h_l1
 have hx:=hx_l1 _ rfl
 subst hx
 try dsimp only at h
 exact zc4 hK [] () (by exact h)
attribute [local irreducible] zh4
def zo3 (a0:Resource):Bool :=
 (((decide (a0.kind=1))&&(decide (a0.units=1)))||(((decide (a0.kind=2))&&(decide (1≤a0.units)))&&(decide (a0.units≤8))))
theorem zI5 (a0:Resource):PFn C 128 [.agg (Resource.enc a0)] (.bool (zo3 a0)):=by
 generalize h:zo3 a0=r
 refine za8 ck_b rfl fun E hG hN hK=>?_
 unfold pc_b
 unfold zo3 at h
 refine za0 (za1 hG ?_)
 refine za0 (za1 hG ?_)
 refine za7 ?_
 exact ze9 h
noncomputable def ze3 (a0:Resource):Option (Bool) :=
 (zh4 a0.name).bind fun v1 =>
 some (((v1&&(zo3 a0))&&(decide (0≤a0.home)))&&(decide (a0.home < 4)))
theorem zS8 (a0:Resource) (r:Bool) (h:ze3 a0=some r):PFn C 83 [.agg (Resource.enc a0)] (.bool r):=by
 refine za8 ck_c rfl fun E hG hN hK=>?_
 unfold pc_c
 unfold ze3 at h
 refine za0 (za1 hG ?_)
 refine za0 (za1 hG ?_)
 obtain ⟨v1,hv1,h⟩:=za3 h
 refine za6 (fun hg=>zaC3 a0.name _ (hv1)) ?_
 refine za6 (fun hg=>zI5 a0) ?_
 refine za7 ?_
 exact zb1 h
attribute [local irreducible] ze3
noncomputable def zW1  (j1:Unit):Option (Bool) :=
 some true
@[go_sem] def zeR2  (j1:Unit):St:=⟨[],[],0⟩
noncomputable def zM9 (a0:List Resource) (g1:Int):Option ((Int)⊕((Unit)⊕(Bool))) :=
 (if (decide (g1 < (a0.length:Int)))=true then
  gd (0≤g1∧g1 < (a0.length:Int)) <|
  (ze3 (a0.getD g1.toNat Resource.zero)).bind fun v1 =>
  gd ((v1&&(decide (0 < g1)))=true→0≤(IntKind.i64.wrap (g1 - 1))∧(IntKind.i64.wrap (g1 - 1)) < (a0.length:Int)) <|
  gd ((v1&&(decide (0 < g1)))=true→0≤g1∧g1 < (a0.length:Int)) <|
  (if ((!v1)||((decide (0 < g1))&&(!Op.bytesLess ((a0.getD ((IntKind.i64.wrap (g1 - 1)).toNat) Resource.zero).name).toList ((a0.getD g1.toNat Resource.zero).name).toList)))=true then
   some (.inr (.inr false))
  else
   some (.inl (IntKind.i64.wrap (g1+1))))
 else
  some (.inr (.inl ())))
@[go_sem] def zeR3 (a0:List Resource) (g1:Int):St:=⟨[(0,.sl (a0.map Resource.enc)),(3,.int .i64 g1)],[],0⟩
noncomputable def zo4 (a0:List Resource):Option (Bool) :=
 (if (decide (8 < (a0.length:Int)))=true then
  some false
 else
  (zb8 (zM9 a0) 0).bind (fun | .inl z=>zW1 z | .inr z=>some z))
theorem zaX2 (a0:List Resource) (r:Bool) (h:zo4 a0=some r):PFn C 50 [.sl (a0.map Resource.enc)] (.bool r):=by
 refine za8 ck_d rfl fun E hG hN hK=>?_
 unfold pc_d
 unfold zo4 at h
 refine za0 (za1 hG ?_)
 refine za0 (za0 (za1 hG ?_))
 refine za4 rfl hG h (fun _ h=>?_) (fun _ h=>?_)
 · refine za0 (za1 hG ?_)
   refine za7 ?_
   exact zb1 h
 refine za5 ?_
 refine za0 (za0 (za1 hG ?_))
 refine zb5 (zeR2) (fun v=>zW1 v=some r) ?_ ?_
 · intro j1 h
   unfold zW1 at h
   refine g_st ?_
   refine za0 (za1 hG ?_)
   refine za7 ?_
   exact zb1 h
 refine zd9 (zeR3 a0) hK [] h (fun x_l1 h g1 y_l1 h_l1 hx_l1=>?_)
 unfold zM9 at h_l1
 refine g_st ?_
 refine za0 (za0 (za1 hG ?_))
 refine za4 rfl hG h_l1 (fun _ h_l1=>?_) (fun _ h_l1=>?_)
 · refine za5 ?_
   refine za0 (zb6 (za0 ?_))
   obtain ⟨hb1,h_l1⟩:=za2 h_l1
   refine zm9 zd8 hG ?_
   obtain ⟨v1,hv1,h_l1⟩:=za3 h_l1
   obtain ⟨hb2,h_l1⟩:=za2 h_l1
   obtain ⟨hb3,h_l1⟩:=za2 h_l1
   refine zf8 (fun hg=>zS8 (a0.getD g1.toNat Resource.zero) _ (hv1)) ?_
   refine za4 rfl hG h_l1 (fun _ h_l1=>?_) (fun _ h_l1=>?_)
   · refine za0 (za1 hG ?_)
     refine za7 ?_
     obtain rfl:=Option.some.inj h_l1
     have hx:=hx_l1 _ rfl
     subst hx
     try dsimp only at h
     exact zb1 h
   refine za5 ?_
   refine za1 hG ?_
   exact zc8 hK [] h_l1
 refine zc3 ?_
 obtain rfl:=Option.some.inj h_l1
 have hx:=hx_l1 _ rfl
 subst hx
 try dsimp only at h
 exact zc4 hK [] () (by exact h)
attribute [local irreducible] zo4
noncomputable def zac8  (j1:(List Queue)):Option ((List Queue)×Int) :=
 some (j1,0)
@[go_sem] def zeR4  (j1:(List Queue)):St:=⟨[(4,.own 0 0 j1.length)],[(0,⟨false,8,(Queue.enc Queue.zero),j1.map Queue.enc⟩)],1⟩
noncomputable def zS9 (a0:List Resource) (g1:Int×(List Queue)):Option ((Int×(List Queue))⊕(((List Queue)))) :=
 (if (decide (g1.1 < (a0.length:Int)))=true then
  gd (0≤g1.1∧g1.1 < (a0.length:Int)) <|
  gd (g1.2.length+1≤4294967296) <|
  some (.inl ((IntKind.i64.wrap (g1.1+1)),(g1.2++[{ Queue.zero with resource:=(a0.getD g1.1.toNat Resource.zero) }])))
 else
  some (.inr g1.2))
@[go_sem] def zeR5 (a0:List Resource) (g1:Int×(List Queue)):St:=⟨[(0,.sl (a0.map Resource.enc)),(4,.own 0 0 g1.2.length),(5,.int .i64 g1.1)],[(0,⟨false,8,(Queue.enc Queue.zero),g1.2.map Queue.enc⟩)],1⟩
noncomputable def zw2 (a0:List Resource):Option ((List Queue)×Int) :=
 (zo4 a0).bind fun v1 =>
 (if (!v1)=true then
  some ([],1)
 else
  (zb8 (zS9 a0) (0,[])).bind (fun z=>zac8 z))
theorem zbn0 (a0:List Resource) (r:(List Queue)×Int) (h:zw2 a0=some r):PFn C 13 [.sl (a0.map Resource.enc)] (.tup [.sl (r.1.map Queue.enc),.int .i64 r.2]):=by
 refine za8 ck_e rfl fun E hG hN hK=>?_
 unfold pc_e
 unfold zw2 at h
 refine za0 (za1 hG ?_)
 refine za0 (za0 (za1 hG ?_))
 obtain ⟨v1,hv1,h⟩:=za3 h
 refine za6 (fun hg=>zaX2 a0 _ (hv1)) ?_
 refine za4 rfl hG h (fun _ h=>?_) (fun _ h=>?_)
 · refine za0 (za1 hG ?_)
   refine za7 ?_
   exact zb1 h
 refine za5 ?_
 refine za0 (za1 hG ?_)
 refine za0 (za0 (za1 hG ?_))
 refine zb5 (zeR4) (fun v=>zac8 v=some r) ?_ ?_
 · intro j1 h
   unfold zac8 at h
   refine g_st ?_
   refine za0 (za1 hG ?_)
   refine za7 ?_
   exact zb1 h
 refine zd9 (zeR5 a0) hK [(0,0)] h (fun x_l1 h g1 y_l1 h_l1 hx_l1=>?_)
 unfold zS9 at h_l1
 refine g_st ?_
 refine za0 (za0 (za1 hG ?_))
 refine za4 rfl hG h_l1 (fun _ h_l1=>?_) (fun _ h_l1=>?_)
 · refine za5 ?_
   refine za0 (zb6 ?_)
   obtain ⟨hb1,h_l1⟩:=za2 h_l1
   obtain ⟨hb2,h_l1⟩:=za2 h_l1
   refine za1 hG ?_
   refine za1 hG ?_
   exact zc8 hK [(0,1)] h_l1
 refine zc3 ?_
 obtain rfl:=Option.some.inj h_l1
 have hx:=hx_l1 _ rfl
 subst hx
 try dsimp only at h
 exact zc4 hK [(0,0)] g1.2 (by exact h)
attribute [local irreducible] zw2
noncomputable def zs8 (a0:Int) (a1:Int):Option (Int) :=
 (if (decide (a1 < 1))=true then
  some 0
 else
  gd (a1≠0) <|
  (if (decide ((a0.tmod a1) < 0))=true then
   some (IntKind.i64.wrap ((a0.tmod a1)+a1))
  else
   some (a0.tmod a1)))
theorem zah5 (a0:Int) (a1:Int) (r:Int) (h:zs8 a0 a1=some r):PFn C 22 [.int .i64 a0,.int .i64 a1] (.int .i64 r):=by
 refine za8 ck_f rfl fun E hG hN hK=>?_
 unfold pc_f
 unfold zs8 at h
 refine za0 (za1 hG ?_)
 refine za0 (za0 (za1 hG ?_))
 refine za4 rfl hG h (fun _ h=>?_) (fun _ h=>?_)
 · refine za0 (za1 hG ?_)
   refine za7 ?_
   exact zb1 h
 refine za5 ?_
 refine za0 ?_
 obtain ⟨hb1,h⟩:=za2 h
 refine za1 hG ?_
 refine za0 (za0 (za1 hG ?_))
 refine za4 rfl hG h (fun _ h=>?_) (fun _ h=>?_)
 · refine za1 hG ?_
   refine za0 (za1 hG ?_)
   refine za7 ?_
   exact zb1 h
 refine za5 ?_
 refine za0 (za1 hG ?_)
 refine za7 ?_
 exact zb1 h
attribute [local irreducible] zs8
noncomputable def zq6 (a0:Int):Option (Proc) :=
 (zs8 a0 8).bind fun v1 =>
 some (⟨(v1.tmod 4),1,(IntKind.i64.wrap (1+(IntKind.i64.wrap (v1.tdiv 4))))⟩:Proc)
theorem zan9 (a0:Int) (r:Proc) (h:zq6 a0=some r):PFn C 23 [.int .i64 a0] (.agg (Proc.enc r)):=by
 refine za8 ck_g rfl fun E hG hN hK=>?_
 unfold pc_g
 unfold zq6 at h
 refine za0 (za1 hG ?_)
 refine za0 (za1 hG ?_)
 obtain ⟨v1,hv1,h⟩:=za3 h
 refine za6 (fun hg=>zah5 a0 8 _ (hv1)) ?_
 refine za0 (za1 hG ?_)
 refine za7 ?_
 exact zb1 h
attribute [local irreducible] zq6
def zp4 (a0:Int) (a1:Int) (a2:Int):Bool :=
 ((decide (a1≤a0))&&(decide (a0≤a2)))
theorem zW2 (a0:Int) (a1:Int) (a2:Int):PFn C 131 [.int .i64 a0,.int .i64 a1,.int .i64 a2] (.bool (zp4 a0 a1 a2)):=by
 generalize h:zp4 a0 a1 a2=r
 refine za8 ck_h rfl fun E hG hN hK=>?_
 unfold pc_h
 unfold zp4 at h
 refine za0 (za1 hG ?_)
 refine za0 (za1 hG ?_)
 refine za7 ?_
 exact ze9 h
def zb3 (a0:Proc):Bool :=
 (((zp4 a0.site 0 3)&&(zp4 a0.inc 1 99))&&(zp4 a0.num 1 999))
theorem zG9 (a0:Proc):PFn C 86 [.agg (Proc.enc a0)] (.bool (zb3 a0)):=by
 generalize h:zb3 a0=r
 refine za8 ck_i rfl fun E hG hN hK=>?_
 unfold pc_i
 unfold zb3 at h
 refine za0 (za1 hG ?_)
 refine za0 (za1 hG ?_)
 refine za6 (fun hg=>zW2 a0.site 0 3) ?_
 refine za6 (fun hg=>zW2 a0.inc 1 99) ?_
 refine za6 (fun hg=>zW2 a0.num 1 999) ?_
 refine za7 ?_
 exact ze9 h
def zf9 (a0:Int):Bool :=
 ((decide (1≤a0))&&(decide (a0≤5)))
theorem zP7 (a0:Int):PFn C 132 [.int .i64 a0] (.bool (zf9 a0)):=by
 generalize h:zf9 a0=r
 refine za8 ck_j rfl fun E hG hN hK=>?_
 unfold pc_j
 unfold zf9 at h
 refine za0 (za1 hG ?_)
 refine za0 (za1 hG ?_)
 refine za7 ?_
 exact ze9 h
def za9 (a0:Resource) (a1:Amount):Bool :=
 (if (!(zb4 a0))=true then
  false
 else
  (if (decide (a0.kind=1))=true then
   ((zf9 a1.mode)&&(decide (a1.units=0)))
  else
   (((decide (a1.mode=0))&&(decide (1≤a1.units)))&&(decide (a1.units≤a0.units)))))
theorem zw3 (a0:Resource) (a1:Amount):PFn C 87 [.agg (Resource.enc a0),.agg (Amount.enc a1)] (.bool (za9 a0 a1)):=by
 generalize h:za9 a0 a1=r
 refine za8 ck_k rfl fun E hG hN hK=>?_
 unfold pc_k
 unfold za9 at h
 refine za0 (za1 hG ?_)
 refine za0 (za0 (za1 hG ?_))
 refine za6 (fun hg=>zF2 a0) ?_
 refine za4 rfl hG h (fun _ h=>?_) (fun _ h=>?_)
 · refine za0 (za1 hG ?_)
   refine za7 ?_
   exact ze9 h
 refine za5 ?_
 refine za0 (za0 (za1 hG ?_))
 refine za4 rfl hG h (fun _ h=>?_) (fun _ h=>?_)
 · refine za0 (za1 hG ?_)
   refine za6 (fun hg=>zP7 a1.mode) ?_
   refine za7 ?_
   exact ze9 h
 refine za5 ?_
 refine za0 (za1 hG ?_)
 refine za7 ?_
 exact ze9 h
noncomputable def zB4  (j1:Unit):Option (Int) :=
 some 0
@[go_sem] def zeR6  (j1:Unit):St:=⟨[],[],0⟩
noncomputable def zd2 (a0:Arr Int 3) (a1:Arr Int 3) (g1:Int):Option ((Int)⊕((Unit)⊕(Int))) :=
 (if (decide (g1 < 3))=true then
  gd (0≤g1∧g1 < 3) <|
  gd (0≤g1∧g1 < 3) <|
  (if (decide ((Arr.get a0 g1.toNat 0) < (Arr.get a1 g1.toNat 0)))=true then
   some (.inr (.inr (-1)))
  else
   gd (0≤g1∧g1 < 3) <|
   (if (decide ((Arr.get a1 g1.toNat 0) < (Arr.get a0 g1.toNat 0)))=true then
    some (.inr (.inr 1))
   else
    some (.inl (IntKind.i64.wrap (g1+1)))))
 else
  some (.inr (.inl ())))
@[go_sem] def zeR7 (a0:Arr Int 3) (a1:Arr Int 3) (g1:Int):St:=⟨[(3,.ptr 0 0 0),(7,.agg (Arr.enc (eI .i64) a0)),(8,.int .i64 g1)],[(0,⟨false,3,(Arr.enc (eI .i64) (Arr.rep 3 0)),[Arr.enc (eI .i64) a1]⟩)],1⟩
noncomputable def zj9 (a0:Arr Int 3) (a1:Arr Int 3):Option (Int) :=
 (zb8 (zd2 a0 a1) 0).bind (fun | .inl z=>zB4 z | .inr z=>some z)
theorem zaJ6 (a0:Arr Int 3) (a1:Arr Int 3) (r:Int) (h:zj9 a0 a1=some r):PFn C 155 [.agg (Arr.enc (eI .i64) a0),.agg (Arr.enc (eI .i64) a1)] (.int .i64 r):=by
 refine za8 ck_l rfl fun E hG hN hK=>?_
 unfold pc_l
 unfold zj9 at h
 refine za0 (za1 hG ?_)
 refine za0 (za0 (za1 hG ?_))
 refine zb5 (zeR6) (fun v=>zB4 v=some r) ?_ ?_
 · intro j1 h
   unfold zB4 at h
   refine g_st ?_
   refine za0 (za1 hG ?_)
   refine za7 ?_
   exact zb1 h
 refine zd9 (zeR7 a0 a1) hK [(0,1)] h (fun x_l1 h g1 y_l1 h_l1 hx_l1=>?_)
 unfold zd2 at h_l1
 refine g_st ?_
 refine za0 (za1 hG ?_)
 refine za0 ?_
 refine za4 rfl hG h_l1 (fun _ h_l1=>?_) (fun _ h_l1=>?_)
 · refine za5 ?_
   refine za0 (zb6 (za0 ?_))
   obtain ⟨hb3,h_l1⟩:=za2 h_l1
   refine za1 hG ?_
   refine za0 (za0 ?_)
   obtain ⟨hb2,h_l1⟩:=za2 h_l1
   refine za1 hG ?_
   refine za4 rfl hG h_l1 (fun _ h_l1=>?_) (fun _ h_l1=>?_)
   · refine za0 (za1 hG ?_)
     refine za7 ?_
     obtain rfl:=Option.some.inj h_l1
     have hx:=hx_l1 _ rfl
     subst hx
     try dsimp only at h
     exact zb1 h
   refine za5 ?_
   refine za0 ?_
   obtain ⟨hb1,h_l1⟩:=za2 h_l1
   refine za1 hG ?_
   refine za4 rfl hG h_l1 (fun _ h_l1=>?_) (fun _ h_l1=>?_)
   · refine za0 (za1 hG ?_)
     refine za7 ?_
     obtain rfl:=Option.some.inj h_l1
     have hx:=hx_l1 _ rfl
     subst hx
     try dsimp only at h
     exact zb1 h
   refine za5 ?_
   refine za1 hG ?_
   exact zc8 hK [(0,0)] h_l1
 refine zc3 ?_
 obtain rfl:=Option.some.inj h_l1
 have hx:=hx_l1 _ rfl
 subst hx
 try dsimp only at h
 exact zc4 hK [] () (by exact h)
attribute [local irreducible] zj9
noncomputable def ze0 (a0:Proc) (a1:Proc):Option (Int) :=
 (zj9 (⟨[a0.site,a0.inc,a0.num],rfl⟩:Arr Int 3) (⟨[a1.site,a1.inc,a1.num],rfl⟩:Arr Int 3)).bind fun v1 =>
 some v1
theorem zL2 (a0:Proc) (a1:Proc) (r:Int) (h:ze0 a0 a1=some r):PFn C 119 [.agg (Proc.enc a0),.agg (Proc.enc a1)] (.int .i64 r):=by
 refine za8 ck_m rfl fun E hG hN hK=>?_
 unfold pc_m
 unfold ze0 at h
 refine za0 (za1 hG ?_)
 refine za0 (za1 hG ?_)
 obtain ⟨v1,hv1,h⟩:=za3 h
 refine za6 (fun hg=>zaJ6 (⟨[a0.site,a0.inc,a0.num],rfl⟩:Arr Int 3) (⟨[a1.site,a1.inc,a1.num],rfl⟩:Arr Int 3) _ (hv1)) ?_
 refine za7 ?_
 exact zb1 h
attribute [local irreducible] ze0
def zb7 (a0:Amount):Bool :=
 (decide (a0={ Amount.zero with  }))
theorem zo5 (a0:Amount):PFn C 90 [.agg (Amount.enc a0)] (.bool (zb7 a0)):=by
 generalize h:zb7 a0=r
 refine za8 ck_n rfl fun E hG hN hK=>?_
 unfold pc_n
 unfold zb7 at h
 refine za0 (za1 hG ?_)
 refine za0 (za1 hG ?_)
 refine za7 ?_
 exact ze9 h
def zb0 (a0:Resource) (a1:Amount):Bool :=
 ((zb4 a0)&&((zb7 a1)||(za9 a0 a1)))
theorem zy7 (a0:Resource) (a1:Amount):PFn C 133 [.agg (Resource.enc a0),.agg (Amount.enc a1)] (.bool (zb0 a0 a1)):=by
 generalize h:zb0 a0 a1=r
 refine za8 ck_o rfl fun E hG hN hK=>?_
 unfold pc_o
 unfold zb0 at h
 refine za0 (za1 hG ?_)
 refine za0 (za1 hG ?_)
 refine za6 (fun hg=>zF2 a0) ?_
 refine za6 (fun hg=>zo5 a1) ?_
 refine za6 (fun hg=>zw3 a0 a1) ?_
 refine za7 ?_
 exact ze9 h
noncomputable def zh5 (a0:Int) (a1:Int):Option (Bool) :=
 gd (((zf9 a0)&&(zf9 a1))=true→0≤(IntKind.i64.wrap (a0 - 1))∧(IntKind.i64.wrap (a0 - 1)) < 5) <|
 gd (((zf9 a0)&&(zf9 a1))=true→0≤(IntKind.i64.wrap (a1 - 1))∧(IntKind.i64.wrap (a1 - 1)) < 5) <|
 some (((zf9 a0)&&(zf9 a1))&&(Arr.get (Arr.get zbm6 ((IntKind.i64.wrap (a0 - 1)).toNat) (Arr.rep 5 false)) ((IntKind.i64.wrap (a1 - 1)).toNat) false))
theorem zaC4 (a0:Int) (a1:Int) (r:Bool) (h:zh5 a0 a1=some r):PFn C 193 [.int .i64 a0,.int .i64 a1] (.bool r):=by
 refine za8 ck_p rfl fun E hG hN hK=>?_
 unfold pc_p
 unfold zh5 at h
 refine za0 (za1 hG ?_)
 refine za0 (za1 hG ?_)
 refine za6 (fun hg=>zP7 a0) ?_
 obtain ⟨hb1,h⟩:=za2 h
 obtain ⟨hb2,h⟩:=za2 h
 refine za6 (fun hg=>zP7 a1) ?_
 refine za7 ?_
 exact zb1 h
attribute [local irreducible] zh5
noncomputable def zH0  (j1:Bool):Option (Bool) :=
 some j1
@[go_sem] def zeR8  (j1:Bool):St:=⟨[(5,.bool j1)],[],0⟩
noncomputable def zz6 (a1:List Amount) (g1:Int×Int×(Arr Bool 6)) (j2:Unit):Option ((Int×Int×(Arr Bool 6))⊕((Bool))) :=
 gd (0≤(a1.getD g1.2.1.toNat Amount.zero).mode∧(a1.getD g1.2.1.toNat Amount.zero).mode < 6) <|
 some (.inl ((IntKind.i64.wrap (g1.1+(a1.getD g1.2.1.toNat Amount.zero).units)),(IntKind.i64.wrap (g1.2.1+1)),(Arr.put g1.2.2 (((a1.getD g1.2.1.toNat Amount.zero).mode).toNat) true)))
@[go_sem] def zeR9 (a0:Resource) (a1:List Amount) (g1:Int×Int×(Arr Bool 6)) (j2:Unit):St:=⟨[(2,.ptr 0 0 0),(5,.bool true),(6,.ptr 1 0 0),(7,.int .i64 (IntKind.i64.wrap (g1.1+(a1.getD g1.2.1.toNat Amount.zero).units))),(9,.ptr 2 0 0),(15,.sl (a1.map Amount.enc)),(16,.int .i64 (a1.length:Int)),(17,.int .i64 g1.2.1)],[(0,⟨false,4,(Resource.enc Resource.zero),[Resource.enc a0]⟩),(1,⟨false,6,(Arr.enc eB (Arr.rep 6 false)),[Arr.enc eB g1.2.2]⟩),(2,⟨false,2,(Amount.enc Amount.zero),[Amount.enc (a1.getD g1.2.1.toNat Amount.zero)]⟩)],3⟩
noncomputable def zn2 (a1:List Amount) (g1:Int×Int×(Arr Bool 6)) (g2:Int):Option ((Int)⊕((Unit)⊕(Bool))) :=
 (if (decide (g2 < 6))=true then
  gd (0≤g2∧g2 < 6) <|
  ((if (Arr.get g1.2.2 g2.toNat false)=true then zh5 g2 ((a1.getD g1.2.1.toNat Amount.zero).mode) else some (false))).bind fun v1 =>
  (if ((Arr.get g1.2.2 g2.toNat false)&&(!v1))=true then
   some (.inr (.inr false))
  else
   some (.inl (IntKind.i64.wrap (g2+1))))
 else
  some (.inr (.inl ())))
@[go_sem] def zeS0 (a0:Resource) (a1:List Amount) (g1:Int×Int×(Arr Bool 6)) (g2:Int):St:=⟨[(2,.ptr 0 0 0),(5,.bool true),(6,.ptr 1 0 0),(7,.int .i64 (IntKind.i64.wrap (g1.1+(a1.getD g1.2.1.toNat Amount.zero).units))),(9,.ptr 2 0 0),(15,.sl (a1.map Amount.enc)),(16,.int .i64 (a1.length:Int)),(17,.int .i64 g1.2.1),(41,.agg (Arr.enc eB g1.2.2)),(42,.int .i64 g2)],[(0,⟨false,4,(Resource.enc Resource.zero),[Resource.enc a0]⟩),(1,⟨false,6,(Arr.enc eB (Arr.rep 6 false)),[Arr.enc eB g1.2.2]⟩),(2,⟨false,2,(Amount.enc Amount.zero),[Amount.enc (a1.getD g1.2.1.toNat Amount.zero)]⟩)],3⟩
noncomputable def zs9 (a0:Resource) (a1:List Amount) (g1:Int×Int×(Arr Bool 6)):Option ((Int×Int×(Arr Bool 6))⊕((Bool))) :=
 (if (decide (g1.2.1 < (a1.length:Int)))=true then
  gd (0≤g1.2.1∧g1.2.1 < (a1.length:Int)) <|
  (if ((!(zb0 a0 (a1.getD g1.2.1.toNat Amount.zero)))||(decide (a0.units < (IntKind.i64.wrap (g1.1+(a1.getD g1.2.1.toNat Amount.zero).units)))))=true then
   some (.inr false)
  else
   (if (decide ((a1.getD g1.2.1.toNat Amount.zero).mode=0))=true then
    some (.inl ((IntKind.i64.wrap (g1.1+(a1.getD g1.2.1.toNat Amount.zero).units)),(IntKind.i64.wrap (g1.2.1+1)),g1.2.2))
   else
    (zb8 (zn2 a1 g1) 0).bind (fun | .inl z=>zz6 a1 g1 z | .inr z=>some (.inr z))))
 else
  some (.inr true))
@[go_sem] def zeS1 (a0:Resource) (a1:List Amount) (g1:Int×Int×(Arr Bool 6)):St:=⟨[(2,.ptr 0 0 0),(5,.bool true),(6,.ptr 1 0 0),(7,.int .i64 g1.1),(15,.sl (a1.map Amount.enc)),(16,.int .i64 (a1.length:Int)),(17,.int .i64 g1.2.1)],[(0,⟨false,4,(Resource.enc Resource.zero),[Resource.enc a0]⟩),(1,⟨false,6,(Arr.enc eB (Arr.rep 6 false)),[Arr.enc eB g1.2.2]⟩)],2⟩
noncomputable def zf6 (a0:Resource) (a1:List Amount):Option (Bool) :=
 (if (!(zb4 a0))=true then
  some false
 else
  (zb8 (zs9 a0 a1) (0,0,(Arr.rep 6 false))).bind (fun z=>zH0 z))
theorem zas9 (a0:Resource) (a1:List Amount) (r:Bool) (h:zf6 a0 a1=some r):PFn C 190 [.agg (Resource.enc a0),.sl (a1.map Amount.enc)] (.bool r):=by
 refine za8 ck_q rfl fun E hG hN hK=>?_
 unfold pc_q
 unfold zf6 at h
 refine za0 (za1 hG ?_)
 refine zbr4 ?_
 refine za0 (za0 (za1 hG ?_))
 refine za6 (fun hg=>zF2 a0) ?_
 refine za4 rfl hG h (fun _ h=>?_) (fun _ h=>?_)
 · refine za0 (za1 hG ?_)
   refine za7 ?_
   exact zb1 h
 refine za5 ?_
 refine za0 (za1 hG ?_)
 refine za0 (za1 hG ?_)
 refine za0 (za1 hG ?_)
 refine za0 ?_
 refine zbE9 ?_
 refine za0 (za0 (za1 hG ?_))
 refine zb5 (zeR8) (fun v=>zH0 v=some r) ?_ ?_
 · intro j1 h
   unfold zH0 at h
   refine g_st ?_
   refine za0 (za1 hG ?_)
   refine za7 ?_
   exact zb1 h
 refine zd9 (zeS1 a0 a1) hK [(0,0),(1,1)] h (fun x_l1 h g1 y_l1 h_l1 hx_l1=>?_)
 unfold zs9 at h_l1
 refine g_st ?_
 refine za0 (za1 hG ?_)
 refine za0 ?_
 refine za4 rfl hG h_l1 (fun _ h_l1=>?_) (fun _ h_l1=>?_)
 · refine za5 ?_
   refine za0 (zb6 (za0 ?_))
   obtain ⟨hb3,h_l1⟩:=za2 h_l1
   refine za1 hG ?_
   refine za0 (za0 (za1 hG ?_))
   refine za6 (fun hg=>zy7 a0 (a1.getD g1.2.1.toNat Amount.zero)) ?_
   refine za4 rfl hG h_l1 (fun _ h_l1=>?_) (fun _ h_l1=>?_)
   · refine za0 (za1 hG ?_)
     refine zc3 ?_
     obtain rfl:=Option.some.inj h_l1
     have hx:=hx_l1 _ rfl
     subst hx
     try dsimp only at h
     exact zc4 hK [] false (by exact h)
   refine za5 ?_
   refine za0 (za1 hG ?_)
   refine za0 (za0 (za1 hG ?_))
   refine za4 rfl hG h_l1 (fun _ h_l1=>?_) (fun _ h_l1=>?_)
   · refine zc3 ?_
     refine za1 hG ?_
     exact zc8 hK [(0,0),(1,1)] h_l1
   refine za5 ?_
   refine za0 (za0 (za1 hG ?_))
   refine zb5 (zeR9 a0 a1 g1) (fun v=>zz6 a1 g1 v=some y_l1) ?_ ?_
   · intro j2 h_l1
     unfold zz6 at h_l1
     refine g_st ?_
     obtain ⟨hb1,h_l1⟩:=za2 h_l1
     refine za1 hG ?_
     refine za1 hG ?_
     exact zc8 hK [(0,0),(1,1)] h_l1
   refine zd9 (zeS0 a0 a1 g1) hK [(0,0),(1,1),(2,2)] h_l1 (fun x_l2 h_l1 g2 y_l2 h_l2 hx_l2=>?_)
   unfold zn2 at h_l2
   refine g_st ?_
   refine za0 (za1 hG ?_)
   refine za0 ?_
   refine za4 rfl hG h_l2 (fun _ h_l2=>?_) (fun _ h_l2=>?_)
   · refine za5 ?_
     refine za0 (zb6 (za0 ?_))
     obtain ⟨hb2,h_l2⟩:=za2 h_l2
     refine za1 hG ?_
     refine za0 (za1 hG ?_)
     obtain ⟨v1,hv1,h_l2⟩:=za3 h_l2
     refine za6 (fun hg=>zaC4 g2 ((a1.getD g1.2.1.toNat Amount.zero).mode) _ (zD1 hg hv1)) ?_
     refine za4 rfl hG h_l2 (fun _ h_l2=>?_) (fun _ h_l2=>?_)
     · refine za0 (za1 hG ?_)
       refine zc3 ?_
       obtain rfl:=Option.some.inj h_l2
       have hx:=hx_l2 _ rfl
       subst hx
       try dsimp only at h_l1
       obtain rfl:=Option.some.inj h_l1
       have hx:=hx_l1 _ rfl
       subst hx
       try dsimp only at h
       exact zc4 hK [] false (by exact h)
     refine za5 ?_
     refine za1 hG ?_
     exact zc8 hK [(0,0),(1,1),(2,2)] h_l2
   refine zc3 ?_
   obtain rfl:=Option.some.inj h_l2
   have hx:=hx_l2 _ rfl
   subst hx
   try dsimp only at h_l1
   exact zc4 hK [(0,0),(1,1),(2,2)] () (by exact h_l1)
 refine zc3 ?_
 obtain rfl:=Option.some.inj h_l1
 have hx:=hx_l1 _ rfl
 subst hx
 try dsimp only at h
 exact zc4 hK [] true (by exact h)
attribute [local irreducible] zf6
noncomputable def zH1 (a0:Resource) (j1:(List Amount)):Option (Bool) :=
 (zf6 a0 j1).bind fun v1 =>
 some v1
@[go_sem] def zeS2 (a0:Resource) (j1:(List Amount)):St:=⟨[(2,.ptr 0 0 0),(5,.own 1 0 j1.length)],[(0,⟨false,4,(Resource.enc Resource.zero),[Resource.enc a0]⟩),(1,⟨false,2,(Amount.enc Amount.zero),j1.map Amount.enc⟩)],2⟩
noncomputable def zB5 (a0:Resource) (a1:List Hold) (g1:Int×(List Amount)):Option ((Int×(List Amount))⊕(((List Amount))⊕(Bool))) :=
 (if (decide (g1.1 < (a1.length:Int)))=true then
  gd (0≤g1.1∧g1.1 < (a1.length:Int)) <|
  (if ((!(zb3 ((a1.getD g1.1.toNat Hold.zero).proc)))||(!(za9 a0 ((a1.getD g1.1.toNat Hold.zero).amount))))=true then
   some (.inr (.inr false))
  else
   gd ((decide (0 < g1.1))=true→0≤(IntKind.i64.wrap (g1.1 - 1))∧(IntKind.i64.wrap (g1.1 - 1)) < (a1.length:Int)) <|
   ((if (decide (0 < g1.1))=true then ze0 ((a1.getD ((IntKind.i64.wrap (g1.1 - 1)).toNat) Hold.zero).proc) ((a1.getD g1.1.toNat Hold.zero).proc) else some (0))).bind fun v2 =>
   (if ((decide (0 < g1.1))&&(decide (0≤v2)))=true then
    some (.inr (.inr false))
   else
    gd (g1.2.length+1≤4294967296) <|
    some (.inl ((IntKind.i64.wrap (g1.1+1)),(g1.2++[(a1.getD g1.1.toNat Hold.zero).amount])))))
 else
  some (.inr (.inl g1.2)))
@[go_sem] def zeS3 (a0:Resource) (a1:List Hold) (g1:Int×(List Amount)):St:=⟨[(1,.sl (a1.map Hold.enc)),(2,.ptr 0 0 0),(5,.own 1 0 g1.2.length),(16,.sl (a1.map Hold.enc)),(17,.int .i64 (a1.length:Int)),(18,.int .i64 g1.1)],[(0,⟨false,4,(Resource.enc Resource.zero),[Resource.enc a0]⟩),(1,⟨false,2,(Amount.enc Amount.zero),g1.2.map Amount.enc⟩)],2⟩
noncomputable def zh2 (a0:Resource) (a1:List Hold):Option (Bool) :=
 (if ((!(zb4 a0))||(decide (8 < (a1.length:Int))))=true then
  some false
 else
  (zb8 (zB5 a0 a1) (0,[])).bind (fun | .inl z=>zH1 a0 z | .inr z=>some z))
theorem zW3 (a0:Resource) (a1:List Hold) (r:Bool) (h:zh2 a0 a1=some r):PFn C 179 [.agg (Resource.enc a0),.sl (a1.map Hold.enc)] (.bool r):=by
 refine za8 ck_r rfl fun E hG hN hK=>?_
 unfold pc_r
 unfold zh2 at h
 refine za0 (za1 hG ?_)
 refine za0 (za0 (za1 hG ?_))
 refine za6 (fun hg=>zF2 a0) ?_
 refine za4 rfl hG h (fun _ h=>?_) (fun _ h=>?_)
 · refine za0 (za1 hG ?_)
   refine za7 ?_
   exact zb1 h
 refine za5 ?_
 refine za0 (za1 hG ?_)
 refine za0 (za0 (za1 hG ?_))
 refine zb5 (zeS2 a0) (fun v=>zH1 a0 v=some r) ?_ ?_
 · intro j1 h
   unfold zH1 at h
   refine g_st ?_
   refine za0 (za1 hG ?_)
   obtain ⟨v1,hv1,h⟩:=za3 h
   refine za6 (fun hg=>zas9 a0 j1 _ (hv1)) ?_
   refine za7 ?_
   exact zb1 h
 refine zd9 (zeS3 a0 a1) hK [(0,0),(1,1)] h (fun x_l1 h g1 y_l1 h_l1 hx_l1=>?_)
 unfold zB5 at h_l1
 refine g_st ?_
 refine za0 (za1 hG ?_)
 refine za0 ?_
 refine za4 rfl hG h_l1 (fun _ h_l1=>?_) (fun _ h_l1=>?_)
 · refine za5 ?_
   refine za0 (zb6 (za0 ?_))
   obtain ⟨hb3,h_l1⟩:=za2 h_l1
   refine za1 hG ?_
   refine za0 (za0 (za1 hG ?_))
   refine za6 (fun hg=>zG9 ((a1.getD g1.1.toNat Hold.zero).proc)) ?_
   refine za6 (fun hg=>zw3 a0 ((a1.getD g1.1.toNat Hold.zero).amount)) ?_
   refine za4 rfl hG h_l1 (fun _ h_l1=>?_) (fun _ h_l1=>?_)
   · refine za0 (za1 hG ?_)
     refine za7 ?_
     obtain rfl:=Option.some.inj h_l1
     have hx:=hx_l1 _ rfl
     subst hx
     try dsimp only at h
     exact zb1 h
   refine za5 ?_
   refine za0 (za0 ?_)
   obtain ⟨hb2,h_l1⟩:=za2 h_l1
   refine zm9 zd8 hG ?_
   obtain ⟨v2,hv2,h_l1⟩:=za3 h_l1
   refine zf8 (fun hg=>zL2 ((a1.getD ((IntKind.i64.wrap (g1.1 - 1)).toNat) Hold.zero).proc) ((a1.getD g1.1.toNat Hold.zero).proc) _ (zD1 hg hv2)) ?_
   refine za4 rfl hG h_l1 (fun _ h_l1=>?_) (fun _ h_l1=>?_)
   · refine za0 (za1 hG ?_)
     refine za7 ?_
     obtain rfl:=Option.some.inj h_l1
     have hx:=hx_l1 _ rfl
     subst hx
     try dsimp only at h
     exact zb1 h
   refine za5 ?_
   obtain ⟨hb1,h_l1⟩:=za2 h_l1
   refine za1 hG ?_
   refine za1 hG ?_
   exact zc8 hK [(0,0),(1,3)] h_l1
 refine zc3 ?_
 obtain rfl:=Option.some.inj h_l1
 have hx:=hx_l1 _ rfl
 subst hx
 try dsimp only at h
 exact zc4 hK [(0,0),(1,1)] g1.2 (by exact h)
attribute [local irreducible] zh2
noncomputable def zW4  (j1:Unit):Option (Amount) :=
 some ({ Amount.zero with  })
@[go_sem] def zeS4  (j1:Unit):St:=⟨[(4,.ptr 0 0 0)],[(0,⟨false,2,(Amount.enc Amount.zero),[Amount.enc Amount.zero]⟩)],1⟩
noncomputable def zu9 (a0:List Hold) (a1:Proc) (g1:Int):Option ((Int)⊕((Unit)⊕(Amount))) :=
 (if (decide (g1 < (a0.length:Int)))=true then
  gd (0≤g1∧g1 < (a0.length:Int)) <|
  (if (decide ((a0.getD g1.toNat Hold.zero).proc=a1))=true then
   some (.inr (.inr ((a0.getD g1.toNat Hold.zero).amount)))
  else
   some (.inl (IntKind.i64.wrap (g1+1))))
 else
  some (.inr (.inl ())))
@[go_sem] def zeS5 (a0:List Hold) (a1:Proc) (g1:Int):St:=⟨[(3,.ptr 0 0 0),(4,.ptr 1 0 0),(7,.sl (a0.map Hold.enc)),(8,.int .i64 (a0.length:Int)),(9,.int .i64 g1)],[(0,⟨false,3,(Proc.enc Proc.zero),[Proc.enc a1]⟩),(1,⟨false,2,(Amount.enc Amount.zero),[Amount.enc Amount.zero]⟩)],2⟩
noncomputable def zm1 (a0:List Hold) (a1:Proc):Option (Amount) :=
 (zb8 (zu9 a0 a1) 0).bind (fun | .inl z=>zW4 z | .inr z=>some z)
theorem zaX3 (a0:List Hold) (a1:Proc) (r:Amount) (h:zm1 a0 a1=some r):PFn C 110 [.sl (a0.map Hold.enc),.agg (Proc.enc a1)] (.agg (Amount.enc r)):=by
 refine za8 ck_s rfl fun E hG hN hK=>?_
 unfold pc_s
 unfold zm1 at h
 refine za0 (za1 hG ?_)
 refine za0 (za0 (za1 hG ?_))
 refine zb5 (zeS4) (fun v=>zW4 v=some r) ?_ ?_
 · intro j1 h
   unfold zW4 at h
   refine g_st ?_
   refine za0 (za1 hG ?_)
   refine za7 ?_
   exact zb1 h
 refine zd9 (zeS5 a0 a1) hK [(0,0),(1,1)] h (fun x_l1 h g1 y_l1 h_l1 hx_l1=>?_)
 unfold zu9 at h_l1
 refine g_st ?_
 refine za0 (za1 hG ?_)
 refine za0 ?_
 refine za4 rfl hG h_l1 (fun _ h_l1=>?_) (fun _ h_l1=>?_)
 · refine za5 ?_
   refine za0 (zb6 (za0 ?_))
   obtain ⟨hb1,h_l1⟩:=za2 h_l1
   refine za1 hG ?_
   refine za0 (za1 hG ?_)
   refine za4 rfl hG h_l1 (fun _ h_l1=>?_) (fun _ h_l1=>?_)
   · refine za0 (za1 hG ?_)
     refine za7 ?_
     obtain rfl:=Option.some.inj h_l1
     have hx:=hx_l1 _ rfl
     subst hx
     try dsimp only at h
     exact zb1 h
   refine za5 ?_
   refine za1 hG ?_
   exact zc8 hK [(0,0),(1,1)] h_l1
 refine zc3 ?_
 obtain rfl:=Option.some.inj h_l1
 have hx:=hx_l1 _ rfl
 subst hx
 try dsimp only at h
 exact zc4 hK [(0,1)] () (by exact h)
attribute [local irreducible] zm1
noncomputable def zh6 (a0:Queue) (a1:Proc):Option (Amount) :=
 (zm1 a0.holds a1).bind fun v1 =>
 some v1
theorem zP8 (a0:Queue) (a1:Proc) (r:Amount) (h:zh6 a0 a1=some r):PFn C 66 [.agg (Queue.enc a0),.agg (Proc.enc a1)] (.agg (Amount.enc r)):=by
 refine za8 ck_t rfl fun E hG hN hK=>?_
 unfold pc_t
 unfold zh6 at h
 refine za0 (za1 hG ?_)
 refine za0 (za1 hG ?_)
 obtain ⟨v1,hv1,h⟩:=za3 h
 refine za6 (fun hg=>zaX3 a0.holds a1 _ (hv1)) ?_
 refine za7 ?_
 exact zb1 h
attribute [local irreducible] zh6
noncomputable def zac9  (j1:Unit):Option (Int) :=
 some (-1)
@[go_sem] def zeS6  (j1:Unit):St:=⟨[],[],0⟩
noncomputable def zL3 (a0:List Wait) (a1:Proc) (g1:Int):Option ((Int)⊕((Unit)⊕(Int))) :=
 (if (decide (g1 < (a0.length:Int)))=true then
  gd (0≤g1∧g1 < (a0.length:Int)) <|
  (if (decide ((a0.getD g1.toNat Wait.zero).proc=a1))=true then
   some (.inr (.inr g1))
  else
   some (.inl (IntKind.i64.wrap (g1+1))))
 else
  some (.inr (.inl ())))
@[go_sem] def zeS7 (a0:List Wait) (a1:Proc) (g1:Int):St:=⟨[(3,.ptr 0 0 0),(7,.sl (a0.map Wait.enc)),(8,.int .i64 (a0.length:Int)),(9,.int .i64 g1)],[(0,⟨false,3,(Proc.enc Proc.zero),[Proc.enc a1]⟩)],1⟩
noncomputable def zl6 (a0:List Wait) (a1:Proc):Option (Int) :=
 (zb8 (zL3 a0 a1) 0).bind (fun | .inl z=>zac9 z | .inr z=>some z)
theorem zao0 (a0:List Wait) (a1:Proc) (r:Int) (h:zl6 a0 a1=some r):PFn C 123 [.sl (a0.map Wait.enc),.agg (Proc.enc a1)] (.int .i64 r):=by
 refine za8 ck_u rfl fun E hG hN hK=>?_
 unfold pc_u
 unfold zl6 at h
 refine za0 (za1 hG ?_)
 refine za0 (za0 (za1 hG ?_))
 refine zb5 (zeS6) (fun v=>zac9 v=some r) ?_ ?_
 · intro j1 h
   unfold zac9 at h
   refine g_st ?_
   refine za0 (za1 hG ?_)
   refine za7 ?_
   exact zb1 h
 refine zd9 (zeS7 a0 a1) hK [(0,0)] h (fun x_l1 h g1 y_l1 h_l1 hx_l1=>?_)
 unfold zL3 at h_l1
 refine g_st ?_
 refine za0 (za1 hG ?_)
 refine za0 ?_
 refine za4 rfl hG h_l1 (fun _ h_l1=>?_) (fun _ h_l1=>?_)
 · refine za5 ?_
   refine za0 (zb6 (za0 ?_))
   obtain ⟨hb1,h_l1⟩:=za2 h_l1
   refine za1 hG ?_
   refine za0 (za1 hG ?_)
   refine za4 rfl hG h_l1 (fun _ h_l1=>?_) (fun _ h_l1=>?_)
   · refine za0 (za1 hG ?_)
     refine za7 ?_
     obtain rfl:=Option.some.inj h_l1
     have hx:=hx_l1 _ rfl
     subst hx
     try dsimp only at h
     exact zb1 h
   refine za5 ?_
   refine za1 hG ?_
   exact zc8 hK [(0,0)] h_l1
 refine zc3 ?_
 obtain rfl:=Option.some.inj h_l1
 have hx:=hx_l1 _ rfl
 subst hx
 try dsimp only at h
 exact zc4 hK [] () (by exact h)
attribute [local irreducible] zl6
def zT0 (a0:Int):(Arr Bool 6) :=
 (if (decide (a0=5))=true then
  (Arr.put (Arr.put (Arr.put (Arr.put (Arr.put (Arr.rep 6 false) 5 true) 4 true) 3 true) 2 true) 1 true)
 else
  (if (decide (a0=4))=true then
   (Arr.put (Arr.put (Arr.put (Arr.put (Arr.rep 6 false) 4 true) 3 true) 2 true) 1 true)
  else
   (if (decide (a0=2))=true then
    (Arr.put (Arr.put (Arr.rep 6 false) 2 true) 1 true)
   else
    (if (decide (a0=1))=true then
     (Arr.put (Arr.rep 6 false) 1 true)
    else
     (if (decide (a0=3))=true then
      (Arr.put (Arr.put (Arr.rep 6 false) 3 true) 1 true)
     else
      (Arr.rep 6 false))))))
theorem zaQ0 (a0:Int):PFn C 163 [.int .i64 a0] (.agg (Arr.enc eB (zT0 a0))):=by
 generalize h:zT0 a0=r
 refine za8 ck_v rfl fun E hG hN hK=>?_
 unfold pc_v
 unfold zT0 at h
 refine za0 (za1 hG ?_)
 refine za0 (za1 hG ?_)
 refine za0 (za0 (za1 hG ?_))
 refine zb6 (za0 (zb6 (za0 (zb6 (za0 (zb6 (za0 (zb6 (za0 (zb6 (za0 (za0 (za0 (za1 hG ?_))))))))))))))
 refine za4 rfl hG h (fun _ h=>?_) (fun _ h=>?_)
 · refine zc3 ?_
   refine za1 hG ?_
   refine za0 (za1 hG ?_)
   refine za1 hG ?_
   refine za1 hG ?_
   refine za0 (za1 hG ?_)
   refine zc3 ?_
   refine za0 (za1 hG ?_)
   refine za7 ?_
   exact ze9 h
 refine za5 ?_
 refine za0 (za0 (za1 hG ?_))
 refine za4 rfl hG h (fun _ h=>?_) (fun _ h=>?_)
 · refine zc3 ?_
   refine za0 (za1 hG ?_)
   refine za1 hG ?_
   refine za1 hG ?_
   refine za0 (za1 hG ?_)
   refine zc3 ?_
   refine za0 (za1 hG ?_)
   refine za7 ?_
   exact ze9 h
 refine za5 ?_
 refine za0 (za0 (za1 hG ?_))
 refine za4 rfl hG h (fun _ h=>?_) (fun _ h=>?_)
 · refine zc3 ?_
   refine za1 hG ?_
   refine za0 (za1 hG ?_)
   refine zc3 ?_
   refine za0 (za1 hG ?_)
   refine za7 ?_
   exact ze9 h
 refine za5 ?_
 refine za0 (za0 (za1 hG ?_))
 refine za4 rfl hG h (fun _ h=>?_) (fun _ h=>?_)
 · refine zc3 ?_
   refine za0 (za1 hG ?_)
   refine zc3 ?_
   refine za0 (za1 hG ?_)
   refine za7 ?_
   exact ze9 h
 refine za5 ?_
 refine za0 (za1 hG ?_)
 refine za4 rfl hG h (fun _ h=>?_) (fun _ h=>?_)
 · refine zc3 ?_
   refine za0 (za0 (za1 hG ?_))
   refine za1 hG ?_
   refine zc3 ?_
   refine za0 (za1 hG ?_)
   refine za7 ?_
   exact ze9 h
 refine za5 ?_
 refine zc3 ?_
 refine za0 (za1 hG ?_)
 refine za7 ?_
 exact ze9 h
noncomputable def zk4 (a0:Int) (a1:Int):Option (Bool) :=
 gd (((zf9 a0)&&(zf9 a1))=true→0≤a1∧a1 < 6) <|
 some (((zf9 a0)&&(zf9 a1))&&(Arr.get (zT0 a0) a1.toNat false))
theorem zad0 (a0:Int) (a1:Int) (r:Bool) (h:zk4 a0 a1=some r):PFn C 134 [.int .i64 a0,.int .i64 a1] (.bool r):=by
 refine za8 ck_w rfl fun E hG hN hK=>?_
 unfold pc_w
 unfold zk4 at h
 refine za0 (za1 hG ?_)
 refine za0 (za1 hG ?_)
 refine za6 (fun hg=>zP7 a0) ?_
 refine za6 (fun hg=>zP7 a1) ?_
 obtain ⟨hb1,h⟩:=za2 h
 refine za6 (fun hg=>zaQ0 a0) ?_
 refine za7 ?_
 exact zb1 h
attribute [local irreducible] zk4
noncomputable def zh3 (a0:Resource) (a1:Amount) (a2:Amount):Option (Bool) :=
 (if ((!(zb0 a0 a1))||(!(zb0 a0 a2)))=true then
  some false
 else
  (if ((zb7 a1)||(zb7 a2))=true then
   some (zb7 a2)
  else
   (if (decide (a0.kind=1))=true then
    (zk4 a1.mode a2.mode).bind fun v1 =>
    some v1
   else
    some (decide (a2.units≤a1.units)))))
theorem zal0 (a0:Resource) (a1:Amount) (a2:Amount) (r:Bool) (h:zh3 a0 a1 a2=some r):PFn C 89 [.agg (Resource.enc a0),.agg (Amount.enc a1),.agg (Amount.enc a2)] (.bool r):=by
 refine za8 ck_x rfl fun E hG hN hK=>?_
 unfold pc_x
 unfold zh3 at h
 refine za0 (za1 hG ?_)
 refine za0 (za0 (za1 hG ?_))
 refine za6 (fun hg=>zy7 a0 a1) ?_
 refine za6 (fun hg=>zy7 a0 a2) ?_
 refine za4 rfl hG h (fun _ h=>?_) (fun _ h=>?_)
 · refine za0 (za1 hG ?_)
   refine za7 ?_
   exact zb1 h
 refine za5 ?_
 refine za0 (za0 (za1 hG ?_))
 refine za6 (fun hg=>zo5 a1) ?_
 refine za6 (fun hg=>zo5 a2) ?_
 refine za4 rfl hG h (fun _ h=>?_) (fun _ h=>?_)
 · refine za0 (za1 hG ?_)
   refine za6 (fun hg=>zo5 a2) ?_
   refine za7 ?_
   exact zb1 h
 refine za5 ?_
 refine za0 (za0 (za1 hG ?_))
 refine za4 rfl hG h (fun _ h=>?_) (fun _ h=>?_)
 · refine za0 (za1 hG ?_)
   obtain ⟨v1,hv1,h⟩:=za3 h
   refine za6 (fun hg=>zad0 a1.mode a2.mode _ (hv1)) ?_
   refine za7 ?_
   exact zb1 h
 refine za5 ?_
 refine za0 (za1 hG ?_)
 refine za7 ?_
 exact zb1 h
attribute [local irreducible] zh3
noncomputable def zE5  (j1:Unit):Option (Bool) :=
 some true
@[go_sem] def zeS8  (j1:Unit):St:=⟨[],[],0⟩
noncomputable def zk5 (a0:Queue) (g1:Int):Option ((Int)⊕((Unit)⊕(Bool))) :=
 (if (decide (g1 < (a0.converts.length:Int)))=true then
  gd (0≤g1∧g1 < (a0.converts.length:Int)) <|
  (zh6 a0 ((a0.converts.getD g1.toNat Wait.zero).proc)).bind fun v1 =>
  (zl6 a0.converts ((a0.converts.getD g1.toNat Wait.zero).proc)).bind fun v2 =>
  (if ((!decide (v2=g1))||(zb7 v1))=true then
   some (.inr (.inr false))
  else
   ((if (za9 a0.resource ((a0.converts.getD g1.toNat Wait.zero).amount))=true then zh3 a0.resource ((a0.converts.getD g1.toNat Wait.zero).amount) v1 else some (false))).bind fun v3 =>
   (if (((!(za9 a0.resource ((a0.converts.getD g1.toNat Wait.zero).amount)))||(!v3))||(decide ((a0.converts.getD g1.toNat Wait.zero).amount=v1)))=true then
    some (.inr (.inr false))
   else
    (if ((!decide ((a0.converts.getD g1.toNat Wait.zero).priority=0))||(!decide ((a0.converts.getD g1.toNat Wait.zero).passed=0)))=true then
     some (.inr (.inr false))
    else
     some (.inl (IntKind.i64.wrap (g1+1))))))
 else
  some (.inr (.inl ())))
@[go_sem] def zeS9 (a0:Queue) (g1:Int):St:=⟨[(1,.ptr 0 0 0),(11,.sl (a0.converts.map Wait.enc)),(12,.int .i64 (a0.converts.length:Int)),(13,.int .i64 g1)],[(0,⟨false,8,(Queue.enc Queue.zero),[Queue.enc a0]⟩)],1⟩
noncomputable def zf0 (a0:Queue):Option (Bool) :=
 (if (decide (8 < (a0.converts.length:Int)))=true then
  some false
 else
  (zb8 (zk5 a0) 0).bind (fun | .inl z=>zE5 z | .inr z=>some z))
theorem zao1 (a0:Queue) (r:Bool) (h:zf0 a0=some r):PFn C 180 [.agg (Queue.enc a0)] (.bool r):=by
 refine za8 ck_y rfl fun E hG hN hK=>?_
 unfold pc_y
 unfold zf0 at h
 refine za0 (za1 hG ?_)
 refine za0 (za0 (za1 hG ?_))
 refine za4 rfl hG h (fun _ h=>?_) (fun _ h=>?_)
 · refine za0 (za1 hG ?_)
   refine za7 ?_
   exact zb1 h
 refine za5 ?_
 refine za0 (za0 (za1 hG ?_))
 refine zb5 (zeS8) (fun v=>zE5 v=some r) ?_ ?_
 · intro j1 h
   unfold zE5 at h
   refine g_st ?_
   refine za0 (za1 hG ?_)
   refine za7 ?_
   exact zb1 h
 refine zd9 (zeS9 a0) hK [(0,0)] h (fun x_l1 h g1 y_l1 h_l1 hx_l1=>?_)
 unfold zk5 at h_l1
 refine g_st ?_
 refine za0 (za1 hG ?_)
 refine za0 ?_
 refine za4 rfl hG h_l1 (fun _ h_l1=>?_) (fun _ h_l1=>?_)
 · refine za5 ?_
   refine za0 (zb6 (za0 ?_))
   obtain ⟨hb1,h_l1⟩:=za2 h_l1
   refine za1 hG ?_
   refine za0 (za1 hG ?_)
   obtain ⟨v1,hv1,h_l1⟩:=za3 h_l1
   refine za6 (fun hg=>zP8 a0 ((a0.converts.getD g1.toNat Wait.zero).proc) _ (hv1)) ?_
   refine za0 (za0 (za1 hG ?_))
   obtain ⟨v2,hv2,h_l1⟩:=za3 h_l1
   refine za6 (fun hg=>zao0 a0.converts ((a0.converts.getD g1.toNat Wait.zero).proc) _ (hv2)) ?_
   refine za6 (fun hg=>zo5 v1) ?_
   refine za4 rfl hG h_l1 (fun _ h_l1=>?_) (fun _ h_l1=>?_)
   · refine za0 (za1 hG ?_)
     refine za7 ?_
     obtain rfl:=Option.some.inj h_l1
     have hx:=hx_l1 _ rfl
     subst hx
     try dsimp only at h
     exact zb1 h
   refine za5 ?_
   refine za0 (za0 (za1 hG ?_))
   refine za6 (fun hg=>zw3 a0.resource ((a0.converts.getD g1.toNat Wait.zero).amount)) ?_
   obtain ⟨v3,hv3,h_l1⟩:=za3 h_l1
   refine za6 (fun hg=>zal0 a0.resource ((a0.converts.getD g1.toNat Wait.zero).amount) v1 _ (zD1 hg hv3)) ?_
   refine za4 rfl hG h_l1 (fun _ h_l1=>?_) (fun _ h_l1=>?_)
   · refine za0 (za1 hG ?_)
     refine za7 ?_
     obtain rfl:=Option.some.inj h_l1
     have hx:=hx_l1 _ rfl
     subst hx
     try dsimp only at h
     exact zb1 h
   refine za5 ?_
   refine za0 (za1 hG ?_)
   refine za4 rfl hG h_l1 (fun _ h_l1=>?_) (fun _ h_l1=>?_)
   · refine za0 (za1 hG ?_)
     refine za7 ?_
     obtain rfl:=Option.some.inj h_l1
     have hx:=hx_l1 _ rfl
     subst hx
     try dsimp only at h
     exact zb1 h
   refine za5 ?_
   refine za1 hG ?_
   exact zc8 hK [(0,0)] h_l1
 refine zc3 ?_
 obtain rfl:=Option.some.inj h_l1
 have hx:=hx_l1 _ rfl
 subst hx
 try dsimp only at h
 exact zc4 hK [] () (by exact h)
attribute [local irreducible] zf0
def zc1 (a0:Wait):Bool :=
 ((((((zb3 a0.proc)&&((za9 ({ Resource.zero with kind:=1,units:=1 }) a0.amount)||(za9 ({ Resource.zero with kind:=2,units:=8 }) a0.amount)))&&(decide (0≤a0.priority)))&&(decide (a0.priority≤7)))&&(decide (0≤a0.passed)))&&(decide (a0.passed≤3)))
theorem zah6 (a0:Wait):PFn C 139 [.agg (Wait.enc a0)] (.bool (zc1 a0)):=by
 generalize h:zc1 a0=r
 refine za8 ck_z rfl fun E hG hN hK=>?_
 unfold pc_z
 unfold zc1 at h
 refine za0 (za1 hG ?_)
 refine za0 (za1 hG ?_)
 refine za0 (za1 hG ?_)
 refine za0 (za1 hG ?_)
 refine za6 (fun hg=>zG9 a0.proc) ?_
 refine za6 (fun hg=>zw3 ({ Resource.zero with kind:=1,units:=1 }) a0.amount) ?_
 refine za6 (fun hg=>zw3 ({ Resource.zero with kind:=2,units:=8 }) a0.amount) ?_
 refine za7 ?_
 exact ze9 h
noncomputable def zaa1  (j1:Unit):Option (Bool) :=
 some true
@[go_sem] def zdY8  (j1:Unit):St:=⟨[],[],0⟩
noncomputable def zy2 (a0:List Wait) (g1:Int):Option ((Int)⊕((Unit)⊕(Bool))) :=
 (if (decide (g1 < (a0.length:Int)))=true then
  gd (0≤g1∧g1 < (a0.length:Int)) <|
  ((if (zc1 (a0.getD g1.toNat Wait.zero))=true then zl6 a0 ((a0.getD g1.toNat Wait.zero).proc) else some (0))).bind fun v1 =>
  (if ((!(zc1 (a0.getD g1.toNat Wait.zero)))||(!decide (v1=g1)))=true then
   some (.inr (.inr false))
  else
   some (.inl (IntKind.i64.wrap (g1+1))))
 else
  some (.inr (.inl ())))
@[go_sem] def zdY9 (a0:List Wait) (g1:Int):St:=⟨[(0,.sl (a0.map Wait.enc)),(8,.sl (a0.map Wait.enc)),(9,.int .i64 (a0.length:Int)),(10,.int .i64 g1)],[],0⟩
noncomputable def zn3 (a0:List Wait):Option (Bool) :=
 (if (decide (8 < (a0.length:Int)))=true then
  some false
 else
  (zb8 (zy2 a0) 0).bind (fun | .inl z=>zaa1 z | .inr z=>some z))
theorem zaA0 (a0:List Wait) (r:Bool) (h:zn3 a0=some r):PFn C 138 [.sl (a0.map Wait.enc)] (.bool r):=by
 refine za8 zen7 rfl fun E hG hN hK=>?_
 unfold zcp8
 unfold zn3 at h
 refine za0 (za1 hG ?_)
 refine za0 (za0 (za1 hG ?_))
 refine za4 rfl hG h (fun _ h=>?_) (fun _ h=>?_)
 · refine za0 (za1 hG ?_)
   refine za7 ?_
   exact zb1 h
 refine za5 ?_
 refine za0 (za0 (za1 hG ?_))
 refine zb5 (zdY8) (fun v=>zaa1 v=some r) ?_ ?_
 · intro j1 h
   unfold zaa1 at h
   refine g_st ?_
   refine za0 (za1 hG ?_)
   refine za7 ?_
   exact zb1 h
 refine zd9 (zdY9 a0) hK [] h (fun x_l1 h g1 y_l1 h_l1 hx_l1=>?_)
 unfold zy2 at h_l1
 refine g_st ?_
 refine za0 (za1 hG ?_)
 refine za0 ?_
 refine za4 rfl hG h_l1 (fun _ h_l1=>?_) (fun _ h_l1=>?_)
 · refine za5 ?_
   refine za0 (zb6 (za0 ?_))
   obtain ⟨hb1,h_l1⟩:=za2 h_l1
   refine za1 hG ?_
   refine za0 (za1 hG ?_)
   refine za6 (fun hg=>zah6 (a0.getD g1.toNat Wait.zero)) ?_
   obtain ⟨v1,hv1,h_l1⟩:=za3 h_l1
   refine za6 (fun hg=>zao0 a0 ((a0.getD g1.toNat Wait.zero).proc) _ (zD1 hg hv1)) ?_
   refine za4 rfl hG h_l1 (fun _ h_l1=>?_) (fun _ h_l1=>?_)
   · refine za0 (za1 hG ?_)
     refine za7 ?_
     obtain rfl:=Option.some.inj h_l1
     have hx:=hx_l1 _ rfl
     subst hx
     try dsimp only at h
     exact zb1 h
   refine za5 ?_
   refine za1 hG ?_
   exact zc8 hK [] h_l1
 refine zc3 ?_
 obtain rfl:=Option.some.inj h_l1
 have hx:=hx_l1 _ rfl
 subst hx
 try dsimp only at h
 exact zc4 hK [] () (by exact h)
attribute [local irreducible] zn3
noncomputable def zJ3  (j1:Unit):Option (Bool) :=
 some true
@[go_sem] def zdZ0  (j1:Unit):St:=⟨[],[],0⟩
noncomputable def zk8 (a0:Queue) (g1:Int):Option ((Int)⊕((Unit)⊕(Bool))) :=
 (if (decide (g1 < (a0.waits.length:Int)))=true then
  gd (0≤g1∧g1 < (a0.waits.length:Int)) <|
  ((if (za9 a0.resource ((a0.waits.getD g1.toNat Wait.zero).amount))=true then zh6 a0 ((a0.waits.getD g1.toNat Wait.zero).proc) else some (Amount.zero))).bind fun v2 =>
  (if ((!(za9 a0.resource ((a0.waits.getD g1.toNat Wait.zero).amount)))||(!(zb7 v2)))=true then
   some (.inr (.inr false))
  else
   some (.inl (IntKind.i64.wrap (g1+1))))
 else
  some (.inr (.inl ())))
@[go_sem] def zdZ1 (a0:Queue) (g1:Int):St:=⟨[(1,.ptr 0 0 0),(20,.sl (a0.waits.map Wait.enc)),(21,.int .i64 (a0.waits.length:Int)),(22,.int .i64 g1)],[(0,⟨false,8,(Queue.enc Queue.zero),[Queue.enc a0]⟩)],1⟩
noncomputable def zg6 (a0:Queue):Option (Bool) :=
 (zn3 a0.waits).bind fun v1 =>
 (if ((!v1)||(decide (8 < (IntKind.i64.wrap ((a0.holds.length:Int)+(a0.waits.length:Int))))))=true then
  some false
 else
  (zb8 (zk8 a0) 0).bind (fun | .inl z=>zJ3 z | .inr z=>some z))
theorem zay5 (a0:Queue) (r:Bool) (h:zg6 a0=some r):PFn C 181 [.agg (Queue.enc a0)] (.bool r):=by
 refine za8 zen8 rfl fun E hG hN hK=>?_
 unfold zcq9
 unfold zg6 at h
 refine za0 (za1 hG ?_)
 refine za0 (za0 (za1 hG ?_))
 obtain ⟨v1,hv1,h⟩:=za3 h
 refine za6 (fun hg=>zaA0 a0.waits _ (hv1)) ?_
 refine za4 rfl hG h (fun _ h=>?_) (fun _ h=>?_)
 · refine za0 (za1 hG ?_)
   refine za7 ?_
   exact zb1 h
 refine za5 ?_
 refine za0 (za0 (za1 hG ?_))
 refine zb5 (zdZ0) (fun v=>zJ3 v=some r) ?_ ?_
 · intro j1 h
   unfold zJ3 at h
   refine g_st ?_
   refine za0 (za1 hG ?_)
   refine za7 ?_
   exact zb1 h
 refine zd9 (zdZ1 a0) hK [(0,0)] h (fun x_l1 h g1 y_l1 h_l1 hx_l1=>?_)
 unfold zk8 at h_l1
 refine g_st ?_
 refine za0 (za1 hG ?_)
 refine za0 ?_
 refine za4 rfl hG h_l1 (fun _ h_l1=>?_) (fun _ h_l1=>?_)
 · refine za5 ?_
   refine za0 (zb6 (za0 ?_))
   obtain ⟨hb1,h_l1⟩:=za2 h_l1
   refine za1 hG ?_
   refine za0 (za1 hG ?_)
   refine za6 (fun hg=>zw3 a0.resource ((a0.waits.getD g1.toNat Wait.zero).amount)) ?_
   obtain ⟨v2,hv2,h_l1⟩:=za3 h_l1
   refine za6 (fun hg=>zP8 a0 ((a0.waits.getD g1.toNat Wait.zero).proc) _ (zD1 hg hv2)) ?_
   refine za6 (fun hg=>zo5 v2) ?_
   refine za4 rfl hG h_l1 (fun _ h_l1=>?_) (fun _ h_l1=>?_)
   · refine za0 (za1 hG ?_)
     refine za7 ?_
     obtain rfl:=Option.some.inj h_l1
     have hx:=hx_l1 _ rfl
     subst hx
     try dsimp only at h
     exact zb1 h
   refine za5 ?_
   refine za1 hG ?_
   exact zc8 hK [(0,0)] h_l1
 refine zc3 ?_
 obtain rfl:=Option.some.inj h_l1
 have hx:=hx_l1 _ rfl
 subst hx
 try dsimp only at h
 exact zc4 hK [] () (by exact h)
attribute [local irreducible] zg6
noncomputable def zo6 (a0:Queue):Option (Bool) :=
 (zd4 a0.resource).bind fun v1 =>
 ((if v1=true then zh2 a0.resource a0.holds else some (false))).bind fun v2 =>
 ((if (v1&&v2)=true then zf0 a0 else some (false))).bind fun v3 =>
 ((if ((v1&&v2)&&v3)=true then zg6 a0 else some (false))).bind fun v4 =>
 some (((((v1&&v2)&&v3)&&v4)&&(decide (0≤a0.gen)))&&(decide (a0.gen≤1073741824)))
theorem zaX4 (a0:Queue) (r:Bool) (h:zo6 a0=some r):PFn C 160 [.agg (Queue.enc a0)] (.bool r):=by
 refine za8 zen9 rfl fun E hG hN hK=>?_
 unfold zcr2
 unfold zo6 at h
 refine za0 (za1 hG ?_)
 refine za0 (za1 hG ?_)
 obtain ⟨v1,hv1,h⟩:=za3 h
 refine za6 (fun hg=>zE4 a0.resource _ (hv1)) ?_
 obtain ⟨v2,hv2,h⟩:=za3 h
 refine za6 (fun hg=>zW3 a0.resource a0.holds _ (zD1 hg hv2)) ?_
 obtain ⟨v3,hv3,h⟩:=za3 h
 refine za6 (fun hg=>zao1 a0 _ (zD1 hg hv3)) ?_
 obtain ⟨v4,hv4,h⟩:=za3 h
 refine za6 (fun hg=>zay5 a0 _ (zD1 hg hv4)) ?_
 refine za7 ?_
 exact zb1 h
attribute [local irreducible] zo6
noncomputable def zp5 (a0:Queue):Option (Wait×Bool) :=
 (if (decide (0 < (a0.converts.length:Int)))=true then
  gd (0≤0∧0 < (a0.converts.length:Int)) <|
  some ((a0.converts.getD 0 Wait.zero),true)
 else
  (if (decide (0 < (a0.waits.length:Int)))=true then
   gd (0≤0∧0 < (a0.waits.length:Int)) <|
   some ((a0.waits.getD 0 Wait.zero),true)
  else
   some ({ Wait.zero with  },false)))
theorem zaA1 (a0:Queue) (r:Wait×Bool) (h:zp5 a0=some r):PFn C 161 [.agg (Queue.enc a0)] (.tup [.agg (Wait.enc r.1),.bool r.2]):=by
 refine za8 zeo0 rfl fun E hG hN hK=>?_
 unfold zcr9
 unfold zp5 at h
 refine za0 (za1 hG ?_)
 refine za0 (zb6 (za0 (za1 hG ?_)))
 refine za4 rfl hG h (fun _ h=>?_) (fun _ h=>?_)
 · refine za0 ?_
   obtain ⟨hb1,h⟩:=za2 h
   refine za1 hG ?_
   refine za7 ?_
   exact zb1 h
 refine za0 (za1 hG ?_)
 refine za4 rfl hG h (fun _ h=>?_) (fun _ h=>?_)
 · refine za0 ?_
   obtain ⟨hb2,h⟩:=za2 h
   refine za1 hG ?_
   refine za7 ?_
   exact zb1 h
 refine za5 ?_
 refine za0 (za1 hG ?_)
 refine za7 ?_
 exact zb1 h
attribute [local irreducible] zp5
noncomputable def zi8 (a0:Resource) (a1:List Hold) (a2:Proc) (a3:Amount):Option (Bool) :=
 (zh2 a0 a1).bind fun v1 =>
 some ((v1&&(zb3 a2))&&(za9 a0 a3))
theorem zaF4 (a0:Resource) (a1:List Hold) (a2:Proc) (a3:Amount) (r:Bool) (h:zi8 a0 a1 a2 a3=some r):PFn C 182 [.agg (Resource.enc a0),.sl (a1.map Hold.enc),.agg (Proc.enc a2),.agg (Amount.enc a3)] (.bool r):=by
 refine za8 zeo1 rfl fun E hG hN hK=>?_
 unfold zcs2
 unfold zi8 at h
 refine za0 (za1 hG ?_)
 refine za0 (za1 hG ?_)
 obtain ⟨v1,hv1,h⟩:=za3 h
 refine za6 (fun hg=>zW3 a0 a1 _ (hv1)) ?_
 refine za6 (fun hg=>zG9 a2) ?_
 refine za6 (fun hg=>zw3 a0 a3) ?_
 refine za7 ?_
 exact zb1 h
attribute [local irreducible] zi8
noncomputable def zN0 (a1:Proc) (a2:Amount) (j1:Int×(List Hold)):Option ((List Hold)) :=
 (if (zb7 a2)=true then
  some j1.2
 else
  (if (decide (j1.1 < 0))=true then
   gd (j1.2.length+1≤4294967296) <|
   gd (0≤(IntKind.i64.wrap (((j1.2.length:Nat):Int)+1))∧(IntKind.i64.wrap (((j1.2.length:Nat):Int)+1))≤((j1.2.length+1:Nat):Int)∧((j1.2.length+1:Nat):Int)≤((j1.2.length+1:Nat):Int)) <|
   gd (0≤((j1.2.length:Nat):Int)∧((j1.2.length:Nat):Int)≤((j1.2.length+1:Nat):Int)∧((j1.2.length+1:Nat):Int)≤((j1.2.length+1:Nat):Int)) <|
   gd (0≤((j1.2.length:Nat):Int)∧((j1.2.length:Nat):Int) < ((j1.2.length+1:Nat):Int)) <|
   some (((j1.2++[{ Hold.zero with  }]).take (IntKind.i64.wrap (((j1.2.length:Nat):Int)+1)).toNat++(((j1.2++[{ Hold.zero with  }]).drop (((j1.2.length:Nat):Int).toNat)).take (j1.2.length+1 - ((j1.2.length:Nat):Int).toNat)).take (j1.2.length+1 - (IntKind.i64.wrap (((j1.2.length:Nat):Int)+1)).toNat)++(j1.2++[{ Hold.zero with  }]).drop ((IntKind.i64.wrap (((j1.2.length:Nat):Int)+1)).toNat+min (((j1.2++[{ Hold.zero with  }]).drop (((j1.2.length:Nat):Int).toNat)).take (j1.2.length+1 - ((j1.2.length:Nat):Int).toNat)).length (j1.2.length+1 - (IntKind.i64.wrap (((j1.2.length:Nat):Int)+1)).toNat))).set (((j1.2.length:Nat):Int).toNat) (⟨a1,a2⟩:Hold))
  else
   gd (j1.2.length+1≤4294967296) <|
   gd (0≤(IntKind.i64.wrap (j1.1+1))∧(IntKind.i64.wrap (j1.1+1))≤((j1.2.length+1:Nat):Int)∧((j1.2.length+1:Nat):Int)≤((j1.2.length+1:Nat):Int)) <|
   gd (0≤j1.1∧j1.1≤((j1.2.length+1:Nat):Int)∧((j1.2.length+1:Nat):Int)≤((j1.2.length+1:Nat):Int)) <|
   gd (0≤j1.1∧j1.1 < ((j1.2.length+1:Nat):Int)) <|
   some (((j1.2++[{ Hold.zero with  }]).take (IntKind.i64.wrap (j1.1+1)).toNat++(((j1.2++[{ Hold.zero with  }]).drop j1.1.toNat).take (j1.2.length+1 - j1.1.toNat)).take (j1.2.length+1 - (IntKind.i64.wrap (j1.1+1)).toNat)++(j1.2++[{ Hold.zero with  }]).drop ((IntKind.i64.wrap (j1.1+1)).toNat+min (((j1.2++[{ Hold.zero with  }]).drop j1.1.toNat).take (j1.2.length+1 - j1.1.toNat)).length (j1.2.length+1 - (IntKind.i64.wrap (j1.1+1)).toNat))).set j1.1.toNat (⟨a1,a2⟩:Hold))))
@[go_sem] def zdZ2 (a1:Proc) (a2:Amount) (j1:Int×(List Hold)):St:=⟨[(4,.ptr 0 0 0),(5,.ptr 1 0 0),(7,.own 2 0 j1.2.length),(8,.int .i64 j1.1)],[(0,⟨false,3,(Proc.enc Proc.zero),[Proc.enc a1]⟩),(1,⟨false,2,(Amount.enc Amount.zero),[Amount.enc a2]⟩),(2,⟨false,5,(Hold.enc Hold.zero),j1.2.map Hold.enc⟩)],3⟩
noncomputable def zA9 (a0:List Hold) (a1:Proc) (g1:Int×Int×(List Hold)):Option ((Int×Int×(List Hold))⊕((Int×(List Hold)))) :=
 (if (decide (g1.2.1 < (a0.length:Int)))=true then
  gd (0≤g1.2.1∧g1.2.1 < (a0.length:Int)) <|
  (if (decide ((a0.getD g1.2.1.toNat Hold.zero).proc=a1))=true then
   some (.inl (g1.1,(IntKind.i64.wrap (g1.2.1+1)),g1.2.2))
  else
   ((if (decide (g1.1 < 0))=true then ze0 ((a0.getD g1.2.1.toNat Hold.zero).proc) a1 else some (0))).bind fun v1 =>
   (if ((decide (g1.1 < 0))&&(decide (0 < v1)))=true then
    gd (g1.2.2.length+1≤4294967296) <|
    some (.inl (((g1.2.2.length:Nat):Int),(IntKind.i64.wrap (g1.2.1+1)),(g1.2.2++[(a0.getD g1.2.1.toNat Hold.zero)])))
   else
    gd (g1.2.2.length+1≤4294967296) <|
    some (.inl (g1.1,(IntKind.i64.wrap (g1.2.1+1)),(g1.2.2++[(a0.getD g1.2.1.toNat Hold.zero)])))))
 else
  some (.inr (g1.1,g1.2.2)))
@[go_sem] def zdZ3 (a0:List Hold) (a1:Proc) (a2:Amount) (g1:Int×Int×(List Hold)):St:=⟨[(4,.ptr 0 0 0),(5,.ptr 1 0 0),(7,.own 2 0 g1.2.2.length),(8,.int .i64 g1.1),(15,.sl (a0.map Hold.enc)),(16,.int .i64 (a0.length:Int)),(17,.int .i64 g1.2.1)],[(0,⟨false,3,(Proc.enc Proc.zero),[Proc.enc a1]⟩),(1,⟨false,2,(Amount.enc Amount.zero),[Amount.enc a2]⟩),(2,⟨false,5,(Hold.enc Hold.zero),g1.2.2.map Hold.enc⟩)],3⟩
noncomputable def zj0 (a0:List Hold) (a1:Proc) (a2:Amount):Option ((List Hold)) :=
 gd (0≤0∧0≤(IntKind.i64.wrap ((a0.length:Int)+1))∧(IntKind.i64.wrap ((a0.length:Int)+1))≤4294967296) <|
 (zb8 (zA9 a0 a1) ((-1),0,(List.replicate 0 Hold.zero))).bind (fun z=>zN0 a1 a2 z)
theorem zad1 (a0:List Hold) (a1:Proc) (a2:Amount) (r:(List Hold)) (h:zj0 a0 a1 a2=some r):PFn C 106 [.sl (a0.map Hold.enc),.agg (Proc.enc a1),.agg (Amount.enc a2)] (.sl (r.map Hold.enc)):=by
 refine za8 zeo2 rfl fun E hG hN hK=>?_
 unfold zct3
 unfold zj0 at h
 refine za0 (za1 hG ?_)
 refine za0 ?_
 obtain ⟨hb12,h⟩:=za2 h
 refine za1 hG ?_
 refine za0 (za1 hG ?_)
 refine za0 (za0 (za1 hG ?_))
 refine zb5 (zdZ2 a1 a2) (fun v=>zN0 a1 a2 v=some r) ?_ ?_
 · intro j1 h
   unfold zN0 at h
   refine g_st ?_
   refine za0 (za0 (za1 hG ?_))
   refine za6 (fun hg=>zo5 a2) ?_
   refine za4 rfl hG h (fun _ h=>?_) (fun _ h=>?_)
   · refine za0 (za1 hG ?_)
     refine za7 ?_
     exact zb1 h
   refine za5 ?_
   refine za0 (za0 (za1 hG ?_))
   refine za4 rfl hG h (fun _ h=>?_) (fun _ h=>?_)
   · refine za1 hG ?_
     refine za0 ?_
     obtain ⟨hb4,h⟩:=za2 h
     refine za1 hG ?_
     refine za0 ?_
     obtain ⟨hb2,h⟩:=za2 h
     obtain ⟨hb3,h⟩:=za2 h
     refine zF1 zd8 hG ?_
     refine za0 ?_
     obtain ⟨hb1,h⟩:=za2 h
     refine za1 hG ?_
     refine za0 (za1 hG ?_)
     refine za7 ?_
     exact zb1 h
   refine za5 ?_
   refine za0 ?_
   obtain ⟨hb8,h⟩:=za2 h
   refine za1 hG ?_
   refine za0 ?_
   obtain ⟨hb6,h⟩:=za2 h
   obtain ⟨hb7,h⟩:=za2 h
   refine zF1 zd8 hG ?_
   refine za0 ?_
   obtain ⟨hb5,h⟩:=za2 h
   refine za1 hG ?_
   refine za0 (za1 hG ?_)
   refine za7 ?_
   exact zb1 h
 refine zd9 (zdZ3 a0 a1 a2) hK [(0,0),(1,1),(2,2)] h (fun x_l1 h g1 y_l1 h_l1 hx_l1=>?_)
 unfold zA9 at h_l1
 refine g_st ?_
 refine za0 (za1 hG ?_)
 refine za0 ?_
 refine za4 rfl hG h_l1 (fun _ h_l1=>?_) (fun _ h_l1=>?_)
 · refine za5 ?_
   refine za0 (zb6 (za0 ?_))
   obtain ⟨hb11,h_l1⟩:=za2 h_l1
   refine za1 hG ?_
   refine za0 (za0 (za1 hG ?_))
   refine za4 rfl hG h_l1 (fun _ h_l1=>?_) (fun _ h_l1=>?_)
   · refine zc3 ?_
     refine za1 hG ?_
     exact zc8 hK [(0,0),(1,1),(2,2)] h_l1
   refine za5 ?_
   refine za0 (za0 (za1 hG ?_))
   obtain ⟨v1,hv1,h_l1⟩:=za3 h_l1
   refine za6 (fun hg=>zL2 ((a0.getD g1.2.1.toNat Hold.zero).proc) a1 _ (zD1 hg hv1)) ?_
   refine za4 rfl hG h_l1 (fun _ h_l1=>?_) (fun _ h_l1=>?_)
   · refine za1 hG ?_
     obtain ⟨hb9,h_l1⟩:=za2 h_l1
     refine za1 hG ?_
     refine za1 hG ?_
     exact zc8 hK [(0,0),(1,1),(2,4)] h_l1
   refine za5 ?_
   obtain ⟨hb10,h_l1⟩:=za2 h_l1
   refine za1 hG ?_
   refine za1 hG ?_
   exact zc8 hK [(0,0),(1,1),(2,4)] h_l1
 refine zc3 ?_
 obtain rfl:=Option.some.inj h_l1
 have hx:=hx_l1 _ rfl
 subst hx
 try dsimp only at h
 exact zc4 hK [(0,0),(1,1),(2,2)] (g1.1,g1.2.2) (by exact h)
attribute [local irreducible] zj0
noncomputable def zk0 (a0:Resource) (a1:List Hold) (a2:Proc) (a3:Amount):Option (Bool) :=
 (zi8 a0 a1 a2 a3).bind fun v1 =>
 ((if v1=true then zj0 a1 a2 a3 else some ([]))).bind fun v2 =>
 ((if v1=true then zh2 a0 v2 else some (false))).bind fun v3 =>
 some (v1&&v3)
theorem zaq3 (a0:Resource) (a1:List Hold) (a2:Proc) (a3:Amount) (r:Bool) (h:zk0 a0 a1 a2 a3=some r):PFn C 162 [.agg (Resource.enc a0),.sl (a1.map Hold.enc),.agg (Proc.enc a2),.agg (Amount.enc a3)] (.bool r):=by
 refine za8 zeo3 rfl fun E hG hN hK=>?_
 unfold zct6
 unfold zk0 at h
 refine za0 (za1 hG ?_)
 refine za0 (zm9 zd8 hG ?_)
 obtain ⟨v1,hv1,h⟩:=za3 h
 refine zf8 (fun hg=>zaF4 a0 a1 a2 a3 _ (hv1)) ?_
 obtain ⟨v2,hv2,h⟩:=za3 h
 refine zf8 (fun hg=>zad1 a1 a2 a3 _ (zD1 hg hv2)) ?_
 obtain ⟨v3,hv3,h⟩:=za3 h
 refine zf8 (fun hg=>zW3 a0 v2 _ (zD1 hg hv3)) ?_
 refine za7 ?_
 exact zb1 h
attribute [local irreducible] zk0
noncomputable def zk1 (a0:Queue):Option (Bool) :=
 (zo6 a0).bind fun v1 =>
 (if (!v1)=true then
  some false
 else
  (zp5 a0).bind fun v2 =>
  ((if v2.2=true then zk0 a0.resource a0.holds v2.1.proc v2.1.amount else some (false))).bind fun v3 =>
  some ((!v2.2)||(!v3)))
theorem zaJ7 (a0:Queue) (r:Bool) (h:zk1 a0=some r):PFn C 129 [.agg (Queue.enc a0)] (.bool r):=by
 refine za8 zeo4 rfl fun E hG hN hK=>?_
 unfold zcu2
 unfold zk1 at h
 refine za0 (za1 hG ?_)
 refine za0 (za0 (za1 hG ?_))
 obtain ⟨v1,hv1,h⟩:=za3 h
 refine za6 (fun hg=>zaX4 a0 _ (hv1)) ?_
 refine za4 rfl hG h (fun _ h=>?_) (fun _ h=>?_)
 · refine za0 (za1 hG ?_)
   refine za7 ?_
   exact zb1 h
 refine za5 ?_
 refine za0 (za1 hG ?_)
 obtain ⟨v2,hv2,h⟩:=za3 h
 refine za6 (fun hg=>zaA1 a0 _ (hv2)) ?_
 refine za0 (za1 hG ?_)
 obtain ⟨v3,hv3,h⟩:=za3 h
 refine za6 (fun hg=>zaq3 a0.resource a0.holds v2.1.proc v2.1.amount _ (zD1 hg hv3)) ?_
 refine za7 ?_
 exact zb1 h
attribute [local irreducible] zk1
noncomputable def zi0 (a0:Queue):Option (Bool) :=
 (zk1 a0).bind fun v1 =>
 some v1
theorem zad2 (a0:Queue) (r:Bool) (h:zi0 a0=some r):PFn C 84 [.agg (Queue.enc a0)] (.bool r):=by
 refine za8 zeo5 rfl fun E hG hN hK=>?_
 unfold zcu5
 unfold zi0 at h
 refine za0 (za1 hG ?_)
 refine za0 (za1 hG ?_)
 obtain ⟨v1,hv1,h⟩:=za3 h
 refine za6 (fun hg=>zaJ7 a0 _ (hv1)) ?_
 refine za7 ?_
 exact zb1 h
attribute [local irreducible] zi0
noncomputable def zL4  (j1:(List Proc)):Option ((List Proc)) :=
 some j1
@[go_sem] def zdZ4  (j1:(List Proc)):St:=⟨[(3,.own 0 0 j1.length)],[(0,⟨false,3,(Proc.enc Proc.zero),j1.map Proc.enc⟩)],1⟩
noncomputable def zZ5 (a0:List Hold) (g1:Int×(List Proc)):Option ((Int×(List Proc))⊕(((List Proc)))) :=
 (if (decide (g1.1 < (a0.length:Int)))=true then
  gd (0≤g1.1∧g1.1 < (a0.length:Int)) <|
  gd (g1.2.length+1≤4294967296) <|
  some (.inl ((IntKind.i64.wrap (g1.1+1)),(g1.2++[(a0.getD g1.1.toNat Hold.zero).proc])))
 else
  some (.inr g1.2))
@[go_sem] def zdZ5 (a0:List Hold) (g1:Int×(List Proc)):St:=⟨[(3,.own 0 0 g1.2.length),(6,.sl (a0.map Hold.enc)),(7,.int .i64 (a0.length:Int)),(8,.int .i64 g1.1)],[(0,⟨false,3,(Proc.enc Proc.zero),g1.2.map Proc.enc⟩)],1⟩
noncomputable def zh7 (a0:List Hold):Option ((List Proc)) :=
 (zb8 (zZ5 a0) (0,[])).bind (fun z=>zL4 z)
theorem zay6 (a0:List Hold) (r:(List Proc)) (h:zh7 a0=some r):MFn C 116 [.sl (a0.map Hold.enc)] [] 0 (.own 0 0 r.length) [(0,⟨false,3,(Proc.enc Proc.zero),r.map Proc.enc⟩)] 1:=by
 refine zl5 (rl:=[.own 0 0 r.length]) zeo6 rfl rfl rfl rfl fun E hG hN hK=>?_
 unfold zcv4
 unfold zh7 at h
 refine za0 (za1 hG ?_)
 refine za0 (za1 hG ?_)
 refine za0 (za0 (za1 hG ?_))
 refine zb5 (zdZ4) (fun v=>zL4 v=some r) ?_ ?_
 · intro j1 h
   unfold zL4 at h
   refine g_st ?_
   refine za0 (za1 hG ?_)
   refine za7 ?_
   exact zz5 [(0,0)] h
 refine zd9 (zdZ5 a0) hK [(0,1)] h (fun x_l1 h g1 y_l1 h_l1 hx_l1=>?_)
 unfold zZ5 at h_l1
 refine g_st ?_
 refine za0 (za1 hG ?_)
 refine za0 ?_
 refine za4 rfl hG h_l1 (fun _ h_l1=>?_) (fun _ h_l1=>?_)
 · refine za5 ?_
   refine za0 (zb6 (za0 ?_))
   obtain ⟨hb2,h_l1⟩:=za2 h_l1
   refine za1 hG ?_
   obtain ⟨hb1,h_l1⟩:=za2 h_l1
   refine za1 hG ?_
   refine za1 hG ?_
   exact zc8 hK [(0,2)] h_l1
 refine zc3 ?_
 obtain rfl:=Option.some.inj h_l1
 have hx:=hx_l1 _ rfl
 subst hx
 try dsimp only at h
 exact zc4 hK [(0,0)] g1.2 (by exact h)
attribute [local irreducible] zh7
def zc9 (a0:Int):Option (List Wait):=gd (0≤a0∧a0≤4294967296) (some [])
theorem zR0:Lays8.n4 C.P ⟨fun | 4=>168 | n=>n,fun | 22=>49 | 25=>119 | n=>n,fun n=>n⟩ where
 mixed:=zd8
 f4:=⟨ "slices.Grow[[]clusterlocks/api.Wait,clusterlocks/api.Wait]",by decide,Tryz.func168.trans (congrArg some (by kernel_rfl))⟩
 t0:=Tryz.underlying0
 a0:=Tryz.isAgg0
 z0:=Tryz.sizeOf0
 v0:=Tryz.zeroValue0
 t3:=Tryz.underlying3
 a3:=Tryz.isAgg3
 z3:=Tryz.sizeOf3
 v3:=Tryz.zeroValue3
 t4:=Tryz.underlying4
 a4:=Tryz.isAgg4
 z4:=Tryz.sizeOf4
 v4:=Tryz.zeroValue4
 t9:=Tryz.underlying9
 a9:=Tryz.isAgg9
 z9:=Tryz.sizeOf9
 v9:=Tryz.zeroValue9
 t20:=Tryz.underlying20
 a20:=Tryz.isAgg20
 z20:=Tryz.sizeOf20
 v20:=Tryz.zeroValue20
 t22:=Tryz.underlying49
 a22:=Tryz.isAgg49
 z22:=Tryz.sizeOf49
 v22:=Tryz.zeroValue49
theorem zP9 (a0:Int) (r:List Wait) (h:zc9 a0=some r):MFn C 168 [.full [],.int .i64 a0] [] 0 (.own 0 0 r.length) [(0,⟨false,7,(Wait.enc Wait.zero),r.map Wait.enc⟩)] 1:=by
 obtain ⟨⟨h0,h1⟩,h⟩:=za2 h
 obtain rfl:=Option.some.inj h
 exact zcc4 zR0 (by kernel_rfl) rfl _ a0 h0 h1
attribute [local irreducible] zc9
end Ab
end Go.Proofs.YtfjeceicgfdmjaaGreatDoor
