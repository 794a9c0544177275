/-
  Functions of the program,as Lean functions; what the program's code computes is what they say.
-/
import Derived.Test.YtfjeceicgfdmjaaGreatDoorCode
import Derived.Test.YtfjeceicgfdmjaaGreatDoorHand
import Derived.Test.YtfjeceicgfdmjaaGreatDoorSort
namespace Go.Proofs.YtfjeceicgfdmjaaGreatDoor
namespace Ab
set_option linter.unusedSimpArgs false
set_option linter.unusedVariables false
set_option maxRecDepth 100000
set_option maxHeartbeats 1000000
def zj2  (j1:Bool):Bool :=
 (if j1=true then
  true
 else
  false)
@[go_sem] def zeR7  (j1:Bool):St:=⟨[(4,.bool j1)],[],0⟩
def zw9 (a0:ByteArray):Bool :=
 (if (a0.toList == (⟨#[97,108,108]⟩:ByteArray).toList)=true then
  zj2 (a0.toList == (⟨#[97,108,108]⟩:ByteArray).toList)
 else
  (if (a0.toList == (⟨#[97,110,121]⟩:ByteArray).toList)=true then
   zj2 (a0.toList == (⟨#[97,110,121]⟩:ByteArray).toList)
  else
   (if (a0.toList == (⟨#[111,102]⟩:ByteArray).toList)=true then
    zj2 (a0.toList == (⟨#[111,102]⟩:ByteArray).toList)
   else
    (if (a0.toList == (⟨#[112,114,105,111]⟩:ByteArray).toList)=true then
     zj2 (a0.toList == (⟨#[112,114,105,111]⟩:ByteArray).toList)
    else
     zj2 (a0.toList == (⟨#[108,105,109,105,116]⟩:ByteArray).toList)))))
theorem zaz4 (a0:ByteArray):PFn C 156 [.str a0] (.bool (zw9 a0)):=by
 generalize h:zw9 a0=r
 refine za8 ck_0 rfl fun E hG hN hK=>?_
 unfold pc_0
 unfold zw9 at h
 refine za0 (za1 hG ?_)
 refine za0 (za0 (za1 hG ?_))
 refine zb6 (za0 (za0 (za1 hG ?_)))
 refine zaV3 (zeR7) (fun v=>zj2 v=r) rfl hG h ?_ (fun _ h=>?_) (fun _ h=>?_)
 · intro j1 h
   unfold zj2 at h
   refine g_st ?_
   refine za4 rfl hG h (fun _ h=>?_) (fun _ h=>?_)
   · refine za0 (za1 hG ?_)
     refine za7 ?_
     exact zf1 h
   refine za5 ?_
   refine za0 (za1 hG ?_)
   refine za7 ?_
   exact zf1 h
 · refine za5 ?_
   exact zc5 hK [] (a0.toList == (⟨#[97,108,108]⟩:ByteArray).toList) (by exact h)
 refine za0 (za1 hG ?_)
 refine za4 rfl hG h (fun _ h=>?_) (fun _ h=>?_)
 · refine za5 ?_
   exact zc5 hK [] (a0.toList == (⟨#[97,110,121]⟩:ByteArray).toList) (by exact h)
 refine za0 (za1 hG ?_)
 refine za4 rfl hG h (fun _ h=>?_) (fun _ h=>?_)
 · refine za5 ?_
   exact zc5 hK [] (a0.toList == (⟨#[111,102]⟩:ByteArray).toList) (by exact h)
 refine za0 (za1 hG ?_)
 refine za4 rfl hG h (fun _ h=>?_) (fun _ h=>?_)
 · refine za5 ?_
   exact zc5 hK [] (a0.toList == (⟨#[112,114,105,111]⟩:ByteArray).toList) (by exact h)
 refine za1 hG ?_
 exact zc5 hK [] (a0.toList == (⟨#[108,105,109,105,116]⟩:ByteArray).toList) (by exact h)
noncomputable def zI3  (j1:Unit):Option (Bool) :=
 some true
@[go_sem] def zeR8  (j1:Unit):St:=⟨[],[],0⟩
noncomputable def zp1 (a0:ByteArray) (g1:Int):Option ((Int)⊕((Unit)⊕(Bool))) :=
 (if (decide (g1 < (a0.size:Int)))=true then
  gd (0≤g1∧g1 < (a0.size:Int)) <|
  (if ((!((decide (97≤((a0.toList.getD g1.toNat 0).toNat:Int)))&&(decide (((a0.toList.getD g1.toNat 0).toNat:Int)≤122))))&&((decide (g1=0))||(!((((decide (48≤((a0.toList.getD g1.toNat 0).toNat:Int)))&&(decide (((a0.toList.getD g1.toNat 0).toNat:Int)≤57)))||(decide (((a0.toList.getD g1.toNat 0).toNat:Int)=95)))||(decide (((a0.toList.getD g1.toNat 0).toNat:Int)=45))))))=true then
   some (.inr (.inr false))
  else
   some (.inl (IntKind.i64.wrap (g1+1))))
 else
  some (.inr (.inl ())))
@[go_sem] def zeR9 (a0:ByteArray) (g1:Int):St:=⟨[(0,.str a0),(20,.int .i64 (a0.size:Int)),(21,.int .i64 g1)],[],0⟩
noncomputable def zf3 (a0:ByteArray):Option (Bool) :=
 (if (((decide ((a0.size:Int) < 1))||(decide (12 < (a0.size:Int))))||(zw9 a0))=true then
  some false
 else
  (zb9 (zp1 a0) 0).bind (fun | .inl z=>zI3 z | .inr z=>some z))
theorem zau2 (a0:ByteArray) (r:Bool) (h:zf3 a0=some r):PFn C 125 [.str a0] (.bool r):=by
 refine za8 ck_1 rfl fun E hG hN hK=>?_
 unfold pc_1
 unfold zf3 at h
 refine za0 (za1 hG ?_)
 refine za0 (za0 (za1 hG ?_))
 refine za6 (fun hg=>zaz4 a0) ?_
 refine za4 rfl hG h (fun _ h=>?_) (fun _ h=>?_)
 · refine za0 (za1 hG ?_)
   refine za7 ?_
   exact zb0 h
 refine za5 ?_
 refine za0 (za0 (za1 hG ?_))
 refine zb4 (zeR8) (fun v=>zI3 v=some r) ?_ ?_
 · intro j1 h
   unfold zI3 at h
   refine g_st ?_
   refine za0 (za1 hG ?_)
   refine za7 ?_
   exact zb0 h
 refine zd9 (zeR9 a0) hK [] h (fun x_l1 h g1 y_l1 h_l1 hx_l1=>?_)
 unfold zp1 at h_l1
 refine g_st ?_
 refine za0 (za1 hG ?_)
 refine za0 ?_
 refine za4 rfl hG h_l1 (fun _ h_l1=>?_) (fun _ h_l1=>?_)
 · refine za5 ?_
   refine za0 (zb6 (za0 (za1 hG ?_)))
   refine za0 ?_
   obtain ⟨hb1,h_l1⟩:=za3 h_l1
   refine za1 hG ?_
   refine za0 (za1 hG ?_)
   refine za0 (za1 hG ?_)
   refine za0 (za1 hG ?_)
   refine za4 rfl hG h_l1 (fun _ h_l1=>?_) (fun _ h_l1=>?_)
   · refine za0 (za1 hG ?_)
     refine za7 ?_
     obtain rfl:=Option.some.inj h_l1
     have hx:=hx_l1 _ rfl
     subst hx
     try dsimp only at h
     exact zb0 h
   refine za5 ?_
   refine za1 hG ?_
   exact zd1 hK [] h_l1
 refine zc7 ?_
 obtain rfl:=Option.some.inj h_l1
 have hx:=hx_l1 _ rfl
 subst hx
 try dsimp only at h
 exact zc5 hK [] () (by exact h)
attribute [local irreducible] zf3
def zb5 (a0:Resource):Bool :=
 (if (decide (a0.kind=1))=true then
  (decide (a0.units=1))
 else
  (if (decide (a0.kind=2))=true then
   ((decide (1≤a0.units))&&(decide (a0.units≤8)))
  else
   false))
theorem zG9 (a0:Resource):PFn C 126 [.agg (Resource.enc a0)] (.bool (zb5 a0)):=by
 generalize h:zb5 a0=r
 refine za8 ck_2 rfl fun E hG hN hK=>?_
 unfold pc_2
 unfold zb5 at h
 refine za0 (za1 hG ?_)
 refine za0 (za0 (za1 hG ?_))
 refine zb6 (za0 (za1 hG ?_))
 refine za4 rfl hG h (fun _ h=>?_) (fun _ h=>?_)
 · refine za0 (za1 hG ?_)
   refine za7 ?_
   exact zf1 h
 refine za0 (za1 hG ?_)
 refine za4 rfl hG h (fun _ h=>?_) (fun _ h=>?_)
 · refine za0 (za1 hG ?_)
   refine za7 ?_
   exact zf1 h
 refine za5 ?_
 refine za0 (za1 hG ?_)
 refine za7 ?_
 exact zf1 h
noncomputable def zd3 (a0:Resource):Option (Bool) :=
 (zf3 a0.name).bind fun v1 =>
 some (((v1&&(zb5 a0))&&(decide (0≤a0.home)))&&(decide (a0.home < 4)))
theorem zG0 (a0:Resource) (r:Bool) (h:zd3 a0=some r):PFn C 82 [.agg (Resource.enc a0)] (.bool r):=by
 refine za8 ck_3 rfl fun E hG hN hK=>?_
 unfold pc_3
 unfold zd3 at h
 refine za0 (za1 hG ?_)
 refine za0 (za1 hG ?_)
 obtain ⟨v1,hv1,h⟩:=za2 h
 refine za6 (fun hg=>zau2 a0.name _ (hv1)) ?_
 refine za6 (fun hg=>zG9 a0) ?_
 refine za7 ?_
 exact zb0 h
attribute [local irreducible] zd3
noncomputable def zR8  (j1:Unit):Option (Bool) :=
 some true
@[go_sem] def zeS0  (j1:Unit):St:=⟨[],[],0⟩
noncomputable def zI4 (a0:List Resource) (g1:Int):Option ((Int)⊕((Unit)⊕(Bool))) :=
 (if (decide (g1 < (a0.length:Int)))=true then
  gd (0≤g1∧g1 < (a0.length:Int)) <|
  (zd3 (a0.getD g1.toNat Resource.zero)).bind fun v1 =>
  gd ((v1&&(decide (0 < g1)))=true→0≤(IntKind.i64.wrap (g1 - 1))∧(IntKind.i64.wrap (g1 - 1)) < (a0.length:Int)) <|
  (if ((!v1)||((decide (0 < g1))&&(!Op.bytesLess ((a0.getD ((IntKind.i64.wrap (g1 - 1)).toNat) Resource.zero).name).toList ((a0.getD g1.toNat Resource.zero).name).toList)))=true then
   some (.inr (.inr false))
  else
   some (.inl (IntKind.i64.wrap (g1+1))))
 else
  some (.inr (.inl ())))
@[go_sem] def zeS1 (a0:List Resource) (g1:Int):St:=⟨[(0,.sl (a0.map Resource.enc)),(8,.sl (a0.map Resource.enc)),(9,.int .i64 (a0.length:Int)),(10,.int .i64 g1)],[],0⟩
noncomputable def zj5 (a0:List Resource):Option (Bool) :=
 (if (decide (8 < (a0.length:Int)))=true then
  some false
 else
  (zb9 (zI4 a0) 0).bind (fun | .inl z=>zR8 z | .inr z=>some z))
theorem zaL7 (a0:List Resource) (r:Bool) (h:zj5 a0=some r):PFn C 48 [.sl (a0.map Resource.enc)] (.bool r):=by
 refine za8 ck_4 rfl fun E hG hN hK=>?_
 unfold pc_4
 unfold zj5 at h
 refine za0 (za1 hG ?_)
 refine za0 (za0 (za1 hG ?_))
 refine za4 rfl hG h (fun _ h=>?_) (fun _ h=>?_)
 · refine za0 (za1 hG ?_)
   refine za7 ?_
   exact zb0 h
 refine za5 ?_
 refine za0 (za0 (za1 hG ?_))
 refine zb4 (zeS0) (fun v=>zR8 v=some r) ?_ ?_
 · intro j1 h
   unfold zR8 at h
   refine g_st ?_
   refine za0 (za1 hG ?_)
   refine za7 ?_
   exact zb0 h
 refine zd9 (zeS1 a0) hK [] h (fun x_l1 h g1 y_l1 h_l1 hx_l1=>?_)
 unfold zI4 at h_l1
 refine g_st ?_
 refine za0 (za1 hG ?_)
 refine za0 ?_
 refine za4 rfl hG h_l1 (fun _ h_l1=>?_) (fun _ h_l1=>?_)
 · refine za5 ?_
   refine za0 (zb6 (za0 ?_))
   obtain ⟨hb2,h_l1⟩:=za3 h_l1
   refine za1 hG ?_
   refine za0 (zn3 zd2 hG ?_)
   obtain ⟨v1,hv1,h_l1⟩:=za2 h_l1
   obtain ⟨hb1,h_l1⟩:=za3 h_l1
   refine zf7 (fun hg=>zG0 (a0.getD g1.toNat Resource.zero) _ (hv1)) ?_
   refine za4 rfl hG h_l1 (fun _ h_l1=>?_) (fun _ h_l1=>?_)
   · refine za0 (za1 hG ?_)
     refine za7 ?_
     obtain rfl:=Option.some.inj h_l1
     have hx:=hx_l1 _ rfl
     subst hx
     try dsimp only at h
     exact zb0 h
   refine za5 ?_
   refine za1 hG ?_
   exact zd1 hK [] h_l1
 refine zc7 ?_
 obtain rfl:=Option.some.inj h_l1
 have hx:=hx_l1 _ rfl
 subst hx
 try dsimp only at h
 exact zc5 hK [] () (by exact h)
attribute [local irreducible] zj5
noncomputable def zv5 (a0:Resource):Option (Queue×Int) :=
 (zd3 a0).bind fun v1 =>
 (if (!v1)=true then
  some ({ Queue.zero with  },1)
 else
  some ({ Queue.zero with resource:=a0 },0))
theorem zbq1 (a0:Resource) (r:Queue×Int) (h:zv5 a0=some r):PFn C 49 [.agg (Resource.enc a0)] (.tup [.agg (Queue.enc r.1),.int .i64 r.2]):=by
 refine za8 ck_5 rfl fun E hG hN hK=>?_
 unfold pc_5
 unfold zv5 at h
 refine za0 (za1 hG ?_)
 refine za0 (za0 (za1 hG ?_))
 obtain ⟨v1,hv1,h⟩:=za2 h
 refine za6 (fun hg=>zG0 a0 _ (hv1)) ?_
 refine za4 rfl hG h (fun _ h=>?_) (fun _ h=>?_)
 · refine za0 (za1 hG ?_)
   refine za7 ?_
   exact zb0 h
 refine za5 ?_
 refine za0 (za1 hG ?_)
 refine za7 ?_
 exact zb0 h
attribute [local irreducible] zv5
noncomputable def zae5  (j1:(List Queue)):Option ((List Queue)×Int) :=
 some (j1,0)
@[go_sem] def zeS2  (j1:(List Queue)):St:=⟨[(4,.own 0 0 j1.length)],[(0,⟨false,8,(Queue.enc Queue.zero),j1.map Queue.enc⟩)],1⟩
noncomputable def zL9 (a0:List Resource) (g1:Int×(List Queue)):Option ((Int×(List Queue))⊕(((List Queue))⊕((List Queue)×Int))) :=
 (if (decide (g1.1 < (a0.length:Int)))=true then
  gd (0≤g1.1∧g1.1 < (a0.length:Int)) <|
  (zv5 (a0.getD g1.1.toNat Resource.zero)).bind fun v2 =>
  (if (!decide (v2.2=0))=true then
   some (.inr (.inr ([],v2.2)))
  else
   gd (g1.2.length+1≤4294967296) <|
   some (.inl ((IntKind.i64.wrap (g1.1+1)),(g1.2++[v2.1]))))
 else
  some (.inr (.inl g1.2)))
@[go_sem] def zeS3 (a0:List Resource) (g1:Int×(List Queue)):St:=⟨[(4,.own 0 0 g1.2.length),(12,.sl (a0.map Resource.enc)),(13,.int .i64 (a0.length:Int)),(14,.int .i64 g1.1)],[(0,⟨false,8,(Queue.enc Queue.zero),g1.2.map Queue.enc⟩)],1⟩
noncomputable def zs3 (a0:List Resource):Option ((List Queue)×Int) :=
 (zj5 a0).bind fun v1 =>
 (if (!v1)=true then
  some ([],1)
 else
  (zb9 (zL9 a0) (0,[])).bind (fun | .inl z=>zae5 z | .inr z=>some z))
theorem zaG2 (a0:List Resource) (r:(List Queue)×Int) (h:zs3 a0=some r):PFn C 12 [.sl (a0.map Resource.enc)] (.tup [.sl (r.1.map Queue.enc),.int .i64 r.2]):=by
 refine za8 ck_6 rfl fun E hG hN hK=>?_
 unfold pc_6
 unfold zs3 at h
 refine za0 (za1 hG ?_)
 refine za0 (za0 (za1 hG ?_))
 obtain ⟨v1,hv1,h⟩:=za2 h
 refine za6 (fun hg=>zaL7 a0 _ (hv1)) ?_
 refine za4 rfl hG h (fun _ h=>?_) (fun _ h=>?_)
 · refine za0 (za1 hG ?_)
   refine za7 ?_
   exact zb0 h
 refine za5 ?_
 refine za0 (za1 hG ?_)
 refine za0 (za0 (za1 hG ?_))
 refine zb4 (zeS2) (fun v=>zae5 v=some r) ?_ ?_
 · intro j1 h
   unfold zae5 at h
   refine g_st ?_
   refine za0 (za1 hG ?_)
   refine za7 ?_
   exact zb0 h
 refine zd9 (zeS3 a0) hK [(0,0)] h (fun x_l1 h g1 y_l1 h_l1 hx_l1=>?_)
 unfold zL9 at h_l1
 refine g_st ?_
 refine za0 (za1 hG ?_)
 refine za0 ?_
 refine za4 rfl hG h_l1 (fun _ h_l1=>?_) (fun _ h_l1=>?_)
 · refine za5 ?_
   refine za0 (zb6 (za0 ?_))
   obtain ⟨hb2,h_l1⟩:=za3 h_l1
   refine za1 hG ?_
   refine za0 (za1 hG ?_)
   obtain ⟨v2,hv2,h_l1⟩:=za2 h_l1
   refine za6 (fun hg=>zbq1 (a0.getD g1.1.toNat Resource.zero) _ (hv2)) ?_
   refine za0 (za0 (za1 hG ?_))
   refine za4 rfl hG h_l1 (fun _ h_l1=>?_) (fun _ h_l1=>?_)
   · refine za0 (za1 hG ?_)
     refine za7 ?_
     obtain rfl:=Option.some.inj h_l1
     have hx:=hx_l1 _ rfl
     subst hx
     try dsimp only at h
     exact zb0 h
   refine za5 ?_
   obtain ⟨hb1,h_l1⟩:=za3 h_l1
   refine za1 hG ?_
   refine za1 hG ?_
   exact zd1 hK [(0,3)] h_l1
 refine zc7 ?_
 obtain rfl:=Option.some.inj h_l1
 have hx:=hx_l1 _ rfl
 subst hx
 try dsimp only at h
 exact zc5 hK [(0,0)] g1.2 (by exact h)
attribute [local irreducible] zs3
def zt9 (a0:Int):Bool :=
 ((decide (97≤a0))&&(decide (a0≤122)))
theorem zar5 (a0:Int):PFn C 157 [.int .u8 a0] (.bool (zt9 a0)):=by
 generalize h:zt9 a0=r
 refine za8 ck_7 rfl fun E hG hN hK=>?_
 unfold pc_7
 unfold zt9 at h
 refine za0 (za1 hG ?_)
 refine za0 (za1 hG ?_)
 refine za7 ?_
 exact zf1 h
def zp2 (a0:ByteArray):Bool :=
 (((((a0.toList == (⟨#[97,108,108]⟩:ByteArray).toList)||(a0.toList == (⟨#[97,110,121]⟩:ByteArray).toList))||(a0.toList == (⟨#[111,102]⟩:ByteArray).toList))||(a0.toList == (⟨#[112,114,105,111]⟩:ByteArray).toList))||(a0.toList == (⟨#[108,105,109,105,116]⟩:ByteArray).toList))
theorem zaG3 (a0:ByteArray):PFn C 158 [.str a0] (.bool (zp2 a0)):=by
 generalize h:zp2 a0=r
 refine za8 ck_8 rfl fun E hG hN hK=>?_
 unfold pc_8
 unfold zp2 at h
 refine za0 (za1 hG ?_)
 refine za0 (za1 hG ?_)
 refine za7 ?_
 exact zf1 h
def zn0 (a0:Int):Bool :=
 ((((zt9 a0)||((decide (48≤a0))&&(decide (a0≤57))))||(decide (a0=95)))||(decide (a0=45)))
theorem zbh4 (a0:Int):PFn C 159 [.int .u8 a0] (.bool (zn0 a0)):=by
 generalize h:zn0 a0=r
 refine za8 ck_9 rfl fun E hG hN hK=>?_
 unfold pc_9
 unfold zn0 at h
 refine za0 (za1 hG ?_)
 refine za0 (za1 hG ?_)
 refine za6 (fun hg=>zar5 a0) ?_
 refine za7 ?_
 exact zf1 h
noncomputable def zM0  (j1:Unit):Option (Bool) :=
 some true
@[go_sem] def zeS4  (j1:Unit):St:=⟨[],[],0⟩
noncomputable def zs4 (a0:ByteArray) (g1:Int):Option ((Int)⊕((Unit)⊕(Bool))) :=
 (if (decide (g1 < (a0.size:Int)))=true then
  gd (0≤g1∧g1 < (a0.size:Int)) <|
  (if (!(zn0 ((a0.toList.getD g1.toNat 0).toNat:Int)))=true then
   some (.inr (.inr false))
  else
   some (.inl (IntKind.i64.wrap (g1+1))))
 else
  some (.inr (.inl ())))
@[go_sem] def zeS5 (a0:ByteArray) (g1:Int):St:=⟨[(0,.str a0),(3,.int .i64 g1)],[],0⟩
noncomputable def zg6 (a0:ByteArray):Option (Bool) :=
 gd ((!((decide ((a0.size:Int) < 1))||(decide (12 < (a0.size:Int)))))=true→0≤0∧0 < (a0.size:Int)) <|
 (if ((((decide ((a0.size:Int) < 1))||(decide (12 < (a0.size:Int))))||(!(zt9 ((a0.toList.getD 0 0).toNat:Int))))||(zp2 a0))=true then
  some false
 else
  (zb9 (zs4 a0) 0).bind (fun | .inl z=>zM0 z | .inr z=>some z))
theorem zaD6 (a0:ByteArray) (r:Bool) (h:zg6 a0=some r):PFn C 127 [.str a0] (.bool r):=by
 refine za8 ck_a rfl fun E hG hN hK=>?_
 unfold pc_a
 unfold zg6 at h
 refine za0 (za1 hG ?_)
 refine za0 (za0 ?_)
 obtain ⟨hb2,h⟩:=za3 h
 refine za1 hG ?_
 refine za6 (fun hg=>zar5 ((a0.toList.getD 0 0).toNat:Int)) ?_
 refine za6 (fun hg=>zaG3 a0) ?_
 refine za4 rfl hG h (fun _ h=>?_) (fun _ h=>?_)
 · refine za0 (za1 hG ?_)
   refine za7 ?_
   exact zb0 h
 refine za5 ?_
 refine za0 (za0 (za1 hG ?_))
 refine zb4 (zeS4) (fun v=>zM0 v=some r) ?_ ?_
 · intro j1 h
   unfold zM0 at h
   refine g_st ?_
   refine za0 (za1 hG ?_)
   refine za7 ?_
   exact zb0 h
 refine zd9 (zeS5 a0) hK [] h (fun x_l1 h g1 y_l1 h_l1 hx_l1=>?_)
 unfold zs4 at h_l1
 refine g_st ?_
 refine za0 (za0 (za1 hG ?_))
 refine za4 rfl hG h_l1 (fun _ h_l1=>?_) (fun _ h_l1=>?_)
 · refine za5 ?_
   refine za0 (zb6 (za0 ?_))
   obtain ⟨hb1,h_l1⟩:=za3 h_l1
   refine za1 hG ?_
   refine za6 (fun hg=>zbh4 ((a0.toList.getD g1.toNat 0).toNat:Int)) ?_
   refine za4 rfl hG h_l1 (fun _ h_l1=>?_) (fun _ h_l1=>?_)
   · refine za0 (za1 hG ?_)
     refine za7 ?_
     obtain rfl:=Option.some.inj h_l1
     have hx:=hx_l1 _ rfl
     subst hx
     try dsimp only at h
     exact zb0 h
   refine za5 ?_
   refine za1 hG ?_
   exact zd1 hK [] h_l1
 refine zc7 ?_
 obtain rfl:=Option.some.inj h_l1
 have hx:=hx_l1 _ rfl
 subst hx
 try dsimp only at h
 exact zc5 hK [] () (by exact h)
attribute [local irreducible] zg6
def zq1 (a0:Resource):Bool :=
 (((decide (a0.kind=1))&&(decide (a0.units=1)))||(((decide (a0.kind=2))&&(decide (1≤a0.units)))&&(decide (a0.units≤8))))
theorem zK0 (a0:Resource):PFn C 128 [.agg (Resource.enc a0)] (.bool (zq1 a0)):=by
 generalize h:zq1 a0=r
 refine za8 ck_b rfl fun E hG hN hK=>?_
 unfold pc_b
 unfold zq1 at h
 refine za0 (za1 hG ?_)
 refine za0 (za1 hG ?_)
 refine za7 ?_
 exact zf1 h
noncomputable def ze1 (a0:Resource):Option (Bool) :=
 (zg6 a0.name).bind fun v1 =>
 some (((v1&&(zq1 a0))&&(decide (0≤a0.home)))&&(decide (a0.home < 4)))
theorem zU0 (a0:Resource) (r:Bool) (h:ze1 a0=some r):PFn C 83 [.agg (Resource.enc a0)] (.bool r):=by
 refine za8 ck_c rfl fun E hG hN hK=>?_
 unfold pc_c
 unfold ze1 at h
 refine za0 (za1 hG ?_)
 refine za0 (za1 hG ?_)
 obtain ⟨v1,hv1,h⟩:=za2 h
 refine za6 (fun hg=>zaD6 a0.name _ (hv1)) ?_
 refine za6 (fun hg=>zK0 a0) ?_
 refine za7 ?_
 exact zb0 h
attribute [local irreducible] ze1
noncomputable def zX4  (j1:Unit):Option (Bool) :=
 some true
@[go_sem] def zeS6  (j1:Unit):St:=⟨[],[],0⟩
noncomputable def zN9 (a0:List Resource) (g1:Int):Option ((Int)⊕((Unit)⊕(Bool))) :=
 (if (decide (g1 < (a0.length:Int)))=true then
  gd (0≤g1∧g1 < (a0.length:Int)) <|
  (ze1 (a0.getD g1.toNat Resource.zero)).bind fun v1 =>
  gd ((v1&&(decide (0 < g1)))=true→0≤(IntKind.i64.wrap (g1 - 1))∧(IntKind.i64.wrap (g1 - 1)) < (a0.length:Int)) <|
  gd ((v1&&(decide (0 < g1)))=true→0≤g1∧g1 < (a0.length:Int)) <|
  (if ((!v1)||((decide (0 < g1))&&(!Op.bytesLess ((a0.getD ((IntKind.i64.wrap (g1 - 1)).toNat) Resource.zero).name).toList ((a0.getD g1.toNat Resource.zero).name).toList)))=true then
   some (.inr (.inr false))
  else
   some (.inl (IntKind.i64.wrap (g1+1))))
 else
  some (.inr (.inl ())))
@[go_sem] def zeS7 (a0:List Resource) (g1:Int):St:=⟨[(0,.sl (a0.map Resource.enc)),(3,.int .i64 g1)],[],0⟩
noncomputable def zo1 (a0:List Resource):Option (Bool) :=
 (if (decide (8 < (a0.length:Int)))=true then
  some false
 else
  (zb9 (zN9 a0) 0).bind (fun | .inl z=>zX4 z | .inr z=>some z))
theorem zba2 (a0:List Resource) (r:Bool) (h:zo1 a0=some r):PFn C 50 [.sl (a0.map Resource.enc)] (.bool r):=by
 refine za8 ck_d rfl fun E hG hN hK=>?_
 unfold pc_d
 unfold zo1 at h
 refine za0 (za1 hG ?_)
 refine za0 (za0 (za1 hG ?_))
 refine za4 rfl hG h (fun _ h=>?_) (fun _ h=>?_)
 · refine za0 (za1 hG ?_)
   refine za7 ?_
   exact zb0 h
 refine za5 ?_
 refine za0 (za0 (za1 hG ?_))
 refine zb4 (zeS6) (fun v=>zX4 v=some r) ?_ ?_
 · intro j1 h
   unfold zX4 at h
   refine g_st ?_
   refine za0 (za1 hG ?_)
   refine za7 ?_
   exact zb0 h
 refine zd9 (zeS7 a0) hK [] h (fun x_l1 h g1 y_l1 h_l1 hx_l1=>?_)
 unfold zN9 at h_l1
 refine g_st ?_
 refine za0 (za0 (za1 hG ?_))
 refine za4 rfl hG h_l1 (fun _ h_l1=>?_) (fun _ h_l1=>?_)
 · refine za5 ?_
   refine za0 (zb6 (za0 ?_))
   obtain ⟨hb1,h_l1⟩:=za3 h_l1
   refine zn3 zd2 hG ?_
   obtain ⟨v1,hv1,h_l1⟩:=za2 h_l1
   obtain ⟨hb2,h_l1⟩:=za3 h_l1
   obtain ⟨hb3,h_l1⟩:=za3 h_l1
   refine zf7 (fun hg=>zU0 (a0.getD g1.toNat Resource.zero) _ (hv1)) ?_
   refine za4 rfl hG h_l1 (fun _ h_l1=>?_) (fun _ h_l1=>?_)
   · refine za0 (za1 hG ?_)
     refine za7 ?_
     obtain rfl:=Option.some.inj h_l1
     have hx:=hx_l1 _ rfl
     subst hx
     try dsimp only at h
     exact zb0 h
   refine za5 ?_
   refine za1 hG ?_
   exact zd1 hK [] h_l1
 refine zc7 ?_
 obtain rfl:=Option.some.inj h_l1
 have hx:=hx_l1 _ rfl
 subst hx
 try dsimp only at h
 exact zc5 hK [] () (by exact h)
attribute [local irreducible] zo1
noncomputable def zae6  (j1:(List Queue)):Option ((List Queue)×Int) :=
 some (j1,0)
@[go_sem] def zeS8  (j1:(List Queue)):St:=⟨[(4,.own 0 0 j1.length)],[(0,⟨false,8,(Queue.enc Queue.zero),j1.map Queue.enc⟩)],1⟩
noncomputable def zU1 (a0:List Resource) (g1:Int×(List Queue)):Option ((Int×(List Queue))⊕(((List Queue)))) :=
 (if (decide (g1.1 < (a0.length:Int)))=true then
  gd (0≤g1.1∧g1.1 < (a0.length:Int)) <|
  gd (g1.2.length+1≤4294967296) <|
  some (.inl ((IntKind.i64.wrap (g1.1+1)),(g1.2++[{ Queue.zero with resource:=(a0.getD g1.1.toNat Resource.zero) }])))
 else
  some (.inr g1.2))
@[go_sem] def zeS9 (a0:List Resource) (g1:Int×(List Queue)):St:=⟨[(0,.sl (a0.map Resource.enc)),(4,.own 0 0 g1.2.length),(5,.int .i64 g1.1)],[(0,⟨false,8,(Queue.enc Queue.zero),g1.2.map Queue.enc⟩)],1⟩
noncomputable def zv6 (a0:List Resource):Option ((List Queue)×Int) :=
 (zo1 a0).bind fun v1 =>
 (if (!v1)=true then
  some ([],1)
 else
  (zb9 (zU1 a0) (0,[])).bind (fun z=>zae6 z))
theorem zbq2 (a0:List Resource) (r:(List Queue)×Int) (h:zv6 a0=some r):PFn C 13 [.sl (a0.map Resource.enc)] (.tup [.sl (r.1.map Queue.enc),.int .i64 r.2]):=by
 refine za8 ck_e rfl fun E hG hN hK=>?_
 unfold pc_e
 unfold zv6 at h
 refine za0 (za1 hG ?_)
 refine za0 (za0 (za1 hG ?_))
 obtain ⟨v1,hv1,h⟩:=za2 h
 refine za6 (fun hg=>zba2 a0 _ (hv1)) ?_
 refine za4 rfl hG h (fun _ h=>?_) (fun _ h=>?_)
 · refine za0 (za1 hG ?_)
   refine za7 ?_
   exact zb0 h
 refine za5 ?_
 refine za0 (za1 hG ?_)
 refine za0 (za0 (za1 hG ?_))
 refine zb4 (zeS8) (fun v=>zae6 v=some r) ?_ ?_
 · intro j1 h
   unfold zae6 at h
   refine g_st ?_
   refine za0 (za1 hG ?_)
   refine za7 ?_
   exact zb0 h
 refine zd9 (zeS9 a0) hK [(0,0)] h (fun x_l1 h g1 y_l1 h_l1 hx_l1=>?_)
 unfold zU1 at h_l1
 refine g_st ?_
 refine za0 (za0 (za1 hG ?_))
 refine za4 rfl hG h_l1 (fun _ h_l1=>?_) (fun _ h_l1=>?_)
 · refine za5 ?_
   refine za0 (zb6 ?_)
   obtain ⟨hb1,h_l1⟩:=za3 h_l1
   obtain ⟨hb2,h_l1⟩:=za3 h_l1
   refine za1 hG ?_
   refine za1 hG ?_
   exact zd1 hK [(0,1)] h_l1
 refine zc7 ?_
 obtain rfl:=Option.some.inj h_l1
 have hx:=hx_l1 _ rfl
 subst hx
 try dsimp only at h
 exact zc5 hK [(0,0)] g1.2 (by exact h)
attribute [local irreducible] zv6
noncomputable def zn8 (a0:Int) (a1:Int):Option (Int) :=
 (if (decide (a1 < 1))=true then
  some 0
 else
  gd (a1≠0) <|
  (if (decide ((a0.tmod a1) < 0))=true then
   some (IntKind.i64.wrap ((a0.tmod a1)+a1))
  else
   some (a0.tmod a1)))
theorem zT1 (a0:Int) (a1:Int) (r:Int) (h:zn8 a0 a1=some r):PFn C 22 [.int .i64 a0,.int .i64 a1] (.int .i64 r):=by
 refine za8 ck_f rfl fun E hG hN hK=>?_
 unfold pc_f
 unfold zn8 at h
 refine za0 (za1 hG ?_)
 refine za0 (za0 (za1 hG ?_))
 refine za4 rfl hG h (fun _ h=>?_) (fun _ h=>?_)
 · refine za0 (za1 hG ?_)
   refine za7 ?_
   exact zb0 h
 refine za5 ?_
 refine za0 ?_
 obtain ⟨hb1,h⟩:=za3 h
 refine za1 hG ?_
 refine za0 (za0 (za1 hG ?_))
 refine za4 rfl hG h (fun _ h=>?_) (fun _ h=>?_)
 · refine za1 hG ?_
   refine za0 (za1 hG ?_)
   refine za7 ?_
   exact zb0 h
 refine za5 ?_
 refine za0 (za1 hG ?_)
 refine za7 ?_
 exact zb0 h
attribute [local irreducible] zn8
noncomputable def zn9 (a0:Int):Option (Proc) :=
 (zn8 a0 8).bind fun v1 =>
 some (⟨(v1.tmod 4),1,(IntKind.i64.wrap (1+(IntKind.i64.wrap (v1.tdiv 4))))⟩:Proc)
theorem zac9 (a0:Int) (r:Proc) (h:zn9 a0=some r):PFn C 23 [.int .i64 a0] (.agg (Proc.enc r)):=by
 refine za8 ck_g rfl fun E hG hN hK=>?_
 unfold pc_g
 unfold zn9 at h
 refine za0 (za1 hG ?_)
 refine za0 (za1 hG ?_)
 obtain ⟨v1,hv1,h⟩:=za2 h
 refine za6 (fun hg=>zT1 a0 8 _ (hv1)) ?_
 refine za0 (za1 hG ?_)
 refine za7 ?_
 exact zb0 h
attribute [local irreducible] zn9
def zr4 (a0:Int) (a1:Int) (a2:Int):Bool :=
 ((decide (a1≤a0))&&(decide (a0≤a2)))
theorem zX5 (a0:Int) (a1:Int) (a2:Int):PFn C 131 [.int .i64 a0,.int .i64 a1,.int .i64 a2] (.bool (zr4 a0 a1 a2)):=by
 generalize h:zr4 a0 a1 a2=r
 refine za8 ck_h rfl fun E hG hN hK=>?_
 unfold pc_h
 unfold zr4 at h
 refine za0 (za1 hG ?_)
 refine za0 (za1 hG ?_)
 refine za7 ?_
 exact zf1 h
def zb3 (a0:Proc):Bool :=
 (((zr4 a0.site 0 3)&&(zr4 a0.inc 1 99))&&(zr4 a0.num 1 999))
theorem zI5 (a0:Proc):PFn C 86 [.agg (Proc.enc a0)] (.bool (zb3 a0)):=by
 generalize h:zb3 a0=r
 refine za8 ck_i rfl fun E hG hN hK=>?_
 unfold pc_i
 unfold zb3 at h
 refine za0 (za1 hG ?_)
 refine za0 (za1 hG ?_)
 refine za6 (fun hg=>zX5 a0.site 0 3) ?_
 refine za6 (fun hg=>zX5 a0.inc 1 99) ?_
 refine za6 (fun hg=>zX5 a0.num 1 999) ?_
 refine za7 ?_
 exact zf1 h
def zg1 (a0:Int):Bool :=
 ((decide (1≤a0))&&(decide (a0≤5)))
theorem zQ9 (a0:Int):PFn C 132 [.int .i64 a0] (.bool (zg1 a0)):=by
 generalize h:zg1 a0=r
 refine za8 ck_j rfl fun E hG hN hK=>?_
 unfold pc_j
 unfold zg1 at h
 refine za0 (za1 hG ?_)
 refine za0 (za1 hG ?_)
 refine za7 ?_
 exact zf1 h
def za9 (a0:Resource) (a1:Amount):Bool :=
 (if (!(zb5 a0))=true then
  false
 else
  (if (decide (a0.kind=1))=true then
   ((zg1 a1.mode)&&(decide (a1.units=0)))
  else
   (((decide (a1.mode=0))&&(decide (1≤a1.units)))&&(decide (a1.units≤a0.units)))))
theorem zy2 (a0:Resource) (a1:Amount):PFn C 87 [.agg (Resource.enc a0),.agg (Amount.enc a1)] (.bool (za9 a0 a1)):=by
 generalize h:za9 a0 a1=r
 refine za8 ck_k rfl fun E hG hN hK=>?_
 unfold pc_k
 unfold za9 at h
 refine za0 (za1 hG ?_)
 refine za0 (za0 (za1 hG ?_))
 refine za6 (fun hg=>zG9 a0) ?_
 refine za4 rfl hG h (fun _ h=>?_) (fun _ h=>?_)
 · refine za0 (za1 hG ?_)
   refine za7 ?_
   exact zf1 h
 refine za5 ?_
 refine za0 (za0 (za1 hG ?_))
 refine za4 rfl hG h (fun _ h=>?_) (fun _ h=>?_)
 · refine za0 (za1 hG ?_)
   refine za6 (fun hg=>zQ9 a1.mode) ?_
   refine za7 ?_
   exact zf1 h
 refine za5 ?_
 refine za0 (za1 hG ?_)
 refine za7 ?_
 exact zf1 h
noncomputable def zC3  (j1:Unit):Option (Int) :=
 some 0
@[go_sem] def zeT0  (j1:Unit):St:=⟨[],[],0⟩
noncomputable def zd6 (a0:Arr Int 3) (a1:Arr Int 3) (g1:Int):Option ((Int)⊕((Unit)⊕(Int))) :=
 (if (decide (g1 < 3))=true then
  gd (0≤g1∧g1 < 3) <|
  gd (0≤g1∧g1 < 3) <|
  (if (decide ((Arr.get a0 g1.toNat 0) < (Arr.get a1 g1.toNat 0)))=true then
   some (.inr (.inr (-1)))
  else
   gd (0≤g1∧g1 < 3) <|
   (if (decide ((Arr.get a1 g1.toNat 0) < (Arr.get a0 g1.toNat 0)))=true then
    some (.inr (.inr 1))
   else
    some (.inl (IntKind.i64.wrap (g1+1)))))
 else
  some (.inr (.inl ())))
@[go_sem] def zeT1 (a0:Arr Int 3) (a1:Arr Int 3) (g1:Int):St:=⟨[(3,.ptr 0 0 0),(7,.agg (Arr.enc (eI .i64) a0)),(8,.int .i64 g1)],[(0,⟨false,3,(Arr.enc (eI .i64) (Arr.rep 3 0)),[Arr.enc (eI .i64) a1]⟩)],1⟩
noncomputable def zj6 (a0:Arr Int 3) (a1:Arr Int 3):Option (Int) :=
 (zb9 (zd6 a0 a1) 0).bind (fun | .inl z=>zC3 z | .inr z=>some z)
theorem zaL8 (a0:Arr Int 3) (a1:Arr Int 3) (r:Int) (h:zj6 a0 a1=some r):PFn C 155 [.agg (Arr.enc (eI .i64) a0),.agg (Arr.enc (eI .i64) a1)] (.int .i64 r):=by
 refine za8 ck_l rfl fun E hG hN hK=>?_
 unfold pc_l
 unfold zj6 at h
 refine za0 (za1 hG ?_)
 refine za0 (za0 (za1 hG ?_))
 refine zb4 (zeT0) (fun v=>zC3 v=some r) ?_ ?_
 · intro j1 h
   unfold zC3 at h
   refine g_st ?_
   refine za0 (za1 hG ?_)
   refine za7 ?_
   exact zb0 h
 refine zd9 (zeT1 a0 a1) hK [(0,1)] h (fun x_l1 h g1 y_l1 h_l1 hx_l1=>?_)
 unfold zd6 at h_l1
 refine g_st ?_
 refine za0 (za1 hG ?_)
 refine za0 ?_
 refine za4 rfl hG h_l1 (fun _ h_l1=>?_) (fun _ h_l1=>?_)
 · refine za5 ?_
   refine za0 (zb6 (za0 ?_))
   obtain ⟨hb3,h_l1⟩:=za3 h_l1
   refine za1 hG ?_
   refine za0 (za0 ?_)
   obtain ⟨hb2,h_l1⟩:=za3 h_l1
   refine za1 hG ?_
   refine za4 rfl hG h_l1 (fun _ h_l1=>?_) (fun _ h_l1=>?_)
   · refine za0 (za1 hG ?_)
     refine za7 ?_
     obtain rfl:=Option.some.inj h_l1
     have hx:=hx_l1 _ rfl
     subst hx
     try dsimp only at h
     exact zb0 h
   refine za5 ?_
   refine za0 ?_
   obtain ⟨hb1,h_l1⟩:=za3 h_l1
   refine za1 hG ?_
   refine za4 rfl hG h_l1 (fun _ h_l1=>?_) (fun _ h_l1=>?_)
   · refine za0 (za1 hG ?_)
     refine za7 ?_
     obtain rfl:=Option.some.inj h_l1
     have hx:=hx_l1 _ rfl
     subst hx
     try dsimp only at h
     exact zb0 h
   refine za5 ?_
   refine za1 hG ?_
   exact zd1 hK [(0,0)] h_l1
 refine zc7 ?_
 obtain rfl:=Option.some.inj h_l1
 have hx:=hx_l1 _ rfl
 subst hx
 try dsimp only at h
 exact zc5 hK [] () (by exact h)
attribute [local irreducible] zj6
noncomputable def ze0 (a0:Proc) (a1:Proc):Option (Int) :=
 (zj6 (⟨[a0.site,a0.inc,a0.num],rfl⟩:Arr Int 3) (⟨[a1.site,a1.inc,a1.num],rfl⟩:Arr Int 3)).bind fun v1 =>
 some v1
theorem zM1 (a0:Proc) (a1:Proc) (r:Int) (h:ze0 a0 a1=some r):PFn C 119 [.agg (Proc.enc a0),.agg (Proc.enc a1)] (.int .i64 r):=by
 refine za8 ck_m rfl fun E hG hN hK=>?_
 unfold pc_m
 unfold ze0 at h
 refine za0 (za1 hG ?_)
 refine za0 (za1 hG ?_)
 obtain ⟨v1,hv1,h⟩:=za2 h
 refine za6 (fun hg=>zaL8 (⟨[a0.site,a0.inc,a0.num],rfl⟩:Arr Int 3) (⟨[a1.site,a1.inc,a1.num],rfl⟩:Arr Int 3) _ (hv1)) ?_
 refine za7 ?_
 exact zb0 h
attribute [local irreducible] ze0
def zb8 (a0:Amount):Bool :=
 (decide (a0={ Amount.zero with  }))
theorem zo0 (a0:Amount):PFn C 90 [.agg (Amount.enc a0)] (.bool (zb8 a0)):=by
 generalize h:zb8 a0=r
 refine za8 ck_n rfl fun E hG hN hK=>?_
 unfold pc_n
 unfold zb8 at h
 refine za0 (za1 hG ?_)
 refine za0 (za1 hG ?_)
 refine za7 ?_
 exact zf1 h
def zb1 (a0:Resource) (a1:Amount):Bool :=
 ((zb5 a0)&&((zb8 a1)||(za9 a0 a1)))
theorem zA7 (a0:Resource) (a1:Amount):PFn C 133 [.agg (Resource.enc a0),.agg (Amount.enc a1)] (.bool (zb1 a0 a1)):=by
 generalize h:zb1 a0 a1=r
 refine za8 ck_o rfl fun E hG hN hK=>?_
 unfold pc_o
 unfold zb1 at h
 refine za0 (za1 hG ?_)
 refine za0 (za1 hG ?_)
 refine za6 (fun hg=>zG9 a0) ?_
 refine za6 (fun hg=>zo0 a1) ?_
 refine za6 (fun hg=>zy2 a0 a1) ?_
 refine za7 ?_
 exact zf1 h
noncomputable def zg7 (a0:Int) (a1:Int):Option (Bool) :=
 gd (((zg1 a0)&&(zg1 a1))=true→0≤(IntKind.i64.wrap (a0 - 1))∧(IntKind.i64.wrap (a0 - 1)) < 5) <|
 gd (((zg1 a0)&&(zg1 a1))=true→0≤(IntKind.i64.wrap (a1 - 1))∧(IntKind.i64.wrap (a1 - 1)) < 5) <|
 some (((zg1 a0)&&(zg1 a1))&&(Arr.get (Arr.get zba0 ((IntKind.i64.wrap (a0 - 1)).toNat) (Arr.rep 5 false)) ((IntKind.i64.wrap (a1 - 1)).toNat) false))
theorem zaD7 (a0:Int) (a1:Int) (r:Bool) (h:zg7 a0 a1=some r):PFn C 193 [.int .i64 a0,.int .i64 a1] (.bool r):=by
 refine za8 ck_p rfl fun E hG hN hK=>?_
 unfold pc_p
 unfold zg7 at h
 refine za0 (za1 hG ?_)
 refine za0 (za1 hG ?_)
 refine za6 (fun hg=>zQ9 a0) ?_
 obtain ⟨hb1,h⟩:=za3 h
 obtain ⟨hb2,h⟩:=za3 h
 refine za6 (fun hg=>zQ9 a1) ?_
 refine za7 ?_
 exact zb0 h
attribute [local irreducible] zg7
noncomputable def zI6  (j1:Bool):Option (Bool) :=
 some j1
@[go_sem] def zeT2  (j1:Bool):St:=⟨[(5,.bool j1)],[],0⟩
noncomputable def zB3 (a1:List Amount) (g1:Int×Int×(Arr Bool 6)) (j2:Unit):Option ((Int×Int×(Arr Bool 6))⊕((Bool))) :=
 gd (0≤(a1.getD g1.2.1.toNat Amount.zero).mode∧(a1.getD g1.2.1.toNat Amount.zero).mode < 6) <|
 some (.inl ((IntKind.i64.wrap (g1.1+(a1.getD g1.2.1.toNat Amount.zero).units)),(IntKind.i64.wrap (g1.2.1+1)),(Arr.put g1.2.2 (((a1.getD g1.2.1.toNat Amount.zero).mode).toNat) true)))
@[go_sem] def zeT3 (a0:Resource) (a1:List Amount) (g1:Int×Int×(Arr Bool 6)) (j2:Unit):St:=⟨[(2,.ptr 0 0 0),(5,.bool true),(6,.ptr 1 0 0),(7,.int .i64 (IntKind.i64.wrap (g1.1+(a1.getD g1.2.1.toNat Amount.zero).units))),(9,.ptr 2 0 0),(15,.sl (a1.map Amount.enc)),(16,.int .i64 (a1.length:Int)),(17,.int .i64 g1.2.1)],[(0,⟨false,4,(Resource.enc Resource.zero),[Resource.enc a0]⟩),(1,⟨false,6,(Arr.enc eB (Arr.rep 6 false)),[Arr.enc eB g1.2.2]⟩),(2,⟨false,2,(Amount.enc Amount.zero),[Amount.enc (a1.getD g1.2.1.toNat Amount.zero)]⟩)],3⟩
noncomputable def zp3 (a1:List Amount) (g1:Int×Int×(Arr Bool 6)) (g2:Int):Option ((Int)⊕((Unit)⊕(Bool))) :=
 (if (decide (g2 < 6))=true then
  gd (0≤g2∧g2 < 6) <|
  ((if (Arr.get g1.2.2 g2.toNat false)=true then zg7 g2 ((a1.getD g1.2.1.toNat Amount.zero).mode) else some (false))).bind fun v1 =>
  (if ((Arr.get g1.2.2 g2.toNat false)&&(!v1))=true then
   some (.inr (.inr false))
  else
   some (.inl (IntKind.i64.wrap (g2+1))))
 else
  some (.inr (.inl ())))
@[go_sem] def zeT4 (a0:Resource) (a1:List Amount) (g1:Int×Int×(Arr Bool 6)) (g2:Int):St:=⟨[(2,.ptr 0 0 0),(5,.bool true),(6,.ptr 1 0 0),(7,.int .i64 (IntKind.i64.wrap (g1.1+(a1.getD g1.2.1.toNat Amount.zero).units))),(9,.ptr 2 0 0),(15,.sl (a1.map Amount.enc)),(16,.int .i64 (a1.length:Int)),(17,.int .i64 g1.2.1),(41,.agg (Arr.enc eB g1.2.2)),(42,.int .i64 g2)],[(0,⟨false,4,(Resource.enc Resource.zero),[Resource.enc a0]⟩),(1,⟨false,6,(Arr.enc eB (Arr.rep 6 false)),[Arr.enc eB g1.2.2]⟩),(2,⟨false,2,(Amount.enc Amount.zero),[Amount.enc (a1.getD g1.2.1.toNat Amount.zero)]⟩)],3⟩
noncomputable def zu0 (a0:Resource) (a1:List Amount) (g1:Int×Int×(Arr Bool 6)):Option ((Int×Int×(Arr Bool 6))⊕((Bool))) :=
 (if (decide (g1.2.1 < (a1.length:Int)))=true then
  gd (0≤g1.2.1∧g1.2.1 < (a1.length:Int)) <|
  (if ((!(zb1 a0 (a1.getD g1.2.1.toNat Amount.zero)))||(decide (a0.units < (IntKind.i64.wrap (g1.1+(a1.getD g1.2.1.toNat Amount.zero).units)))))=true then
   some (.inr false)
  else
   (if (decide ((a1.getD g1.2.1.toNat Amount.zero).mode=0))=true then
    some (.inl ((IntKind.i64.wrap (g1.1+(a1.getD g1.2.1.toNat Amount.zero).units)),(IntKind.i64.wrap (g1.2.1+1)),g1.2.2))
   else
    (zb9 (zp3 a1 g1) 0).bind (fun | .inl z=>zB3 a1 g1 z | .inr z=>some (.inr z))))
 else
  some (.inr true))
@[go_sem] def zeT5 (a0:Resource) (a1:List Amount) (g1:Int×Int×(Arr Bool 6)):St:=⟨[(2,.ptr 0 0 0),(5,.bool true),(6,.ptr 1 0 0),(7,.int .i64 g1.1),(15,.sl (a1.map Amount.enc)),(16,.int .i64 (a1.length:Int)),(17,.int .i64 g1.2.1)],[(0,⟨false,4,(Resource.enc Resource.zero),[Resource.enc a0]⟩),(1,⟨false,6,(Arr.enc eB (Arr.rep 6 false)),[Arr.enc eB g1.2.2]⟩)],2⟩
noncomputable def zf4 (a0:Resource) (a1:List Amount):Option (Bool) :=
 (if (!(zb5 a0))=true then
  some false
 else
  (zb9 (zu0 a0 a1) (0,0,(Arr.rep 6 false))).bind (fun z=>zI6 z))
theorem zau3 (a0:Resource) (a1:List Amount) (r:Bool) (h:zf4 a0 a1=some r):PFn C 190 [.agg (Resource.enc a0),.sl (a1.map Amount.enc)] (.bool r):=by
 refine za8 ck_q rfl fun E hG hN hK=>?_
 unfold pc_q
 unfold zf4 at h
 refine za0 (za1 hG ?_)
 refine zbu0 ?_
 refine za0 (za0 (za1 hG ?_))
 refine za6 (fun hg=>zG9 a0) ?_
 refine za4 rfl hG h (fun _ h=>?_) (fun _ h=>?_)
 · refine za0 (za1 hG ?_)
   refine za7 ?_
   exact zb0 h
 refine za5 ?_
 refine za0 (za1 hG ?_)
 refine za0 (za1 hG ?_)
 refine za0 (za1 hG ?_)
 refine za0 ?_
 refine zbF8 ?_
 refine za0 (za0 (za1 hG ?_))
 refine zb4 (zeT2) (fun v=>zI6 v=some r) ?_ ?_
 · intro j1 h
   unfold zI6 at h
   refine g_st ?_
   refine za0 (za1 hG ?_)
   refine za7 ?_
   exact zb0 h
 refine zd9 (zeT5 a0 a1) hK [(0,0),(1,1)] h (fun x_l1 h g1 y_l1 h_l1 hx_l1=>?_)
 unfold zu0 at h_l1
 refine g_st ?_
 refine za0 (za1 hG ?_)
 refine za0 ?_
 refine za4 rfl hG h_l1 (fun _ h_l1=>?_) (fun _ h_l1=>?_)
 · refine za5 ?_
   refine za0 (zb6 (za0 ?_))
   obtain ⟨hb3,h_l1⟩:=za3 h_l1
   refine za1 hG ?_
   refine za0 (za0 (za1 hG ?_))
   refine za6 (fun hg=>zA7 a0 (a1.getD g1.2.1.toNat Amount.zero)) ?_
   refine za4 rfl hG h_l1 (fun _ h_l1=>?_) (fun _ h_l1=>?_)
   · refine za0 (za1 hG ?_)
     refine zc7 ?_
     obtain rfl:=Option.some.inj h_l1
     have hx:=hx_l1 _ rfl
     subst hx
     try dsimp only at h
     exact zc5 hK [] false (by exact h)
   refine za5 ?_
   refine za0 (za1 hG ?_)
   refine za0 (za0 (za1 hG ?_))
   refine za4 rfl hG h_l1 (fun _ h_l1=>?_) (fun _ h_l1=>?_)
   · refine zc7 ?_
     refine za1 hG ?_
     exact zd1 hK [(0,0),(1,1)] h_l1
   refine za5 ?_
   refine za0 (za0 (za1 hG ?_))
   refine zb4 (zeT3 a0 a1 g1) (fun v=>zB3 a1 g1 v=some y_l1) ?_ ?_
   · intro j2 h_l1
     unfold zB3 at h_l1
     refine g_st ?_
     obtain ⟨hb1,h_l1⟩:=za3 h_l1
     refine za1 hG ?_
     refine za1 hG ?_
     exact zd1 hK [(0,0),(1,1)] h_l1
   refine zd9 (zeT4 a0 a1 g1) hK [(0,0),(1,1),(2,2)] h_l1 (fun x_l2 h_l1 g2 y_l2 h_l2 hx_l2=>?_)
   unfold zp3 at h_l2
   refine g_st ?_
   refine za0 (za1 hG ?_)
   refine za0 ?_
   refine za4 rfl hG h_l2 (fun _ h_l2=>?_) (fun _ h_l2=>?_)
   · refine za5 ?_
     refine za0 (zb6 (za0 ?_))
     obtain ⟨hb2,h_l2⟩:=za3 h_l2
     refine za1 hG ?_
     refine za0 (za1 hG ?_)
     obtain ⟨v1,hv1,h_l2⟩:=za2 h_l2
     refine za6 (fun hg=>zaD7 g2 ((a1.getD g1.2.1.toNat Amount.zero).mode) _ (zA6 hg hv1)) ?_
     refine za4 rfl hG h_l2 (fun _ h_l2=>?_) (fun _ h_l2=>?_)
     · refine za0 (za1 hG ?_)
       refine zc7 ?_
       obtain rfl:=Option.some.inj h_l2
       have hx:=hx_l2 _ rfl
       subst hx
       try dsimp only at h_l1
       obtain rfl:=Option.some.inj h_l1
       have hx:=hx_l1 _ rfl
       subst hx
       try dsimp only at h
       exact zc5 hK [] false (by exact h)
     refine za5 ?_
     refine za1 hG ?_
     exact zd1 hK [(0,0),(1,1),(2,2)] h_l2
   refine zc7 ?_
   obtain rfl:=Option.some.inj h_l2
   have hx:=hx_l2 _ rfl
   subst hx
   try dsimp only at h_l1
   exact zc5 hK [(0,0),(1,1),(2,2)] () (by exact h_l1)
 refine zc7 ?_
 obtain rfl:=Option.some.inj h_l1
 have hx:=hx_l1 _ rfl
 subst hx
 try dsimp only at h
 exact zc5 hK [] true (by exact h)
attribute [local irreducible] zf4
noncomputable def zI7 (a0:Resource) (j1:(List Amount)):Option (Bool) :=
 (zf4 a0 j1).bind fun v1 =>
 some v1
@[go_sem] def zeT6 (a0:Resource) (j1:(List Amount)):St:=⟨[(2,.ptr 0 0 0),(5,.own 1 0 j1.length)],[(0,⟨false,4,(Resource.enc Resource.zero),[Resource.enc a0]⟩),(1,⟨false,2,(Amount.enc Amount.zero),j1.map Amount.enc⟩)],2⟩
noncomputable def zC4 (a0:Resource) (a1:List Hold) (g1:Int×(List Amount)):Option ((Int×(List Amount))⊕(((List Amount))⊕(Bool))) :=
 (if (decide (g1.1 < (a1.length:Int)))=true then
  gd (0≤g1.1∧g1.1 < (a1.length:Int)) <|
  (if ((!(zb3 ((a1.getD g1.1.toNat Hold.zero).proc)))||(!(za9 a0 ((a1.getD g1.1.toNat Hold.zero).amount))))=true then
   some (.inr (.inr false))
  else
   gd ((decide (0 < g1.1))=true→0≤(IntKind.i64.wrap (g1.1 - 1))∧(IntKind.i64.wrap (g1.1 - 1)) < (a1.length:Int)) <|
   ((if (decide (0 < g1.1))=true then ze0 ((a1.getD ((IntKind.i64.wrap (g1.1 - 1)).toNat) Hold.zero).proc) ((a1.getD g1.1.toNat Hold.zero).proc) else some (0))).bind fun v2 =>
   (if ((decide (0 < g1.1))&&(decide (0≤v2)))=true then
    some (.inr (.inr false))
   else
    gd (g1.2.length+1≤4294967296) <|
    some (.inl ((IntKind.i64.wrap (g1.1+1)),(g1.2++[(a1.getD g1.1.toNat Hold.zero).amount])))))
 else
  some (.inr (.inl g1.2)))
@[go_sem] def zeT7 (a0:Resource) (a1:List Hold) (g1:Int×(List Amount)):St:=⟨[(1,.sl (a1.map Hold.enc)),(2,.ptr 0 0 0),(5,.own 1 0 g1.2.length),(16,.sl (a1.map Hold.enc)),(17,.int .i64 (a1.length:Int)),(18,.int .i64 g1.1)],[(0,⟨false,4,(Resource.enc Resource.zero),[Resource.enc a0]⟩),(1,⟨false,2,(Amount.enc Amount.zero),g1.2.map Amount.enc⟩)],2⟩
noncomputable def zg8 (a0:Resource) (a1:List Hold):Option (Bool) :=
 (if ((!(zb5 a0))||(decide (8 < (a1.length:Int))))=true then
  some false
 else
  (zb9 (zC4 a0 a1) (0,[])).bind (fun | .inl z=>zI7 a0 z | .inr z=>some z))
theorem zX6 (a0:Resource) (a1:List Hold) (r:Bool) (h:zg8 a0 a1=some r):PFn C 179 [.agg (Resource.enc a0),.sl (a1.map Hold.enc)] (.bool r):=by
 refine za8 ck_r rfl fun E hG hN hK=>?_
 unfold pc_r
 unfold zg8 at h
 refine za0 (za1 hG ?_)
 refine za0 (za0 (za1 hG ?_))
 refine za6 (fun hg=>zG9 a0) ?_
 refine za4 rfl hG h (fun _ h=>?_) (fun _ h=>?_)
 · refine za0 (za1 hG ?_)
   refine za7 ?_
   exact zb0 h
 refine za5 ?_
 refine za0 (za1 hG ?_)
 refine za0 (za0 (za1 hG ?_))
 refine zb4 (zeT6 a0) (fun v=>zI7 a0 v=some r) ?_ ?_
 · intro j1 h
   unfold zI7 at h
   refine g_st ?_
   refine za0 (za1 hG ?_)
   obtain ⟨v1,hv1,h⟩:=za2 h
   refine za6 (fun hg=>zau3 a0 j1 _ (hv1)) ?_
   refine za7 ?_
   exact zb0 h
 refine zd9 (zeT7 a0 a1) hK [(0,0),(1,1)] h (fun x_l1 h g1 y_l1 h_l1 hx_l1=>?_)
 unfold zC4 at h_l1
 refine g_st ?_
 refine za0 (za1 hG ?_)
 refine za0 ?_
 refine za4 rfl hG h_l1 (fun _ h_l1=>?_) (fun _ h_l1=>?_)
 · refine za5 ?_
   refine za0 (zb6 (za0 ?_))
   obtain ⟨hb3,h_l1⟩:=za3 h_l1
   refine za1 hG ?_
   refine za0 (za0 (za1 hG ?_))
   refine za6 (fun hg=>zI5 ((a1.getD g1.1.toNat Hold.zero).proc)) ?_
   refine za6 (fun hg=>zy2 a0 ((a1.getD g1.1.toNat Hold.zero).amount)) ?_
   refine za4 rfl hG h_l1 (fun _ h_l1=>?_) (fun _ h_l1=>?_)
   · refine za0 (za1 hG ?_)
     refine za7 ?_
     obtain rfl:=Option.some.inj h_l1
     have hx:=hx_l1 _ rfl
     subst hx
     try dsimp only at h
     exact zb0 h
   refine za5 ?_
   refine za0 (za0 ?_)
   obtain ⟨hb2,h_l1⟩:=za3 h_l1
   refine zn3 zd2 hG ?_
   obtain ⟨v2,hv2,h_l1⟩:=za2 h_l1
   refine zf7 (fun hg=>zM1 ((a1.getD ((IntKind.i64.wrap (g1.1 - 1)).toNat) Hold.zero).proc) ((a1.getD g1.1.toNat Hold.zero).proc) _ (zA6 hg hv2)) ?_
   refine za4 rfl hG h_l1 (fun _ h_l1=>?_) (fun _ h_l1=>?_)
   · refine za0 (za1 hG ?_)
     refine za7 ?_
     obtain rfl:=Option.some.inj h_l1
     have hx:=hx_l1 _ rfl
     subst hx
     try dsimp only at h
     exact zb0 h
   refine za5 ?_
   obtain ⟨hb1,h_l1⟩:=za3 h_l1
   refine za1 hG ?_
   refine za1 hG ?_
   exact zd1 hK [(0,0),(1,3)] h_l1
 refine zc7 ?_
 obtain rfl:=Option.some.inj h_l1
 have hx:=hx_l1 _ rfl
 subst hx
 try dsimp only at h
 exact zc5 hK [(0,0),(1,1)] g1.2 (by exact h)
attribute [local irreducible] zg8
noncomputable def zX7  (j1:Unit):Option (Amount) :=
 some ({ Amount.zero with  })
@[go_sem] def zeT8  (j1:Unit):St:=⟨[(4,.ptr 0 0 0)],[(0,⟨false,2,(Amount.enc Amount.zero),[Amount.enc Amount.zero]⟩)],1⟩
noncomputable def zx0 (a0:List Hold) (a1:Proc) (g1:Int):Option ((Int)⊕((Unit)⊕(Amount))) :=
 (if (decide (g1 < (a0.length:Int)))=true then
  gd (0≤g1∧g1 < (a0.length:Int)) <|
  (if (decide ((a0.getD g1.toNat Hold.zero).proc=a1))=true then
   some (.inr (.inr ((a0.getD g1.toNat Hold.zero).amount)))
  else
   some (.inl (IntKind.i64.wrap (g1+1))))
 else
  some (.inr (.inl ())))
@[go_sem] def zeT9 (a0:List Hold) (a1:Proc) (g1:Int):St:=⟨[(3,.ptr 0 0 0),(4,.ptr 1 0 0),(7,.sl (a0.map Hold.enc)),(8,.int .i64 (a0.length:Int)),(9,.int .i64 g1)],[(0,⟨false,3,(Proc.enc Proc.zero),[Proc.enc a1]⟩),(1,⟨false,2,(Amount.enc Amount.zero),[Amount.enc Amount.zero]⟩)],2⟩
noncomputable def zm1 (a0:List Hold) (a1:Proc):Option (Amount) :=
 (zb9 (zx0 a0 a1) 0).bind (fun | .inl z=>zX7 z | .inr z=>some z)
theorem zba3 (a0:List Hold) (a1:Proc) (r:Amount) (h:zm1 a0 a1=some r):PFn C 110 [.sl (a0.map Hold.enc),.agg (Proc.enc a1)] (.agg (Amount.enc r)):=by
 refine za8 ck_s rfl fun E hG hN hK=>?_
 unfold pc_s
 unfold zm1 at h
 refine za0 (za1 hG ?_)
 refine za0 (za0 (za1 hG ?_))
 refine zb4 (zeT8) (fun v=>zX7 v=some r) ?_ ?_
 · intro j1 h
   unfold zX7 at h
   refine g_st ?_
   refine za0 (za1 hG ?_)
   refine za7 ?_
   exact zb0 h
 refine zd9 (zeT9 a0 a1) hK [(0,0),(1,1)] h (fun x_l1 h g1 y_l1 h_l1 hx_l1=>?_)
 unfold zx0 at h_l1
 refine g_st ?_
 refine za0 (za1 hG ?_)
 refine za0 ?_
 refine za4 rfl hG h_l1 (fun _ h_l1=>?_) (fun _ h_l1=>?_)
 · refine za5 ?_
   refine za0 (zb6 (za0 ?_))
   obtain ⟨hb1,h_l1⟩:=za3 h_l1
   refine za1 hG ?_
   refine za0 (za1 hG ?_)
   refine za4 rfl hG h_l1 (fun _ h_l1=>?_) (fun _ h_l1=>?_)
   · refine za0 (za1 hG ?_)
     refine za7 ?_
     obtain rfl:=Option.some.inj h_l1
     have hx:=hx_l1 _ rfl
     subst hx
     try dsimp only at h
     exact zb0 h
   refine za5 ?_
   refine za1 hG ?_
   exact zd1 hK [(0,0),(1,1)] h_l1
 refine zc7 ?_
 obtain rfl:=Option.some.inj h_l1
 have hx:=hx_l1 _ rfl
 subst hx
 try dsimp only at h
 exact zc5 hK [(0,1)] () (by exact h)
attribute [local irreducible] zm1
noncomputable def zh2 (a0:Queue) (a1:Proc):Option (Amount) :=
 (zm1 a0.holds a1).bind fun v1 =>
 some v1
theorem zK2 (a0:Queue) (a1:Proc) (r:Amount) (h:zh2 a0 a1=some r):PFn C 66 [.agg (Queue.enc a0),.agg (Proc.enc a1)] (.agg (Amount.enc r)):=by
 refine za8 ck_t rfl fun E hG hN hK=>?_
 unfold pc_t
 unfold zh2 at h
 refine za0 (za1 hG ?_)
 refine za0 (za1 hG ?_)
 obtain ⟨v1,hv1,h⟩:=za2 h
 refine za6 (fun hg=>zba3 a0.holds a1 _ (hv1)) ?_
 refine za7 ?_
 exact zb0 h
attribute [local irreducible] zh2
noncomputable def zae7  (j1:Unit):Option (Int) :=
 some (-1)
@[go_sem] def zeU0  (j1:Unit):St:=⟨[],[],0⟩
noncomputable def zM2 (a0:List Wait) (a1:Proc) (g1:Int):Option ((Int)⊕((Unit)⊕(Int))) :=
 (if (decide (g1 < (a0.length:Int)))=true then
  gd (0≤g1∧g1 < (a0.length:Int)) <|
  (if (decide ((a0.getD g1.toNat Wait.zero).proc=a1))=true then
   some (.inr (.inr g1))
  else
   some (.inl (IntKind.i64.wrap (g1+1))))
 else
  some (.inr (.inl ())))
@[go_sem] def zeU1 (a0:List Wait) (a1:Proc) (g1:Int):St:=⟨[(3,.ptr 0 0 0),(7,.sl (a0.map Wait.enc)),(8,.int .i64 (a0.length:Int)),(9,.int .i64 g1)],[(0,⟨false,3,(Proc.enc Proc.zero),[Proc.enc a1]⟩)],1⟩
noncomputable def zm8 (a0:List Wait) (a1:Proc):Option (Int) :=
 (zb9 (zM2 a0 a1) 0).bind (fun | .inl z=>zae7 z | .inr z=>some z)
theorem zad0 (a0:List Wait) (a1:Proc) (r:Int) (h:zm8 a0 a1=some r):PFn C 123 [.sl (a0.map Wait.enc),.agg (Proc.enc a1)] (.int .i64 r):=by
 refine za8 ck_u rfl fun E hG hN hK=>?_
 unfold pc_u
 unfold zm8 at h
 refine za0 (za1 hG ?_)
 refine za0 (za0 (za1 hG ?_))
 refine zb4 (zeU0) (fun v=>zae7 v=some r) ?_ ?_
 · intro j1 h
   unfold zae7 at h
   refine g_st ?_
   refine za0 (za1 hG ?_)
   refine za7 ?_
   exact zb0 h
 refine zd9 (zeU1 a0 a1) hK [(0,0)] h (fun x_l1 h g1 y_l1 h_l1 hx_l1=>?_)
 unfold zM2 at h_l1
 refine g_st ?_
 refine za0 (za1 hG ?_)
 refine za0 ?_
 refine za4 rfl hG h_l1 (fun _ h_l1=>?_) (fun _ h_l1=>?_)
 · refine za5 ?_
   refine za0 (zb6 (za0 ?_))
   obtain ⟨hb1,h_l1⟩:=za3 h_l1
   refine za1 hG ?_
   refine za0 (za1 hG ?_)
   refine za4 rfl hG h_l1 (fun _ h_l1=>?_) (fun _ h_l1=>?_)
   · refine za0 (za1 hG ?_)
     refine za7 ?_
     obtain rfl:=Option.some.inj h_l1
     have hx:=hx_l1 _ rfl
     subst hx
     try dsimp only at h
     exact zb0 h
   refine za5 ?_
   refine za1 hG ?_
   exact zd1 hK [(0,0)] h_l1
 refine zc7 ?_
 obtain rfl:=Option.some.inj h_l1
 have hx:=hx_l1 _ rfl
 subst hx
 try dsimp only at h
 exact zc5 hK [] () (by exact h)
attribute [local irreducible] zm8
def zU2 (a0:Int):(Arr Bool 6) :=
 (if (decide (a0=5))=true then
  (Arr.put (Arr.put (Arr.put (Arr.put (Arr.put (Arr.rep 6 false) 5 true) 4 true) 3 true) 2 true) 1 true)
 else
  (if (decide (a0=4))=true then
   (Arr.put (Arr.put (Arr.put (Arr.put (Arr.rep 6 false) 4 true) 3 true) 2 true) 1 true)
  else
   (if (decide (a0=2))=true then
    (Arr.put (Arr.put (Arr.rep 6 false) 2 true) 1 true)
   else
    (if (decide (a0=1))=true then
     (Arr.put (Arr.rep 6 false) 1 true)
    else
     (if (decide (a0=3))=true then
      (Arr.put (Arr.put (Arr.rep 6 false) 3 true) 1 true)
     else
      (Arr.rep 6 false))))))
theorem zaS7 (a0:Int):PFn C 163 [.int .i64 a0] (.agg (Arr.enc eB (zU2 a0))):=by
 generalize h:zU2 a0=r
 refine za8 ck_v rfl fun E hG hN hK=>?_
 unfold pc_v
 unfold zU2 at h
 refine za0 (za1 hG ?_)
 refine za0 (za1 hG ?_)
 refine za0 (za0 (za1 hG ?_))
 refine zb6 (za0 (zb6 (za0 (zb6 (za0 (zb6 (za0 (zb6 (za0 (zb6 (za0 (za0 (za0 (za1 hG ?_))))))))))))))
 refine za4 rfl hG h (fun _ h=>?_) (fun _ h=>?_)
 · refine zc7 ?_
   refine za1 hG ?_
   refine za0 (za1 hG ?_)
   refine za1 hG ?_
   refine za1 hG ?_
   refine za0 (za1 hG ?_)
   refine zc7 ?_
   refine za0 (za1 hG ?_)
   refine za7 ?_
   exact zf1 h
 refine za5 ?_
 refine za0 (za0 (za1 hG ?_))
 refine za4 rfl hG h (fun _ h=>?_) (fun _ h=>?_)
 · refine zc7 ?_
   refine za0 (za1 hG ?_)
   refine za1 hG ?_
   refine za1 hG ?_
   refine za0 (za1 hG ?_)
   refine zc7 ?_
   refine za0 (za1 hG ?_)
   refine za7 ?_
   exact zf1 h
 refine za5 ?_
 refine za0 (za0 (za1 hG ?_))
 refine za4 rfl hG h (fun _ h=>?_) (fun _ h=>?_)
 · refine zc7 ?_
   refine za1 hG ?_
   refine za0 (za1 hG ?_)
   refine zc7 ?_
   refine za0 (za1 hG ?_)
   refine za7 ?_
   exact zf1 h
 refine za5 ?_
 refine za0 (za0 (za1 hG ?_))
 refine za4 rfl hG h (fun _ h=>?_) (fun _ h=>?_)
 · refine zc7 ?_
   refine za0 (za1 hG ?_)
   refine zc7 ?_
   refine za0 (za1 hG ?_)
   refine za7 ?_
   exact zf1 h
 refine za5 ?_
 refine za0 (za1 hG ?_)
 refine za4 rfl hG h (fun _ h=>?_) (fun _ h=>?_)
 · refine zc7 ?_
   refine za0 (za0 (za1 hG ?_))
   refine za1 hG ?_
   refine zc7 ?_
   refine za0 (za1 hG ?_)
   refine za7 ?_
   exact zf1 h
 refine za5 ?_
 refine zc7 ?_
 refine za0 (za1 hG ?_)
 refine za7 ?_
 exact zf1 h
noncomputable def zk3 (a0:Int) (a1:Int):Option (Bool) :=
 gd (((zg1 a0)&&(zg1 a1))=true→0≤a1∧a1 < 6) <|
 some (((zg1 a0)&&(zg1 a1))&&(Arr.get (zU2 a0) a1.toNat false))
theorem zae8 (a0:Int) (a1:Int) (r:Bool) (h:zk3 a0 a1=some r):PFn C 134 [.int .i64 a0,.int .i64 a1] (.bool r):=by
 refine za8 ck_w rfl fun E hG hN hK=>?_
 unfold pc_w
 unfold zk3 at h
 refine za0 (za1 hG ?_)
 refine za0 (za1 hG ?_)
 refine za6 (fun hg=>zQ9 a0) ?_
 refine za6 (fun hg=>zQ9 a1) ?_
 obtain ⟨hb1,h⟩:=za3 h
 refine za6 (fun hg=>zaS7 a0) ?_
 refine za7 ?_
 exact zb0 h
attribute [local irreducible] zk3
noncomputable def zg9 (a0:Resource) (a1:Amount) (a2:Amount):Option (Bool) :=
 (if ((!(zb1 a0 a1))||(!(zb1 a0 a2)))=true then
  some false
 else
  (if ((zb8 a1)||(zb8 a2))=true then
   some (zb8 a2)
  else
   (if (decide (a0.kind=1))=true then
    (zk3 a1.mode a2.mode).bind fun v1 =>
    some v1
   else
    some (decide (a2.units≤a1.units)))))
theorem zX8 (a0:Resource) (a1:Amount) (a2:Amount) (r:Bool) (h:zg9 a0 a1 a2=some r):PFn C 89 [.agg (Resource.enc a0),.agg (Amount.enc a1),.agg (Amount.enc a2)] (.bool r):=by
 refine za8 ck_x rfl fun E hG hN hK=>?_
 unfold pc_x
 unfold zg9 at h
 refine za0 (za1 hG ?_)
 refine za0 (za0 (za1 hG ?_))
 refine za6 (fun hg=>zA7 a0 a1) ?_
 refine za6 (fun hg=>zA7 a0 a2) ?_
 refine za4 rfl hG h (fun _ h=>?_) (fun _ h=>?_)
 · refine za0 (za1 hG ?_)
   refine za7 ?_
   exact zb0 h
 refine za5 ?_
 refine za0 (za0 (za1 hG ?_))
 refine za6 (fun hg=>zo0 a1) ?_
 refine za6 (fun hg=>zo0 a2) ?_
 refine za4 rfl hG h (fun _ h=>?_) (fun _ h=>?_)
 · refine za0 (za1 hG ?_)
   refine za6 (fun hg=>zo0 a2) ?_
   refine za7 ?_
   exact zb0 h
 refine za5 ?_
 refine za0 (za0 (za1 hG ?_))
 refine za4 rfl hG h (fun _ h=>?_) (fun _ h=>?_)
 · refine za0 (za1 hG ?_)
   obtain ⟨v1,hv1,h⟩:=za2 h
   refine za6 (fun hg=>zae8 a1.mode a2.mode _ (hv1)) ?_
   refine za7 ?_
   exact zb0 h
 refine za5 ?_
 refine za0 (za1 hG ?_)
 refine za7 ?_
 exact zb0 h
attribute [local irreducible] zg9
noncomputable def zG1  (j1:Unit):Option (Bool) :=
 some true
@[go_sem] def zeU2  (j1:Unit):St:=⟨[],[],0⟩
noncomputable def zm2 (a0:Queue) (g1:Int):Option ((Int)⊕((Unit)⊕(Bool))) :=
 (if (decide (g1 < (a0.converts.length:Int)))=true then
  gd (0≤g1∧g1 < (a0.converts.length:Int)) <|
  (zh2 a0 ((a0.converts.getD g1.toNat Wait.zero).proc)).bind fun v1 =>
  (zm8 a0.converts ((a0.converts.getD g1.toNat Wait.zero).proc)).bind fun v2 =>
  (if ((!decide (v2=g1))||(zb8 v1))=true then
   some (.inr (.inr false))
  else
   ((if (za9 a0.resource ((a0.converts.getD g1.toNat Wait.zero).amount))=true then zg9 a0.resource ((a0.converts.getD g1.toNat Wait.zero).amount) v1 else some (false))).bind fun v3 =>
   (if (((!(za9 a0.resource ((a0.converts.getD g1.toNat Wait.zero).amount)))||(!v3))||(decide ((a0.converts.getD g1.toNat Wait.zero).amount=v1)))=true then
    some (.inr (.inr false))
   else
    (if ((!decide ((a0.converts.getD g1.toNat Wait.zero).priority=0))||(!decide ((a0.converts.getD g1.toNat Wait.zero).passed=0)))=true then
     some (.inr (.inr false))
    else
     some (.inl (IntKind.i64.wrap (g1+1))))))
 else
  some (.inr (.inl ())))
@[go_sem] def zeU3 (a0:Queue) (g1:Int):St:=⟨[(1,.ptr 0 0 0),(11,.sl (a0.converts.map Wait.enc)),(12,.int .i64 (a0.converts.length:Int)),(13,.int .i64 g1)],[(0,⟨false,8,(Queue.enc Queue.zero),[Queue.enc a0]⟩)],1⟩
noncomputable def ze6 (a0:Queue):Option (Bool) :=
 (if (decide (8 < (a0.converts.length:Int)))=true then
  some false
 else
  (zb9 (zm2 a0) 0).bind (fun | .inl z=>zG1 z | .inr z=>some z))
theorem zap6 (a0:Queue) (r:Bool) (h:ze6 a0=some r):PFn C 180 [.agg (Queue.enc a0)] (.bool r):=by
 refine za8 ck_y rfl fun E hG hN hK=>?_
 unfold pc_y
 unfold ze6 at h
 refine za0 (za1 hG ?_)
 refine za0 (za0 (za1 hG ?_))
 refine za4 rfl hG h (fun _ h=>?_) (fun _ h=>?_)
 · refine za0 (za1 hG ?_)
   refine za7 ?_
   exact zb0 h
 refine za5 ?_
 refine za0 (za0 (za1 hG ?_))
 refine zb4 (zeU2) (fun v=>zG1 v=some r) ?_ ?_
 · intro j1 h
   unfold zG1 at h
   refine g_st ?_
   refine za0 (za1 hG ?_)
   refine za7 ?_
   exact zb0 h
 refine zd9 (zeU3 a0) hK [(0,0)] h (fun x_l1 h g1 y_l1 h_l1 hx_l1=>?_)
 unfold zm2 at h_l1
 refine g_st ?_
 refine za0 (za1 hG ?_)
 refine za0 ?_
 refine za4 rfl hG h_l1 (fun _ h_l1=>?_) (fun _ h_l1=>?_)
 · refine za5 ?_
   refine za0 (zb6 (za0 ?_))
   obtain ⟨hb1,h_l1⟩:=za3 h_l1
   refine za1 hG ?_
   refine za0 (za1 hG ?_)
   obtain ⟨v1,hv1,h_l1⟩:=za2 h_l1
   refine za6 (fun hg=>zK2 a0 ((a0.converts.getD g1.toNat Wait.zero).proc) _ (hv1)) ?_
   refine za0 (za0 (za1 hG ?_))
   obtain ⟨v2,hv2,h_l1⟩:=za2 h_l1
   refine za6 (fun hg=>zad0 a0.converts ((a0.converts.getD g1.toNat Wait.zero).proc) _ (hv2)) ?_
   refine za6 (fun hg=>zo0 v1) ?_
   refine za4 rfl hG h_l1 (fun _ h_l1=>?_) (fun _ h_l1=>?_)
   · refine za0 (za1 hG ?_)
     refine za7 ?_
     obtain rfl:=Option.some.inj h_l1
     have hx:=hx_l1 _ rfl
     subst hx
     try dsimp only at h
     exact zb0 h
   refine za5 ?_
   refine za0 (za0 (za1 hG ?_))
   refine za6 (fun hg=>zy2 a0.resource ((a0.converts.getD g1.toNat Wait.zero).amount)) ?_
   obtain ⟨v3,hv3,h_l1⟩:=za2 h_l1
   refine za6 (fun hg=>zX8 a0.resource ((a0.converts.getD g1.toNat Wait.zero).amount) v1 _ (zA6 hg hv3)) ?_
   refine za4 rfl hG h_l1 (fun _ h_l1=>?_) (fun _ h_l1=>?_)
   · refine za0 (za1 hG ?_)
     refine za7 ?_
     obtain rfl:=Option.some.inj h_l1
     have hx:=hx_l1 _ rfl
     subst hx
     try dsimp only at h
     exact zb0 h
   refine za5 ?_
   refine za0 (za1 hG ?_)
   refine za4 rfl hG h_l1 (fun _ h_l1=>?_) (fun _ h_l1=>?_)
   · refine za0 (za1 hG ?_)
     refine za7 ?_
     obtain rfl:=Option.some.inj h_l1
     have hx:=hx_l1 _ rfl
     subst hx
     try dsimp only at h
     exact zb0 h
   refine za5 ?_
   refine za1 hG ?_
   exact zd1 hK [(0,0)] h_l1
 refine zc7 ?_
 obtain rfl:=Option.some.inj h_l1
 have hx:=hx_l1 _ rfl
 subst hx
 try dsimp only at h
 exact zc5 hK [] () (by exact h)
attribute [local irreducible] ze6
def zc4 (a0:Wait):Bool :=
 ((((((zb3 a0.proc)&&((za9 ({ Resource.zero with kind:=1,units:=1 }) a0.amount)||(za9 ({ Resource.zero with kind:=2,units:=8 }) a0.amount)))&&(decide (0≤a0.priority)))&&(decide (a0.priority≤7)))&&(decide (0≤a0.passed)))&&(decide (a0.passed≤3)))
theorem zaj1 (a0:Wait):PFn C 139 [.agg (Wait.enc a0)] (.bool (zc4 a0)):=by
 generalize h:zc4 a0=r
 refine za8 ck_z rfl fun E hG hN hK=>?_
 unfold pc_z
 unfold zc4 at h
 refine za0 (za1 hG ?_)
 refine za0 (za1 hG ?_)
 refine za0 (za1 hG ?_)
 refine za0 (za1 hG ?_)
 refine za6 (fun hg=>zI5 a0.proc) ?_
 refine za6 (fun hg=>zy2 ({ Resource.zero with kind:=1,units:=1 }) a0.amount) ?_
 refine za6 (fun hg=>zy2 ({ Resource.zero with kind:=2,units:=8 }) a0.amount) ?_
 refine za7 ?_
 exact zf1 h
noncomputable def zab5  (j1:Unit):Option (Bool) :=
 some true
@[go_sem] def zed1  (j1:Unit):St:=⟨[],[],0⟩
noncomputable def zA1 (a0:List Wait) (g1:Int):Option ((Int)⊕((Unit)⊕(Bool))) :=
 (if (decide (g1 < (a0.length:Int)))=true then
  gd (0≤g1∧g1 < (a0.length:Int)) <|
  ((if (zc4 (a0.getD g1.toNat Wait.zero))=true then zm8 a0 ((a0.getD g1.toNat Wait.zero).proc) else some (0))).bind fun v1 =>
  (if ((!(zc4 (a0.getD g1.toNat Wait.zero)))||(!decide (v1=g1)))=true then
   some (.inr (.inr false))
  else
   some (.inl (IntKind.i64.wrap (g1+1))))
 else
  some (.inr (.inl ())))
@[go_sem] def zed2 (a0:List Wait) (g1:Int):St:=⟨[(0,.sl (a0.map Wait.enc)),(8,.sl (a0.map Wait.enc)),(9,.int .i64 (a0.length:Int)),(10,.int .i64 g1)],[],0⟩
noncomputable def zn1 (a0:List Wait):Option (Bool) :=
 (if (decide (8 < (a0.length:Int)))=true then
  some false
 else
  (zb9 (zA1 a0) 0).bind (fun | .inl z=>zab5 z | .inr z=>some z))
theorem zaB4 (a0:List Wait) (r:Bool) (h:zn1 a0=some r):PFn C 138 [.sl (a0.map Wait.enc)] (.bool r):=by
 refine za8 zer5 rfl fun E hG hN hK=>?_
 unfold zcp3
 unfold zn1 at h
 refine za0 (za1 hG ?_)
 refine za0 (za0 (za1 hG ?_))
 refine za4 rfl hG h (fun _ h=>?_) (fun _ h=>?_)
 · refine za0 (za1 hG ?_)
   refine za7 ?_
   exact zb0 h
 refine za5 ?_
 refine za0 (za0 (za1 hG ?_))
 refine zb4 (zed1) (fun v=>zab5 v=some r) ?_ ?_
 · intro j1 h
   unfold zab5 at h
   refine g_st ?_
   refine za0 (za1 hG ?_)
   refine za7 ?_
   exact zb0 h
 refine zd9 (zed2 a0) hK [] h (fun x_l1 h g1 y_l1 h_l1 hx_l1=>?_)
 unfold zA1 at h_l1
 refine g_st ?_
 refine za0 (za1 hG ?_)
 refine za0 ?_
 refine za4 rfl hG h_l1 (fun _ h_l1=>?_) (fun _ h_l1=>?_)
 · refine za5 ?_
   refine za0 (zb6 (za0 ?_))
   obtain ⟨hb1,h_l1⟩:=za3 h_l1
   refine za1 hG ?_
   refine za0 (za1 hG ?_)
   refine za6 (fun hg=>zaj1 (a0.getD g1.toNat Wait.zero)) ?_
   obtain ⟨v1,hv1,h_l1⟩:=za2 h_l1
   refine za6 (fun hg=>zad0 a0 ((a0.getD g1.toNat Wait.zero).proc) _ (zA6 hg hv1)) ?_
   refine za4 rfl hG h_l1 (fun _ h_l1=>?_) (fun _ h_l1=>?_)
   · refine za0 (za1 hG ?_)
     refine za7 ?_
     obtain rfl:=Option.some.inj h_l1
     have hx:=hx_l1 _ rfl
     subst hx
     try dsimp only at h
     exact zb0 h
   refine za5 ?_
   refine za1 hG ?_
   exact zd1 hK [] h_l1
 refine zc7 ?_
 obtain rfl:=Option.some.inj h_l1
 have hx:=hx_l1 _ rfl
 subst hx
 try dsimp only at h
 exact zc5 hK [] () (by exact h)
attribute [local irreducible] zn1
noncomputable def zK6  (j1:Unit):Option (Bool) :=
 some true
@[go_sem] def zed3  (j1:Unit):St:=⟨[],[],0⟩
noncomputable def zm9 (a0:Queue) (g1:Int):Option ((Int)⊕((Unit)⊕(Bool))) :=
 (if (decide (g1 < (a0.waits.length:Int)))=true then
  gd (0≤g1∧g1 < (a0.waits.length:Int)) <|
  ((if (za9 a0.resource ((a0.waits.getD g1.toNat Wait.zero).amount))=true then zh2 a0 ((a0.waits.getD g1.toNat Wait.zero).proc) else some (Amount.zero))).bind fun v2 =>
  (if ((!(za9 a0.resource ((a0.waits.getD g1.toNat Wait.zero).amount)))||(!(zb8 v2)))=true then
   some (.inr (.inr false))
  else
   some (.inl (IntKind.i64.wrap (g1+1))))
 else
  some (.inr (.inl ())))
@[go_sem] def zed4 (a0:Queue) (g1:Int):St:=⟨[(1,.ptr 0 0 0),(20,.sl (a0.waits.map Wait.enc)),(21,.int .i64 (a0.waits.length:Int)),(22,.int .i64 g1)],[(0,⟨false,8,(Queue.enc Queue.zero),[Queue.enc a0]⟩)],1⟩
noncomputable def zf8 (a0:Queue):Option (Bool) :=
 (zn1 a0.waits).bind fun v1 =>
 (if ((!v1)||(decide (8 < (IntKind.i64.wrap ((a0.holds.length:Int)+(a0.waits.length:Int))))))=true then
  some false
 else
  (zb9 (zm9 a0) 0).bind (fun | .inl z=>zK6 z | .inr z=>some z))
theorem zaz5 (a0:Queue) (r:Bool) (h:zf8 a0=some r):PFn C 181 [.agg (Queue.enc a0)] (.bool r):=by
 refine za8 zer6 rfl fun E hG hN hK=>?_
 unfold zcq4
 unfold zf8 at h
 refine za0 (za1 hG ?_)
 refine za0 (za0 (za1 hG ?_))
 obtain ⟨v1,hv1,h⟩:=za2 h
 refine za6 (fun hg=>zaB4 a0.waits _ (hv1)) ?_
 refine za4 rfl hG h (fun _ h=>?_) (fun _ h=>?_)
 · refine za0 (za1 hG ?_)
   refine za7 ?_
   exact zb0 h
 refine za5 ?_
 refine za0 (za0 (za1 hG ?_))
 refine zb4 (zed3) (fun v=>zK6 v=some r) ?_ ?_
 · intro j1 h
   unfold zK6 at h
   refine g_st ?_
   refine za0 (za1 hG ?_)
   refine za7 ?_
   exact zb0 h
 refine zd9 (zed4 a0) hK [(0,0)] h (fun x_l1 h g1 y_l1 h_l1 hx_l1=>?_)
 unfold zm9 at h_l1
 refine g_st ?_
 refine za0 (za1 hG ?_)
 refine za0 ?_
 refine za4 rfl hG h_l1 (fun _ h_l1=>?_) (fun _ h_l1=>?_)
 · refine za5 ?_
   refine za0 (zb6 (za0 ?_))
   obtain ⟨hb1,h_l1⟩:=za3 h_l1
   refine za1 hG ?_
   refine za0 (za1 hG ?_)
   refine za6 (fun hg=>zy2 a0.resource ((a0.waits.getD g1.toNat Wait.zero).amount)) ?_
   obtain ⟨v2,hv2,h_l1⟩:=za2 h_l1
   refine za6 (fun hg=>zK2 a0 ((a0.waits.getD g1.toNat Wait.zero).proc) _ (zA6 hg hv2)) ?_
   refine za6 (fun hg=>zo0 v2) ?_
   refine za4 rfl hG h_l1 (fun _ h_l1=>?_) (fun _ h_l1=>?_)
   · refine za0 (za1 hG ?_)
     refine za7 ?_
     obtain rfl:=Option.some.inj h_l1
     have hx:=hx_l1 _ rfl
     subst hx
     try dsimp only at h
     exact zb0 h
   refine za5 ?_
   refine za1 hG ?_
   exact zd1 hK [(0,0)] h_l1
 refine zc7 ?_
 obtain rfl:=Option.some.inj h_l1
 have hx:=hx_l1 _ rfl
 subst hx
 try dsimp only at h
 exact zc5 hK [] () (by exact h)
attribute [local irreducible] zf8
noncomputable def zo2 (a0:Queue):Option (Bool) :=
 (zd3 a0.resource).bind fun v1 =>
 ((if v1=true then zg8 a0.resource a0.holds else some (false))).bind fun v2 =>
 ((if (v1&&v2)=true then ze6 a0 else some (false))).bind fun v3 =>
 ((if ((v1&&v2)&&v3)=true then zf8 a0 else some (false))).bind fun v4 =>
 some (((((v1&&v2)&&v3)&&v4)&&(decide (0≤a0.gen)))&&(decide (a0.gen≤1073741824)))
theorem zba4 (a0:Queue) (r:Bool) (h:zo2 a0=some r):PFn C 160 [.agg (Queue.enc a0)] (.bool r):=by
 refine za8 zer7 rfl fun E hG hN hK=>?_
 unfold zcq7
 unfold zo2 at h
 refine za0 (za1 hG ?_)
 refine za0 (za1 hG ?_)
 obtain ⟨v1,hv1,h⟩:=za2 h
 refine za6 (fun hg=>zG0 a0.resource _ (hv1)) ?_
 obtain ⟨v2,hv2,h⟩:=za2 h
 refine za6 (fun hg=>zX6 a0.resource a0.holds _ (zA6 hg hv2)) ?_
 obtain ⟨v3,hv3,h⟩:=za2 h
 refine za6 (fun hg=>zap6 a0 _ (zA6 hg hv3)) ?_
 obtain ⟨v4,hv4,h⟩:=za2 h
 refine za6 (fun hg=>zaz5 a0 _ (zA6 hg hv4)) ?_
 refine za7 ?_
 exact zb0 h
attribute [local irreducible] zo2
noncomputable def zp4 (a0:Queue):Option (Wait×Bool) :=
 (if (decide (0 < (a0.converts.length:Int)))=true then
  gd (0≤0∧0 < (a0.converts.length:Int)) <|
  some ((a0.converts.getD 0 Wait.zero),true)
 else
  (if (decide (0 < (a0.waits.length:Int)))=true then
   gd (0≤0∧0 < (a0.waits.length:Int)) <|
   some ((a0.waits.getD 0 Wait.zero),true)
  else
   some ({ Wait.zero with  },false)))
theorem zaB5 (a0:Queue) (r:Wait×Bool) (h:zp4 a0=some r):PFn C 161 [.agg (Queue.enc a0)] (.tup [.agg (Wait.enc r.1),.bool r.2]):=by
 refine za8 zer8 rfl fun E hG hN hK=>?_
 unfold zcr4
 unfold zp4 at h
 refine za0 (za1 hG ?_)
 refine za0 (zb6 (za0 (za1 hG ?_)))
 refine za4 rfl hG h (fun _ h=>?_) (fun _ h=>?_)
 · refine za0 ?_
   obtain ⟨hb1,h⟩:=za3 h
   refine za1 hG ?_
   refine za7 ?_
   exact zb0 h
 refine za0 (za1 hG ?_)
 refine za4 rfl hG h (fun _ h=>?_) (fun _ h=>?_)
 · refine za0 ?_
   obtain ⟨hb2,h⟩:=za3 h
   refine za1 hG ?_
   refine za7 ?_
   exact zb0 h
 refine za5 ?_
 refine za0 (za1 hG ?_)
 refine za7 ?_
 exact zb0 h
attribute [local irreducible] zp4
noncomputable def zi1 (a0:Resource) (a1:List Hold) (a2:Proc) (a3:Amount):Option (Bool) :=
 (zg8 a0 a1).bind fun v1 =>
 some ((v1&&(zb3 a2))&&(za9 a0 a3))
theorem zaG4 (a0:Resource) (a1:List Hold) (a2:Proc) (a3:Amount) (r:Bool) (h:zi1 a0 a1 a2 a3=some r):PFn C 182 [.agg (Resource.enc a0),.sl (a1.map Hold.enc),.agg (Proc.enc a2),.agg (Amount.enc a3)] (.bool r):=by
 refine za8 zer9 rfl fun E hG hN hK=>?_
 unfold zcr7
 unfold zi1 at h
 refine za0 (za1 hG ?_)
 refine za0 (za1 hG ?_)
 obtain ⟨v1,hv1,h⟩:=za2 h
 refine za6 (fun hg=>zX6 a0 a1 _ (hv1)) ?_
 refine za6 (fun hg=>zI5 a2) ?_
 refine za6 (fun hg=>zy2 a0 a3) ?_
 refine za7 ?_
 exact zb0 h
attribute [local irreducible] zi1
noncomputable def zO0 (a1:Proc) (a2:Amount) (j1:Int×(List Hold)):Option ((List Hold)) :=
 (if (zb8 a2)=true then
  some j1.2
 else
  (if (decide (j1.1 < 0))=true then
   gd (j1.2.length+1≤4294967296) <|
   gd (0≤(IntKind.i64.wrap (((j1.2.length:Nat):Int)+1))∧(IntKind.i64.wrap (((j1.2.length:Nat):Int)+1))≤((j1.2.length+1:Nat):Int)∧((j1.2.length+1:Nat):Int)≤((j1.2.length+1:Nat):Int)) <|
   gd (0≤((j1.2.length:Nat):Int)∧((j1.2.length:Nat):Int)≤((j1.2.length+1:Nat):Int)∧((j1.2.length+1:Nat):Int)≤((j1.2.length+1:Nat):Int)) <|
   gd (0≤((j1.2.length:Nat):Int)∧((j1.2.length:Nat):Int) < ((j1.2.length+1:Nat):Int)) <|
   some (((j1.2++[{ Hold.zero with  }]).take (IntKind.i64.wrap (((j1.2.length:Nat):Int)+1)).toNat++(((j1.2++[{ Hold.zero with  }]).drop (((j1.2.length:Nat):Int).toNat)).take (j1.2.length+1 - ((j1.2.length:Nat):Int).toNat)).take (j1.2.length+1 - (IntKind.i64.wrap (((j1.2.length:Nat):Int)+1)).toNat)++(j1.2++[{ Hold.zero with  }]).drop ((IntKind.i64.wrap (((j1.2.length:Nat):Int)+1)).toNat+min (((j1.2++[{ Hold.zero with  }]).drop (((j1.2.length:Nat):Int).toNat)).take (j1.2.length+1 - ((j1.2.length:Nat):Int).toNat)).length (j1.2.length+1 - (IntKind.i64.wrap (((j1.2.length:Nat):Int)+1)).toNat))).set (((j1.2.length:Nat):Int).toNat) (⟨a1,a2⟩:Hold))
  else
   gd (j1.2.length+1≤4294967296) <|
   gd (0≤(IntKind.i64.wrap (j1.1+1))∧(IntKind.i64.wrap (j1.1+1))≤((j1.2.length+1:Nat):Int)∧((j1.2.length+1:Nat):Int)≤((j1.2.length+1:Nat):Int)) <|
   gd (0≤j1.1∧j1.1≤((j1.2.length+1:Nat):Int)∧((j1.2.length+1:Nat):Int)≤((j1.2.length+1:Nat):Int)) <|
   gd (0≤j1.1∧j1.1 < ((j1.2.length+1:Nat):Int)) <|
   some (((j1.2++[{ Hold.zero with  }]).take (IntKind.i64.wrap (j1.1+1)).toNat++(((j1.2++[{ Hold.zero with  }]).drop j1.1.toNat).take (j1.2.length+1 - j1.1.toNat)).take (j1.2.length+1 - (IntKind.i64.wrap (j1.1+1)).toNat)++(j1.2++[{ Hold.zero with  }]).drop ((IntKind.i64.wrap (j1.1+1)).toNat+min (((j1.2++[{ Hold.zero with  }]).drop j1.1.toNat).take (j1.2.length+1 - j1.1.toNat)).length (j1.2.length+1 - (IntKind.i64.wrap (j1.1+1)).toNat))).set j1.1.toNat (⟨a1,a2⟩:Hold))))
@[go_sem] def zed5 (a1:Proc) (a2:Amount) (j1:Int×(List Hold)):St:=⟨[(4,.ptr 0 0 0),(5,.ptr 1 0 0),(7,.own 2 0 j1.2.length),(8,.int .i64 j1.1)],[(0,⟨false,3,(Proc.enc Proc.zero),[Proc.enc a1]⟩),(1,⟨false,2,(Amount.enc Amount.zero),[Amount.enc a2]⟩),(2,⟨false,5,(Hold.enc Hold.zero),j1.2.map Hold.enc⟩)],3⟩
noncomputable def zB7 (a0:List Hold) (a1:Proc) (g1:Int×Int×(List Hold)):Option ((Int×Int×(List Hold))⊕((Int×(List Hold)))) :=
 (if (decide (g1.2.1 < (a0.length:Int)))=true then
  gd (0≤g1.2.1∧g1.2.1 < (a0.length:Int)) <|
  (if (decide ((a0.getD g1.2.1.toNat Hold.zero).proc=a1))=true then
   some (.inl (g1.1,(IntKind.i64.wrap (g1.2.1+1)),g1.2.2))
  else
   ((if (decide (g1.1 < 0))=true then ze0 ((a0.getD g1.2.1.toNat Hold.zero).proc) a1 else some (0))).bind fun v1 =>
   (if ((decide (g1.1 < 0))&&(decide (0 < v1)))=true then
    gd (g1.2.2.length+1≤4294967296) <|
    some (.inl (((g1.2.2.length:Nat):Int),(IntKind.i64.wrap (g1.2.1+1)),(g1.2.2++[(a0.getD g1.2.1.toNat Hold.zero)])))
   else
    gd (g1.2.2.length+1≤4294967296) <|
    some (.inl (g1.1,(IntKind.i64.wrap (g1.2.1+1)),(g1.2.2++[(a0.getD g1.2.1.toNat Hold.zero)])))))
 else
  some (.inr (g1.1,g1.2.2)))
@[go_sem] def zed6 (a0:List Hold) (a1:Proc) (a2:Amount) (g1:Int×Int×(List Hold)):St:=⟨[(4,.ptr 0 0 0),(5,.ptr 1 0 0),(7,.own 2 0 g1.2.2.length),(8,.int .i64 g1.1),(15,.sl (a0.map Hold.enc)),(16,.int .i64 (a0.length:Int)),(17,.int .i64 g1.2.1)],[(0,⟨false,3,(Proc.enc Proc.zero),[Proc.enc a1]⟩),(1,⟨false,2,(Amount.enc Amount.zero),[Amount.enc a2]⟩),(2,⟨false,5,(Hold.enc Hold.zero),g1.2.2.map Hold.enc⟩)],3⟩
noncomputable def zi8 (a0:List Hold) (a1:Proc) (a2:Amount):Option ((List Hold)) :=
 gd (0≤0∧0≤(IntKind.i64.wrap ((a0.length:Int)+1))∧(IntKind.i64.wrap ((a0.length:Int)+1))≤4294967296) <|
 (zb9 (zB7 a0 a1) ((-1),0,(List.replicate 0 Hold.zero))).bind (fun z=>zO0 a1 a2 z)
theorem zae9 (a0:List Hold) (a1:Proc) (a2:Amount) (r:(List Hold)) (h:zi8 a0 a1 a2=some r):PFn C 106 [.sl (a0.map Hold.enc),.agg (Proc.enc a1),.agg (Amount.enc a2)] (.sl (r.map Hold.enc)):=by
 refine za8 zes0 rfl fun E hG hN hK=>?_
 unfold zcs8
 unfold zi8 at h
 refine za0 (za1 hG ?_)
 refine za0 ?_
 obtain ⟨hb12,h⟩:=za3 h
 refine za1 hG ?_
 refine za0 (za1 hG ?_)
 refine za0 (za0 (za1 hG ?_))
 refine zb4 (zed5 a1 a2) (fun v=>zO0 a1 a2 v=some r) ?_ ?_
 · intro j1 h
   unfold zO0 at h
   refine g_st ?_
   refine za0 (za0 (za1 hG ?_))
   refine za6 (fun hg=>zo0 a2) ?_
   refine za4 rfl hG h (fun _ h=>?_) (fun _ h=>?_)
   · refine za0 (za1 hG ?_)
     refine za7 ?_
     exact zb0 h
   refine za5 ?_
   refine za0 (za0 (za1 hG ?_))
   refine za4 rfl hG h (fun _ h=>?_) (fun _ h=>?_)
   · refine za1 hG ?_
     refine za0 ?_
     obtain ⟨hb4,h⟩:=za3 h
     refine za1 hG ?_
     refine za0 ?_
     obtain ⟨hb2,h⟩:=za3 h
     obtain ⟨hb3,h⟩:=za3 h
     refine zB2 zd2 hG ?_
     refine za0 ?_
     obtain ⟨hb1,h⟩:=za3 h
     refine za1 hG ?_
     refine za0 (za1 hG ?_)
     refine za7 ?_
     exact zb0 h
   refine za5 ?_
   refine za0 ?_
   obtain ⟨hb8,h⟩:=za3 h
   refine za1 hG ?_
   refine za0 ?_
   obtain ⟨hb6,h⟩:=za3 h
   obtain ⟨hb7,h⟩:=za3 h
   refine zB2 zd2 hG ?_
   refine za0 ?_
   obtain ⟨hb5,h⟩:=za3 h
   refine za1 hG ?_
   refine za0 (za1 hG ?_)
   refine za7 ?_
   exact zb0 h
 refine zd9 (zed6 a0 a1 a2) hK [(0,0),(1,1),(2,2)] h (fun x_l1 h g1 y_l1 h_l1 hx_l1=>?_)
 unfold zB7 at h_l1
 refine g_st ?_
 refine za0 (za1 hG ?_)
 refine za0 ?_
 refine za4 rfl hG h_l1 (fun _ h_l1=>?_) (fun _ h_l1=>?_)
 · refine za5 ?_
   refine za0 (zb6 (za0 ?_))
   obtain ⟨hb11,h_l1⟩:=za3 h_l1
   refine za1 hG ?_
   refine za0 (za0 (za1 hG ?_))
   refine za4 rfl hG h_l1 (fun _ h_l1=>?_) (fun _ h_l1=>?_)
   · refine zc7 ?_
     refine za1 hG ?_
     exact zd1 hK [(0,0),(1,1),(2,2)] h_l1
   refine za5 ?_
   refine za0 (za0 (za1 hG ?_))
   obtain ⟨v1,hv1,h_l1⟩:=za2 h_l1
   refine za6 (fun hg=>zM1 ((a0.getD g1.2.1.toNat Hold.zero).proc) a1 _ (zA6 hg hv1)) ?_
   refine za4 rfl hG h_l1 (fun _ h_l1=>?_) (fun _ h_l1=>?_)
   · refine za1 hG ?_
     obtain ⟨hb9,h_l1⟩:=za3 h_l1
     refine za1 hG ?_
     refine za1 hG ?_
     exact zd1 hK [(0,0),(1,1),(2,4)] h_l1
   refine za5 ?_
   obtain ⟨hb10,h_l1⟩:=za3 h_l1
   refine za1 hG ?_
   refine za1 hG ?_
   exact zd1 hK [(0,0),(1,1),(2,4)] h_l1
 refine zc7 ?_
 obtain rfl:=Option.some.inj h_l1
 have hx:=hx_l1 _ rfl
 subst hx
 try dsimp only at h
 exact zc5 hK [(0,0),(1,1),(2,2)] (g1.1,g1.2.2) (by exact h)
attribute [local irreducible] zi8
noncomputable def zj9 (a0:Resource) (a1:List Hold) (a2:Proc) (a3:Amount):Option (Bool) :=
 (zi1 a0 a1 a2 a3).bind fun v1 =>
 ((if v1=true then zi8 a1 a2 a3 else some ([]))).bind fun v2 =>
 ((if v1=true then zg8 a0 v2 else some (false))).bind fun v3 =>
 some (v1&&v3)
theorem zar6 (a0:Resource) (a1:List Hold) (a2:Proc) (a3:Amount) (r:Bool) (h:zj9 a0 a1 a2 a3=some r):PFn C 162 [.agg (Resource.enc a0),.sl (a1.map Hold.enc),.agg (Proc.enc a2),.agg (Amount.enc a3)] (.bool r):=by
 refine za8 zes1 rfl fun E hG hN hK=>?_
 unfold zct1
 unfold zj9 at h
 refine za0 (za1 hG ?_)
 refine za0 (zn3 zd2 hG ?_)
 obtain ⟨v1,hv1,h⟩:=za2 h
 refine zf7 (fun hg=>zaG4 a0 a1 a2 a3 _ (hv1)) ?_
 obtain ⟨v2,hv2,h⟩:=za2 h
 refine zf7 (fun hg=>zae9 a1 a2 a3 _ (zA6 hg hv2)) ?_
 obtain ⟨v3,hv3,h⟩:=za2 h
 refine zf7 (fun hg=>zX6 a0 v2 _ (zA6 hg hv3)) ?_
 refine za7 ?_
 exact zb0 h
attribute [local irreducible] zj9
noncomputable def zj7 (a0:Queue):Option (Bool) :=
 (zo2 a0).bind fun v1 =>
 (if (!v1)=true then
  some false
 else
  (zp4 a0).bind fun v2 =>
  ((if v2.2=true then zj9 a0.resource a0.holds v2.1.proc v2.1.amount else some (false))).bind fun v3 =>
  some ((!v2.2)||(!v3)))
theorem zaL9 (a0:Queue) (r:Bool) (h:zj7 a0=some r):PFn C 129 [.agg (Queue.enc a0)] (.bool r):=by
 refine za8 zes2 rfl fun E hG hN hK=>?_
 unfold zct7
 unfold zj7 at h
 refine za0 (za1 hG ?_)
 refine za0 (za0 (za1 hG ?_))
 obtain ⟨v1,hv1,h⟩:=za2 h
 refine za6 (fun hg=>zba4 a0 _ (hv1)) ?_
 refine za4 rfl hG h (fun _ h=>?_) (fun _ h=>?_)
 · refine za0 (za1 hG ?_)
   refine za7 ?_
   exact zb0 h
 refine za5 ?_
 refine za0 (za1 hG ?_)
 obtain ⟨v2,hv2,h⟩:=za2 h
 refine za6 (fun hg=>zaB5 a0 _ (hv2)) ?_
 refine za0 (za1 hG ?_)
 obtain ⟨v3,hv3,h⟩:=za2 h
 refine za6 (fun hg=>zar6 a0.resource a0.holds v2.1.proc v2.1.amount _ (zA6 hg hv3)) ?_
 refine za7 ?_
 exact zb0 h
attribute [local irreducible] zj7
noncomputable def zh5 (a0:Queue):Option (Bool) :=
 (zj7 a0).bind fun v1 =>
 some v1
theorem zU3 (a0:Queue) (r:Bool) (h:zh5 a0=some r):PFn C 84 [.agg (Queue.enc a0)] (.bool r):=by
 refine za8 zes3 rfl fun E hG hN hK=>?_
 unfold zcu0
 unfold zh5 at h
 refine za0 (za1 hG ?_)
 refine za0 (za1 hG ?_)
 obtain ⟨v1,hv1,h⟩:=za2 h
 refine za6 (fun hg=>zaL9 a0 _ (hv1)) ?_
 refine za7 ?_
 exact zb0 h
attribute [local irreducible] zh5
noncomputable def zM3  (j1:(List Proc)):Option ((List Proc)) :=
 some j1
@[go_sem] def zed7  (j1:(List Proc)):St:=⟨[(3,.own 0 0 j1.length)],[(0,⟨false,3,(Proc.enc Proc.zero),j1.map Proc.enc⟩)],1⟩
noncomputable def zaa6 (a0:List Hold) (g1:Int×(List Proc)):Option ((Int×(List Proc))⊕(((List Proc)))) :=
 (if (decide (g1.1 < (a0.length:Int)))=true then
  gd (0≤g1.1∧g1.1 < (a0.length:Int)) <|
  gd (g1.2.length+1≤4294967296) <|
  some (.inl ((IntKind.i64.wrap (g1.1+1)),(g1.2++[(a0.getD g1.1.toNat Hold.zero).proc])))
 else
  some (.inr g1.2))
@[go_sem] def zed8 (a0:List Hold) (g1:Int×(List Proc)):St:=⟨[(3,.own 0 0 g1.2.length),(6,.sl (a0.map Hold.enc)),(7,.int .i64 (a0.length:Int)),(8,.int .i64 g1.1)],[(0,⟨false,3,(Proc.enc Proc.zero),g1.2.map Proc.enc⟩)],1⟩
noncomputable def zh0 (a0:List Hold):Option ((List Proc)) :=
 (zb9 (zaa6 a0) (0,[])).bind (fun z=>zM3 z)
theorem zaz6 (a0:List Hold) (r:(List Proc)) (h:zh0 a0=some r):MFn C 116 [.sl (a0.map Hold.enc)] [] 0 (.own 0 0 r.length) [(0,⟨false,3,(Proc.enc Proc.zero),r.map Proc.enc⟩)] 1:=by
 refine zn5 (rl:=[.own 0 0 r.length]) zes4 rfl rfl rfl rfl fun E hG hN hK=>?_
 unfold zcu9
 unfold zh0 at h
 refine za0 (za1 hG ?_)
 refine za0 (za1 hG ?_)
 refine za0 (za0 (za1 hG ?_))
 refine zb4 (zed7) (fun v=>zM3 v=some r) ?_ ?_
 · intro j1 h
   unfold zM3 at h
   refine g_st ?_
   refine za0 (za1 hG ?_)
   refine za7 ?_
   exact zC2 [(0,0)] h
 refine zd9 (zed8 a0) hK [(0,1)] h (fun x_l1 h g1 y_l1 h_l1 hx_l1=>?_)
 unfold zaa6 at h_l1
 refine g_st ?_
 refine za0 (za1 hG ?_)
 refine za0 ?_
 refine za4 rfl hG h_l1 (fun _ h_l1=>?_) (fun _ h_l1=>?_)
 · refine za5 ?_
   refine za0 (zb6 (za0 ?_))
   obtain ⟨hb2,h_l1⟩:=za3 h_l1
   refine za1 hG ?_
   obtain ⟨hb1,h_l1⟩:=za3 h_l1
   refine za1 hG ?_
   refine za1 hG ?_
   exact zd1 hK [(0,2)] h_l1
 refine zc7 ?_
 obtain rfl:=Option.some.inj h_l1
 have hx:=hx_l1 _ rfl
 subst hx
 try dsimp only at h
 exact zc5 hK [(0,0)] g1.2 (by exact h)
attribute [local irreducible] zh0
def zc8 (a0:Int):Option (List Wait):=gd (0≤a0∧a0≤4294967296) (some [])
theorem zR9:Lays8.n4 C.P ⟨fun | 4=>168 | n=>n,fun | 22=>49 | 25=>119 | n=>n,fun n=>n⟩ where
 mixed:=zd2
 f4:=⟨ "slices.Grow[[]clusterlocks/api.Wait,clusterlocks/api.Wait]",by decide,Tryz.func168.trans (congrArg some (by kernel_rfl))⟩
 t0:=Tryz.underlying0
 a0:=Tryz.isAgg0
 z0:=Tryz.sizeOf0
 v0:=Tryz.zeroValue0
 t3:=Tryz.underlying3
 a3:=Tryz.isAgg3
 z3:=Tryz.sizeOf3
 v3:=Tryz.zeroValue3
 t4:=Tryz.underlying4
 a4:=Tryz.isAgg4
 z4:=Tryz.sizeOf4
 v4:=Tryz.zeroValue4
 t9:=Tryz.underlying9
 a9:=Tryz.isAgg9
 z9:=Tryz.sizeOf9
 v9:=Tryz.zeroValue9
 t20:=Tryz.underlying20
 a20:=Tryz.isAgg20
 z20:=Tryz.sizeOf20
 v20:=Tryz.zeroValue20
 t22:=Tryz.underlying49
 a22:=Tryz.isAgg49
 z22:=Tryz.sizeOf49
 v22:=Tryz.zeroValue49
theorem zR0 (a0:Int) (r:List Wait) (h:zc8 a0=some r):MFn C 168 [.full [],.int .i64 a0] [] 0 (.own 0 0 r.length) [(0,⟨false,7,(Wait.enc Wait.zero),r.map Wait.enc⟩)] 1:=by
 obtain ⟨⟨h0,h1⟩,h⟩:=za3 h
 obtain rfl:=Option.some.inj h
 exact zcb2 zR9 (by kernel_rfl) rfl _ a0 h0 h1
attribute [local irreducible] zc8
end Ab
end Go.Proofs.YtfjeceicgfdmjaaGreatDoor
