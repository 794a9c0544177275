/-
  Functions of the program,as Lean functions; what the program's code computes is what they say.
-/
import Derived.Test.YtfjeceicgfdmjaaGreatDoorCode
import Derived.Test.YtfjeceicgfdmjaaGreatDoorHand
import Derived.Test.YtfjeceicgfdmjaaGreatDoorSort
namespace Go.Proofs.YtfjeceicgfdmjaaGreatDoor
namespace Ab
set_option linter.unusedSimpArgs false
set_option linter.unusedVariables false
set_option maxRecDepth 100000
set_option maxHeartbeats 1000000
def zk0  (j1:Bool):Bool :=
 (if j1=true then
  true
 else
  false)
@[go_sem] def zeD7  (j1:Bool):St:=⟨[(4,.bool j1)],[],0⟩
def zw0 (a0:ByteArray):Bool :=
 (if (a0.toList == (⟨#[97,108,108]⟩:ByteArray).toList)=true then
  zk0 (a0.toList == (⟨#[97,108,108]⟩:ByteArray).toList)
 else
  (if (a0.toList == (⟨#[97,110,121]⟩:ByteArray).toList)=true then
   zk0 (a0.toList == (⟨#[97,110,121]⟩:ByteArray).toList)
  else
   (if (a0.toList == (⟨#[111,102]⟩:ByteArray).toList)=true then
    zk0 (a0.toList == (⟨#[111,102]⟩:ByteArray).toList)
   else
    (if (a0.toList == (⟨#[112,114,105,111]⟩:ByteArray).toList)=true then
     zk0 (a0.toList == (⟨#[112,114,105,111]⟩:ByteArray).toList)
    else
     zk0 (a0.toList == (⟨#[108,105,109,105,116]⟩:ByteArray).toList)))))
theorem zav0 (a0:ByteArray):PFn C 156 [.str a0] (.bool (zw0 a0)):=by
 generalize h:zw0 a0=r
 refine za8 ck_0 rfl fun E hG hN hK=>?_
 unfold pc_0
 unfold zw0 at h
 refine za0 (za1 hG ?_)
 refine za0 (za0 (za1 hG ?_))
 refine zb9 (za0 (za0 (za1 hG ?_)))
 refine zbj1 (zeD7) (fun v=>zk0 v=r) rfl hG h ?_ (fun _ h=>?_) (fun _ h=>?_)
 · intro j1 h
   unfold zk0 at h
   refine g_st ?_
   refine za4 rfl hG h (fun _ h=>?_) (fun _ h=>?_)
   · refine za0 (za1 hG ?_)
     refine za7 ?_
     exact zf3 h
   refine za5 ?_
   refine za0 (za1 hG ?_)
   refine za7 ?_
   exact zf3 h
 · refine za5 ?_
   exact zc8 hK [] (a0.toList == (⟨#[97,108,108]⟩:ByteArray).toList) (by exact h)
 refine za0 (za1 hG ?_)
 refine za4 rfl hG h (fun _ h=>?_) (fun _ h=>?_)
 · refine za5 ?_
   exact zc8 hK [] (a0.toList == (⟨#[97,110,121]⟩:ByteArray).toList) (by exact h)
 refine za0 (za1 hG ?_)
 refine za4 rfl hG h (fun _ h=>?_) (fun _ h=>?_)
 · refine za5 ?_
   exact zc8 hK [] (a0.toList == (⟨#[111,102]⟩:ByteArray).toList) (by exact h)
 refine za0 (za1 hG ?_)
 refine za4 rfl hG h (fun _ h=>?_) (fun _ h=>?_)
 · refine za5 ?_
   exact zc8 hK [] (a0.toList == (⟨#[112,114,105,111]⟩:ByteArray).toList) (by exact h)
 refine za1 hG ?_
 exact zc8 hK [] (a0.toList == (⟨#[108,105,109,105,116]⟩:ByteArray).toList) (by exact h)
noncomputable def zF4  (j1:Unit):Option (Bool) :=
 some true
@[go_sem] def zeD8  (j1:Unit):St:=⟨[],[],0⟩
noncomputable def zp3 (a0:ByteArray) (g1:Int):Option ((Int)⊕((Unit)⊕(Bool))) :=
 (if (decide (g1 < (a0.size:Int)))=true then
  gd (0≤g1∧g1 < (a0.size:Int)) <|
  (if ((!((decide (97≤((a0.toList.getD g1.toNat 0).toNat:Int)))&&(decide (((a0.toList.getD g1.toNat 0).toNat:Int)≤122))))&&((decide (g1=0))||(!((((decide (48≤((a0.toList.getD g1.toNat 0).toNat:Int)))&&(decide (((a0.toList.getD g1.toNat 0).toNat:Int)≤57)))||(decide (((a0.toList.getD g1.toNat 0).toNat:Int)=95)))||(decide (((a0.toList.getD g1.toNat 0).toNat:Int)=45))))))=true then
   some (.inr (.inr false))
  else
   some (.inl (IntKind.i64.wrap (g1+1))))
 else
  some (.inr (.inl ())))
@[go_sem] def zeD9 (a0:ByteArray) (g1:Int):St:=⟨[(0,.str a0),(20,.int .i64 (a0.size:Int)),(21,.int .i64 g1)],[],0⟩
noncomputable def ze6 (a0:ByteArray):Option (Bool) :=
 (if (((decide ((a0.size:Int) < 1))||(decide (12 < (a0.size:Int))))||(zw0 a0))=true then
  some false
 else
  (zc1 (zp3 a0) 0).bind (fun | .inl z=>zF4 z | .inr z=>some z))
theorem zap6 (a0:ByteArray) (r:Bool) (h:ze6 a0=some r):PFn C 125 [.str a0] (.bool r):=by
 refine za8 ck_1 rfl fun E hG hN hK=>?_
 unfold pc_1
 unfold ze6 at h
 refine za0 (za1 hG ?_)
 refine za0 (za0 (za1 hG ?_))
 refine za6 (fun hg=>zav0 a0) ?_
 refine za4 rfl hG h (fun _ h=>?_) (fun _ h=>?_)
 · refine za0 (za1 hG ?_)
   refine za7 ?_
   exact zb0 h
 refine za5 ?_
 refine za0 (za0 (za1 hG ?_))
 refine zb7 (zeD8) (fun v=>zF4 v=some r) ?_ ?_
 · intro j1 h
   unfold zF4 at h
   refine g_st ?_
   refine za0 (za1 hG ?_)
   refine za7 ?_
   exact zb0 h
 refine ze0 (zeD9 a0) hK [] h (fun x_l1 h g1 y_l1 h_l1 hx_l1=>?_)
 unfold zp3 at h_l1
 refine g_st ?_
 refine za0 (za1 hG ?_)
 refine za0 ?_
 refine za4 rfl hG h_l1 (fun _ h_l1=>?_) (fun _ h_l1=>?_)
 · refine za5 ?_
   refine za0 (zb9 (za0 (za1 hG ?_)))
   refine za0 ?_
   obtain ⟨hb1,h_l1⟩:=za3 h_l1
   refine za1 hG ?_
   refine za0 (za1 hG ?_)
   refine za0 (za1 hG ?_)
   refine za0 (za1 hG ?_)
   refine za4 rfl hG h_l1 (fun _ h_l1=>?_) (fun _ h_l1=>?_)
   · refine za0 (za1 hG ?_)
     refine za7 ?_
     obtain rfl:=Option.some.inj h_l1
     have hx:=hx_l1 _ rfl
     subst hx
     try dsimp only at h
     exact zb0 h
   refine za5 ?_
   refine za1 hG ?_
   exact zd0 hK [] h_l1
 refine zc5 ?_
 obtain rfl:=Option.some.inj h_l1
 have hx:=hx_l1 _ rfl
 subst hx
 try dsimp only at h
 exact zc8 hK [] () (by exact h)
attribute [local irreducible] ze6
def zc6 (a0:Resource):Bool :=
 (if (decide (a0.kind=1))=true then
  (decide (a0.units=1))
 else
  (if (decide (a0.kind=2))=true then
   ((decide (1≤a0.units))&&(decide (a0.units≤8)))
  else
   false))
theorem zD7 (a0:Resource):PFn C 126 [.agg (Resource.enc a0)] (.bool (zc6 a0)):=by
 generalize h:zc6 a0=r
 refine za8 ck_2 rfl fun E hG hN hK=>?_
 unfold pc_2
 unfold zc6 at h
 refine za0 (za1 hG ?_)
 refine za0 (za0 (za1 hG ?_))
 refine zb9 (za0 (za1 hG ?_))
 refine za4 rfl hG h (fun _ h=>?_) (fun _ h=>?_)
 · refine za0 (za1 hG ?_)
   refine za7 ?_
   exact zf3 h
 refine za0 (za1 hG ?_)
 refine za4 rfl hG h (fun _ h=>?_) (fun _ h=>?_)
 · refine za0 (za1 hG ?_)
   refine za7 ?_
   exact zf3 h
 refine za5 ?_
 refine za0 (za1 hG ?_)
 refine za7 ?_
 exact zf3 h
noncomputable def zc7 (a0:Resource):Option (Bool) :=
 (ze6 a0.name).bind fun v1 =>
 some (((v1&&(zc6 a0))&&(decide (0≤a0.home)))&&(decide (a0.home < 4)))
theorem zC8 (a0:Resource) (r:Bool) (h:zc7 a0=some r):PFn C 82 [.agg (Resource.enc a0)] (.bool r):=by
 refine za8 ck_3 rfl fun E hG hN hK=>?_
 unfold pc_3
 unfold zc7 at h
 refine za0 (za1 hG ?_)
 refine za0 (za1 hG ?_)
 obtain ⟨v1,hv1,h⟩:=za2 h
 refine za6 (fun hg=>zap6 a0.name _ (hv1)) ?_
 refine za6 (fun hg=>zD7 a0) ?_
 refine za7 ?_
 exact zb0 h
attribute [local irreducible] zc7
noncomputable def zP5  (j1:Unit):Option (Bool) :=
 some true
@[go_sem] def zeE0  (j1:Unit):St:=⟨[],[],0⟩
noncomputable def zF5 (a0:List Resource) (g1:Int):Option ((Int)⊕((Unit)⊕(Bool))) :=
 (if (decide (g1 < (a0.length:Int)))=true then
  gd (0≤g1∧g1 < (a0.length:Int)) <|
  (zc7 (a0.getD g1.toNat Resource.zero)).bind fun v1 =>
  gd ((v1&&(decide (0 < g1)))=true→0≤(IntKind.i64.wrap (g1 - 1))∧(IntKind.i64.wrap (g1 - 1)) < (a0.length:Int)) <|
  (if ((!v1)||((decide (0 < g1))&&(!Op.bytesLess ((a0.getD ((IntKind.i64.wrap (g1 - 1)).toNat) Resource.zero).name).toList ((a0.getD g1.toNat Resource.zero).name).toList)))=true then
   some (.inr (.inr false))
  else
   some (.inl (IntKind.i64.wrap (g1+1))))
 else
  some (.inr (.inl ())))
@[go_sem] def zeE1 (a0:List Resource) (g1:Int):St:=⟨[(0,.sl (a0.map Resource.enc)),(8,.sl (a0.map Resource.enc)),(9,.int .i64 (a0.length:Int)),(10,.int .i64 g1)],[],0⟩
noncomputable def zi3 (a0:List Resource):Option (Bool) :=
 (if (decide (8 < (a0.length:Int)))=true then
  some false
 else
  (zc1 (zF5 a0) 0).bind (fun | .inl z=>zP5 z | .inr z=>some z))
theorem zaG4 (a0:List Resource) (r:Bool) (h:zi3 a0=some r):PFn C 48 [.sl (a0.map Resource.enc)] (.bool r):=by
 refine za8 ck_4 rfl fun E hG hN hK=>?_
 unfold pc_4
 unfold zi3 at h
 refine za0 (za1 hG ?_)
 refine za0 (za0 (za1 hG ?_))
 refine za4 rfl hG h (fun _ h=>?_) (fun _ h=>?_)
 · refine za0 (za1 hG ?_)
   refine za7 ?_
   exact zb0 h
 refine za5 ?_
 refine za0 (za0 (za1 hG ?_))
 refine zb7 (zeE0) (fun v=>zP5 v=some r) ?_ ?_
 · intro j1 h
   unfold zP5 at h
   refine g_st ?_
   refine za0 (za1 hG ?_)
   refine za7 ?_
   exact zb0 h
 refine ze0 (zeE1 a0) hK [] h (fun x_l1 h g1 y_l1 h_l1 hx_l1=>?_)
 unfold zF5 at h_l1
 refine g_st ?_
 refine za0 (za1 hG ?_)
 refine za0 ?_
 refine za4 rfl hG h_l1 (fun _ h_l1=>?_) (fun _ h_l1=>?_)
 · refine za5 ?_
   refine za0 (zb9 (za0 ?_))
   obtain ⟨hb2,h_l1⟩:=za3 h_l1
   refine za1 hG ?_
   refine za0 (zq9 zd6 hG ?_)
   obtain ⟨v1,hv1,h_l1⟩:=za2 h_l1
   obtain ⟨hb1,h_l1⟩:=za3 h_l1
   refine zi7 (fun hg=>zC8 (a0.getD g1.toNat Resource.zero) _ (hv1)) ?_
   refine za4 rfl hG h_l1 (fun _ h_l1=>?_) (fun _ h_l1=>?_)
   · refine za0 (za1 hG ?_)
     refine za7 ?_
     obtain rfl:=Option.some.inj h_l1
     have hx:=hx_l1 _ rfl
     subst hx
     try dsimp only at h
     exact zb0 h
   refine za5 ?_
   refine za1 hG ?_
   exact zd0 hK [] h_l1
 refine zc5 ?_
 obtain rfl:=Option.some.inj h_l1
 have hx:=hx_l1 _ rfl
 subst hx
 try dsimp only at h
 exact zc8 hK [] () (by exact h)
attribute [local irreducible] zi3
noncomputable def zt0 (a0:Resource):Option (Queue×Int) :=
 (zc7 a0).bind fun v1 =>
 (if (!v1)=true then
  some ({ Queue.zero with  },1)
 else
  some ({ Queue.zero with resource:=a0 },0))
theorem zbj3 (a0:Resource) (r:Queue×Int) (h:zt0 a0=some r):PFn C 49 [.agg (Resource.enc a0)] (.tup [.agg (Queue.enc r.1),.int .i64 r.2]):=by
 refine za8 ck_5 rfl fun E hG hN hK=>?_
 unfold pc_5
 unfold zt0 at h
 refine za0 (za1 hG ?_)
 refine za0 (za0 (za1 hG ?_))
 obtain ⟨v1,hv1,h⟩:=za2 h
 refine za6 (fun hg=>zC8 a0 _ (hv1)) ?_
 refine za4 rfl hG h (fun _ h=>?_) (fun _ h=>?_)
 · refine za0 (za1 hG ?_)
   refine za7 ?_
   exact zb0 h
 refine za5 ?_
 refine za0 (za1 hG ?_)
 refine za7 ?_
 exact zb0 h
attribute [local irreducible] zt0
noncomputable def zab5  (j1:(List Queue)):Option ((List Queue)×Int) :=
 some (j1,0)
@[go_sem] def zeE2  (j1:(List Queue)):St:=⟨[(4,.own 0 0 j1.length)],[(0,⟨false,8,(Queue.enc Queue.zero),j1.map Queue.enc⟩)],1⟩
noncomputable def zJ1 (a0:List Resource) (g1:Int×(List Queue)):Option ((Int×(List Queue))⊕(((List Queue))⊕((List Queue)×Int))) :=
 (if (decide (g1.1 < (a0.length:Int)))=true then
  gd (0≤g1.1∧g1.1 < (a0.length:Int)) <|
  (zt0 (a0.getD g1.1.toNat Resource.zero)).bind fun v2 =>
  (if (!decide (v2.2=0))=true then
   some (.inr (.inr ([],v2.2)))
  else
   gd (g1.2.length+1≤4294967296) <|
   some (.inl ((IntKind.i64.wrap (g1.1+1)),(g1.2++[v2.1]))))
 else
  some (.inr (.inl g1.2)))
@[go_sem] def zeE3 (a0:List Resource) (g1:Int×(List Queue)):St:=⟨[(4,.own 0 0 g1.2.length),(12,.sl (a0.map Resource.enc)),(13,.int .i64 (a0.length:Int)),(14,.int .i64 g1.1)],[(0,⟨false,8,(Queue.enc Queue.zero),g1.2.map Queue.enc⟩)],1⟩
noncomputable def zq1 (a0:List Resource):Option ((List Queue)×Int) :=
 (zi3 a0).bind fun v1 =>
 (if (!v1)=true then
  some ([],1)
 else
  (zc1 (zJ1 a0) (0,[])).bind (fun | .inl z=>zab5 z | .inr z=>some z))
theorem zaB7 (a0:List Resource) (r:(List Queue)×Int) (h:zq1 a0=some r):PFn C 12 [.sl (a0.map Resource.enc)] (.tup [.sl (r.1.map Queue.enc),.int .i64 r.2]):=by
 refine za8 ck_6 rfl fun E hG hN hK=>?_
 unfold pc_6
 unfold zq1 at h
 refine za0 (za1 hG ?_)
 refine za0 (za0 (za1 hG ?_))
 obtain ⟨v1,hv1,h⟩:=za2 h
 refine za6 (fun hg=>zaG4 a0 _ (hv1)) ?_
 refine za4 rfl hG h (fun _ h=>?_) (fun _ h=>?_)
 · refine za0 (za1 hG ?_)
   refine za7 ?_
   exact zb0 h
 refine za5 ?_
 refine za0 (za1 hG ?_)
 refine za0 (za0 (za1 hG ?_))
 refine zb7 (zeE2) (fun v=>zab5 v=some r) ?_ ?_
 · intro j1 h
   unfold zab5 at h
   refine g_st ?_
   refine za0 (za1 hG ?_)
   refine za7 ?_
   exact zb0 h
 refine ze0 (zeE3 a0) hK [(0,0)] h (fun x_l1 h g1 y_l1 h_l1 hx_l1=>?_)
 unfold zJ1 at h_l1
 refine g_st ?_
 refine za0 (za1 hG ?_)
 refine za0 ?_
 refine za4 rfl hG h_l1 (fun _ h_l1=>?_) (fun _ h_l1=>?_)
 · refine za5 ?_
   refine za0 (zb9 (za0 ?_))
   obtain ⟨hb2,h_l1⟩:=za3 h_l1
   refine za1 hG ?_
   refine za0 (za1 hG ?_)
   obtain ⟨v2,hv2,h_l1⟩:=za2 h_l1
   refine za6 (fun hg=>zbj3 (a0.getD g1.1.toNat Resource.zero) _ (hv2)) ?_
   refine za0 (za0 (za1 hG ?_))
   refine za4 rfl hG h_l1 (fun _ h_l1=>?_) (fun _ h_l1=>?_)
   · refine za0 (za1 hG ?_)
     refine za7 ?_
     obtain rfl:=Option.some.inj h_l1
     have hx:=hx_l1 _ rfl
     subst hx
     try dsimp only at h
     exact zb0 h
   refine za5 ?_
   obtain ⟨hb1,h_l1⟩:=za3 h_l1
   refine za1 hG ?_
   refine za1 hG ?_
   exact zd0 hK [(0,3)] h_l1
 refine zc5 ?_
 obtain rfl:=Option.some.inj h_l1
 have hx:=hx_l1 _ rfl
 subst hx
 try dsimp only at h
 exact zc8 hK [(0,0)] g1.2 (by exact h)
attribute [local irreducible] zq1
def zu0 (a0:Int):Bool :=
 ((decide (97≤a0))&&(decide (a0≤122)))
theorem zan4 (a0:Int):PFn C 157 [.int .u8 a0] (.bool (zu0 a0)):=by
 generalize h:zu0 a0=r
 refine za8 ck_7 rfl fun E hG hN hK=>?_
 unfold pc_7
 unfold zu0 at h
 refine za0 (za1 hG ?_)
 refine za0 (za1 hG ?_)
 refine za7 ?_
 exact zf3 h
def zp4 (a0:ByteArray):Bool :=
 (((((a0.toList == (⟨#[97,108,108]⟩:ByteArray).toList)||(a0.toList == (⟨#[97,110,121]⟩:ByteArray).toList))||(a0.toList == (⟨#[111,102]⟩:ByteArray).toList))||(a0.toList == (⟨#[112,114,105,111]⟩:ByteArray).toList))||(a0.toList == (⟨#[108,105,109,105,116]⟩:ByteArray).toList))
theorem zaB8 (a0:ByteArray):PFn C 158 [.str a0] (.bool (zp4 a0)):=by
 generalize h:zp4 a0=r
 refine za8 ck_8 rfl fun E hG hN hK=>?_
 unfold pc_8
 unfold zp4 at h
 refine za0 (za1 hG ?_)
 refine za0 (za1 hG ?_)
 refine za7 ?_
 exact zf3 h
def zn3 (a0:Int):Bool :=
 ((((zu0 a0)||((decide (48≤a0))&&(decide (a0≤57))))||(decide (a0=95)))||(decide (a0=45)))
theorem zbb4 (a0:Int):PFn C 159 [.int .u8 a0] (.bool (zn3 a0)):=by
 generalize h:zn3 a0=r
 refine za8 ck_9 rfl fun E hG hN hK=>?_
 unfold pc_9
 unfold zn3 at h
 refine za0 (za1 hG ?_)
 refine za0 (za1 hG ?_)
 refine za6 (fun hg=>zan4 a0) ?_
 refine za7 ?_
 exact zf3 h
noncomputable def zJ2  (j1:Unit):Option (Bool) :=
 some true
@[go_sem] def zeE4  (j1:Unit):St:=⟨[],[],0⟩
noncomputable def zt1 (a0:ByteArray) (g1:Int):Option ((Int)⊕((Unit)⊕(Bool))) :=
 (if (decide (g1 < (a0.size:Int)))=true then
  gd (0≤g1∧g1 < (a0.size:Int)) <|
  (if (!(zn3 ((a0.toList.getD g1.toNat 0).toNat:Int)))=true then
   some (.inr (.inr false))
  else
   some (.inl (IntKind.i64.wrap (g1+1))))
 else
  some (.inr (.inl ())))
@[go_sem] def zeE5 (a0:ByteArray) (g1:Int):St:=⟨[(0,.str a0),(3,.int .i64 g1)],[],0⟩
noncomputable def zf7 (a0:ByteArray):Option (Bool) :=
 gd ((!((decide ((a0.size:Int) < 1))||(decide (12 < (a0.size:Int)))))=true→0≤0∧0 < (a0.size:Int)) <|
 (if ((((decide ((a0.size:Int) < 1))||(decide (12 < (a0.size:Int))))||(!(zu0 ((a0.toList.getD 0 0).toNat:Int))))||(zp4 a0))=true then
  some false
 else
  (zc1 (zt1 a0) 0).bind (fun | .inl z=>zJ2 z | .inr z=>some z))
theorem zay7 (a0:ByteArray) (r:Bool) (h:zf7 a0=some r):PFn C 127 [.str a0] (.bool r):=by
 refine za8 ck_a rfl fun E hG hN hK=>?_
 unfold pc_a
 unfold zf7 at h
 refine za0 (za1 hG ?_)
 refine za0 (za0 ?_)
 obtain ⟨hb2,h⟩:=za3 h
 refine za1 hG ?_
 refine za6 (fun hg=>zan4 ((a0.toList.getD 0 0).toNat:Int)) ?_
 refine za6 (fun hg=>zaB8 a0) ?_
 refine za4 rfl hG h (fun _ h=>?_) (fun _ h=>?_)
 · refine za0 (za1 hG ?_)
   refine za7 ?_
   exact zb0 h
 refine za5 ?_
 refine za0 (za0 (za1 hG ?_))
 refine zb7 (zeE4) (fun v=>zJ2 v=some r) ?_ ?_
 · intro j1 h
   unfold zJ2 at h
   refine g_st ?_
   refine za0 (za1 hG ?_)
   refine za7 ?_
   exact zb0 h
 refine ze0 (zeE5 a0) hK [] h (fun x_l1 h g1 y_l1 h_l1 hx_l1=>?_)
 unfold zt1 at h_l1
 refine g_st ?_
 refine za0 (za0 (za1 hG ?_))
 refine za4 rfl hG h_l1 (fun _ h_l1=>?_) (fun _ h_l1=>?_)
 · refine za5 ?_
   refine za0 (zb9 (za0 ?_))
   obtain ⟨hb1,h_l1⟩:=za3 h_l1
   refine za1 hG ?_
   refine za6 (fun hg=>zbb4 ((a0.toList.getD g1.toNat 0).toNat:Int)) ?_
   refine za4 rfl hG h_l1 (fun _ h_l1=>?_) (fun _ h_l1=>?_)
   · refine za0 (za1 hG ?_)
     refine za7 ?_
     obtain rfl:=Option.some.inj h_l1
     have hx:=hx_l1 _ rfl
     subst hx
     try dsimp only at h
     exact zb0 h
   refine za5 ?_
   refine za1 hG ?_
   exact zd0 hK [] h_l1
 refine zc5 ?_
 obtain rfl:=Option.some.inj h_l1
 have hx:=hx_l1 _ rfl
 subst hx
 try dsimp only at h
 exact zc8 hK [] () (by exact h)
attribute [local irreducible] zf7
def zr0 (a0:Resource):Bool :=
 (((decide (a0.kind=1))&&(decide (a0.units=1)))||(((decide (a0.kind=2))&&(decide (1≤a0.units)))&&(decide (a0.units≤8))))
theorem zG9 (a0:Resource):PFn C 128 [.agg (Resource.enc a0)] (.bool (zr0 a0)):=by
 generalize h:zr0 a0=r
 refine za8 ck_b rfl fun E hG hN hK=>?_
 unfold pc_b
 unfold zr0 at h
 refine za0 (za1 hG ?_)
 refine za0 (za1 hG ?_)
 refine za7 ?_
 exact zf3 h
noncomputable def zd5 (a0:Resource):Option (Bool) :=
 (zf7 a0.name).bind fun v1 =>
 some (((v1&&(zr0 a0))&&(decide (0≤a0.home)))&&(decide (a0.home < 4)))
theorem zS0 (a0:Resource) (r:Bool) (h:zd5 a0=some r):PFn C 83 [.agg (Resource.enc a0)] (.bool r):=by
 refine za8 ck_c rfl fun E hG hN hK=>?_
 unfold pc_c
 unfold zd5 at h
 refine za0 (za1 hG ?_)
 refine za0 (za1 hG ?_)
 obtain ⟨v1,hv1,h⟩:=za2 h
 refine za6 (fun hg=>zay7 a0.name _ (hv1)) ?_
 refine za6 (fun hg=>zG9 a0) ?_
 refine za7 ?_
 exact zb0 h
attribute [local irreducible] zd5
noncomputable def zU7  (j1:Unit):Option (Bool) :=
 some true
@[go_sem] def zeE6  (j1:Unit):St:=⟨[],[],0⟩
noncomputable def zL6 (a0:List Resource) (g1:Int):Option ((Int)⊕((Unit)⊕(Bool))) :=
 (if (decide (g1 < (a0.length:Int)))=true then
  gd (0≤g1∧g1 < (a0.length:Int)) <|
  (zd5 (a0.getD g1.toNat Resource.zero)).bind fun v1 =>
  gd ((v1&&(decide (0 < g1)))=true→0≤(IntKind.i64.wrap (g1 - 1))∧(IntKind.i64.wrap (g1 - 1)) < (a0.length:Int)) <|
  gd ((v1&&(decide (0 < g1)))=true→0≤g1∧g1 < (a0.length:Int)) <|
  (if ((!v1)||((decide (0 < g1))&&(!Op.bytesLess ((a0.getD ((IntKind.i64.wrap (g1 - 1)).toNat) Resource.zero).name).toList ((a0.getD g1.toNat Resource.zero).name).toList)))=true then
   some (.inr (.inr false))
  else
   some (.inl (IntKind.i64.wrap (g1+1))))
 else
  some (.inr (.inl ())))
@[go_sem] def zeE7 (a0:List Resource) (g1:Int):St:=⟨[(0,.sl (a0.map Resource.enc)),(3,.int .i64 g1)],[],0⟩
noncomputable def zm5 (a0:List Resource):Option (Bool) :=
 (if (decide (8 < (a0.length:Int)))=true then
  some false
 else
  (zc1 (zL6 a0) 0).bind (fun | .inl z=>zU7 z | .inr z=>some z))
theorem zaU7 (a0:List Resource) (r:Bool) (h:zm5 a0=some r):PFn C 50 [.sl (a0.map Resource.enc)] (.bool r):=by
 refine za8 ck_d rfl fun E hG hN hK=>?_
 unfold pc_d
 unfold zm5 at h
 refine za0 (za1 hG ?_)
 refine za0 (za0 (za1 hG ?_))
 refine za4 rfl hG h (fun _ h=>?_) (fun _ h=>?_)
 · refine za0 (za1 hG ?_)
   refine za7 ?_
   exact zb0 h
 refine za5 ?_
 refine za0 (za0 (za1 hG ?_))
 refine zb7 (zeE6) (fun v=>zU7 v=some r) ?_ ?_
 · intro j1 h
   unfold zU7 at h
   refine g_st ?_
   refine za0 (za1 hG ?_)
   refine za7 ?_
   exact zb0 h
 refine ze0 (zeE7 a0) hK [] h (fun x_l1 h g1 y_l1 h_l1 hx_l1=>?_)
 unfold zL6 at h_l1
 refine g_st ?_
 refine za0 (za0 (za1 hG ?_))
 refine za4 rfl hG h_l1 (fun _ h_l1=>?_) (fun _ h_l1=>?_)
 · refine za5 ?_
   refine za0 (zb9 (za0 ?_))
   obtain ⟨hb1,h_l1⟩:=za3 h_l1
   refine zq9 zd6 hG ?_
   obtain ⟨v1,hv1,h_l1⟩:=za2 h_l1
   obtain ⟨hb2,h_l1⟩:=za3 h_l1
   obtain ⟨hb3,h_l1⟩:=za3 h_l1
   refine zi7 (fun hg=>zS0 (a0.getD g1.toNat Resource.zero) _ (hv1)) ?_
   refine za4 rfl hG h_l1 (fun _ h_l1=>?_) (fun _ h_l1=>?_)
   · refine za0 (za1 hG ?_)
     refine za7 ?_
     obtain rfl:=Option.some.inj h_l1
     have hx:=hx_l1 _ rfl
     subst hx
     try dsimp only at h
     exact zb0 h
   refine za5 ?_
   refine za1 hG ?_
   exact zd0 hK [] h_l1
 refine zc5 ?_
 obtain rfl:=Option.some.inj h_l1
 have hx:=hx_l1 _ rfl
 subst hx
 try dsimp only at h
 exact zc8 hK [] () (by exact h)
attribute [local irreducible] zm5
noncomputable def zab6  (j1:(List Queue)):Option ((List Queue)×Int) :=
 some (j1,0)
@[go_sem] def zeE8  (j1:(List Queue)):St:=⟨[(4,.own 0 0 j1.length)],[(0,⟨false,8,(Queue.enc Queue.zero),j1.map Queue.enc⟩)],1⟩
noncomputable def zS1 (a0:List Resource) (g1:Int×(List Queue)):Option ((Int×(List Queue))⊕(((List Queue)))) :=
 (if (decide (g1.1 < (a0.length:Int)))=true then
  gd (0≤g1.1∧g1.1 < (a0.length:Int)) <|
  gd (g1.2.length+1≤4294967296) <|
  some (.inl ((IntKind.i64.wrap (g1.1+1)),(g1.2++[{ Queue.zero with resource:=(a0.getD g1.1.toNat Resource.zero) }])))
 else
  some (.inr g1.2))
@[go_sem] def zeE9 (a0:List Resource) (g1:Int×(List Queue)):St:=⟨[(0,.sl (a0.map Resource.enc)),(4,.own 0 0 g1.2.length),(5,.int .i64 g1.1)],[(0,⟨false,8,(Queue.enc Queue.zero),g1.2.map Queue.enc⟩)],1⟩
noncomputable def zq2 (a0:List Resource):Option ((List Queue)×Int) :=
 (zm5 a0).bind fun v1 =>
 (if (!v1)=true then
  some ([],1)
 else
  (zc1 (zS1 a0) (0,[])).bind (fun z=>zab6 z))
theorem zbj4 (a0:List Resource) (r:(List Queue)×Int) (h:zq2 a0=some r):PFn C 13 [.sl (a0.map Resource.enc)] (.tup [.sl (r.1.map Queue.enc),.int .i64 r.2]):=by
 refine za8 ck_e rfl fun E hG hN hK=>?_
 unfold pc_e
 unfold zq2 at h
 refine za0 (za1 hG ?_)
 refine za0 (za0 (za1 hG ?_))
 obtain ⟨v1,hv1,h⟩:=za2 h
 refine za6 (fun hg=>zaU7 a0 _ (hv1)) ?_
 refine za4 rfl hG h (fun _ h=>?_) (fun _ h=>?_)
 · refine za0 (za1 hG ?_)
   refine za7 ?_
   exact zb0 h
 refine za5 ?_
 refine za0 (za1 hG ?_)
 refine za0 (za0 (za1 hG ?_))
 refine zb7 (zeE8) (fun v=>zab6 v=some r) ?_ ?_
 · intro j1 h
   unfold zab6 at h
   refine g_st ?_
   refine za0 (za1 hG ?_)
   refine za7 ?_
   exact zb0 h
 refine ze0 (zeE9 a0) hK [(0,0)] h (fun x_l1 h g1 y_l1 h_l1 hx_l1=>?_)
 unfold zS1 at h_l1
 refine g_st ?_
 refine za0 (za0 (za1 hG ?_))
 refine za4 rfl hG h_l1 (fun _ h_l1=>?_) (fun _ h_l1=>?_)
 · refine za5 ?_
   refine za0 (zb9 ?_)
   obtain ⟨hb1,h_l1⟩:=za3 h_l1
   obtain ⟨hb2,h_l1⟩:=za3 h_l1
   refine za1 hG ?_
   refine za1 hG ?_
   exact zd0 hK [(0,1)] h_l1
 refine zc5 ?_
 obtain rfl:=Option.some.inj h_l1
 have hx:=hx_l1 _ rfl
 subst hx
 try dsimp only at h
 exact zc8 hK [(0,0)] g1.2 (by exact h)
attribute [local irreducible] zq2
noncomputable def zp9 (a0:Int) (a1:Int):Option (Int) :=
 (if (decide (a1 < 1))=true then
  some 0
 else
  gd (a1≠0) <|
  (if (decide ((a0.tmod a1) < 0))=true then
   some (IntKind.i64.wrap ((a0.tmod a1)+a1))
  else
   some (a0.tmod a1)))
theorem zbp1 (a0:Int) (a1:Int) (r:Int) (h:zp9 a0 a1=some r):PFn C 22 [.int .i64 a0,.int .i64 a1] (.int .i64 r):=by
 refine za8 ck_f rfl fun E hG hN hK=>?_
 unfold pc_f
 unfold zp9 at h
 refine za0 (za1 hG ?_)
 refine za0 (za0 (za1 hG ?_))
 refine za4 rfl hG h (fun _ h=>?_) (fun _ h=>?_)
 · refine za0 (za1 hG ?_)
   refine za7 ?_
   exact zb0 h
 refine za5 ?_
 refine za0 ?_
 obtain ⟨hb1,h⟩:=za3 h
 refine za1 hG ?_
 refine za0 (za0 (za1 hG ?_))
 refine za4 rfl hG h (fun _ h=>?_) (fun _ h=>?_)
 · refine za1 hG ?_
   refine za0 (za1 hG ?_)
   refine za7 ?_
   exact zb0 h
 refine za5 ?_
 refine za0 (za1 hG ?_)
 refine za7 ?_
 exact zb0 h
attribute [local irreducible] zp9
noncomputable def zq3 (a0:Int):Option (Proc) :=
 (zp9 a0 8).bind fun v1 =>
 some (⟨(v1.tmod 4),1,(IntKind.i64.wrap (1+(IntKind.i64.wrap (v1.tdiv 4))))⟩:Proc)
theorem zbj5 (a0:Int) (r:Proc) (h:zq3 a0=some r):PFn C 23 [.int .i64 a0] (.agg (Proc.enc r)):=by
 refine za8 ck_g rfl fun E hG hN hK=>?_
 unfold pc_g
 unfold zq3 at h
 refine za0 (za1 hG ?_)
 refine za0 (za1 hG ?_)
 obtain ⟨v1,hv1,h⟩:=za2 h
 refine za6 (fun hg=>zbp1 a0 8 _ (hv1)) ?_
 refine za0 (za1 hG ?_)
 refine za7 ?_
 exact zb0 h
attribute [local irreducible] zq3
def zs1 (a0:Int) (a1:Int) (a2:Int):Bool :=
 ((decide (a1≤a0))&&(decide (a0≤a2)))
theorem zU8 (a0:Int) (a1:Int) (a2:Int):PFn C 131 [.int .i64 a0,.int .i64 a1,.int .i64 a2] (.bool (zs1 a0 a1 a2)):=by
 generalize h:zs1 a0 a1 a2=r
 refine za8 ck_h rfl fun E hG hN hK=>?_
 unfold pc_h
 unfold zs1 at h
 refine za0 (za1 hG ?_)
 refine za0 (za1 hG ?_)
 refine za7 ?_
 exact zf3 h
def zb3 (a0:Proc):Bool :=
 (((zs1 a0.site 0 3)&&(zs1 a0.inc 1 99))&&(zs1 a0.num 1 999))
theorem zF6 (a0:Proc):PFn C 86 [.agg (Proc.enc a0)] (.bool (zb3 a0)):=by
 generalize h:zb3 a0=r
 refine za8 ck_i rfl fun E hG hN hK=>?_
 unfold pc_i
 unfold zb3 at h
 refine za0 (za1 hG ?_)
 refine za0 (za1 hG ?_)
 refine za6 (fun hg=>zU8 a0.site 0 3) ?_
 refine za6 (fun hg=>zU8 a0.inc 1 99) ?_
 refine za6 (fun hg=>zU8 a0.num 1 999) ?_
 refine za7 ?_
 exact zf3 h
def zg4 (a0:Int):Bool :=
 ((decide (1≤a0))&&(decide (a0≤5)))
theorem zO6 (a0:Int):PFn C 132 [.int .i64 a0] (.bool (zg4 a0)):=by
 generalize h:zg4 a0=r
 refine za8 ck_j rfl fun E hG hN hK=>?_
 unfold pc_j
 unfold zg4 at h
 refine za0 (za1 hG ?_)
 refine za0 (za1 hG ?_)
 refine za7 ?_
 exact zf3 h
def za9 (a0:Resource) (a1:Amount):Bool :=
 (if (!(zc6 a0))=true then
  false
 else
  (if (decide (a0.kind=1))=true then
   ((zg4 a1.mode)&&(decide (a1.units=0)))
  else
   (((decide (a1.mode=0))&&(decide (1≤a1.units)))&&(decide (a1.units≤a0.units)))))
theorem zx4 (a0:Resource) (a1:Amount):PFn C 87 [.agg (Resource.enc a0),.agg (Amount.enc a1)] (.bool (za9 a0 a1)):=by
 generalize h:za9 a0 a1=r
 refine za8 ck_k rfl fun E hG hN hK=>?_
 unfold pc_k
 unfold za9 at h
 refine za0 (za1 hG ?_)
 refine za0 (za0 (za1 hG ?_))
 refine za6 (fun hg=>zD7 a0) ?_
 refine za4 rfl hG h (fun _ h=>?_) (fun _ h=>?_)
 · refine za0 (za1 hG ?_)
   refine za7 ?_
   exact zf3 h
 refine za5 ?_
 refine za0 (za0 (za1 hG ?_))
 refine za4 rfl hG h (fun _ h=>?_) (fun _ h=>?_)
 · refine za0 (za1 hG ?_)
   refine za6 (fun hg=>zO6 a1.mode) ?_
   refine za7 ?_
   exact zf3 h
 refine za5 ?_
 refine za0 (za1 hG ?_)
 refine za7 ?_
 exact zf3 h
noncomputable def zA6  (j1:Unit):Option (Int) :=
 some 0
@[go_sem] def zeF0  (j1:Unit):St:=⟨[],[],0⟩
noncomputable def zd3 (a0:Arr Int 3) (a1:Arr Int 3) (g1:Int):Option ((Int)⊕((Unit)⊕(Int))) :=
 (if (decide (g1 < 3))=true then
  gd (0≤g1∧g1 < 3) <|
  gd (0≤g1∧g1 < 3) <|
  (if (decide ((Arr.get a0 g1.toNat 0) < (Arr.get a1 g1.toNat 0)))=true then
   some (.inr (.inr (-1)))
  else
   gd (0≤g1∧g1 < 3) <|
   (if (decide ((Arr.get a1 g1.toNat 0) < (Arr.get a0 g1.toNat 0)))=true then
    some (.inr (.inr 1))
   else
    some (.inl (IntKind.i64.wrap (g1+1)))))
 else
  some (.inr (.inl ())))
@[go_sem] def zeF1 (a0:Arr Int 3) (a1:Arr Int 3) (g1:Int):St:=⟨[(3,.ptr 0 0 0),(7,.agg (Arr.enc (eI .i64) a0)),(8,.int .i64 g1)],[(0,⟨false,3,(Arr.enc (eI .i64) (Arr.rep 3 0)),[Arr.enc (eI .i64) a1]⟩)],1⟩
noncomputable def zi4 (a0:Arr Int 3) (a1:Arr Int 3):Option (Int) :=
 (zc1 (zd3 a0 a1) 0).bind (fun | .inl z=>zA6 z | .inr z=>some z)
theorem zaG5 (a0:Arr Int 3) (a1:Arr Int 3) (r:Int) (h:zi4 a0 a1=some r):PFn C 155 [.agg (Arr.enc (eI .i64) a0),.agg (Arr.enc (eI .i64) a1)] (.int .i64 r):=by
 refine za8 ck_l rfl fun E hG hN hK=>?_
 unfold pc_l
 unfold zi4 at h
 refine za0 (za1 hG ?_)
 refine za0 (za0 (za1 hG ?_))
 refine zb7 (zeF0) (fun v=>zA6 v=some r) ?_ ?_
 · intro j1 h
   unfold zA6 at h
   refine g_st ?_
   refine za0 (za1 hG ?_)
   refine za7 ?_
   exact zb0 h
 refine ze0 (zeF1 a0 a1) hK [(0,1)] h (fun x_l1 h g1 y_l1 h_l1 hx_l1=>?_)
 unfold zd3 at h_l1
 refine g_st ?_
 refine za0 (za1 hG ?_)
 refine za0 ?_
 refine za4 rfl hG h_l1 (fun _ h_l1=>?_) (fun _ h_l1=>?_)
 · refine za5 ?_
   refine za0 (zb9 (za0 ?_))
   obtain ⟨hb3,h_l1⟩:=za3 h_l1
   refine za1 hG ?_
   refine za0 (za0 ?_)
   obtain ⟨hb2,h_l1⟩:=za3 h_l1
   refine za1 hG ?_
   refine za4 rfl hG h_l1 (fun _ h_l1=>?_) (fun _ h_l1=>?_)
   · refine za0 (za1 hG ?_)
     refine za7 ?_
     obtain rfl:=Option.some.inj h_l1
     have hx:=hx_l1 _ rfl
     subst hx
     try dsimp only at h
     exact zb0 h
   refine za5 ?_
   refine za0 ?_
   obtain ⟨hb1,h_l1⟩:=za3 h_l1
   refine za1 hG ?_
   refine za4 rfl hG h_l1 (fun _ h_l1=>?_) (fun _ h_l1=>?_)
   · refine za0 (za1 hG ?_)
     refine za7 ?_
     obtain rfl:=Option.some.inj h_l1
     have hx:=hx_l1 _ rfl
     subst hx
     try dsimp only at h
     exact zb0 h
   refine za5 ?_
   refine za1 hG ?_
   exact zd0 hK [(0,0)] h_l1
 refine zc5 ?_
 obtain rfl:=Option.some.inj h_l1
 have hx:=hx_l1 _ rfl
 subst hx
 try dsimp only at h
 exact zc8 hK [] () (by exact h)
attribute [local irreducible] zi4
noncomputable def zd4 (a0:Proc) (a1:Proc):Option (Int) :=
 (zi4 (⟨[a0.site,a0.inc,a0.num],rfl⟩:Arr Int 3) (⟨[a1.site,a1.inc,a1.num],rfl⟩:Arr Int 3)).bind fun v1 =>
 some v1
theorem zJ3 (a0:Proc) (a1:Proc) (r:Int) (h:zd4 a0 a1=some r):PFn C 119 [.agg (Proc.enc a0),.agg (Proc.enc a1)] (.int .i64 r):=by
 refine za8 ck_m rfl fun E hG hN hK=>?_
 unfold pc_m
 unfold zd4 at h
 refine za0 (za1 hG ?_)
 refine za0 (za1 hG ?_)
 obtain ⟨v1,hv1,h⟩:=za2 h
 refine za6 (fun hg=>zaG5 (⟨[a0.site,a0.inc,a0.num],rfl⟩:Arr Int 3) (⟨[a1.site,a1.inc,a1.num],rfl⟩:Arr Int 3) _ (hv1)) ?_
 refine za7 ?_
 exact zb0 h
attribute [local irreducible] zd4
def zb8 (a0:Amount):Bool :=
 (decide (a0={ Amount.zero with  }))
theorem zn7 (a0:Amount):PFn C 90 [.agg (Amount.enc a0)] (.bool (zb8 a0)):=by
 generalize h:zb8 a0=r
 refine za8 ck_n rfl fun E hG hN hK=>?_
 unfold pc_n
 unfold zb8 at h
 refine za0 (za1 hG ?_)
 refine za0 (za1 hG ?_)
 refine za7 ?_
 exact zf3 h
def zb1 (a0:Resource) (a1:Amount):Bool :=
 ((zc6 a0)&&((zb8 a1)||(za9 a0 a1)))
theorem zy9 (a0:Resource) (a1:Amount):PFn C 133 [.agg (Resource.enc a0),.agg (Amount.enc a1)] (.bool (zb1 a0 a1)):=by
 generalize h:zb1 a0 a1=r
 refine za8 ck_o rfl fun E hG hN hK=>?_
 unfold pc_o
 unfold zb1 at h
 refine za0 (za1 hG ?_)
 refine za0 (za1 hG ?_)
 refine za6 (fun hg=>zD7 a0) ?_
 refine za6 (fun hg=>zn7 a1) ?_
 refine za6 (fun hg=>zx4 a0 a1) ?_
 refine za7 ?_
 exact zf3 h
noncomputable def zf8 (a0:Int) (a1:Int):Option (Bool) :=
 gd (((zg4 a0)&&(zg4 a1))=true→0≤(IntKind.i64.wrap (a0 - 1))∧(IntKind.i64.wrap (a0 - 1)) < 5) <|
 gd (((zg4 a0)&&(zg4 a1))=true→0≤(IntKind.i64.wrap (a1 - 1))∧(IntKind.i64.wrap (a1 - 1)) < 5) <|
 some (((zg4 a0)&&(zg4 a1))&&(Arr.get (Arr.get zaG3 ((IntKind.i64.wrap (a0 - 1)).toNat) (Arr.rep 5 false)) ((IntKind.i64.wrap (a1 - 1)).toNat) false))
theorem zay8 (a0:Int) (a1:Int) (r:Bool) (h:zf8 a0 a1=some r):PFn C 193 [.int .i64 a0,.int .i64 a1] (.bool r):=by
 refine za8 ck_p rfl fun E hG hN hK=>?_
 unfold pc_p
 unfold zf8 at h
 refine za0 (za1 hG ?_)
 refine za0 (za1 hG ?_)
 refine za6 (fun hg=>zO6 a0) ?_
 obtain ⟨hb1,h⟩:=za3 h
 obtain ⟨hb2,h⟩:=za3 h
 refine za6 (fun hg=>zO6 a1) ?_
 refine za7 ?_
 exact zb0 h
attribute [local irreducible] zf8
noncomputable def zF7  (j1:Bool):Option (Bool) :=
 some j1
@[go_sem] def zeF2  (j1:Bool):St:=⟨[(5,.bool j1)],[],0⟩
noncomputable def zz8 (a1:List Amount) (g1:Int×Int×(Arr Bool 6)) (j2:Unit):Option ((Int×Int×(Arr Bool 6))⊕((Bool))) :=
 gd (0≤(a1.getD g1.2.1.toNat Amount.zero).mode∧(a1.getD g1.2.1.toNat Amount.zero).mode < 6) <|
 some (.inl ((IntKind.i64.wrap (g1.1+(a1.getD g1.2.1.toNat Amount.zero).units)),(IntKind.i64.wrap (g1.2.1+1)),(Arr.put g1.2.2 (((a1.getD g1.2.1.toNat Amount.zero).mode).toNat) true)))
@[go_sem] def zeF3 (a0:Resource) (a1:List Amount) (g1:Int×Int×(Arr Bool 6)) (j2:Unit):St:=⟨[(2,.ptr 0 0 0),(5,.bool true),(6,.ptr 1 0 0),(7,.int .i64 (IntKind.i64.wrap (g1.1+(a1.getD g1.2.1.toNat Amount.zero).units))),(9,.ptr 2 0 0),(15,.sl (a1.map Amount.enc)),(16,.int .i64 (a1.length:Int)),(17,.int .i64 g1.2.1)],[(0,⟨false,4,(Resource.enc Resource.zero),[Resource.enc a0]⟩),(1,⟨false,6,(Arr.enc eB (Arr.rep 6 false)),[Arr.enc eB g1.2.2]⟩),(2,⟨false,2,(Amount.enc Amount.zero),[Amount.enc (a1.getD g1.2.1.toNat Amount.zero)]⟩)],3⟩
noncomputable def zp5 (a1:List Amount) (g1:Int×Int×(Arr Bool 6)) (g2:Int):Option ((Int)⊕((Unit)⊕(Bool))) :=
 (if (decide (g2 < 6))=true then
  gd (0≤g2∧g2 < 6) <|
  ((if (Arr.get g1.2.2 g2.toNat false)=true then zf8 g2 ((a1.getD g1.2.1.toNat Amount.zero).mode) else some (false))).bind fun v1 =>
  (if ((Arr.get g1.2.2 g2.toNat false)&&(!v1))=true then
   some (.inr (.inr false))
  else
   some (.inl (IntKind.i64.wrap (g2+1))))
 else
  some (.inr (.inl ())))
@[go_sem] def zeF4 (a0:Resource) (a1:List Amount) (g1:Int×Int×(Arr Bool 6)) (g2:Int):St:=⟨[(2,.ptr 0 0 0),(5,.bool true),(6,.ptr 1 0 0),(7,.int .i64 (IntKind.i64.wrap (g1.1+(a1.getD g1.2.1.toNat Amount.zero).units))),(9,.ptr 2 0 0),(15,.sl (a1.map Amount.enc)),(16,.int .i64 (a1.length:Int)),(17,.int .i64 g1.2.1),(41,.agg (Arr.enc eB g1.2.2)),(42,.int .i64 g2)],[(0,⟨false,4,(Resource.enc Resource.zero),[Resource.enc a0]⟩),(1,⟨false,6,(Arr.enc eB (Arr.rep 6 false)),[Arr.enc eB g1.2.2]⟩),(2,⟨false,2,(Amount.enc Amount.zero),[Amount.enc (a1.getD g1.2.1.toNat Amount.zero)]⟩)],3⟩
noncomputable def zu1 (a0:Resource) (a1:List Amount) (g1:Int×Int×(Arr Bool 6)):Option ((Int×Int×(Arr Bool 6))⊕((Bool))) :=
 (if (decide (g1.2.1 < (a1.length:Int)))=true then
  gd (0≤g1.2.1∧g1.2.1 < (a1.length:Int)) <|
  (if ((!(zb1 a0 (a1.getD g1.2.1.toNat Amount.zero)))||(decide (a0.units < (IntKind.i64.wrap (g1.1+(a1.getD g1.2.1.toNat Amount.zero).units)))))=true then
   some (.inr false)
  else
   (if (decide ((a1.getD g1.2.1.toNat Amount.zero).mode=0))=true then
    some (.inl ((IntKind.i64.wrap (g1.1+(a1.getD g1.2.1.toNat Amount.zero).units)),(IntKind.i64.wrap (g1.2.1+1)),g1.2.2))
   else
    (zc1 (zp5 a1 g1) 0).bind (fun | .inl z=>zz8 a1 g1 z | .inr z=>some (.inr z))))
 else
  some (.inr true))
@[go_sem] def zeF5 (a0:Resource) (a1:List Amount) (g1:Int×Int×(Arr Bool 6)):St:=⟨[(2,.ptr 0 0 0),(5,.bool true),(6,.ptr 1 0 0),(7,.int .i64 g1.1),(15,.sl (a1.map Amount.enc)),(16,.int .i64 (a1.length:Int)),(17,.int .i64 g1.2.1)],[(0,⟨false,4,(Resource.enc Resource.zero),[Resource.enc a0]⟩),(1,⟨false,6,(Arr.enc eB (Arr.rep 6 false)),[Arr.enc eB g1.2.2]⟩)],2⟩
noncomputable def ze7 (a0:Resource) (a1:List Amount):Option (Bool) :=
 (if (!(zc6 a0))=true then
  some false
 else
  (zc1 (zu1 a0 a1) (0,0,(Arr.rep 6 false))).bind (fun z=>zF7 z))
theorem zap7 (a0:Resource) (a1:List Amount) (r:Bool) (h:ze7 a0 a1=some r):PFn C 190 [.agg (Resource.enc a0),.sl (a1.map Amount.enc)] (.bool r):=by
 refine za8 ck_q rfl fun E hG hN hK=>?_
 unfold pc_q
 unfold ze7 at h
 refine za0 (za1 hG ?_)
 refine zbn1 ?_
 refine za0 (za0 (za1 hG ?_))
 refine za6 (fun hg=>zD7 a0) ?_
 refine za4 rfl hG h (fun _ h=>?_) (fun _ h=>?_)
 · refine za0 (za1 hG ?_)
   refine za7 ?_
   exact zb0 h
 refine za5 ?_
 refine za0 (za1 hG ?_)
 refine za0 (za1 hG ?_)
 refine za0 (za1 hG ?_)
 refine za0 ?_
 refine zbx5 ?_
 refine za0 (za0 (za1 hG ?_))
 refine zb7 (zeF2) (fun v=>zF7 v=some r) ?_ ?_
 · intro j1 h
   unfold zF7 at h
   refine g_st ?_
   refine za0 (za1 hG ?_)
   refine za7 ?_
   exact zb0 h
 refine ze0 (zeF5 a0 a1) hK [(0,0),(1,1)] h (fun x_l1 h g1 y_l1 h_l1 hx_l1=>?_)
 unfold zu1 at h_l1
 refine g_st ?_
 refine za0 (za1 hG ?_)
 refine za0 ?_
 refine za4 rfl hG h_l1 (fun _ h_l1=>?_) (fun _ h_l1=>?_)
 · refine za5 ?_
   refine za0 (zb9 (za0 ?_))
   obtain ⟨hb3,h_l1⟩:=za3 h_l1
   refine za1 hG ?_
   refine za0 (za0 (za1 hG ?_))
   refine za6 (fun hg=>zy9 a0 (a1.getD g1.2.1.toNat Amount.zero)) ?_
   refine za4 rfl hG h_l1 (fun _ h_l1=>?_) (fun _ h_l1=>?_)
   · refine za0 (za1 hG ?_)
     refine zc5 ?_
     obtain rfl:=Option.some.inj h_l1
     have hx:=hx_l1 _ rfl
     subst hx
     try dsimp only at h
     exact zc8 hK [] false (by exact h)
   refine za5 ?_
   refine za0 (za1 hG ?_)
   refine za0 (za0 (za1 hG ?_))
   refine za4 rfl hG h_l1 (fun _ h_l1=>?_) (fun _ h_l1=>?_)
   · refine zc5 ?_
     refine za1 hG ?_
     exact zd0 hK [(0,0),(1,1)] h_l1
   refine za5 ?_
   refine za0 (za0 (za1 hG ?_))
   refine zb7 (zeF3 a0 a1 g1) (fun v=>zz8 a1 g1 v=some y_l1) ?_ ?_
   · intro j2 h_l1
     unfold zz8 at h_l1
     refine g_st ?_
     obtain ⟨hb1,h_l1⟩:=za3 h_l1
     refine za1 hG ?_
     refine za1 hG ?_
     exact zd0 hK [(0,0),(1,1)] h_l1
   refine ze0 (zeF4 a0 a1 g1) hK [(0,0),(1,1),(2,2)] h_l1 (fun x_l2 h_l1 g2 y_l2 h_l2 hx_l2=>?_)
   unfold zp5 at h_l2
   refine g_st ?_
   refine za0 (za1 hG ?_)
   refine za0 ?_
   refine za4 rfl hG h_l2 (fun _ h_l2=>?_) (fun _ h_l2=>?_)
   · refine za5 ?_
     refine za0 (zb9 (za0 ?_))
     obtain ⟨hb2,h_l2⟩:=za3 h_l2
     refine za1 hG ?_
     refine za0 (za1 hG ?_)
     obtain ⟨v1,hv1,h_l2⟩:=za2 h_l2
     refine za6 (fun hg=>zay8 g2 ((a1.getD g1.2.1.toNat Amount.zero).mode) _ (zw9 hg hv1)) ?_
     refine za4 rfl hG h_l2 (fun _ h_l2=>?_) (fun _ h_l2=>?_)
     · refine za0 (za1 hG ?_)
       refine zc5 ?_
       obtain rfl:=Option.some.inj h_l2
       have hx:=hx_l2 _ rfl
       subst hx
       try dsimp only at h_l1
       obtain rfl:=Option.some.inj h_l1
       have hx:=hx_l1 _ rfl
       subst hx
       try dsimp only at h
       exact zc8 hK [] false (by exact h)
     refine za5 ?_
     refine za1 hG ?_
     exact zd0 hK [(0,0),(1,1),(2,2)] h_l2
   refine zc5 ?_
   obtain rfl:=Option.some.inj h_l2
   have hx:=hx_l2 _ rfl
   subst hx
   try dsimp only at h_l1
   exact zc8 hK [(0,0),(1,1),(2,2)] () (by exact h_l1)
 refine zc5 ?_
 obtain rfl:=Option.some.inj h_l1
 have hx:=hx_l1 _ rfl
 subst hx
 try dsimp only at h
 exact zc8 hK [] true (by exact h)
attribute [local irreducible] ze7
noncomputable def zF8 (a0:Resource) (j1:(List Amount)):Option (Bool) :=
 (ze7 a0 j1).bind fun v1 =>
 some v1
@[go_sem] def zeF6 (a0:Resource) (j1:(List Amount)):St:=⟨[(2,.ptr 0 0 0),(5,.own 1 0 j1.length)],[(0,⟨false,4,(Resource.enc Resource.zero),[Resource.enc a0]⟩),(1,⟨false,2,(Amount.enc Amount.zero),j1.map Amount.enc⟩)],2⟩
noncomputable def zA7 (a0:Resource) (a1:List Hold) (g1:Int×(List Amount)):Option ((Int×(List Amount))⊕(((List Amount))⊕(Bool))) :=
 (if (decide (g1.1 < (a1.length:Int)))=true then
  gd (0≤g1.1∧g1.1 < (a1.length:Int)) <|
  (if ((!(zb3 ((a1.getD g1.1.toNat Hold.zero).proc)))||(!(za9 a0 ((a1.getD g1.1.toNat Hold.zero).amount))))=true then
   some (.inr (.inr false))
  else
   gd ((decide (0 < g1.1))=true→0≤(IntKind.i64.wrap (g1.1 - 1))∧(IntKind.i64.wrap (g1.1 - 1)) < (a1.length:Int)) <|
   ((if (decide (0 < g1.1))=true then zd4 ((a1.getD ((IntKind.i64.wrap (g1.1 - 1)).toNat) Hold.zero).proc) ((a1.getD g1.1.toNat Hold.zero).proc) else some (0))).bind fun v2 =>
   (if ((decide (0 < g1.1))&&(decide (0≤v2)))=true then
    some (.inr (.inr false))
   else
    gd (g1.2.length+1≤4294967296) <|
    some (.inl ((IntKind.i64.wrap (g1.1+1)),(g1.2++[(a1.getD g1.1.toNat Hold.zero).amount])))))
 else
  some (.inr (.inl g1.2)))
@[go_sem] def zeF7 (a0:Resource) (a1:List Hold) (g1:Int×(List Amount)):St:=⟨[(1,.sl (a1.map Hold.enc)),(2,.ptr 0 0 0),(5,.own 1 0 g1.2.length),(16,.sl (a1.map Hold.enc)),(17,.int .i64 (a1.length:Int)),(18,.int .i64 g1.1)],[(0,⟨false,4,(Resource.enc Resource.zero),[Resource.enc a0]⟩),(1,⟨false,2,(Amount.enc Amount.zero),g1.2.map Amount.enc⟩)],2⟩
noncomputable def zg1 (a0:Resource) (a1:List Hold):Option (Bool) :=
 (if ((!(zc6 a0))||(decide (8 < (a1.length:Int))))=true then
  some false
 else
  (zc1 (zA7 a0 a1) (0,[])).bind (fun | .inl z=>zF8 a0 z | .inr z=>some z))
theorem zU9 (a0:Resource) (a1:List Hold) (r:Bool) (h:zg1 a0 a1=some r):PFn C 179 [.agg (Resource.enc a0),.sl (a1.map Hold.enc)] (.bool r):=by
 refine za8 ck_r rfl fun E hG hN hK=>?_
 unfold pc_r
 unfold zg1 at h
 refine za0 (za1 hG ?_)
 refine za0 (za0 (za1 hG ?_))
 refine za6 (fun hg=>zD7 a0) ?_
 refine za4 rfl hG h (fun _ h=>?_) (fun _ h=>?_)
 · refine za0 (za1 hG ?_)
   refine za7 ?_
   exact zb0 h
 refine za5 ?_
 refine za0 (za1 hG ?_)
 refine za0 (za0 (za1 hG ?_))
 refine zb7 (zeF6 a0) (fun v=>zF8 a0 v=some r) ?_ ?_
 · intro j1 h
   unfold zF8 at h
   refine g_st ?_
   refine za0 (za1 hG ?_)
   obtain ⟨v1,hv1,h⟩:=za2 h
   refine za6 (fun hg=>zap7 a0 j1 _ (hv1)) ?_
   refine za7 ?_
   exact zb0 h
 refine ze0 (zeF7 a0 a1) hK [(0,0),(1,1)] h (fun x_l1 h g1 y_l1 h_l1 hx_l1=>?_)
 unfold zA7 at h_l1
 refine g_st ?_
 refine za0 (za1 hG ?_)
 refine za0 ?_
 refine za4 rfl hG h_l1 (fun _ h_l1=>?_) (fun _ h_l1=>?_)
 · refine za5 ?_
   refine za0 (zb9 (za0 ?_))
   obtain ⟨hb3,h_l1⟩:=za3 h_l1
   refine za1 hG ?_
   refine za0 (za0 (za1 hG ?_))
   refine za6 (fun hg=>zF6 ((a1.getD g1.1.toNat Hold.zero).proc)) ?_
   refine za6 (fun hg=>zx4 a0 ((a1.getD g1.1.toNat Hold.zero).amount)) ?_
   refine za4 rfl hG h_l1 (fun _ h_l1=>?_) (fun _ h_l1=>?_)
   · refine za0 (za1 hG ?_)
     refine za7 ?_
     obtain rfl:=Option.some.inj h_l1
     have hx:=hx_l1 _ rfl
     subst hx
     try dsimp only at h
     exact zb0 h
   refine za5 ?_
   refine za0 (za0 ?_)
   obtain ⟨hb2,h_l1⟩:=za3 h_l1
   refine zq9 zd6 hG ?_
   obtain ⟨v2,hv2,h_l1⟩:=za2 h_l1
   refine zi7 (fun hg=>zJ3 ((a1.getD ((IntKind.i64.wrap (g1.1 - 1)).toNat) Hold.zero).proc) ((a1.getD g1.1.toNat Hold.zero).proc) _ (zw9 hg hv2)) ?_
   refine za4 rfl hG h_l1 (fun _ h_l1=>?_) (fun _ h_l1=>?_)
   · refine za0 (za1 hG ?_)
     refine za7 ?_
     obtain rfl:=Option.some.inj h_l1
     have hx:=hx_l1 _ rfl
     subst hx
     try dsimp only at h
     exact zb0 h
   refine za5 ?_
   obtain ⟨hb1,h_l1⟩:=za3 h_l1
   refine za1 hG ?_
   refine za1 hG ?_
   exact zd0 hK [(0,0),(1,3)] h_l1
 refine zc5 ?_
 obtain rfl:=Option.some.inj h_l1
 have hx:=hx_l1 _ rfl
 subst hx
 try dsimp only at h
 exact zc8 hK [(0,0),(1,1)] g1.2 (by exact h)
attribute [local irreducible] zg1
noncomputable def zV0  (j1:Unit):Option (Amount) :=
 some ({ Amount.zero with  })
@[go_sem] def zeF8  (j1:Unit):St:=⟨[(4,.ptr 0 0 0)],[(0,⟨false,2,(Amount.enc Amount.zero),[Amount.enc Amount.zero]⟩)],1⟩
noncomputable def zw1 (a0:List Hold) (a1:Proc) (g1:Int):Option ((Int)⊕((Unit)⊕(Amount))) :=
 (if (decide (g1 < (a0.length:Int)))=true then
  gd (0≤g1∧g1 < (a0.length:Int)) <|
  (if (decide ((a0.getD g1.toNat Hold.zero).proc=a1))=true then
   some (.inr (.inr ((a0.getD g1.toNat Hold.zero).amount)))
  else
   some (.inl (IntKind.i64.wrap (g1+1))))
 else
  some (.inr (.inl ())))
@[go_sem] def zeF9 (a0:List Hold) (a1:Proc) (g1:Int):St:=⟨[(3,.ptr 0 0 0),(4,.ptr 1 0 0),(7,.sl (a0.map Hold.enc)),(8,.int .i64 (a0.length:Int)),(9,.int .i64 g1)],[(0,⟨false,3,(Proc.enc Proc.zero),[Proc.enc a1]⟩),(1,⟨false,2,(Amount.enc Amount.zero),[Amount.enc Amount.zero]⟩)],2⟩
noncomputable def zl1 (a0:List Hold) (a1:Proc):Option (Amount) :=
 (zc1 (zw1 a0 a1) 0).bind (fun | .inl z=>zV0 z | .inr z=>some z)
theorem zaU8 (a0:List Hold) (a1:Proc) (r:Amount) (h:zl1 a0 a1=some r):PFn C 110 [.sl (a0.map Hold.enc),.agg (Proc.enc a1)] (.agg (Amount.enc r)):=by
 refine za8 ck_s rfl fun E hG hN hK=>?_
 unfold pc_s
 unfold zl1 at h
 refine za0 (za1 hG ?_)
 refine za0 (za0 (za1 hG ?_))
 refine zb7 (zeF8) (fun v=>zV0 v=some r) ?_ ?_
 · intro j1 h
   unfold zV0 at h
   refine g_st ?_
   refine za0 (za1 hG ?_)
   refine za7 ?_
   exact zb0 h
 refine ze0 (zeF9 a0 a1) hK [(0,0),(1,1)] h (fun x_l1 h g1 y_l1 h_l1 hx_l1=>?_)
 unfold zw1 at h_l1
 refine g_st ?_
 refine za0 (za1 hG ?_)
 refine za0 ?_
 refine za4 rfl hG h_l1 (fun _ h_l1=>?_) (fun _ h_l1=>?_)
 · refine za5 ?_
   refine za0 (zb9 (za0 ?_))
   obtain ⟨hb1,h_l1⟩:=za3 h_l1
   refine za1 hG ?_
   refine za0 (za1 hG ?_)
   refine za4 rfl hG h_l1 (fun _ h_l1=>?_) (fun _ h_l1=>?_)
   · refine za0 (za1 hG ?_)
     refine za7 ?_
     obtain rfl:=Option.some.inj h_l1
     have hx:=hx_l1 _ rfl
     subst hx
     try dsimp only at h
     exact zb0 h
   refine za5 ?_
   refine za1 hG ?_
   exact zd0 hK [(0,0),(1,1)] h_l1
 refine zc5 ?_
 obtain rfl:=Option.some.inj h_l1
 have hx:=hx_l1 _ rfl
 subst hx
 try dsimp only at h
 exact zc8 hK [(0,1)] () (by exact h)
attribute [local irreducible] zl1
noncomputable def zg5 (a0:Queue) (a1:Proc):Option (Amount) :=
 (zl1 a0.holds a1).bind fun v1 =>
 some v1
theorem zH2 (a0:Queue) (a1:Proc) (r:Amount) (h:zg5 a0 a1=some r):PFn C 66 [.agg (Queue.enc a0),.agg (Proc.enc a1)] (.agg (Amount.enc r)):=by
 refine za8 ck_t rfl fun E hG hN hK=>?_
 unfold pc_t
 unfold zg5 at h
 refine za0 (za1 hG ?_)
 refine za0 (za1 hG ?_)
 obtain ⟨v1,hv1,h⟩:=za2 h
 refine za6 (fun hg=>zaU8 a0.holds a1 _ (hv1)) ?_
 refine za7 ?_
 exact zb0 h
attribute [local irreducible] zg5
noncomputable def zab7  (j1:Unit):Option (Int) :=
 some (-1)
@[go_sem] def zeG0  (j1:Unit):St:=⟨[],[],0⟩
noncomputable def zJ4 (a0:List Wait) (a1:Proc) (g1:Int):Option ((Int)⊕((Unit)⊕(Int))) :=
 (if (decide (g1 < (a0.length:Int)))=true then
  gd (0≤g1∧g1 < (a0.length:Int)) <|
  (if (decide ((a0.getD g1.toNat Wait.zero).proc=a1))=true then
   some (.inr (.inr g1))
  else
   some (.inl (IntKind.i64.wrap (g1+1))))
 else
  some (.inr (.inl ())))
@[go_sem] def zeG1 (a0:List Wait) (a1:Proc) (g1:Int):St:=⟨[(3,.ptr 0 0 0),(7,.sl (a0.map Wait.enc)),(8,.int .i64 (a0.length:Int)),(9,.int .i64 g1)],[(0,⟨false,3,(Proc.enc Proc.zero),[Proc.enc a1]⟩)],1⟩
noncomputable def zl7 (a0:List Wait) (a1:Proc):Option (Int) :=
 (zc1 (zJ4 a0 a1) 0).bind (fun | .inl z=>zab7 z | .inr z=>some z)
theorem zaa1 (a0:List Wait) (a1:Proc) (r:Int) (h:zl7 a0 a1=some r):PFn C 123 [.sl (a0.map Wait.enc),.agg (Proc.enc a1)] (.int .i64 r):=by
 refine za8 ck_u rfl fun E hG hN hK=>?_
 unfold pc_u
 unfold zl7 at h
 refine za0 (za1 hG ?_)
 refine za0 (za0 (za1 hG ?_))
 refine zb7 (zeG0) (fun v=>zab7 v=some r) ?_ ?_
 · intro j1 h
   unfold zab7 at h
   refine g_st ?_
   refine za0 (za1 hG ?_)
   refine za7 ?_
   exact zb0 h
 refine ze0 (zeG1 a0 a1) hK [(0,0)] h (fun x_l1 h g1 y_l1 h_l1 hx_l1=>?_)
 unfold zJ4 at h_l1
 refine g_st ?_
 refine za0 (za1 hG ?_)
 refine za0 ?_
 refine za4 rfl hG h_l1 (fun _ h_l1=>?_) (fun _ h_l1=>?_)
 · refine za5 ?_
   refine za0 (zb9 (za0 ?_))
   obtain ⟨hb1,h_l1⟩:=za3 h_l1
   refine za1 hG ?_
   refine za0 (za1 hG ?_)
   refine za4 rfl hG h_l1 (fun _ h_l1=>?_) (fun _ h_l1=>?_)
   · refine za0 (za1 hG ?_)
     refine za7 ?_
     obtain rfl:=Option.some.inj h_l1
     have hx:=hx_l1 _ rfl
     subst hx
     try dsimp only at h
     exact zb0 h
   refine za5 ?_
   refine za1 hG ?_
   exact zd0 hK [(0,0)] h_l1
 refine zc5 ?_
 obtain rfl:=Option.some.inj h_l1
 have hx:=hx_l1 _ rfl
 subst hx
 try dsimp only at h
 exact zc8 hK [] () (by exact h)
attribute [local irreducible] zl7
def zS2 (a0:Int):(Arr Bool 6) :=
 (if (decide (a0=5))=true then
  (Arr.put (Arr.put (Arr.put (Arr.put (Arr.put (Arr.rep 6 false) 5 true) 4 true) 3 true) 2 true) 1 true)
 else
  (if (decide (a0=4))=true then
   (Arr.put (Arr.put (Arr.put (Arr.put (Arr.rep 6 false) 4 true) 3 true) 2 true) 1 true)
  else
   (if (decide (a0=2))=true then
    (Arr.put (Arr.put (Arr.rep 6 false) 2 true) 1 true)
   else
    (if (decide (a0=1))=true then
     (Arr.put (Arr.rep 6 false) 1 true)
    else
     (if (decide (a0=3))=true then
      (Arr.put (Arr.put (Arr.rep 6 false) 3 true) 1 true)
     else
      (Arr.rep 6 false))))))
theorem zaN2 (a0:Int):PFn C 163 [.int .i64 a0] (.agg (Arr.enc eB (zS2 a0))):=by
 generalize h:zS2 a0=r
 refine za8 ck_v rfl fun E hG hN hK=>?_
 unfold pc_v
 unfold zS2 at h
 refine za0 (za1 hG ?_)
 refine za0 (za1 hG ?_)
 refine za0 (za0 (za1 hG ?_))
 refine zb9 (za0 (zb9 (za0 (zb9 (za0 (zb9 (za0 (zb9 (za0 (zb9 (za0 (za0 (za0 (za1 hG ?_))))))))))))))
 refine za4 rfl hG h (fun _ h=>?_) (fun _ h=>?_)
 · refine zc5 ?_
   refine za1 hG ?_
   refine za0 (za1 hG ?_)
   refine za1 hG ?_
   refine za1 hG ?_
   refine za0 (za1 hG ?_)
   refine zc5 ?_
   refine za0 (za1 hG ?_)
   refine za7 ?_
   exact zf3 h
 refine za5 ?_
 refine za0 (za0 (za1 hG ?_))
 refine za4 rfl hG h (fun _ h=>?_) (fun _ h=>?_)
 · refine zc5 ?_
   refine za0 (za1 hG ?_)
   refine za1 hG ?_
   refine za1 hG ?_
   refine za0 (za1 hG ?_)
   refine zc5 ?_
   refine za0 (za1 hG ?_)
   refine za7 ?_
   exact zf3 h
 refine za5 ?_
 refine za0 (za0 (za1 hG ?_))
 refine za4 rfl hG h (fun _ h=>?_) (fun _ h=>?_)
 · refine zc5 ?_
   refine za1 hG ?_
   refine za0 (za1 hG ?_)
   refine zc5 ?_
   refine za0 (za1 hG ?_)
   refine za7 ?_
   exact zf3 h
 refine za5 ?_
 refine za0 (za0 (za1 hG ?_))
 refine za4 rfl hG h (fun _ h=>?_) (fun _ h=>?_)
 · refine zc5 ?_
   refine za0 (za1 hG ?_)
   refine zc5 ?_
   refine za0 (za1 hG ?_)
   refine za7 ?_
   exact zf3 h
 refine za5 ?_
 refine za0 (za1 hG ?_)
 refine za4 rfl hG h (fun _ h=>?_) (fun _ h=>?_)
 · refine zc5 ?_
   refine za0 (za0 (za1 hG ?_))
   refine za1 hG ?_
   refine zc5 ?_
   refine za0 (za1 hG ?_)
   refine za7 ?_
   exact zf3 h
 refine za5 ?_
 refine zc5 ?_
 refine za0 (za1 hG ?_)
 refine za7 ?_
 exact zf3 h
noncomputable def zj4 (a0:Int) (a1:Int):Option (Bool) :=
 gd (((zg4 a0)&&(zg4 a1))=true→0≤a1∧a1 < 6) <|
 some (((zg4 a0)&&(zg4 a1))&&(Arr.get (zS2 a0) a1.toNat false))
theorem zab8 (a0:Int) (a1:Int) (r:Bool) (h:zj4 a0 a1=some r):PFn C 134 [.int .i64 a0,.int .i64 a1] (.bool r):=by
 refine za8 ck_w rfl fun E hG hN hK=>?_
 unfold pc_w
 unfold zj4 at h
 refine za0 (za1 hG ?_)
 refine za0 (za1 hG ?_)
 refine za6 (fun hg=>zO6 a0) ?_
 refine za6 (fun hg=>zO6 a1) ?_
 obtain ⟨hb1,h⟩:=za3 h
 refine za6 (fun hg=>zaN2 a0) ?_
 refine za7 ?_
 exact zb0 h
attribute [local irreducible] zj4
noncomputable def zg2 (a0:Resource) (a1:Amount) (a2:Amount):Option (Bool) :=
 (if ((!(zb1 a0 a1))||(!(zb1 a0 a2)))=true then
  some false
 else
  (if ((zb8 a1)||(zb8 a2))=true then
   some (zb8 a2)
  else
   (if (decide (a0.kind=1))=true then
    (zj4 a1.mode a2.mode).bind fun v1 =>
    some v1
   else
    some (decide (a2.units≤a1.units)))))
theorem zV1 (a0:Resource) (a1:Amount) (a2:Amount) (r:Bool) (h:zg2 a0 a1 a2=some r):PFn C 89 [.agg (Resource.enc a0),.agg (Amount.enc a1),.agg (Amount.enc a2)] (.bool r):=by
 refine za8 ck_x rfl fun E hG hN hK=>?_
 unfold pc_x
 unfold zg2 at h
 refine za0 (za1 hG ?_)
 refine za0 (za0 (za1 hG ?_))
 refine za6 (fun hg=>zy9 a0 a1) ?_
 refine za6 (fun hg=>zy9 a0 a2) ?_
 refine za4 rfl hG h (fun _ h=>?_) (fun _ h=>?_)
 · refine za0 (za1 hG ?_)
   refine za7 ?_
   exact zb0 h
 refine za5 ?_
 refine za0 (za0 (za1 hG ?_))
 refine za6 (fun hg=>zn7 a1) ?_
 refine za6 (fun hg=>zn7 a2) ?_
 refine za4 rfl hG h (fun _ h=>?_) (fun _ h=>?_)
 · refine za0 (za1 hG ?_)
   refine za6 (fun hg=>zn7 a2) ?_
   refine za7 ?_
   exact zb0 h
 refine za5 ?_
 refine za0 (za0 (za1 hG ?_))
 refine za4 rfl hG h (fun _ h=>?_) (fun _ h=>?_)
 · refine za0 (za1 hG ?_)
   obtain ⟨v1,hv1,h⟩:=za2 h
   refine za6 (fun hg=>zab8 a1.mode a2.mode _ (hv1)) ?_
   refine za7 ?_
   exact zb0 h
 refine za5 ?_
 refine za0 (za1 hG ?_)
 refine za7 ?_
 exact zb0 h
attribute [local irreducible] zg2
noncomputable def zC9  (j1:Unit):Option (Bool) :=
 some true
@[go_sem] def zeG2  (j1:Unit):St:=⟨[],[],0⟩
noncomputable def zm6 (a0:Queue) (g1:Int):Option ((Int)⊕((Unit)⊕(Bool))) :=
 (if (decide (g1 < (a0.converts.length:Int)))=true then
  gd (0≤g1∧g1 < (a0.converts.length:Int)) <|
  (zg5 a0 ((a0.converts.getD g1.toNat Wait.zero).proc)).bind fun v1 =>
  (zl7 a0.converts ((a0.converts.getD g1.toNat Wait.zero).proc)).bind fun v2 =>
  (if ((!decide (v2=g1))||(zb8 v1))=true then
   some (.inr (.inr false))
  else
   ((if (za9 a0.resource ((a0.converts.getD g1.toNat Wait.zero).amount))=true then zg2 a0.resource ((a0.converts.getD g1.toNat Wait.zero).amount) v1 else some (false))).bind fun v3 =>
   (if (((!(za9 a0.resource ((a0.converts.getD g1.toNat Wait.zero).amount)))||(!v3))||(decide ((a0.converts.getD g1.toNat Wait.zero).amount=v1)))=true then
    some (.inr (.inr false))
   else
    (if ((!decide ((a0.converts.getD g1.toNat Wait.zero).priority=0))||(!decide ((a0.converts.getD g1.toNat Wait.zero).passed=0)))=true then
     some (.inr (.inr false))
    else
     some (.inl (IntKind.i64.wrap (g1+1))))))
 else
  some (.inr (.inl ())))
@[go_sem] def zeG3 (a0:Queue) (g1:Int):St:=⟨[(1,.ptr 0 0 0),(11,.sl (a0.converts.map Wait.enc)),(12,.int .i64 (a0.converts.length:Int)),(13,.int .i64 g1)],[(0,⟨false,8,(Queue.enc Queue.zero),[Queue.enc a0]⟩)],1⟩
noncomputable def zd9 (a0:Queue):Option (Bool) :=
 (if (decide (8 < (a0.converts.length:Int)))=true then
  some false
 else
  (zc1 (zm6 a0) 0).bind (fun | .inl z=>zC9 z | .inr z=>some z))
theorem zal3 (a0:Queue) (r:Bool) (h:zd9 a0=some r):PFn C 180 [.agg (Queue.enc a0)] (.bool r):=by
 refine za8 ck_y rfl fun E hG hN hK=>?_
 unfold pc_y
 unfold zd9 at h
 refine za0 (za1 hG ?_)
 refine za0 (za0 (za1 hG ?_))
 refine za4 rfl hG h (fun _ h=>?_) (fun _ h=>?_)
 · refine za0 (za1 hG ?_)
   refine za7 ?_
   exact zb0 h
 refine za5 ?_
 refine za0 (za0 (za1 hG ?_))
 refine zb7 (zeG2) (fun v=>zC9 v=some r) ?_ ?_
 · intro j1 h
   unfold zC9 at h
   refine g_st ?_
   refine za0 (za1 hG ?_)
   refine za7 ?_
   exact zb0 h
 refine ze0 (zeG3 a0) hK [(0,0)] h (fun x_l1 h g1 y_l1 h_l1 hx_l1=>?_)
 unfold zm6 at h_l1
 refine g_st ?_
 refine za0 (za1 hG ?_)
 refine za0 ?_
 refine za4 rfl hG h_l1 (fun _ h_l1=>?_) (fun _ h_l1=>?_)
 · refine za5 ?_
   refine za0 (zb9 (za0 ?_))
   obtain ⟨hb1,h_l1⟩:=za3 h_l1
   refine za1 hG ?_
   refine za0 (za1 hG ?_)
   obtain ⟨v1,hv1,h_l1⟩:=za2 h_l1
   refine za6 (fun hg=>zH2 a0 ((a0.converts.getD g1.toNat Wait.zero).proc) _ (hv1)) ?_
   refine za0 (za0 (za1 hG ?_))
   obtain ⟨v2,hv2,h_l1⟩:=za2 h_l1
   refine za6 (fun hg=>zaa1 a0.converts ((a0.converts.getD g1.toNat Wait.zero).proc) _ (hv2)) ?_
   refine za6 (fun hg=>zn7 v1) ?_
   refine za4 rfl hG h_l1 (fun _ h_l1=>?_) (fun _ h_l1=>?_)
   · refine za0 (za1 hG ?_)
     refine za7 ?_
     obtain rfl:=Option.some.inj h_l1
     have hx:=hx_l1 _ rfl
     subst hx
     try dsimp only at h
     exact zb0 h
   refine za5 ?_
   refine za0 (za0 (za1 hG ?_))
   refine za6 (fun hg=>zx4 a0.resource ((a0.converts.getD g1.toNat Wait.zero).amount)) ?_
   obtain ⟨v3,hv3,h_l1⟩:=za2 h_l1
   refine za6 (fun hg=>zV1 a0.resource ((a0.converts.getD g1.toNat Wait.zero).amount) v1 _ (zw9 hg hv3)) ?_
   refine za4 rfl hG h_l1 (fun _ h_l1=>?_) (fun _ h_l1=>?_)
   · refine za0 (za1 hG ?_)
     refine za7 ?_
     obtain rfl:=Option.some.inj h_l1
     have hx:=hx_l1 _ rfl
     subst hx
     try dsimp only at h
     exact zb0 h
   refine za5 ?_
   refine za0 (za1 hG ?_)
   refine za4 rfl hG h_l1 (fun _ h_l1=>?_) (fun _ h_l1=>?_)
   · refine za0 (za1 hG ?_)
     refine za7 ?_
     obtain rfl:=Option.some.inj h_l1
     have hx:=hx_l1 _ rfl
     subst hx
     try dsimp only at h
     exact zb0 h
   refine za5 ?_
   refine za1 hG ?_
   exact zd0 hK [(0,0)] h_l1
 refine zc5 ?_
 obtain rfl:=Option.some.inj h_l1
 have hx:=hx_l1 _ rfl
 subst hx
 try dsimp only at h
 exact zc8 hK [] () (by exact h)
attribute [local irreducible] zd9
def zc2 (a0:Wait):Bool :=
 ((((((zb3 a0.proc)&&((za9 ({ Resource.zero with kind:=1,units:=1 }) a0.amount)||(za9 ({ Resource.zero with kind:=2,units:=8 }) a0.amount)))&&(decide (0≤a0.priority)))&&(decide (a0.priority≤7)))&&(decide (0≤a0.passed)))&&(decide (a0.passed≤3)))
theorem zaf5 (a0:Wait):PFn C 139 [.agg (Wait.enc a0)] (.bool (zc2 a0)):=by
 generalize h:zc2 a0=r
 refine za8 ck_z rfl fun E hG hN hK=>?_
 unfold pc_z
 unfold zc2 at h
 refine za0 (za1 hG ?_)
 refine za0 (za1 hG ?_)
 refine za0 (za1 hG ?_)
 refine za0 (za1 hG ?_)
 refine za6 (fun hg=>zF6 a0.proc) ?_
 refine za6 (fun hg=>zx4 ({ Resource.zero with kind:=1,units:=1 }) a0.amount) ?_
 refine za6 (fun hg=>zx4 ({ Resource.zero with kind:=2,units:=8 }) a0.amount) ?_
 refine za7 ?_
 exact zf3 h
noncomputable def zY5  (j1:Unit):Option (Bool) :=
 some true
@[go_sem] def zdO6  (j1:Unit):St:=⟨[],[],0⟩
noncomputable def zy7 (a0:List Wait) (g1:Int):Option ((Int)⊕((Unit)⊕(Bool))) :=
 (if (decide (g1 < (a0.length:Int)))=true then
  gd (0≤g1∧g1 < (a0.length:Int)) <|
  ((if (zc2 (a0.getD g1.toNat Wait.zero))=true then zl7 a0 ((a0.getD g1.toNat Wait.zero).proc) else some (0))).bind fun v1 =>
  (if ((!(zc2 (a0.getD g1.toNat Wait.zero)))||(!decide (v1=g1)))=true then
   some (.inr (.inr false))
  else
   some (.inl (IntKind.i64.wrap (g1+1))))
 else
  some (.inr (.inl ())))
@[go_sem] def zdO7 (a0:List Wait) (g1:Int):St:=⟨[(0,.sl (a0.map Wait.enc)),(8,.sl (a0.map Wait.enc)),(9,.int .i64 (a0.length:Int)),(10,.int .i64 g1)],[],0⟩
noncomputable def zl9 (a0:List Wait):Option (Bool) :=
 (if (decide (8 < (a0.length:Int)))=true then
  some false
 else
  (zc1 (zy7 a0) 0).bind (fun | .inl z=>zY5 z | .inr z=>some z))
theorem zax0 (a0:List Wait) (r:Bool) (h:zl9 a0=some r):PFn C 138 [.sl (a0.map Wait.enc)] (.bool r):=by
 refine za8 zec4 rfl fun E hG hN hK=>?_
 unfold zcc0
 unfold zl9 at h
 refine za0 (za1 hG ?_)
 refine za0 (za0 (za1 hG ?_))
 refine za4 rfl hG h (fun _ h=>?_) (fun _ h=>?_)
 · refine za0 (za1 hG ?_)
   refine za7 ?_
   exact zb0 h
 refine za5 ?_
 refine za0 (za0 (za1 hG ?_))
 refine zb7 (zdO6) (fun v=>zY5 v=some r) ?_ ?_
 · intro j1 h
   unfold zY5 at h
   refine g_st ?_
   refine za0 (za1 hG ?_)
   refine za7 ?_
   exact zb0 h
 refine ze0 (zdO7 a0) hK [] h (fun x_l1 h g1 y_l1 h_l1 hx_l1=>?_)
 unfold zy7 at h_l1
 refine g_st ?_
 refine za0 (za1 hG ?_)
 refine za0 ?_
 refine za4 rfl hG h_l1 (fun _ h_l1=>?_) (fun _ h_l1=>?_)
 · refine za5 ?_
   refine za0 (zb9 (za0 ?_))
   obtain ⟨hb1,h_l1⟩:=za3 h_l1
   refine za1 hG ?_
   refine za0 (za1 hG ?_)
   refine za6 (fun hg=>zaf5 (a0.getD g1.toNat Wait.zero)) ?_
   obtain ⟨v1,hv1,h_l1⟩:=za2 h_l1
   refine za6 (fun hg=>zaa1 a0 ((a0.getD g1.toNat Wait.zero).proc) _ (zw9 hg hv1)) ?_
   refine za4 rfl hG h_l1 (fun _ h_l1=>?_) (fun _ h_l1=>?_)
   · refine za0 (za1 hG ?_)
     refine za7 ?_
     obtain rfl:=Option.some.inj h_l1
     have hx:=hx_l1 _ rfl
     subst hx
     try dsimp only at h
     exact zb0 h
   refine za5 ?_
   refine za1 hG ?_
   exact zd0 hK [] h_l1
 refine zc5 ?_
 obtain rfl:=Option.some.inj h_l1
 have hx:=hx_l1 _ rfl
 subst hx
 try dsimp only at h
 exact zc8 hK [] () (by exact h)
attribute [local irreducible] zl9
noncomputable def zH6  (j1:Unit):Option (Bool) :=
 some true
@[go_sem] def zdO8  (j1:Unit):St:=⟨[],[],0⟩
noncomputable def zn2 (a0:Queue) (g1:Int):Option ((Int)⊕((Unit)⊕(Bool))) :=
 (if (decide (g1 < (a0.waits.length:Int)))=true then
  gd (0≤g1∧g1 < (a0.waits.length:Int)) <|
  ((if (za9 a0.resource ((a0.waits.getD g1.toNat Wait.zero).amount))=true then zg5 a0 ((a0.waits.getD g1.toNat Wait.zero).proc) else some (Amount.zero))).bind fun v2 =>
  (if ((!(za9 a0.resource ((a0.waits.getD g1.toNat Wait.zero).amount)))||(!(zb8 v2)))=true then
   some (.inr (.inr false))
  else
   some (.inl (IntKind.i64.wrap (g1+1))))
 else
  some (.inr (.inl ())))
@[go_sem] def zdO9 (a0:Queue) (g1:Int):St:=⟨[(1,.ptr 0 0 0),(20,.sl (a0.waits.map Wait.enc)),(21,.int .i64 (a0.waits.length:Int)),(22,.int .i64 g1)],[(0,⟨false,8,(Queue.enc Queue.zero),[Queue.enc a0]⟩)],1⟩
noncomputable def zf4 (a0:Queue):Option (Bool) :=
 (zl9 a0.waits).bind fun v1 =>
 (if ((!v1)||(decide (8 < (IntKind.i64.wrap ((a0.holds.length:Int)+(a0.waits.length:Int))))))=true then
  some false
 else
  (zc1 (zn2 a0) 0).bind (fun | .inl z=>zH6 z | .inr z=>some z))
theorem zav1 (a0:Queue) (r:Bool) (h:zf4 a0=some r):PFn C 181 [.agg (Queue.enc a0)] (.bool r):=by
 refine za8 zec5 rfl fun E hG hN hK=>?_
 unfold zcd1
 unfold zf4 at h
 refine za0 (za1 hG ?_)
 refine za0 (za0 (za1 hG ?_))
 obtain ⟨v1,hv1,h⟩:=za2 h
 refine za6 (fun hg=>zax0 a0.waits _ (hv1)) ?_
 refine za4 rfl hG h (fun _ h=>?_) (fun _ h=>?_)
 · refine za0 (za1 hG ?_)
   refine za7 ?_
   exact zb0 h
 refine za5 ?_
 refine za0 (za0 (za1 hG ?_))
 refine zb7 (zdO8) (fun v=>zH6 v=some r) ?_ ?_
 · intro j1 h
   unfold zH6 at h
   refine g_st ?_
   refine za0 (za1 hG ?_)
   refine za7 ?_
   exact zb0 h
 refine ze0 (zdO9 a0) hK [(0,0)] h (fun x_l1 h g1 y_l1 h_l1 hx_l1=>?_)
 unfold zn2 at h_l1
 refine g_st ?_
 refine za0 (za1 hG ?_)
 refine za0 ?_
 refine za4 rfl hG h_l1 (fun _ h_l1=>?_) (fun _ h_l1=>?_)
 · refine za5 ?_
   refine za0 (zb9 (za0 ?_))
   obtain ⟨hb1,h_l1⟩:=za3 h_l1
   refine za1 hG ?_
   refine za0 (za1 hG ?_)
   refine za6 (fun hg=>zx4 a0.resource ((a0.waits.getD g1.toNat Wait.zero).amount)) ?_
   obtain ⟨v2,hv2,h_l1⟩:=za2 h_l1
   refine za6 (fun hg=>zH2 a0 ((a0.waits.getD g1.toNat Wait.zero).proc) _ (zw9 hg hv2)) ?_
   refine za6 (fun hg=>zn7 v2) ?_
   refine za4 rfl hG h_l1 (fun _ h_l1=>?_) (fun _ h_l1=>?_)
   · refine za0 (za1 hG ?_)
     refine za7 ?_
     obtain rfl:=Option.some.inj h_l1
     have hx:=hx_l1 _ rfl
     subst hx
     try dsimp only at h
     exact zb0 h
   refine za5 ?_
   refine za1 hG ?_
   exact zd0 hK [(0,0)] h_l1
 refine zc5 ?_
 obtain rfl:=Option.some.inj h_l1
 have hx:=hx_l1 _ rfl
 subst hx
 try dsimp only at h
 exact zc8 hK [] () (by exact h)
attribute [local irreducible] zf4
noncomputable def zm7 (a0:Queue):Option (Bool) :=
 (zc7 a0.resource).bind fun v1 =>
 ((if v1=true then zg1 a0.resource a0.holds else some (false))).bind fun v2 =>
 ((if (v1&&v2)=true then zd9 a0 else some (false))).bind fun v3 =>
 ((if ((v1&&v2)&&v3)=true then zf4 a0 else some (false))).bind fun v4 =>
 some (((((v1&&v2)&&v3)&&v4)&&(decide (0≤a0.gen)))&&(decide (a0.gen≤1073741824)))
theorem zaU9 (a0:Queue) (r:Bool) (h:zm7 a0=some r):PFn C 160 [.agg (Queue.enc a0)] (.bool r):=by
 refine za8 zec6 rfl fun E hG hN hK=>?_
 unfold zcd4
 unfold zm7 at h
 refine za0 (za1 hG ?_)
 refine za0 (za1 hG ?_)
 obtain ⟨v1,hv1,h⟩:=za2 h
 refine za6 (fun hg=>zC8 a0.resource _ (hv1)) ?_
 obtain ⟨v2,hv2,h⟩:=za2 h
 refine za6 (fun hg=>zU9 a0.resource a0.holds _ (zw9 hg hv2)) ?_
 obtain ⟨v3,hv3,h⟩:=za2 h
 refine za6 (fun hg=>zal3 a0 _ (zw9 hg hv3)) ?_
 obtain ⟨v4,hv4,h⟩:=za2 h
 refine za6 (fun hg=>zav1 a0 _ (zw9 hg hv4)) ?_
 refine za7 ?_
 exact zb0 h
attribute [local irreducible] zm7
noncomputable def zn4 (a0:Queue):Option (Wait×Bool) :=
 (if (decide (0 < (a0.converts.length:Int)))=true then
  gd (0≤0∧0 < (a0.converts.length:Int)) <|
  some ((a0.converts.getD 0 Wait.zero),true)
 else
  (if (decide (0 < (a0.waits.length:Int)))=true then
   gd (0≤0∧0 < (a0.waits.length:Int)) <|
   some ((a0.waits.getD 0 Wait.zero),true)
  else
   some ({ Wait.zero with  },false)))
theorem zax1 (a0:Queue) (r:Wait×Bool) (h:zn4 a0=some r):PFn C 161 [.agg (Queue.enc a0)] (.tup [.agg (Wait.enc r.1),.bool r.2]):=by
 refine za8 zec7 rfl fun E hG hN hK=>?_
 unfold zce1
 unfold zn4 at h
 refine za0 (za1 hG ?_)
 refine za0 (zb9 (za0 (za1 hG ?_)))
 refine za4 rfl hG h (fun _ h=>?_) (fun _ h=>?_)
 · refine za0 ?_
   obtain ⟨hb1,h⟩:=za3 h
   refine za1 hG ?_
   refine za7 ?_
   exact zb0 h
 refine za0 (za1 hG ?_)
 refine za4 rfl hG h (fun _ h=>?_) (fun _ h=>?_)
 · refine za0 ?_
   obtain ⟨hb2,h⟩:=za3 h
   refine za1 hG ?_
   refine za7 ?_
   exact zb0 h
 refine za5 ?_
 refine za0 (za1 hG ?_)
 refine za7 ?_
 exact zb0 h
attribute [local irreducible] zn4
noncomputable def zh0 (a0:Resource) (a1:List Hold) (a2:Proc) (a3:Amount):Option (Bool) :=
 (zg1 a0 a1).bind fun v1 =>
 some ((v1&&(zb3 a2))&&(za9 a0 a3))
theorem zaB9 (a0:Resource) (a1:List Hold) (a2:Proc) (a3:Amount) (r:Bool) (h:zh0 a0 a1 a2 a3=some r):PFn C 182 [.agg (Resource.enc a0),.sl (a1.map Hold.enc),.agg (Proc.enc a2),.agg (Amount.enc a3)] (.bool r):=by
 refine za8 zec8 rfl fun E hG hN hK=>?_
 unfold zce4
 unfold zh0 at h
 refine za0 (za1 hG ?_)
 refine za0 (za1 hG ?_)
 obtain ⟨v1,hv1,h⟩:=za2 h
 refine za6 (fun hg=>zU9 a0 a1 _ (hv1)) ?_
 refine za6 (fun hg=>zF6 a2) ?_
 refine za6 (fun hg=>zx4 a0 a3) ?_
 refine za7 ?_
 exact zb0 h
attribute [local irreducible] zh0
noncomputable def zL7 (a1:Proc) (a2:Amount) (j1:Int×(List Hold)):Option ((List Hold)) :=
 (if (zb8 a2)=true then
  some j1.2
 else
  (if (decide (j1.1 < 0))=true then
   gd (j1.2.length+1≤4294967296) <|
   gd (0≤(IntKind.i64.wrap (((j1.2.length:Nat):Int)+1))∧(IntKind.i64.wrap (((j1.2.length:Nat):Int)+1))≤((j1.2.length+1:Nat):Int)∧((j1.2.length+1:Nat):Int)≤((j1.2.length+1:Nat):Int)) <|
   gd (0≤((j1.2.length:Nat):Int)∧((j1.2.length:Nat):Int)≤((j1.2.length+1:Nat):Int)∧((j1.2.length+1:Nat):Int)≤((j1.2.length+1:Nat):Int)) <|
   gd (0≤((j1.2.length:Nat):Int)∧((j1.2.length:Nat):Int) < ((j1.2.length+1:Nat):Int)) <|
   some (((j1.2++[{ Hold.zero with  }]).take (IntKind.i64.wrap (((j1.2.length:Nat):Int)+1)).toNat++(((j1.2++[{ Hold.zero with  }]).drop (((j1.2.length:Nat):Int).toNat)).take (j1.2.length+1 - ((j1.2.length:Nat):Int).toNat)).take (j1.2.length+1 - (IntKind.i64.wrap (((j1.2.length:Nat):Int)+1)).toNat)++(j1.2++[{ Hold.zero with  }]).drop ((IntKind.i64.wrap (((j1.2.length:Nat):Int)+1)).toNat+min (((j1.2++[{ Hold.zero with  }]).drop (((j1.2.length:Nat):Int).toNat)).take (j1.2.length+1 - ((j1.2.length:Nat):Int).toNat)).length (j1.2.length+1 - (IntKind.i64.wrap (((j1.2.length:Nat):Int)+1)).toNat))).set (((j1.2.length:Nat):Int).toNat) (⟨a1,a2⟩:Hold))
  else
   gd (j1.2.length+1≤4294967296) <|
   gd (0≤(IntKind.i64.wrap (j1.1+1))∧(IntKind.i64.wrap (j1.1+1))≤((j1.2.length+1:Nat):Int)∧((j1.2.length+1:Nat):Int)≤((j1.2.length+1:Nat):Int)) <|
   gd (0≤j1.1∧j1.1≤((j1.2.length+1:Nat):Int)∧((j1.2.length+1:Nat):Int)≤((j1.2.length+1:Nat):Int)) <|
   gd (0≤j1.1∧j1.1 < ((j1.2.length+1:Nat):Int)) <|
   some (((j1.2++[{ Hold.zero with  }]).take (IntKind.i64.wrap (j1.1+1)).toNat++(((j1.2++[{ Hold.zero with  }]).drop j1.1.toNat).take (j1.2.length+1 - j1.1.toNat)).take (j1.2.length+1 - (IntKind.i64.wrap (j1.1+1)).toNat)++(j1.2++[{ Hold.zero with  }]).drop ((IntKind.i64.wrap (j1.1+1)).toNat+min (((j1.2++[{ Hold.zero with  }]).drop j1.1.toNat).take (j1.2.length+1 - j1.1.toNat)).length (j1.2.length+1 - (IntKind.i64.wrap (j1.1+1)).toNat))).set j1.1.toNat (⟨a1,a2⟩:Hold))))
@[go_sem] def zdP0 (a1:Proc) (a2:Amount) (j1:Int×(List Hold)):St:=⟨[(4,.ptr 0 0 0),(5,.ptr 1 0 0),(7,.own 2 0 j1.2.length),(8,.int .i64 j1.1)],[(0,⟨false,3,(Proc.enc Proc.zero),[Proc.enc a1]⟩),(1,⟨false,2,(Amount.enc Amount.zero),[Amount.enc a2]⟩),(2,⟨false,5,(Hold.enc Hold.zero),j1.2.map Hold.enc⟩)],3⟩
noncomputable def zz9 (a0:List Hold) (a1:Proc) (g1:Int×Int×(List Hold)):Option ((Int×Int×(List Hold))⊕((Int×(List Hold)))) :=
 (if (decide (g1.2.1 < (a0.length:Int)))=true then
  gd (0≤g1.2.1∧g1.2.1 < (a0.length:Int)) <|
  (if (decide ((a0.getD g1.2.1.toNat Hold.zero).proc=a1))=true then
   some (.inl (g1.1,(IntKind.i64.wrap (g1.2.1+1)),g1.2.2))
  else
   ((if (decide (g1.1 < 0))=true then zd4 ((a0.getD g1.2.1.toNat Hold.zero).proc) a1 else some (0))).bind fun v1 =>
   (if ((decide (g1.1 < 0))&&(decide (0 < v1)))=true then
    gd (g1.2.2.length+1≤4294967296) <|
    some (.inl (((g1.2.2.length:Nat):Int),(IntKind.i64.wrap (g1.2.1+1)),(g1.2.2++[(a0.getD g1.2.1.toNat Hold.zero)])))
   else
    gd (g1.2.2.length+1≤4294967296) <|
    some (.inl (g1.1,(IntKind.i64.wrap (g1.2.1+1)),(g1.2.2++[(a0.getD g1.2.1.toNat Hold.zero)])))))
 else
  some (.inr (g1.1,g1.2.2)))
@[go_sem] def zdP1 (a0:List Hold) (a1:Proc) (a2:Amount) (g1:Int×Int×(List Hold)):St:=⟨[(4,.ptr 0 0 0),(5,.ptr 1 0 0),(7,.own 2 0 g1.2.2.length),(8,.int .i64 g1.1),(15,.sl (a0.map Hold.enc)),(16,.int .i64 (a0.length:Int)),(17,.int .i64 g1.2.1)],[(0,⟨false,3,(Proc.enc Proc.zero),[Proc.enc a1]⟩),(1,⟨false,2,(Amount.enc Amount.zero),[Amount.enc a2]⟩),(2,⟨false,5,(Hold.enc Hold.zero),g1.2.2.map Hold.enc⟩)],3⟩
noncomputable def zh8 (a0:List Hold) (a1:Proc) (a2:Amount):Option ((List Hold)) :=
 gd (0≤0∧0≤(IntKind.i64.wrap ((a0.length:Int)+1))∧(IntKind.i64.wrap ((a0.length:Int)+1))≤4294967296) <|
 (zc1 (zz9 a0 a1) ((-1),0,(List.replicate 0 Hold.zero))).bind (fun z=>zL7 a1 a2 z)
theorem zab9 (a0:List Hold) (a1:Proc) (a2:Amount) (r:(List Hold)) (h:zh8 a0 a1 a2=some r):PFn C 106 [.sl (a0.map Hold.enc),.agg (Proc.enc a1),.agg (Amount.enc a2)] (.sl (r.map Hold.enc)):=by
 refine za8 zec9 rfl fun E hG hN hK=>?_
 unfold zcf5
 unfold zh8 at h
 refine za0 (za1 hG ?_)
 refine za0 ?_
 obtain ⟨hb12,h⟩:=za3 h
 refine za1 hG ?_
 refine za0 (za1 hG ?_)
 refine za0 (za0 (za1 hG ?_))
 refine zb7 (zdP0 a1 a2) (fun v=>zL7 a1 a2 v=some r) ?_ ?_
 · intro j1 h
   unfold zL7 at h
   refine g_st ?_
   refine za0 (za0 (za1 hG ?_))
   refine za6 (fun hg=>zn7 a2) ?_
   refine za4 rfl hG h (fun _ h=>?_) (fun _ h=>?_)
   · refine za0 (za1 hG ?_)
     refine za7 ?_
     exact zb0 h
   refine za5 ?_
   refine za0 (za0 (za1 hG ?_))
   refine za4 rfl hG h (fun _ h=>?_) (fun _ h=>?_)
   · refine za1 hG ?_
     refine za0 ?_
     obtain ⟨hb4,h⟩:=za3 h
     refine za1 hG ?_
     refine za0 ?_
     obtain ⟨hb2,h⟩:=za3 h
     obtain ⟨hb3,h⟩:=za3 h
     refine zF2 zd6 hG ?_
     refine za0 ?_
     obtain ⟨hb1,h⟩:=za3 h
     refine za1 hG ?_
     refine za0 (za1 hG ?_)
     refine za7 ?_
     exact zb0 h
   refine za5 ?_
   refine za0 ?_
   obtain ⟨hb8,h⟩:=za3 h
   refine za1 hG ?_
   refine za0 ?_
   obtain ⟨hb6,h⟩:=za3 h
   obtain ⟨hb7,h⟩:=za3 h
   refine zF2 zd6 hG ?_
   refine za0 ?_
   obtain ⟨hb5,h⟩:=za3 h
   refine za1 hG ?_
   refine za0 (za1 hG ?_)
   refine za7 ?_
   exact zb0 h
 refine ze0 (zdP1 a0 a1 a2) hK [(0,0),(1,1),(2,2)] h (fun x_l1 h g1 y_l1 h_l1 hx_l1=>?_)
 unfold zz9 at h_l1
 refine g_st ?_
 refine za0 (za1 hG ?_)
 refine za0 ?_
 refine za4 rfl hG h_l1 (fun _ h_l1=>?_) (fun _ h_l1=>?_)
 · refine za5 ?_
   refine za0 (zb9 (za0 ?_))
   obtain ⟨hb11,h_l1⟩:=za3 h_l1
   refine za1 hG ?_
   refine za0 (za0 (za1 hG ?_))
   refine za4 rfl hG h_l1 (fun _ h_l1=>?_) (fun _ h_l1=>?_)
   · refine zc5 ?_
     refine za1 hG ?_
     exact zd0 hK [(0,0),(1,1),(2,2)] h_l1
   refine za5 ?_
   refine za0 (za0 (za1 hG ?_))
   obtain ⟨v1,hv1,h_l1⟩:=za2 h_l1
   refine za6 (fun hg=>zJ3 ((a0.getD g1.2.1.toNat Hold.zero).proc) a1 _ (zw9 hg hv1)) ?_
   refine za4 rfl hG h_l1 (fun _ h_l1=>?_) (fun _ h_l1=>?_)
   · refine za1 hG ?_
     obtain ⟨hb9,h_l1⟩:=za3 h_l1
     refine za1 hG ?_
     refine za1 hG ?_
     exact zd0 hK [(0,0),(1,1),(2,4)] h_l1
   refine za5 ?_
   obtain ⟨hb10,h_l1⟩:=za3 h_l1
   refine za1 hG ?_
   refine za1 hG ?_
   exact zd0 hK [(0,0),(1,1),(2,4)] h_l1
 refine zc5 ?_
 obtain rfl:=Option.some.inj h_l1
 have hx:=hx_l1 _ rfl
 subst hx
 try dsimp only at h
 exact zc8 hK [(0,0),(1,1),(2,2)] (g1.1,g1.2.2) (by exact h)
attribute [local irreducible] zh8
noncomputable def zi8 (a0:Resource) (a1:List Hold) (a2:Proc) (a3:Amount):Option (Bool) :=
 (zh0 a0 a1 a2 a3).bind fun v1 =>
 ((if v1=true then zh8 a1 a2 a3 else some ([]))).bind fun v2 =>
 ((if v1=true then zg1 a0 v2 else some (false))).bind fun v3 =>
 some (v1&&v3)
theorem zan5 (a0:Resource) (a1:List Hold) (a2:Proc) (a3:Amount) (r:Bool) (h:zi8 a0 a1 a2 a3=some r):PFn C 162 [.agg (Resource.enc a0),.sl (a1.map Hold.enc),.agg (Proc.enc a2),.agg (Amount.enc a3)] (.bool r):=by
 refine za8 zed0 rfl fun E hG hN hK=>?_
 unfold zcf8
 unfold zi8 at h
 refine za0 (za1 hG ?_)
 refine za0 (zq9 zd6 hG ?_)
 obtain ⟨v1,hv1,h⟩:=za2 h
 refine zi7 (fun hg=>zaB9 a0 a1 a2 a3 _ (hv1)) ?_
 obtain ⟨v2,hv2,h⟩:=za2 h
 refine zi7 (fun hg=>zab9 a1 a2 a3 _ (zw9 hg hv2)) ?_
 obtain ⟨v3,hv3,h⟩:=za2 h
 refine zi7 (fun hg=>zU9 a0 v2 _ (zw9 hg hv3)) ?_
 refine za7 ?_
 exact zb0 h
attribute [local irreducible] zi8
noncomputable def zi5 (a0:Queue):Option (Bool) :=
 (zm7 a0).bind fun v1 =>
 (if (!v1)=true then
  some false
 else
  (zn4 a0).bind fun v2 =>
  ((if v2.2=true then zi8 a0.resource a0.holds v2.1.proc v2.1.amount else some (false))).bind fun v3 =>
  some ((!v2.2)||(!v3)))
theorem zaG6 (a0:Queue) (r:Bool) (h:zi5 a0=some r):PFn C 129 [.agg (Queue.enc a0)] (.bool r):=by
 refine za8 zed1 rfl fun E hG hN hK=>?_
 unfold zcg4
 unfold zi5 at h
 refine za0 (za1 hG ?_)
 refine za0 (za0 (za1 hG ?_))
 obtain ⟨v1,hv1,h⟩:=za2 h
 refine za6 (fun hg=>zaU9 a0 _ (hv1)) ?_
 refine za4 rfl hG h (fun _ h=>?_) (fun _ h=>?_)
 · refine za0 (za1 hG ?_)
   refine za7 ?_
   exact zb0 h
 refine za5 ?_
 refine za0 (za1 hG ?_)
 obtain ⟨v2,hv2,h⟩:=za2 h
 refine za6 (fun hg=>zax1 a0 _ (hv2)) ?_
 refine za0 (za1 hG ?_)
 obtain ⟨v3,hv3,h⟩:=za2 h
 refine za6 (fun hg=>zan5 a0.resource a0.holds v2.1.proc v2.1.amount _ (zw9 hg hv3)) ?_
 refine za7 ?_
 exact zb0 h
attribute [local irreducible] zi5
noncomputable def zg6 (a0:Queue):Option (Bool) :=
 (zi5 a0).bind fun v1 =>
 some v1
theorem zS3 (a0:Queue) (r:Bool) (h:zg6 a0=some r):PFn C 84 [.agg (Queue.enc a0)] (.bool r):=by
 refine za8 zed2 rfl fun E hG hN hK=>?_
 unfold zcg7
 unfold zg6 at h
 refine za0 (za1 hG ?_)
 refine za0 (za1 hG ?_)
 obtain ⟨v1,hv1,h⟩:=za2 h
 refine za6 (fun hg=>zaG6 a0 _ (hv1)) ?_
 refine za7 ?_
 exact zb0 h
attribute [local irreducible] zg6
noncomputable def zJ5  (j1:(List Proc)):Option ((List Proc)) :=
 some j1
@[go_sem] def zdP2  (j1:(List Proc)):St:=⟨[(3,.own 0 0 j1.length)],[(0,⟨false,3,(Proc.enc Proc.zero),j1.map Proc.enc⟩)],1⟩
noncomputable def zX9 (a0:List Hold) (g1:Int×(List Proc)):Option ((Int×(List Proc))⊕(((List Proc)))) :=
 (if (decide (g1.1 < (a0.length:Int)))=true then
  gd (0≤g1.1∧g1.1 < (a0.length:Int)) <|
  gd (g1.2.length+1≤4294967296) <|
  some (.inl ((IntKind.i64.wrap (g1.1+1)),(g1.2++[(a0.getD g1.1.toNat Hold.zero).proc])))
 else
  some (.inr g1.2))
@[go_sem] def zdP3 (a0:List Hold) (g1:Int×(List Proc)):St:=⟨[(3,.own 0 0 g1.2.length),(6,.sl (a0.map Hold.enc)),(7,.int .i64 (a0.length:Int)),(8,.int .i64 g1.1)],[(0,⟨false,3,(Proc.enc Proc.zero),g1.2.map Proc.enc⟩)],1⟩
noncomputable def zf9 (a0:List Hold):Option ((List Proc)) :=
 (zc1 (zX9 a0) (0,[])).bind (fun z=>zJ5 z)
theorem zav2 (a0:List Hold) (r:(List Proc)) (h:zf9 a0=some r):MFn C 116 [.sl (a0.map Hold.enc)] [] 0 (.own 0 0 r.length) [(0,⟨false,3,(Proc.enc Proc.zero),r.map Proc.enc⟩)] 1:=by
 refine zs9 (rl:=[.own 0 0 r.length]) zed3 rfl rfl rfl rfl fun E hG hN hK=>?_
 unfold zch6
 unfold zf9 at h
 refine za0 (za1 hG ?_)
 refine za0 (za1 hG ?_)
 refine za0 (za0 (za1 hG ?_))
 refine zb7 (zdP2) (fun v=>zJ5 v=some r) ?_ ?_
 · intro j1 h
   unfold zJ5 at h
   refine g_st ?_
   refine za0 (za1 hG ?_)
   refine za7 ?_
   exact zF3 [(0,0)] h
 refine ze0 (zdP3 a0) hK [(0,1)] h (fun x_l1 h g1 y_l1 h_l1 hx_l1=>?_)
 unfold zX9 at h_l1
 refine g_st ?_
 refine za0 (za1 hG ?_)
 refine za0 ?_
 refine za4 rfl hG h_l1 (fun _ h_l1=>?_) (fun _ h_l1=>?_)
 · refine za5 ?_
   refine za0 (zb9 (za0 ?_))
   obtain ⟨hb2,h_l1⟩:=za3 h_l1
   refine za1 hG ?_
   obtain ⟨hb1,h_l1⟩:=za3 h_l1
   refine za1 hG ?_
   refine za1 hG ?_
   exact zd0 hK [(0,2)] h_l1
 refine zc5 ?_
 obtain rfl:=Option.some.inj h_l1
 have hx:=hx_l1 _ rfl
 subst hx
 try dsimp only at h
 exact zc8 hK [(0,0)] g1.2 (by exact h)
attribute [local irreducible] zf9
def zc3 (a0:Int):Option (List Wait):=gd (0≤a0∧a0≤4294967296) (some [])
theorem zP6:Lays8.n4 C.P ⟨fun | 4=>168 | n=>n,fun | 22=>49 | 25=>119 | n=>n,fun n=>n⟩ where
 mixed:=zd6
 f4:=⟨ "slices.Grow[[]clusterlocks/api.Wait,clusterlocks/api.Wait]",by decide,Tryz.func168.trans (congrArg some (by kernel_rfl))⟩
 t0:=Tryz.underlying0
 a0:=Tryz.isAgg0
 z0:=Tryz.sizeOf0
 v0:=Tryz.zeroValue0
 t3:=Tryz.underlying3
 a3:=Tryz.isAgg3
 z3:=Tryz.sizeOf3
 v3:=Tryz.zeroValue3
 t4:=Tryz.underlying4
 a4:=Tryz.isAgg4
 z4:=Tryz.sizeOf4
 v4:=Tryz.zeroValue4
 t9:=Tryz.underlying9
 a9:=Tryz.isAgg9
 z9:=Tryz.sizeOf9
 v9:=Tryz.zeroValue9
 t20:=Tryz.underlying20
 a20:=Tryz.isAgg20
 z20:=Tryz.sizeOf20
 v20:=Tryz.zeroValue20
 t22:=Tryz.underlying49
 a22:=Tryz.isAgg49
 z22:=Tryz.sizeOf49
 v22:=Tryz.zeroValue49
theorem zO7 (a0:Int) (r:List Wait) (h:zc3 a0=some r):MFn C 168 [.full [],.int .i64 a0] [] 0 (.own 0 0 r.length) [(0,⟨false,7,(Wait.enc Wait.zero),r.map Wait.enc⟩)] 1:=by
 obtain ⟨⟨h0,h1⟩,h⟩:=za3 h
 obtain rfl:=Option.some.inj h
 exact zbR2 zP6 (by kernel_rfl) rfl _ a0 h0 h1
attribute [local irreducible] zc3
end Ab
end Go.Proofs.YtfjeceicgfdmjaaGreatDoor
