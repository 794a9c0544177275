/-
  Functions of the program,as Lean functions; what the program's code computes is what they say.
-/
import Derived.Test.YtfjeceicgfdmjaaGreatDoorCode
import Derived.Test.YtfjeceicgfdmjaaGreatDoorHand
import Derived.Test.YtfjeceicgfdmjaaGreatDoorSort
namespace Go.Proofs.YtfjeceicgfdmjaaGreatDoor
namespace Ab
set_option linter.unusedSimpArgs false
set_option linter.unusedVariables false
set_option maxRecDepth 100000
set_option maxHeartbeats 1000000
def zh8  (j1:Bool):Bool :=
 (if j1=true then
  true
 else
  false)
@[go_sem] def zez1  (j1:Bool):St:=⟨[(4,.bool j1)],[],0⟩
def zt0 (a0:ByteArray):Bool :=
 (if (a0.toList == (⟨#[97,108,108]⟩:ByteArray).toList)=true then
  zh8 (a0.toList == (⟨#[97,108,108]⟩:ByteArray).toList)
 else
  (if (a0.toList == (⟨#[97,110,121]⟩:ByteArray).toList)=true then
   zh8 (a0.toList == (⟨#[97,110,121]⟩:ByteArray).toList)
  else
   (if (a0.toList == (⟨#[111,102]⟩:ByteArray).toList)=true then
    zh8 (a0.toList == (⟨#[111,102]⟩:ByteArray).toList)
   else
    (if (a0.toList == (⟨#[112,114,105,111]⟩:ByteArray).toList)=true then
     zh8 (a0.toList == (⟨#[112,114,105,111]⟩:ByteArray).toList)
    else
     zh8 (a0.toList == (⟨#[108,105,109,105,116]⟩:ByteArray).toList)))))
theorem zap8 (a0:ByteArray):PFn C 156 [.str a0] (.bool (zt0 a0)):=by
 generalize h:zt0 a0=r
 refine za6 ck_0 rfl fun E hG hN hK=>?_
 unfold pc_0
 unfold zt0 at h
 refine za0 (za1 hG ?_)
 refine za0 (za0 (za1 hG ?_))
 refine zb5 (za0 (za0 (za1 hG ?_)))
 refine zaK7 (zez1) (fun v=>zh8 v=r) rfl hG h ?_ (fun _ h=>?_) (fun _ h=>?_)
 · intro j1 h
   unfold zh8 at h
   refine g_st ?_
   refine za3 rfl hG h (fun _ h=>?_) (fun _ h=>?_)
   · refine za0 (za1 hG ?_)
     refine za8 ?_
     exact ze9 h
   refine za4 ?_
   refine za0 (za1 hG ?_)
   refine za8 ?_
   exact ze9 h
 · refine za4 ?_
   exact zc6 hK [] (a0.toList == (⟨#[97,108,108]⟩:ByteArray).toList) (by exact h)
 refine za0 (za1 hG ?_)
 refine za3 rfl hG h (fun _ h=>?_) (fun _ h=>?_)
 · refine za4 ?_
   exact zc6 hK [] (a0.toList == (⟨#[97,110,121]⟩:ByteArray).toList) (by exact h)
 refine za0 (za1 hG ?_)
 refine za3 rfl hG h (fun _ h=>?_) (fun _ h=>?_)
 · refine za4 ?_
   exact zc6 hK [] (a0.toList == (⟨#[111,102]⟩:ByteArray).toList) (by exact h)
 refine za0 (za1 hG ?_)
 refine za3 rfl hG h (fun _ h=>?_) (fun _ h=>?_)
 · refine za4 ?_
   exact zc6 hK [] (a0.toList == (⟨#[112,114,105,111]⟩:ByteArray).toList) (by exact h)
 refine za1 hG ?_
 exact zc6 hK [] (a0.toList == (⟨#[108,105,109,105,116]⟩:ByteArray).toList) (by exact h)
noncomputable def zC3  (j1:Unit):Option (Bool) :=
 some true
@[go_sem] def zez2  (j1:Unit):St:=⟨[],[],0⟩
noncomputable def zm1 (a0:ByteArray) (g1:Int):Option ((Int)⊕((Unit)⊕(Bool))) :=
 (if (decide (g1 < (a0.size:Int)))=true then
  gd (0≤g1∧g1 < (a0.size:Int)) <|
  (if ((!((decide (97≤((a0.toList.getD g1.toNat 0).toNat:Int)))&&(decide (((a0.toList.getD g1.toNat 0).toNat:Int)≤122))))&&((decide (g1=0))||(!((((decide (48≤((a0.toList.getD g1.toNat 0).toNat:Int)))&&(decide (((a0.toList.getD g1.toNat 0).toNat:Int)≤57)))||(decide (((a0.toList.getD g1.toNat 0).toNat:Int)=95)))||(decide (((a0.toList.getD g1.toNat 0).toNat:Int)=45))))))=true then
   some (.inr (.inr false))
  else
   some (.inl (IntKind.i64.wrap (g1+1))))
 else
  some (.inr (.inl ())))
@[go_sem] def zez3 (a0:ByteArray) (g1:Int):St:=⟨[(0,.str a0),(20,.int .i64 (a0.size:Int)),(21,.int .i64 g1)],[],0⟩
noncomputable def zf4 (a0:ByteArray):Option (Bool) :=
 (if (((decide ((a0.size:Int) < 1))||(decide (12 < (a0.size:Int))))||(zt0 a0))=true then
  some false
 else
  (zb6 (zm1 a0) 0).bind (fun | .inl z=>zC3 z | .inr z=>some z))
theorem zal4 (a0:ByteArray) (r:Bool) (h:zf4 a0=some r):PFn C 125 [.str a0] (.bool r):=by
 refine za6 ck_1 rfl fun E hG hN hK=>?_
 unfold pc_1
 unfold zf4 at h
 refine za0 (za1 hG ?_)
 refine za0 (za0 (za1 hG ?_))
 refine za7 (fun hg=>zap8 a0) ?_
 refine za3 rfl hG h (fun _ h=>?_) (fun _ h=>?_)
 · refine za0 (za1 hG ?_)
   refine za8 ?_
   exact zb1 h
 refine za4 ?_
 refine za0 (za0 (za1 hG ?_))
 refine zb4 (zez2) (fun v=>zC3 v=some r) ?_ ?_
 · intro j1 h
   unfold zC3 at h
   refine g_st ?_
   refine za0 (za1 hG ?_)
   refine za8 ?_
   exact zb1 h
 refine zd6 (zez3 a0) hK [] h (fun x_l1 h g1 y_l1 h_l1 hx_l1=>?_)
 unfold zm1 at h_l1
 refine g_st ?_
 refine za0 (za1 hG ?_)
 refine za0 ?_
 refine za3 rfl hG h_l1 (fun _ h_l1=>?_) (fun _ h_l1=>?_)
 · refine za4 ?_
   refine za0 (zb5 (za0 (za1 hG ?_)))
   refine za0 ?_
   obtain ⟨hb1,h_l1⟩:=za2 h_l1
   refine za1 hG ?_
   refine za0 (za1 hG ?_)
   refine za0 (za1 hG ?_)
   refine za0 (za1 hG ?_)
   refine za3 rfl hG h_l1 (fun _ h_l1=>?_) (fun _ h_l1=>?_)
   · refine za0 (za1 hG ?_)
     refine za8 ?_
     obtain rfl:=Option.some.inj h_l1
     have hx:=hx_l1 _ rfl
     subst hx
     try dsimp only at h
     exact zb1 h
   refine za4 ?_
   refine za1 hG ?_
   exact zc7 hK [] h_l1
 refine zc2 ?_
 obtain rfl:=Option.some.inj h_l1
 have hx:=hx_l1 _ rfl
 subst hx
 try dsimp only at h
 exact zc6 hK [] () (by exact h)
attribute [local irreducible] zf4
def zb8 (a0:Resource):Bool :=
 (if (decide (a0.kind=1))=true then
  (decide (a0.units=1))
 else
  (if (decide (a0.kind=2))=true then
   ((decide (1≤a0.units))&&(decide (a0.units≤8)))
  else
   false))
theorem zA8 (a0:Resource):PFn C 126 [.agg (Resource.enc a0)] (.bool (zb8 a0)):=by
 generalize h:zb8 a0=r
 refine za6 ck_2 rfl fun E hG hN hK=>?_
 unfold pc_2
 unfold zb8 at h
 refine za0 (za1 hG ?_)
 refine za0 (za0 (za1 hG ?_))
 refine zb5 (za0 (za1 hG ?_))
 refine za3 rfl hG h (fun _ h=>?_) (fun _ h=>?_)
 · refine za0 (za1 hG ?_)
   refine za8 ?_
   exact ze9 h
 refine za0 (za1 hG ?_)
 refine za3 rfl hG h (fun _ h=>?_) (fun _ h=>?_)
 · refine za0 (za1 hG ?_)
   refine za8 ?_
   exact ze9 h
 refine za4 ?_
 refine za0 (za1 hG ?_)
 refine za8 ?_
 exact ze9 h
noncomputable def zd3 (a0:Resource):Option (Bool) :=
 (zf4 a0.name).bind fun v1 =>
 some (((v1&&(zb8 a0))&&(decide (0≤a0.home)))&&(decide (a0.home < 4)))
theorem zA0 (a0:Resource) (r:Bool) (h:zd3 a0=some r):PFn C 82 [.agg (Resource.enc a0)] (.bool r):=by
 refine za6 ck_3 rfl fun E hG hN hK=>?_
 unfold pc_3
 unfold zd3 at h
 refine za0 (za1 hG ?_)
 refine za0 (za1 hG ?_)
 obtain ⟨v1,hv1,h⟩:=za5 h
 refine za7 (fun hg=>zal4 a0.name _ (hv1)) ?_
 refine za7 (fun hg=>zA8 a0) ?_
 refine za8 ?_
 exact zb1 h
attribute [local irreducible] zd3
noncomputable def zL7  (j1:Unit):Option (Bool) :=
 some true
@[go_sem] def zez4  (j1:Unit):St:=⟨[],[],0⟩
noncomputable def zC4 (a0:List Resource) (g1:Int):Option ((Int)⊕((Unit)⊕(Bool))) :=
 (if (decide (g1 < (a0.length:Int)))=true then
  gd (0≤g1∧g1 < (a0.length:Int)) <|
  (zd3 (a0.getD g1.toNat Resource.zero)).bind fun v1 =>
  gd ((v1&&(decide (0 < g1)))=true→0≤(IntKind.i64.wrap (g1 - 1))∧(IntKind.i64.wrap (g1 - 1)) < (a0.length:Int)) <|
  (if ((!v1)||((decide (0 < g1))&&(!Op.bytesLess ((a0.getD ((IntKind.i64.wrap (g1 - 1)).toNat) Resource.zero).name).toList ((a0.getD g1.toNat Resource.zero).name).toList)))=true then
   some (.inr (.inr false))
  else
   some (.inl (IntKind.i64.wrap (g1+1))))
 else
  some (.inr (.inl ())))
@[go_sem] def zez5 (a0:List Resource) (g1:Int):St:=⟨[(0,.sl (a0.map Resource.enc)),(8,.sl (a0.map Resource.enc)),(9,.int .i64 (a0.length:Int)),(10,.int .i64 g1)],[],0⟩
noncomputable def zj0 (a0:List Resource):Option (Bool) :=
 (if (decide (8 < (a0.length:Int)))=true then
  some false
 else
  (zb6 (zC4 a0) 0).bind (fun | .inl z=>zL7 z | .inr z=>some z))
theorem zaB8 (a0:List Resource) (r:Bool) (h:zj0 a0=some r):PFn C 48 [.sl (a0.map Resource.enc)] (.bool r):=by
 refine za6 ck_4 rfl fun E hG hN hK=>?_
 unfold pc_4
 unfold zj0 at h
 refine za0 (za1 hG ?_)
 refine za0 (za0 (za1 hG ?_))
 refine za3 rfl hG h (fun _ h=>?_) (fun _ h=>?_)
 · refine za0 (za1 hG ?_)
   refine za8 ?_
   exact zb1 h
 refine za4 ?_
 refine za0 (za0 (za1 hG ?_))
 refine zb4 (zez4) (fun v=>zL7 v=some r) ?_ ?_
 · intro j1 h
   unfold zL7 at h
   refine g_st ?_
   refine za0 (za1 hG ?_)
   refine za8 ?_
   exact zb1 h
 refine zd6 (zez5 a0) hK [] h (fun x_l1 h g1 y_l1 h_l1 hx_l1=>?_)
 unfold zC4 at h_l1
 refine g_st ?_
 refine za0 (za1 hG ?_)
 refine za0 ?_
 refine za3 rfl hG h_l1 (fun _ h_l1=>?_) (fun _ h_l1=>?_)
 · refine za4 ?_
   refine za0 (zb5 (za0 ?_))
   obtain ⟨hb2,h_l1⟩:=za2 h_l1
   refine za1 hG ?_
   refine za0 (zo8 ze6 hG ?_)
   obtain ⟨v1,hv1,h_l1⟩:=za5 h_l1
   obtain ⟨hb1,h_l1⟩:=za2 h_l1
   refine zg4 (fun hg=>zA0 (a0.getD g1.toNat Resource.zero) _ (hv1)) ?_
   refine za3 rfl hG h_l1 (fun _ h_l1=>?_) (fun _ h_l1=>?_)
   · refine za0 (za1 hG ?_)
     refine za8 ?_
     obtain rfl:=Option.some.inj h_l1
     have hx:=hx_l1 _ rfl
     subst hx
     try dsimp only at h
     exact zb1 h
   refine za4 ?_
   refine za1 hG ?_
   exact zc7 hK [] h_l1
 refine zc2 ?_
 obtain rfl:=Option.some.inj h_l1
 have hx:=hx_l1 _ rfl
 subst hx
 try dsimp only at h
 exact zc6 hK [] () (by exact h)
attribute [local irreducible] zj0
noncomputable def zu2 (a0:Resource):Option (Queue×Int) :=
 (zd3 a0).bind fun v1 =>
 (if (!v1)=true then
  some ({ Queue.zero with  },1)
 else
  some ({ Queue.zero with resource:=a0 },0))
theorem zbe0 (a0:Resource) (r:Queue×Int) (h:zu2 a0=some r):PFn C 49 [.agg (Resource.enc a0)] (.tup [.agg (Queue.enc r.1),.int .i64 r.2]):=by
 refine za6 ck_5 rfl fun E hG hN hK=>?_
 unfold pc_5
 unfold zu2 at h
 refine za0 (za1 hG ?_)
 refine za0 (za0 (za1 hG ?_))
 obtain ⟨v1,hv1,h⟩:=za5 h
 refine za7 (fun hg=>zA0 a0 _ (hv1)) ?_
 refine za3 rfl hG h (fun _ h=>?_) (fun _ h=>?_)
 · refine za0 (za1 hG ?_)
   refine za8 ?_
   exact zb1 h
 refine za4 ?_
 refine za0 (za1 hG ?_)
 refine za8 ?_
 exact zb1 h
attribute [local irreducible] zu2
noncomputable def zX4  (j1:(List Queue)):Option ((List Queue)×Int) :=
 some (j1,0)
@[go_sem] def zez6  (j1:(List Queue)):St:=⟨[(4,.own 0 0 j1.length)],[(0,⟨false,8,(Queue.enc Queue.zero),j1.map Queue.enc⟩)],1⟩
noncomputable def zF9 (a0:List Resource) (g1:Int×(List Queue)):Option ((Int×(List Queue))⊕(((List Queue))⊕((List Queue)×Int))) :=
 (if (decide (g1.1 < (a0.length:Int)))=true then
  gd (0≤g1.1∧g1.1 < (a0.length:Int)) <|
  (zu2 (a0.getD g1.1.toNat Resource.zero)).bind fun v2 =>
  (if (!decide (v2.2=0))=true then
   some (.inr (.inr ([],v2.2)))
  else
   gd (g1.2.length+1≤4294967296) <|
   some (.inl ((IntKind.i64.wrap (g1.1+1)),(g1.2++[v2.1]))))
 else
  some (.inr (.inl g1.2)))
@[go_sem] def zez7 (a0:List Resource) (g1:Int×(List Queue)):St:=⟨[(4,.own 0 0 g1.2.length),(12,.sl (a0.map Resource.enc)),(13,.int .i64 (a0.length:Int)),(14,.int .i64 g1.1)],[(0,⟨false,8,(Queue.enc Queue.zero),g1.2.map Queue.enc⟩)],1⟩
noncomputable def zu3 (a0:List Resource):Option ((List Queue)×Int) :=
 (zj0 a0).bind fun v1 =>
 (if (!v1)=true then
  some ([],1)
 else
  (zb6 (zF9 a0) (0,[])).bind (fun | .inl z=>zX4 z | .inr z=>some z))
theorem zbe1 (a0:List Resource) (r:(List Queue)×Int) (h:zu3 a0=some r):PFn C 12 [.sl (a0.map Resource.enc)] (.tup [.sl (r.1.map Queue.enc),.int .i64 r.2]):=by
 refine za6 ck_6 rfl fun E hG hN hK=>?_
 unfold pc_6
 unfold zu3 at h
 refine za0 (za1 hG ?_)
 refine za0 (za0 (za1 hG ?_))
 obtain ⟨v1,hv1,h⟩:=za5 h
 refine za7 (fun hg=>zaB8 a0 _ (hv1)) ?_
 refine za3 rfl hG h (fun _ h=>?_) (fun _ h=>?_)
 · refine za0 (za1 hG ?_)
   refine za8 ?_
   exact zb1 h
 refine za4 ?_
 refine za0 (za1 hG ?_)
 refine za0 (za0 (za1 hG ?_))
 refine zb4 (zez6) (fun v=>zX4 v=some r) ?_ ?_
 · intro j1 h
   unfold zX4 at h
   refine g_st ?_
   refine za0 (za1 hG ?_)
   refine za8 ?_
   exact zb1 h
 refine zd6 (zez7 a0) hK [(0,0)] h (fun x_l1 h g1 y_l1 h_l1 hx_l1=>?_)
 unfold zF9 at h_l1
 refine g_st ?_
 refine za0 (za1 hG ?_)
 refine za0 ?_
 refine za3 rfl hG h_l1 (fun _ h_l1=>?_) (fun _ h_l1=>?_)
 · refine za4 ?_
   refine za0 (zb5 (za0 ?_))
   obtain ⟨hb2,h_l1⟩:=za2 h_l1
   refine za1 hG ?_
   refine za0 (za1 hG ?_)
   obtain ⟨v2,hv2,h_l1⟩:=za5 h_l1
   refine za7 (fun hg=>zbe0 (a0.getD g1.1.toNat Resource.zero) _ (hv2)) ?_
   refine za0 (za0 (za1 hG ?_))
   refine za3 rfl hG h_l1 (fun _ h_l1=>?_) (fun _ h_l1=>?_)
   · refine za0 (za1 hG ?_)
     refine za8 ?_
     obtain rfl:=Option.some.inj h_l1
     have hx:=hx_l1 _ rfl
     subst hx
     try dsimp only at h
     exact zb1 h
   refine za4 ?_
   obtain ⟨hb1,h_l1⟩:=za2 h_l1
   refine za1 hG ?_
   refine za1 hG ?_
   exact zc7 hK [(0,3)] h_l1
 refine zc2 ?_
 obtain rfl:=Option.some.inj h_l1
 have hx:=hx_l1 _ rfl
 subst hx
 try dsimp only at h
 exact zc6 hK [(0,0)] g1.2 (by exact h)
attribute [local irreducible] zu3
def zr1 (a0:Int):Bool :=
 ((decide (97≤a0))&&(decide (a0≤122)))
theorem zaj0 (a0:Int):PFn C 157 [.int .u8 a0] (.bool (zr1 a0)):=by
 generalize h:zr1 a0=r
 refine za6 ck_7 rfl fun E hG hN hK=>?_
 unfold pc_7
 unfold zr1 at h
 refine za0 (za1 hG ?_)
 refine za0 (za1 hG ?_)
 refine za8 ?_
 exact ze9 h
def zm2 (a0:ByteArray):Bool :=
 (((((a0.toList == (⟨#[97,108,108]⟩:ByteArray).toList)||(a0.toList == (⟨#[97,110,121]⟩:ByteArray).toList))||(a0.toList == (⟨#[111,102]⟩:ByteArray).toList))||(a0.toList == (⟨#[112,114,105,111]⟩:ByteArray).toList))||(a0.toList == (⟨#[108,105,109,105,116]⟩:ByteArray).toList))
theorem zax7 (a0:ByteArray):PFn C 158 [.str a0] (.bool (zm2 a0)):=by
 generalize h:zm2 a0=r
 refine za6 ck_8 rfl fun E hG hN hK=>?_
 unfold pc_8
 unfold zm2 at h
 refine za0 (za1 hG ?_)
 refine za0 (za1 hG ?_)
 refine za8 ?_
 exact ze9 h
def zk1 (a0:Int):Bool :=
 ((((zr1 a0)||((decide (48≤a0))&&(decide (a0≤57))))||(decide (a0=95)))||(decide (a0=45)))
theorem zaW1 (a0:Int):PFn C 159 [.int .u8 a0] (.bool (zk1 a0)):=by
 generalize h:zk1 a0=r
 refine za6 ck_9 rfl fun E hG hN hK=>?_
 unfold pc_9
 unfold zk1 at h
 refine za0 (za1 hG ?_)
 refine za0 (za1 hG ?_)
 refine za7 (fun hg=>zaj0 a0) ?_
 refine za8 ?_
 exact ze9 h
noncomputable def zG0  (j1:Unit):Option (Bool) :=
 some true
@[go_sem] def zez8  (j1:Unit):St:=⟨[],[],0⟩
noncomputable def zp4 (a0:ByteArray) (g1:Int):Option ((Int)⊕((Unit)⊕(Bool))) :=
 (if (decide (g1 < (a0.size:Int)))=true then
  gd (0≤g1∧g1 < (a0.size:Int)) <|
  (if (!(zk1 ((a0.toList.getD g1.toNat 0).toNat:Int)))=true then
   some (.inr (.inr false))
  else
   some (.inl (IntKind.i64.wrap (g1+1))))
 else
  some (.inr (.inl ())))
@[go_sem] def zez9 (a0:ByteArray) (g1:Int):St:=⟨[(0,.str a0),(3,.int .i64 g1)],[],0⟩
noncomputable def zh0 (a0:ByteArray):Option (Bool) :=
 gd ((!((decide ((a0.size:Int) < 1))||(decide (12 < (a0.size:Int)))))=true→0≤0∧0 < (a0.size:Int)) <|
 (if ((((decide ((a0.size:Int) < 1))||(decide (12 < (a0.size:Int))))||(!(zr1 ((a0.toList.getD 0 0).toNat:Int))))||(zm2 a0))=true then
  some false
 else
  (zb6 (zp4 a0) 0).bind (fun | .inl z=>zG0 z | .inr z=>some z))
theorem zau3 (a0:ByteArray) (r:Bool) (h:zh0 a0=some r):PFn C 127 [.str a0] (.bool r):=by
 refine za6 ck_a rfl fun E hG hN hK=>?_
 unfold pc_a
 unfold zh0 at h
 refine za0 (za1 hG ?_)
 refine za0 (za0 ?_)
 obtain ⟨hb2,h⟩:=za2 h
 refine za1 hG ?_
 refine za7 (fun hg=>zaj0 ((a0.toList.getD 0 0).toNat:Int)) ?_
 refine za7 (fun hg=>zax7 a0) ?_
 refine za3 rfl hG h (fun _ h=>?_) (fun _ h=>?_)
 · refine za0 (za1 hG ?_)
   refine za8 ?_
   exact zb1 h
 refine za4 ?_
 refine za0 (za0 (za1 hG ?_))
 refine zb4 (zez8) (fun v=>zG0 v=some r) ?_ ?_
 · intro j1 h
   unfold zG0 at h
   refine g_st ?_
   refine za0 (za1 hG ?_)
   refine za8 ?_
   exact zb1 h
 refine zd6 (zez9 a0) hK [] h (fun x_l1 h g1 y_l1 h_l1 hx_l1=>?_)
 unfold zp4 at h_l1
 refine g_st ?_
 refine za0 (za0 (za1 hG ?_))
 refine za3 rfl hG h_l1 (fun _ h_l1=>?_) (fun _ h_l1=>?_)
 · refine za4 ?_
   refine za0 (zb5 (za0 ?_))
   obtain ⟨hb1,h_l1⟩:=za2 h_l1
   refine za1 hG ?_
   refine za7 (fun hg=>zaW1 ((a0.toList.getD g1.toNat 0).toNat:Int)) ?_
   refine za3 rfl hG h_l1 (fun _ h_l1=>?_) (fun _ h_l1=>?_)
   · refine za0 (za1 hG ?_)
     refine za8 ?_
     obtain rfl:=Option.some.inj h_l1
     have hx:=hx_l1 _ rfl
     subst hx
     try dsimp only at h
     exact zb1 h
   refine za4 ?_
   refine za1 hG ?_
   exact zc7 hK [] h_l1
 refine zc2 ?_
 obtain rfl:=Option.some.inj h_l1
 have hx:=hx_l1 _ rfl
 subst hx
 try dsimp only at h
 exact zc6 hK [] () (by exact h)
attribute [local irreducible] zh0
def zn4 (a0:Resource):Bool :=
 (((decide (a0.kind=1))&&(decide (a0.units=1)))||(((decide (a0.kind=2))&&(decide (1≤a0.units)))&&(decide (a0.units≤8))))
theorem zE0 (a0:Resource):PFn C 128 [.agg (Resource.enc a0)] (.bool (zn4 a0)):=by
 generalize h:zn4 a0=r
 refine za6 ck_b rfl fun E hG hN hK=>?_
 unfold pc_b
 unfold zn4 at h
 refine za0 (za1 hG ?_)
 refine za0 (za1 hG ?_)
 refine za8 ?_
 exact ze9 h
noncomputable def zd8 (a0:Resource):Option (Bool) :=
 (zh0 a0.name).bind fun v1 =>
 some (((v1&&(zn4 a0))&&(decide (0≤a0.home)))&&(decide (a0.home < 4)))
theorem zah3 (a0:Resource) (r:Bool) (h:zd8 a0=some r):PFn C 83 [.agg (Resource.enc a0)] (.bool r):=by
 refine za6 ck_c rfl fun E hG hN hK=>?_
 unfold pc_c
 unfold zd8 at h
 refine za0 (za1 hG ?_)
 refine za0 (za1 hG ?_)
 obtain ⟨v1,hv1,h⟩:=za5 h
 refine za7 (fun hg=>zau3 a0.name _ (hv1)) ?_
 refine za7 (fun hg=>zE0 a0) ?_
 refine za8 ?_
 exact zb1 h
attribute [local irreducible] zd8
noncomputable def zaB9  (j1:Unit):Option (Bool) :=
 some true
@[go_sem] def zeG8  (j1:Unit):St:=⟨[],[],0⟩
noncomputable def zaC0 (a0:List Resource) (g1:Int):Option ((Int)⊕((Unit)⊕(Bool))) :=
 (if (decide (g1 < (a0.length:Int)))=true then
  gd (0≤g1∧g1 < (a0.length:Int)) <|
  (zd8 (a0.getD g1.toNat Resource.zero)).bind fun v1 =>
  gd ((v1&&(decide (0 < g1)))=true→0≤(IntKind.i64.wrap (g1 - 1))∧(IntKind.i64.wrap (g1 - 1)) < (a0.length:Int)) <|
  gd ((v1&&(decide (0 < g1)))=true→0≤g1∧g1 < (a0.length:Int)) <|
  (if ((!v1)||((decide (0 < g1))&&(!Op.bytesLess ((a0.getD ((IntKind.i64.wrap (g1 - 1)).toNat) Resource.zero).name).toList ((a0.getD g1.toNat Resource.zero).name).toList)))=true then
   some (.inr (.inr false))
  else
   some (.inl (IntKind.i64.wrap (g1+1))))
 else
  some (.inr (.inl ())))
@[go_sem] def zeG9 (a0:List Resource) (g1:Int):St:=⟨[(0,.sl (a0.map Resource.enc)),(3,.int .i64 g1)],[],0⟩
noncomputable def zA1 (a0:List Resource):Option (Bool) :=
 (if (decide (8 < (a0.length:Int)))=true then
  some false
 else
  (zb6 (zaC0 a0) 0).bind (fun | .inl z=>zaB9 z | .inr z=>some z))
attribute [local irreducible] zA1
noncomputable def zaP3  (j1:(List Queue)):Option ((List Queue)×Int) :=
 some (j1,0)
@[go_sem] def zeH0  (j1:(List Queue)):St:=⟨[(4,.own 0 0 j1.length)],[(0,⟨false,8,(Queue.enc Queue.zero),j1.map Queue.enc⟩)],1⟩
noncomputable def zaP4 (a0:List Resource) (g1:Int×(List Queue)):Option ((Int×(List Queue))⊕(((List Queue)))) :=
 (if (decide (g1.1 < (a0.length:Int)))=true then
  gd (0≤g1.1∧g1.1 < (a0.length:Int)) <|
  gd (g1.2.length+1≤4294967296) <|
  some (.inl ((IntKind.i64.wrap (g1.1+1)),(g1.2++[{ Queue.zero with resource:=(a0.getD g1.1.toNat Resource.zero) }])))
 else
  some (.inr g1.2))
@[go_sem] def zeH1 (a0:List Resource) (g1:Int×(List Queue)):St:=⟨[(0,.sl (a0.map Resource.enc)),(4,.own 0 0 g1.2.length),(5,.int .i64 g1.1)],[(0,⟨false,8,(Queue.enc Queue.zero),g1.2.map Queue.enc⟩)],1⟩
noncomputable def zG1 (a0:List Resource):Option ((List Queue)×Int) :=
 (zA1 a0).bind fun v1 =>
 (if (!v1)=true then
  some ([],1)
 else
  (zb6 (zaP4 a0) (0,[])).bind (fun z=>zaP3 z))
attribute [local irreducible] zG1
noncomputable def zr2 (a0:Int) (a1:Int):Option (Int) :=
 (if (decide (a1 < 1))=true then
  some 0
 else
  gd (a1≠0) <|
  (if (decide ((a0.tmod a1) < 0))=true then
   some (IntKind.i64.wrap ((a0.tmod a1)+a1))
  else
   some (a0.tmod a1)))
theorem zbk7 (a0:Int) (a1:Int) (r:Int) (h:zr2 a0 a1=some r):PFn C 22 [.int .i64 a0,.int .i64 a1] (.int .i64 r):=by
 refine za6 ck_f rfl fun E hG hN hK=>?_
 unfold pc_f
 unfold zr2 at h
 refine za0 (za1 hG ?_)
 refine za0 (za0 (za1 hG ?_))
 refine za3 rfl hG h (fun _ h=>?_) (fun _ h=>?_)
 · refine za0 (za1 hG ?_)
   refine za8 ?_
   exact zb1 h
 refine za4 ?_
 refine za0 ?_
 obtain ⟨hb1,h⟩:=za2 h
 refine za1 hG ?_
 refine za0 (za0 (za1 hG ?_))
 refine za3 rfl hG h (fun _ h=>?_) (fun _ h=>?_)
 · refine za1 hG ?_
   refine za0 (za1 hG ?_)
   refine za8 ?_
   exact zb1 h
 refine za4 ?_
 refine za0 (za1 hG ?_)
 refine za8 ?_
 exact zb1 h
attribute [local irreducible] zr2
noncomputable def zs1 (a0:Int):Option (Proc) :=
 (zr2 a0 8).bind fun v1 =>
 some (⟨(v1.tmod 4),1,(IntKind.i64.wrap (1+(IntKind.i64.wrap (v1.tdiv 4))))⟩:Proc)
theorem zbe2 (a0:Int) (r:Proc) (h:zs1 a0=some r):PFn C 23 [.int .i64 a0] (.agg (Proc.enc r)):=by
 refine za6 ck_g rfl fun E hG hN hK=>?_
 unfold pc_g
 unfold zs1 at h
 refine za0 (za1 hG ?_)
 refine za0 (za1 hG ?_)
 obtain ⟨v1,hv1,h⟩:=za5 h
 refine za7 (fun hg=>zbk7 a0 8 _ (hv1)) ?_
 refine za0 (za1 hG ?_)
 refine za8 ?_
 exact zb1 h
attribute [local irreducible] zs1
def zo3 (a0:Int) (a1:Int) (a2:Int):Bool :=
 ((decide (a1≤a0))&&(decide (a0≤a2)))
theorem zR2 (a0:Int) (a1:Int) (a2:Int):PFn C 131 [.int .i64 a0,.int .i64 a1,.int .i64 a2] (.bool (zo3 a0 a1 a2)):=by
 generalize h:zo3 a0 a1 a2=r
 refine za6 ck_h rfl fun E hG hN hK=>?_
 unfold pc_h
 unfold zo3 at h
 refine za0 (za1 hG ?_)
 refine za0 (za1 hG ?_)
 refine za8 ?_
 exact ze9 h
def zb3 (a0:Proc):Bool :=
 (((zo3 a0.site 0 3)&&(zo3 a0.inc 1 99))&&(zo3 a0.num 1 999))
theorem zC5 (a0:Proc):PFn C 86 [.agg (Proc.enc a0)] (.bool (zb3 a0)):=by
 generalize h:zb3 a0=r
 refine za6 ck_i rfl fun E hG hN hK=>?_
 unfold pc_i
 unfold zb3 at h
 refine za0 (za1 hG ?_)
 refine za0 (za1 hG ?_)
 refine za7 (fun hg=>zR2 a0.site 0 3) ?_
 refine za7 (fun hg=>zR2 a0.inc 1 99) ?_
 refine za7 (fun hg=>zR2 a0.num 1 999) ?_
 refine za8 ?_
 exact ze9 h
def zf6 (a0:Int):Bool :=
 ((decide (1≤a0))&&(decide (a0≤5)))
theorem zK7 (a0:Int):PFn C 132 [.int .i64 a0] (.bool (zf6 a0)):=by
 generalize h:zf6 a0=r
 refine za6 ck_j rfl fun E hG hN hK=>?_
 unfold pc_j
 unfold zf6 at h
 refine za0 (za1 hG ?_)
 refine za0 (za1 hG ?_)
 refine za8 ?_
 exact ze9 h
def za9 (a0:Resource) (a1:Amount):Bool :=
 (if (!(zb8 a0))=true then
  false
 else
  (if (decide (a0.kind=1))=true then
   ((zf6 a1.mode)&&(decide (a1.units=0)))
  else
   (((decide (a1.mode=0))&&(decide (1≤a1.units)))&&(decide (a1.units≤a0.units)))))
theorem zu4 (a0:Resource) (a1:Amount):PFn C 87 [.agg (Resource.enc a0),.agg (Amount.enc a1)] (.bool (za9 a0 a1)):=by
 generalize h:za9 a0 a1=r
 refine za6 ck_k rfl fun E hG hN hK=>?_
 unfold pc_k
 unfold za9 at h
 refine za0 (za1 hG ?_)
 refine za0 (za0 (za1 hG ?_))
 refine za7 (fun hg=>zA8 a0) ?_
 refine za3 rfl hG h (fun _ h=>?_) (fun _ h=>?_)
 · refine za0 (za1 hG ?_)
   refine za8 ?_
   exact ze9 h
 refine za4 ?_
 refine za0 (za0 (za1 hG ?_))
 refine za3 rfl hG h (fun _ h=>?_) (fun _ h=>?_)
 · refine za0 (za1 hG ?_)
   refine za7 (fun hg=>zK7 a1.mode) ?_
   refine za8 ?_
   exact ze9 h
 refine za4 ?_
 refine za0 (za1 hG ?_)
 refine za8 ?_
 exact ze9 h
noncomputable def zy2  (j1:Unit):Option (Int) :=
 some 0
@[go_sem] def zeA0  (j1:Unit):St:=⟨[],[],0⟩
noncomputable def zd1 (a0:Arr Int 3) (a1:Arr Int 3) (g1:Int):Option ((Int)⊕((Unit)⊕(Int))) :=
 (if (decide (g1 < 3))=true then
  gd (0≤g1∧g1 < 3) <|
  gd (0≤g1∧g1 < 3) <|
  (if (decide ((Arr.get a0 g1.toNat 0) < (Arr.get a1 g1.toNat 0)))=true then
   some (.inr (.inr (-1)))
  else
   gd (0≤g1∧g1 < 3) <|
   (if (decide ((Arr.get a1 g1.toNat 0) < (Arr.get a0 g1.toNat 0)))=true then
    some (.inr (.inr 1))
   else
    some (.inl (IntKind.i64.wrap (g1+1)))))
 else
  some (.inr (.inl ())))
@[go_sem] def zeA1 (a0:Arr Int 3) (a1:Arr Int 3) (g1:Int):St:=⟨[(3,.ptr 0 0 0),(7,.agg (Arr.enc (eI .i64) a0)),(8,.int .i64 g1)],[(0,⟨false,3,(Arr.enc (eI .i64) (Arr.rep 3 0)),[Arr.enc (eI .i64) a1]⟩)],1⟩
noncomputable def zj1 (a0:Arr Int 3) (a1:Arr Int 3):Option (Int) :=
 (zb6 (zd1 a0 a1) 0).bind (fun | .inl z=>zy2 z | .inr z=>some z)
theorem zaC1 (a0:Arr Int 3) (a1:Arr Int 3) (r:Int) (h:zj1 a0 a1=some r):PFn C 155 [.agg (Arr.enc (eI .i64) a0),.agg (Arr.enc (eI .i64) a1)] (.int .i64 r):=by
 refine za6 ck_l rfl fun E hG hN hK=>?_
 unfold pc_l
 unfold zj1 at h
 refine za0 (za1 hG ?_)
 refine za0 (za0 (za1 hG ?_))
 refine zb4 (zeA0) (fun v=>zy2 v=some r) ?_ ?_
 · intro j1 h
   unfold zy2 at h
   refine g_st ?_
   refine za0 (za1 hG ?_)
   refine za8 ?_
   exact zb1 h
 refine zd6 (zeA1 a0 a1) hK [(0,1)] h (fun x_l1 h g1 y_l1 h_l1 hx_l1=>?_)
 unfold zd1 at h_l1
 refine g_st ?_
 refine za0 (za1 hG ?_)
 refine za0 ?_
 refine za3 rfl hG h_l1 (fun _ h_l1=>?_) (fun _ h_l1=>?_)
 · refine za4 ?_
   refine za0 (zb5 (za0 ?_))
   obtain ⟨hb3,h_l1⟩:=za2 h_l1
   refine za1 hG ?_
   refine za0 (za0 ?_)
   obtain ⟨hb2,h_l1⟩:=za2 h_l1
   refine za1 hG ?_
   refine za3 rfl hG h_l1 (fun _ h_l1=>?_) (fun _ h_l1=>?_)
   · refine za0 (za1 hG ?_)
     refine za8 ?_
     obtain rfl:=Option.some.inj h_l1
     have hx:=hx_l1 _ rfl
     subst hx
     try dsimp only at h
     exact zb1 h
   refine za4 ?_
   refine za0 ?_
   obtain ⟨hb1,h_l1⟩:=za2 h_l1
   refine za1 hG ?_
   refine za3 rfl hG h_l1 (fun _ h_l1=>?_) (fun _ h_l1=>?_)
   · refine za0 (za1 hG ?_)
     refine za8 ?_
     obtain rfl:=Option.some.inj h_l1
     have hx:=hx_l1 _ rfl
     subst hx
     try dsimp only at h
     exact zb1 h
   refine za4 ?_
   refine za1 hG ?_
   exact zc7 hK [(0,0)] h_l1
 refine zc2 ?_
 obtain rfl:=Option.some.inj h_l1
 have hx:=hx_l1 _ rfl
 subst hx
 try dsimp only at h
 exact zc6 hK [] () (by exact h)
attribute [local irreducible] zj1
noncomputable def zd7 (a0:Proc) (a1:Proc):Option (Int) :=
 (zj1 (⟨[a0.site,a0.inc,a0.num],rfl⟩:Arr Int 3) (⟨[a1.site,a1.inc,a1.num],rfl⟩:Arr Int 3)).bind fun v1 =>
 some v1
theorem zG2 (a0:Proc) (a1:Proc) (r:Int) (h:zd7 a0 a1=some r):PFn C 119 [.agg (Proc.enc a0),.agg (Proc.enc a1)] (.int .i64 r):=by
 refine za6 ck_m rfl fun E hG hN hK=>?_
 unfold pc_m
 unfold zd7 at h
 refine za0 (za1 hG ?_)
 refine za0 (za1 hG ?_)
 obtain ⟨v1,hv1,h⟩:=za5 h
 refine za7 (fun hg=>zaC1 (⟨[a0.site,a0.inc,a0.num],rfl⟩:Arr Int 3) (⟨[a1.site,a1.inc,a1.num],rfl⟩:Arr Int 3) _ (hv1)) ?_
 refine za8 ?_
 exact zb1 h
attribute [local irreducible] zd7
def zb9 (a0:Amount):Bool :=
 (decide (a0={ Amount.zero with  }))
theorem zn5 (a0:Amount):PFn C 90 [.agg (Amount.enc a0)] (.bool (zb9 a0)):=by
 generalize h:zb9 a0=r
 refine za6 ck_n rfl fun E hG hN hK=>?_
 unfold pc_n
 unfold zb9 at h
 refine za0 (za1 hG ?_)
 refine za0 (za1 hG ?_)
 refine za8 ?_
 exact ze9 h
def zb0 (a0:Resource) (a1:Amount):Bool :=
 ((zb8 a0)&&((zb9 a1)||(za9 a0 a1)))
theorem zw6 (a0:Resource) (a1:Amount):PFn C 133 [.agg (Resource.enc a0),.agg (Amount.enc a1)] (.bool (zb0 a0 a1)):=by
 generalize h:zb0 a0 a1=r
 refine za6 ck_o rfl fun E hG hN hK=>?_
 unfold pc_o
 unfold zb0 at h
 refine za0 (za1 hG ?_)
 refine za0 (za1 hG ?_)
 refine za7 (fun hg=>zA8 a0) ?_
 refine za7 (fun hg=>zn5 a1) ?_
 refine za7 (fun hg=>zu4 a0 a1) ?_
 refine za8 ?_
 exact ze9 h
noncomputable def zh1 (a0:Int) (a1:Int):Option (Bool) :=
 gd (((zf6 a0)&&(zf6 a1))=true→0≤(IntKind.i64.wrap (a0 - 1))∧(IntKind.i64.wrap (a0 - 1)) < 5) <|
 gd (((zf6 a0)&&(zf6 a1))=true→0≤(IntKind.i64.wrap (a1 - 1))∧(IntKind.i64.wrap (a1 - 1)) < 5) <|
 some (((zf6 a0)&&(zf6 a1))&&(Arr.get (Arr.get zbd8 ((IntKind.i64.wrap (a0 - 1)).toNat) (Arr.rep 5 false)) ((IntKind.i64.wrap (a1 - 1)).toNat) false))
theorem zau4 (a0:Int) (a1:Int) (r:Bool) (h:zh1 a0 a1=some r):PFn C 193 [.int .i64 a0,.int .i64 a1] (.bool r):=by
 refine za6 ck_p rfl fun E hG hN hK=>?_
 unfold pc_p
 unfold zh1 at h
 refine za0 (za1 hG ?_)
 refine za0 (za1 hG ?_)
 refine za7 (fun hg=>zK7 a0) ?_
 obtain ⟨hb1,h⟩:=za2 h
 obtain ⟨hb2,h⟩:=za2 h
 refine za7 (fun hg=>zK7 a1) ?_
 refine za8 ?_
 exact zb1 h
attribute [local irreducible] zh1
noncomputable def zC6  (j1:Bool):Option (Bool) :=
 some j1
@[go_sem] def zeA2  (j1:Bool):St:=⟨[(5,.bool j1)],[],0⟩
noncomputable def zx2 (a1:List Amount) (g1:Int×Int×(Arr Bool 6)) (j2:Unit):Option ((Int×Int×(Arr Bool 6))⊕((Bool))) :=
 gd (0≤(a1.getD g1.2.1.toNat Amount.zero).mode∧(a1.getD g1.2.1.toNat Amount.zero).mode < 6) <|
 some (.inl ((IntKind.i64.wrap (g1.1+(a1.getD g1.2.1.toNat Amount.zero).units)),(IntKind.i64.wrap (g1.2.1+1)),(Arr.put g1.2.2 (((a1.getD g1.2.1.toNat Amount.zero).mode).toNat) true)))
@[go_sem] def zeA3 (a0:Resource) (a1:List Amount) (g1:Int×Int×(Arr Bool 6)) (j2:Unit):St:=⟨[(2,.ptr 0 0 0),(5,.bool true),(6,.ptr 1 0 0),(7,.int .i64 (IntKind.i64.wrap (g1.1+(a1.getD g1.2.1.toNat Amount.zero).units))),(9,.ptr 2 0 0),(15,.sl (a1.map Amount.enc)),(16,.int .i64 (a1.length:Int)),(17,.int .i64 g1.2.1)],[(0,⟨false,4,(Resource.enc Resource.zero),[Resource.enc a0]⟩),(1,⟨false,6,(Arr.enc eB (Arr.rep 6 false)),[Arr.enc eB g1.2.2]⟩),(2,⟨false,2,(Amount.enc Amount.zero),[Amount.enc (a1.getD g1.2.1.toNat Amount.zero)]⟩)],3⟩
noncomputable def zm3 (a1:List Amount) (g1:Int×Int×(Arr Bool 6)) (g2:Int):Option ((Int)⊕((Unit)⊕(Bool))) :=
 (if (decide (g2 < 6))=true then
  gd (0≤g2∧g2 < 6) <|
  ((if (Arr.get g1.2.2 g2.toNat false)=true then zh1 g2 ((a1.getD g1.2.1.toNat Amount.zero).mode) else some (false))).bind fun v1 =>
  (if ((Arr.get g1.2.2 g2.toNat false)&&(!v1))=true then
   some (.inr (.inr false))
  else
   some (.inl (IntKind.i64.wrap (g2+1))))
 else
  some (.inr (.inl ())))
@[go_sem] def zeA4 (a0:Resource) (a1:List Amount) (g1:Int×Int×(Arr Bool 6)) (g2:Int):St:=⟨[(2,.ptr 0 0 0),(5,.bool true),(6,.ptr 1 0 0),(7,.int .i64 (IntKind.i64.wrap (g1.1+(a1.getD g1.2.1.toNat Amount.zero).units))),(9,.ptr 2 0 0),(15,.sl (a1.map Amount.enc)),(16,.int .i64 (a1.length:Int)),(17,.int .i64 g1.2.1),(41,.agg (Arr.enc eB g1.2.2)),(42,.int .i64 g2)],[(0,⟨false,4,(Resource.enc Resource.zero),[Resource.enc a0]⟩),(1,⟨false,6,(Arr.enc eB (Arr.rep 6 false)),[Arr.enc eB g1.2.2]⟩),(2,⟨false,2,(Amount.enc Amount.zero),[Amount.enc (a1.getD g1.2.1.toNat Amount.zero)]⟩)],3⟩
noncomputable def zr3 (a0:Resource) (a1:List Amount) (g1:Int×Int×(Arr Bool 6)):Option ((Int×Int×(Arr Bool 6))⊕((Bool))) :=
 (if (decide (g1.2.1 < (a1.length:Int)))=true then
  gd (0≤g1.2.1∧g1.2.1 < (a1.length:Int)) <|
  (if ((!(zb0 a0 (a1.getD g1.2.1.toNat Amount.zero)))||(decide (a0.units < (IntKind.i64.wrap (g1.1+(a1.getD g1.2.1.toNat Amount.zero).units)))))=true then
   some (.inr false)
  else
   (if (decide ((a1.getD g1.2.1.toNat Amount.zero).mode=0))=true then
    some (.inl ((IntKind.i64.wrap (g1.1+(a1.getD g1.2.1.toNat Amount.zero).units)),(IntKind.i64.wrap (g1.2.1+1)),g1.2.2))
   else
    (zb6 (zm3 a1 g1) 0).bind (fun | .inl z=>zx2 a1 g1 z | .inr z=>some (.inr z))))
 else
  some (.inr true))
@[go_sem] def zeA5 (a0:Resource) (a1:List Amount) (g1:Int×Int×(Arr Bool 6)):St:=⟨[(2,.ptr 0 0 0),(5,.bool true),(6,.ptr 1 0 0),(7,.int .i64 g1.1),(15,.sl (a1.map Amount.enc)),(16,.int .i64 (a1.length:Int)),(17,.int .i64 g1.2.1)],[(0,⟨false,4,(Resource.enc Resource.zero),[Resource.enc a0]⟩),(1,⟨false,6,(Arr.enc eB (Arr.rep 6 false)),[Arr.enc eB g1.2.2]⟩)],2⟩
noncomputable def zf5 (a0:Resource) (a1:List Amount):Option (Bool) :=
 (if (!(zb8 a0))=true then
  some false
 else
  (zb6 (zr3 a0 a1) (0,0,(Arr.rep 6 false))).bind (fun z=>zC6 z))
theorem zal5 (a0:Resource) (a1:List Amount) (r:Bool) (h:zf5 a0 a1=some r):PFn C 190 [.agg (Resource.enc a0),.sl (a1.map Amount.enc)] (.bool r):=by
 refine za6 ck_q rfl fun E hG hN hK=>?_
 unfold pc_q
 unfold zf5 at h
 refine za0 (za1 hG ?_)
 refine zbi7 ?_
 refine za0 (za0 (za1 hG ?_))
 refine za7 (fun hg=>zA8 a0) ?_
 refine za3 rfl hG h (fun _ h=>?_) (fun _ h=>?_)
 · refine za0 (za1 hG ?_)
   refine za8 ?_
   exact zb1 h
 refine za4 ?_
 refine za0 (za1 hG ?_)
 refine za0 (za1 hG ?_)
 refine za0 (za1 hG ?_)
 refine za0 ?_
 refine zbt6 ?_
 refine za0 (za0 (za1 hG ?_))
 refine zb4 (zeA2) (fun v=>zC6 v=some r) ?_ ?_
 · intro j1 h
   unfold zC6 at h
   refine g_st ?_
   refine za0 (za1 hG ?_)
   refine za8 ?_
   exact zb1 h
 refine zd6 (zeA5 a0 a1) hK [(0,0),(1,1)] h (fun x_l1 h g1 y_l1 h_l1 hx_l1=>?_)
 unfold zr3 at h_l1
 refine g_st ?_
 refine za0 (za1 hG ?_)
 refine za0 ?_
 refine za3 rfl hG h_l1 (fun _ h_l1=>?_) (fun _ h_l1=>?_)
 · refine za4 ?_
   refine za0 (zb5 (za0 ?_))
   obtain ⟨hb3,h_l1⟩:=za2 h_l1
   refine za1 hG ?_
   refine za0 (za0 (za1 hG ?_))
   refine za7 (fun hg=>zw6 a0 (a1.getD g1.2.1.toNat Amount.zero)) ?_
   refine za3 rfl hG h_l1 (fun _ h_l1=>?_) (fun _ h_l1=>?_)
   · refine za0 (za1 hG ?_)
     refine zc2 ?_
     obtain rfl:=Option.some.inj h_l1
     have hx:=hx_l1 _ rfl
     subst hx
     try dsimp only at h
     exact zc6 hK [] false (by exact h)
   refine za4 ?_
   refine za0 (za1 hG ?_)
   refine za0 (za0 (za1 hG ?_))
   refine za3 rfl hG h_l1 (fun _ h_l1=>?_) (fun _ h_l1=>?_)
   · refine zc2 ?_
     refine za1 hG ?_
     exact zc7 hK [(0,0),(1,1)] h_l1
   refine za4 ?_
   refine za0 (za0 (za1 hG ?_))
   refine zb4 (zeA3 a0 a1 g1) (fun v=>zx2 a1 g1 v=some y_l1) ?_ ?_
   · intro j2 h_l1
     unfold zx2 at h_l1
     refine g_st ?_
     obtain ⟨hb1,h_l1⟩:=za2 h_l1
     refine za1 hG ?_
     refine za1 hG ?_
     exact zc7 hK [(0,0),(1,1)] h_l1
   refine zd6 (zeA4 a0 a1 g1) hK [(0,0),(1,1),(2,2)] h_l1 (fun x_l2 h_l1 g2 y_l2 h_l2 hx_l2=>?_)
   unfold zm3 at h_l2
   refine g_st ?_
   refine za0 (za1 hG ?_)
   refine za0 ?_
   refine za3 rfl hG h_l2 (fun _ h_l2=>?_) (fun _ h_l2=>?_)
   · refine za4 ?_
     refine za0 (zb5 (za0 ?_))
     obtain ⟨hb2,h_l2⟩:=za2 h_l2
     refine za1 hG ?_
     refine za0 (za1 hG ?_)
     obtain ⟨v1,hv1,h_l2⟩:=za5 h_l2
     refine za7 (fun hg=>zau4 g2 ((a1.getD g1.2.1.toNat Amount.zero).mode) _ (zv7 hg hv1)) ?_
     refine za3 rfl hG h_l2 (fun _ h_l2=>?_) (fun _ h_l2=>?_)
     · refine za0 (za1 hG ?_)
       refine zc2 ?_
       obtain rfl:=Option.some.inj h_l2
       have hx:=hx_l2 _ rfl
       subst hx
       try dsimp only at h_l1
       obtain rfl:=Option.some.inj h_l1
       have hx:=hx_l1 _ rfl
       subst hx
       try dsimp only at h
       exact zc6 hK [] false (by exact h)
     refine za4 ?_
     refine za1 hG ?_
     exact zc7 hK [(0,0),(1,1),(2,2)] h_l2
   refine zc2 ?_
   obtain rfl:=Option.some.inj h_l2
   have hx:=hx_l2 _ rfl
   subst hx
   try dsimp only at h_l1
   exact zc6 hK [(0,0),(1,1),(2,2)] () (by exact h_l1)
 refine zc2 ?_
 obtain rfl:=Option.some.inj h_l1
 have hx:=hx_l1 _ rfl
 subst hx
 try dsimp only at h
 exact zc6 hK [] true (by exact h)
attribute [local irreducible] zf5
noncomputable def zC7 (a0:Resource) (j1:(List Amount)):Option (Bool) :=
 (zf5 a0 j1).bind fun v1 =>
 some v1
@[go_sem] def zeA6 (a0:Resource) (j1:(List Amount)):St:=⟨[(2,.ptr 0 0 0),(5,.own 1 0 j1.length)],[(0,⟨false,4,(Resource.enc Resource.zero),[Resource.enc a0]⟩),(1,⟨false,2,(Amount.enc Amount.zero),j1.map Amount.enc⟩)],2⟩
noncomputable def zy3 (a0:Resource) (a1:List Hold) (g1:Int×(List Amount)):Option ((Int×(List Amount))⊕(((List Amount))⊕(Bool))) :=
 (if (decide (g1.1 < (a1.length:Int)))=true then
  gd (0≤g1.1∧g1.1 < (a1.length:Int)) <|
  (if ((!(zb3 ((a1.getD g1.1.toNat Hold.zero).proc)))||(!(za9 a0 ((a1.getD g1.1.toNat Hold.zero).amount))))=true then
   some (.inr (.inr false))
  else
   gd ((decide (0 < g1.1))=true→0≤(IntKind.i64.wrap (g1.1 - 1))∧(IntKind.i64.wrap (g1.1 - 1)) < (a1.length:Int)) <|
   ((if (decide (0 < g1.1))=true then zd7 ((a1.getD ((IntKind.i64.wrap (g1.1 - 1)).toNat) Hold.zero).proc) ((a1.getD g1.1.toNat Hold.zero).proc) else some (0))).bind fun v2 =>
   (if ((decide (0 < g1.1))&&(decide (0≤v2)))=true then
    some (.inr (.inr false))
   else
    gd (g1.2.length+1≤4294967296) <|
    some (.inl ((IntKind.i64.wrap (g1.1+1)),(g1.2++[(a1.getD g1.1.toNat Hold.zero).amount])))))
 else
  some (.inr (.inl g1.2)))
@[go_sem] def zeA7 (a0:Resource) (a1:List Hold) (g1:Int×(List Amount)):St:=⟨[(1,.sl (a1.map Hold.enc)),(2,.ptr 0 0 0),(5,.own 1 0 g1.2.length),(16,.sl (a1.map Hold.enc)),(17,.int .i64 (a1.length:Int)),(18,.int .i64 g1.1)],[(0,⟨false,4,(Resource.enc Resource.zero),[Resource.enc a0]⟩),(1,⟨false,2,(Amount.enc Amount.zero),g1.2.map Amount.enc⟩)],2⟩
noncomputable def zg8 (a0:Resource) (a1:List Hold):Option (Bool) :=
 (if ((!(zb8 a0))||(decide (8 < (a1.length:Int))))=true then
  some false
 else
  (zb6 (zy3 a0 a1) (0,[])).bind (fun | .inl z=>zC7 a0 z | .inr z=>some z))
theorem zR3 (a0:Resource) (a1:List Hold) (r:Bool) (h:zg8 a0 a1=some r):PFn C 179 [.agg (Resource.enc a0),.sl (a1.map Hold.enc)] (.bool r):=by
 refine za6 ck_r rfl fun E hG hN hK=>?_
 unfold pc_r
 unfold zg8 at h
 refine za0 (za1 hG ?_)
 refine za0 (za0 (za1 hG ?_))
 refine za7 (fun hg=>zA8 a0) ?_
 refine za3 rfl hG h (fun _ h=>?_) (fun _ h=>?_)
 · refine za0 (za1 hG ?_)
   refine za8 ?_
   exact zb1 h
 refine za4 ?_
 refine za0 (za1 hG ?_)
 refine za0 (za0 (za1 hG ?_))
 refine zb4 (zeA6 a0) (fun v=>zC7 a0 v=some r) ?_ ?_
 · intro j1 h
   unfold zC7 at h
   refine g_st ?_
   refine za0 (za1 hG ?_)
   obtain ⟨v1,hv1,h⟩:=za5 h
   refine za7 (fun hg=>zal5 a0 j1 _ (hv1)) ?_
   refine za8 ?_
   exact zb1 h
 refine zd6 (zeA7 a0 a1) hK [(0,0),(1,1)] h (fun x_l1 h g1 y_l1 h_l1 hx_l1=>?_)
 unfold zy3 at h_l1
 refine g_st ?_
 refine za0 (za1 hG ?_)
 refine za0 ?_
 refine za3 rfl hG h_l1 (fun _ h_l1=>?_) (fun _ h_l1=>?_)
 · refine za4 ?_
   refine za0 (zb5 (za0 ?_))
   obtain ⟨hb3,h_l1⟩:=za2 h_l1
   refine za1 hG ?_
   refine za0 (za0 (za1 hG ?_))
   refine za7 (fun hg=>zC5 ((a1.getD g1.1.toNat Hold.zero).proc)) ?_
   refine za7 (fun hg=>zu4 a0 ((a1.getD g1.1.toNat Hold.zero).amount)) ?_
   refine za3 rfl hG h_l1 (fun _ h_l1=>?_) (fun _ h_l1=>?_)
   · refine za0 (za1 hG ?_)
     refine za8 ?_
     obtain rfl:=Option.some.inj h_l1
     have hx:=hx_l1 _ rfl
     subst hx
     try dsimp only at h
     exact zb1 h
   refine za4 ?_
   refine za0 (za0 ?_)
   obtain ⟨hb2,h_l1⟩:=za2 h_l1
   refine zo8 ze6 hG ?_
   obtain ⟨v2,hv2,h_l1⟩:=za5 h_l1
   refine zg4 (fun hg=>zG2 ((a1.getD ((IntKind.i64.wrap (g1.1 - 1)).toNat) Hold.zero).proc) ((a1.getD g1.1.toNat Hold.zero).proc) _ (zv7 hg hv2)) ?_
   refine za3 rfl hG h_l1 (fun _ h_l1=>?_) (fun _ h_l1=>?_)
   · refine za0 (za1 hG ?_)
     refine za8 ?_
     obtain rfl:=Option.some.inj h_l1
     have hx:=hx_l1 _ rfl
     subst hx
     try dsimp only at h
     exact zb1 h
   refine za4 ?_
   obtain ⟨hb1,h_l1⟩:=za2 h_l1
   refine za1 hG ?_
   refine za1 hG ?_
   exact zc7 hK [(0,0),(1,3)] h_l1
 refine zc2 ?_
 obtain rfl:=Option.some.inj h_l1
 have hx:=hx_l1 _ rfl
 subst hx
 try dsimp only at h
 exact zc6 hK [(0,0),(1,1)] g1.2 (by exact h)
attribute [local irreducible] zg8
noncomputable def zR4  (j1:Unit):Option (Amount) :=
 some ({ Amount.zero with  })
@[go_sem] def zeA8  (j1:Unit):St:=⟨[(4,.ptr 0 0 0)],[(0,⟨false,2,(Amount.enc Amount.zero),[Amount.enc Amount.zero]⟩)],1⟩
noncomputable def zt1 (a0:List Hold) (a1:Proc) (g1:Int):Option ((Int)⊕((Unit)⊕(Amount))) :=
 (if (decide (g1 < (a0.length:Int)))=true then
  gd (0≤g1∧g1 < (a0.length:Int)) <|
  (if (decide ((a0.getD g1.toNat Hold.zero).proc=a1))=true then
   some (.inr (.inr ((a0.getD g1.toNat Hold.zero).amount)))
  else
   some (.inl (IntKind.i64.wrap (g1+1))))
 else
  some (.inr (.inl ())))
@[go_sem] def zeA9 (a0:List Hold) (a1:Proc) (g1:Int):St:=⟨[(3,.ptr 0 0 0),(4,.ptr 1 0 0),(7,.sl (a0.map Hold.enc)),(8,.int .i64 (a0.length:Int)),(9,.int .i64 g1)],[(0,⟨false,3,(Proc.enc Proc.zero),[Proc.enc a1]⟩),(1,⟨false,2,(Amount.enc Amount.zero),[Amount.enc Amount.zero]⟩)],2⟩
noncomputable def zl3 (a0:List Hold) (a1:Proc):Option (Amount) :=
 (zb6 (zt1 a0 a1) 0).bind (fun | .inl z=>zR4 z | .inr z=>some z)
theorem zaP5 (a0:List Hold) (a1:Proc) (r:Amount) (h:zl3 a0 a1=some r):PFn C 110 [.sl (a0.map Hold.enc),.agg (Proc.enc a1)] (.agg (Amount.enc r)):=by
 refine za6 ck_s rfl fun E hG hN hK=>?_
 unfold pc_s
 unfold zl3 at h
 refine za0 (za1 hG ?_)
 refine za0 (za0 (za1 hG ?_))
 refine zb4 (zeA8) (fun v=>zR4 v=some r) ?_ ?_
 · intro j1 h
   unfold zR4 at h
   refine g_st ?_
   refine za0 (za1 hG ?_)
   refine za8 ?_
   exact zb1 h
 refine zd6 (zeA9 a0 a1) hK [(0,0),(1,1)] h (fun x_l1 h g1 y_l1 h_l1 hx_l1=>?_)
 unfold zt1 at h_l1
 refine g_st ?_
 refine za0 (za1 hG ?_)
 refine za0 ?_
 refine za3 rfl hG h_l1 (fun _ h_l1=>?_) (fun _ h_l1=>?_)
 · refine za4 ?_
   refine za0 (zb5 (za0 ?_))
   obtain ⟨hb1,h_l1⟩:=za2 h_l1
   refine za1 hG ?_
   refine za0 (za1 hG ?_)
   refine za3 rfl hG h_l1 (fun _ h_l1=>?_) (fun _ h_l1=>?_)
   · refine za0 (za1 hG ?_)
     refine za8 ?_
     obtain rfl:=Option.some.inj h_l1
     have hx:=hx_l1 _ rfl
     subst hx
     try dsimp only at h
     exact zb1 h
   refine za4 ?_
   refine za1 hG ?_
   exact zc7 hK [(0,0),(1,1)] h_l1
 refine zc2 ?_
 obtain rfl:=Option.some.inj h_l1
 have hx:=hx_l1 _ rfl
 subst hx
 try dsimp only at h
 exact zc6 hK [(0,1)] () (by exact h)
attribute [local irreducible] zl3
noncomputable def zh2 (a0:Queue) (a1:Proc):Option (Amount) :=
 (zl3 a0.holds a1).bind fun v1 =>
 some v1
theorem zK8 (a0:Queue) (a1:Proc) (r:Amount) (h:zh2 a0 a1=some r):PFn C 66 [.agg (Queue.enc a0),.agg (Proc.enc a1)] (.agg (Amount.enc r)):=by
 refine za6 ck_t rfl fun E hG hN hK=>?_
 unfold pc_t
 unfold zh2 at h
 refine za0 (za1 hG ?_)
 refine za0 (za1 hG ?_)
 obtain ⟨v1,hv1,h⟩:=za5 h
 refine za7 (fun hg=>zaP5 a0.holds a1 _ (hv1)) ?_
 refine za8 ?_
 exact zb1 h
attribute [local irreducible] zh2
noncomputable def zX5  (j1:Unit):Option (Int) :=
 some (-1)
@[go_sem] def zeB0  (j1:Unit):St:=⟨[],[],0⟩
noncomputable def zG3 (a0:List Wait) (a1:Proc) (g1:Int):Option ((Int)⊕((Unit)⊕(Int))) :=
 (if (decide (g1 < (a0.length:Int)))=true then
  gd (0≤g1∧g1 < (a0.length:Int)) <|
  (if (decide ((a0.getD g1.toNat Wait.zero).proc=a1))=true then
   some (.inr (.inr g1))
  else
   some (.inl (IntKind.i64.wrap (g1+1))))
 else
  some (.inr (.inl ())))
@[go_sem] def zeB1 (a0:List Wait) (a1:Proc) (g1:Int):St:=⟨[(3,.ptr 0 0 0),(7,.sl (a0.map Wait.enc)),(8,.int .i64 (a0.length:Int)),(9,.int .i64 g1)],[(0,⟨false,3,(Proc.enc Proc.zero),[Proc.enc a1]⟩)],1⟩
noncomputable def zk8 (a0:List Wait) (a1:Proc):Option (Int) :=
 (zb6 (zG3 a0 a1) 0).bind (fun | .inl z=>zX5 z | .inr z=>some z)
theorem zah4 (a0:List Wait) (a1:Proc) (r:Int) (h:zk8 a0 a1=some r):PFn C 123 [.sl (a0.map Wait.enc),.agg (Proc.enc a1)] (.int .i64 r):=by
 refine za6 ck_u rfl fun E hG hN hK=>?_
 unfold pc_u
 unfold zk8 at h
 refine za0 (za1 hG ?_)
 refine za0 (za0 (za1 hG ?_))
 refine zb4 (zeB0) (fun v=>zX5 v=some r) ?_ ?_
 · intro j1 h
   unfold zX5 at h
   refine g_st ?_
   refine za0 (za1 hG ?_)
   refine za8 ?_
   exact zb1 h
 refine zd6 (zeB1 a0 a1) hK [(0,0)] h (fun x_l1 h g1 y_l1 h_l1 hx_l1=>?_)
 unfold zG3 at h_l1
 refine g_st ?_
 refine za0 (za1 hG ?_)
 refine za0 ?_
 refine za3 rfl hG h_l1 (fun _ h_l1=>?_) (fun _ h_l1=>?_)
 · refine za4 ?_
   refine za0 (zb5 (za0 ?_))
   obtain ⟨hb1,h_l1⟩:=za2 h_l1
   refine za1 hG ?_
   refine za0 (za1 hG ?_)
   refine za3 rfl hG h_l1 (fun _ h_l1=>?_) (fun _ h_l1=>?_)
   · refine za0 (za1 hG ?_)
     refine za8 ?_
     obtain rfl:=Option.some.inj h_l1
     have hx:=hx_l1 _ rfl
     subst hx
     try dsimp only at h
     exact zb1 h
   refine za4 ?_
   refine za1 hG ?_
   exact zc7 hK [(0,0)] h_l1
 refine zc2 ?_
 obtain rfl:=Option.some.inj h_l1
 have hx:=hx_l1 _ rfl
 subst hx
 try dsimp only at h
 exact zc6 hK [] () (by exact h)
attribute [local irreducible] zk8
def zO0 (a0:Int):(Arr Bool 6) :=
 (if (decide (a0=5))=true then
  (Arr.put (Arr.put (Arr.put (Arr.put (Arr.put (Arr.rep 6 false) 5 true) 4 true) 3 true) 2 true) 1 true)
 else
  (if (decide (a0=4))=true then
   (Arr.put (Arr.put (Arr.put (Arr.put (Arr.rep 6 false) 4 true) 3 true) 2 true) 1 true)
  else
   (if (decide (a0=2))=true then
    (Arr.put (Arr.put (Arr.rep 6 false) 2 true) 1 true)
   else
    (if (decide (a0=1))=true then
     (Arr.put (Arr.rep 6 false) 1 true)
    else
     (if (decide (a0=3))=true then
      (Arr.put (Arr.put (Arr.rep 6 false) 3 true) 1 true)
     else
      (Arr.rep 6 false))))))
theorem zaH8 (a0:Int):PFn C 163 [.int .i64 a0] (.agg (Arr.enc eB (zO0 a0))):=by
 generalize h:zO0 a0=r
 refine za6 ck_v rfl fun E hG hN hK=>?_
 unfold pc_v
 unfold zO0 at h
 refine za0 (za1 hG ?_)
 refine za0 (za1 hG ?_)
 refine za0 (za0 (za1 hG ?_))
 refine zb5 (za0 (zb5 (za0 (zb5 (za0 (zb5 (za0 (zb5 (za0 (zb5 (za0 (za0 (za0 (za1 hG ?_))))))))))))))
 refine za3 rfl hG h (fun _ h=>?_) (fun _ h=>?_)
 · refine zc2 ?_
   refine za1 hG ?_
   refine za0 (za1 hG ?_)
   refine za1 hG ?_
   refine za1 hG ?_
   refine za0 (za1 hG ?_)
   refine zc2 ?_
   refine za0 (za1 hG ?_)
   refine za8 ?_
   exact ze9 h
 refine za4 ?_
 refine za0 (za0 (za1 hG ?_))
 refine za3 rfl hG h (fun _ h=>?_) (fun _ h=>?_)
 · refine zc2 ?_
   refine za0 (za1 hG ?_)
   refine za1 hG ?_
   refine za1 hG ?_
   refine za0 (za1 hG ?_)
   refine zc2 ?_
   refine za0 (za1 hG ?_)
   refine za8 ?_
   exact ze9 h
 refine za4 ?_
 refine za0 (za0 (za1 hG ?_))
 refine za3 rfl hG h (fun _ h=>?_) (fun _ h=>?_)
 · refine zc2 ?_
   refine za1 hG ?_
   refine za0 (za1 hG ?_)
   refine zc2 ?_
   refine za0 (za1 hG ?_)
   refine za8 ?_
   exact ze9 h
 refine za4 ?_
 refine za0 (za0 (za1 hG ?_))
 refine za3 rfl hG h (fun _ h=>?_) (fun _ h=>?_)
 · refine zc2 ?_
   refine za0 (za1 hG ?_)
   refine zc2 ?_
   refine za0 (za1 hG ?_)
   refine za8 ?_
   exact ze9 h
 refine za4 ?_
 refine za0 (za1 hG ?_)
 refine za3 rfl hG h (fun _ h=>?_) (fun _ h=>?_)
 · refine zc2 ?_
   refine za0 (za0 (za1 hG ?_))
   refine za1 hG ?_
   refine zc2 ?_
   refine za0 (za1 hG ?_)
   refine za8 ?_
   exact ze9 h
 refine za4 ?_
 refine zc2 ?_
 refine za0 (za1 hG ?_)
 refine za8 ?_
 exact ze9 h
noncomputable def zj6 (a0:Int) (a1:Int):Option (Bool) :=
 gd (((zf6 a0)&&(zf6 a1))=true→0≤a1∧a1 < 6) <|
 some (((zf6 a0)&&(zf6 a1))&&(Arr.get (zO0 a0) a1.toNat false))
theorem zX6 (a0:Int) (a1:Int) (r:Bool) (h:zj6 a0 a1=some r):PFn C 134 [.int .i64 a0,.int .i64 a1] (.bool r):=by
 refine za6 ck_w rfl fun E hG hN hK=>?_
 unfold pc_w
 unfold zj6 at h
 refine za0 (za1 hG ?_)
 refine za0 (za1 hG ?_)
 refine za7 (fun hg=>zK7 a0) ?_
 refine za7 (fun hg=>zK7 a1) ?_
 obtain ⟨hb1,h⟩:=za2 h
 refine za7 (fun hg=>zaH8 a0) ?_
 refine za8 ?_
 exact zb1 h
attribute [local irreducible] zj6
noncomputable def zg9 (a0:Resource) (a1:Amount) (a2:Amount):Option (Bool) :=
 (if ((!(zb0 a0 a1))||(!(zb0 a0 a2)))=true then
  some false
 else
  (if ((zb9 a1)||(zb9 a2))=true then
   some (zb9 a2)
  else
   (if (decide (a0.kind=1))=true then
    (zj6 a1.mode a2.mode).bind fun v1 =>
    some v1
   else
    some (decide (a2.units≤a1.units)))))
theorem zae3 (a0:Resource) (a1:Amount) (a2:Amount) (r:Bool) (h:zg9 a0 a1 a2=some r):PFn C 89 [.agg (Resource.enc a0),.agg (Amount.enc a1),.agg (Amount.enc a2)] (.bool r):=by
 refine za6 ck_x rfl fun E hG hN hK=>?_
 unfold pc_x
 unfold zg9 at h
 refine za0 (za1 hG ?_)
 refine za0 (za0 (za1 hG ?_))
 refine za7 (fun hg=>zw6 a0 a1) ?_
 refine za7 (fun hg=>zw6 a0 a2) ?_
 refine za3 rfl hG h (fun _ h=>?_) (fun _ h=>?_)
 · refine za0 (za1 hG ?_)
   refine za8 ?_
   exact zb1 h
 refine za4 ?_
 refine za0 (za0 (za1 hG ?_))
 refine za7 (fun hg=>zn5 a1) ?_
 refine za7 (fun hg=>zn5 a2) ?_
 refine za3 rfl hG h (fun _ h=>?_) (fun _ h=>?_)
 · refine za0 (za1 hG ?_)
   refine za7 (fun hg=>zn5 a2) ?_
   refine za8 ?_
   exact zb1 h
 refine za4 ?_
 refine za0 (za0 (za1 hG ?_))
 refine za3 rfl hG h (fun _ h=>?_) (fun _ h=>?_)
 · refine za0 (za1 hG ?_)
   obtain ⟨v1,hv1,h⟩:=za5 h
   refine za7 (fun hg=>zX6 a1.mode a2.mode _ (hv1)) ?_
   refine za8 ?_
   exact zb1 h
 refine za4 ?_
 refine za0 (za1 hG ?_)
 refine za8 ?_
 exact zb1 h
attribute [local irreducible] zg9
noncomputable def zA2  (j1:Unit):Option (Bool) :=
 some true
@[go_sem] def zeB2  (j1:Unit):St:=⟨[],[],0⟩
noncomputable def zj7 (a0:Queue) (g1:Int):Option ((Int)⊕((Unit)⊕(Bool))) :=
 (if (decide (g1 < (a0.converts.length:Int)))=true then
  gd (0≤g1∧g1 < (a0.converts.length:Int)) <|
  (zh2 a0 ((a0.converts.getD g1.toNat Wait.zero).proc)).bind fun v1 =>
  (zk8 a0.converts ((a0.converts.getD g1.toNat Wait.zero).proc)).bind fun v2 =>
  (if ((!decide (v2=g1))||(zb9 v1))=true then
   some (.inr (.inr false))
  else
   ((if (za9 a0.resource ((a0.converts.getD g1.toNat Wait.zero).amount))=true then zg9 a0.resource ((a0.converts.getD g1.toNat Wait.zero).amount) v1 else some (false))).bind fun v3 =>
   (if (((!(za9 a0.resource ((a0.converts.getD g1.toNat Wait.zero).amount)))||(!v3))||(decide ((a0.converts.getD g1.toNat Wait.zero).amount=v1)))=true then
    some (.inr (.inr false))
   else
    (if ((!decide ((a0.converts.getD g1.toNat Wait.zero).priority=0))||(!decide ((a0.converts.getD g1.toNat Wait.zero).passed=0)))=true then
     some (.inr (.inr false))
    else
     some (.inl (IntKind.i64.wrap (g1+1))))))
 else
  some (.inr (.inl ())))
@[go_sem] def zeB3 (a0:Queue) (g1:Int):St:=⟨[(1,.ptr 0 0 0),(11,.sl (a0.converts.map Wait.enc)),(12,.int .i64 (a0.converts.length:Int)),(13,.int .i64 g1)],[(0,⟨false,8,(Queue.enc Queue.zero),[Queue.enc a0]⟩)],1⟩
noncomputable def ze5 (a0:Queue):Option (Bool) :=
 (if (decide (8 < (a0.converts.length:Int)))=true then
  some false
 else
  (zb6 (zj7 a0) 0).bind (fun | .inl z=>zA2 z | .inr z=>some z))
theorem zah5 (a0:Queue) (r:Bool) (h:ze5 a0=some r):PFn C 180 [.agg (Queue.enc a0)] (.bool r):=by
 refine za6 ck_y rfl fun E hG hN hK=>?_
 unfold pc_y
 unfold ze5 at h
 refine za0 (za1 hG ?_)
 refine za0 (za0 (za1 hG ?_))
 refine za3 rfl hG h (fun _ h=>?_) (fun _ h=>?_)
 · refine za0 (za1 hG ?_)
   refine za8 ?_
   exact zb1 h
 refine za4 ?_
 refine za0 (za0 (za1 hG ?_))
 refine zb4 (zeB2) (fun v=>zA2 v=some r) ?_ ?_
 · intro j1 h
   unfold zA2 at h
   refine g_st ?_
   refine za0 (za1 hG ?_)
   refine za8 ?_
   exact zb1 h
 refine zd6 (zeB3 a0) hK [(0,0)] h (fun x_l1 h g1 y_l1 h_l1 hx_l1=>?_)
 unfold zj7 at h_l1
 refine g_st ?_
 refine za0 (za1 hG ?_)
 refine za0 ?_
 refine za3 rfl hG h_l1 (fun _ h_l1=>?_) (fun _ h_l1=>?_)
 · refine za4 ?_
   refine za0 (zb5 (za0 ?_))
   obtain ⟨hb1,h_l1⟩:=za2 h_l1
   refine za1 hG ?_
   refine za0 (za1 hG ?_)
   obtain ⟨v1,hv1,h_l1⟩:=za5 h_l1
   refine za7 (fun hg=>zK8 a0 ((a0.converts.getD g1.toNat Wait.zero).proc) _ (hv1)) ?_
   refine za0 (za0 (za1 hG ?_))
   obtain ⟨v2,hv2,h_l1⟩:=za5 h_l1
   refine za7 (fun hg=>zah4 a0.converts ((a0.converts.getD g1.toNat Wait.zero).proc) _ (hv2)) ?_
   refine za7 (fun hg=>zn5 v1) ?_
   refine za3 rfl hG h_l1 (fun _ h_l1=>?_) (fun _ h_l1=>?_)
   · refine za0 (za1 hG ?_)
     refine za8 ?_
     obtain rfl:=Option.some.inj h_l1
     have hx:=hx_l1 _ rfl
     subst hx
     try dsimp only at h
     exact zb1 h
   refine za4 ?_
   refine za0 (za0 (za1 hG ?_))
   refine za7 (fun hg=>zu4 a0.resource ((a0.converts.getD g1.toNat Wait.zero).amount)) ?_
   obtain ⟨v3,hv3,h_l1⟩:=za5 h_l1
   refine za7 (fun hg=>zae3 a0.resource ((a0.converts.getD g1.toNat Wait.zero).amount) v1 _ (zv7 hg hv3)) ?_
   refine za3 rfl hG h_l1 (fun _ h_l1=>?_) (fun _ h_l1=>?_)
   · refine za0 (za1 hG ?_)
     refine za8 ?_
     obtain rfl:=Option.some.inj h_l1
     have hx:=hx_l1 _ rfl
     subst hx
     try dsimp only at h
     exact zb1 h
   refine za4 ?_
   refine za0 (za1 hG ?_)
   refine za3 rfl hG h_l1 (fun _ h_l1=>?_) (fun _ h_l1=>?_)
   · refine za0 (za1 hG ?_)
     refine za8 ?_
     obtain rfl:=Option.some.inj h_l1
     have hx:=hx_l1 _ rfl
     subst hx
     try dsimp only at h
     exact zb1 h
   refine za4 ?_
   refine za1 hG ?_
   exact zc7 hK [(0,0)] h_l1
 refine zc2 ?_
 obtain rfl:=Option.some.inj h_l1
 have hx:=hx_l1 _ rfl
 subst hx
 try dsimp only at h
 exact zc6 hK [] () (by exact h)
attribute [local irreducible] ze5
def zc3 (a0:Wait):Bool :=
 ((((((zb3 a0.proc)&&((za9 ({ Resource.zero with kind:=1,units:=1 }) a0.amount)||(za9 ({ Resource.zero with kind:=2,units:=8 }) a0.amount)))&&(decide (0≤a0.priority)))&&(decide (a0.priority≤7)))&&(decide (0≤a0.passed)))&&(decide (a0.passed≤3)))
theorem zab2 (a0:Wait):PFn C 139 [.agg (Wait.enc a0)] (.bool (zc3 a0)):=by
 generalize h:zc3 a0=r
 refine za6 ck_z rfl fun E hG hN hK=>?_
 unfold pc_z
 unfold zc3 at h
 refine za0 (za1 hG ?_)
 refine za0 (za1 hG ?_)
 refine za0 (za1 hG ?_)
 refine za0 (za1 hG ?_)
 refine za7 (fun hg=>zC5 a0.proc) ?_
 refine za7 (fun hg=>zu4 ({ Resource.zero with kind:=1,units:=1 }) a0.amount) ?_
 refine za7 (fun hg=>zu4 ({ Resource.zero with kind:=2,units:=8 }) a0.amount) ?_
 refine za8 ?_
 exact ze9 h
noncomputable def zU9  (j1:Unit):Option (Bool) :=
 some true
@[go_sem] def zdD2  (j1:Unit):St:=⟨[],[],0⟩
noncomputable def zw2 (a0:List Wait) (g1:Int):Option ((Int)⊕((Unit)⊕(Bool))) :=
 (if (decide (g1 < (a0.length:Int)))=true then
  gd (0≤g1∧g1 < (a0.length:Int)) <|
  ((if (zc3 (a0.getD g1.toNat Wait.zero))=true then zk8 a0 ((a0.getD g1.toNat Wait.zero).proc) else some (0))).bind fun v1 =>
  (if ((!(zc3 (a0.getD g1.toNat Wait.zero)))||(!decide (v1=g1)))=true then
   some (.inr (.inr false))
  else
   some (.inl (IntKind.i64.wrap (g1+1))))
 else
  some (.inr (.inl ())))
@[go_sem] def zdD3 (a0:List Wait) (g1:Int):St:=⟨[(0,.sl (a0.map Wait.enc)),(8,.sl (a0.map Wait.enc)),(9,.int .i64 (a0.length:Int)),(10,.int .i64 g1)],[],0⟩
noncomputable def zm4 (a0:List Wait):Option (Bool) :=
 (if (decide (8 < (a0.length:Int)))=true then
  some false
 else
  (zb6 (zw2 a0) 0).bind (fun | .inl z=>zU9 z | .inr z=>some z))
theorem zar7 (a0:List Wait) (r:Bool) (h:zm4 a0=some r):PFn C 138 [.sl (a0.map Wait.enc)] (.bool r):=by
 refine za6 zdR0 rfl fun E hG hN hK=>?_
 unfold zbY6
 unfold zm4 at h
 refine za0 (za1 hG ?_)
 refine za0 (za0 (za1 hG ?_))
 refine za3 rfl hG h (fun _ h=>?_) (fun _ h=>?_)
 · refine za0 (za1 hG ?_)
   refine za8 ?_
   exact zb1 h
 refine za4 ?_
 refine za0 (za0 (za1 hG ?_))
 refine zb4 (zdD2) (fun v=>zU9 v=some r) ?_ ?_
 · intro j1 h
   unfold zU9 at h
   refine g_st ?_
   refine za0 (za1 hG ?_)
   refine za8 ?_
   exact zb1 h
 refine zd6 (zdD3 a0) hK [] h (fun x_l1 h g1 y_l1 h_l1 hx_l1=>?_)
 unfold zw2 at h_l1
 refine g_st ?_
 refine za0 (za1 hG ?_)
 refine za0 ?_
 refine za3 rfl hG h_l1 (fun _ h_l1=>?_) (fun _ h_l1=>?_)
 · refine za4 ?_
   refine za0 (zb5 (za0 ?_))
   obtain ⟨hb1,h_l1⟩:=za2 h_l1
   refine za1 hG ?_
   refine za0 (za1 hG ?_)
   refine za7 (fun hg=>zab2 (a0.getD g1.toNat Wait.zero)) ?_
   obtain ⟨v1,hv1,h_l1⟩:=za5 h_l1
   refine za7 (fun hg=>zah4 a0 ((a0.getD g1.toNat Wait.zero).proc) _ (zv7 hg hv1)) ?_
   refine za3 rfl hG h_l1 (fun _ h_l1=>?_) (fun _ h_l1=>?_)
   · refine za0 (za1 hG ?_)
     refine za8 ?_
     obtain rfl:=Option.some.inj h_l1
     have hx:=hx_l1 _ rfl
     subst hx
     try dsimp only at h
     exact zb1 h
   refine za4 ?_
   refine za1 hG ?_
   exact zc7 hK [] h_l1
 refine zc2 ?_
 obtain rfl:=Option.some.inj h_l1
 have hx:=hx_l1 _ rfl
 subst hx
 try dsimp only at h
 exact zc6 hK [] () (by exact h)
attribute [local irreducible] zm4
noncomputable def zE4  (j1:Unit):Option (Bool) :=
 some true
@[go_sem] def zdD4  (j1:Unit):St:=⟨[],[],0⟩
noncomputable def zk0 (a0:Queue) (g1:Int):Option ((Int)⊕((Unit)⊕(Bool))) :=
 (if (decide (g1 < (a0.waits.length:Int)))=true then
  gd (0≤g1∧g1 < (a0.waits.length:Int)) <|
  ((if (za9 a0.resource ((a0.waits.getD g1.toNat Wait.zero).amount))=true then zh2 a0 ((a0.waits.getD g1.toNat Wait.zero).proc) else some (Amount.zero))).bind fun v2 =>
  (if ((!(za9 a0.resource ((a0.waits.getD g1.toNat Wait.zero).amount)))||(!(zb9 v2)))=true then
   some (.inr (.inr false))
  else
   some (.inl (IntKind.i64.wrap (g1+1))))
 else
  some (.inr (.inl ())))
@[go_sem] def zdD5 (a0:Queue) (g1:Int):St:=⟨[(1,.ptr 0 0 0),(20,.sl (a0.waits.map Wait.enc)),(21,.int .i64 (a0.waits.length:Int)),(22,.int .i64 g1)],[(0,⟨false,8,(Queue.enc Queue.zero),[Queue.enc a0]⟩)],1⟩
noncomputable def zg1 (a0:Queue):Option (Bool) :=
 (zm4 a0.waits).bind fun v1 =>
 (if ((!v1)||(decide (8 < (IntKind.i64.wrap ((a0.holds.length:Int)+(a0.waits.length:Int))))))=true then
  some false
 else
  (zb6 (zk0 a0) 0).bind (fun | .inl z=>zE4 z | .inr z=>some z))
theorem zap9 (a0:Queue) (r:Bool) (h:zg1 a0=some r):PFn C 181 [.agg (Queue.enc a0)] (.bool r):=by
 refine za6 zdR1 rfl fun E hG hN hK=>?_
 unfold zbZ7
 unfold zg1 at h
 refine za0 (za1 hG ?_)
 refine za0 (za0 (za1 hG ?_))
 obtain ⟨v1,hv1,h⟩:=za5 h
 refine za7 (fun hg=>zar7 a0.waits _ (hv1)) ?_
 refine za3 rfl hG h (fun _ h=>?_) (fun _ h=>?_)
 · refine za0 (za1 hG ?_)
   refine za8 ?_
   exact zb1 h
 refine za4 ?_
 refine za0 (za0 (za1 hG ?_))
 refine zb4 (zdD4) (fun v=>zE4 v=some r) ?_ ?_
 · intro j1 h
   unfold zE4 at h
   refine g_st ?_
   refine za0 (za1 hG ?_)
   refine za8 ?_
   exact zb1 h
 refine zd6 (zdD5 a0) hK [(0,0)] h (fun x_l1 h g1 y_l1 h_l1 hx_l1=>?_)
 unfold zk0 at h_l1
 refine g_st ?_
 refine za0 (za1 hG ?_)
 refine za0 ?_
 refine za3 rfl hG h_l1 (fun _ h_l1=>?_) (fun _ h_l1=>?_)
 · refine za4 ?_
   refine za0 (zb5 (za0 ?_))
   obtain ⟨hb1,h_l1⟩:=za2 h_l1
   refine za1 hG ?_
   refine za0 (za1 hG ?_)
   refine za7 (fun hg=>zu4 a0.resource ((a0.waits.getD g1.toNat Wait.zero).amount)) ?_
   obtain ⟨v2,hv2,h_l1⟩:=za5 h_l1
   refine za7 (fun hg=>zK8 a0 ((a0.waits.getD g1.toNat Wait.zero).proc) _ (zv7 hg hv2)) ?_
   refine za7 (fun hg=>zn5 v2) ?_
   refine za3 rfl hG h_l1 (fun _ h_l1=>?_) (fun _ h_l1=>?_)
   · refine za0 (za1 hG ?_)
     refine za8 ?_
     obtain rfl:=Option.some.inj h_l1
     have hx:=hx_l1 _ rfl
     subst hx
     try dsimp only at h
     exact zb1 h
   refine za4 ?_
   refine za1 hG ?_
   exact zc7 hK [(0,0)] h_l1
 refine zc2 ?_
 obtain rfl:=Option.some.inj h_l1
 have hx:=hx_l1 _ rfl
 subst hx
 try dsimp only at h
 exact zc6 hK [] () (by exact h)
attribute [local irreducible] zg1
noncomputable def zn6 (a0:Queue):Option (Bool) :=
 (zd3 a0.resource).bind fun v1 =>
 ((if v1=true then zg8 a0.resource a0.holds else some (false))).bind fun v2 =>
 ((if (v1&&v2)=true then ze5 a0 else some (false))).bind fun v3 =>
 ((if ((v1&&v2)&&v3)=true then zg1 a0 else some (false))).bind fun v4 =>
 some (((((v1&&v2)&&v3)&&v4)&&(decide (0≤a0.gen)))&&(decide (a0.gen≤1073741824)))
theorem zaP6 (a0:Queue) (r:Bool) (h:zn6 a0=some r):PFn C 160 [.agg (Queue.enc a0)] (.bool r):=by
 refine za6 zdR2 rfl fun E hG hN hK=>?_
 unfold zca0
 unfold zn6 at h
 refine za0 (za1 hG ?_)
 refine za0 (za1 hG ?_)
 obtain ⟨v1,hv1,h⟩:=za5 h
 refine za7 (fun hg=>zA0 a0.resource _ (hv1)) ?_
 obtain ⟨v2,hv2,h⟩:=za5 h
 refine za7 (fun hg=>zR3 a0.resource a0.holds _ (zv7 hg hv2)) ?_
 obtain ⟨v3,hv3,h⟩:=za5 h
 refine za7 (fun hg=>zah5 a0 _ (zv7 hg hv3)) ?_
 obtain ⟨v4,hv4,h⟩:=za5 h
 refine za7 (fun hg=>zap9 a0 _ (zv7 hg hv4)) ?_
 refine za8 ?_
 exact zb1 h
attribute [local irreducible] zn6
noncomputable def zo4 (a0:Queue):Option (Wait×Bool) :=
 (if (decide (0 < (a0.converts.length:Int)))=true then
  gd (0≤0∧0 < (a0.converts.length:Int)) <|
  some ((a0.converts.getD 0 Wait.zero),true)
 else
  (if (decide (0 < (a0.waits.length:Int)))=true then
   gd (0≤0∧0 < (a0.waits.length:Int)) <|
   some ((a0.waits.getD 0 Wait.zero),true)
  else
   some ({ Wait.zero with  },false)))
theorem zar8 (a0:Queue) (r:Wait×Bool) (h:zo4 a0=some r):PFn C 161 [.agg (Queue.enc a0)] (.tup [.agg (Wait.enc r.1),.bool r.2]):=by
 refine za6 zdR3 rfl fun E hG hN hK=>?_
 unfold zca7
 unfold zo4 at h
 refine za0 (za1 hG ?_)
 refine za0 (zb5 (za0 (za1 hG ?_)))
 refine za3 rfl hG h (fun _ h=>?_) (fun _ h=>?_)
 · refine za0 ?_
   obtain ⟨hb1,h⟩:=za2 h
   refine za1 hG ?_
   refine za8 ?_
   exact zb1 h
 refine za0 (za1 hG ?_)
 refine za3 rfl hG h (fun _ h=>?_) (fun _ h=>?_)
 · refine za0 ?_
   obtain ⟨hb2,h⟩:=za2 h
   refine za1 hG ?_
   refine za8 ?_
   exact zb1 h
 refine za4 ?_
 refine za0 (za1 hG ?_)
 refine za8 ?_
 exact zb1 h
attribute [local irreducible] zo4
noncomputable def zi2 (a0:Resource) (a1:List Hold) (a2:Proc) (a3:Amount):Option (Bool) :=
 (zg8 a0 a1).bind fun v1 =>
 some ((v1&&(zb3 a2))&&(za9 a0 a3))
theorem zax8 (a0:Resource) (a1:List Hold) (a2:Proc) (a3:Amount) (r:Bool) (h:zi2 a0 a1 a2 a3=some r):PFn C 182 [.agg (Resource.enc a0),.sl (a1.map Hold.enc),.agg (Proc.enc a2),.agg (Amount.enc a3)] (.bool r):=by
 refine za6 zdR4 rfl fun E hG hN hK=>?_
 unfold zcb0
 unfold zi2 at h
 refine za0 (za1 hG ?_)
 refine za0 (za1 hG ?_)
 obtain ⟨v1,hv1,h⟩:=za5 h
 refine za7 (fun hg=>zR3 a0 a1 _ (hv1)) ?_
 refine za7 (fun hg=>zC5 a2) ?_
 refine za7 (fun hg=>zu4 a0 a3) ?_
 refine za8 ?_
 exact zb1 h
attribute [local irreducible] zi2
noncomputable def zH8 (a1:Proc) (a2:Amount) (j1:Int×(List Hold)):Option ((List Hold)) :=
 (if (zb9 a2)=true then
  some j1.2
 else
  (if (decide (j1.1 < 0))=true then
   gd (j1.2.length+1≤4294967296) <|
   gd (0≤(IntKind.i64.wrap (((j1.2.length:Nat):Int)+1))∧(IntKind.i64.wrap (((j1.2.length:Nat):Int)+1))≤((j1.2.length+1:Nat):Int)∧((j1.2.length+1:Nat):Int)≤((j1.2.length+1:Nat):Int)) <|
   gd (0≤((j1.2.length:Nat):Int)∧((j1.2.length:Nat):Int)≤((j1.2.length+1:Nat):Int)∧((j1.2.length+1:Nat):Int)≤((j1.2.length+1:Nat):Int)) <|
   gd (0≤((j1.2.length:Nat):Int)∧((j1.2.length:Nat):Int) < ((j1.2.length+1:Nat):Int)) <|
   some (((j1.2++[{ Hold.zero with  }]).take (IntKind.i64.wrap (((j1.2.length:Nat):Int)+1)).toNat++(((j1.2++[{ Hold.zero with  }]).drop (((j1.2.length:Nat):Int).toNat)).take (j1.2.length+1 - ((j1.2.length:Nat):Int).toNat)).take (j1.2.length+1 - (IntKind.i64.wrap (((j1.2.length:Nat):Int)+1)).toNat)++(j1.2++[{ Hold.zero with  }]).drop ((IntKind.i64.wrap (((j1.2.length:Nat):Int)+1)).toNat+min (((j1.2++[{ Hold.zero with  }]).drop (((j1.2.length:Nat):Int).toNat)).take (j1.2.length+1 - ((j1.2.length:Nat):Int).toNat)).length (j1.2.length+1 - (IntKind.i64.wrap (((j1.2.length:Nat):Int)+1)).toNat))).set (((j1.2.length:Nat):Int).toNat) (⟨a1,a2⟩:Hold))
  else
   gd (j1.2.length+1≤4294967296) <|
   gd (0≤(IntKind.i64.wrap (j1.1+1))∧(IntKind.i64.wrap (j1.1+1))≤((j1.2.length+1:Nat):Int)∧((j1.2.length+1:Nat):Int)≤((j1.2.length+1:Nat):Int)) <|
   gd (0≤j1.1∧j1.1≤((j1.2.length+1:Nat):Int)∧((j1.2.length+1:Nat):Int)≤((j1.2.length+1:Nat):Int)) <|
   gd (0≤j1.1∧j1.1 < ((j1.2.length+1:Nat):Int)) <|
   some (((j1.2++[{ Hold.zero with  }]).take (IntKind.i64.wrap (j1.1+1)).toNat++(((j1.2++[{ Hold.zero with  }]).drop j1.1.toNat).take (j1.2.length+1 - j1.1.toNat)).take (j1.2.length+1 - (IntKind.i64.wrap (j1.1+1)).toNat)++(j1.2++[{ Hold.zero with  }]).drop ((IntKind.i64.wrap (j1.1+1)).toNat+min (((j1.2++[{ Hold.zero with  }]).drop j1.1.toNat).take (j1.2.length+1 - j1.1.toNat)).length (j1.2.length+1 - (IntKind.i64.wrap (j1.1+1)).toNat))).set j1.1.toNat (⟨a1,a2⟩:Hold))))
@[go_sem] def zdD6 (a1:Proc) (a2:Amount) (j1:Int×(List Hold)):St:=⟨[(4,.ptr 0 0 0),(5,.ptr 1 0 0),(7,.own 2 0 j1.2.length),(8,.int .i64 j1.1)],[(0,⟨false,3,(Proc.enc Proc.zero),[Proc.enc a1]⟩),(1,⟨false,2,(Amount.enc Amount.zero),[Amount.enc a2]⟩),(2,⟨false,5,(Hold.enc Hold.zero),j1.2.map Hold.enc⟩)],3⟩
noncomputable def zx8 (a0:List Hold) (a1:Proc) (g1:Int×Int×(List Hold)):Option ((Int×Int×(List Hold))⊕((Int×(List Hold)))) :=
 (if (decide (g1.2.1 < (a0.length:Int)))=true then
  gd (0≤g1.2.1∧g1.2.1 < (a0.length:Int)) <|
  (if (decide ((a0.getD g1.2.1.toNat Hold.zero).proc=a1))=true then
   some (.inl (g1.1,(IntKind.i64.wrap (g1.2.1+1)),g1.2.2))
  else
   ((if (decide (g1.1 < 0))=true then zd7 ((a0.getD g1.2.1.toNat Hold.zero).proc) a1 else some (0))).bind fun v1 =>
   (if ((decide (g1.1 < 0))&&(decide (0 < v1)))=true then
    gd (g1.2.2.length+1≤4294967296) <|
    some (.inl (((g1.2.2.length:Nat):Int),(IntKind.i64.wrap (g1.2.1+1)),(g1.2.2++[(a0.getD g1.2.1.toNat Hold.zero)])))
   else
    gd (g1.2.2.length+1≤4294967296) <|
    some (.inl (g1.1,(IntKind.i64.wrap (g1.2.1+1)),(g1.2.2++[(a0.getD g1.2.1.toNat Hold.zero)])))))
 else
  some (.inr (g1.1,g1.2.2)))
@[go_sem] def zdD7 (a0:List Hold) (a1:Proc) (a2:Amount) (g1:Int×Int×(List Hold)):St:=⟨[(4,.ptr 0 0 0),(5,.ptr 1 0 0),(7,.own 2 0 g1.2.2.length),(8,.int .i64 g1.1),(15,.sl (a0.map Hold.enc)),(16,.int .i64 (a0.length:Int)),(17,.int .i64 g1.2.1)],[(0,⟨false,3,(Proc.enc Proc.zero),[Proc.enc a1]⟩),(1,⟨false,2,(Amount.enc Amount.zero),[Amount.enc a2]⟩),(2,⟨false,5,(Hold.enc Hold.zero),g1.2.2.map Hold.enc⟩)],3⟩
noncomputable def zi4 (a0:List Hold) (a1:Proc) (a2:Amount):Option ((List Hold)) :=
 gd (0≤0∧0≤(IntKind.i64.wrap ((a0.length:Int)+1))∧(IntKind.i64.wrap ((a0.length:Int)+1))≤4294967296) <|
 (zb6 (zx8 a0 a1) ((-1),0,(List.replicate 0 Hold.zero))).bind (fun z=>zH8 a1 a2 z)
theorem zX7 (a0:List Hold) (a1:Proc) (a2:Amount) (r:(List Hold)) (h:zi4 a0 a1 a2=some r):PFn C 106 [.sl (a0.map Hold.enc),.agg (Proc.enc a1),.agg (Amount.enc a2)] (.sl (r.map Hold.enc)):=by
 refine za6 zdR5 rfl fun E hG hN hK=>?_
 unfold zcc1
 unfold zi4 at h
 refine za0 (za1 hG ?_)
 refine za0 ?_
 obtain ⟨hb12,h⟩:=za2 h
 refine za1 hG ?_
 refine za0 (za1 hG ?_)
 refine za0 (za0 (za1 hG ?_))
 refine zb4 (zdD6 a1 a2) (fun v=>zH8 a1 a2 v=some r) ?_ ?_
 · intro j1 h
   unfold zH8 at h
   refine g_st ?_
   refine za0 (za0 (za1 hG ?_))
   refine za7 (fun hg=>zn5 a2) ?_
   refine za3 rfl hG h (fun _ h=>?_) (fun _ h=>?_)
   · refine za0 (za1 hG ?_)
     refine za8 ?_
     exact zb1 h
   refine za4 ?_
   refine za0 (za0 (za1 hG ?_))
   refine za3 rfl hG h (fun _ h=>?_) (fun _ h=>?_)
   · refine za1 hG ?_
     refine za0 ?_
     obtain ⟨hb4,h⟩:=za2 h
     refine za1 hG ?_
     refine za0 ?_
     obtain ⟨hb2,h⟩:=za2 h
     obtain ⟨hb3,h⟩:=za2 h
     refine zX3 ze6 hG ?_
     refine za0 ?_
     obtain ⟨hb1,h⟩:=za2 h
     refine za1 hG ?_
     refine za0 (za1 hG ?_)
     refine za8 ?_
     exact zb1 h
   refine za4 ?_
   refine za0 ?_
   obtain ⟨hb8,h⟩:=za2 h
   refine za1 hG ?_
   refine za0 ?_
   obtain ⟨hb6,h⟩:=za2 h
   obtain ⟨hb7,h⟩:=za2 h
   refine zX3 ze6 hG ?_
   refine za0 ?_
   obtain ⟨hb5,h⟩:=za2 h
   refine za1 hG ?_
   refine za0 (za1 hG ?_)
   refine za8 ?_
   exact zb1 h
 refine zd6 (zdD7 a0 a1 a2) hK [(0,0),(1,1),(2,2)] h (fun x_l1 h g1 y_l1 h_l1 hx_l1=>?_)
 unfold zx8 at h_l1
 refine g_st ?_
 refine za0 (za1 hG ?_)
 refine za0 ?_
 refine za3 rfl hG h_l1 (fun _ h_l1=>?_) (fun _ h_l1=>?_)
 · refine za4 ?_
   refine za0 (zb5 (za0 ?_))
   obtain ⟨hb11,h_l1⟩:=za2 h_l1
   refine za1 hG ?_
   refine za0 (za0 (za1 hG ?_))
   refine za3 rfl hG h_l1 (fun _ h_l1=>?_) (fun _ h_l1=>?_)
   · refine zc2 ?_
     refine za1 hG ?_
     exact zc7 hK [(0,0),(1,1),(2,2)] h_l1
   refine za4 ?_
   refine za0 (za0 (za1 hG ?_))
   obtain ⟨v1,hv1,h_l1⟩:=za5 h_l1
   refine za7 (fun hg=>zG2 ((a0.getD g1.2.1.toNat Hold.zero).proc) a1 _ (zv7 hg hv1)) ?_
   refine za3 rfl hG h_l1 (fun _ h_l1=>?_) (fun _ h_l1=>?_)
   · refine za1 hG ?_
     obtain ⟨hb9,h_l1⟩:=za2 h_l1
     refine za1 hG ?_
     refine za1 hG ?_
     exact zc7 hK [(0,0),(1,1),(2,4)] h_l1
   refine za4 ?_
   obtain ⟨hb10,h_l1⟩:=za2 h_l1
   refine za1 hG ?_
   refine za1 hG ?_
   exact zc7 hK [(0,0),(1,1),(2,4)] h_l1
 refine zc2 ?_
 obtain rfl:=Option.some.inj h_l1
 have hx:=hx_l1 _ rfl
 subst hx
 try dsimp only at h
 exact zc6 hK [(0,0),(1,1),(2,2)] (g1.1,g1.2.2) (by exact h)
attribute [local irreducible] zi4
noncomputable def zj2 (a0:Resource) (a1:List Hold) (a2:Proc) (a3:Amount):Option (Bool) :=
 (zi2 a0 a1 a2 a3).bind fun v1 =>
 ((if v1=true then zi4 a1 a2 a3 else some ([]))).bind fun v2 =>
 ((if v1=true then zg8 a0 v2 else some (false))).bind fun v3 =>
 some (v1&&v3)
theorem zaj1 (a0:Resource) (a1:List Hold) (a2:Proc) (a3:Amount) (r:Bool) (h:zj2 a0 a1 a2 a3=some r):PFn C 162 [.agg (Resource.enc a0),.sl (a1.map Hold.enc),.agg (Proc.enc a2),.agg (Amount.enc a3)] (.bool r):=by
 refine za6 zdR6 rfl fun E hG hN hK=>?_
 unfold zcc4
 unfold zj2 at h
 refine za0 (za1 hG ?_)
 refine za0 (zo8 ze6 hG ?_)
 obtain ⟨v1,hv1,h⟩:=za5 h
 refine zg4 (fun hg=>zax8 a0 a1 a2 a3 _ (hv1)) ?_
 obtain ⟨v2,hv2,h⟩:=za5 h
 refine zg4 (fun hg=>zX7 a1 a2 a3 _ (zv7 hg hv2)) ?_
 obtain ⟨v3,hv3,h⟩:=za5 h
 refine zg4 (fun hg=>zR3 a0 v2 _ (zv7 hg hv3)) ?_
 refine za8 ?_
 exact zb1 h
attribute [local irreducible] zj2
noncomputable def zj3 (a0:Queue):Option (Bool) :=
 (zn6 a0).bind fun v1 =>
 (if (!v1)=true then
  some false
 else
  (zo4 a0).bind fun v2 =>
  ((if v2.2=true then zj2 a0.resource a0.holds v2.1.proc v2.1.amount else some (false))).bind fun v3 =>
  some ((!v2.2)||(!v3)))
theorem zaC2 (a0:Queue) (r:Bool) (h:zj3 a0=some r):PFn C 129 [.agg (Queue.enc a0)] (.bool r):=by
 refine za6 zdR7 rfl fun E hG hN hK=>?_
 unfold zcd0
 unfold zj3 at h
 refine za0 (za1 hG ?_)
 refine za0 (za0 (za1 hG ?_))
 obtain ⟨v1,hv1,h⟩:=za5 h
 refine za7 (fun hg=>zaP6 a0 _ (hv1)) ?_
 refine za3 rfl hG h (fun _ h=>?_) (fun _ h=>?_)
 · refine za0 (za1 hG ?_)
   refine za8 ?_
   exact zb1 h
 refine za4 ?_
 refine za0 (za1 hG ?_)
 obtain ⟨v2,hv2,h⟩:=za5 h
 refine za7 (fun hg=>zar8 a0 _ (hv2)) ?_
 refine za0 (za1 hG ?_)
 obtain ⟨v3,hv3,h⟩:=za5 h
 refine za7 (fun hg=>zaj1 a0.resource a0.holds v2.1.proc v2.1.amount _ (zv7 hg hv3)) ?_
 refine za8 ?_
 exact zb1 h
attribute [local irreducible] zj3
noncomputable def zh5 (a0:Queue):Option (Bool) :=
 (zj3 a0).bind fun v1 =>
 some v1
theorem zX8 (a0:Queue) (r:Bool) (h:zh5 a0=some r):PFn C 84 [.agg (Queue.enc a0)] (.bool r):=by
 refine za6 zdR8 rfl fun E hG hN hK=>?_
 unfold zcd3
 unfold zh5 at h
 refine za0 (za1 hG ?_)
 refine za0 (za1 hG ?_)
 obtain ⟨v1,hv1,h⟩:=za5 h
 refine za7 (fun hg=>zaC2 a0 _ (hv1)) ?_
 refine za8 ?_
 exact zb1 h
attribute [local irreducible] zh5
noncomputable def zG4  (j1:(List Proc)):Option ((List Proc)) :=
 some j1
@[go_sem] def zdD8  (j1:(List Proc)):St:=⟨[(3,.own 0 0 j1.length)],[(0,⟨false,3,(Proc.enc Proc.zero),j1.map Proc.enc⟩)],1⟩
noncomputable def zT9 (a0:List Hold) (g1:Int×(List Proc)):Option ((Int×(List Proc))⊕(((List Proc)))) :=
 (if (decide (g1.1 < (a0.length:Int)))=true then
  gd (0≤g1.1∧g1.1 < (a0.length:Int)) <|
  gd (g1.2.length+1≤4294967296) <|
  some (.inl ((IntKind.i64.wrap (g1.1+1)),(g1.2++[(a0.getD g1.1.toNat Hold.zero).proc])))
 else
  some (.inr g1.2))
@[go_sem] def zdD9 (a0:List Hold) (g1:Int×(List Proc)):St:=⟨[(3,.own 0 0 g1.2.length),(6,.sl (a0.map Hold.enc)),(7,.int .i64 (a0.length:Int)),(8,.int .i64 g1.1)],[(0,⟨false,3,(Proc.enc Proc.zero),g1.2.map Proc.enc⟩)],1⟩
noncomputable def zh3 (a0:List Hold):Option ((List Proc)) :=
 (zb6 (zT9 a0) (0,[])).bind (fun z=>zG4 z)
theorem zaq0 (a0:List Hold) (r:(List Proc)) (h:zh3 a0=some r):MFn C 116 [.sl (a0.map Hold.enc)] [] 0 (.own 0 0 r.length) [(0,⟨false,3,(Proc.enc Proc.zero),r.map Proc.enc⟩)] 1:=by
 refine zs0 (rl:=[.own 0 0 r.length]) zdR9 rfl rfl rfl rfl fun E hG hN hK=>?_
 unfold zce2
 unfold zh3 at h
 refine za0 (za1 hG ?_)
 refine za0 (za1 hG ?_)
 refine za0 (za0 (za1 hG ?_))
 refine zb4 (zdD8) (fun v=>zG4 v=some r) ?_ ?_
 · intro j1 h
   unfold zG4 at h
   refine g_st ?_
   refine za0 (za1 hG ?_)
   refine za8 ?_
   exact zC2 [(0,0)] h
 refine zd6 (zdD9 a0) hK [(0,1)] h (fun x_l1 h g1 y_l1 h_l1 hx_l1=>?_)
 unfold zT9 at h_l1
 refine g_st ?_
 refine za0 (za1 hG ?_)
 refine za0 ?_
 refine za3 rfl hG h_l1 (fun _ h_l1=>?_) (fun _ h_l1=>?_)
 · refine za4 ?_
   refine za0 (zb5 (za0 ?_))
   obtain ⟨hb2,h_l1⟩:=za2 h_l1
   refine za1 hG ?_
   obtain ⟨hb1,h_l1⟩:=za2 h_l1
   refine za1 hG ?_
   refine za1 hG ?_
   exact zc7 hK [(0,2)] h_l1
 refine zc2 ?_
 obtain rfl:=Option.some.inj h_l1
 have hx:=hx_l1 _ rfl
 subst hx
 try dsimp only at h
 exact zc6 hK [(0,0)] g1.2 (by exact h)
attribute [local irreducible] zh3
def zc8 (a0:Int):Option (List Wait):=gd (0≤a0∧a0≤4294967296) (some [])
theorem zL8:Lays8.n4 C.P ⟨fun | 4=>168 | n=>n,fun | 22=>49 | 25=>119 | n=>n,fun n=>n⟩ where
 mixed:=ze6
 f4:=⟨ "slices.Grow[[]clusterlocks/api.Wait,clusterlocks/api.Wait]",by decide,Tryz.func168.trans (congrArg some (by kernel_rfl))⟩
 t0:=Tryz.underlying0
 a0:=Tryz.isAgg0
 z0:=Tryz.sizeOf0
 v0:=Tryz.zeroValue0
 t3:=Tryz.underlying3
 a3:=Tryz.isAgg3
 z3:=Tryz.sizeOf3
 v3:=Tryz.zeroValue3
 t4:=Tryz.underlying4
 a4:=Tryz.isAgg4
 z4:=Tryz.sizeOf4
 v4:=Tryz.zeroValue4
 t9:=Tryz.underlying9
 a9:=Tryz.isAgg9
 z9:=Tryz.sizeOf9
 v9:=Tryz.zeroValue9
 t20:=Tryz.underlying20
 a20:=Tryz.isAgg20
 z20:=Tryz.sizeOf20
 v20:=Tryz.zeroValue20
 t22:=Tryz.underlying49
 a22:=Tryz.isAgg49
 z22:=Tryz.sizeOf49
 v22:=Tryz.zeroValue49
theorem zK9 (a0:Int) (r:List Wait) (h:zc8 a0=some r):MFn C 168 [.full [],.int .i64 a0] [] 0 (.own 0 0 r.length) [(0,⟨false,7,(Wait.enc Wait.zero),r.map Wait.enc⟩)] 1:=by
 obtain ⟨⟨h0,h1⟩,h⟩:=za2 h
 obtain rfl:=Option.some.inj h
 exact zbM3 zL8 (by kernel_rfl) rfl _ a0 h0 h1
attribute [local irreducible] zc8
end Ab
end Go.Proofs.YtfjeceicgfdmjaaGreatDoor
