/-
  Functions of the program,as Lean functions; what the program's code computes is what they say.
-/
import Derived.Test.YtfjeceicgfdmjaaGreatDoorFn2
namespace Go.Proofs.YtfjeceicgfdmjaaGreatDoor
namespace Ab
set_option linter.unusedSimpArgs false
set_option linter.unusedVariables false
set_option maxRecDepth 100000
set_option maxHeartbeats 1000000
attribute [local irreducible] zf5 zd4 zj8 zw0 zw1 zh4 ze3 zo4 zw2 zs8 zq6 zj9 ze0 zh5 zf6 zh2 zm1 zh6 zl6 zk4 zh3 zf0 zn3 zg6 zo6 zp5 zi8 zj0 zk0 zk1 zi0 zh7 zc9 zc7 zo7 zr5 zc0 zc2 zh8 zo8 zm2 zk6 zt0 zy3 zd3 zc5 zk2 zk3 zm3 zH2 zr6 zl0 ze4 zn4 zr7 zl1 zl2 zr8 zf4 zl7
noncomputable def zv5 (a0:List Queue) (a1:Proc) (a2:Atom) (a3:Int):Option ((List Queue)×(List Event)×Int) :=
 (zy3 a0 a2.name).bind fun v1 =>
 (if (!decide (v1.2=0))=true then
  some ([],[],v1.2)
 else
  (zm2 a0).bind fun v2 =>
  (zk2 v2 a1).bind fun v3 =>
  (if ((!v3)&&(decide (8≤(v2.length:Int))))=true then
   some ([],[],4)
  else
   gd (0≤v1.1∧v1.1 < (a0.length:Int)) <|
   (zr8 (a0.getD v1.1.toNat Queue.zero) a1 a2.amount a3).bind fun v4 =>
   (if (!decide (v4.2.2=0))=true then
    some ([],[],v4.2.2)
   else
    (zf4 a0 v1.1 v4.1).bind fun v5 =>
    (zl7 a2.name v4.2.1).bind fun v6 =>
    some (v5,v6,0))))
theorem zaX9 (a0:List Queue) (a1:Proc) (a2:Atom) (a3:Int) (r:(List Queue)×(List Event)×Int) (h:zv5 a0 a1 a2 a3=some r):PFn C 17 [.sl (a0.map Queue.enc),.agg (Proc.enc a1),.agg (Atom.enc a2),.int .i64 a3] (.tup [.sl (r.1.map Queue.enc),.sl (r.2.1.map Event.enc),.int .i64 r.2.2]):=by
 refine za8 zer5 rfl fun E hG hN hK=>?_
 unfold zcR9
 unfold zv5 at h
 refine za0 (za1 hG ?_)
 refine za0 (za1 hG ?_)
 obtain ⟨v1,hv1,h⟩:=za3 h
 refine za6 (fun hg=>zbt4 a0 a2.name _ (hv1)) ?_
 refine za0 (za0 (za1 hG ?_))
 refine za4 rfl hG h (fun _ h=>?_) (fun _ h=>?_)
 · refine za0 (za1 hG ?_)
   refine za7 ?_
   exact zb1 h
 refine za5 ?_
 refine za0 (za1 hG ?_)
 obtain ⟨v2,hv2,h⟩:=za3 h
 refine za6 (fun hg=>zat2 a0 _ (hv2)) ?_
 refine za0 (za0 (za1 hG ?_))
 obtain ⟨v3,hv3,h⟩:=za3 h
 refine za6 (fun hg=>zal2 v2 a1 _ (hv3)) ?_
 refine za4 rfl hG h (fun _ h=>?_) (fun _ h=>?_)
 · refine za0 (za1 hG ?_)
   refine za7 ?_
   exact zb1 h
 refine za5 ?_
 refine za0 ?_
 obtain ⟨hb1,h⟩:=za2 h
 refine zF1 zd8 hG ?_
 obtain ⟨v4,hv4,h⟩:=za3 h
 refine zC5 (fun hg=>zaX8 (a0.getD v1.1.toNat Queue.zero) a1 a2.amount a3 _ (hv4)) ?_
 refine za0 (za0 (za1 hG ?_))
 refine za4 rfl hG h (fun _ h=>?_) (fun _ h=>?_)
 · refine za0 (za1 hG ?_)
   refine za7 ?_
   exact zb1 h
 refine za5 ?_
 refine za0 (zF1 zd8 hG ?_)
 obtain ⟨v5,hv5,h⟩:=za3 h
 refine zC5 (fun hg=>zaJ8 a0 v1.1 v4.1 _ (hv5)) ?_
 obtain ⟨v6,hv6,h⟩:=za3 h
 refine zac6 [] [] [] (zaJ9 a2.name v4.2.1 _ hv6) rfl rfl ?_
 refine za7 ?_
 exact zb1 h
attribute [local irreducible] zv5
noncomputable def zP5  (j1:(List Atom)):Option ((List Atom)) :=
 some j1
@[go_sem] def zec9  (j1:(List Atom)):St:=⟨[(5,.own 0 0 j1.length)],[(0,⟨false,3,(Atom.enc Atom.zero),j1.map Atom.enc⟩)],1⟩
noncomputable def zy8 (a0:List Queue) (a1:Proc) (g1:Int×(List Atom)):Option ((Int×(List Atom))⊕(((List Atom)))) :=
 (if (decide (g1.1 < (a0.length:Int)))=true then
  gd (0≤g1.1∧g1.1 < (a0.length:Int)) <|
  (zh6 (a0.getD g1.1.toNat Queue.zero) a1).bind fun v1 =>
  (if (!decide (v1={ Amount.zero with  }))=true then
   gd (g1.2.length+1≤4294967296) <|
   some (.inl ((IntKind.i64.wrap (g1.1+1)),(g1.2++[(⟨((a0.getD g1.1.toNat Queue.zero).resource).name,v1⟩:Atom)])))
  else
   some (.inl ((IntKind.i64.wrap (g1.1+1)),g1.2)))
 else
  some (.inr g1.2))
@[go_sem] def zed0 (a0:List Queue) (a1:Proc) (g1:Int×(List Atom)):St:=⟨[(3,.ptr 0 0 0),(5,.own 1 0 g1.2.length),(9,.sl (a0.map Queue.enc)),(10,.int .i64 (a0.length:Int)),(11,.int .i64 g1.1)],[(0,⟨false,3,(Proc.enc Proc.zero),[Proc.enc a1]⟩),(1,⟨false,3,(Atom.enc Atom.zero),g1.2.map Atom.enc⟩)],2⟩
noncomputable def zn5 (a0:List Queue) (a1:Proc):Option ((List Atom)) :=
 (zb8 (zy8 a0 a1) (0,[])).bind (fun z=>zP5 z)
theorem zaF6 (a0:List Queue) (a1:Proc) (r:(List Atom)) (h:zn5 a0 a1=some r):PFn C 51 [.sl (a0.map Queue.enc),.agg (Proc.enc a1)] (.sl (r.map Atom.enc)):=by
 refine za8 zer6 rfl fun E hG hN hK=>?_
 unfold zcT0
 unfold zn5 at h
 refine za0 (za1 hG ?_)
 refine za0 (za1 hG ?_)
 refine za0 (za0 (za1 hG ?_))
 refine zb5 (zec9) (fun v=>zP5 v=some r) ?_ ?_
 · intro j1 h
   unfold zP5 at h
   refine g_st ?_
   refine za0 (za1 hG ?_)
   refine za7 ?_
   exact zb1 h
 refine zd9 (zed0 a0 a1) hK [(0,0),(1,1)] h (fun x_l1 h g1 y_l1 h_l1 hx_l1=>?_)
 unfold zy8 at h_l1
 refine g_st ?_
 refine za0 (za1 hG ?_)
 refine za0 ?_
 refine za4 rfl hG h_l1 (fun _ h_l1=>?_) (fun _ h_l1=>?_)
 · refine za5 ?_
   refine za0 (zb6 (za0 ?_))
   obtain ⟨hb2,h_l1⟩:=za2 h_l1
   refine za1 hG ?_
   refine za0 (za1 hG ?_)
   obtain ⟨v1,hv1,h_l1⟩:=za3 h_l1
   refine za6 (fun hg=>zP8 (a0.getD g1.1.toNat Queue.zero) a1 _ (hv1)) ?_
   refine za0 (za1 hG ?_)
   refine za4 rfl hG h_l1 (fun _ h_l1=>?_) (fun _ h_l1=>?_)
   · obtain ⟨hb1,h_l1⟩:=za2 h_l1
     refine za1 hG ?_
     refine za1 hG ?_
     exact zc8 hK [(0,0),(1,4)] h_l1
   refine za5 ?_
   refine za1 hG ?_
   exact zc8 hK [(0,0),(1,1)] h_l1
 refine zc3 ?_
 obtain rfl:=Option.some.inj h_l1
 have hx:=hx_l1 _ rfl
 subst hx
 try dsimp only at h
 exact zc4 hK [(0,1)] g1.2 (by exact h)
attribute [local irreducible] zn5
noncomputable def zr9 :Option (Bool) :=
 (zw1 [{ Resource.zero with name:=(⟨#[97]⟩:ByteArray),kind:=1,units:=1 }]).bind fun v1 =>
 (zq6 0).bind fun v2 =>
 (zv5 v1.1 v2 (⟨(⟨#[97]⟩:ByteArray),{ Amount.zero with mode:=5 }⟩:Atom) 0).bind fun v3 =>
 (zn5 v3.1 v2).bind fun v4 =>
 gd ((((decide (v1.2=0))&&(decide (v3.2.2=0)))&&(decide ((v3.2.1.length:Int)=1)))=true→0≤0∧0 < (v3.2.1.length:Int)) <|
 gd ((((((decide (v1.2=0))&&(decide (v3.2.2=0)))&&(decide ((v3.2.1.length:Int)=1)))&&(decide ((v3.2.1.getD 0 Event.zero).kind=1)))&&(decide ((v4.length:Int)=1)))=true→0≤0∧0 < (v4.length:Int)) <|
 ((if ((((((decide (v1.2=0))&&(decide (v3.2.2=0)))&&(decide ((v3.2.1.length:Int)=1)))&&(decide ((v3.2.1.getD 0 Event.zero).kind=1)))&&(decide ((v4.length:Int)=1)))&&(decide ((v4.getD 0 Atom.zero)=(⟨(⟨#[97]⟩:ByteArray),{ Amount.zero with mode:=5 }⟩:Atom))))=true then zt0 v3.1 (⟨#[97]⟩:ByteArray) else some (0))).bind fun v5 =>
 ((if (((((((decide (v1.2=0))&&(decide (v3.2.2=0)))&&(decide ((v3.2.1.length:Int)=1)))&&(decide ((v3.2.1.getD 0 Event.zero).kind=1)))&&(decide ((v4.length:Int)=1)))&&(decide ((v4.getD 0 Atom.zero)=(⟨(⟨#[97]⟩:ByteArray),{ Amount.zero with mode:=5 }⟩:Atom))))&&(decide (v5=0)))=true then zk6 v3.1 else some (false))).bind fun v6 =>
 some ((((((((decide (v1.2=0))&&(decide (v3.2.2=0)))&&(decide ((v3.2.1.length:Int)=1)))&&(decide ((v3.2.1.getD 0 Event.zero).kind=1)))&&(decide ((v4.length:Int)=1)))&&(decide ((v4.getD 0 Atom.zero)=(⟨(⟨#[97]⟩:ByteArray),{ Amount.zero with mode:=5 }⟩:Atom))))&&(decide (v5=0)))&&v6)
theorem zat3  (r:Bool) (h:zr9=some r):PFn C 14 [] (.bool r):=by
 refine za8 zer7 rfl fun E hG hN hK=>?_
 unfold zcT8
 unfold zr9 at h
 refine za0 (za1 hG ?_)
 refine za0 (za1 hG ?_)
 obtain ⟨v1,hv1,h⟩:=za3 h
 refine za6 (fun hg=>PFn.unfull (zbm9 [{ Resource.zero with name:=(⟨#[97]⟩:ByteArray),kind:=1,units:=1 }] _ (hv1))) ?_
 refine za0 (za1 hG ?_)
 obtain ⟨v2,hv2,h⟩:=za3 h
 refine za6 (fun hg=>zan9 0 _ (hv2)) ?_
 refine za0 (za1 hG ?_)
 refine za0 (za1 hG ?_)
 obtain ⟨v3,hv3,h⟩:=za3 h
 have hc_v3:=zaX9 v1.1 v2 (⟨(⟨#[97]⟩:ByteArray),{ Amount.zero with mode:=5 }⟩:Atom) 0 _ (hv3)
 have el_v3:∀ x:Atom,Atom.enc x=[A.str x.name,A.int .i64 x.amount.mode,A.int .i64 x.amount.units]:=fun x=>rfl
 rw [el_v3] at hc_v3
 dsimp only at hc_v3
 refine za6 (fun hg=>by exact hc_v3) ?_
 refine za0 (za1 hG ?_)
 obtain ⟨v4,hv4,h⟩:=za3 h
 refine za6 (fun hg=>zaF6 v3.1 v2 _ (hv4)) ?_
 refine za0 ?_
 obtain ⟨hb1,h⟩:=za2 h
 obtain ⟨hb2,h⟩:=za2 h
 refine zm9 zd8 hG ?_
 obtain ⟨v5,hv5,h⟩:=za3 h
 refine zf8 (fun hg=>zaA2 v3.1 (⟨#[97]⟩:ByteArray) _ (zD1 hg hv5)) ?_
 obtain ⟨v6,hv6,h⟩:=za3 h
 refine zf8 (fun hg=>zad4 v3.1 _ (zD1 hg hv6)) ?_
 refine za7 ?_
 exact zb1 h
attribute [local irreducible] zr9
noncomputable def zL8  (j1:Unit):Option (Bool) :=
 some true
@[go_sem] def zed1  (j1:Unit):St:=⟨[],[],0⟩
noncomputable def zZ6 (a0:List Hold) (a1:List Hold) (g1:Int):Option ((Int)⊕((Unit)⊕(Bool))) :=
 (if (decide (g1 < (a0.length:Int)))=true then
  gd (0≤g1∧g1 < (a0.length:Int)) <|
  gd (0≤g1∧g1 < (a1.length:Int)) <|
  (if (!decide ((a0.getD g1.toNat Hold.zero)=(a1.getD g1.toNat Hold.zero)))=true then
   some (.inr (.inr false))
  else
   some (.inl (IntKind.i64.wrap (g1+1))))
 else
  some (.inr (.inl ())))
@[go_sem] def zed2 (a0:List Hold) (a1:List Hold) (g1:Int):St:=⟨[(0,.sl (a0.map Hold.enc)),(1,.sl (a1.map Hold.enc)),(5,.int .i64 g1)],[],0⟩
noncomputable def zj1 (a0:List Hold) (a1:List Hold):Option (Bool) :=
 (if (!decide ((a0.length:Int)=(a1.length:Int)))=true then
  some false
 else
  (zb8 (zZ6 a0 a1) 0).bind (fun | .inl z=>zL8 z | .inr z=>some z))
theorem zaC6 (a0:List Hold) (a1:List Hold) (r:Bool) (h:zj1 a0 a1=some r):PFn C 29 [.sl (a0.map Hold.enc),.sl (a1.map Hold.enc)] (.bool r):=by
 refine za8 zer8 rfl fun E hG hN hK=>?_
 unfold zcU8
 unfold zj1 at h
 refine za0 (za1 hG ?_)
 refine za0 (za0 (za1 hG ?_))
 refine za4 rfl hG h (fun _ h=>?_) (fun _ h=>?_)
 · refine za0 (za1 hG ?_)
   refine za7 ?_
   exact zb1 h
 refine za5 ?_
 refine za0 (za0 (za1 hG ?_))
 refine zb5 (zed1) (fun v=>zL8 v=some r) ?_ ?_
 · intro j1 h
   unfold zL8 at h
   refine g_st ?_
   refine za0 (za1 hG ?_)
   refine za7 ?_
   exact zb1 h
 refine zd9 (zed2 a0 a1) hK [] h (fun x_l1 h g1 y_l1 h_l1 hx_l1=>?_)
 unfold zZ6 at h_l1
 refine g_st ?_
 refine za0 (za0 (za1 hG ?_))
 refine za4 rfl hG h_l1 (fun _ h_l1=>?_) (fun _ h_l1=>?_)
 · refine za5 ?_
   refine za0 (zb6 (za0 ?_))
   obtain ⟨hb1,h_l1⟩:=za2 h_l1
   obtain ⟨hb2,h_l1⟩:=za2 h_l1
   refine zm9 zd8 hG ?_
   refine za4 rfl hG h_l1 (fun _ h_l1=>?_) (fun _ h_l1=>?_)
   · refine za0 (za1 hG ?_)
     refine za7 ?_
     obtain rfl:=Option.some.inj h_l1
     have hx:=hx_l1 _ rfl
     subst hx
     try dsimp only at h
     exact zb1 h
   refine za5 ?_
   refine za1 hG ?_
   exact zc8 hK [] h_l1
 refine zc3 ?_
 obtain rfl:=Option.some.inj h_l1
 have hx:=hx_l1 _ rfl
 subst hx
 try dsimp only at h
 exact zc4 hK [] () (by exact h)
attribute [local irreducible] zj1
noncomputable def zat4  (j1:Unit):Option (Bool) :=
 some true
@[go_sem] def zeV6  (j1:Unit):St:=⟨[],[],0⟩
noncomputable def zat5 (a0:List Wait) (a1:List Wait) (g1:Int):Option ((Int)⊕((Unit)⊕(Bool))) :=
 (if (decide (g1 < (a0.length:Int)))=true then
  gd (0≤g1∧g1 < (a0.length:Int)) <|
  gd (0≤g1∧g1 < (a1.length:Int)) <|
  (if (!decide ((a0.getD g1.toNat Wait.zero)=(a1.getD g1.toNat Wait.zero)))=true then
   some (.inr (.inr false))
  else
   some (.inl (IntKind.i64.wrap (g1+1))))
 else
  some (.inr (.inl ())))
@[go_sem] def zeV7 (a0:List Wait) (a1:List Wait) (g1:Int):St:=⟨[(0,.sl (a0.map Wait.enc)),(1,.sl (a1.map Wait.enc)),(5,.int .i64 g1)],[],0⟩
noncomputable def zx9 (a0:List Wait) (a1:List Wait):Option (Bool) :=
 (if (!decide ((a0.length:Int)=(a1.length:Int)))=true then
  some false
 else
  (zb8 (zat5 a0 a1) 0).bind (fun | .inl z=>zat4 z | .inr z=>some z))
attribute [local irreducible] zx9
noncomputable def zT3 (a0:Queue) (a1:Queue):Option (Bool) :=
 ((if ((decide (a0.resource=a1.resource))&&(decide (a0.gen=a1.gen)))=true then zj1 a0.holds a1.holds else some (false))).bind fun v1 =>
 ((if (((decide (a0.resource=a1.resource))&&(decide (a0.gen=a1.gen)))&&v1)=true then zx9 a0.converts a1.converts else some (false))).bind fun v2 =>
 ((if ((((decide (a0.resource=a1.resource))&&(decide (a0.gen=a1.gen)))&&v1)&&v2)=true then zx9 a0.waits a1.waits else some (false))).bind fun v3 =>
 some (((((decide (a0.resource=a1.resource))&&(decide (a0.gen=a1.gen)))&&v1)&&v2)&&v3)
attribute [local irreducible] zT3
noncomputable def zaQ1  (j1:Unit):Option (Bool) :=
 some true
@[go_sem] def zeV8  (j1:Unit):St:=⟨[],[],0⟩
noncomputable def zaQ2 (a0:List Queue) (a1:List Queue) (g1:Int):Option ((Int)⊕((Unit)⊕(Bool))) :=
 (if (decide (g1 < (a0.length:Int)))=true then
  gd (0≤g1∧g1 < (a0.length:Int)) <|
  gd (0≤g1∧g1 < (a1.length:Int)) <|
  (zT3 (a0.getD g1.toNat Queue.zero) (a1.getD g1.toNat Queue.zero)).bind fun v1 =>
  (if (!v1)=true then
   some (.inr (.inr false))
  else
   some (.inl (IntKind.i64.wrap (g1+1))))
 else
  some (.inr (.inl ())))
@[go_sem] def zeV9 (a0:List Queue) (a1:List Queue) (g1:Int):St:=⟨[(0,.sl (a0.map Queue.enc)),(1,.sl (a1.map Queue.enc)),(5,.int .i64 g1)],[],0⟩
noncomputable def zT4 (a0:List Queue) (a1:List Queue):Option (Bool) :=
 (if (!decide ((a0.length:Int)=(a1.length:Int)))=true then
  some false
 else
  (zb8 (zaQ2 a0 a1) 0).bind (fun | .inl z=>zaQ1 z | .inr z=>some z))
attribute [local irreducible] zT4
noncomputable def zaK0  (j1:Unit):Option (Bool) :=
 some true
@[go_sem] def zeW0  (j1:Unit):St:=⟨[],[],0⟩
noncomputable def zaK1 (a0:List Queue) (g1:Int):Option ((Int)⊕((Unit)⊕(Bool))) :=
 (if (decide (g1 < (a0.length:Int)))=true then
  gd (0≤g1∧g1 < (a0.length:Int)) <|
  gd ((!(decide (20 < (((a0.getD g1.toNat Queue.zero).holds).length:Int))))=true→0≤g1∧g1 < (a0.length:Int)) <|
  gd ((!((decide (20 < (((a0.getD g1.toNat Queue.zero).holds).length:Int)))||(decide (20 < (((a0.getD g1.toNat Queue.zero).converts).length:Int)))))=true→0≤g1∧g1 < (a0.length:Int)) <|
  (if (((decide (20 < (((a0.getD g1.toNat Queue.zero).holds).length:Int)))||(decide (20 < (((a0.getD g1.toNat Queue.zero).converts).length:Int))))||(decide (20 < (((a0.getD g1.toNat Queue.zero).waits).length:Int))))=true then
   some (.inr (.inr false))
  else
   some (.inl (IntKind.i64.wrap (g1+1))))
 else
  some (.inr (.inl ())))
@[go_sem] def zeW1 (a0:List Queue) (g1:Int):St:=⟨[(0,.sl (a0.map Queue.enc)),(3,.int .i64 g1)],[],0⟩
noncomputable def zY2 (a0:List Queue):Option (Bool) :=
 (if (decide (20 < (a0.length:Int)))=true then
  some false
 else
  (zb8 (zaK1 a0) 0).bind (fun | .inl z=>zaK0 z | .inr z=>some z))
attribute [local irreducible] zY2
def ze5 (a0:Proc):Bool :=
 ((((((decide (0≤a0.site))&&(decide (a0.site < 4)))&&(decide (1≤a0.inc)))&&(decide (a0.inc≤99)))&&(decide (1≤a0.num)))&&(decide (a0.num≤999)))
theorem zH4 (a0:Proc):PFn C 97 [.agg (Proc.enc a0)] (.bool (ze5 a0)):=by
 generalize h:ze5 a0=r
 refine za8 zeu8 rfl fun E hG hN hK=>?_
 unfold zcV1
 unfold ze5 at h
 refine za0 (za1 hG ?_)
 refine za0 (za1 hG ?_)
 refine za7 ?_
 exact ze9 h
def zj2 (a0:Int):Bool :=
 ((decide (1≤a0))&&(decide (a0≤5)))
theorem zF5 (a0:Int):PFn C 143 [.int .i64 a0] (.bool (zj2 a0)):=by
 generalize h:zj2 a0=r
 refine za8 zeu9 rfl fun E hG hN hK=>?_
 unfold zcV4
 unfold zj2 at h
 refine za0 (za1 hG ?_)
 refine za0 (za1 hG ?_)
 refine za7 ?_
 exact ze9 h
def zg7 (a0:Resource) (a1:Amount):Bool :=
 (if (!(zo3 a0))=true then
  false
 else
  (if (decide (a0.kind=1))=true then
   ((zj2 a1.mode)&&(decide (a1.units=0)))
  else
   (((decide (a1.mode=0))&&(decide (1≤a1.units)))&&(decide (a1.units≤a0.units)))))
theorem zJ1 (a0:Resource) (a1:Amount):PFn C 98 [.agg (Resource.enc a0),.agg (Amount.enc a1)] (.bool (zg7 a0 a1)):=by
 generalize h:zg7 a0 a1=r
 refine za8 zev0 rfl fun E hG hN hK=>?_
 unfold zcW1
 unfold zg7 at h
 refine za0 (za1 hG ?_)
 refine za0 (za0 (za1 hG ?_))
 refine za6 (fun hg=>zI5 a0) ?_
 refine za4 rfl hG h (fun _ h=>?_) (fun _ h=>?_)
 · refine za0 (za1 hG ?_)
   refine za7 ?_
   exact ze9 h
 refine za5 ?_
 refine za0 (za0 (za1 hG ?_))
 refine za4 rfl hG h (fun _ h=>?_) (fun _ h=>?_)
 · refine za0 (za1 hG ?_)
   refine za6 (fun hg=>zF5 a1.mode) ?_
   refine za7 ?_
   exact ze9 h
 refine za5 ?_
 refine za0 (za1 hG ?_)
 refine za7 ?_
 exact ze9 h
def zs0 (a0:Int) (a1:Int):Int :=
 (if (decide (a0 < a1))=true then
  (-1)
 else
  (if (decide (a1 < a0))=true then
   1
  else
   0))
theorem zad5 (a0:Int) (a1:Int):PFn C 111 [.int .i64 a0,.int .i64 a1] (.int .i64 (zs0 a0 a1)):=by
 generalize h:zs0 a0 a1=r
 refine za8 zev1 rfl fun E hG hN hK=>?_
 unfold zcW8
 unfold zs0 at h
 refine za0 (za1 hG ?_)
 refine za0 (za0 (za1 hG ?_))
 refine za4 rfl hG h (fun _ h=>?_) (fun _ h=>?_)
 · refine za0 (za1 hG ?_)
   refine za7 ?_
   exact ze9 h
 refine za5 ?_
 refine za0 (za0 (za1 hG ?_))
 refine za4 rfl hG h (fun _ h=>?_) (fun _ h=>?_)
 · refine za0 (za1 hG ?_)
   refine za7 ?_
   exact ze9 h
 refine za5 ?_
 refine za0 (za1 hG ?_)
 refine za7 ?_
 exact ze9 h
def zi5 (a0:Proc) (a1:Proc):Int :=
 (if (!decide ((zs0 a0.site a1.site)=0))=true then
  (zs0 a0.site a1.site)
 else
  (if (!decide ((zs0 a0.inc a1.inc)=0))=true then
   (zs0 a0.inc a1.inc)
  else
   (zs0 a0.num a1.num)))
theorem zL9 (a0:Proc) (a1:Proc):PFn C 68 [.agg (Proc.enc a0),.agg (Proc.enc a1)] (.int .i64 (zi5 a0 a1)):=by
 generalize h:zi5 a0 a1=r
 refine za8 zev2 rfl fun E hG hN hK=>?_
 unfold zcX7
 unfold zi5 at h
 refine za0 (za1 hG ?_)
 refine za0 (za0 (za1 hG ?_))
 refine za6 (fun hg=>zad5 a0.site a1.site) ?_
 refine za0 (za1 hG ?_)
 refine za4 rfl hG h (fun _ h=>?_) (fun _ h=>?_)
 · refine za0 (za1 hG ?_)
   refine za7 ?_
   exact ze9 h
 refine za5 ?_
 refine za0 (za0 (za1 hG ?_))
 refine za6 (fun hg=>zad5 a0.inc a1.inc) ?_
 refine za0 (za1 hG ?_)
 refine za4 rfl hG h (fun _ h=>?_) (fun _ h=>?_)
 · refine za0 (za1 hG ?_)
   refine za7 ?_
   exact ze9 h
 refine za5 ?_
 refine za0 (za1 hG ?_)
 refine za6 (fun hg=>zad5 a0.num a1.num) ?_
 refine za7 ?_
 exact ze9 h
noncomputable def zH5  (j1:(List Amount)):Option ((List Amount)) :=
 some j1
@[go_sem] def zed3  (j1:(List Amount)):St:=⟨[(3,.own 0 0 j1.length)],[(0,⟨false,2,(Amount.enc Amount.zero),j1.map Amount.enc⟩)],1⟩
noncomputable def zB7 (a0:List Hold) (g1:Int×(List Amount)):Option ((Int×(List Amount))⊕(((List Amount)))) :=
 (if (decide (g1.1 < (a0.length:Int)))=true then
  gd (0≤g1.1∧g1.1 < (a0.length:Int)) <|
  gd (g1.2.length+1≤4294967296) <|
  some (.inl ((IntKind.i64.wrap (g1.1+1)),(g1.2++[(a0.getD g1.1.toNat Hold.zero).amount])))
 else
  some (.inr g1.2))
@[go_sem] def zed4 (a0:List Hold) (g1:Int×(List Amount)):St:=⟨[(0,.sl (a0.map Hold.enc)),(3,.own 0 0 g1.2.length),(4,.int .i64 g1.1)],[(0,⟨false,2,(Amount.enc Amount.zero),g1.2.map Amount.enc⟩)],1⟩
noncomputable def zp6 (a0:List Hold):Option ((List Amount)) :=
 (zb8 (zB7 a0) (0,[])).bind (fun z=>zH5 z)
theorem zaK2 (a0:List Hold) (r:(List Amount)) (h:zp6 a0=some r):PFn C 184 [.sl (a0.map Hold.enc)] (.sl (r.map Amount.enc)):=by
 refine za8 zev3 rfl fun E hG hN hK=>?_
 unfold zcY5
 unfold zp6 at h
 refine za0 (za1 hG ?_)
 refine za0 (za1 hG ?_)
 refine za0 (za0 (za1 hG ?_))
 refine zb5 (zed3) (fun v=>zH5 v=some r) ?_ ?_
 · intro j1 h
   unfold zH5 at h
   refine g_st ?_
   refine za0 (za1 hG ?_)
   refine za7 ?_
   exact zb1 h
 refine zd9 (zed4 a0) hK [(0,0)] h (fun x_l1 h g1 y_l1 h_l1 hx_l1=>?_)
 unfold zB7 at h_l1
 refine g_st ?_
 refine za0 (za0 (za1 hG ?_))
 refine za4 rfl hG h_l1 (fun _ h_l1=>?_) (fun _ h_l1=>?_)
 · refine za5 ?_
   refine za0 (zb6 ?_)
   obtain ⟨hb1,h_l1⟩:=za2 h_l1
   obtain ⟨hb2,h_l1⟩:=za2 h_l1
   refine za1 hG ?_
   refine za1 hG ?_
   exact zc8 hK [(0,1)] h_l1
 refine zc3 ?_
 obtain rfl:=Option.some.inj h_l1
 have hx:=hx_l1 _ rfl
 subst hx
 try dsimp only at h
 exact zc4 hK [(0,0)] g1.2 (by exact h)
attribute [local irreducible] zp6
def zc6 (a0:Amount):Bool :=
 (decide (a0={ Amount.zero with  }))
theorem zp0 (a0:Amount):PFn C 30 [.agg (Amount.enc a0)] (.bool (zc6 a0)):=by
 generalize h:zc6 a0=r
 refine za8 zev4 rfl fun E hG hN hK=>?_
 unfold zcY8
 unfold zc6 at h
 refine za0 (za1 hG ?_)
 refine za0 (za1 hG ?_)
 refine za7 ?_
 exact ze9 h
def zf1 (a0:Resource) (a1:Amount):Bool :=
 ((zo3 a0)&&((zc6 a1)||(zg7 a0 a1)))
theorem zB8 (a0:Resource) (a1:Amount):PFn C 145 [.agg (Resource.enc a0),.agg (Amount.enc a1)] (.bool (zf1 a0 a1)):=by
 generalize h:zf1 a0 a1=r
 refine za8 zev5 rfl fun E hG hN hK=>?_
 unfold zcZ1
 unfold zf1 at h
 refine za0 (za1 hG ?_)
 refine za0 (za1 hG ?_)
 refine za6 (fun hg=>zI5 a0) ?_
 refine za6 (fun hg=>zp0 a1) ?_
 refine za6 (fun hg=>zJ1 a0 a1) ?_
 refine za7 ?_
 exact ze9 h
def zp8 (a0:Int) (a1:Int):Bool :=
 (if ((((!(zj2 a0))||(!(zj2 a1)))||(decide (a0=5)))||(decide (a1=5)))=true then
  false
 else
  (((decide (a0=1))||(decide (a1=1)))||((decide (a0=a1))&&(!decide (a0=4)))))
theorem zaz0 (a0:Int) (a1:Int):PFn C 191 [.int .i64 a0,.int .i64 a1] (.bool (zp8 a0 a1)):=by
 generalize h:zp8 a0 a1=r
 refine za8 zev6 rfl fun E hG hN hK=>?_
 unfold zcZ6
 unfold zp8 at h
 refine za0 (za1 hG ?_)
 refine za0 (za0 (za1 hG ?_))
 refine za6 (fun hg=>zF5 a0) ?_
 refine za6 (fun hg=>zF5 a1) ?_
 refine za4 rfl hG h (fun _ h=>?_) (fun _ h=>?_)
 · refine za0 (za1 hG ?_)
   refine za7 ?_
   exact ze9 h
 refine za5 ?_
 refine za0 (za1 hG ?_)
 refine za7 ?_
 exact ze9 h
noncomputable def zJ4  (j1:Unit):Option (Bool) :=
 some true
@[go_sem] def zed5  (j1:Unit):St:=⟨[],[],0⟩
noncomputable def zC6 (g1:Int×Int) (j2:Unit):Option ((Int×Int)⊕((Unit)⊕(Bool))) :=
 some (.inl (g1.1,(IntKind.i64.wrap (g1.2+1))))
@[go_sem] def zed6 (a0:Resource) (a1:List Amount) (g1:Int×Int) (j2:Unit):St:=⟨[(1,.sl (a1.map Amount.enc)),(2,.ptr 0 0 0),(5,.int .i64 g1.1),(6,.int .i64 g1.2)],[(0,⟨false,4,(Resource.enc Resource.zero),[Resource.enc a0]⟩)],1⟩
noncomputable def zo2 (a1:List Amount) (g1:Int×Int) (g2:Int):Option ((Int)⊕((Unit)⊕(Bool))) :=
 (if (decide (g2 < g1.2))=true then
  gd (0≤g1.2∧g1.2 < (a1.length:Int)) <|
  gd ((!(zc6 (a1.getD g1.2.toNat Amount.zero)))=true→0≤g2∧g2 < (a1.length:Int)) <|
  gd (((!(zc6 (a1.getD g1.2.toNat Amount.zero)))&&(!(zc6 (a1.getD g2.toNat Amount.zero))))=true→0≤g1.2∧g1.2 < (a1.length:Int)) <|
  gd (((!(zc6 (a1.getD g1.2.toNat Amount.zero)))&&(!(zc6 (a1.getD g2.toNat Amount.zero))))=true→0≤g2∧g2 < (a1.length:Int)) <|
  (if (((!(zc6 (a1.getD g1.2.toNat Amount.zero)))&&(!(zc6 (a1.getD g2.toNat Amount.zero))))&&(!(zp8 ((a1.getD g1.2.toNat Amount.zero).mode) ((a1.getD g2.toNat Amount.zero).mode))))=true then
   some (.inr (.inr false))
  else
   some (.inl (IntKind.i64.wrap (g2+1))))
 else
  some (.inr (.inl ())))
@[go_sem] def zed7 (a0:Resource) (a1:List Amount) (g1:Int×Int) (g2:Int):St:=⟨[(1,.sl (a1.map Amount.enc)),(2,.ptr 0 0 0),(5,.int .i64 g1.1),(6,.int .i64 g1.2),(7,.int .i64 g2)],[(0,⟨false,4,(Resource.enc Resource.zero),[Resource.enc a0]⟩)],1⟩
noncomputable def zu3 (a0:Resource) (a1:List Amount) (g1:Int×Int):Option ((Int×Int)⊕((Unit)⊕(Bool))) :=
 (if (decide (g1.2 < (a1.length:Int)))=true then
  gd (0≤g1.2∧g1.2 < (a1.length:Int)) <|
  (if (!(zf1 a0 (a1.getD g1.2.toNat Amount.zero)))=true then
   some (.inr (.inr false))
  else
   (if (decide (a0.kind=2))=true then
    gd (0≤g1.2∧g1.2 < (a1.length:Int)) <|
    (if (decide (a0.units < (IntKind.i64.wrap (g1.1+(a1.getD g1.2.toNat Amount.zero).units))))=true then
     some (.inr (.inr false))
    else
     some (.inl ((IntKind.i64.wrap (g1.1+(a1.getD g1.2.toNat Amount.zero).units)),(IntKind.i64.wrap (g1.2+1)))))
   else
    (zb8 (zo2 a1 g1) 0).bind (fun | .inl z=>zC6 g1 z | .inr z=>some (.inr (.inr z)))))
 else
  some (.inr (.inl ())))
@[go_sem] def zed8 (a0:Resource) (a1:List Amount) (g1:Int×Int):St:=⟨[(1,.sl (a1.map Amount.enc)),(2,.ptr 0 0 0),(5,.int .i64 g1.1),(6,.int .i64 g1.2)],[(0,⟨false,4,(Resource.enc Resource.zero),[Resource.enc a0]⟩)],1⟩
noncomputable def zj6 (a0:Resource) (a1:List Amount):Option (Bool) :=
 (if (!(zo3 a0))=true then
  some false
 else
  (zb8 (zu3 a0 a1) (0,0)).bind (fun | .inl z=>zJ4 z | .inr z=>some z))
theorem zaz1 (a0:Resource) (a1:List Amount) (r:Bool) (h:zj6 a0 a1=some r):PFn C 183 [.agg (Resource.enc a0),.sl (a1.map Amount.enc)] (.bool r):=by
 refine za8 zev7 rfl fun E hG hN hK=>?_
 unfold zda7
 unfold zj6 at h
 refine za0 (za1 hG ?_)
 refine za0 (za0 (za1 hG ?_))
 refine za6 (fun hg=>zI5 a0) ?_
 refine za4 rfl hG h (fun _ h=>?_) (fun _ h=>?_)
 · refine za0 (za1 hG ?_)
   refine za7 ?_
   exact zb1 h
 refine za5 ?_
 refine za0 (za1 hG ?_)
 refine za0 (za0 (za1 hG ?_))
 refine zb5 (zed5) (fun v=>zJ4 v=some r) ?_ ?_
 · intro j1 h
   unfold zJ4 at h
   refine g_st ?_
   refine za0 (za1 hG ?_)
   refine za7 ?_
   exact zb1 h
 refine zd9 (zed8 a0 a1) hK [(0,0)] h (fun x_l1 h g1 y_l1 h_l1 hx_l1=>?_)
 unfold zu3 at h_l1
 refine g_st ?_
 refine za0 (za0 (za1 hG ?_))
 refine za4 rfl hG h_l1 (fun _ h_l1=>?_) (fun _ h_l1=>?_)
 · refine za5 ?_
   refine za0 (zb6 (za0 (za0 ?_)))
   obtain ⟨hb6,h_l1⟩:=za2 h_l1
   refine zm9 zd8 hG ?_
   refine zf8 (fun hg=>zB8 a0 (a1.getD g1.2.toNat Amount.zero)) ?_
   refine za4 rfl hG h_l1 (fun _ h_l1=>?_) (fun _ h_l1=>?_)
   · refine za0 (za1 hG ?_)
     refine za7 ?_
     obtain rfl:=Option.some.inj h_l1
     have hx:=hx_l1 _ rfl
     subst hx
     try dsimp only at h
     exact zb1 h
   refine za5 ?_
   refine za0 (za0 (za1 hG ?_))
   refine za4 rfl hG h_l1 (fun _ h_l1=>?_) (fun _ h_l1=>?_)
   · refine za0 ?_
     obtain ⟨hb1,h_l1⟩:=za2 h_l1
     refine za1 hG ?_
     refine za0 (za0 (za1 hG ?_))
     refine za4 rfl hG h_l1 (fun _ h_l1=>?_) (fun _ h_l1=>?_)
     · refine za0 (za1 hG ?_)
       refine za7 ?_
       obtain rfl:=Option.some.inj h_l1
       have hx:=hx_l1 _ rfl
       subst hx
       try dsimp only at h
       exact zb1 h
     refine za5 ?_
     refine zc3 ?_
     refine za1 hG ?_
     exact zc8 hK [(0,0)] h_l1
   refine za5 ?_
   refine za0 (za1 hG ?_)
   refine zb5 (zed6 a0 a1 g1) (fun v=>zC6 g1 v=some y_l1) ?_ ?_
   · intro j2 h_l1
     unfold zC6 at h_l1
     refine g_st ?_
     refine za1 hG ?_
     exact zc8 hK [(0,0)] h_l1
   refine zd9 (zed7 a0 a1 g1) hK [(0,0)] h_l1 (fun x_l2 h_l1 g2 y_l2 h_l2 hx_l2=>?_)
   unfold zo2 at h_l2
   refine g_st ?_
   refine za0 (za0 (za1 hG ?_))
   refine za4 rfl hG h_l2 (fun _ h_l2=>?_) (fun _ h_l2=>?_)
   · refine za5 ?_
     refine za0 (zb6 (za0 ?_))
     obtain ⟨hb2,h_l2⟩:=za2 h_l2
     refine zm9 zd8 hG ?_
     obtain ⟨hb3,h_l2⟩:=za2 h_l2
     refine zf8 (fun hg=>zp0 (a1.getD g1.2.toNat Amount.zero)) ?_
     obtain ⟨hb4,h_l2⟩:=za2 h_l2
     obtain ⟨hb5,h_l2⟩:=za2 h_l2
     refine zf8 (fun hg=>zp0 (a1.getD g2.toNat Amount.zero)) ?_
     refine zf8 (fun hg=>zaz0 ((a1.getD g1.2.toNat Amount.zero).mode) ((a1.getD g2.toNat Amount.zero).mode)) ?_
     refine za4 rfl hG h_l2 (fun _ h_l2=>?_) (fun _ h_l2=>?_)
     · refine za0 (za1 hG ?_)
       refine za7 ?_
       obtain rfl:=Option.some.inj h_l2
       have hx:=hx_l2 _ rfl
       subst hx
       try dsimp only at h_l1
       obtain rfl:=Option.some.inj h_l1
       have hx:=hx_l1 _ rfl
       subst hx
       try dsimp only at h
       exact zb1 h
     refine za5 ?_
     refine za1 hG ?_
     exact zc8 hK [(0,0)] h_l2
   refine zc3 ?_
   obtain rfl:=Option.some.inj h_l2
   have hx:=hx_l2 _ rfl
   subst hx
   try dsimp only at h_l1
   exact zc4 hK [(0,0)] () (by exact h_l1)
 refine zc3 ?_
 obtain rfl:=Option.some.inj h_l1
 have hx:=hx_l1 _ rfl
 subst hx
 try dsimp only at h
 exact zc4 hK [] () (by exact h)
attribute [local irreducible] zj6
noncomputable def zN7 (a0:Resource) (a1:List Hold) (j1:Unit):Option (Bool) :=
 (zp6 a1).bind fun v1 =>
 (zj6 a0 v1).bind fun v2 =>
 some v2
@[go_sem] def zed9 (a0:Resource) (a1:List Hold) (j1:Unit):St:=⟨[(1,.sl (a1.map Hold.enc)),(2,.ptr 0 0 0)],[(0,⟨false,4,(Resource.enc Resource.zero),[Resource.enc a0]⟩)],1⟩
noncomputable def zF6 (a0:Resource) (a1:List Hold) (g1:Int):Option ((Int)⊕((Unit)⊕(Bool))) :=
 (if (decide (g1 < (a1.length:Int)))=true then
  gd (0≤g1∧g1 < (a1.length:Int)) <|
  gd ((ze5 ((a1.getD g1.toNat Hold.zero).proc))=true→0≤g1∧g1 < (a1.length:Int)) <|
  gd (((!((!(ze5 ((a1.getD g1.toNat Hold.zero).proc)))||(!(zg7 a0 ((a1.getD g1.toNat Hold.zero).amount)))))&&(decide (0 < g1)))=true→0≤(IntKind.i64.wrap (g1 - 1))∧(IntKind.i64.wrap (g1 - 1)) < (a1.length:Int)) <|
  gd (((!((!(ze5 ((a1.getD g1.toNat Hold.zero).proc)))||(!(zg7 a0 ((a1.getD g1.toNat Hold.zero).amount)))))&&(decide (0 < g1)))=true→0≤g1∧g1 < (a1.length:Int)) <|
  (if (((!(ze5 ((a1.getD g1.toNat Hold.zero).proc)))||(!(zg7 a0 ((a1.getD g1.toNat Hold.zero).amount))))||((decide (0 < g1))&&(decide (0≤(zi5 ((a1.getD ((IntKind.i64.wrap (g1 - 1)).toNat) Hold.zero).proc) ((a1.getD g1.toNat Hold.zero).proc))))))=true then
   some (.inr (.inr false))
  else
   some (.inl (IntKind.i64.wrap (g1+1))))
 else
  some (.inr (.inl ())))
@[go_sem] def zee0 (a0:Resource) (a1:List Hold) (g1:Int):St:=⟨[(1,.sl (a1.map Hold.enc)),(2,.ptr 0 0 0),(5,.int .i64 g1)],[(0,⟨false,4,(Resource.enc Resource.zero),[Resource.enc a0]⟩)],1⟩
noncomputable def zp1 (a0:Resource) (a1:List Hold):Option (Bool) :=
 (if ((!(zo3 a0))||(decide (8 < (a1.length:Int))))=true then
  some false
 else
  (zb8 (zF6 a0 a1) 0).bind (fun | .inl z=>zN7 a0 a1 z | .inr z=>some z))
theorem zad6 (a0:Resource) (a1:List Hold) (r:Bool) (h:zp1 a0 a1=some r):PFn C 164 [.agg (Resource.enc a0),.sl (a1.map Hold.enc)] (.bool r):=by
 refine za8 zev8 rfl fun E hG hN hK=>?_
 unfold zdb7
 unfold zp1 at h
 refine za0 (za1 hG ?_)
 refine za0 (za0 (za1 hG ?_))
 refine za6 (fun hg=>zI5 a0) ?_
 refine za4 rfl hG h (fun _ h=>?_) (fun _ h=>?_)
 · refine za0 (za1 hG ?_)
   refine za7 ?_
   exact zb1 h
 refine za5 ?_
 refine za0 (za0 (za1 hG ?_))
 refine zb5 (zed9 a0 a1) (fun v=>zN7 a0 a1 v=some r) ?_ ?_
 · intro j1 h
   unfold zN7 at h
   refine g_st ?_
   refine za0 (zm9 zd8 hG ?_)
   obtain ⟨v1,hv1,h⟩:=za3 h
   refine zf8 (fun hg=>zaK2 a1 _ (hv1)) ?_
   obtain ⟨v2,hv2,h⟩:=za3 h
   refine zf8 (fun hg=>zaz1 a0 v1 _ (hv2)) ?_
   refine za7 ?_
   exact zb1 h
 refine zd9 (zee0 a0 a1) hK [(0,0)] h (fun x_l1 h g1 y_l1 h_l1 hx_l1=>?_)
 unfold zF6 at h_l1
 refine g_st ?_
 refine za0 (za0 (za1 hG ?_))
 refine za4 rfl hG h_l1 (fun _ h_l1=>?_) (fun _ h_l1=>?_)
 · refine za5 ?_
   refine za0 (zb6 (za0 ?_))
   obtain ⟨hb1,h_l1⟩:=za2 h_l1
   refine zm9 zd8 hG ?_
   obtain ⟨hb2,h_l1⟩:=za2 h_l1
   refine zf8 (fun hg=>zH4 ((a1.getD g1.toNat Hold.zero).proc)) ?_
   obtain ⟨hb3,h_l1⟩:=za2 h_l1
   obtain ⟨hb4,h_l1⟩:=za2 h_l1
   refine zf8 (fun hg=>zJ1 a0 ((a1.getD g1.toNat Hold.zero).amount)) ?_
   refine zf8 (fun hg=>zL9 ((a1.getD ((IntKind.i64.wrap (g1 - 1)).toNat) Hold.zero).proc) ((a1.getD g1.toNat Hold.zero).proc)) ?_
   refine za4 rfl hG h_l1 (fun _ h_l1=>?_) (fun _ h_l1=>?_)
   · refine za0 (za1 hG ?_)
     refine za7 ?_
     obtain rfl:=Option.some.inj h_l1
     have hx:=hx_l1 _ rfl
     subst hx
     try dsimp only at h
     exact zb1 h
   refine za5 ?_
   refine za1 hG ?_
   exact zc8 hK [(0,0)] h_l1
 refine zc3 ?_
 obtain rfl:=Option.some.inj h_l1
 have hx:=hx_l1 _ rfl
 subst hx
 try dsimp only at h
 exact zc4 hK [(0,0)] () (by exact h)
attribute [local irreducible] zp1
def zF7 (a0:Amount):Bool :=
 (((zj2 a0.mode)&&(decide (a0.units=0)))||(((decide (a0.mode=0))&&(decide (1≤a0.units)))&&(decide (a0.units≤8))))
theorem zaQ3 (a0:Amount):PFn C 167 [.agg (Amount.enc a0)] (.bool (zF7 a0)):=by
 generalize h:zF7 a0=r
 refine za8 zev9 rfl fun E hG hN hK=>?_
 unfold zdc0
 unfold zF7 at h
 refine za0 (za1 hG ?_)
 refine za0 (za1 hG ?_)
 refine za6 (fun hg=>zF5 a0.mode) ?_
 refine za7 ?_
 exact ze9 h
def zh9 (a0:Wait):Bool :=
 ((((((ze5 a0.proc)&&(zF7 a0.amount))&&(decide (0≤a0.priority)))&&(decide (a0.priority≤7)))&&(decide (0≤a0.passed)))&&(decide (a0.passed≤3)))
theorem zad7 (a0:Wait):PFn C 151 [.agg (Wait.enc a0)] (.bool (zh9 a0)):=by
 generalize h:zh9 a0=r
 refine za8 zew0 rfl fun E hG hN hK=>?_
 unfold zdc3
 unfold zh9 at h
 refine za0 (za1 hG ?_)
 refine za0 (za1 hG ?_)
 refine za6 (fun hg=>zH4 a0.proc) ?_
 refine za6 (fun hg=>zaQ3 a0.amount) ?_
 refine za7 ?_
 exact ze9 h
noncomputable def zaa3  (j1:Unit):Option (Int) :=
 some (-1)
@[go_sem] def zee1  (j1:Unit):St:=⟨[],[],0⟩
noncomputable def zaq5 (a0:List Wait) (a1:Proc) (g1:Int):Option ((Int)⊕((Unit)⊕(Int))) :=
 (if (decide (g1 < (a0.length:Int)))=true then
  gd (0≤g1∧g1 < (a0.length:Int)) <|
  (if (decide ((a0.getD g1.toNat Wait.zero).proc=a1))=true then
   some (.inr (.inr g1))
  else
   some (.inl (IntKind.i64.wrap (g1+1))))
 else
  some (.inr (.inl ())))
@[go_sem] def zee2 (a0:List Wait) (a1:Proc) (g1:Int):St:=⟨[(0,.sl (a0.map Wait.enc)),(3,.ptr 0 0 0),(5,.int .i64 g1)],[(0,⟨false,3,(Proc.enc Proc.zero),[Proc.enc a1]⟩)],1⟩
noncomputable def zn6 (a0:List Wait) (a1:Proc):Option (Int) :=
 (zb8 (zaq5 a0 a1) 0).bind (fun | .inl z=>zaa3 z | .inr z=>some z)
theorem zQ0 (a0:List Wait) (a1:Proc) (r:Int) (h:zn6 a0 a1=some r):PFn C 144 [.sl (a0.map Wait.enc),.agg (Proc.enc a1)] (.int .i64 r):=by
 refine za8 zew1 rfl fun E hG hN hK=>?_
 unfold zdd1
 unfold zn6 at h
 refine za0 (za1 hG ?_)
 refine za0 (za0 (za1 hG ?_))
 refine zb5 (zee1) (fun v=>zaa3 v=some r) ?_ ?_
 · intro j1 h
   unfold zaa3 at h
   refine g_st ?_
   refine za0 (za1 hG ?_)
   refine za7 ?_
   exact zb1 h
 refine zd9 (zee2 a0 a1) hK [(0,0)] h (fun x_l1 h g1 y_l1 h_l1 hx_l1=>?_)
 unfold zaq5 at h_l1
 refine g_st ?_
 refine za0 (za0 (za1 hG ?_))
 refine za4 rfl hG h_l1 (fun _ h_l1=>?_) (fun _ h_l1=>?_)
 · refine za5 ?_
   refine za0 (zb6 (za0 ?_))
   obtain ⟨hb1,h_l1⟩:=za2 h_l1
   refine zm9 zd8 hG ?_
   refine za4 rfl hG h_l1 (fun _ h_l1=>?_) (fun _ h_l1=>?_)
   · refine za0 (za1 hG ?_)
     refine za7 ?_
     obtain rfl:=Option.some.inj h_l1
     have hx:=hx_l1 _ rfl
     subst hx
     try dsimp only at h
     exact zb1 h
   refine za5 ?_
   refine za1 hG ?_
   exact zc8 hK [(0,0)] h_l1
 refine zc3 ?_
 obtain rfl:=Option.some.inj h_l1
 have hx:=hx_l1 _ rfl
 subst hx
 try dsimp only at h
 exact zc4 hK [] () (by exact h)
attribute [local irreducible] zn6
noncomputable def zW5  (j1:Unit):Option (Bool) :=
 some true
@[go_sem] def zee3  (j1:Unit):St:=⟨[],[],0⟩
noncomputable def zN8 (a0:List Wait) (g1:Int):Option ((Int)⊕((Unit)⊕(Bool))) :=
 (if (decide (g1 < (a0.length:Int)))=true then
  gd (0≤g1∧g1 < (a0.length:Int)) <|
  gd ((zh9 (a0.getD g1.toNat Wait.zero))=true→0≤g1∧g1 < (a0.length:Int)) <|
  ((if (zh9 (a0.getD g1.toNat Wait.zero))=true then zn6 a0 ((a0.getD g1.toNat Wait.zero).proc) else some (0))).bind fun v1 =>
  (if ((!(zh9 (a0.getD g1.toNat Wait.zero)))||(!decide (v1=g1)))=true then
   some (.inr (.inr false))
  else
   some (.inl (IntKind.i64.wrap (g1+1))))
 else
  some (.inr (.inl ())))
@[go_sem] def zee4 (a0:List Wait) (g1:Int):St:=⟨[(0,.sl (a0.map Wait.enc)),(3,.int .i64 g1)],[],0⟩
noncomputable def zs1 (a0:List Wait):Option (Bool) :=
 (if (decide (8 < (a0.length:Int)))=true then
  some false
 else
  (zb8 (zN8 a0) 0).bind (fun | .inl z=>zW5 z | .inr z=>some z))
theorem zat6 (a0:List Wait) (r:Bool) (h:zs1 a0=some r):PFn C 150 [.sl (a0.map Wait.enc)] (.bool r):=by
 refine za8 zew2 rfl fun E hG hN hK=>?_
 unfold zde1
 unfold zs1 at h
 refine za0 (za1 hG ?_)
 refine za0 (za0 (za1 hG ?_))
 refine za4 rfl hG h (fun _ h=>?_) (fun _ h=>?_)
 · refine za0 (za1 hG ?_)
   refine za7 ?_
   exact zb1 h
 refine za5 ?_
 refine za0 (za0 (za1 hG ?_))
 refine zb5 (zee3) (fun v=>zW5 v=some r) ?_ ?_
 · intro j1 h
   unfold zW5 at h
   refine g_st ?_
   refine za0 (za1 hG ?_)
   refine za7 ?_
   exact zb1 h
 refine zd9 (zee4 a0) hK [] h (fun x_l1 h g1 y_l1 h_l1 hx_l1=>?_)
 unfold zN8 at h_l1
 refine g_st ?_
 refine za0 (za0 (za1 hG ?_))
 refine za4 rfl hG h_l1 (fun _ h_l1=>?_) (fun _ h_l1=>?_)
 · refine za5 ?_
   refine za0 (zb6 (za0 ?_))
   obtain ⟨hb1,h_l1⟩:=za2 h_l1
   refine za1 hG ?_
   obtain ⟨hb2,h_l1⟩:=za2 h_l1
   refine za6 (fun hg=>zad7 (a0.getD g1.toNat Wait.zero)) ?_
   obtain ⟨v1,hv1,h_l1⟩:=za3 h_l1
   refine za6 (fun hg=>zQ0 a0 ((a0.getD g1.toNat Wait.zero).proc) _ (zD1 hg hv1)) ?_
   refine za4 rfl hG h_l1 (fun _ h_l1=>?_) (fun _ h_l1=>?_)
   · refine za0 (za1 hG ?_)
     refine za7 ?_
     obtain rfl:=Option.some.inj h_l1
     have hx:=hx_l1 _ rfl
     subst hx
     try dsimp only at h
     exact zb1 h
   refine za5 ?_
   refine za1 hG ?_
   exact zc8 hK [] h_l1
 refine zc3 ?_
 obtain rfl:=Option.some.inj h_l1
 have hx:=hx_l1 _ rfl
 subst hx
 try dsimp only at h
 exact zc4 hK [] () (by exact h)
attribute [local irreducible] zs1
noncomputable def zad8  (j1:Unit):Option (Amount) :=
 some ({ Amount.zero with  })
@[go_sem] def zee5  (j1:Unit):St:=⟨[(4,.ptr 0 0 0)],[(0,⟨false,2,(Amount.enc Amount.zero),[Amount.enc Amount.zero]⟩)],1⟩
noncomputable def zT5 (a0:List Hold) (a1:Proc) (g1:Int):Option ((Int)⊕((Unit)⊕(Amount))) :=
 (if (decide (g1 < (a0.length:Int)))=true then
  gd (0≤g1∧g1 < (a0.length:Int)) <|
  (if (decide ((a0.getD g1.toNat Hold.zero).proc=a1))=true then
   gd (0≤g1∧g1 < (a0.length:Int)) <|
   some (.inr (.inr ((a0.getD g1.toNat Hold.zero).amount)))
  else
   some (.inl (IntKind.i64.wrap (g1+1))))
 else
  some (.inr (.inl ())))
@[go_sem] def zee6 (a0:List Hold) (a1:Proc) (g1:Int):St:=⟨[(0,.sl (a0.map Hold.enc)),(3,.ptr 0 0 0),(4,.ptr 1 0 0),(5,.int .i64 g1)],[(0,⟨false,3,(Proc.enc Proc.zero),[Proc.enc a1]⟩),(1,⟨false,2,(Amount.enc Amount.zero),[Amount.enc Amount.zero]⟩)],2⟩
noncomputable def zw5 (a0:List Hold) (a1:Proc):Option (Amount) :=
 (zb8 (zT5 a0 a1) 0).bind (fun | .inl z=>zad8 z | .inr z=>some z)
theorem zao2 (a0:List Hold) (a1:Proc) (r:Amount) (h:zw5 a0 a1=some r):PFn C 69 [.sl (a0.map Hold.enc),.agg (Proc.enc a1)] (.agg (Amount.enc r)):=by
 refine za8 zew3 rfl fun E hG hN hK=>?_
 unfold zde9
 unfold zw5 at h
 refine za0 (za1 hG ?_)
 refine za0 (za0 (za1 hG ?_))
 refine zb5 (zee5) (fun v=>zad8 v=some r) ?_ ?_
 · intro j1 h
   unfold zad8 at h
   refine g_st ?_
   refine za0 (za1 hG ?_)
   refine za7 ?_
   exact zb1 h
 refine zd9 (zee6 a0 a1) hK [(0,0),(1,1)] h (fun x_l1 h g1 y_l1 h_l1 hx_l1=>?_)
 unfold zT5 at h_l1
 refine g_st ?_
 refine za0 (za0 (za1 hG ?_))
 refine za4 rfl hG h_l1 (fun _ h_l1=>?_) (fun _ h_l1=>?_)
 · refine za5 ?_
   refine za0 (zb6 (za0 ?_))
   obtain ⟨hb2,h_l1⟩:=za2 h_l1
   refine zm9 zd8 hG ?_
   refine za4 rfl hG h_l1 (fun _ h_l1=>?_) (fun _ h_l1=>?_)
   · refine za0 ?_
     obtain ⟨hb1,h_l1⟩:=za2 h_l1
     refine za1 hG ?_
     refine za7 ?_
     obtain rfl:=Option.some.inj h_l1
     have hx:=hx_l1 _ rfl
     subst hx
     try dsimp only at h
     exact zb1 h
   refine za5 ?_
   refine za1 hG ?_
   exact zc8 hK [(0,0),(1,1)] h_l1
 refine zc3 ?_
 obtain rfl:=Option.some.inj h_l1
 have hx:=hx_l1 _ rfl
 subst hx
 try dsimp only at h
 exact zc4 hK [(0,1)] () (by exact h)
attribute [local irreducible] zw5
def zw6 (a0:Int) (a1:Int):Bool :=
 (if ((!(zj2 a0))||(!(zj2 a1)))=true then
  false
 else
  ((((decide (a0=a1))||(decide (a0=5)))||(decide (a1=1)))||((decide (a0=4))&&(!decide (a1=5)))))
theorem zaa4 (a0:Int) (a1:Int):PFn C 146 [.int .i64 a0,.int .i64 a1] (.bool (zw6 a0 a1)):=by
 generalize h:zw6 a0 a1=r
 refine za8 zew4 rfl fun E hG hN hK=>?_
 unfold zdf4
 unfold zw6 at h
 refine za0 (za1 hG ?_)
 refine za0 (za0 (za1 hG ?_))
 refine za6 (fun hg=>zF5 a0) ?_
 refine za6 (fun hg=>zF5 a1) ?_
 refine za4 rfl hG h (fun _ h=>?_) (fun _ h=>?_)
 · refine za0 (za1 hG ?_)
   refine za7 ?_
   exact ze9 h
 refine za5 ?_
 refine za0 (za1 hG ?_)
 refine za7 ?_
 exact ze9 h
def zf7 (a0:Resource) (a1:Amount) (a2:Amount):Bool :=
 (if ((!(zf1 a0 a1))||(!(zf1 a0 a2)))=true then
  false
 else
  (if (zc6 a2)=true then
   true
  else
   (if (zc6 a1)=true then
    false
   else
    (if (decide (a0.kind=1))=true then
     (zw6 a1.mode a2.mode)
    else
     (decide (a2.units≤a1.units))))))
theorem zI6 (a0:Resource) (a1:Amount) (a2:Amount):PFn C 101 [.agg (Resource.enc a0),.agg (Amount.enc a1),.agg (Amount.enc a2)] (.bool (zf7 a0 a1 a2)):=by
 generalize h:zf7 a0 a1 a2=r
 refine za8 zew5 rfl fun E hG hN hK=>?_
 unfold zdg5
 unfold zf7 at h
 refine za0 (za1 hG ?_)
 refine za0 (za0 (za1 hG ?_))
 refine za6 (fun hg=>zB8 a0 a1) ?_
 refine za6 (fun hg=>zB8 a0 a2) ?_
 refine za4 rfl hG h (fun _ h=>?_) (fun _ h=>?_)
 · refine za0 (za1 hG ?_)
   refine za7 ?_
   exact ze9 h
 refine za5 ?_
 refine za0 (za0 (za1 hG ?_))
 refine za6 (fun hg=>zp0 a2) ?_
 refine za4 rfl hG h (fun _ h=>?_) (fun _ h=>?_)
 · refine za0 (za1 hG ?_)
   refine za7 ?_
   exact ze9 h
 refine za5 ?_
 refine za0 (za0 (za1 hG ?_))
 refine za6 (fun hg=>zp0 a1) ?_
 refine za4 rfl hG h (fun _ h=>?_) (fun _ h=>?_)
 · refine za0 (za1 hG ?_)
   refine za7 ?_
   exact ze9 h
 refine za5 ?_
 refine za0 (za0 (za1 hG ?_))
 refine za4 rfl hG h (fun _ h=>?_) (fun _ h=>?_)
 · refine za0 (za1 hG ?_)
   refine za6 (fun hg=>zaa4 a1.mode a2.mode) ?_
   refine za7 ?_
   exact ze9 h
 refine za5 ?_
 refine za0 (za1 hG ?_)
 refine za7 ?_
 exact ze9 h
noncomputable def zW6  (j2:Unit):Option (Bool) :=
 some true
@[go_sem] def zee7  (j2:Unit):St:=⟨[],[],0⟩
noncomputable def zN9 (a0:Queue) (g1:Int):Option ((Int)⊕((Unit)⊕(Bool))) :=
 (if (decide (g1 < (a0.waits.length:Int)))=true then
  gd (0≤g1∧g1 < (a0.waits.length:Int)) <|
  gd ((zg7 a0.resource ((a0.waits.getD g1.toNat Wait.zero).amount))=true→0≤g1∧g1 < (a0.waits.length:Int)) <|
  ((if (zg7 a0.resource ((a0.waits.getD g1.toNat Wait.zero).amount))=true then zw5 a0.holds ((a0.waits.getD g1.toNat Wait.zero).proc) else some (Amount.zero))).bind fun v4 =>
  (if ((!(zg7 a0.resource ((a0.waits.getD g1.toNat Wait.zero).amount)))||(!(zc6 v4)))=true then
   some (.inr (.inr false))
  else
   some (.inl (IntKind.i64.wrap (g1+1))))
 else
  some (.inr (.inl ())))
@[go_sem] def zee8 (a0:Queue) (g1:Int):St:=⟨[(1,.ptr 0 0 0),(3,.ptr 1 0 0),(7,.int .i64 g1)],[(0,⟨false,8,(Queue.enc Queue.zero),[Queue.enc a0]⟩),(1,⟨false,4,(Resource.enc Resource.zero),[Resource.enc a0.resource]⟩)],2⟩
noncomputable def zO0 (a0:Queue) (j1:Unit):Option (Bool) :=
 (zb8 (zN9 a0) 0).bind (fun | .inl z=>zW6 z | .inr z=>some z)
@[go_sem] def zee9 (a0:Queue) (j1:Unit):St:=⟨[(1,.ptr 0 0 0),(3,.ptr 1 0 0)],[(0,⟨false,8,(Queue.enc Queue.zero),[Queue.enc a0]⟩),(1,⟨false,4,(Resource.enc Resource.zero),[Resource.enc a0.resource]⟩)],2⟩
noncomputable def zB0 (a0:Queue) (g2:Int):Option ((Int)⊕((Unit)⊕(Bool))) :=
 (if (decide (g2 < (a0.converts.length:Int)))=true then
  gd (0≤g2∧g2 < (a0.converts.length:Int)) <|
  (zw5 a0.holds ((a0.converts.getD g2.toNat Wait.zero).proc)).bind fun v5 =>
  ((if (!((((((zc6 v5)||(!(zg7 a0.resource ((a0.converts.getD g2.toNat Wait.zero).amount))))||(!(zf7 a0.resource ((a0.converts.getD g2.toNat Wait.zero).amount) v5)))||(decide ((a0.converts.getD g2.toNat Wait.zero).amount=v5)))||(!decide ((a0.converts.getD g2.toNat Wait.zero).priority=0)))||(!decide ((a0.converts.getD g2.toNat Wait.zero).passed=0))))=true then zn6 a0.converts ((a0.converts.getD g2.toNat Wait.zero).proc) else some (0))).bind fun v6 =>
  (if (((((((zc6 v5)||(!(zg7 a0.resource ((a0.converts.getD g2.toNat Wait.zero).amount))))||(!(zf7 a0.resource ((a0.converts.getD g2.toNat Wait.zero).amount) v5)))||(decide ((a0.converts.getD g2.toNat Wait.zero).amount=v5)))||(!decide ((a0.converts.getD g2.toNat Wait.zero).priority=0)))||(!decide ((a0.converts.getD g2.toNat Wait.zero).passed=0)))||(!decide (v6=g2)))=true then
   some (.inr (.inr false))
  else
   some (.inl (IntKind.i64.wrap (g2+1))))
 else
  some (.inr (.inl ())))
@[go_sem] def zef0 (a0:Queue) (g2:Int):St:=⟨[(1,.ptr 0 0 0),(3,.ptr 1 0 0),(4,.int .i64 g2)],[(0,⟨false,8,(Queue.enc Queue.zero),[Queue.enc a0]⟩),(1,⟨false,4,(Resource.enc Resource.zero),[Resource.enc a0.resource]⟩)],2⟩
noncomputable def zp2 (a0:Queue):Option (Bool) :=
 (ze3 a0.resource).bind fun v1 =>
 ((if v1=true then zp1 a0.resource a0.holds else some (false))).bind fun v2 =>
 ((if (!(((!v1)||(!v2))||(decide (8 < (a0.converts.length:Int)))))=true then zs1 a0.waits else some (false))).bind fun v3 =>
 (if (((((((!v1)||(!v2))||(decide (8 < (a0.converts.length:Int))))||(!v3))||(decide (8 < (IntKind.i64.wrap ((a0.holds.length:Int)+(a0.waits.length:Int))))))||(decide (a0.gen < 0)))||(decide (1073741824 < a0.gen)))=true then
  some false
 else
  (zb8 (zB0 a0) 0).bind (fun | .inl z=>zO0 a0 z | .inr z=>some z))
theorem zad9 (a0:Queue) (r:Bool) (h:zp2 a0=some r):PFn C 141 [.agg (Queue.enc a0)] (.bool r):=by
 refine za8 zew6 rfl fun E hG hN hK=>?_
 unfold zdh6
 unfold zp2 at h
 refine za0 (za1 hG ?_)
 refine za0 (za1 hG ?_)
 refine za0 (za0 (za1 hG ?_))
 obtain ⟨v1,hv1,h⟩:=za3 h
 refine za6 (fun hg=>zS8 a0.resource _ (hv1)) ?_
 obtain ⟨v2,hv2,h⟩:=za3 h
 refine za6 (fun hg=>zad6 a0.resource a0.holds _ (zD1 hg hv2)) ?_
 obtain ⟨v3,hv3,h⟩:=za3 h
 refine za6 (fun hg=>zat6 a0.waits _ (zD1 hg hv3)) ?_
 refine za4 rfl hG h (fun _ h=>?_) (fun _ h=>?_)
 · refine za0 (za1 hG ?_)
   refine za7 ?_
   exact zb1 h
 refine za5 ?_
 refine za0 (za0 (za1 hG ?_))
 refine zb5 (zee9 a0) (fun v=>zO0 a0 v=some r) ?_ ?_
 · intro j1 h
   unfold zO0 at h
   refine g_st ?_
   refine za0 (za0 (za1 hG ?_))
   refine zb5 (zee7) (fun v=>zW6 v=some r) ?_ ?_
   · intro j2 h
     unfold zW6 at h
     refine g_st ?_
     refine za0 (za1 hG ?_)
     refine za7 ?_
     exact zb1 h
   refine zd9 (zee8 a0) hK [(0,0),(1,1)] h (fun x_l1 h g1 y_l1 h_l1 hx_l1=>?_)
   unfold zN9 at h_l1
   refine g_st ?_
   refine za0 (za0 (za1 hG ?_))
   refine za4 rfl hG h_l1 (fun _ h_l1=>?_) (fun _ h_l1=>?_)
   · refine za5 ?_
     refine za0 (zb6 (za0 ?_))
     obtain ⟨hb1,h_l1⟩:=za2 h_l1
     refine zm9 zd8 hG ?_
     obtain ⟨hb2,h_l1⟩:=za2 h_l1
     refine zf8 (fun hg=>zJ1 a0.resource ((a0.waits.getD g1.toNat Wait.zero).amount)) ?_
     obtain ⟨v4,hv4,h_l1⟩:=za3 h_l1
     refine zf8 (fun hg=>zao2 a0.holds ((a0.waits.getD g1.toNat Wait.zero).proc) _ (zD1 hg hv4)) ?_
     refine zf8 (fun hg=>zp0 v4) ?_
     refine za4 rfl hG h_l1 (fun _ h_l1=>?_) (fun _ h_l1=>?_)
     · refine za0 (za1 hG ?_)
       refine za7 ?_
       obtain rfl:=Option.some.inj h_l1
       have hx:=hx_l1 _ rfl
       subst hx
       try dsimp only at h
       exact zb1 h
     refine za5 ?_
     refine za1 hG ?_
     exact zc8 hK [(0,0),(1,1)] h_l1
   refine zc3 ?_
   obtain rfl:=Option.some.inj h_l1
   have hx:=hx_l1 _ rfl
   subst hx
   try dsimp only at h
   exact zc4 hK [] () (by exact h)
 refine zd9 (zef0 a0) hK [(0,0),(1,1)] h (fun x_l2 h g2 y_l2 h_l2 hx_l2=>?_)
 unfold zB0 at h_l2
 refine g_st ?_
 refine za0 (za0 (za1 hG ?_))
 refine za4 rfl hG h_l2 (fun _ h_l2=>?_) (fun _ h_l2=>?_)
 · refine za5 ?_
   refine za0 (zb6 (za0 ?_))
   obtain ⟨hb3,h_l2⟩:=za2 h_l2
   refine za1 hG ?_
   refine za0 (za1 hG ?_)
   obtain ⟨v5,hv5,h_l2⟩:=za3 h_l2
   refine za6 (fun hg=>zao2 a0.holds ((a0.converts.getD g2.toNat Wait.zero).proc) _ (hv5)) ?_
   refine za0 (za1 hG ?_)
   refine za6 (fun hg=>zp0 v5) ?_
   refine za6 (fun hg=>zJ1 a0.resource ((a0.converts.getD g2.toNat Wait.zero).amount)) ?_
   refine za6 (fun hg=>zI6 a0.resource ((a0.converts.getD g2.toNat Wait.zero).amount) v5) ?_
   obtain ⟨v6,hv6,h_l2⟩:=za3 h_l2
   refine za6 (fun hg=>zQ0 a0.converts ((a0.converts.getD g2.toNat Wait.zero).proc) _ (zD1 hg hv6)) ?_
   refine za4 rfl hG h_l2 (fun _ h_l2=>?_) (fun _ h_l2=>?_)
   · refine za0 (za1 hG ?_)
     refine za7 ?_
     obtain rfl:=Option.some.inj h_l2
     have hx:=hx_l2 _ rfl
     subst hx
     try dsimp only at h
     exact zb1 h
   refine za5 ?_
   refine za1 hG ?_
   exact zc8 hK [(0,0),(1,1)] h_l2
 refine zc3 ?_
 obtain rfl:=Option.some.inj h_l2
 have hx:=hx_l2 _ rfl
 subst hx
 try dsimp only at h
 exact zc4 hK [(0,0),(1,1)] () (by exact h)
attribute [local irreducible] zp2
noncomputable def zz7 (a0:Queue):Option (Wait×Bool) :=
 (if (decide (0 < (a0.converts.length:Int)))=true then
  gd (0≤0∧0 < (a0.converts.length:Int)) <|
  some ((a0.converts.getD 0 Wait.zero),true)
 else
  (if (decide (0 < (a0.waits.length:Int)))=true then
   gd (0≤0∧0 < (a0.waits.length:Int)) <|
   some ((a0.waits.getD 0 Wait.zero),true)
  else
   some ({ Wait.zero with  },false)))
theorem zaA3 (a0:Queue) (r:Wait×Bool) (h:zz7 a0=some r):PFn C 165 [.agg (Queue.enc a0)] (.tup [.agg (Wait.enc r.1),.bool r.2]):=by
 refine za8 zew7 rfl fun E hG hN hK=>?_
 unfold zdi3
 unfold zz7 at h
 refine za0 (za1 hG ?_)
 refine za0 (za0 (za1 hG ?_))
 refine za4 rfl hG h (fun _ h=>?_) (fun _ h=>?_)
 · refine za0 ?_
   obtain ⟨hb1,h⟩:=za2 h
   refine za1 hG ?_
   refine za7 ?_
   exact zb1 h
 refine za5 ?_
 refine za0 (za0 (za1 hG ?_))
 refine za4 rfl hG h (fun _ h=>?_) (fun _ h=>?_)
 · refine za0 ?_
   obtain ⟨hb2,h⟩:=za2 h
   refine za1 hG ?_
   refine za7 ?_
   exact zb1 h
 refine za5 ?_
 refine za0 (za1 hG ?_)
 refine za7 ?_
 exact zb1 h
attribute [local irreducible] zz7
noncomputable def zT6 (a1:Proc) (a2:Amount) (j1:Bool×(List Hold)):Option ((List Hold)) :=
 (if (!j1.1)=true then
  gd (j1.2.length+1≤4294967296) <|
  some (j1.2++[(⟨a1,a2⟩:Hold)])
 else
  some j1.2)
@[go_sem] def zef1 (a1:Proc) (a2:Amount) (j1:Bool×(List Hold)):St:=⟨[(4,.ptr 0 0 0),(5,.ptr 1 0 0),(7,.own 2 0 j1.2.length),(8,.bool j1.1)],[(0,⟨false,3,(Proc.enc Proc.zero),[Proc.enc a1]⟩),(1,⟨false,2,(Amount.enc Amount.zero),[Amount.enc a2]⟩),(2,⟨false,5,(Hold.enc Hold.zero),j1.2.map Hold.enc⟩)],3⟩
noncomputable def zM0 (a0:List Hold) (a1:Proc) (a2:Amount) (g1:Bool×Int×(List Hold)):Option ((Bool×Int×(List Hold))⊕((Bool×(List Hold)))) :=
 (if (decide (g1.2.1 < (a0.length:Int)))=true then
  gd (0≤g1.2.1∧g1.2.1 < (a0.length:Int)) <|
  (if (decide ((a0.getD g1.2.1.toNat Hold.zero).proc=a1))=true then
   some (.inl (g1.1,(IntKind.i64.wrap (g1.2.1+1)),g1.2.2))
  else
   gd ((!g1.1)=true→0≤g1.2.1∧g1.2.1 < (a0.length:Int)) <|
   (if ((!g1.1)&&(decide (0 < (zi5 ((a0.getD g1.2.1.toNat Hold.zero).proc) a1))))=true then
    gd (g1.2.2.length+1≤4294967296) <|
    gd (0≤g1.2.1∧g1.2.1 < (a0.length:Int)) <|
    gd (g1.2.2.length+1+1≤4294967296) <|
    some (.inl (true,(IntKind.i64.wrap (g1.2.1+1)),((g1.2.2++[(⟨a1,a2⟩:Hold)])++[(a0.getD g1.2.1.toNat Hold.zero)])))
   else
    gd (0≤g1.2.1∧g1.2.1 < (a0.length:Int)) <|
    gd (g1.2.2.length+1≤4294967296) <|
    some (.inl (g1.1,(IntKind.i64.wrap (g1.2.1+1)),(g1.2.2++[(a0.getD g1.2.1.toNat Hold.zero)])))))
 else
  some (.inr (g1.1,g1.2.2)))
@[go_sem] def zef2 (a0:List Hold) (a1:Proc) (a2:Amount) (g1:Bool×Int×(List Hold)):St:=⟨[(0,.sl (a0.map Hold.enc)),(4,.ptr 0 0 0),(5,.ptr 1 0 0),(7,.own 2 0 g1.2.2.length),(8,.bool g1.1),(9,.int .i64 g1.2.1)],[(0,⟨false,3,(Proc.enc Proc.zero),[Proc.enc a1]⟩),(1,⟨false,2,(Amount.enc Amount.zero),[Amount.enc a2]⟩),(2,⟨false,5,(Hold.enc Hold.zero),g1.2.2.map Hold.enc⟩)],3⟩
noncomputable def zq8 (a0:List Hold) (a1:Proc) (a2:Amount):Option ((List Hold)) :=
 (zb8 (zM0 a0 a1 a2) ((zc6 a2),0,[])).bind (fun z=>zT6 a1 a2 z)
theorem zab5 (a0:List Hold) (a1:Proc) (a2:Amount) (r:(List Hold)) (h:zq8 a0 a1 a2=some r):PFn C 28 [.sl (a0.map Hold.enc),.agg (Proc.enc a1),.agg (Amount.enc a2)] (.sl (r.map Hold.enc)):=by
 refine za8 zew8 rfl fun E hG hN hK=>?_
 unfold zdj4
 unfold zq8 at h
 refine za0 (za1 hG ?_)
 refine za0 (za1 hG ?_)
 refine za0 (za1 hG ?_)
 refine za6 (fun hg=>zp0 a2) ?_
 refine za0 (za0 (za1 hG ?_))
 refine zb5 (zef1 a1 a2) (fun v=>zT6 a1 a2 v=some r) ?_ ?_
 · intro j1 h
   unfold zT6 at h
   refine g_st ?_
   refine za0 (za0 (za1 hG ?_))
   refine za4 rfl hG h (fun _ h=>?_) (fun _ h=>?_)
   · obtain ⟨hb1,h⟩:=za2 h
     refine za1 hG ?_
     refine za0 (za1 hG ?_)
     refine za7 ?_
     exact zb1 h
   refine za5 ?_
   refine za0 (za1 hG ?_)
   refine za7 ?_
   exact zb1 h
 refine zd9 (zef2 a0 a1 a2) hK [(0,0),(1,1),(2,2)] h (fun x_l1 h g1 y_l1 h_l1 hx_l1=>?_)
 unfold zM0 at h_l1
 refine g_st ?_
 refine za0 (za0 (za1 hG ?_))
 refine za4 rfl hG h_l1 (fun _ h_l1=>?_) (fun _ h_l1=>?_)
 · refine za5 ?_
   refine za0 (zb6 (za0 (za0 ?_)))
   obtain ⟨hb8,h_l1⟩:=za2 h_l1
   refine zm9 zd8 hG ?_
   refine za4 rfl hG h_l1 (fun _ h_l1=>?_) (fun _ h_l1=>?_)
   · refine zc3 ?_
     refine za1 hG ?_
     exact zc8 hK [(0,0),(1,1),(2,2)] h_l1
   refine za5 ?_
   refine za0 (za0 ?_)
   obtain ⟨hb7,h_l1⟩:=za2 h_l1
   refine zm9 zd8 hG ?_
   refine zf8 (fun hg=>zL9 ((a0.getD g1.2.1.toNat Hold.zero).proc) a1) ?_
   refine za4 rfl hG h_l1 (fun _ h_l1=>?_) (fun _ h_l1=>?_)
   · refine za0 ?_
     obtain ⟨hb4,h_l1⟩:=za2 h_l1
     refine za1 hG ?_
     refine za1 hG ?_
     obtain ⟨hb2,h_l1⟩:=za2 h_l1
     obtain ⟨hb3,h_l1⟩:=za2 h_l1
     refine za1 hG ?_
     refine za1 hG ?_
     exact zc8 hK [(0,0),(1,1),(2,4)] h_l1
   refine za5 ?_
   obtain ⟨hb5,h_l1⟩:=za2 h_l1
   obtain ⟨hb6,h_l1⟩:=za2 h_l1
   refine za1 hG ?_
   refine za1 hG ?_
   exact zc8 hK [(0,0),(1,1),(2,3)] h_l1
 refine zc3 ?_
 obtain rfl:=Option.some.inj h_l1
 have hx:=hx_l1 _ rfl
 subst hx
 try dsimp only at h
 exact zc4 hK [(0,0),(1,1),(2,2)] (g1.1,g1.2.2) (by exact h)
attribute [local irreducible] zq8
noncomputable def zz8 (a0:Resource) (a1:List Hold) (a2:Proc) (a3:Amount):Option (Bool) :=
 (zp1 a0 a1).bind fun v1 =>
 ((if ((v1&&(ze5 a2))&&(zg7 a0 a3))=true then zq8 a1 a2 a3 else some ([]))).bind fun v2 =>
 ((if ((v1&&(ze5 a2))&&(zg7 a0 a3))=true then zp1 a0 v2 else some (false))).bind fun v3 =>
 some (((v1&&(ze5 a2))&&(zg7 a0 a3))&&v3)
theorem zbe4 (a0:Resource) (a1:List Hold) (a2:Proc) (a3:Amount) (r:Bool) (h:zz8 a0 a1 a2 a3=some r):PFn C 166 [.agg (Resource.enc a0),.sl (a1.map Hold.enc),.agg (Proc.enc a2),.agg (Amount.enc a3)] (.bool r):=by
 refine za8 zew9 rfl fun E hG hN hK=>?_
 unfold zdj7
 unfold zz8 at h
 refine za0 (za1 hG ?_)
 refine za0 (zm9 zd8 hG ?_)
 obtain ⟨v1,hv1,h⟩:=za3 h
 refine zf8 (fun hg=>zad6 a0 a1 _ (hv1)) ?_
 refine zf8 (fun hg=>zH4 a2) ?_
 refine zf8 (fun hg=>zJ1 a0 a3) ?_
 obtain ⟨v2,hv2,h⟩:=za3 h
 refine zf8 (fun hg=>zab5 a1 a2 a3 _ (zD1 hg hv2)) ?_
 obtain ⟨v3,hv3,h⟩:=za3 h
 refine zf8 (fun hg=>zad6 a0 v2 _ (zD1 hg hv3)) ?_
 refine za7 ?_
 exact zb1 h
attribute [local irreducible] zz8
noncomputable def zm4 (a0:Queue):Option (Bool) :=
 (zp2 a0).bind fun v1 =>
 (if (!v1)=true then
  some false
 else
  (zz7 a0).bind fun v2 =>
  ((if v2.2=true then zz8 a0.resource a0.holds v2.1.proc v2.1.amount else some (false))).bind fun v3 =>
  some ((!v2.2)||(!v3)))
theorem zal3 (a0:Queue) (r:Bool) (h:zm4 a0=some r):PFn C 142 [.agg (Queue.enc a0)] (.bool r):=by
 refine za8 zex0 rfl fun E hG hN hK=>?_
 unfold zdk3
 unfold zm4 at h
 refine za0 (za1 hG ?_)
 refine za0 (za0 (za1 hG ?_))
 obtain ⟨v1,hv1,h⟩:=za3 h
 refine za6 (fun hg=>zad9 a0 _ (hv1)) ?_
 refine za4 rfl hG h (fun _ h=>?_) (fun _ h=>?_)
 · refine za0 (za1 hG ?_)
   refine za7 ?_
   exact zb1 h
 refine za5 ?_
 refine za0 (za1 hG ?_)
 obtain ⟨v2,hv2,h⟩:=za3 h
 refine za6 (fun hg=>zaA3 a0 _ (hv2)) ?_
 refine za0 (za1 hG ?_)
 obtain ⟨v3,hv3,h⟩:=za3 h
 refine za6 (fun hg=>zbe4 a0.resource a0.holds v2.1.proc v2.1.amount _ (zD1 hg hv3)) ?_
 refine za7 ?_
 exact zb1 h
attribute [local irreducible] zm4
noncomputable def zk7 (a0:Queue):Option (Bool) :=
 (zp2 a0).bind fun v1 =>
 ((if v1=true then zm4 a0 else some (false))).bind fun v2 =>
 some (v1&&v2)
theorem zT7 (a0:Queue) (r:Bool) (h:zk7 a0=some r):PFn C 96 [.agg (Queue.enc a0)] (.bool r):=by
 refine za8 zex1 rfl fun E hG hN hK=>?_
 unfold zdk6
 unfold zk7 at h
 refine za0 (za1 hG ?_)
 refine za0 (za1 hG ?_)
 obtain ⟨v1,hv1,h⟩:=za3 h
 refine za6 (fun hg=>zad9 a0 _ (hv1)) ?_
 obtain ⟨v2,hv2,h⟩:=za3 h
 refine za6 (fun hg=>zal3 a0 _ (zD1 hg hv2)) ?_
 refine za7 ?_
 exact zb1 h
attribute [local irreducible] zk7
noncomputable def zW7  (j1:Unit):Option (Bool) :=
 some true
@[go_sem] def zef3  (j1:Unit):St:=⟨[],[],0⟩
noncomputable def zO1 (a0:List Queue) (g1:Int):Option ((Int)⊕((Unit)⊕(Bool))) :=
 (if (decide (g1 < (a0.length:Int)))=true then
  gd (0≤g1∧g1 < (a0.length:Int)) <|
  (zk7 (a0.getD g1.toNat Queue.zero)).bind fun v1 =>
  gd ((v1&&(decide (0 < g1)))=true→0≤(IntKind.i64.wrap (g1 - 1))∧(IntKind.i64.wrap (g1 - 1)) < (a0.length:Int)) <|
  gd ((v1&&(decide (0 < g1)))=true→0≤g1∧g1 < (a0.length:Int)) <|
  (if ((!v1)||((decide (0 < g1))&&(!Op.bytesLess (((a0.getD ((IntKind.i64.wrap (g1 - 1)).toNat) Queue.zero).resource).name).toList (((a0.getD g1.toNat Queue.zero).resource).name).toList)))=true then
   some (.inr (.inr false))
  else
   some (.inl (IntKind.i64.wrap (g1+1))))
 else
  some (.inr (.inl ())))
@[go_sem] def zef4 (a0:List Queue) (g1:Int):St:=⟨[(0,.sl (a0.map Queue.enc)),(3,.int .i64 g1)],[],0⟩
noncomputable def zv6 (a0:List Queue):Option (Bool) :=
 (if (decide (8 < (a0.length:Int)))=true then
  some false
 else
  (zb8 (zO1 a0) 0).bind (fun | .inl z=>zW7 z | .inr z=>some z))
theorem zaY0 (a0:List Queue) (r:Bool) (h:zv6 a0=some r):PFn C 75 [.sl (a0.map Queue.enc)] (.bool r):=by
 refine za8 zex2 rfl fun E hG hN hK=>?_
 unfold zdl6
 unfold zv6 at h
 refine za0 (za1 hG ?_)
 refine za0 (za0 (za1 hG ?_))
 refine za4 rfl hG h (fun _ h=>?_) (fun _ h=>?_)
 · refine za0 (za1 hG ?_)
   refine za7 ?_
   exact zb1 h
 refine za5 ?_
 refine za0 (za0 (za1 hG ?_))
 refine zb5 (zef3) (fun v=>zW7 v=some r) ?_ ?_
 · intro j1 h
   unfold zW7 at h
   refine g_st ?_
   refine za0 (za1 hG ?_)
   refine za7 ?_
   exact zb1 h
 refine zd9 (zef4 a0) hK [] h (fun x_l1 h g1 y_l1 h_l1 hx_l1=>?_)
 unfold zO1 at h_l1
 refine g_st ?_
 refine za0 (za0 (za1 hG ?_))
 refine za4 rfl hG h_l1 (fun _ h_l1=>?_) (fun _ h_l1=>?_)
 · refine za5 ?_
   refine za0 (zb6 (za0 ?_))
   obtain ⟨hb1,h_l1⟩:=za2 h_l1
   refine zm9 zd8 hG ?_
   obtain ⟨v1,hv1,h_l1⟩:=za3 h_l1
   obtain ⟨hb2,h_l1⟩:=za2 h_l1
   obtain ⟨hb3,h_l1⟩:=za2 h_l1
   refine zf8 (fun hg=>zT7 (a0.getD g1.toNat Queue.zero) _ (hv1)) ?_
   refine za4 rfl hG h_l1 (fun _ h_l1=>?_) (fun _ h_l1=>?_)
   · refine za0 (za1 hG ?_)
     refine za7 ?_
     obtain rfl:=Option.some.inj h_l1
     have hx:=hx_l1 _ rfl
     subst hx
     try dsimp only at h
     exact zb1 h
   refine za5 ?_
   refine za1 hG ?_
   exact zc8 hK [] h_l1
 refine zc3 ?_
 obtain rfl:=Option.some.inj h_l1
 have hx:=hx_l1 _ rfl
 subst hx
 try dsimp only at h
 exact zc4 hK [] () (by exact h)
attribute [local irreducible] zv6
noncomputable def zR2  (j1:(List Proc)):Option ((List Proc)) :=
 some j1
@[go_sem] def zef5  (j1:(List Proc)):St:=⟨[(3,.own 0 0 j1.length)],[(0,⟨false,3,(Proc.enc Proc.zero),j1.map Proc.enc⟩)],1⟩
noncomputable def zH6 (a0:List Hold) (g1:Int×(List Proc)):Option ((Int×(List Proc))⊕(((List Proc)))) :=
 (if (decide (g1.1 < (a0.length:Int)))=true then
  gd (0≤g1.1∧g1.1 < (a0.length:Int)) <|
  gd (g1.2.length+1≤4294967296) <|
  some (.inl ((IntKind.i64.wrap (g1.1+1)),(g1.2++[(a0.getD g1.1.toNat Hold.zero).proc])))
 else
  some (.inr g1.2))
@[go_sem] def zef6 (a0:List Hold) (g1:Int×(List Proc)):St:=⟨[(0,.sl (a0.map Hold.enc)),(3,.own 0 0 g1.2.length),(4,.int .i64 g1.1)],[(0,⟨false,3,(Proc.enc Proc.zero),g1.2.map Proc.enc⟩)],1⟩
noncomputable def zp7 (a0:List Hold):Option ((List Proc)) :=
 (zb8 (zH6 a0) (0,[])).bind (fun z=>zR2 z)
theorem zaF7 (a0:List Hold) (r:(List Proc)) (h:zp7 a0=some r):MFn C 114 [.sl (a0.map Hold.enc)] [] 0 (.own 0 0 r.length) [(0,⟨false,3,(Proc.enc Proc.zero),r.map Proc.enc⟩)] 1:=by
 refine zl5 (rl:=[.own 0 0 r.length]) zex3 rfl rfl rfl rfl fun E hG hN hK=>?_
 unfold zdm4
 unfold zp7 at h
 refine za0 (za1 hG ?_)
 refine za0 (za1 hG ?_)
 refine za0 (za0 (za1 hG ?_))
 refine zb5 (zef5) (fun v=>zR2 v=some r) ?_ ?_
 · intro j1 h
   unfold zR2 at h
   refine g_st ?_
   refine za0 (za1 hG ?_)
   refine za7 ?_
   exact zz5 [(0,0)] h
 refine zd9 (zef6 a0) hK [(0,1)] h (fun x_l1 h g1 y_l1 h_l1 hx_l1=>?_)
 unfold zH6 at h_l1
 refine g_st ?_
 refine za0 (za0 (za1 hG ?_))
 refine za4 rfl hG h_l1 (fun _ h_l1=>?_) (fun _ h_l1=>?_)
 · refine za5 ?_
   refine za0 (zb6 ?_)
   obtain ⟨hb1,h_l1⟩:=za2 h_l1
   obtain ⟨hb2,h_l1⟩:=za2 h_l1
   refine za1 hG ?_
   refine za1 hG ?_
   exact zc8 hK [(0,1)] h_l1
 refine zc3 ?_
 obtain rfl:=Option.some.inj h_l1
 have hx:=hx_l1 _ rfl
 subst hx
 try dsimp only at h
 exact zc4 hK [(0,0)] g1.2 (by exact h)
attribute [local irreducible] zp7
noncomputable def zO2  (j2:(List Proc)):Option ((List Proc)) :=
 some j2
@[go_sem] def zef7  (j2:(List Proc)):St:=⟨[(3,.own 0 0 j2.length)],[(0,⟨false,3,(Proc.enc Proc.zero),j2.map Proc.enc⟩)],1⟩
noncomputable def zO3 (a0:Queue) (g1:Int×(List Proc)):Option ((Int×(List Proc))⊕(((List Proc)))) :=
 (if (decide (g1.1 < (a0.waits.length:Int)))=true then
  gd (0≤g1.1∧g1.1 < (a0.waits.length:Int)) <|
  gd (g1.2.length+1≤4294967296) <|
  some (.inl ((IntKind.i64.wrap (g1.1+1)),(g1.2++[(a0.waits.getD g1.1.toNat Wait.zero).proc])))
 else
  some (.inr g1.2))
@[go_sem] def zef8 (a0:Queue) (g1:Int×(List Proc)):St:=⟨[(1,.ptr 0 0 0),(3,.own 1 0 g1.2.length),(5,.int .i64 g1.1)],[(0,⟨false,8,(Queue.enc Queue.zero),[Queue.enc a0]⟩),(1,⟨false,3,(Proc.enc Proc.zero),g1.2.map Proc.enc⟩)],2⟩
noncomputable def zO4 (a0:Queue) (j1:(List Proc)):Option ((List Proc)) :=
 (zb8 (zO3 a0) (0,j1)).bind (fun z=>zO2 z)
@[go_sem] def zef9 (a0:Queue) (j1:(List Proc)):St:=⟨[(1,.ptr 0 0 0),(3,.own 1 0 j1.length)],[(0,⟨false,8,(Queue.enc Queue.zero),[Queue.enc a0]⟩),(1,⟨false,3,(Proc.enc Proc.zero),j1.map Proc.enc⟩)],2⟩
noncomputable def zO5 (a0:Queue) (g2:Int×(List Proc)):Option ((Int×(List Proc))⊕(((List Proc)))) :=
 (if (decide (g2.1 < (a0.converts.length:Int)))=true then
  gd (0≤g2.1∧g2.1 < (a0.converts.length:Int)) <|
  gd (g2.2.length+1≤4294967296) <|
  some (.inl ((IntKind.i64.wrap (g2.1+1)),(g2.2++[(a0.converts.getD g2.1.toNat Wait.zero).proc])))
 else
  some (.inr g2.2))
@[go_sem] def zeg0 (a0:Queue) (g2:Int×(List Proc)):St:=⟨[(1,.ptr 0 0 0),(3,.own 1 0 g2.2.length),(4,.int .i64 g2.1)],[(0,⟨false,8,(Queue.enc Queue.zero),[Queue.enc a0]⟩),(1,⟨false,3,(Proc.enc Proc.zero),g2.2.map Proc.enc⟩)],2⟩
noncomputable def zv7 (a0:Queue):Option ((List Proc)) :=
 (zb8 (zO5 a0) (0,[])).bind (fun z=>zO4 a0 z)
theorem zaY1 (a0:Queue) (r:(List Proc)) (h:zv7 a0=some r):PFn C 115 [.agg (Queue.enc a0)] (.sl (r.map Proc.enc)):=by
 refine za8 zex4 rfl fun E hG hN hK=>?_
 unfold zdn5
 unfold zv7 at h
 refine za0 (za1 hG ?_)
 refine za0 (za1 hG ?_)
 refine za0 (za0 (za1 hG ?_))
 refine zb5 (zef9 a0) (fun v=>zO4 a0 v=some r) ?_ ?_
 · intro j1 h
   unfold zO4 at h
   refine g_st ?_
   refine za0 (za0 (za1 hG ?_))
   refine zb5 (zef7) (fun v=>zO2 v=some r) ?_ ?_
   · intro j2 h
     unfold zO2 at h
     refine g_st ?_
     refine za0 (za1 hG ?_)
     refine za7 ?_
     exact zb1 h
   refine zd9 (zef8 a0) hK [(0,0),(1,1)] h (fun x_l1 h g1 y_l1 h_l1 hx_l1=>?_)
   unfold zO3 at h_l1
   refine g_st ?_
   refine za0 (za0 (za1 hG ?_))
   refine za4 rfl hG h_l1 (fun _ h_l1=>?_) (fun _ h_l1=>?_)
   · refine za5 ?_
     refine za0 (zb6 ?_)
     obtain ⟨hb1,h_l1⟩:=za2 h_l1
     obtain ⟨hb2,h_l1⟩:=za2 h_l1
     refine za1 hG ?_
     refine za1 hG ?_
     exact zc8 hK [(0,0),(1,2)] h_l1
   refine zc3 ?_
   obtain rfl:=Option.some.inj h_l1
   have hx:=hx_l1 _ rfl
   subst hx
   try dsimp only at h
   exact zc4 hK [(0,1)] g1.2 (by exact h)
 refine zd9 (zeg0 a0) hK [(0,0),(1,1)] h (fun x_l2 h g2 y_l2 h_l2 hx_l2=>?_)
 unfold zO5 at h_l2
 refine g_st ?_
 refine za0 (za0 (za1 hG ?_))
 refine za4 rfl hG h_l2 (fun _ h_l2=>?_) (fun _ h_l2=>?_)
 · refine za5 ?_
   refine za0 (zb6 ?_)
   obtain ⟨hb3,h_l2⟩:=za2 h_l2
   obtain ⟨hb4,h_l2⟩:=za2 h_l2
   refine za1 hG ?_
   refine za1 hG ?_
   exact zc8 hK [(0,0),(1,2)] h_l2
 refine zc3 ?_
 obtain rfl:=Option.some.inj h_l2
 have hx:=hx_l2 _ rfl
 subst hx
 try dsimp only at h
 exact zc4 hK [(0,0),(1,1)] g2.2 (by exact h)
attribute [local irreducible] zv7
noncomputable def zH7  (j1:Unit):Option (Bool) :=
 some false
@[go_sem] def zeg1  (j1:Unit):St:=⟨[],[],0⟩
noncomputable def zB9 (a0:List Proc) (a1:Proc) (g1:Int):Option ((Int)⊕((Unit)⊕(Bool))) :=
 (if (decide (g1 < (a0.length:Int)))=true then
  gd (0≤g1∧g1 < (a0.length:Int)) <|
  (if (decide ((a0.getD g1.toNat Proc.zero)=a1))=true then
   some (.inr (.inr true))
  else
   some (.inl (IntKind.i64.wrap (g1+1))))
 else
  some (.inr (.inl ())))
@[go_sem] def zeg2 (a0:List Proc) (a1:Proc) (g1:Int):St:=⟨[(0,.sl (a0.map Proc.enc)),(3,.ptr 0 0 0),(5,.int .i64 g1)],[(0,⟨false,3,(Proc.enc Proc.zero),[Proc.enc a1]⟩)],1⟩
noncomputable def zm5 (a0:List Proc) (a1:Proc):Option (Bool) :=
 (zb8 (zB9 a0 a1) 0).bind (fun | .inl z=>zH7 z | .inr z=>some z)
theorem zal4 (a0:List Proc) (a1:Proc) (r:Bool) (h:zm5 a0 a1=some r):PFn C 59 [.sl (a0.map Proc.enc),.agg (Proc.enc a1)] (.bool r):=by
 refine za8 zex5 rfl fun E hG hN hK=>?_
 unfold zdo3
 unfold zm5 at h
 refine za0 (za1 hG ?_)
 refine za0 (za0 (za1 hG ?_))
 refine zb5 (zeg1) (fun v=>zH7 v=some r) ?_ ?_
 · intro j1 h
   unfold zH7 at h
   refine g_st ?_
   refine za0 (za1 hG ?_)
   refine za7 ?_
   exact zb1 h
 refine zd9 (zeg2 a0 a1) hK [(0,0)] h (fun x_l1 h g1 y_l1 h_l1 hx_l1=>?_)
 unfold zB9 at h_l1
 refine g_st ?_
 refine za0 (za0 (za1 hG ?_))
 refine za4 rfl hG h_l1 (fun _ h_l1=>?_) (fun _ h_l1=>?_)
 · refine za5 ?_
   refine za0 (zb6 (za0 ?_))
   obtain ⟨hb1,h_l1⟩:=za2 h_l1
   refine zm9 zd8 hG ?_
   refine za4 rfl hG h_l1 (fun _ h_l1=>?_) (fun _ h_l1=>?_)
   · refine za0 (za1 hG ?_)
     refine za7 ?_
     obtain rfl:=Option.some.inj h_l1
     have hx:=hx_l1 _ rfl
     subst hx
     try dsimp only at h
     exact zb1 h
   refine za5 ?_
   refine za1 hG ?_
   exact zc8 hK [(0,0)] h_l1
 refine zc3 ?_
 obtain rfl:=Option.some.inj h_l1
 have hx:=hx_l1 _ rfl
 subst hx
 try dsimp only at h
 exact zc4 hK [] () (by exact h)
attribute [local irreducible] zm5
noncomputable def zM1  (j1:(List Proc)):Option ((List Proc)) :=
 some j1
@[go_sem] def zeg3  (j1:(List Proc)):St:=⟨[(3,.own 0 0 j1.length)],[(0,⟨false,3,(Proc.enc Proc.zero),j1.map Proc.enc⟩)],1⟩
noncomputable def zD4 (g1:Int×(List Proc)) (j2:(List Proc)):Option ((Int×(List Proc))⊕(((List Proc)))) :=
 some (.inl ((IntKind.i64.wrap (g1.1+1)),j2))
@[go_sem] def zeg4 (a0:List Proc) (g1:Int×(List Proc)) (j2:(List Proc)):St:=⟨[(0,.sl (a0.map Proc.enc)),(3,.own 0 0 j2.length),(4,.int .i64 g1.1)],[(0,⟨false,3,(Proc.enc Proc.zero),j2.map Proc.enc⟩)],1⟩
noncomputable def zw7  (g2:Int×(List Proc)):Option ((Int×(List Proc))⊕(((List Proc)))) :=
 gd ((decide (0 < g2.1))=true→0≤(IntKind.i64.wrap (g2.1 - 1))∧(IntKind.i64.wrap (g2.1 - 1)) < ((g2.2.length:Nat):Int)) <|
 gd ((decide (0 < g2.1))=true→0≤g2.1∧g2.1 < ((g2.2.length:Nat):Int)) <|
 (if ((decide (0 < g2.1))&&(decide (0 < (zi5 (g2.2.getD ((IntKind.i64.wrap (g2.1 - 1)).toNat) Proc.zero) (g2.2.getD g2.1.toNat Proc.zero)))))=true then
  gd (0≤(IntKind.i64.wrap (g2.1 - 1))∧(IntKind.i64.wrap (g2.1 - 1)) < ((g2.2.length:Nat):Int)) <|
  gd (0≤g2.1∧g2.1 < ((g2.2.length:Nat):Int)) <|
  gd (0≤(IntKind.i64.wrap (g2.1 - 1))∧(IntKind.i64.wrap (g2.1 - 1)) < ((g2.2.length:Nat):Int)) <|
  gd (0≤g2.1∧g2.1 < ((g2.2.length:Nat):Int)) <|
  some (.inl ((IntKind.i64.wrap (g2.1 - 1)),((g2.2.set ((IntKind.i64.wrap (g2.1 - 1)).toNat) (g2.2.getD g2.1.toNat Proc.zero)).set g2.1.toNat (g2.2.getD ((IntKind.i64.wrap (g2.1 - 1)).toNat) Proc.zero))))
 else
  some (.inr g2.2))
@[go_sem] def zeg5 (a0:List Proc) (g1:Int×(List Proc)) (g2:Int×(List Proc)):St:=⟨[(0,.sl (a0.map Proc.enc)),(3,.own 0 0 g2.2.length),(4,.int .i64 g1.1),(5,.int .i64 g2.1)],[(0,⟨false,3,(Proc.enc Proc.zero),g2.2.map Proc.enc⟩)],1⟩
noncomputable def zw8 (a0:List Proc) (g1:Int×(List Proc)):Option ((Int×(List Proc))⊕(((List Proc)))) :=
 (if (decide (g1.1 < (a0.length:Int)))=true then
  gd (0≤g1.1∧g1.1 < (a0.length:Int)) <|
  (zm5 g1.2 (a0.getD g1.1.toNat Proc.zero)).bind fun v1 =>
  (if v1=true then
   some (.inl ((IntKind.i64.wrap (g1.1+1)),g1.2))
  else
   gd (0≤g1.1∧g1.1 < (a0.length:Int)) <|
   gd (g1.2.length+1≤4294967296) <|
   (zb8 (zw7) (((g1.2.length:Nat):Int),(g1.2++[(a0.getD g1.1.toNat Proc.zero)]))).bind (fun z=>zD4 g1 z))
 else
  some (.inr g1.2))
@[go_sem] def zeg6 (a0:List Proc) (g1:Int×(List Proc)):St:=⟨[(0,.sl (a0.map Proc.enc)),(3,.own 0 0 g1.2.length),(4,.int .i64 g1.1)],[(0,⟨false,3,(Proc.enc Proc.zero),g1.2.map Proc.enc⟩)],1⟩
noncomputable def zj3 (a0:List Proc):Option ((List Proc)) :=
 (zb8 (zw8 a0) (0,[])).bind (fun z=>zM1 z)
theorem zae0 (a0:List Proc) (r:(List Proc)) (h:zj3 a0=some r):PFn C 74 [.sl (a0.map Proc.enc)] (.sl (r.map Proc.enc)):=by
 refine za8 zex6 rfl fun E hG hN hK=>?_
 unfold zdp4
 unfold zj3 at h
 refine za0 (za1 hG ?_)
 refine za0 (za1 hG ?_)
 refine za0 (za0 (za1 hG ?_))
 refine zb5 (zeg3) (fun v=>zM1 v=some r) ?_ ?_
 · intro j1 h
   unfold zM1 at h
   refine g_st ?_
   refine za0 (za1 hG ?_)
   refine za7 ?_
   exact zb1 h
 refine zd9 (zeg6 a0) hK [(0,0)] h (fun x_l1 h g1 y_l1 h_l1 hx_l1=>?_)
 unfold zw8 at h_l1
 refine g_st ?_
 refine za0 (za0 (za1 hG ?_))
 refine za4 rfl hG h_l1 (fun _ h_l1=>?_) (fun _ h_l1=>?_)
 · refine za5 ?_
   refine za0 (zb6 (za0 (za0 ?_)))
   obtain ⟨hb9,h_l1⟩:=za2 h_l1
   refine za1 hG ?_
   obtain ⟨v1,hv1,h_l1⟩:=za3 h_l1
   refine za6 (fun hg=>zal4 g1.2 (a0.getD g1.1.toNat Proc.zero) _ (hv1)) ?_
   refine za4 rfl hG h_l1 (fun _ h_l1=>?_) (fun _ h_l1=>?_)
   · refine zc3 ?_
     refine za1 hG ?_
     exact zc8 hK [(0,0)] h_l1
   refine za5 ?_
   refine za0 (za1 hG ?_)
   refine za0 ?_
   obtain ⟨hb7,h_l1⟩:=za2 h_l1
   obtain ⟨hb8,h_l1⟩:=za2 h_l1
   refine za1 hG ?_
   refine zb5 (zeg4 a0 g1) (fun v=>zD4 g1 v=some y_l1) ?_ ?_
   · intro j2 h_l1
     unfold zD4 at h_l1
     refine g_st ?_
     refine za1 hG ?_
     exact zc8 hK [(0,0)] h_l1
   refine zd9 (zeg5 a0 g1) hK [(0,1)] h_l1 (fun x_l2 h_l1 g2 y_l2 h_l2 hx_l2=>?_)
   unfold zw7 at h_l2
   refine g_st ?_
   refine za0 (za0 ?_)
   obtain ⟨hb5,h_l2⟩:=za2 h_l2
   obtain ⟨hb6,h_l2⟩:=za2 h_l2
   refine zm9 zd8 hG ?_
   refine zf8 (fun hg=>zL9 (g2.2.getD ((IntKind.i64.wrap (g2.1 - 1)).toNat) Proc.zero) (g2.2.getD g2.1.toNat Proc.zero)) ?_
   refine za4 rfl hG h_l2 (fun _ h_l2=>?_) (fun _ h_l2=>?_)
   · refine za5 ?_
     refine zb6 (za0 ?_)
     obtain ⟨hb4,h_l2⟩:=za2 h_l2
     refine za1 hG ?_
     refine za0 ?_
     obtain ⟨hb2,h_l2⟩:=za2 h_l2
     obtain ⟨hb3,h_l2⟩:=za2 h_l2
     refine za1 hG ?_
     refine za0 ?_
     obtain ⟨hb1,h_l2⟩:=za2 h_l2
     refine za1 hG ?_
     refine za1 hG ?_
     exact zc8 hK [(0,0)] h_l2
   refine zc3 ?_
   obtain rfl:=Option.some.inj h_l2
   have hx:=hx_l2 _ rfl
   subst hx
   try dsimp only at h_l1
   exact zc4 hK [(0,0)] g2.2 (by exact h_l1)
 refine zc3 ?_
 obtain rfl:=Option.some.inj h_l1
 have hx:=hx_l1 _ rfl
 subst hx
 try dsimp only at h
 exact zc4 hK [(0,0)] g1.2 (by exact h)
attribute [local irreducible] zj3
noncomputable def zv8 (a0:Queue):Option ((List Proc)) :=
 (zp7 a0.holds).bind fun v1 =>
 (zv7 a0).bind fun v2 =>
 gd (v1.length+v2.length≤4294967296) <|
 (zj3 (v1++v2)).bind fun v3 =>
 some v3
theorem zaY2 (a0:Queue) (r:(List Proc)) (h:zv8 a0=some r):PFn C 73 [.agg (Queue.enc a0)] (.sl (r.map Proc.enc)):=by
 refine za8 zex7 rfl fun E hG hN hK=>?_
 unfold zdp7
 unfold zv8 at h
 refine za0 (za1 hG ?_)
 refine za0 (zF1 zd8 hG ?_)
 obtain ⟨v1,hv1,h⟩:=za3 h
 refine zac6 [] [(0,1)] [0] (zaF7 a0.holds _ hv1) rfl rfl ?_
 obtain ⟨v2,hv2,h⟩:=za3 h
 obtain ⟨hb1,h⟩:=za2 h
 refine zC5 (fun hg=>zaY1 a0 _ (hv2)) ?_
 obtain ⟨v3,hv3,h⟩:=za3 h
 refine zC5 (fun hg=>zae0 (v1++v2) _ (hv3)) ?_
 refine za7 ?_
 exact zb1 h
attribute [local irreducible] zv8
end Ab
end Go.Proofs.YtfjeceicgfdmjaaGreatDoor
