import Derived.Test.YtebopmkhhppfaaaGreatDoorFn1
namespace Go.Proofs.YtebopmkhhppfaaaGreatDoor
namespace Ab
noncomputable section
set_option linter.unusedSimpArgs false
set_option linter.unusedVariables false
set_option maxRecDepth 100000
set_option maxHeartbeats 1000000
attribute [local irreducible] zk5 zc7 zb9 zo4 zd6 zb1 zr2 zd0 zc1 zd5 ze2 zh9 zg1 zn9 zf0 zk6 zj1 zl6 zq7 zt4 zt9 zs2 zo0 zh3
def zan1  (j1:Unit):Option (Bool) :=
 some true
@[go_sem] def zfu1  (j1:Unit):St:=⟨[],[],0⟩
def zJ8 (a0:List Wait) (g1:Int):Option ((Int)⊕((Unit)⊕(Bool))) :=
 (if (decide (g1 < (a0.length:Int)))=true then
  gd (0≤g1∧g1 < (a0.length:Int)) <|
  ((if (zj9 (a0.getD g1.toNat Wait.zero))=true then zt9 a0 ((a0.getD g1.toNat Wait.zero).proc) else some (0))).bind fun v1 =>
  (if ((!(zj9 (a0.getD g1.toNat Wait.zero)))||(!decide (v1=g1)))=true then
   some (.inr (.inr false))
  else
   some (.inl (IntKind.i64.wrap (g1+1))))
 else
  some (.inr (.inl ())))
@[go_sem] def zfu2 (a0:List Wait) (g1:Int):St:=⟨[(0,.sl (a0.map Wait.enc)),(8,.sl (a0.map Wait.enc)),(9,.int .i64 (a0.length:Int)),(10,.int .i64 g1)],[],0⟩
def zw0 (a0:List Wait):Option (Bool) :=
 (if (decide (8 < (a0.length:Int)))=true then
  some false
 else
  (zb4 (zJ8 a0) 0).bind (fun|.inl z=>zan1 z|.inr z=>some z))
theorem zbp4 (a0:List Wait) (r:Bool) (h:zw0 a0=some r):PFn C 165 [.sl (a0.map Wait.enc)] (.bool r):=by
 refine za7 ck_y rfl fun E hG hN hK=>?_
 unfold pc_y
 unfold zw0 at h
 refine za0 (za1 hG ?_)
 refine za0 (za0 (za1 hG ?_))
 refine za3 rfl hG h (fun _ h=>?_) (fun _ h=>?_)
 · refine za0 (za1 hG ?_)
   refine za6 ?_
   exact zb0 h
 refine za4 ?_
 refine za0 (za0 (za1 hG ?_))
 refine zb2 (zfu1) (fun v=>zan1 v=some r) ?_ ?_
 · intro j1 h
   unfold zan1 at h
   refine g_st ?_
   refine za0 (za1 hG ?_)
   refine za6 ?_
   exact zb0 h
 refine zc8 (zfu2 a0) hK [] h (fun x_l1 h g1 y_l1 h_l1 hx_l1=>?_)
 unfold zJ8 at h_l1
 refine g_st ?_
 refine za0 (za1 hG ?_)
 refine za0 ?_
 refine za3 rfl hG h_l1 (fun _ h_l1=>?_) (fun _ h_l1=>?_)
 · refine za4 ?_
   refine za0 (zb3 (za0 ?_))
   obtain ⟨hb1,h_l1⟩:=za5 h_l1
   refine za1 hG ?_
   refine za0 (za1 hG ?_)
   refine za8 (fun hg=>zaR1 (a0.getD g1.toNat Wait.zero)) ?_
   obtain ⟨v1,hv1,h_l1⟩:=za2 h_l1
   refine za8 (fun hg=>zaR0 a0 ((a0.getD g1.toNat Wait.zero).proc) _ (zv4 hg hv1)) ?_
   refine za3 rfl hG h_l1 (fun _ h_l1=>?_) (fun _ h_l1=>?_)
   · refine za0 (za1 hG ?_)
     refine za6 ?_
     cases h_l1
     cases hx_l1 _ rfl
     exact zb0 h
   refine za4 ?_
   refine za1 hG ?_
   exact zc2 hK [] h_l1
 refine zb5 ?_
 cases h_l1
 cases hx_l1 _ rfl
 exact zb8 hK [] () (by exact h)
attribute [local irreducible] zw0
def zV7  (j1:Unit):Option (Bool) :=
 some true
@[go_sem] def zfu3  (j1:Unit):St:=⟨[],[],0⟩
def zt0 (a0:Queue) (g1:Int):Option ((Int)⊕((Unit)⊕(Bool))) :=
 (if (decide (g1 < (a0.waits.length:Int)))=true then
  gd (0≤g1∧g1 < (a0.waits.length:Int)) <|
  ((if (zb7 a0.resource ((a0.waits.getD g1.toNat Wait.zero).amount))=true then zt4 a0 ((a0.waits.getD g1.toNat Wait.zero).proc) else some (Amount.zero))).bind fun v2 =>
  (if ((!(zb7 a0.resource ((a0.waits.getD g1.toNat Wait.zero).amount)))||(!(zg8 v2)))=true then
   some (.inr (.inr false))
  else
   some (.inl (IntKind.i64.wrap (g1+1))))
 else
  some (.inr (.inl ())))
@[go_sem] def zfu4 (a0:Queue) (g1:Int):St:=⟨[(1,.ptr 0 0 0),(20,.sl (a0.waits.map Wait.enc)),(21,.int .i64 (a0.waits.length:Int)),(22,.int .i64 g1)],[(0,⟨false,8,(Queue.enc Queue.zero),[Queue.enc a0]⟩)],1⟩
def zl7 (a0:Queue):Option (Bool) :=
 (zw0 a0.waits).bind fun v1 =>
 (if ((!v1)||(decide (8 < (IntKind.i64.wrap ((a0.holds.length:Int)+(a0.waits.length:Int))))))=true then
  some false
 else
  (zb4 (zt0 a0) 0).bind (fun|.inl z=>zV7 z|.inr z=>some z))
theorem zaK3 (a0:Queue) (r:Bool) (h:zl7 a0=some r):PFn C 127 [.agg (Queue.enc a0)] (.bool r):=by
 refine za7 ck_z rfl fun E hG hN hK=>?_
 unfold pc_z
 unfold zl7 at h
 refine za0 (za1 hG ?_)
 refine za0 (za0 (za1 hG ?_))
 obtain ⟨v1,hv1,h⟩:=za2 h
 refine za8 (fun hg=>zbp4 _ _ hv1) ?_
 refine za3 rfl hG h (fun _ h=>?_) (fun _ h=>?_)
 · refine za0 (za1 hG ?_)
   refine za6 ?_
   exact zb0 h
 refine za4 ?_
 refine za0 (za0 (za1 hG ?_))
 refine zb2 (zfu3) (fun v=>zV7 v=some r) ?_ ?_
 · intro j1 h
   unfold zV7 at h
   refine g_st ?_
   refine za0 (za1 hG ?_)
   refine za6 ?_
   exact zb0 h
 refine zc8 (zfu4 a0) hK [(0,0)] h (fun x_l1 h g1 y_l1 h_l1 hx_l1=>?_)
 unfold zt0 at h_l1
 refine g_st ?_
 refine za0 (za1 hG ?_)
 refine za0 ?_
 refine za3 rfl hG h_l1 (fun _ h_l1=>?_) (fun _ h_l1=>?_)
 · refine za4 ?_
   refine za0 (zb3 (za0 ?_))
   obtain ⟨hb1,h_l1⟩:=za5 h_l1
   refine za1 hG ?_
   refine za0 (za1 hG ?_)
   refine za8 (fun hg=>zC1 a0.resource ((a0.waits.getD g1.toNat Wait.zero).amount)) ?_
   obtain ⟨v2,hv2,h_l1⟩:=za2 h_l1
   refine za8 (fun hg=>zaL5 a0 ((a0.waits.getD g1.toNat Wait.zero).proc) _ (zv4 hg hv2)) ?_
   refine za8 (fun hg=>zM3 v2) ?_
   refine za3 rfl hG h_l1 (fun _ h_l1=>?_) (fun _ h_l1=>?_)
   · refine za0 (za1 hG ?_)
     refine za6 ?_
     cases h_l1
     cases hx_l1 _ rfl
     exact zb0 h
   refine za4 ?_
   refine za1 hG ?_
   exact zc2 hK [(0,0)] h_l1
 refine zb5 ?_
 cases h_l1
 cases hx_l1 _ rfl
 exact zb8 hK [] () (by exact h)
attribute [local irreducible] zl7
def zu4 (a0:Queue):Option (Bool) :=
 (zg1 a0.resource).bind fun v1 =>
 ((if v1=true then zl6 a0.resource a0.holds else some (false))).bind fun v2 =>
 ((if (v1&&v2)=true then zh3 a0 else some (false))).bind fun v3 =>
 ((if ((v1&&v2)&&v3)=true then zl7 a0 else some (false))).bind fun v4 =>
 some (((((v1&&v2)&&v3)&&v4)&&(decide (0≤a0.gen)))&&(decide (a0.gen≤1073741824)))
theorem zbi3 (a0:Queue) (r:Bool) (h:zu4 a0=some r):PFn C 102 [.agg (Queue.enc a0)] (.bool r):=by
 refine za7 zfd4 rfl fun E hG hN hK=>?_
 unfold zcJ0
 unfold zu4 at h
 refine za0 (za1 hG ?_)
 refine za0 (za1 hG ?_)
 obtain ⟨v1,hv1,h⟩:=za2 h
 refine za8 (fun hg=>zau9 _ _ hv1) ?_
 obtain ⟨v2,hv2,h⟩:=za2 h
 refine za8 (fun hg=>zai7 a0.resource a0.holds _ (zv4 hg hv2)) ?_
 obtain ⟨v3,hv3,h⟩:=za2 h
 refine za8 (fun hg=>zaA0 a0 _ (zv4 hg hv3)) ?_
 obtain ⟨v4,hv4,h⟩:=za2 h
 refine za8 (fun hg=>zaK3 a0 _ (zv4 hg hv4)) ?_
 refine za6 ?_
 exact zb0 h
attribute [local irreducible] zu4
def zz2 (a0:Queue):Option (Wait×Bool) :=
 (if (decide (0 < (a0.converts.length:Int)))=true then
  gd (0≤0∧0 < (a0.converts.length:Int)) <|
  some ((a0.converts.getD 0 Wait.zero),true)
 else
  (if (decide (0 < (a0.waits.length:Int)))=true then
   gd (0≤0∧0 < (a0.waits.length:Int)) <|
   some ((a0.waits.getD 0 Wait.zero),true)
  else
   some ({ Wait.zero with  },false)))
theorem zbp5 (a0:Queue) (r:Wait×Bool) (h:zz2 a0=some r):PFn C 103 [.agg (Queue.enc a0)] (.tup [.agg (Wait.enc r.1),.bool r.2]):=by
 refine za7 zfd5 rfl fun E hG hN hK=>?_
 unfold zcJ7
 unfold zz2 at h
 refine za0 (za1 hG ?_)
 refine za0 (zb3 (za0 (za1 hG ?_)))
 refine za3 rfl hG h (fun _ h=>?_) (fun _ h=>?_)
 · refine za0 ?_
   obtain ⟨hb1,h⟩:=za5 h
   refine za1 hG ?_
   refine za6 ?_
   exact zb0 h
 refine za0 (za1 hG ?_)
 refine za3 rfl hG h (fun _ h=>?_) (fun _ h=>?_)
 · refine za0 ?_
   obtain ⟨hb2,h⟩:=za5 h
   refine za1 hG ?_
   refine za6 ?_
   exact zb0 h
 refine za4 ?_
 refine za0 (za1 hG ?_)
 refine za6 ?_
 exact zb0 h
attribute [local irreducible] zz2
def zo1 (a0:Resource) (a1:List Hold) (a2:Proc) (a3:Amount):Option (Bool) :=
 (zl6 a0 a1).bind fun v1 =>
 some ((v1&&(za9 a2))&&(zb7 a0 a3))
theorem zaR2 (a0:Resource) (a1:List Hold) (a2:Proc) (a3:Amount) (r:Bool) (h:zo1 a0 a1 a2 a3=some r):PFn C 128 [.agg (Resource.enc a0),.sl (a1.map Hold.enc),.agg (Proc.enc a2),.agg (Amount.enc a3)] (.bool r):=by
 refine za7 zfd6 rfl fun E hG hN hK=>?_
 unfold zcK0
 unfold zo1 at h
 refine za0 (za1 hG ?_)
 refine za0 (za1 hG ?_)
 obtain ⟨v1,hv1,h⟩:=za2 h
 refine za8 (fun hg=>zai7 _ _ _ hv1) ?_
 refine za8 (fun hg=>zF6 a2) ?_
 refine za8 (fun hg=>zC1 a0 a3) ?_
 refine za6 ?_
 exact zb0 h
attribute [local irreducible] zo1
def zZ0 (a1:Proc) (a2:Amount) (j1:Int×(List Hold)):Option ((List Hold)) :=
 (if (zg8 a2)=true then
  some j1.2
 else
  (if (decide (j1.1 < 0))=true then
   gd (j1.2.length+1≤4294967296) <|
   gd (0≤(IntKind.i64.wrap (((j1.2.length:Nat):Int)+1))∧(IntKind.i64.wrap (((j1.2.length:Nat):Int)+1))≤((j1.2.length+1:Nat):Int)∧((j1.2.length+1:Nat):Int)≤((j1.2.length+1:Nat):Int)) <|
   gd (0≤((j1.2.length:Nat):Int)∧((j1.2.length:Nat):Int)≤((j1.2.length+1:Nat):Int)∧((j1.2.length+1:Nat):Int)≤((j1.2.length+1:Nat):Int)) <|
   gd (0≤((j1.2.length:Nat):Int)∧((j1.2.length:Nat):Int) < ((j1.2.length+1:Nat):Int)) <|
   some (((j1.2++[{ Hold.zero with  }]).take (IntKind.i64.wrap (((j1.2.length:Nat):Int)+1)).toNat++(((j1.2++[{ Hold.zero with  }]).drop (((j1.2.length:Nat):Int).toNat)).take (j1.2.length+1 - ((j1.2.length:Nat):Int).toNat)).take (j1.2.length+1 - (IntKind.i64.wrap (((j1.2.length:Nat):Int)+1)).toNat)++(j1.2++[{ Hold.zero with  }]).drop ((IntKind.i64.wrap (((j1.2.length:Nat):Int)+1)).toNat+min (((j1.2++[{ Hold.zero with  }]).drop (((j1.2.length:Nat):Int).toNat)).take (j1.2.length+1 - ((j1.2.length:Nat):Int).toNat)).length (j1.2.length+1 - (IntKind.i64.wrap (((j1.2.length:Nat):Int)+1)).toNat))).set (((j1.2.length:Nat):Int).toNat) (⟨a1,a2⟩:Hold))
  else
   gd (j1.2.length+1≤4294967296) <|
   gd (0≤(IntKind.i64.wrap (j1.1+1))∧(IntKind.i64.wrap (j1.1+1))≤((j1.2.length+1:Nat):Int)∧((j1.2.length+1:Nat):Int)≤((j1.2.length+1:Nat):Int)) <|
   gd (0≤j1.1∧j1.1≤((j1.2.length+1:Nat):Int)∧((j1.2.length+1:Nat):Int)≤((j1.2.length+1:Nat):Int)) <|
   gd (0≤j1.1∧j1.1 < ((j1.2.length+1:Nat):Int)) <|
   some (((j1.2++[{ Hold.zero with  }]).take (IntKind.i64.wrap (j1.1+1)).toNat++(((j1.2++[{ Hold.zero with  }]).drop j1.1.toNat).take (j1.2.length+1 - j1.1.toNat)).take (j1.2.length+1 - (IntKind.i64.wrap (j1.1+1)).toNat)++(j1.2++[{ Hold.zero with  }]).drop ((IntKind.i64.wrap (j1.1+1)).toNat+min (((j1.2++[{ Hold.zero with  }]).drop j1.1.toNat).take (j1.2.length+1 - j1.1.toNat)).length (j1.2.length+1 - (IntKind.i64.wrap (j1.1+1)).toNat))).set j1.1.toNat (⟨a1,a2⟩:Hold))))
@[go_sem] def zeI4 (a1:Proc) (a2:Amount) (j1:Int×(List Hold)):St:=⟨[(4,.ptr 0 0 0),(5,.ptr 1 0 0),(7,.own 2 0 j1.2.length),(8,.int .i64 j1.1)],[(0,⟨false,3,(Proc.enc Proc.zero),[Proc.enc a1]⟩),(1,⟨false,2,(Amount.enc Amount.zero),[Amount.enc a2]⟩),(2,⟨false,5,(Hold.enc Hold.zero),j1.2.map Hold.enc⟩)],3⟩
def zL4 (a0:List Hold) (a1:Proc) (g1:Int×Int×(List Hold)):Option ((Int×Int×(List Hold))⊕((Int×(List Hold)))) :=
 (if (decide (g1.2.1 < (a0.length:Int)))=true then
  gd (0≤g1.2.1∧g1.2.1 < (a0.length:Int)) <|
  (if (decide ((a0.getD g1.2.1.toNat Hold.zero).proc=a1))=true then
   some (.inl (g1.1,(IntKind.i64.wrap (g1.2.1+1)),g1.2.2))
  else
   ((if (decide (g1.1 < 0))=true then zf0 ((a0.getD g1.2.1.toNat Hold.zero).proc) a1 else some (0))).bind fun v1 =>
   (if ((decide (g1.1 < 0))&&(decide (0 < v1)))=true then
    gd (g1.2.2.length+1≤4294967296) <|
    some (.inl (((g1.2.2.length:Nat):Int),(IntKind.i64.wrap (g1.2.1+1)),(g1.2.2++[(a0.getD g1.2.1.toNat Hold.zero)])))
   else
    gd (g1.2.2.length+1≤4294967296) <|
    some (.inl (g1.1,(IntKind.i64.wrap (g1.2.1+1)),(g1.2.2++[(a0.getD g1.2.1.toNat Hold.zero)])))))
 else
  some (.inr (g1.1,g1.2.2)))
@[go_sem] def zeI5 (a0:List Hold) (a1:Proc) (a2:Amount) (g1:Int×Int×(List Hold)):St:=⟨[(4,.ptr 0 0 0),(5,.ptr 1 0 0),(7,.own 2 0 g1.2.2.length),(8,.int .i64 g1.1),(15,.sl (a0.map Hold.enc)),(16,.int .i64 (a0.length:Int)),(17,.int .i64 g1.2.1)],[(0,⟨false,3,(Proc.enc Proc.zero),[Proc.enc a1]⟩),(1,⟨false,2,(Amount.enc Amount.zero),[Amount.enc a2]⟩),(2,⟨false,5,(Hold.enc Hold.zero),g1.2.2.map Hold.enc⟩)],3⟩
def zu5 (a0:List Hold) (a1:Proc) (a2:Amount):Option ((List Hold)) :=
 gd (0≤0∧0≤(IntKind.i64.wrap ((a0.length:Int)+1))∧(IntKind.i64.wrap ((a0.length:Int)+1))≤4294967296) <|
 (zb4 (zL4 a0 a1) ((-1),0,(List.replicate 0 Hold.zero))).bind (fun z=>zZ0 a1 a2 z)
theorem zbi4 (a0:List Hold) (a1:Proc) (a2:Amount) (r:(List Hold)) (h:zu5 a0 a1 a2=some r):PFn C 129 [.sl (a0.map Hold.enc),.agg (Proc.enc a1),.agg (Amount.enc a2)] (.sl (r.map Hold.enc)):=by
 refine za7 zfd7 rfl fun E hG hN hK=>?_
 unfold zcL1
 unfold zu5 at h
 refine za0 (za1 hG ?_)
 refine za0 ?_
 obtain ⟨hb12,h⟩:=za5 h
 refine za1 hG ?_
 refine za0 (za1 hG ?_)
 refine za0 (za0 (za1 hG ?_))
 refine zb2 (zeI4 a1 a2) (fun v=>zZ0 a1 a2 v=some r) ?_ ?_
 · intro j1 h
   unfold zZ0 at h
   refine g_st ?_
   refine za0 (za0 (za1 hG ?_))
   refine za8 (fun hg=>zM3 a2) ?_
   refine za3 rfl hG h (fun _ h=>?_) (fun _ h=>?_)
   · refine za0 (za1 hG ?_)
     refine za6 ?_
     exact zb0 h
   refine za4 ?_
   refine za0 (za0 (za1 hG ?_))
   refine za3 rfl hG h (fun _ h=>?_) (fun _ h=>?_)
   · refine za1 hG ?_
     refine za0 ?_
     obtain ⟨hb4,h⟩:=za5 h
     refine za1 hG ?_
     refine za0 ?_
     obtain ⟨hb2,h⟩:=za5 h
     obtain ⟨hb3,h⟩:=za5 h
     refine zab5 ze5 hG ?_
     refine za0 ?_
     obtain ⟨hb1,h⟩:=za5 h
     refine za1 hG ?_
     refine za0 (za1 hG ?_)
     refine za6 ?_
     exact zb0 h
   refine za4 ?_
   refine za0 ?_
   obtain ⟨hb8,h⟩:=za5 h
   refine za1 hG ?_
   refine za0 ?_
   obtain ⟨hb6,h⟩:=za5 h
   obtain ⟨hb7,h⟩:=za5 h
   refine zab5 ze5 hG ?_
   refine za0 ?_
   obtain ⟨hb5,h⟩:=za5 h
   refine za1 hG ?_
   refine za0 (za1 hG ?_)
   refine za6 ?_
   exact zb0 h
 refine zc8 (zeI5 a0 a1 a2) hK [(0,0),(1,1),(2,2)] h (fun x_l1 h g1 y_l1 h_l1 hx_l1=>?_)
 unfold zL4 at h_l1
 refine g_st ?_
 refine za0 (za1 hG ?_)
 refine za0 ?_
 refine za3 rfl hG h_l1 (fun _ h_l1=>?_) (fun _ h_l1=>?_)
 · refine za4 ?_
   refine za0 (zb3 (za0 ?_))
   obtain ⟨hb11,h_l1⟩:=za5 h_l1
   refine za1 hG ?_
   refine za0 (za0 (za1 hG ?_))
   refine za3 rfl hG h_l1 (fun _ h_l1=>?_) (fun _ h_l1=>?_)
   · refine zb5 ?_
     refine za1 hG ?_
     exact zc2 hK [(0,0),(1,1),(2,2)] h_l1
   refine za4 ?_
   refine za0 (za0 (za1 hG ?_))
   obtain ⟨v1,hv1,h_l1⟩:=za2 h_l1
   refine za8 (fun hg=>zH5 ((a0.getD g1.2.1.toNat Hold.zero).proc) a1 _ (zv4 hg hv1)) ?_
   refine za3 rfl hG h_l1 (fun _ h_l1=>?_) (fun _ h_l1=>?_)
   · refine za1 hG ?_
     obtain ⟨hb9,h_l1⟩:=za5 h_l1
     refine za1 hG ?_
     refine za1 hG ?_
     exact zc2 hK [(0,0),(1,1),(2,4)] h_l1
   refine za4 ?_
   obtain ⟨hb10,h_l1⟩:=za5 h_l1
   refine za1 hG ?_
   refine za1 hG ?_
   exact zc2 hK [(0,0),(1,1),(2,4)] h_l1
 refine zb5 ?_
 cases h_l1
 cases hx_l1 _ rfl
 exact zb8 hK [(0,0),(1,1),(2,2)] (g1.1,g1.2.2) (by exact h)
attribute [local irreducible] zu5
def zr5 (a0:Resource) (a1:List Hold) (a2:Proc) (a3:Amount):Option (Bool) :=
 (zo1 a0 a1 a2 a3).bind fun v1 =>
 ((if v1=true then zu5 a1 a2 a3 else some ([]))).bind fun v2 =>
 ((if v1=true then zl6 a0 v2 else some (false))).bind fun v3 =>
 some (v1&&v3)
theorem zbb3 (a0:Resource) (a1:List Hold) (a2:Proc) (a3:Amount) (r:Bool) (h:zr5 a0 a1 a2 a3=some r):PFn C 104 [.agg (Resource.enc a0),.sl (a1.map Hold.enc),.agg (Proc.enc a2),.agg (Amount.enc a3)] (.bool r):=by
 refine za7 zfd8 rfl fun E hG hN hK=>?_
 unfold zcL4
 unfold zr5 at h
 refine za0 (za1 hG ?_)
 refine za0 (zl3 ze5 hG ?_)
 obtain ⟨v1,hv1,h⟩:=za2 h
 refine zd9 (fun hg=>zaR2 _ _ _ _ _ hv1) ?_
 obtain ⟨v2,hv2,h⟩:=za2 h
 refine zd9 (fun hg=>zbi4 a1 a2 a3 _ (zv4 hg hv2)) ?_
 obtain ⟨v3,hv3,h⟩:=za2 h
 refine zd9 (fun hg=>zai7 a0 v2 _ (zv4 hg hv3)) ?_
 refine za6 ?_
 exact zb0 h
attribute [local irreducible] zr5
def zq1 (a0:Queue):Option (Bool) :=
 (zu4 a0).bind fun v1 =>
 (if (!v1)=true then
  some false
 else
  (zz2 a0).bind fun v2 =>
  ((if v2.2=true then zr5 a0.resource a0.holds v2.1.proc v2.1.amount else some (false))).bind fun v3 =>
  some ((!v2.2)||(!v3)))
theorem zaV7 (a0:Queue) (r:Bool) (h:zq1 a0=some r):PFn C 77 [.agg (Queue.enc a0)] (.bool r):=by
 refine za7 zfd9 rfl fun E hG hN hK=>?_
 unfold zcM0
 unfold zq1 at h
 refine za0 (za1 hG ?_)
 refine za0 (za0 (za1 hG ?_))
 obtain ⟨v1,hv1,h⟩:=za2 h
 refine za8 (fun hg=>zbi3 _ _ hv1) ?_
 refine za3 rfl hG h (fun _ h=>?_) (fun _ h=>?_)
 · refine za0 (za1 hG ?_)
   refine za6 ?_
   exact zb0 h
 refine za4 ?_
 refine za0 (za1 hG ?_)
 obtain ⟨v2,hv2,h⟩:=za2 h
 refine za8 (fun hg=>zbp5 _ _ hv2) ?_
 refine za0 (za1 hG ?_)
 obtain ⟨v3,hv3,h⟩:=za2 h
 refine za8 (fun hg=>zbb3 a0.resource a0.holds v2.1.proc v2.1.amount _ (zv4 hg hv3)) ?_
 refine za6 ?_
 exact zb0 h
attribute [local irreducible] zq1
def zu6 (a0:Queue):Option (Bool) :=
 (zq1 a0).bind fun v1 =>
 some v1
theorem zbi5 (a0:Queue) (r:Bool) (h:zu6 a0=some r):PFn C 45 [.agg (Queue.enc a0)] (.bool r):=by
 refine za7 zfe0 rfl fun E hG hN hK=>?_
 unfold zcM3
 unfold zu6 at h
 refine za0 (za1 hG ?_)
 refine za0 (za1 hG ?_)
 obtain ⟨v1,hv1,h⟩:=za2 h
 refine za8 (fun hg=>zaV7 _ _ hv1) ?_
 refine za6 ?_
 exact zb0 h
attribute [local irreducible] zu6
def zS9  (j1:Int×Int):Option (Int×Int) :=
 some ((IntKind.i64.wrap (j1.1+1)),j1.2)
@[go_sem] def zeI6  (j1:Int×Int):St:=⟨[(7,.int .i64 j1.1)],[(0,⟨false,1,[A.int .i64 0],[[A.int .i64 j1.2]]⟩)],1⟩
def zC3 (a90:(Expr→Int→Int→Option (Int×Int))) (a0:Expr) (a1:Int) (g1:Int×Int×Int):Option ((Int×Int×Int)⊕((Int×Int)⊕(Int×Int))) :=
 (if (decide (g1.2.1 < (a0.kids.length:Int)))=true then
  gd (0≤g1.2.1∧g1.2.1 < (a0.kids.length:Int)) <|
  (a90 (a0.kids.getD g1.2.1.toNat Expr.zero) (IntKind.i64.wrap (a1+1)) g1.2.2).bind fun v1 =>
  (if (decide (v1.1=0))=true then
   some (.inr (.inr (0,v1.2)))
  else
   some (.inl ((if g1.1 < v1.1 then v1.1 else g1.1),(IntKind.i64.wrap (g1.2.1+1)),v1.2)))
 else
  some (.inr (.inl (g1.1,g1.2.2))))
@[go_sem] def zeI7 (a0:Expr) (a1:Int) (g1:Int×Int×Int):St:=⟨[(1,.int .i64 a1),(2,.ptr 0 0 0),(7,.int .i64 g1.1),(25,.sl (a0.kids.map Expr.enc)),(26,.int .i64 (a0.kids.length:Int)),(27,.int .i64 g1.2.1)],[(0,⟨false,1,[A.int .i64 0],[[A.int .i64 g1.2.2]]⟩)],1⟩
def zE3 (a90:(Expr→Int→Int→Option (Int×Int))) (a0:Expr) (a1:Int) (a2:Int):Option (Int×Int) :=
 (if ((decide (4 < a1))||(decide (24 < (IntKind.i64.wrap (a2+1)))))=true then
  some (0,(IntKind.i64.wrap (a2+1)))
 else
  (zb4 (zC3 a90 a0 a1) (0,0,(IntKind.i64.wrap (a2+1)))).bind (fun|.inl z=>zS9 z|.inr z=>some z))
def zm3:Nat→(Expr→Int→Int→Option (Int×Int))
 | 0=>fun _ _ _=>none
 | n+1=>zE3 (zm3 n)
def zn0 (a0:Expr) (a1:Int) (a2:Int):Option (Int×Int):=zm3 (_root_.SizeOf.sizeOf a0+1) a0 a1 a2
theorem zaD1 (a90:(Expr→Int→Int→Option (Int×Int))) (hrc:∀ (a0:Expr) (a1:Int) (a2:Int) (r:Int×Int),a90 a0 a1 a2=some r→MFn C 105 [.agg (Expr.enc a0),.int .i64 a1,.ptr 0 0 0] [(0,⟨false,1,[A.int .i64 0],[[A.int .i64 a2]]⟩)] 1 (.int .i64 r.1) [(0,⟨false,1,[A.int .i64 0],[[A.int .i64 r.2]]⟩)] 1) (a0:Expr) (a1:Int) (a2:Int) (r:Int×Int) (h:zE3 a90 a0 a1 a2=some r):MFn C 105 [.agg (Expr.enc a0),.int .i64 a1,.ptr 0 0 0] [(0,⟨false,1,[A.int .i64 0],[[A.int .i64 a2]]⟩)] 1 (.int .i64 r.1) [(0,⟨false,1,[A.int .i64 0],[[A.int .i64 r.2]]⟩)] 1:=by
 refine zh0 (rl:=[.int .i64 r.1]) zfe1 rfl rfl rfl rfl fun E hG hN hK=>?_
 unfold zcN4
 unfold zE3 at h
 refine za0 (za1 hG ?_)
 refine za0 (za1 hG ?_)
 refine za0 (za0 (za1 hG ?_))
 refine za3 rfl hG h (fun _ h=>?_) (fun _ h=>?_)
 · refine za0 (za1 hG ?_)
   refine za6 ?_
   exact ze0 [(0,0)] h
 refine za4 ?_
 refine za0 (za1 hG ?_)
 refine za0 (za0 (za1 hG ?_))
 refine zb2 (zeI6) (fun v=>zS9 v=some r) ?_ ?_
 · intro j1 h
   unfold zS9 at h
   refine g_st ?_
   refine za0 (za1 hG ?_)
   refine za6 ?_
   exact ze0 [(0,0)] h
 refine zc8 (zeI7 a0 a1) hK [(0,0)] h (fun x_l1 h g1 y_l1 h_l1 hx_l1=>?_)
 unfold zC3 at h_l1
 refine g_st ?_
 refine za0 (za1 hG ?_)
 refine za0 ?_
 refine za3 rfl hG h_l1 (fun _ h_l1=>?_) (fun _ h_l1=>?_)
 · refine za4 ?_
   refine za0 (zb3 (za0 ?_))
   obtain ⟨hb1,h_l1⟩:=za5 h_l1
   refine za1 hG ?_
   refine za0 (za1 hG ?_)
   obtain ⟨v1,hv1,h_l1⟩:=za2 h_l1
   refine zd3 [(0,0)] [] [0] (hrc (a0.kids.getD g1.2.1.toNat Expr.zero) (IntKind.i64.wrap (a1+1)) g1.2.2 _ hv1) rfl rfl ?_
   refine za0 (za0 (za1 hG ?_))
   refine za3 rfl hG h_l1 (fun _ h_l1=>?_) (fun _ h_l1=>?_)
   · refine za0 (za1 hG ?_)
     refine za6 ?_
     cases h_l1
     cases hx_l1 _ rfl
     exact ze0 [(0,0)] h
   refine za4 ?_
   refine za1 hG ?_
   refine za1 hG ?_
   exact zc2 hK [(0,0)] h_l1
 refine zb5 ?_
 cases h_l1
 cases hx_l1 _ rfl
 exact zb8 hK [(0,0)] (g1.1,g1.2.2) (by exact h)
theorem zai0:∀ (n:Nat) (a0:Expr) (a1:Int) (a2:Int) (r:Int×Int),zm3 n a0 a1 a2=some r→MFn C 105 [.agg (Expr.enc a0),.int .i64 a1,.ptr 0 0 0] [(0,⟨false,1,[A.int .i64 0],[[A.int .i64 a2]]⟩)] 1 (.int .i64 r.1) [(0,⟨false,1,[A.int .i64 0],[[A.int .i64 r.2]]⟩)] 1
 | 0,_,_,_,_,h=>nomatch h
 | n+1,a0,a1,a2,r,h=>zaD1 (zm3 n) (zai0 n) a0 a1 a2 r h
theorem zaD2 (a0:Expr) (a1:Int) (a2:Int) (r:Int×Int) (h:zn0 a0 a1 a2=some r):MFn C 105 [.agg (Expr.enc a0),.int .i64 a1,.ptr 0 0 0] [(0,⟨false,1,[A.int .i64 0],[[A.int .i64 a2]]⟩)] 1 (.int .i64 r.1) [(0,⟨false,1,[A.int .i64 0],[[A.int .i64 r.2]]⟩)] 1:=zai0 _ a0 a1 a2 r h
attribute [local irreducible] zn0
def zq2 (a0:Expr):Option (Int) :=
 (zn0 a0 1 0).bind fun v1 =>
 some v1.1
theorem zaV8 (a0:Expr) (r:Int) (h:zq2 a0=some r):PFn C 79 [.agg (Expr.enc a0)] (.int .i64 r):=by
 refine za7 zfe2 rfl fun E hG hN hK=>?_
 unfold zcN8
 unfold zq2 at h
 refine za0 (za1 hG ?_)
 refine za0 (za1 hG ?_)
 refine za0 (za1 hG ?_)
 obtain ⟨v1,hv1,h⟩:=za2 h
 refine zd3 [(0,1)] [] [0] (zaD2 _ _ _ _ hv1) rfl rfl ?_
 refine za6 ?_
 exact zb0 h
attribute [local irreducible] zq2
def zk0 (a0:Atom):Option (Bool) :=
 (zh9 a0.name).bind fun v1 =>
 some (v1&&((zb7 ({ Resource.zero with kind:=1,units:=1 }) a0.amount)||(zb7 ({ Resource.zero with kind:=2,units:=8 }) a0.amount)))
theorem zaF7 (a0:Atom) (r:Bool) (h:zk0 a0=some r):PFn C 106 [.agg (Atom.enc a0)] (.bool r):=by
 refine za7 zfe3 rfl fun E hG hN hK=>?_
 unfold zcO3
 unfold zk0 at h
 refine za0 (za1 hG ?_)
 refine za0 (za1 hG ?_)
 refine za0 (za1 hG ?_)
 refine za0 (za1 hG ?_)
 obtain ⟨v1,hv1,h⟩:=za2 h
 refine za8 (fun hg=>zal2 _ _ hv1) ?_
 refine za8 (fun hg=>zC1 ({ Resource.zero with kind:=1,units:=1 }) a0.amount) ?_
 refine za8 (fun hg=>zC1 ({ Resource.zero with kind:=2,units:=8 }) a0.amount) ?_
 refine za6 ?_
 exact zb0 h
attribute [local irreducible] zk0
def zQ9 (a0:Atom) (a1:List Atom) (j1:Unit):Option (Int×(List Atom)) :=
 (if (decide (((a1.length:Nat):Int)=8))=true then
  some (4,a1)
 else
  gd (a1.length+1≤4294967296) <|
  some (0,(a1++[a0])))
@[go_sem] def zeI8 (a0:Atom) (a1:List Atom) (j1:Unit):St:=⟨[(0,.ptr 0 0 0),(3,.ptr 2 0 0)],[(0,⟨false,1,[A.sl ([].map Atom.enc)],[[.own 3 0 a1.length]]⟩),(2,⟨false,3,(Atom.enc Atom.zero),[Atom.enc a0]⟩),(3,⟨false,3,(Atom.enc Atom.zero),a1.map Atom.enc⟩)],4⟩
def zK2 (a0:Atom) (a1:List Atom) (g1:Int):Option ((Int)⊕((Unit)⊕(Int×(List Atom)))) :=
 (if (decide (g1 < ((a1.length:Nat):Int)))=true then
  gd (0≤g1∧g1 < ((a1.length:Nat):Int)) <|
  (if (decide (a0=(a1.getD g1.toNat Atom.zero)))=true then
   some (.inr (.inr (0,a1)))
  else
   (if (a0.name.toList == ((a1.getD g1.toNat Atom.zero).name).toList)=true then
    some (.inr (.inr (13,a1)))
   else
    some (.inl (IntKind.i64.wrap (g1+1)))))
 else
  some (.inr (.inl ())))
@[go_sem] def zeI9 (a0:Atom) (a1:List Atom) (g1:Int):St:=⟨[(0,.ptr 0 0 0),(3,.ptr 2 0 0),(9,.own 3 0 a1.length),(10,.int .i64 ((a1.length:Nat):Int)),(11,.int .i64 g1)],[(0,⟨false,1,[A.sl ([].map Atom.enc)],[[.own 3 0 a1.length]]⟩),(2,⟨false,3,(Atom.enc Atom.zero),[Atom.enc a0]⟩),(3,⟨false,3,(Atom.enc Atom.zero),a1.map Atom.enc⟩)],4⟩
def zo2 (a0:Atom) (a1:List Atom):Option (Int×(List Atom)) :=
 (zb4 (zK2 a0 a1) 0).bind (fun|.inl z=>zQ9 a0 a1 z|.inr z=>some z)
theorem zaN2 (a0:Atom) (a1:List Atom) (r:Int×(List Atom)) (h:zo2 a0 a1=some r):MFn C 107 [.ptr 0 0 0,.agg (Atom.enc a0)] [(0,⟨false,1,[A.sl ([].map Atom.enc)],[[.own 1 0 a1.length]]⟩),(1,⟨false,3,(Atom.enc Atom.zero),a1.map Atom.enc⟩)] 2 (.int .i64 r.1) [(0,⟨false,1,[A.sl ([].map Atom.enc)],[[.own 2 0 r.2.length]]⟩),(2,⟨false,3,(Atom.enc Atom.zero),r.2.map Atom.enc⟩)] 3:=by
 refine zh0 (rl:=[.int .i64 r.1]) zfe4 rfl rfl rfl rfl fun E hG hN hK=>?_
 unfold zcP4
 unfold zo2 at h
 refine za0 (za1 hG ?_)
 refine za0 (za0 (za1 hG ?_))
 refine zb2 (zeI8 a0 a1) (fun v=>zQ9 a0 a1 v=some r) ?_ ?_
 · intro j1 h
   unfold zQ9 at h
   refine g_st ?_
   refine za0 (za0 (za1 hG ?_))
   refine za3 rfl hG h (fun _ h=>?_) (fun _ h=>?_)
   · refine za0 (za1 hG ?_)
     refine za6 ?_
     exact ze0 [(0,0),(2,3)] h
   refine za4 ?_
   refine za0 ?_
   obtain ⟨hb1,h⟩:=za5 h
   refine zab5 ze5 hG ?_
   refine za0 (za1 hG ?_)
   refine za6 ?_
   exact ze0 [(0,0),(2,4)] h
 refine zc8 (zeI9 a0 a1) hK [(0,0),(2,2),(3,1)] h (fun x_l1 h g1 y_l1 h_l1 hx_l1=>?_)
 unfold zK2 at h_l1
 refine g_st ?_
 refine za0 (za1 hG ?_)
 refine za0 ?_
 refine za3 rfl hG h_l1 (fun _ h_l1=>?_) (fun _ h_l1=>?_)
 · refine za4 ?_
   refine za0 (zb3 (za0 ?_))
   obtain ⟨hb2,h_l1⟩:=za5 h_l1
   refine za1 hG ?_
   refine za0 (za0 (za1 hG ?_))
   refine za3 rfl hG h_l1 (fun _ h_l1=>?_) (fun _ h_l1=>?_)
   · refine za0 (za1 hG ?_)
     refine za6 ?_
     cases h_l1
     cases hx_l1 _ rfl
     exact ze0 [(0,0),(2,3)] h
   refine za4 ?_
   refine za0 (za1 hG ?_)
   refine za3 rfl hG h_l1 (fun _ h_l1=>?_) (fun _ h_l1=>?_)
   · refine za0 (za1 hG ?_)
     refine za6 ?_
     cases h_l1
     cases hx_l1 _ rfl
     exact ze0 [(0,0),(2,3)] h
   refine za4 ?_
   refine za1 hG ?_
   exact zc2 hK [(0,0),(2,2),(3,3)] h_l1
 refine zb5 ?_
 cases h_l1
 cases hx_l1 _ rfl
 exact zb8 hK [(0,0),(2,2),(3,3)] () (by exact h)
attribute [local irreducible] zo2
def zV8  (j1:(List Atom)):Option (Bool×(List Atom)) :=
 some (true,j1)
@[go_sem] def zeJ0  (j1:(List Atom)):St:=⟨[],[(0,⟨false,1,[A.sl ([].map Atom.enc)],[[.own 2 0 j1.length]]⟩),(2,⟨false,3,(Atom.enc Atom.zero),j1.map Atom.enc⟩)],3⟩
def zE4 (a90:(Expr→(List Atom)→Option (Bool×(List Atom)))) (a0:Expr) (g1:Int×(List Atom)):Option ((Int×(List Atom))⊕(((List Atom))⊕(Bool×(List Atom)))) :=
 (if (decide (g1.1 < (a0.kids.length:Int)))=true then
  gd (0≤g1.1∧g1.1 < (a0.kids.length:Int)) <|
  (a90 (a0.kids.getD g1.1.toNat Expr.zero) g1.2).bind fun v3 =>
  (if (!v3.1)=true then
   some (.inr (.inr (false,v3.2)))
  else
   some (.inl ((IntKind.i64.wrap (g1.1+1)),v3.2)))
 else
  some (.inr (.inl g1.2)))
@[go_sem] def zeJ1 (a0:Expr) (g1:Int×(List Atom)):St:=⟨[(1,.ptr 0 0 0),(44,.sl (a0.kids.map Expr.enc)),(45,.int .i64 (a0.kids.length:Int)),(46,.int .i64 g1.1)],[(0,⟨false,1,[A.sl ([].map Atom.enc)],[[.own 2 0 g1.2.length]]⟩),(2,⟨false,3,(Atom.enc Atom.zero),g1.2.map Atom.enc⟩)],3⟩
def zH6 (a90:(Expr→(List Atom)→Option (Bool×(List Atom)))) (a0:Expr) (a1:List Atom):Option (Bool×(List Atom)) :=
 (if (decide ((a0.kids.length:Int)=0))=true then
  ((if (decide (a0.k=0))=true then zk0 a0.atom else some (false))).bind fun v1 =>
  (if ((decide (a0.k=0))&&v1)=true then
   (zo2 a0.atom a1).bind fun v2 =>
   some ((((decide (a0.k=0))&&v1)&&(decide (v2.1=0))),v2.2)
  else
   some ((((decide (a0.k=0))&&v1)&&(decide (0=0))),a1))
 else
  (if (((decide (a0.k < 1))||(decide ((a0.kids.length:Int) < a0.k)))||(!decide (a0.atom={ Atom.zero with  })))=true then
   some (false,a1)
  else
   (zb4 (zE4 a90 a0) (0,a1)).bind (fun|.inl z=>zV8 z|.inr z=>some z)))
def zn1:Nat→(Expr→(List Atom)→Option (Bool×(List Atom)))
 | 0=>fun _ _=>none
 | n+1=>zH6 (zn1 n)
def zo8 (a0:Expr) (a1:List Atom):Option (Bool×(List Atom)):=zn1 (_root_.SizeOf.sizeOf a0+1) a0 a1
theorem zaF8 (a90:(Expr→(List Atom)→Option (Bool×(List Atom)))) (hrc:∀ (a0:Expr) (a1:List Atom) (r:Bool×(List Atom)),a90 a0 a1=some r→MFn C 80 [.agg (Expr.enc a0),.ptr 0 0 0] [(0,⟨false,1,[A.sl ([].map Atom.enc)],[[.own 1 0 a1.length]]⟩),(1,⟨false,3,(Atom.enc Atom.zero),a1.map Atom.enc⟩)] 2 (.bool r.1) [(0,⟨false,1,[A.sl ([].map Atom.enc)],[[.own 2 0 r.2.length]]⟩),(2,⟨false,3,(Atom.enc Atom.zero),r.2.map Atom.enc⟩)] 3) (a0:Expr) (a1:List Atom) (r:Bool×(List Atom)) (h:zH6 a90 a0 a1=some r):MFn C 80 [.agg (Expr.enc a0),.ptr 0 0 0] [(0,⟨false,1,[A.sl ([].map Atom.enc)],[[.own 1 0 a1.length]]⟩),(1,⟨false,3,(Atom.enc Atom.zero),a1.map Atom.enc⟩)] 2 (.bool r.1) [(0,⟨false,1,[A.sl ([].map Atom.enc)],[[.own 2 0 r.2.length]]⟩),(2,⟨false,3,(Atom.enc Atom.zero),r.2.map Atom.enc⟩)] 3:=by
 refine zh0 (rl:=[.bool r.1]) zfe5 rfl rfl rfl rfl fun E hG hN hK=>?_
 unfold zcQ5
 unfold zH6 at h
 refine za0 (za1 hG ?_)
 refine za0 (za0 (za1 hG ?_))
 refine za3 rfl hG h (fun _ h=>?_) (fun _ h=>?_)
 · refine za0 (za1 hG ?_)
   obtain ⟨v1,hv1,h⟩:=za2 h
   refine za8 (fun hg=>zaF7 a0.atom _ (zv4 hg hv1)) ?_
   refine zbN4 h (fun hc h=>?_) (fun hc h=>?_)
   · obtain ⟨v2,hv2,h⟩:=za2 h
     refine zbD6 hc [(0,0),(1,1)] [(2,3)] [0,1,2] (zaN2 _ _ _ hv2) rfl rfl ?_
     refine za6 ?_
     exact ze0 [(0,0),(2,3)] h
   refine zbD7 hc (.int .i64 0) ?_
   refine za6 ?_
   exact ze0 [(0,0),(2,1)] h
 refine za4 ?_
 refine za0 (za0 (za1 hG ?_))
 refine za3 rfl hG h (fun _ h=>?_) (fun _ h=>?_)
 · refine za0 (za1 hG ?_)
   refine za6 ?_
   exact ze0 [(0,0),(2,1)] h
 refine za4 ?_
 refine za0 (za0 (za1 hG ?_))
 refine zb2 (zeJ0) (fun v=>zV8 v=some r) ?_ ?_
 · intro j1 h
   unfold zV8 at h
   refine g_st ?_
   refine za0 (za1 hG ?_)
   refine za6 ?_
   exact ze0 [(0,0),(2,2)] h
 refine zc8 (zeJ1 a0) hK [(0,0),(2,1)] h (fun x_l1 h g1 y_l1 h_l1 hx_l1=>?_)
 unfold zE4 at h_l1
 refine g_st ?_
 refine za0 (za1 hG ?_)
 refine za0 ?_
 refine za3 rfl hG h_l1 (fun _ h_l1=>?_) (fun _ h_l1=>?_)
 · refine za4 ?_
   refine za0 (zb3 (za0 ?_))
   obtain ⟨hb1,h_l1⟩:=za5 h_l1
   refine za1 hG ?_
   refine za0 (za1 hG ?_)
   obtain ⟨v3,hv3,h_l1⟩:=za2 h_l1
   refine zd3 [(0,0),(1,2)] [(2,4)] [0,1,2] (hrc (a0.kids.getD g1.1.toNat Expr.zero) g1.2 _ hv3) rfl rfl ?_
   refine za3 rfl hG h_l1 (fun _ h_l1=>?_) (fun _ h_l1=>?_)
   · refine za0 (za1 hG ?_)
     refine za6 ?_
     cases h_l1
     cases hx_l1 _ rfl
     exact ze0 [(0,0),(2,4)] h
   refine za4 ?_
   refine za1 hG ?_
   exact zc2 hK [(0,0),(2,4)] h_l1
 refine zb5 ?_
 cases h_l1
 cases hx_l1 _ rfl
 exact zb8 hK [(0,0),(2,2)] g1.2 (by exact h)
theorem zal3:∀ (n:Nat) (a0:Expr) (a1:List Atom) (r:Bool×(List Atom)),zn1 n a0 a1=some r→MFn C 80 [.agg (Expr.enc a0),.ptr 0 0 0] [(0,⟨false,1,[A.sl ([].map Atom.enc)],[[.own 1 0 a1.length]]⟩),(1,⟨false,3,(Atom.enc Atom.zero),a1.map Atom.enc⟩)] 2 (.bool r.1) [(0,⟨false,1,[A.sl ([].map Atom.enc)],[[.own 2 0 r.2.length]]⟩),(2,⟨false,3,(Atom.enc Atom.zero),r.2.map Atom.enc⟩)] 3
 | 0,_,_,_,h=>nomatch h
 | n+1,a0,a1,r,h=>zaF8 (zn1 n) (zal3 n) a0 a1 r h
theorem zaF9 (a0:Expr) (a1:List Atom) (r:Bool×(List Atom)) (h:zo8 a0 a1=some r):MFn C 80 [.agg (Expr.enc a0),.ptr 0 0 0] [(0,⟨false,1,[A.sl ([].map Atom.enc)],[[.own 1 0 a1.length]]⟩),(1,⟨false,3,(Atom.enc Atom.zero),a1.map Atom.enc⟩)] 2 (.bool r.1) [(0,⟨false,1,[A.sl ([].map Atom.enc)],[[.own 2 0 r.2.length]]⟩),(2,⟨false,3,(Atom.enc Atom.zero),r.2.map Atom.enc⟩)] 3:=zal3 _ a0 a1 r h
attribute [local irreducible] zo8
def zi0 (a0:Expr):Option (Bool) :=
 (zq2 a0).bind fun v1 =>
 (if (!decide (v1=0))=true then
  (zo8 a0 []).bind fun v2 =>
  some ((!decide (v1=0))&&v2.1)
 else
  some ((!decide (v1=0))&&false))
theorem zal4 (a0:Expr) (r:Bool) (h:zi0 a0=some r):PFn C 47 [.agg (Expr.enc a0)] (.bool r):=by
 refine za7 zfe6 rfl fun E hG hN hK=>?_
 unfold zcQ9
 unfold zi0 at h
 refine za0 (za1 hG ?_)
 refine za0 (za1 hG ?_)
 refine g_gh (.ownb 1 0 3 (Atom.enc Atom.zero)) ?_
 refine za0 (za1 hG ?_)
 obtain ⟨v1,hv1,h⟩:=za2 h
 refine za8 (fun hg=>zaV8 _ _ hv1) ?_
 refine zbN4 h (fun hc h=>?_) (fun hc h=>?_)
 · obtain ⟨v2,hv2,h⟩:=za2 h
   refine zbD6 hc [(0,1),(1,2)] [(2,3)] [0,1,2] (zaF9 _ _ _ hv2) rfl rfl ?_
   refine za6 ?_
   exact zb0 h
 refine zbD7 hc (.bool false) ?_
 refine za6 ?_
 exact zb0 h
attribute [local irreducible] zi0
def zX4  (j1:(List Proc)):Option ((List Proc)) :=
 some j1
@[go_sem] def zeJ2  (j1:(List Proc)):St:=⟨[(3,.own 0 0 j1.length)],[(0,⟨false,3,(Proc.enc Proc.zero),j1.map Proc.enc⟩)],1⟩
def zal5 (a0:List Hold) (g1:Int×(List Proc)):Option ((Int×(List Proc))⊕(((List Proc)))) :=
 (if (decide (g1.1 < (a0.length:Int)))=true then
  gd (0≤g1.1∧g1.1 < (a0.length:Int)) <|
  gd (g1.2.length+1≤4294967296) <|
  some (.inl ((IntKind.i64.wrap (g1.1+1)),(g1.2++[(a0.getD g1.1.toNat Hold.zero).proc])))
 else
  some (.inr g1.2))
@[go_sem] def zeJ3 (a0:List Hold) (g1:Int×(List Proc)):St:=⟨[(3,.own 0 0 g1.2.length),(6,.sl (a0.map Hold.enc)),(7,.int .i64 (a0.length:Int)),(8,.int .i64 g1.1)],[(0,⟨false,3,(Proc.enc Proc.zero),g1.2.map Proc.enc⟩)],1⟩
def zm5 (a0:List Hold):Option ((List Proc)) :=
 (zb4 (zal5 a0) (0,[])).bind (fun z=>zX4 z)
theorem zaK4 (a0:List Hold) (r:(List Proc)) (h:zm5 a0=some r):MFn C 120 [.sl (a0.map Hold.enc)] [] 0 (.own 0 0 r.length) [(0,⟨false,3,(Proc.enc Proc.zero),r.map Proc.enc⟩)] 1:=by
 refine zh0 (rl:=[.own 0 0 r.length]) zfe7 rfl rfl rfl rfl fun E hG hN hK=>?_
 unfold zcR8
 unfold zm5 at h
 refine za0 (za1 hG ?_)
 refine za0 (za1 hG ?_)
 refine za0 (za0 (za1 hG ?_))
 refine zb2 (zeJ2) (fun v=>zX4 v=some r) ?_ ?_
 · intro j1 h
   unfold zX4 at h
   refine g_st ?_
   refine za0 (za1 hG ?_)
   refine za6 ?_
   exact ze0 [(0,0)] h
 refine zc8 (zeJ3 a0) hK [(0,1)] h (fun x_l1 h g1 y_l1 h_l1 hx_l1=>?_)
 unfold zal5 at h_l1
 refine g_st ?_
 refine za0 (za1 hG ?_)
 refine za0 ?_
 refine za3 rfl hG h_l1 (fun _ h_l1=>?_) (fun _ h_l1=>?_)
 · refine za4 ?_
   refine za0 (zb3 (za0 ?_))
   obtain ⟨hb2,h_l1⟩:=za5 h_l1
   refine za1 hG ?_
   obtain ⟨hb1,h_l1⟩:=za5 h_l1
   refine za1 hG ?_
   refine za1 hG ?_
   exact zc2 hK [(0,2)] h_l1
 refine zb5 ?_
 cases h_l1
 cases hx_l1 _ rfl
 exact zb8 hK [(0,0)] g1.2 (by exact h)
attribute [local irreducible] zm5
def ze7 (a0:Int):Option (List Wait):=gd (0≤a0∧a0≤4294967296) (some [])
theorem zad6:Lays8.n4 C.P ⟨fun|4=>148|n=>n,fun|22=>46|25=>86|n=>n,fun n=>n⟩ where
 mixed:=ze5
 f4:=⟨ "slices.Grow[[]clusterlocks/api.Wait,clusterlocks/api.Wait]",by decide,Tryz.func148.trans (congrArg some (by kernel_rfl))⟩
 t0:=Tryz.underlying0
 a0:=Tryz.isAgg0
 z0:=Tryz.sizeOf0
 v0:=Tryz.zeroValue0
 t3:=Tryz.underlying3
 a3:=Tryz.isAgg3
 z3:=Tryz.sizeOf3
 v3:=Tryz.zeroValue3
 t4:=Tryz.underlying4
 a4:=Tryz.isAgg4
 z4:=Tryz.sizeOf4
 v4:=Tryz.zeroValue4
 t9:=Tryz.underlying9
 a9:=Tryz.isAgg9
 z9:=Tryz.sizeOf9
 v9:=Tryz.zeroValue9
 t20:=Tryz.underlying20
 a20:=Tryz.isAgg20
 z20:=Tryz.sizeOf20
 v20:=Tryz.zeroValue20
 t22:=Tryz.underlying46
 a22:=Tryz.isAgg46
 z22:=Tryz.sizeOf46
 v22:=Tryz.zeroValue46
theorem zac3 (a0:Int) (r:List Wait) (h:ze7 a0=some r):MFn C 148 [.full [],.int .i64 a0] [] 0 (.own 0 0 r.length) [(0,⟨false,7,(Wait.enc Wait.zero),r.map Wait.enc⟩)] 1:=by
 obtain ⟨⟨h0,h1⟩,h⟩:=za5 h
 obtain rfl:=Option.some.inj h
 exact zct0 zad6 (by kernel_rfl) rfl _ a0 h0 h1
attribute [local irreducible] ze7
def zw9  (j2:(List Wait)):Option ((List Wait)) :=
 some j2
@[go_sem] def zeJ4  (j2:(List Wait)):St:=⟨[(6,.own 0 0 j2.length)],[(0,⟨false,7,(Wait.enc Wait.zero),j2.map Wait.enc⟩)],1⟩
def zf6 (a0:List (List Wait)) (g1:Int×(List Wait)):Option ((Int×(List Wait))⊕(((List Wait)))) :=
 (if (decide (g1.1 < (a0.length:Int)))=true then
  gd (0≤g1.1∧g1.1 < (a0.length:Int)) <|
  gd (g1.2.length+(a0.getD g1.1.toNat []).length≤4294967296) <|
  some (.inl ((IntKind.i64.wrap (g1.1+1)),(g1.2++(a0.getD g1.1.toNat []))))
 else
  some (.inr g1.2))
@[go_sem] def zeJ5 (a0:List (List Wait)) (g1:Int×(List Wait)):St:=⟨[(6,.own 0 0 g1.2.length),(25,.sl (a0.map (eL Wait.enc))),(26,.int .i64 (a0.length:Int)),(27,.int .i64 g1.1)],[(0,⟨false,7,(Wait.enc Wait.zero),g1.2.map Wait.enc⟩)],1⟩
def zp8 (a0:List (List Wait)) (j1:Int):Option ((List Wait)) :=
 (ze7 j1).bind fun v1 =>
 (zb4 (zf6 a0) (0,v1)).bind (fun z=>zw9 z)
@[go_sem] def zeJ6 (a0:List (List Wait)) (j1:Int):St:=⟨[(0,.sl (a0.map (eL Wait.enc))),(3,.int .i64 j1)],[],0⟩
def zf7 (a0:List (List Wait)) (g2:Int×Int):Option ((Int×Int)⊕((Int))) :=
 (if (decide (g2.2 < (a0.length:Int)))=true then
  gd (0≤g2.2∧g2.2 < (a0.length:Int)) <|
  (if (decide ((IntKind.i64.wrap (g2.1+((a0.getD g2.2.toNat []).length:Int))) < 0))=true then
   none
  else
   some (.inl ((IntKind.i64.wrap (g2.1+((a0.getD g2.2.toNat []).length:Int))),(IntKind.i64.wrap (g2.2+1)))))
 else
  some (.inr g2.1))
@[go_sem] def zeJ7 (a0:List (List Wait)) (g2:Int×Int):St:=⟨[(0,.sl (a0.map (eL Wait.enc))),(3,.int .i64 g2.1),(9,.sl (a0.map (eL Wait.enc))),(10,.int .i64 (a0.length:Int)),(11,.int .i64 g2.2)],[],0⟩
def zd4 (a0:List (List Wait)):Option ((List Wait)) :=
 (zb4 (zf7 a0) (0,0)).bind (fun z=>zp8 a0 z)
theorem zad7 (a0:List (List Wait)) (r:(List Wait)) (h:zd4 a0=some r):PFn C 115 [.sl (a0.map (eL Wait.enc))] (.sl (r.map Wait.enc)):=by
 refine za7 zfe8 rfl fun E hG hN hK=>?_
 unfold zcS8
 unfold zd4 at h
 refine za0 (za1 hG ?_)
 refine za0 (za1 hG ?_)
 refine za0 (za0 (za1 hG ?_))
 refine zb2 (zeJ6 a0) (fun v=>zp8 a0 v=some r) ?_ ?_
 · intro j1 h
   unfold zp8 at h
   refine g_st ?_
   refine za0 (za1 hG ?_)
   obtain ⟨v1,hv1,h⟩:=za2 h
   refine zd3 [] [(0,0)] [0] (zac3 _ _ hv1) rfl rfl ?_
   refine za0 (za0 (za1 hG ?_))
   refine zb2 (zeJ4) (fun v=>zw9 v=some r) ?_ ?_
   · intro j2 h
     unfold zw9 at h
     refine g_st ?_
     refine za0 (za1 hG ?_)
     refine za6 ?_
     exact zb0 h
   refine zc8 (zeJ5 a0) hK [(0,0)] h (fun x_l1 h g1 y_l1 h_l1 hx_l1=>?_)
   unfold zf6 at h_l1
   refine g_st ?_
   refine za0 (za1 hG ?_)
   refine za0 ?_
   refine za3 rfl hG h_l1 (fun _ h_l1=>?_) (fun _ h_l1=>?_)
   · refine za4 ?_
     refine za0 (zb3 (za0 ?_))
     obtain ⟨hb2,h_l1⟩:=za5 h_l1
     refine za1 hG ?_
     obtain ⟨hb1,h_l1⟩:=za5 h_l1
     refine za1 hG ?_
     refine za1 hG ?_
     exact zc2 hK [(0,1)] h_l1
   refine zb5 ?_
   cases h_l1
   cases hx_l1 _ rfl
   exact zb8 hK [(0,0)] g1.2 (by exact h)
 refine zc8 (zeJ7 a0) hK [] h (fun x_l2 h g2 y_l2 h_l2 hx_l2=>?_)
 unfold zf7 at h_l2
 refine g_st ?_
 refine za0 (za1 hG ?_)
 refine za0 ?_
 refine za3 rfl hG h_l2 (fun _ h_l2=>?_) (fun _ h_l2=>?_)
 · refine za4 ?_
   refine za0 (zb3 (za0 ?_))
   obtain ⟨hb3,h_l2⟩:=za5 h_l2
   refine za1 hG ?_
   refine za0 (za1 hG ?_)
   refine za0 (za1 hG ?_)
   refine za3 rfl hG h_l2 (fun _ h_l2=>?_) (fun _ h_l2=>?_)
   · exact zeI2 h_l2
   refine za4 ?_
   refine za1 hG ?_
   exact zc2 hK [] h_l2
 refine zb5 ?_
 cases h_l2
 cases hx_l2 _ rfl
 exact zb8 hK [] g2.1 (by exact h)
attribute [local irreducible] zd4
def zs4 (a0:Queue):Option ((List Wait)) :=
 (zd4 [a0.converts,a0.waits]).bind fun v1 =>
 some v1
theorem zaG0 (a0:Queue) (r:(List Wait)) (h:zs4 a0=some r):PFn C 93 [.agg (Queue.enc a0)] (.sl (r.map Wait.enc)):=by
 refine za7 zfe9 rfl fun E hG hN hK=>?_
 unfold zcT1
 unfold zs4 at h
 refine za0 (za1 hG ?_)
 refine za0 (za1 hG ?_)
 obtain ⟨v1,hv1,h⟩:=za2 h
 refine za8 (fun hg=>PFn.unfull (zad7 [a0.converts,a0.waits] _ (hv1))) ?_
 refine za6 ?_
 exact zb0 h
attribute [local irreducible] zs4
def zZ1  (j1:(List Proc)):Option ((List Proc)) :=
 some j1
@[go_sem] def zeJ8  (j1:(List Proc)):St:=⟨[(3,.own 0 0 j1.length)],[(0,⟨false,3,(Proc.enc Proc.zero),j1.map Proc.enc⟩)],1⟩
def zR4 (v1:(List Wait)) (g1:Int×(List Proc)):Option ((Int×(List Proc))⊕(((List Proc)))) :=
 (if (decide (g1.1 < (v1.length:Int)))=true then
  gd (0≤g1.1∧g1.1 < (v1.length:Int)) <|
  gd (g1.2.length+1≤4294967296) <|
  some (.inl ((IntKind.i64.wrap (g1.1+1)),(g1.2++[(v1.getD g1.1.toNat Wait.zero).proc])))
 else
  some (.inr g1.2))
@[go_sem] def zeJ9 (v1:(List Wait)) (g1:Int×(List Proc)):St:=⟨[(3,.own 0 0 g1.2.length),(7,.sl (v1.map Wait.enc)),(8,.int .i64 (v1.length:Int)),(9,.int .i64 g1.1)],[(0,⟨false,3,(Proc.enc Proc.zero),g1.2.map Proc.enc⟩)],1⟩
def zu7 (a0:Queue):Option ((List Proc)) :=
 (zs4 a0).bind fun v1 =>
 (zb4 (zR4 v1) (0,[])).bind (fun z=>zZ1 z)
theorem zbi6 (a0:Queue) (r:(List Proc)) (h:zu7 a0=some r):PFn C 121 [.agg (Queue.enc a0)] (.sl (r.map Proc.enc)):=by
 refine za7 zff0 rfl fun E hG hN hK=>?_
 unfold zcU0
 unfold zu7 at h
 refine za0 (za1 hG ?_)
 refine za0 (za1 hG ?_)
 refine za0 (za0 (za1 hG ?_))
 obtain ⟨v1,hv1,h⟩:=za2 h
 refine za8 (fun hg=>zaG0 _ _ hv1) ?_
 refine zb2 (zeJ8) (fun v=>zZ1 v=some r) ?_ ?_
 · intro j1 h
   unfold zZ1 at h
   refine g_st ?_
   refine za0 (za1 hG ?_)
   refine za6 ?_
   exact zb0 h
 refine zc8 (zeJ9 v1) hK [(0,1)] h (fun x_l1 h g1 y_l1 h_l1 hx_l1=>?_)
 unfold zR4 at h_l1
 refine g_st ?_
 refine za0 (za1 hG ?_)
 refine za0 ?_
 refine za3 rfl hG h_l1 (fun _ h_l1=>?_) (fun _ h_l1=>?_)
 · refine za4 ?_
   refine za0 (zb3 (za0 ?_))
   obtain ⟨hb2,h_l1⟩:=za5 h_l1
   refine za1 hG ?_
   obtain ⟨hb1,h_l1⟩:=za5 h_l1
   refine za1 hG ?_
   refine za1 hG ?_
   exact zc2 hK [(0,2)] h_l1
 refine zb5 ?_
 cases h_l1
 cases hx_l1 _ rfl
 exact zb8 hK [(0,0)] g1.2 (by exact h)
attribute [local irreducible] zu7
def ltS (x y:Proc):Prop:=x.site < y.site∨x.site=y.site∧(x.inc < y.inc∨x.inc=y.inc∧x.num < y.num)
instance (x y:Proc):Decidable (ltS x y):=by unfold ltS; infer_instance
def cmpS (x y:Proc):Int:=if ltS x y then -1 else if ltS y x then 1 else 0
theorem zaw6 (x y:Proc):ltOf cmpS x y=decide (ltS x y):=by
 unfold ltOf cmpS
 by_cases h:ltS x y
 · simp [h]
 · by_cases h2:ltS y x <;> simp [h,h2]
theorem zct3:Go.Sort.SWO (ltOf cmpS) where
 irrefl x:=by rw [zaw6]; simp [ltS]
 trans x y z h1 h2:=by
  rw [zaw6,decide_eq_true_eq] at *; unfold ltS at *; omega
 ntrans x y z h1 h2:=by
  rw [zaw6,decide_eq_false_iff_not] at *; unfold ltS at *; omega
theorem zbI4 (x y:Proc) (h1:ltOf cmpS x y=false) (h2:ltOf cmpS y x=false):x=y:=by
 rw [zaw6,decide_eq_false_iff_not] at *; unfold ltS at *; rw [Proc.ext_iff]; omega
theorem zcA4 (p q:Proc):zf0 p q=some (cmpS p q):=by
 unfold zf0 zn9
 have e:∀ (x y z:Int) (i:Nat) (h:[x,y,z].length=3),Arr.get (⟨[x,y,z],h⟩:Arr Int 3) i 0=match i with|0=>x|1=>y|_=>z:=by
  intro x y z i h
  match i with
  | 0=>rfl
  | 1=>rfl
  | 2=>rfl
  | n+3 =>
    have:¬ (n+3 < 3):=by omega
    simp [Arr.get,zD5,this]
 have w1:IntKind.i64.wrap (0+1)=1:=by decide
 have w2:IntKind.i64.wrap (1+1)=2:=by decide
 have w3:IntKind.i64.wrap (2+1)=3:=by decide
 have s3:zf8 ⟨[p.site,p.inc,p.num],rfl⟩ ⟨[q.site,q.inc,q.num],rfl⟩ 3=some (.inr (.inl ())):=by unfold zf8; simp
 have s2:zf8 ⟨[p.site,p.inc,p.num],rfl⟩ ⟨[q.site,q.inc,q.num],rfl⟩ 2=some (if p.num < q.num then .inr (.inr (-1)) else if q.num < p.num then .inr (.inr 1) else .inl 3):=by
  unfold zf8
  rw [if_pos (by decide),zg6 (by decide),zg6 (by decide),zg6 (by decide)]
  simp only [e,show (2:Int).toNat=2 from rfl,decide_eq_true_eq,w3]
  by_cases h:p.num < q.num
  · simp [h]
  · by_cases h2:q.num < p.num <;> simp [h,h2]
 have s1:zf8 ⟨[p.site,p.inc,p.num],rfl⟩ ⟨[q.site,q.inc,q.num],rfl⟩ 1=some (if p.inc < q.inc then .inr (.inr (-1)) else if q.inc < p.inc then .inr (.inr 1) else .inl 2):=by
  unfold zf8
  rw [if_pos (by decide),zg6 (by decide),zg6 (by decide),zg6 (by decide)]
  simp only [e,show (1:Int).toNat=1 from rfl,decide_eq_true_eq,w2]
  by_cases h:p.inc < q.inc
  · simp [h]
  · by_cases h2:q.inc < p.inc <;> simp [h,h2]
 have s0:zf8 ⟨[p.site,p.inc,p.num],rfl⟩ ⟨[q.site,q.inc,q.num],rfl⟩ 0=some (if p.site < q.site then .inr (.inr (-1)) else if q.site < p.site then .inr (.inr 1) else .inl 1):=by
  unfold zf8
  rw [if_pos (by decide),zg6 (by decide),zg6 (by decide),zg6 (by decide)]
  simp only [e,show (0:Int).toNat=0 from rfl,decide_eq_true_eq,w1]
  by_cases h:p.site < q.site
  · simp [h]
  · by_cases h2:q.site < p.site <;> simp [h,h2]
 unfold cmpS ltS
 by_cases a1:p.site < q.site
 · rw [zd2,s0]; simp [a1]
 · by_cases a2:q.site < p.site
   · rw [zd2,s0]
     have:¬ p.site=q.site:=by omega
     simp [a1,a2,this]
   · have h1:p.site=q.site:=by omega
     by_cases b1:p.inc < q.inc
     · rw [zd2,s0]; simp only [a1,a2,if_false]; rw [zd2,s1]; simp [b1,h1]
     · by_cases b2:q.inc < p.inc
       · have:¬ p.inc=q.inc:=by omega
         rw [zd2,s0]; simp only [a1,a2,if_false]; rw [zd2,s1]; simp [b1,b2,h1,this]
       · have h2:p.inc=q.inc:=by omega
         rw [zd2,s0]; simp only [a1,a2,if_false]; rw [zd2,s1]; simp only [b1,b2,if_false]; rw [zd2,s2]
         by_cases c1:p.num < q.num
         · simp [c1,h1,h2]
         · by_cases c2:q.num < p.num
           · simp [c1,c2,h1,h2]
           · simp only [c1,c2,if_false]; rw [zd2,s3]; simp [h1,h2,zM2]
theorem zX5:SlLaysF0.n6 C.P ⟨fun|6=>98|15=>123|14=>122|28=>157|29=>158|20=>149|21=>150|22=>151|23=>152|24=>153|25=>154|26=>155|27=>156|46=>179|47=>180|48=>181|49=>182|50=>183|57=>190|n=>n,fun|22=>72|24=>51|25=>96|39=>137|53=>179|55=>114|46=>172|45=>171|50=>176|66=>189|70=>142|76=>195|77=>165|n=>n,fun n=>n⟩ where
 mixed:=ze5
 f6:=⟨ "slices.SortFunc[[]clusterlocks/api.Proc,clusterlocks/api.Proc]",by decide,Tryz.func98.trans (congrArg some (by kernel_rfl))⟩
 f14:=⟨ "slices.pdqsortCmpFunc[clusterlocks/api.Proc]",by decide,Tryz.func122.trans (congrArg some (by kernel_rfl))⟩
 f15:=Tryz.func123.trans (congrArg some (by kernel_rfl))
 f20:=⟨ "slices.insertionSortCmpFunc[clusterlocks/api.Proc]",by decide,Tryz.func149.trans (congrArg some (by kernel_rfl))⟩
 f21:=⟨ "slices.heapSortCmpFunc[clusterlocks/api.Proc]",by decide,Tryz.func150.trans (congrArg some (by kernel_rfl))⟩
 f22:=⟨ "slices.breakPatternsCmpFunc[clusterlocks/api.Proc]",by decide,Tryz.func151.trans (congrArg some (by kernel_rfl))⟩
 f23:=⟨ "slices.choosePivotCmpFunc[clusterlocks/api.Proc]",by decide,Tryz.func152.trans (congrArg some (by kernel_rfl))⟩
 f24:=⟨ "slices.reverseRangeCmpFunc[clusterlocks/api.Proc]",by decide,Tryz.func153.trans (congrArg some (by kernel_rfl))⟩
 f25:=⟨ "slices.partialInsertionSortCmpFunc[clusterlocks/api.Proc]",by decide,Tryz.func154.trans (congrArg some (by kernel_rfl))⟩
 f26:=⟨ "slices.partitionEqualCmpFunc[clusterlocks/api.Proc]",by decide,Tryz.func155.trans (congrArg some (by kernel_rfl))⟩
 f27:=⟨ "slices.partitionCmpFunc[clusterlocks/api.Proc]",by decide,Tryz.func156.trans (congrArg some (by kernel_rfl))⟩
 f28:=Tryz.func157.trans (congrArg some (by kernel_rfl))
 f29:=Tryz.func158.trans (congrArg some (by kernel_rfl))
 f46:=⟨ "slices.siftDownCmpFunc[clusterlocks/api.Proc]",by decide,Tryz.func179.trans (congrArg some (by kernel_rfl))⟩
 f47:=Tryz.func180.trans (congrArg some (by kernel_rfl))
 f48:=Tryz.func181.trans (congrArg some (by kernel_rfl))
 f49:=⟨ "slices.medianAdjacentCmpFunc[clusterlocks/api.Proc]",by decide,Tryz.func182.trans (congrArg some (by kernel_rfl))⟩
 f50:=⟨ "slices.medianCmpFunc[clusterlocks/api.Proc]",by decide,Tryz.func183.trans (congrArg some (by kernel_rfl))⟩
 f57:=⟨ "slices.order2CmpFunc[clusterlocks/api.Proc]",by decide,Tryz.func190.trans (congrArg some (by kernel_rfl))⟩
 t0:=Tryz.underlying0
 a0:=Tryz.isAgg0
 z0:=Tryz.sizeOf0
 v0:=Tryz.zeroValue0
 t3:=Tryz.underlying3
 a3:=Tryz.isAgg3
 z3:=Tryz.sizeOf3
 v3:=Tryz.zeroValue3
 t4:=Tryz.underlying4
 a4:=Tryz.isAgg4
 z4:=Tryz.sizeOf4
 v4:=Tryz.zeroValue4
 t5:=Tryz.underlying5
 a5:=Tryz.isAgg5
 z5:=Tryz.sizeOf5
 v5:=Tryz.zeroValue5
 t9:=Tryz.underlying9
 a9:=Tryz.isAgg9
 z9:=Tryz.sizeOf9
 v9:=Tryz.zeroValue9
 t22:=Tryz.underlying72
 a22:=Tryz.isAgg72
 z22:=Tryz.sizeOf72
 v22:=Tryz.zeroValue72
 t25:=Tryz.underlying96
 a25:=Tryz.isAgg96
 z25:=Tryz.sizeOf96
 v25:=Tryz.zeroValue96
 t39:=Tryz.underlying137
 a39:=Tryz.isAgg137
 z39:=Tryz.sizeOf137
 v39:=Tryz.zeroValue137
 t45:=Tryz.underlying171
 a45:=Tryz.isAgg171
 z45:=Tryz.sizeOf171
 v45:=Tryz.zeroValue171
 t46:=Tryz.underlying172
 a46:=Tryz.isAgg172
 z46:=Tryz.sizeOf172
 v46:=Tryz.zeroValue172
 t50:=Tryz.underlying176
 a50:=Tryz.isAgg176
 z50:=Tryz.sizeOf176
 v50:=Tryz.zeroValue176
 t53:=Tryz.underlying179
 a53:=Tryz.isAgg179
 z53:=Tryz.sizeOf179
 v53:=Tryz.zeroValue179
 t55:=Tryz.underlying114
 a55:=Tryz.isAgg114
 z55:=Tryz.sizeOf114
 v55:=Tryz.zeroValue114
 t66:=Tryz.underlying189
 a66:=Tryz.isAgg189
 z66:=Tryz.sizeOf189
 v66:=Tryz.zeroValue189
 t70:=Tryz.underlying142
 a70:=Tryz.isAgg142
 z70:=Tryz.sizeOf142
 v70:=Tryz.zeroValue142
 t76:=Tryz.underlying195
 a76:=Tryz.isAgg195
 z76:=Tryz.sizeOf195
 v76:=Tryz.zeroValue195
 t77:=Tryz.underlying165
 a77:=Tryz.isAgg165
 z77:=Tryz.sizeOf165
 v77:=Tryz.zeroValue165
def zc6 (a0:List Proc):Option (List Proc):=gd (a0.length≤4294967296) (some (a0.mergeSort fun x y=>!decide (y.site < x.site∨y.site=x.site∧(y.inc < x.inc∨y.inc=x.inc∧y.num < x.num))))
theorem zX1 (a0 r:List Proc) (h:zc6 a0=some r):r.length=a0.length:=by
 obtain ⟨_,h⟩:=za5 h
 obtain rfl:=Option.some.inj h
 exact List.length_mergeSort _
theorem zX2 (a0:List Proc) (r:List Proc) (h:zc6 a0=some r):MFn C 98 [.own 0 0 a0.length,.clo 48 []] [(0,⟨false,3,(Proc.enc Proc.zero),a0.map Proc.enc⟩)] 1 (.tup []) [(0,⟨false,3,(Proc.enc Proc.zero),r.map Proc.enc⟩)] 1:=by
 obtain ⟨hl,h⟩:=za5 h
 obtain rfl:=Option.some.inj h
 haveI:Inhabited Proc:=⟨Proc.zero⟩
 have e:(fun x y:Proc=>!decide (y.site < x.site∨y.site=x.site∧(y.inc < x.inc∨y.inc=x.inc∧y.num < x.num)))=fun x y=>!(ltOf cmpS) y x:=by
  funext x y
  rw [zaw6]
  exact congrArg not (decide_eq_decide.2 Iff.rfl)
 rw [e]
 exact zct2 zX5 Proc.enc 3 Proc.len (by decide) Proc.scal Tryz.isAgg51 Tryz.sizeOf51 cmpS zct3 zbI4 48 (fun x y=>zH5 x y _ (zcA4 x y)) (enters_of Tryz.func48 (by kernel_rfl) rfl) rfl _ a0 hl
attribute [local irreducible] zc6
def zt8 (a0:List Proc) (j1:Unit):Option ((List Proc)×(List Proc)) :=
 some (a0,a0)
@[go_sem] def zeK0 (a0:List Proc) (j1:Unit):St:=⟨[(0,.own 0 0 a0.length)],[(0,⟨false,3,(Proc.enc Proc.zero),a0.map Proc.enc⟩)],1⟩
def zn2  (j2:Int×(List Proc)):Option ((Int)⊕((Unit)⊕((List Proc)×(List Proc)))) :=
 gd (0≤j2.1∧j2.1≤((j2.2.length:Nat):Int)∧((j2.2.length:Nat):Int)≤((j2.2.length:Nat):Int)) <|
 gd (0≤0∧0≤j2.1∧j2.1≤((j2.2.length:Nat):Int)) <|
 some (.inr (.inr ((((j2.2.take j2.1.toNat++List.replicate (j2.2.length - j2.1.toNat) Proc.zero++j2.2.drop (j2.1.toNat+(j2.2.length - j2.1.toNat))).drop 0).take j2.1.toNat),(j2.2.take j2.1.toNat++List.replicate (j2.2.length - j2.1.toNat) Proc.zero++j2.2.drop (j2.1.toNat+(j2.2.length - j2.1.toNat))))))
@[go_sem] def zeK1  (j2:Int×(List Proc)):St:=⟨[(0,.own 0 0 j2.2.length),(3,.int .i64 j2.1)],[(0,⟨false,3,(Proc.enc Proc.zero),j2.2.map Proc.enc⟩)],1⟩
def zn3 (a0:List Proc) (g1:Int) (g2:Int×Int×(List Proc)):Option ((Int×Int×(List Proc))⊕((Int×(List Proc)))) :=
 (if (decide (g2.2.1 < (((a0.length - g1.toNat):Nat):Int)))=true then
  gd (0≤g2.2.1∧g2.2.1 < (((a0.length - g1.toNat):Nat):Int)∧g1.toNat+(a0.length - g1.toNat)≤g2.2.2.length) <|
  gd (0≤(IntKind.i64.wrap (g2.2.1 - 1))∧(IntKind.i64.wrap (g2.2.1 - 1)) < (((a0.length - g1.toNat):Nat):Int)∧g1.toNat+(a0.length - g1.toNat)≤g2.2.2.length) <|
  (if (!decide ((g2.2.2.getD (g1.toNat+g2.2.1.toNat) Proc.zero)=(g2.2.2.getD (g1.toNat+(IntKind.i64.wrap (g2.2.1 - 1)).toNat) Proc.zero)))=true then
   gd (0≤g2.2.1∧g2.2.1 < (((a0.length - g1.toNat):Nat):Int)∧g1.toNat+(a0.length - g1.toNat)≤g2.2.2.length) <|
   gd (0≤g2.1∧g2.1 < ((g2.2.2.length:Nat):Int)) <|
   some (.inl ((IntKind.i64.wrap (g2.1+1)),(IntKind.i64.wrap (g2.2.1+1)),(g2.2.2.set g2.1.toNat (g2.2.2.getD (g1.toNat+g2.2.1.toNat) Proc.zero))))
  else
   some (.inl (g2.1,(IntKind.i64.wrap (g2.2.1+1)),g2.2.2)))
 else
  some (.inr (g2.1,g2.2.2)))
@[go_sem] def zeK2 (a0:List Proc) (g1:Int) (g2:Int×Int×(List Proc)):St:=⟨[(0,.own 0 0 g2.2.2.length),(3,.int .i64 g2.1),(4,.own 0 g1.toNat (a0.length - g1.toNat)),(5,.int .i64 g2.2.1)],[(0,⟨false,3,(Proc.enc Proc.zero),g2.2.2.map Proc.enc⟩)],1⟩
def zn4 (a0:List Proc) (g1:Int):Option ((Int)⊕((Unit)⊕((List Proc)×(List Proc)))) :=
 (if (decide (g1 < ((a0.length:Nat):Int)))=true then
  gd (0≤g1∧g1 < ((a0.length:Nat):Int)) <|
  gd (0≤(IntKind.i64.wrap (g1 - 1))∧(IntKind.i64.wrap (g1 - 1)) < ((a0.length:Nat):Int)) <|
  (if (decide ((a0.getD g1.toNat Proc.zero)=(a0.getD ((IntKind.i64.wrap (g1 - 1)).toNat) Proc.zero)))=true then
   gd (0≤g1∧g1≤((a0.length:Nat):Int)∧((a0.length:Nat):Int)≤((a0.length:Nat):Int)) <|
   (zb4 (zn3 a0 g1) (g1,1,a0)).bind (fun z=>zn2 z)
  else
   some (.inl (IntKind.i64.wrap (g1+1))))
 else
  some (.inr (.inl ())))
@[go_sem] def zeK3 (a0:List Proc) (g1:Int):St:=⟨[(0,.own 0 0 a0.length),(3,.int .i64 g1)],[(0,⟨false,3,(Proc.enc Proc.zero),a0.map Proc.enc⟩)],1⟩
def zc9 (a0:List Proc):Option ((List Proc)×(List Proc)) :=
 (if (decide (((a0.length:Nat):Int) < 2))=true then
  some (a0,a0)
 else
  (zb4 (zn4 a0) 1).bind (fun|.inl z=>zt8 a0 z|.inr z=>some z))
theorem zX6 (a0:List Proc) (r:(List Proc)×(List Proc)) (h:zc9 a0=some r):MFn C 99 [.own 0 0 a0.length] [(0,⟨false,3,(Proc.enc Proc.zero),a0.map Proc.enc⟩)] 1 (.sl (r.1.map Proc.enc)) [(0,⟨true,3,(Proc.enc Proc.zero),r.2.map Proc.enc⟩)] 1:=by
 refine zh0 (rl:=[.sl (r.1.map Proc.enc)]) zff1 rfl rfl rfl rfl fun E hG hN hK=>?_
 unfold zcV1
 unfold zc9 at h
 refine za0 (za1 hG ?_)
 refine za0 (za0 (za1 hG ?_))
 refine za3 rfl hG h (fun _ h=>?_) (fun _ h=>?_)
 · refine za0 (za1 hG ?_)
   refine g_gh (.fz [0]) ?_
   refine za6 ?_
   exact ze0 [(0,0)] h
 refine za4 ?_
 refine za0 (za0 (za1 hG ?_))
 refine zb2 (zeK0 a0) (fun v=>zt8 a0 v=some r) ?_ ?_
 · intro j1 h
   unfold zt8 at h
   refine g_st ?_
   refine za0 (za1 hG ?_)
   refine g_gh (.fz [0]) ?_
   refine za6 ?_
   exact ze0 [(0,0)] h
 refine zc8 (zeK3 a0) hK [(0,0)] h (fun x_l1 h g1 y_l1 h_l1 hx_l1=>?_)
 unfold zn4 at h_l1
 refine g_st ?_
 refine za0 (za0 (za1 hG ?_))
 refine za3 rfl hG h_l1 (fun _ h_l1=>?_) (fun _ h_l1=>?_)
 · refine za4 ?_
   refine za0 (zb3 (za0 ?_))
   obtain ⟨hb8,h_l1⟩:=za5 h_l1
   obtain ⟨hb9,h_l1⟩:=za5 h_l1
   refine zl3 ze5 hG ?_
   refine za3 rfl hG h_l1 (fun _ h_l1=>?_) (fun _ h_l1=>?_)
   · refine za0 ?_
     obtain ⟨hb7,h_l1⟩:=za5 h_l1
     refine za1 hG ?_
     refine za0 (za0 (za1 hG ?_))
     refine zb2 (zeK1) (fun v=>zn2 v=some y_l1) ?_ ?_
     · intro j2 h_l1
       unfold zn2 at h_l1
       refine g_st ?_
       refine za0 ?_
       obtain ⟨hb2,h_l1⟩:=za5 h_l1
       refine za1 hG ?_
       refine za0 ?_
       obtain ⟨hb1,h_l1⟩:=za5 h_l1
       refine za1 hG ?_
       refine g_gh (.fz [0]) ?_
       refine za6 ?_
       cases h_l1
       cases hx_l1 _ rfl
       exact ze0 [(0,0)] h
     refine zc8 (zeK2 a0 g1) hK [(0,0)] h_l1 (fun x_l2 h_l1 g2 y_l2 h_l2 hx_l2=>?_)
     unfold zn3 at h_l2
     refine g_st ?_
     refine za0 (za0 (za1 hG ?_))
     refine za3 rfl hG h_l2 (fun _ h_l2=>?_) (fun _ h_l2=>?_)
     · refine za4 ?_
       refine za0 (zb3 (za0 ?_))
       obtain ⟨hb5,h_l2⟩:=za5 h_l2
       obtain ⟨hb6,h_l2⟩:=za5 h_l2
       refine zl3 ze5 hG ?_
       refine za3 rfl hG h_l2 (fun _ h_l2=>?_) (fun _ h_l2=>?_)
       · refine za0 ?_
         obtain ⟨hb3,h_l2⟩:=za5 h_l2
         obtain ⟨hb4,h_l2⟩:=za5 h_l2
         refine za1 hG ?_
         refine za1 hG ?_
         refine za1 hG ?_
         exact zc2 hK [(0,0)] h_l2
       refine za4 ?_
       refine za1 hG ?_
       exact zc2 hK [(0,0)] h_l2
     refine zb5 ?_
     obtain rfl:=Option.some.inj h_l2
     have hx:=hx_l2 _ rfl
     subst hx
     try dsimp only at h_l1
     exact zb8 hK [(0,0)] (g2.1,g2.2.2) (by exact h_l1)
   refine za4 ?_
   refine za1 hG ?_
   exact zc2 hK [(0,0)] h_l1
 refine zb5 ?_
 cases h_l1
 cases hx_l1 _ rfl
 exact zb8 hK [(0,0)] () (by exact h)
attribute [local irreducible] zc9
def zj7 (a0:List Proc):Option ((List Proc)) :=
 gd (a0.length≤4294967296) <|
 (zc6 a0).bind fun v1 =>
 (zc9 v1).bind fun v2 =>
 some v2.1
theorem zad8 (a0:List Proc) (r:(List Proc)) (h:zj7 a0=some r):PFn C 69 [.sl (a0.map Proc.enc)] (.sl (r.map Proc.enc)):=by
 refine za7 zff2 rfl fun E hG hN hK=>?_
 unfold zcV6
 unfold zj7 at h
 refine za0 (za1 hG ?_)
 refine za0 ?_
 obtain ⟨hb1,h⟩:=za5 h
 refine za1 hG ?_
 refine za0 (za1 hG ?_)
 obtain ⟨v1,hv1,h⟩:=za2 h
 have hl_v1:=zX1 a0 _ hv1
 refine zd3 [(0,0)] [] [0] (zX2 _ _ hv1) rfl rfl ?_
 refine za0 (za1 hG ?_)
 obtain ⟨v2,hv2,h⟩:=za2 h
 refine zd3 [(0,0)] [] [0] (zX6 _ _ hv2) rfl rfl ?_
 refine za6 ?_
 exact zb0 h
attribute [local irreducible] zj7
def zu8 (a0:Queue):Option ((List Proc)) :=
 (zm5 a0.holds).bind fun v1 =>
 (zu7 a0).bind fun v2 =>
 gd (v1.length+v2.length≤4294967296) <|
 (zj7 (v1++v2)).bind fun v3 =>
 some v3
theorem zbi7 (a0:Queue) (r:(List Proc)) (h:zu8 a0=some r):PFn C 97 [.agg (Queue.enc a0)] (.sl (r.map Proc.enc)):=by
 refine za7 zff3 rfl fun E hG hN hK=>?_
 unfold zcV9
 unfold zu8 at h
 refine za0 (za1 hG ?_)
 refine za0 (zab5 ze5 hG ?_)
 obtain ⟨v1,hv1,h⟩:=za2 h
 refine zac1 [] [(0,1)] [0] (zaK4 _ _ hv1) rfl rfl ?_
 obtain ⟨v2,hv2,h⟩:=za2 h
 obtain ⟨hb1,h⟩:=za5 h
 refine zaQ6 (fun hg=>zbi6 _ _ hv2) ?_
 obtain ⟨v3,hv3,h⟩:=za2 h
 refine zaQ6 (fun hg=>zad8 _ _ hv3) ?_
 refine za6 ?_
 exact zb0 h
attribute [local irreducible] zu8
def zZ2  (j1:(List Proc)):Option ((List Proc)) :=
 (zj7 j1).bind fun v1 =>
 some v1
@[go_sem] def zeK4  (j1:(List Proc)):St:=⟨[(3,.own 0 0 j1.length)],[(0,⟨false,3,(Proc.enc Proc.zero),j1.map Proc.enc⟩)],1⟩
def zR5 (a0:List Queue) (g1:Int×(List Proc)):Option ((Int×(List Proc))⊕(((List Proc)))) :=
 (if (decide (g1.1 < (a0.length:Int)))=true then
  gd (0≤g1.1∧g1.1 < (a0.length:Int)) <|
  (zu8 (a0.getD g1.1.toNat Queue.zero)).bind fun v2 =>
  gd (g1.2.length+v2.length≤4294967296) <|
  some (.inl ((IntKind.i64.wrap (g1.1+1)),(g1.2++v2)))
 else
  some (.inr g1.2))
@[go_sem] def zeK5 (a0:List Queue) (g1:Int×(List Proc)):St:=⟨[(3,.own 0 0 g1.2.length),(6,.sl (a0.map Queue.enc)),(7,.int .i64 (a0.length:Int)),(8,.int .i64 g1.1)],[(0,⟨false,3,(Proc.enc Proc.zero),g1.2.map Proc.enc⟩)],1⟩
def zu9 (a0:List Queue):Option ((List Proc)) :=
 (zb4 (zR5 a0) (0,[])).bind (fun z=>zZ2 z)
theorem zbi8 (a0:List Queue) (r:(List Proc)) (h:zu9 a0=some r):PFn C 68 [.sl (a0.map Queue.enc)] (.sl (r.map Proc.enc)):=by
 refine za7 zff4 rfl fun E hG hN hK=>?_
 unfold zcW8
 unfold zu9 at h
 refine za0 (za1 hG ?_)
 refine za0 (za1 hG ?_)
 refine za0 (za0 (za1 hG ?_))
 refine zb2 (zeK4) (fun v=>zZ2 v=some r) ?_ ?_
 · intro j1 h
   unfold zZ2 at h
   refine g_st ?_
   refine za0 (za1 hG ?_)
   obtain ⟨v1,hv1,h⟩:=za2 h
   refine za8 (fun hg=>zad8 _ _ hv1) ?_
   refine za6 ?_
   exact zb0 h
 refine zc8 (zeK5 a0) hK [(0,0)] h (fun x_l1 h g1 y_l1 h_l1 hx_l1=>?_)
 unfold zR5 at h_l1
 refine g_st ?_
 refine za0 (za1 hG ?_)
 refine za0 ?_
 refine za3 rfl hG h_l1 (fun _ h_l1=>?_) (fun _ h_l1=>?_)
 · refine za4 ?_
   refine za0 (zb3 (za0 ?_))
   obtain ⟨hb2,h_l1⟩:=za5 h_l1
   refine za1 hG ?_
   refine za1 hG ?_
   obtain ⟨v2,hv2,h_l1⟩:=za2 h_l1
   obtain ⟨hb1,h_l1⟩:=za5 h_l1
   refine za8 (fun hg=>zbi7 _ _ hv2) ?_
   refine za1 hG ?_
   exact zc2 hK [(0,2)] h_l1
 refine zb5 ?_
 cases h_l1
 cases hx_l1 _ rfl
 exact zb8 hK [(0,0)] g1.2 (by exact h)
attribute [local irreducible] zu9
def zO2  (j1:(List Proc)):Option ((List Proc)) :=
 (zj7 j1).bind fun v2 =>
 some v2
@[go_sem] def zeK6  (j1:(List Proc)):St:=⟨[(3,.own 0 0 j1.length)],[(0,⟨false,3,(Proc.enc Proc.zero),j1.map Proc.enc⟩)],1⟩
def zO3 (a0:WaitState) (g1:Int×(List Proc)):Option ((Int×(List Proc))⊕(((List Proc)))) :=
 (if (decide (g1.1 < (a0.needs.length:Int)))=true then
  gd (0≤g1.1∧g1.1 < (a0.needs.length:Int)) <|
  gd (g1.2.length+1≤4294967296) <|
  some (.inl ((IntKind.i64.wrap (g1.1+1)),(g1.2++[(a0.needs.getD g1.1.toNat Need.zero).proc])))
 else
  some (.inr g1.2))
@[go_sem] def zeK7 (a0:WaitState) (g1:Int×(List Proc)):St:=⟨[(3,.own 0 0 g1.2.length),(11,.sl (a0.needs.map Need.enc)),(12,.int .i64 (a0.needs.length:Int)),(13,.int .i64 g1.1)],[(0,⟨false,3,(Proc.enc Proc.zero),g1.2.map Proc.enc⟩)],1⟩
def zj8 (a0:WaitState):Option ((List Proc)) :=
 (zu9 a0.queues).bind fun v1 =>
 gd (v1.length≤4294967296) <|
 (zb4 (zO3 a0) (0,v1)).bind (fun z=>zO2 z)
theorem zap7 (a0:WaitState) (r:(List Proc)) (h:zj8 a0=some r):PFn C 29 [.agg (WaitState.enc a0)] (.sl (r.map Proc.enc)):=by
 refine za7 zff5 rfl fun E hG hN hK=>?_
 unfold zcX7
 unfold zj8 at h
 refine za0 (za1 hG ?_)
 refine za0 (za1 hG ?_)
 obtain ⟨v1,hv1,h⟩:=za2 h
 obtain ⟨hb3,h⟩:=za5 h
 refine za8 (fun hg=>zbi8 _ _ hv1) ?_
 refine za0 (za0 (za1 hG ?_))
 refine zb2 (zeK6) (fun v=>zO2 v=some r) ?_ ?_
 · intro j1 h
   unfold zO2 at h
   refine g_st ?_
   refine za0 (za1 hG ?_)
   obtain ⟨v2,hv2,h⟩:=za2 h
   refine za8 (fun hg=>zad8 _ _ hv2) ?_
   refine za6 ?_
   exact zb0 h
 refine zc8 (zeK7 a0) hK [(0,1)] h (fun x_l1 h g1 y_l1 h_l1 hx_l1=>?_)
 unfold zO3 at h_l1
 refine g_st ?_
 refine za0 (za1 hG ?_)
 refine za0 ?_
 refine za3 rfl hG h_l1 (fun _ h_l1=>?_) (fun _ h_l1=>?_)
 · refine za4 ?_
   refine za0 (zb3 (za0 ?_))
   obtain ⟨hb2,h_l1⟩:=za5 h_l1
   refine za1 hG ?_
   obtain ⟨hb1,h_l1⟩:=za5 h_l1
   refine za1 hG ?_
   refine za1 hG ?_
   exact zc2 hK [(0,2)] h_l1
 refine zb5 ?_
 cases h_l1
 cases hx_l1 _ rfl
 exact zb8 hK [(0,0)] g1.2 (by exact h)
attribute [local irreducible] zj8
def zO4 (a0:WaitState) (j2:Unit):Option (Bool) :=
 (zj8 a0).bind fun v1 =>
 some (decide ((v1.length:Int)≤8))
@[go_sem] def zeK8 (a0:WaitState) (j2:Unit):St:=⟨[(1,.ptr 0 0 0)],[(0,⟨false,2,(WaitState.enc WaitState.zero),[WaitState.enc a0]⟩)],1⟩
def zO5 (a0:WaitState) (g1:Int):Option ((Int)⊕((Unit)⊕(Bool))) :=
 (if (decide (g1 < (a0.needs.length:Int)))=true then
  gd (0≤g1∧g1 < (a0.needs.length:Int)) <|
  ((if (!(((!(za9 ((a0.needs.getD g1.toNat Need.zero).proc)))||(decide ((a0.needs.getD g1.toNat Need.zero).gen < 0)))||(decide (1073741824 < (a0.needs.getD g1.toNat Need.zero).gen))))=true then zi0 ((a0.needs.getD g1.toNat Need.zero).expr) else some (false))).bind fun v2 =>
  (if ((((!(za9 ((a0.needs.getD g1.toNat Need.zero).proc)))||(decide ((a0.needs.getD g1.toNat Need.zero).gen < 0)))||(decide (1073741824 < (a0.needs.getD g1.toNat Need.zero).gen)))||(!v2))=true then
   some (.inr (.inr false))
  else
   gd ((decide (0 < g1))=true→0≤(IntKind.i64.wrap (g1 - 1))∧(IntKind.i64.wrap (g1 - 1)) < (a0.needs.length:Int)) <|
   ((if (decide (0 < g1))=true then zf0 ((a0.needs.getD ((IntKind.i64.wrap (g1 - 1)).toNat) Need.zero).proc) ((a0.needs.getD g1.toNat Need.zero).proc) else some (0))).bind fun v3 =>
   (if ((decide (0 < g1))&&(decide (0≤v3)))=true then
    some (.inr (.inr false))
   else
    some (.inl (IntKind.i64.wrap (g1+1)))))
 else
  some (.inr (.inl ())))
@[go_sem] def zeK9 (a0:WaitState) (g1:Int):St:=⟨[(1,.ptr 0 0 0),(48,.sl (a0.needs.map Need.enc)),(49,.int .i64 (a0.needs.length:Int)),(50,.int .i64 g1)],[(0,⟨false,2,(WaitState.enc WaitState.zero),[WaitState.enc a0]⟩)],1⟩
def zO6 (a0:WaitState) (j1:Unit):Option (Bool) :=
 (zb4 (zO5 a0) 0).bind (fun|.inl z=>zO4 a0 z|.inr z=>some z)
@[go_sem] def zeL0 (a0:WaitState) (j1:Unit):St:=⟨[(1,.ptr 0 0 0)],[(0,⟨false,2,(WaitState.enc WaitState.zero),[WaitState.enc a0]⟩)],1⟩
def zO7 (a0:WaitState) (g2:Int):Option ((Int)⊕((Unit)⊕(Bool))) :=
 (if (decide (g2 < (a0.queues.length:Int)))=true then
  gd (0≤g2∧g2 < (a0.queues.length:Int)) <|
  (zu6 (a0.queues.getD g2.toNat Queue.zero)).bind fun v4 =>
  gd ((v4&&(decide (0 < g2)))=true→0≤(IntKind.i64.wrap (g2 - 1))∧(IntKind.i64.wrap (g2 - 1)) < (a0.queues.length:Int)) <|
  (if ((!v4)||((decide (0 < g2))&&(!Op.bytesLess (((a0.queues.getD ((IntKind.i64.wrap (g2 - 1)).toNat) Queue.zero).resource).name).toList (((a0.queues.getD g2.toNat Queue.zero).resource).name).toList)))=true then
   some (.inr (.inr false))
  else
   some (.inl (IntKind.i64.wrap (g2+1))))
 else
  some (.inr (.inl ())))
@[go_sem] def zeL1 (a0:WaitState) (g2:Int):St:=⟨[(1,.ptr 0 0 0),(18,.sl (a0.queues.map Queue.enc)),(19,.int .i64 (a0.queues.length:Int)),(20,.int .i64 g2)],[(0,⟨false,2,(WaitState.enc WaitState.zero),[WaitState.enc a0]⟩)],1⟩
def zi1 (a0:WaitState):Option (Bool) :=
 (if ((decide (8 < (a0.queues.length:Int)))||(decide (8 < (a0.needs.length:Int))))=true then
  some false
 else
  (zb4 (zO7 a0) 0).bind (fun|.inl z=>zO6 a0 z|.inr z=>some z))
theorem zT0 (a0:WaitState) (r:Bool) (h:zi1 a0=some r):PFn C 18 [.agg (WaitState.enc a0)] (.bool r):=by
 refine za7 zff6 rfl fun E hG hN hK=>?_
 unfold zcY8
 unfold zi1 at h
 refine za0 (za1 hG ?_)
 refine za0 (za0 (za1 hG ?_))
 refine za3 rfl hG h (fun _ h=>?_) (fun _ h=>?_)
 · refine za0 (za1 hG ?_)
   refine za6 ?_
   exact zb0 h
 refine za4 ?_
 refine za0 (za0 (za1 hG ?_))
 refine zb2 (zeL0 a0) (fun v=>zO6 a0 v=some r) ?_ ?_
 · intro j1 h
   unfold zO6 at h
   refine g_st ?_
   refine za0 (za0 (za1 hG ?_))
   refine zb2 (zeK8 a0) (fun v=>zO4 a0 v=some r) ?_ ?_
   · intro j2 h
     unfold zO4 at h
     refine g_st ?_
     refine za0 (za1 hG ?_)
     obtain ⟨v1,hv1,h⟩:=za2 h
     refine za8 (fun hg=>zap7 _ _ hv1) ?_
     refine za6 ?_
     exact zb0 h
   refine zc8 (zeK9 a0) hK [(0,0)] h (fun x_l1 h g1 y_l1 h_l1 hx_l1=>?_)
   unfold zO5 at h_l1
   refine g_st ?_
   refine za0 (za1 hG ?_)
   refine za0 ?_
   refine za3 rfl hG h_l1 (fun _ h_l1=>?_) (fun _ h_l1=>?_)
   · refine za4 ?_
     refine za0 (zb3 (za0 ?_))
     obtain ⟨hb2,h_l1⟩:=za5 h_l1
     refine za1 hG ?_
     refine za0 (za0 (za1 hG ?_))
     refine za8 (fun hg=>zF6 ((a0.needs.getD g1.toNat Need.zero).proc)) ?_
     obtain ⟨v2,hv2,h_l1⟩:=za2 h_l1
     refine za8 (fun hg=>zal4 ((a0.needs.getD g1.toNat Need.zero).expr) _ (zv4 hg hv2)) ?_
     refine za3 rfl hG h_l1 (fun _ h_l1=>?_) (fun _ h_l1=>?_)
     · refine za0 (za1 hG ?_)
       refine za6 ?_
       cases h_l1
       cases hx_l1 _ rfl
       exact zb0 h
     refine za4 ?_
     refine za0 ?_
     obtain ⟨hb1,h_l1⟩:=za5 h_l1
     refine zl3 ze5 hG ?_
     obtain ⟨v3,hv3,h_l1⟩:=za2 h_l1
     refine zd9 (fun hg=>zH5 ((a0.needs.getD ((IntKind.i64.wrap (g1 - 1)).toNat) Need.zero).proc) ((a0.needs.getD g1.toNat Need.zero).proc) _ (zv4 hg hv3)) ?_
     refine za3 rfl hG h_l1 (fun _ h_l1=>?_) (fun _ h_l1=>?_)
     · refine za0 (za1 hG ?_)
       refine za6 ?_
       cases h_l1
       cases hx_l1 _ rfl
       exact zb0 h
     refine za4 ?_
     refine za1 hG ?_
     exact zc2 hK [(0,0)] h_l1
   refine zb5 ?_
   cases h_l1
   cases hx_l1 _ rfl
   exact zb8 hK [(0,0)] () (by exact h)
 refine zc8 (zeL1 a0) hK [(0,0)] h (fun x_l2 h g2 y_l2 h_l2 hx_l2=>?_)
 unfold zO7 at h_l2
 refine g_st ?_
 refine za0 (za1 hG ?_)
 refine za0 ?_
 refine za3 rfl hG h_l2 (fun _ h_l2=>?_) (fun _ h_l2=>?_)
 · refine za4 ?_
   refine za0 (zb3 (za0 ?_))
   obtain ⟨hb4,h_l2⟩:=za5 h_l2
   refine za1 hG ?_
   refine za0 (zl3 ze5 hG ?_)
   obtain ⟨v4,hv4,h_l2⟩:=za2 h_l2
   obtain ⟨hb3,h_l2⟩:=za5 h_l2
   refine zd9 (fun hg=>zbi5 _ _ hv4) ?_
   refine za3 rfl hG h_l2 (fun _ h_l2=>?_) (fun _ h_l2=>?_)
   · refine za0 (za1 hG ?_)
     refine za6 ?_
     cases h_l2
     cases hx_l2 _ rfl
     exact zb0 h
   refine za4 ?_
   refine za1 hG ?_
   exact zc2 hK [(0,0)] h_l2
 refine zb5 ?_
 cases h_l2
 cases hx_l2 _ rfl
 exact zb8 hK [(0,0)] () (by exact h)
attribute [local irreducible] zi1
end
end Ab
end Go.Proofs.YtebopmkhhppfaaaGreatDoor
