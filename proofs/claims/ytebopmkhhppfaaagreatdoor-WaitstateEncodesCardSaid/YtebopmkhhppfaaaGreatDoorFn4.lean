import Derived.Test.YtebopmkhhppfaaaGreatDoorFn3
namespace Go.Proofs.YtebopmkhhppfaaaGreatDoor
namespace Ab
noncomputable section
set_option linter.unusedSimpArgs false
set_option linter.unusedVariables false
set_option maxRecDepth 100000
set_option maxHeartbeats 1000000
attribute [local irreducible] zk5 zc7 zb9 zo4 zd6 zb1 zr2 zd0 zc1 zd5 ze2 zh9 zg1 zn9 zf0 zk6 zj1 zl6 zq7 zt4 zt9 zs2 zo0 zh3 zw0 zl7 zu4 zz2 zo1 zu5 zr5 zq1 zu6 zn0 zq2 zk0 zo2 zo8 zi0 zm5 ze7 zd4 zs4 zu7 zc6 zc9 zj7 zu8 zu9 zj8 zi1 zf1 zw1 zi3 ze8 zC4 zi5 zc5 zC5 zg3 zf2 zi9 zl0 zk7 zj3 zr7 zm9 zs7 zz3 zy0 zD3
def zaj0  (j2:Unit):Option (Bool) :=
 some true
@[go_sem] def zeO5  (j2:Unit):St:=⟨[],[],0⟩
def zZ5 (a0:Queue) (g1:Int):Option ((Int)⊕((Unit)⊕(Bool))) :=
 (if (decide (g1 < (a0.waits.length:Int)))=true then
  gd (0≤g1∧g1 < (a0.waits.length:Int)) <|
  gd ((zo5 a0.resource ((a0.waits.getD g1.toNat Wait.zero).amount))=true→0≤g1∧g1 < (a0.waits.length:Int)) <|
  ((if (zo5 a0.resource ((a0.waits.getD g1.toNat Wait.zero).amount))=true then zD3 a0.holds ((a0.waits.getD g1.toNat Wait.zero).proc) else some (Amount.zero))).bind fun v4 =>
  (if ((!(zo5 a0.resource ((a0.waits.getD g1.toNat Wait.zero).amount)))||(!(zi4 v4)))=true then
   some (.inr (.inr false))
  else
   some (.inl (IntKind.i64.wrap (g1+1))))
 else
  some (.inr (.inl ())))
@[go_sem] def zeO6 (a0:Queue) (g1:Int):St:=⟨[(1,.ptr 0 0 0),(3,.ptr 1 0 0),(7,.int .i64 g1)],[(0,⟨false,8,(Queue.enc Queue.zero),[Queue.enc a0]⟩),(1,⟨false,4,(Resource.enc Resource.zero),[Resource.enc a0.resource]⟩)],2⟩
def zZ6 (a0:Queue) (j1:Unit):Option (Bool) :=
 (zb4 (zZ5 a0) 0).bind (fun|.inl z=>zaj0 z|.inr z=>some z)
@[go_sem] def zeO7 (a0:Queue) (j1:Unit):St:=⟨[(1,.ptr 0 0 0),(3,.ptr 1 0 0)],[(0,⟨false,8,(Queue.enc Queue.zero),[Queue.enc a0]⟩),(1,⟨false,4,(Resource.enc Resource.zero),[Resource.enc a0.resource]⟩)],2⟩
def zL5 (a0:Queue) (g2:Int):Option ((Int)⊕((Unit)⊕(Bool))) :=
 (if (decide (g2 < (a0.converts.length:Int)))=true then
  gd (0≤g2∧g2 < (a0.converts.length:Int)) <|
  (zD3 a0.holds ((a0.converts.getD g2.toNat Wait.zero).proc)).bind fun v5 =>
  ((if (!((((((zi4 v5)||(!(zo5 a0.resource ((a0.converts.getD g2.toNat Wait.zero).amount))))||(!(zH8 a0.resource ((a0.converts.getD g2.toNat Wait.zero).amount) v5)))||(decide ((a0.converts.getD g2.toNat Wait.zero).amount=v5)))||(!decide ((a0.converts.getD g2.toNat Wait.zero).priority=0)))||(!decide ((a0.converts.getD g2.toNat Wait.zero).passed=0))))=true then zz3 a0.converts ((a0.converts.getD g2.toNat Wait.zero).proc) else some (0))).bind fun v6 =>
  (if (((((((zi4 v5)||(!(zo5 a0.resource ((a0.converts.getD g2.toNat Wait.zero).amount))))||(!(zH8 a0.resource ((a0.converts.getD g2.toNat Wait.zero).amount) v5)))||(decide ((a0.converts.getD g2.toNat Wait.zero).amount=v5)))||(!decide ((a0.converts.getD g2.toNat Wait.zero).priority=0)))||(!decide ((a0.converts.getD g2.toNat Wait.zero).passed=0)))||(!decide (v6=g2)))=true then
   some (.inr (.inr false))
  else
   some (.inl (IntKind.i64.wrap (g2+1))))
 else
  some (.inr (.inl ())))
@[go_sem] def zeO8 (a0:Queue) (g2:Int):St:=⟨[(1,.ptr 0 0 0),(3,.ptr 1 0 0),(4,.int .i64 g2)],[(0,⟨false,8,(Queue.enc Queue.zero),[Queue.enc a0]⟩),(1,⟨false,4,(Resource.enc Resource.zero),[Resource.enc a0.resource]⟩)],2⟩
def zy1 (a0:Queue):Option (Bool) :=
 (zj3 a0.resource).bind fun v1 =>
 ((if v1=true then zs7 a0.resource a0.holds else some (false))).bind fun v2 =>
 ((if (!(((!v1)||(!v2))||(decide (8 < (a0.converts.length:Int)))))=true then zy0 a0.waits else some (false))).bind fun v3 =>
 (if (((((((!v1)||(!v2))||(decide (8 < (a0.converts.length:Int))))||(!v3))||(decide (8 < (IntKind.i64.wrap ((a0.holds.length:Int)+(a0.waits.length:Int))))))||(decide (a0.gen < 0)))||(decide (1073741824 < a0.gen)))=true then
  some false
 else
  (zb4 (zL5 a0) 0).bind (fun|.inl z=>zZ6 a0 z|.inr z=>some z))
theorem zaG1 (a0:Queue) (r:Bool) (h:zy1 a0=some r):PFn C 108 [.agg (Queue.enc a0)] (.bool r):=by
 refine za7 zfj3 rfl fun E hG hN hK=>?_
 unfold zdy7
 unfold zy1 at h
 refine za0 (za1 hG ?_)
 refine za0 (za1 hG ?_)
 refine za0 (za0 (za1 hG ?_))
 obtain ⟨v1,hv1,h⟩:=za2 h
 refine za8 (fun hg=>zaA1 _ _ hv1) ?_
 obtain ⟨v2,hv2,h⟩:=za2 h
 refine za8 (fun hg=>zap9 a0.resource a0.holds _ (zv4 hg hv2)) ?_
 obtain ⟨v3,hv3,h⟩:=za2 h
 refine za8 (fun hg=>zbi9 a0.waits _ (zv4 hg hv3)) ?_
 refine za3 rfl hG h (fun _ h=>?_) (fun _ h=>?_)
 · refine za0 (za1 hG ?_)
   refine za6 ?_
   exact zb0 h
 refine za4 ?_
 refine za0 (za0 (za1 hG ?_))
 refine zb2 (zeO7 a0) (fun v=>zZ6 a0 v=some r) ?_ ?_
 · intro j1 h
   unfold zZ6 at h
   refine g_st ?_
   refine za0 (za0 (za1 hG ?_))
   refine zb2 (zeO5) (fun v=>zaj0 v=some r) ?_ ?_
   · intro j2 h
     unfold zaj0 at h
     refine g_st ?_
     refine za0 (za1 hG ?_)
     refine za6 ?_
     exact zb0 h
   refine zc8 (zeO6 a0) hK [(0,0),(1,1)] h (fun x_l1 h g1 y_l1 h_l1 hx_l1=>?_)
   unfold zZ5 at h_l1
   refine g_st ?_
   refine za0 (za0 (za1 hG ?_))
   refine za3 rfl hG h_l1 (fun _ h_l1=>?_) (fun _ h_l1=>?_)
   · refine za4 ?_
     refine za0 (zb3 (za0 ?_))
     obtain ⟨hb2,h_l1⟩:=za5 h_l1
     refine zl3 ze5 hG ?_
     obtain ⟨hb1,h_l1⟩:=za5 h_l1
     refine zd9 (fun hg=>zac4 a0.resource ((a0.waits.getD g1.toNat Wait.zero).amount)) ?_
     obtain ⟨v4,hv4,h_l1⟩:=za2 h_l1
     refine zd9 (fun hg=>zaR4 a0.holds ((a0.waits.getD g1.toNat Wait.zero).proc) _ (zv4 hg hv4)) ?_
     refine zd9 (fun hg=>zK8 v4) ?_
     refine za3 rfl hG h_l1 (fun _ h_l1=>?_) (fun _ h_l1=>?_)
     · refine za0 (za1 hG ?_)
       refine za6 ?_
       cases h_l1
       cases hx_l1 _ rfl
       exact zb0 h
     refine za4 ?_
     refine za1 hG ?_
     exact zc2 hK [(0,0),(1,1)] h_l1
   refine zb5 ?_
   cases h_l1
   cases hx_l1 _ rfl
   exact zb8 hK [] () (by exact h)
 refine zc8 (zeO8 a0) hK [(0,0),(1,1)] h (fun x_l2 h g2 y_l2 h_l2 hx_l2=>?_)
 unfold zL5 at h_l2
 refine g_st ?_
 refine za0 (za0 (za1 hG ?_))
 refine za3 rfl hG h_l2 (fun _ h_l2=>?_) (fun _ h_l2=>?_)
 · refine za4 ?_
   refine za0 (zb3 (za0 ?_))
   obtain ⟨hb3,h_l2⟩:=za5 h_l2
   refine za1 hG ?_
   refine za0 (za1 hG ?_)
   obtain ⟨v5,hv5,h_l2⟩:=za2 h_l2
   refine za8 (fun hg=>zaR4 _ _ _ hv5) ?_
   refine za0 (za1 hG ?_)
   refine za8 (fun hg=>zK8 v5) ?_
   refine za8 (fun hg=>zac4 a0.resource ((a0.converts.getD g2.toNat Wait.zero).amount)) ?_
   refine za8 (fun hg=>zbb5 a0.resource ((a0.converts.getD g2.toNat Wait.zero).amount) v5) ?_
   obtain ⟨v6,hv6,h_l2⟩:=za2 h_l2
   refine za8 (fun hg=>zaL6 a0.converts ((a0.converts.getD g2.toNat Wait.zero).proc) _ (zv4 hg hv6)) ?_
   refine za3 rfl hG h_l2 (fun _ h_l2=>?_) (fun _ h_l2=>?_)
   · refine za0 (za1 hG ?_)
     refine za6 ?_
     cases h_l2
     cases hx_l2 _ rfl
     exact zb0 h
   refine za4 ?_
   refine za1 hG ?_
   exact zc2 hK [(0,0),(1,1)] h_l2
 refine zb5 ?_
 cases h_l2
 cases hx_l2 _ rfl
 exact zb8 hK [(0,0),(1,1)] () (by exact h)
attribute [local irreducible] zy1
def zK5 (a0:Queue):Option (Wait×Bool) :=
 (if (decide (0 < (a0.converts.length:Int)))=true then
  gd (0≤0∧0 < (a0.converts.length:Int)) <|
  some ((a0.converts.getD 0 Wait.zero),true)
 else
  (if (decide (0 < (a0.waits.length:Int)))=true then
   gd (0≤0∧0 < (a0.waits.length:Int)) <|
   some ((a0.waits.getD 0 Wait.zero),true)
  else
   some ({ Wait.zero with  },false)))
theorem zbp9 (a0:Queue) (r:Wait×Bool) (h:zK5 a0=some r):PFn C 140 [.agg (Queue.enc a0)] (.tup [.agg (Wait.enc r.1),.bool r.2]):=by
 refine za7 zfj4 rfl fun E hG hN hK=>?_
 unfold zdz4
 unfold zK5 at h
 refine za0 (za1 hG ?_)
 refine za0 (za0 (za1 hG ?_))
 refine za3 rfl hG h (fun _ h=>?_) (fun _ h=>?_)
 · refine za0 ?_
   obtain ⟨hb1,h⟩:=za5 h
   refine za1 hG ?_
   refine za6 ?_
   exact zb0 h
 refine za4 ?_
 refine za0 (za0 (za1 hG ?_))
 refine za3 rfl hG h (fun _ h=>?_) (fun _ h=>?_)
 · refine za0 ?_
   obtain ⟨hb2,h⟩:=za5 h
   refine za1 hG ?_
   refine za6 ?_
   exact zb0 h
 refine za4 ?_
 refine za0 (za1 hG ?_)
 refine za6 ?_
 exact zb0 h
attribute [local irreducible] zK5
def zag9 (a1:Proc) (a2:Amount) (j1:Bool×(List Hold)):Option ((List Hold)) :=
 (if (!j1.1)=true then
  gd (j1.2.length+1≤4294967296) <|
  some (j1.2++[(⟨a1,a2⟩:Hold)])
 else
  some j1.2)
@[go_sem] def zeO9 (a1:Proc) (a2:Amount) (j1:Bool×(List Hold)):St:=⟨[(4,.ptr 0 0 0),(5,.ptr 1 0 0),(7,.own 2 0 j1.2.length),(8,.bool j1.1)],[(0,⟨false,3,(Proc.enc Proc.zero),[Proc.enc a1]⟩),(1,⟨false,2,(Amount.enc Amount.zero),[Amount.enc a2]⟩),(2,⟨false,5,(Hold.enc Hold.zero),j1.2.map Hold.enc⟩)],3⟩
def zX8 (a0:List Hold) (a1:Proc) (a2:Amount) (g1:Bool×Int×(List Hold)):Option ((Bool×Int×(List Hold))⊕((Bool×(List Hold)))) :=
 (if (decide (g1.2.1 < (a0.length:Int)))=true then
  gd (0≤g1.2.1∧g1.2.1 < (a0.length:Int)) <|
  (if (decide ((a0.getD g1.2.1.toNat Hold.zero).proc=a1))=true then
   some (.inl (g1.1,(IntKind.i64.wrap (g1.2.1+1)),g1.2.2))
  else
   gd ((!g1.1)=true→0≤g1.2.1∧g1.2.1 < (a0.length:Int)) <|
   (if ((!g1.1)&&(decide (0 < (zm1 ((a0.getD g1.2.1.toNat Hold.zero).proc) a1))))=true then
    gd (g1.2.2.length+1≤4294967296) <|
    gd (0≤g1.2.1∧g1.2.1 < (a0.length:Int)) <|
    gd (g1.2.2.length+1+1≤4294967296) <|
    some (.inl (true,(IntKind.i64.wrap (g1.2.1+1)),((g1.2.2++[(⟨a1,a2⟩:Hold)])++[(a0.getD g1.2.1.toNat Hold.zero)])))
   else
    gd (0≤g1.2.1∧g1.2.1 < (a0.length:Int)) <|
    gd (g1.2.2.length+1≤4294967296) <|
    some (.inl (g1.1,(IntKind.i64.wrap (g1.2.1+1)),(g1.2.2++[(a0.getD g1.2.1.toNat Hold.zero)])))))
 else
  some (.inr (g1.1,g1.2.2)))
@[go_sem] def zeP0 (a0:List Hold) (a1:Proc) (a2:Amount) (g1:Bool×Int×(List Hold)):St:=⟨[(0,.sl (a0.map Hold.enc)),(4,.ptr 0 0 0),(5,.ptr 1 0 0),(7,.own 2 0 g1.2.2.length),(8,.bool g1.1),(9,.int .i64 g1.2.1)],[(0,⟨false,3,(Proc.enc Proc.zero),[Proc.enc a1]⟩),(1,⟨false,2,(Amount.enc Amount.zero),[Amount.enc a2]⟩),(2,⟨false,5,(Hold.enc Hold.zero),g1.2.2.map Hold.enc⟩)],3⟩
def zK9 (a0:List Hold) (a1:Proc) (a2:Amount):Option ((List Hold)) :=
 (zb4 (zX8 a0 a1 a2) ((zi4 a2),0,[])).bind (fun z=>zag9 a1 a2 z)
theorem zby9 (a0:List Hold) (a1:Proc) (a2:Amount) (r:(List Hold)) (h:zK9 a0 a1 a2=some r):PFn C 175 [.sl (a0.map Hold.enc),.agg (Proc.enc a1),.agg (Amount.enc a2)] (.sl (r.map Hold.enc)):=by
 refine za7 zfj5 rfl fun E hG hN hK=>?_
 unfold zdA5
 unfold zK9 at h
 refine za0 (za1 hG ?_)
 refine za0 (za1 hG ?_)
 refine za0 (za1 hG ?_)
 refine za8 (fun hg=>zK8 a2) ?_
 refine za0 (za0 (za1 hG ?_))
 refine zb2 (zeO9 a1 a2) (fun v=>zag9 a1 a2 v=some r) ?_ ?_
 · intro j1 h
   unfold zag9 at h
   refine g_st ?_
   refine za0 (za0 (za1 hG ?_))
   refine za3 rfl hG h (fun _ h=>?_) (fun _ h=>?_)
   · obtain ⟨hb1,h⟩:=za5 h
     refine za1 hG ?_
     refine za0 (za1 hG ?_)
     refine za6 ?_
     exact zb0 h
   refine za4 ?_
   refine za0 (za1 hG ?_)
   refine za6 ?_
   exact zb0 h
 refine zc8 (zeP0 a0 a1 a2) hK [(0,0),(1,1),(2,2)] h (fun x_l1 h g1 y_l1 h_l1 hx_l1=>?_)
 unfold zX8 at h_l1
 refine g_st ?_
 refine za0 (za0 (za1 hG ?_))
 refine za3 rfl hG h_l1 (fun _ h_l1=>?_) (fun _ h_l1=>?_)
 · refine za4 ?_
   refine za0 (zb3 (za0 (za0 ?_)))
   obtain ⟨hb8,h_l1⟩:=za5 h_l1
   refine zl3 ze5 hG ?_
   refine za3 rfl hG h_l1 (fun _ h_l1=>?_) (fun _ h_l1=>?_)
   · refine zb5 ?_
     refine za1 hG ?_
     exact zc2 hK [(0,0),(1,1),(2,2)] h_l1
   refine za4 ?_
   refine za0 (za0 ?_)
   obtain ⟨hb7,h_l1⟩:=za5 h_l1
   refine zl3 ze5 hG ?_
   refine zd9 (fun hg=>zH7 ((a0.getD g1.2.1.toNat Hold.zero).proc) a1) ?_
   refine za3 rfl hG h_l1 (fun _ h_l1=>?_) (fun _ h_l1=>?_)
   · refine za0 ?_
     obtain ⟨hb4,h_l1⟩:=za5 h_l1
     refine za1 hG ?_
     refine za1 hG ?_
     obtain ⟨hb2,h_l1⟩:=za5 h_l1
     obtain ⟨hb3,h_l1⟩:=za5 h_l1
     refine za1 hG ?_
     refine za1 hG ?_
     exact zc2 hK [(0,0),(1,1),(2,4)] h_l1
   refine za4 ?_
   obtain ⟨hb5,h_l1⟩:=za5 h_l1
   obtain ⟨hb6,h_l1⟩:=za5 h_l1
   refine za1 hG ?_
   refine za1 hG ?_
   exact zc2 hK [(0,0),(1,1),(2,3)] h_l1
 refine zb5 ?_
 cases h_l1
 cases hx_l1 _ rfl
 exact zb8 hK [(0,0),(1,1),(2,2)] (g1.1,g1.2.2) (by exact h)
attribute [local irreducible] zK9
def zG8 (a0:Resource) (a1:List Hold) (a2:Proc) (a3:Amount):Option (Bool) :=
 (zs7 a0 a1).bind fun v1 =>
 ((if ((v1&&(ze3 a2))&&(zo5 a0 a3))=true then zK9 a1 a2 a3 else some ([]))).bind fun v2 =>
 ((if ((v1&&(ze3 a2))&&(zo5 a0 a3))=true then zs7 a0 v2 else some (false))).bind fun v3 =>
 some (((v1&&(ze3 a2))&&(zo5 a0 a3))&&v3)
theorem zbq0 (a0:Resource) (a1:List Hold) (a2:Proc) (a3:Amount) (r:Bool) (h:zG8 a0 a1 a2 a3=some r):PFn C 141 [.agg (Resource.enc a0),.sl (a1.map Hold.enc),.agg (Proc.enc a2),.agg (Amount.enc a3)] (.bool r):=by
 refine za7 zfj6 rfl fun E hG hN hK=>?_
 unfold zdA8
 unfold zG8 at h
 refine za0 (za1 hG ?_)
 refine za0 (zl3 ze5 hG ?_)
 obtain ⟨v1,hv1,h⟩:=za2 h
 refine zd9 (fun hg=>zap9 _ _ _ hv1) ?_
 refine zd9 (fun hg=>zF9 a2) ?_
 refine zd9 (fun hg=>zac4 a0 a3) ?_
 obtain ⟨v2,hv2,h⟩:=za2 h
 refine zd9 (fun hg=>zby9 a1 a2 a3 _ (zv4 hg hv2)) ?_
 obtain ⟨v3,hv3,h⟩:=za2 h
 refine zd9 (fun hg=>zap9 a0 v2 _ (zv4 hg hv3)) ?_
 refine za6 ?_
 exact zb0 h
attribute [local irreducible] zG8
def zv0 (a0:Queue):Option (Bool) :=
 (zy1 a0).bind fun v1 =>
 (if (!v1)=true then
  some false
 else
  (zK5 a0).bind fun v2 =>
  ((if v2.2=true then zG8 a0.resource a0.holds v2.1.proc v2.1.amount else some (false))).bind fun v3 =>
  some ((!v2.2)||(!v3)))
theorem zaW0 (a0:Queue) (r:Bool) (h:zv0 a0=some r):PFn C 109 [.agg (Queue.enc a0)] (.bool r):=by
 refine za7 zfj7 rfl fun E hG hN hK=>?_
 unfold zdB4
 unfold zv0 at h
 refine za0 (za1 hG ?_)
 refine za0 (za0 (za1 hG ?_))
 obtain ⟨v1,hv1,h⟩:=za2 h
 refine za8 (fun hg=>zaG1 _ _ hv1) ?_
 refine za3 rfl hG h (fun _ h=>?_) (fun _ h=>?_)
 · refine za0 (za1 hG ?_)
   refine za6 ?_
   exact zb0 h
 refine za4 ?_
 refine za0 (za1 hG ?_)
 obtain ⟨v2,hv2,h⟩:=za2 h
 refine za8 (fun hg=>zbp9 _ _ hv2) ?_
 refine za0 (za1 hG ?_)
 obtain ⟨v3,hv3,h⟩:=za2 h
 refine za8 (fun hg=>zbq0 a0.resource a0.holds v2.1.proc v2.1.amount _ (zv4 hg hv3)) ?_
 refine za6 ?_
 exact zb0 h
attribute [local irreducible] zv0
def zB4 (a0:Queue):Option (Bool) :=
 (zy1 a0).bind fun v1 =>
 ((if v1=true then zv0 a0 else some (false))).bind fun v2 =>
 some (v1&&v2)
theorem zbj0 (a0:Queue) (r:Bool) (h:zB4 a0=some r):PFn C 84 [.agg (Queue.enc a0)] (.bool r):=by
 refine za7 zfj8 rfl fun E hG hN hK=>?_
 unfold zdB7
 unfold zB4 at h
 refine za0 (za1 hG ?_)
 refine za0 (za1 hG ?_)
 obtain ⟨v1,hv1,h⟩:=za2 h
 refine za8 (fun hg=>zaG1 _ _ hv1) ?_
 obtain ⟨v2,hv2,h⟩:=za2 h
 refine za8 (fun hg=>zaW0 a0 _ (zv4 hg hv2)) ?_
 refine za6 ?_
 exact zb0 h
attribute [local irreducible] zB4
def zaj1  (j1:Unit):Option (Bool) :=
 some true
@[go_sem] def zeP1  (j1:Unit):St:=⟨[],[],0⟩
def zZ7 (a0:List Queue) (g1:Int):Option ((Int)⊕((Unit)⊕(Bool))) :=
 (if (decide (g1 < (a0.length:Int)))=true then
  gd (0≤g1∧g1 < (a0.length:Int)) <|
  (zB4 (a0.getD g1.toNat Queue.zero)).bind fun v1 =>
  gd ((v1&&(decide (0 < g1)))=true→0≤(IntKind.i64.wrap (g1 - 1))∧(IntKind.i64.wrap (g1 - 1)) < (a0.length:Int)) <|
  gd ((v1&&(decide (0 < g1)))=true→0≤g1∧g1 < (a0.length:Int)) <|
  (if ((!v1)||((decide (0 < g1))&&(!Op.bytesLess (((a0.getD ((IntKind.i64.wrap (g1 - 1)).toNat) Queue.zero).resource).name).toList (((a0.getD g1.toNat Queue.zero).resource).name).toList)))=true then
   some (.inr (.inr false))
  else
   some (.inl (IntKind.i64.wrap (g1+1))))
 else
  some (.inr (.inl ())))
@[go_sem] def zeP2 (a0:List Queue) (g1:Int):St:=⟨[(0,.sl (a0.map Queue.enc)),(3,.int .i64 g1)],[],0⟩
def zB5 (a0:List Queue):Option (Bool) :=
 (if (decide (8 < (a0.length:Int)))=true then
  some false
 else
  (zb4 (zZ7 a0) 0).bind (fun|.inl z=>zaj1 z|.inr z=>some z))
theorem zbj1 (a0:List Queue) (r:Bool) (h:zB5 a0=some r):PFn C 53 [.sl (a0.map Queue.enc)] (.bool r):=by
 refine za7 zfj9 rfl fun E hG hN hK=>?_
 unfold zdC7
 unfold zB5 at h
 refine za0 (za1 hG ?_)
 refine za0 (za0 (za1 hG ?_))
 refine za3 rfl hG h (fun _ h=>?_) (fun _ h=>?_)
 · refine za0 (za1 hG ?_)
   refine za6 ?_
   exact zb0 h
 refine za4 ?_
 refine za0 (za0 (za1 hG ?_))
 refine zb2 (zeP1) (fun v=>zaj1 v=some r) ?_ ?_
 · intro j1 h
   unfold zaj1 at h
   refine g_st ?_
   refine za0 (za1 hG ?_)
   refine za6 ?_
   exact zb0 h
 refine zc8 (zeP2 a0) hK [] h (fun x_l1 h g1 y_l1 h_l1 hx_l1=>?_)
 unfold zZ7 at h_l1
 refine g_st ?_
 refine za0 (za0 (za1 hG ?_))
 refine za3 rfl hG h_l1 (fun _ h_l1=>?_) (fun _ h_l1=>?_)
 · refine za4 ?_
   refine za0 (zb3 (za0 ?_))
   obtain ⟨hb3,h_l1⟩:=za5 h_l1
   refine zl3 ze5 hG ?_
   obtain ⟨v1,hv1,h_l1⟩:=za2 h_l1
   obtain ⟨hb1,h_l1⟩:=za5 h_l1
   obtain ⟨hb2,h_l1⟩:=za5 h_l1
   refine zd9 (fun hg=>zbj0 _ _ hv1) ?_
   refine za3 rfl hG h_l1 (fun _ h_l1=>?_) (fun _ h_l1=>?_)
   · refine za0 (za1 hG ?_)
     refine za6 ?_
     cases h_l1
     cases hx_l1 _ rfl
     exact zb0 h
   refine za4 ?_
   refine za1 hG ?_
   exact zc2 hK [] h_l1
 refine zb5 ?_
 cases h_l1
 cases hx_l1 _ rfl
 exact zb8 hK [] () (by exact h)
attribute [local irreducible] zB5
def zan4  (j1:Int×Int):Option (Int×Int) :=
 some (j1.1,(IntKind.i64.wrap (j1.2+1)))
@[go_sem] def zeP3  (j1:Int×Int):St:=⟨[(6,.int .i64 j1.1),(7,.int .i64 j1.2)],[],0⟩
def zV3 (g1:Int×Int×Int) (v1:Int×Int) (j2:Int):Option ((Int×Int×Int)⊕((Int×Int)⊕(Int×Int))) :=
 (if (decide (24 < (IntKind.i64.wrap (g1.1+v1.1))))=true then
  some (.inr (.inr (25,0)))
 else
  some (.inl ((IntKind.i64.wrap (g1.1+v1.1)),j2,(IntKind.i64.wrap (g1.2.2+1)))))
@[go_sem] def zeP4 (a0:Expr) (a1:Int) (g1:Int×Int×Int) (v1:Int×Int) (j2:Int):St:=⟨[(1,.int .i64 a1),(2,.ptr 0 0 0),(6,.int .i64 (IntKind.i64.wrap (g1.1+v1.1))),(7,.int .i64 j2),(8,.int .i64 g1.2.2)],[(0,⟨false,5,(Expr.enc Expr.zero),[Expr.enc a0]⟩)],1⟩
def zV4 (a90:(Expr→Int→Option (Int×Int))) (a0:Expr) (a1:Int) (g1:Int×Int×Int):Option ((Int×Int×Int)⊕((Int×Int)⊕(Int×Int))) :=
 (if (decide (g1.2.2 < (a0.kids.length:Int)))=true then
  gd (0≤g1.2.2∧g1.2.2 < (a0.kids.length:Int)) <|
  (a90 (a0.kids.getD g1.2.2.toNat Expr.zero) (IntKind.i64.wrap (a1+1))).bind fun v1 =>
  (if (decide (g1.2.1 < v1.2))=true then
   zV3 g1 v1 v1.2
  else
   zV3 g1 v1 g1.2.1)
 else
  some (.inr (.inl (g1.1,g1.2.1))))
@[go_sem] def zeP5 (a0:Expr) (a1:Int) (g1:Int×Int×Int):St:=⟨[(1,.int .i64 a1),(2,.ptr 0 0 0),(6,.int .i64 g1.1),(7,.int .i64 g1.2.1),(8,.int .i64 g1.2.2)],[(0,⟨false,5,(Expr.enc Expr.zero),[Expr.enc a0]⟩)],1⟩
def zX9 (a90:(Expr→Int→Option (Int×Int))) (a0:Expr) (a1:Int):Option (Int×Int) :=
 (if ((decide (4 < a1))||(decide (24 < (a0.kids.length:Int))))=true then
  some (25,0)
 else
  (zb4 (zV4 a90 a0 a1) (1,0,0)).bind (fun|.inl z=>zan4 z|.inr z=>some z))
def zB6:Nat→(Expr→Int→Option (Int×Int))
 | 0=>fun _ _=>none
 | n+1=>zX9 (zB6 n)
def zO8 (a0:Expr) (a1:Int):Option (Int×Int):=zB6 (_root_.SizeOf.sizeOf a0+1) a0 a1
theorem zbj2 (a90:(Expr→Int→Option (Int×Int))) (hrc:∀ (a0:Expr) (a1:Int) (r:Int×Int),a90 a0 a1=some r→PFn C 142 [.agg (Expr.enc a0),.int .i64 a1] (.tup [.int .i64 r.1,.int .i64 r.2])) (a0:Expr) (a1:Int) (r:Int×Int) (h:zX9 a90 a0 a1=some r):PFn C 142 [.agg (Expr.enc a0),.int .i64 a1] (.tup [.int .i64 r.1,.int .i64 r.2]):=by
 refine za7 zfk0 rfl fun E hG hN hK=>?_
 unfold zdD8
 unfold zX9 at h
 refine za0 (za1 hG ?_)
 refine za0 (za0 (za1 hG ?_))
 refine za3 rfl hG h (fun _ h=>?_) (fun _ h=>?_)
 · refine za0 (za1 hG ?_)
   refine za6 ?_
   exact zb0 h
 refine za4 ?_
 refine za0 (za1 hG ?_)
 refine za0 (za0 (za1 hG ?_))
 refine zb2 (zeP3) (fun v=>zan4 v=some r) ?_ ?_
 · intro j1 h
   unfold zan4 at h
   refine g_st ?_
   refine za0 (za1 hG ?_)
   refine za6 ?_
   exact zb0 h
 refine zc8 (zeP5 a0 a1) hK [(0,0)] h (fun x_l1 h g1 y_l1 h_l1 hx_l1=>?_)
 unfold zV4 at h_l1
 refine g_st ?_
 refine za0 (za0 (za1 hG ?_))
 refine za3 rfl hG h_l1 (fun _ h_l1=>?_) (fun _ h_l1=>?_)
 · refine za4 ?_
   refine za0 (zb3 (za0 ?_))
   obtain ⟨hb1,h_l1⟩:=za5 h_l1
   refine za1 hG ?_
   obtain ⟨v1,hv1,h_l1⟩:=za2 h_l1
   refine za8 (fun hg=>hrc (a0.kids.getD g1.2.2.toNat Expr.zero) (IntKind.i64.wrap (a1+1)) _ (hv1)) ?_
   refine za0 (za1 hG ?_)
   refine za0 (za0 (za1 hG ?_))
   refine zaQ7 (zeP4 a0 a1 g1 v1) (fun v=>zV3 g1 v1 v=some y_l1) rfl hG h_l1 ?_ (fun _ h_l1=>?_) (fun _ h_l1=>?_)
   · intro j2 h_l1
     unfold zV3 at h_l1
     refine g_st ?_
     refine za0 (za1 hG ?_)
     refine za3 rfl hG h_l1 (fun _ h_l1=>?_) (fun _ h_l1=>?_)
     · refine za0 (za1 hG ?_)
       refine za6 ?_
       cases h_l1
       cases hx_l1 _ rfl
       exact zb0 h
     refine za4 ?_
     refine za1 hG ?_
     exact zc2 hK [(0,0)] h_l1
   · refine za1 hG ?_
     exact zb8 hK [(0,0)] v1.2 (by exact h_l1)
   refine za4 ?_
   exact zb8 hK [(0,0)] g1.2.1 (by exact h_l1)
 refine zb5 ?_
 cases h_l1
 cases hx_l1 _ rfl
 exact zb8 hK [] (g1.1,g1.2.1) (by exact h)
theorem zaG2:∀ (n:Nat) (a0:Expr) (a1:Int) (r:Int×Int),zB6 n a0 a1=some r→PFn C 142 [.agg (Expr.enc a0),.int .i64 a1] (.tup [.int .i64 r.1,.int .i64 r.2])
 | 0,_,_,_,h=>nomatch h
 | n+1,a0,a1,r,h=>zbj2 (zB6 n) (zaG2 n) a0 a1 r h
theorem zbq1 (a0:Expr) (a1:Int) (r:Int×Int) (h:zO8 a0 a1=some r):PFn C 142 [.agg (Expr.enc a0),.int .i64 a1] (.tup [.int .i64 r.1,.int .i64 r.2]):=zaG2 _ a0 a1 r h
attribute [local irreducible] zO8
def zB7 (a0:Expr):Option (Int) :=
 (zO8 a0 1).bind fun v1 =>
 (if (decide (24 < v1.1))=true then
  some 0
 else
  some v1.1)
theorem zbj3 (a0:Expr) (r:Int) (h:zB7 a0=some r):PFn C 110 [.agg (Expr.enc a0)] (.int .i64 r):=by
 refine za7 zfk1 rfl fun E hG hN hK=>?_
 unfold zdE4
 unfold zB7 at h
 refine za0 (za1 hG ?_)
 refine za0 (za1 hG ?_)
 obtain ⟨v1,hv1,h⟩:=za2 h
 refine za8 (fun hg=>zbq1 _ _ _ hv1) ?_
 refine za0 (za0 (za1 hG ?_))
 refine za3 rfl hG h (fun _ h=>?_) (fun _ h=>?_)
 · refine za0 (za1 hG ?_)
   refine za6 ?_
   exact zb0 h
 refine za4 ?_
 refine za0 (za1 hG ?_)
 refine za6 ?_
 exact zb0 h
attribute [local irreducible] zB7
def zI7 (a0:Expr) (a1:List Atom) (j1:Unit):Option ((Nat)⊕(Bool×(List Atom))) :=
 gd (a1.length+1≤4294967296) <|
 some (.inr (true,(a1++[a0.atom])))
@[go_sem] def zct4 (a0:Expr) (a1:List Atom) (j1:Unit):St:=⟨[(0,.own 1 0 a1.length),(3,.ptr 2 0 0)],[(1,⟨false,3,(Atom.enc Atom.zero),a1.map Atom.enc⟩),(2,⟨false,5,(Expr.enc Expr.zero),[Expr.enc a0]⟩)],3⟩
def zO9 (a0:Expr) (a1:List Atom) (g1:Int):Option ((Int)⊕((Unit)⊕((Nat)⊕(Bool×(List Atom))))) :=
 (if (decide (g1 < ((a1.length:Nat):Int)))=true then
  gd (0≤g1∧g1 < ((a1.length:Nat):Int)) <|
  (if (decide ((a1.getD g1.toNat Atom.zero)=a0.atom))=true then
   some (.inr (.inr (.inr (true,a1))))
  else
   some (.inl (IntKind.i64.wrap (g1+1))))
 else
  some (.inr (.inl ())))
@[go_sem] def zct5 (a0:Expr) (a1:List Atom) (g1:Int):St:=⟨[(0,.own 1 0 a1.length),(3,.ptr 2 0 0),(6,.int .i64 g1)],[(1,⟨false,3,(Atom.enc Atom.zero),a1.map Atom.enc⟩),(2,⟨false,5,(Expr.enc Expr.zero),[Expr.enc a0]⟩)],3⟩
def zP0  (j2:(List Atom)):Option ((Nat)⊕(Bool×(List Atom))) :=
 some (.inr (true,j2))
@[go_sem] def zct6  (j2:(List Atom)):St:=⟨[(0,.own 1 0 j2.length)],[(1,⟨false,3,(Atom.enc Atom.zero),j2.map Atom.enc⟩)],2⟩
def zI8 (a90:(Expr→(List Atom)→Option ((Nat)⊕(Bool×(List Atom))))) (a0:Expr) (g2:Int×(List Atom)):Option ((Int×(List Atom))⊕(((List Atom))⊕((Nat)⊕(Bool×(List Atom))))) :=
 (if (decide (g2.1 < (a0.kids.length:Int)))=true then
  gd (0≤g2.1∧g2.1 < (a0.kids.length:Int)) <|
  (a90 (a0.kids.getD g2.1.toNat Expr.zero) g2.2).bind fun v2=>match v2 with
  | .inl v2 =>
   some (.inr (.inr (.inl g2.2.length)))
  | .inr v2 =>
   (if (!v2.1)=true then
    some (.inr (.inr (.inl g2.2.length)))
   else
    some (.inl ((IntKind.i64.wrap (g2.1+1)),v2.2)))
 else
  some (.inr (.inl g2.2)))
@[go_sem] def zct7 (a0:Expr) (g2:Int×(List Atom)):St:=⟨[(0,.own 1 0 g2.2.length),(3,.ptr 2 0 0),(7,.int .i64 g2.1)],[(1,⟨false,3,(Atom.enc Atom.zero),g2.2.map Atom.enc⟩),(2,⟨false,5,(Expr.enc Expr.zero),[Expr.enc a0]⟩)],3⟩
def zG0 (a90:(Expr→(List Atom)→Option ((Nat)⊕(Bool×(List Atom))))) (a0:Expr) (a1:List Atom):Option ((Nat)⊕(Bool×(List Atom))) :=
 (if (decide ((a0.kids.length:Int)=0))=true then
  ((if (decide (a0.k=0))=true then zk7 a0.atom.name else some (false))).bind fun v1 =>
  (if (((!decide (a0.k=0))||(!v1))||(!(zq6 a0.atom.amount)))=true then
   some (.inr (false,a1))
  else
   (zb4 (zO9 a0 a1) 0).bind (fun|.inl z=>zI7 a0 a1 z|.inr z=>some z))
 else
  (if (((decide (a0.k < 1))||(decide ((a0.kids.length:Int) < a0.k)))||(!decide (a0.atom={ Atom.zero with  })))=true then
   some (.inr (false,a1))
  else
   (zb4 (zI8 a90 a0) (0,a1)).bind (fun|.inl z=>zP0 z|.inr z=>some z)))
def zo3:Nat→(Expr→(List Atom)→Option ((Nat)⊕(Bool×(List Atom))))
 | 0=>fun _ _=>none
 | n+1=>zG0 (zo3 n)
def zr8 (a0:Expr) (a1:List Atom):Option ((Nat)⊕(Bool×(List Atom))):=zo3 (_root_.SizeOf.sizeOf a0+1) a0 a1
theorem zaR5 (a90:(Expr→(List Atom)→Option ((Nat)⊕(Bool×(List Atom))))) (hrc0:∀ (a0:Expr) (a1:List Atom) (r:Nat),a90 a0 a1=some (.inl r)→MFn C 111 [.own 0 0 a1.length,.agg (Expr.enc a0)] [(0,⟨false,3,(Atom.enc Atom.zero),a1.map Atom.enc⟩)] 1 (.tup [.own 1 0 r,.bool false]) [] 2) (hrc1:∀ (a0:Expr) (a1:List Atom) (r:Bool×(List Atom)),a90 a0 a1=some (.inr r)→MFn C 111 [.own 0 0 a1.length,.agg (Expr.enc a0)] [(0,⟨false,3,(Atom.enc Atom.zero),a1.map Atom.enc⟩)] 1 (.tup [.own 1 0 r.2.length,.bool r.1]) [(1,⟨false,3,(Atom.enc Atom.zero),r.2.map Atom.enc⟩)] 2) (a0:Expr) (a1:List Atom) (r:Nat) (h:zG0 a90 a0 a1=some (.inl r)):MFn C 111 [.own 0 0 a1.length,.agg (Expr.enc a0)] [(0,⟨false,3,(Atom.enc Atom.zero),a1.map Atom.enc⟩)] 1 (.tup [.own 1 0 r,.bool false]) [] 2:=by
 refine zh0 (rl:=[.own 1 0 r,.bool false]) zdF5 rfl rfl rfl rfl fun E hG hN hK=>?_
 unfold zcj8
 unfold zG0 at h
 refine za0 (za1 hG ?_)
 refine za0 (za0 (za1 hG ?_))
 refine za3 rfl hG h (fun _ h=>?_) (fun _ h=>?_)
 · refine za0 (za0 (za1 hG ?_))
   obtain ⟨v1,hv1,h⟩:=za2 h
   refine za8 (fun hg=>zM5 a0.atom.name _ (zv4 hg hv1)) ?_
   refine za8 (fun hg=>zV2 a0.atom.amount) ?_
   refine za3 rfl hG h (fun _ h=>?_) (fun _ h=>?_)
   · refine za0 (za1 hG ?_)
     refine za6 ?_
     exact nomatch h
   refine za4 ?_
   refine za0 (za0 (za1 hG ?_))
   refine zb2 (zct4 a0 a1) (fun v=>zI7 a0 a1 v=some (.inl r)) ?_ ?_
   · intro j1 h
     unfold zI7 at h
     refine g_st ?_
     refine za0 ?_
     obtain ⟨hb1,h⟩:=za5 h
     refine za1 hG ?_
     refine za6 ?_
     exact nomatch h
   refine zc8 (zct5 a0 a1) hK [(1,0),(2,1)] h (fun x_l1 h g1 y_l1 h_l1 hx_l1=>?_)
   unfold zO9 at h_l1
   refine g_st ?_
   refine za0 (za0 (za1 hG ?_))
   refine za3 rfl hG h_l1 (fun _ h_l1=>?_) (fun _ h_l1=>?_)
   · refine za4 ?_
     refine za0 (zb3 (za0 ?_))
     obtain ⟨hb2,h_l1⟩:=za5 h_l1
     refine zl3 ze5 hG ?_
     refine za3 rfl hG h_l1 (fun _ h_l1=>?_) (fun _ h_l1=>?_)
     · refine za0 (za1 hG ?_)
       refine za6 ?_
       cases h_l1
       cases hx_l1 _ rfl
       exact nomatch h
     refine za4 ?_
     refine za1 hG ?_
     exact zc2 hK [(1,1),(2,2)] h_l1
   refine zb5 ?_
   cases h_l1
   cases hx_l1 _ rfl
   exact zb8 hK [(1,1),(2,2)] () (by exact h)
 refine za4 ?_
 refine za0 (za0 (za1 hG ?_))
 refine za3 rfl hG h (fun _ h=>?_) (fun _ h=>?_)
 · refine za0 (za1 hG ?_)
   refine za6 ?_
   exact nomatch h
 refine za4 ?_
 refine za0 (za0 (za1 hG ?_))
 refine zb2 (zct6) (fun v=>zP0 v=some (.inl r)) ?_ ?_
 · intro j2 h
   unfold zP0 at h
   refine g_st ?_
   refine za0 (za1 hG ?_)
   refine za6 ?_
   exact nomatch h
 refine zc8 (zct7 a0) hK [(1,0),(2,1)] h (fun x_l2 h g2 y_l2 h_l2 hx_l2=>?_)
 unfold zI8 at h_l2
 refine g_st ?_
 refine za0 (za0 (za1 hG ?_))
 refine za3 rfl hG h_l2 (fun _ h_l2=>?_) (fun _ h_l2=>?_)
 · refine za4 ?_
   refine za0 (zb3 (za0 ?_))
   obtain ⟨hb3,h_l2⟩:=za5 h_l2
   refine za1 hG ?_
   obtain ⟨v2,hv2,h_l2⟩:=za2 h_l2
   rcases v2 with v2|v2
   · dsimp only at h_l2
     refine zd3 [(0,1)] [(1,3)] [0,1] (hrc0 (a0.kids.getD g2.1.toNat Expr.zero) g2.2 _ hv2) rfl rfl ?_
     refine za0 (za0 (za1 hG ?_))
     refine zaQ8 rfl hG ?_
     refine za0 (za1 hG ?_)
     refine za6 ?_
     cases h_l2
     cases hx_l2 _ rfl
     exact ze0 [(1,1)] (zbd0 (h))
   dsimp only at h_l2
   refine zd3 [(0,1)] [(1,3)] [0,1] (hrc1 (a0.kids.getD g2.1.toNat Expr.zero) g2.2 _ hv2) rfl rfl ?_
   refine za0 (za0 (za1 hG ?_))
   refine za3 rfl hG h_l2 (fun _ h_l2=>?_) (fun _ h_l2=>?_)
   · refine za0 (za1 hG ?_)
     refine za6 ?_
     cases h_l2
     cases hx_l2 _ rfl
     exact ze0 [(1,1)] (zbd0 (h))
   refine za4 ?_
   refine za1 hG ?_
   refine za1 hG ?_
   exact zc2 hK [(1,3),(2,2)] h_l2
 refine zb5 ?_
 cases h_l2
 cases hx_l2 _ rfl
 exact zb8 hK [(1,1)] g2.2 (by exact h)
theorem zaR6 (a90:(Expr→(List Atom)→Option ((Nat)⊕(Bool×(List Atom))))) (hrc0:∀ (a0:Expr) (a1:List Atom) (r:Nat),a90 a0 a1=some (.inl r)→MFn C 111 [.own 0 0 a1.length,.agg (Expr.enc a0)] [(0,⟨false,3,(Atom.enc Atom.zero),a1.map Atom.enc⟩)] 1 (.tup [.own 1 0 r,.bool false]) [] 2) (hrc1:∀ (a0:Expr) (a1:List Atom) (r:Bool×(List Atom)),a90 a0 a1=some (.inr r)→MFn C 111 [.own 0 0 a1.length,.agg (Expr.enc a0)] [(0,⟨false,3,(Atom.enc Atom.zero),a1.map Atom.enc⟩)] 1 (.tup [.own 1 0 r.2.length,.bool r.1]) [(1,⟨false,3,(Atom.enc Atom.zero),r.2.map Atom.enc⟩)] 2) (a0:Expr) (a1:List Atom) (r:Bool×(List Atom)) (h:zG0 a90 a0 a1=some (.inr r)):MFn C 111 [.own 0 0 a1.length,.agg (Expr.enc a0)] [(0,⟨false,3,(Atom.enc Atom.zero),a1.map Atom.enc⟩)] 1 (.tup [.own 1 0 r.2.length,.bool r.1]) [(1,⟨false,3,(Atom.enc Atom.zero),r.2.map Atom.enc⟩)] 2:=by
 refine zh0 (rl:=[.own 1 0 r.2.length,.bool r.1]) zdF5 rfl rfl rfl rfl fun E hG hN hK=>?_
 unfold zcj8
 unfold zG0 at h
 refine za0 (za1 hG ?_)
 refine za0 (za0 (za1 hG ?_))
 refine za3 rfl hG h (fun _ h=>?_) (fun _ h=>?_)
 · refine za0 (za0 (za1 hG ?_))
   obtain ⟨v1,hv1,h⟩:=za2 h
   refine za8 (fun hg=>zM5 a0.atom.name _ (zv4 hg hv1)) ?_
   refine za8 (fun hg=>zV2 a0.atom.amount) ?_
   refine za3 rfl hG h (fun _ h=>?_) (fun _ h=>?_)
   · refine za0 (za1 hG ?_)
     refine za6 ?_
     exact ze0 [(1,0)] (zak2 (h))
   refine za4 ?_
   refine za0 (za0 (za1 hG ?_))
   refine zb2 (zct4 a0 a1) (fun v=>zI7 a0 a1 v=some (.inr r)) ?_ ?_
   · intro j1 h
     unfold zI7 at h
     refine g_st ?_
     refine za0 ?_
     obtain ⟨hb1,h⟩:=za5 h
     refine za1 hG ?_
     refine za6 ?_
     exact ze0 [(1,3)] (zak2 (h))
   refine zc8 (zct5 a0 a1) hK [(1,0),(2,1)] h (fun x_l1 h g1 y_l1 h_l1 hx_l1=>?_)
   unfold zO9 at h_l1
   refine g_st ?_
   refine za0 (za0 (za1 hG ?_))
   refine za3 rfl hG h_l1 (fun _ h_l1=>?_) (fun _ h_l1=>?_)
   · refine za4 ?_
     refine za0 (zb3 (za0 ?_))
     obtain ⟨hb2,h_l1⟩:=za5 h_l1
     refine zl3 ze5 hG ?_
     refine za3 rfl hG h_l1 (fun _ h_l1=>?_) (fun _ h_l1=>?_)
     · refine za0 (za1 hG ?_)
       refine za6 ?_
       cases h_l1
       cases hx_l1 _ rfl
       exact ze0 [(1,1)] (zak2 (h))
     refine za4 ?_
     refine za1 hG ?_
     exact zc2 hK [(1,1),(2,2)] h_l1
   refine zb5 ?_
   cases h_l1
   cases hx_l1 _ rfl
   exact zb8 hK [(1,1),(2,2)] () (by exact h)
 refine za4 ?_
 refine za0 (za0 (za1 hG ?_))
 refine za3 rfl hG h (fun _ h=>?_) (fun _ h=>?_)
 · refine za0 (za1 hG ?_)
   refine za6 ?_
   exact ze0 [(1,0)] (zak2 (h))
 refine za4 ?_
 refine za0 (za0 (za1 hG ?_))
 refine zb2 (zct6) (fun v=>zP0 v=some (.inr r)) ?_ ?_
 · intro j2 h
   unfold zP0 at h
   refine g_st ?_
   refine za0 (za1 hG ?_)
   refine za6 ?_
   exact ze0 [(1,1)] (zak2 (h))
 refine zc8 (zct7 a0) hK [(1,0),(2,1)] h (fun x_l2 h g2 y_l2 h_l2 hx_l2=>?_)
 unfold zI8 at h_l2
 refine g_st ?_
 refine za0 (za0 (za1 hG ?_))
 refine za3 rfl hG h_l2 (fun _ h_l2=>?_) (fun _ h_l2=>?_)
 · refine za4 ?_
   refine za0 (zb3 (za0 ?_))
   obtain ⟨hb3,h_l2⟩:=za5 h_l2
   refine za1 hG ?_
   obtain ⟨v2,hv2,h_l2⟩:=za2 h_l2
   rcases v2 with v2|v2
   · dsimp only at h_l2
     refine zd3 [(0,1)] [(1,3)] [0,1] (hrc0 (a0.kids.getD g2.1.toNat Expr.zero) g2.2 _ hv2) rfl rfl ?_
     refine za0 (za0 (za1 hG ?_))
     refine zaQ8 rfl hG ?_
     refine za0 (za1 hG ?_)
     refine za6 ?_
     cases h_l2
     cases hx_l2 _ rfl
     exact nomatch h
   dsimp only at h_l2
   refine zd3 [(0,1)] [(1,3)] [0,1] (hrc1 (a0.kids.getD g2.1.toNat Expr.zero) g2.2 _ hv2) rfl rfl ?_
   refine za0 (za0 (za1 hG ?_))
   refine za3 rfl hG h_l2 (fun _ h_l2=>?_) (fun _ h_l2=>?_)
   · refine za0 (za1 hG ?_)
     refine za6 ?_
     cases h_l2
     cases hx_l2 _ rfl
     exact nomatch h
   refine za4 ?_
   refine za1 hG ?_
   refine za1 hG ?_
   exact zc2 hK [(1,3),(2,2)] h_l2
 refine zb5 ?_
 cases h_l2
 cases hx_l2 _ rfl
 exact zb8 hK [(1,1)] g2.2 (by exact h)
theorem zL6:∀ (n:Nat),(∀ (a0:Expr) (a1:List Atom) (r:Nat),zo3 n a0 a1=some (.inl r)→MFn C 111 [.own 0 0 a1.length,.agg (Expr.enc a0)] [(0,⟨false,3,(Atom.enc Atom.zero),a1.map Atom.enc⟩)] 1 (.tup [.own 1 0 r,.bool false]) [] 2)∧(∀ (a0:Expr) (a1:List Atom) (r:Bool×(List Atom)),zo3 n a0 a1=some (.inr r)→MFn C 111 [.own 0 0 a1.length,.agg (Expr.enc a0)] [(0,⟨false,3,(Atom.enc Atom.zero),a1.map Atom.enc⟩)] 1 (.tup [.own 1 0 r.2.length,.bool r.1]) [(1,⟨false,3,(Atom.enc Atom.zero),r.2.map Atom.enc⟩)] 2)
 | 0=>⟨(fun _ _ _ h=>nomatch h),(fun _ _ _ h=>nomatch h)⟩
 | n+1=>⟨zaR5 (zo3 n) (zL6 n).1 (zL6 n).2,zaR6 (zo3 n) (zL6 n).1 (zL6 n).2⟩
theorem zat5 (a0:Expr) (a1:List Atom) (r:Nat) (h:zr8 a0 a1=some (.inl r)):MFn C 111 [.own 0 0 a1.length,.agg (Expr.enc a0)] [(0,⟨false,3,(Atom.enc Atom.zero),a1.map Atom.enc⟩)] 1 (.tup [.own 1 0 r,.bool false]) [] 2:=(zL6 _).1 a0 a1 r h
theorem zat6 (a0:Expr) (a1:List Atom) (r:Bool×(List Atom)) (h:zr8 a0 a1=some (.inr r)):MFn C 111 [.own 0 0 a1.length,.agg (Expr.enc a0)] [(0,⟨false,3,(Atom.enc Atom.zero),a1.map Atom.enc⟩)] 1 (.tup [.own 1 0 r.2.length,.bool r.1]) [(1,⟨false,3,(Atom.enc Atom.zero),r.2.map Atom.enc⟩)] 2:=(zL6 _).2 a0 a1 r h
attribute [local irreducible] zr8
def zR9 (a0:Expr) (j1:Unit):Option ((Nat)⊕((List Atom)×Bool)) :=
 gd (1≤4294967296) <|
 some (.inr ([a0.atom],true))
@[go_sem] def zct8 (a0:Expr) (j1:Unit):St:=⟨[(0,.own 0 0 0),(3,.ptr 1 0 0)],[(0,⟨false,3,(Atom.enc Atom.zero),[].map Atom.enc⟩),(1,⟨false,5,(Expr.enc Expr.zero),[Expr.enc a0]⟩)],2⟩
def zZ8 (a0:Expr) (g1:Int):Option ((Int)⊕((Unit)⊕((Nat)⊕((List Atom)×Bool)))) :=
 (if (decide (g1 < 0))=true then
  gd (0≤g1∧g1 < (0:Int)) <|
  (if (decide (([].getD g1.toNat Atom.zero)=a0.atom))=true then
   some (.inr (.inr (.inr ([],true))))
  else
   some (.inl (IntKind.i64.wrap (g1+1))))
 else
  some (.inr (.inl ())))
@[go_sem] def zct9 (a0:Expr) (g1:Int):St:=⟨[(0,.own 0 0 0),(3,.ptr 1 0 0),(6,.int .i64 g1)],[(0,⟨false,3,(Atom.enc Atom.zero),[].map Atom.enc⟩),(1,⟨false,5,(Expr.enc Expr.zero),[Expr.enc a0]⟩)],2⟩
def zS0  (j2:(List Atom)):Option ((Nat)⊕((List Atom)×Bool)) :=
 some (.inr (j2,true))
@[go_sem] def zcu0  (j2:(List Atom)):St:=⟨[(0,.own 0 0 j2.length)],[(0,⟨false,3,(Atom.enc Atom.zero),j2.map Atom.enc⟩)],1⟩
def zL7 (a0:Expr) (g2:Int×(List Atom)):Option ((Int×(List Atom))⊕(((List Atom))⊕((Nat)⊕((List Atom)×Bool)))) :=
 (if (decide (g2.1 < (a0.kids.length:Int)))=true then
  gd (0≤g2.1∧g2.1 < (a0.kids.length:Int)) <|
  (zr8 (a0.kids.getD g2.1.toNat Expr.zero) g2.2).bind fun v2=>match v2 with
  | .inl v2 =>
   some (.inr (.inr (.inl g2.2.length)))
  | .inr v2 =>
   (if (!v2.1)=true then
    some (.inr (.inr (.inl g2.2.length)))
   else
    some (.inl ((IntKind.i64.wrap (g2.1+1)),v2.2)))
 else
  some (.inr (.inl g2.2)))
@[go_sem] def zcu1 (a0:Expr) (g2:Int×(List Atom)):St:=⟨[(0,.own 0 0 g2.2.length),(3,.ptr 1 0 0),(7,.int .i64 g2.1)],[(0,⟨false,3,(Atom.enc Atom.zero),g2.2.map Atom.enc⟩),(1,⟨false,5,(Expr.enc Expr.zero),[Expr.enc a0]⟩)],2⟩
def zD4 (a90:(Expr→Option ((Nat)⊕((List Atom)×Bool)))) (a0:Expr):Option ((Nat)⊕((List Atom)×Bool)) :=
 (if (decide ((a0.kids.length:Int)=0))=true then
  ((if (decide (a0.k=0))=true then zk7 a0.atom.name else some (false))).bind fun v1 =>
  (if (((!decide (a0.k=0))||(!v1))||(!(zq6 a0.atom.amount)))=true then
   some (.inr ([],false))
  else
   (zb4 (zZ8 a0) 0).bind (fun|.inl z=>zR9 a0 z|.inr z=>some z))
 else
  (if (((decide (a0.k < 1))||(decide ((a0.kids.length:Int) < a0.k)))||(!decide (a0.atom={ Atom.zero with  })))=true then
   some (.inr ([],false))
  else
   (zb4 (zL7 a0) (0,[])).bind (fun|.inl z=>zS0 z|.inr z=>some z)))
def zS1:Nat→(Expr→Option ((Nat)⊕((List Atom)×Bool)))
 | 0=>fun _=>none
 | n+1=>zD4 (zS1 n)
def zy2 (a0:Expr):Option ((Nat)⊕((List Atom)×Bool)):=zS1 (_root_.SizeOf.sizeOf a0+1) a0
theorem zaW1 (a90:(Expr→Option ((Nat)⊕((List Atom)×Bool)))) (hrc0:∀ (a0:Expr) (r:Nat),a90 a0=some (.inl r)→MFn C 111 [.full ([].map Atom.enc),.agg (Expr.enc a0)] [] 0 (.tup [.own 0 0 r,.bool false]) [] 1) (hrc1:∀ (a0:Expr) (r:(List Atom)×Bool),a90 a0=some (.inr r)→MFn C 111 [.full ([].map Atom.enc),.agg (Expr.enc a0)] [] 0 (.tup [.sl (r.1.map Atom.enc),.bool r.2]) [] 0) (a0:Expr) (r:Nat) (h:zD4 a90 a0=some (.inl r)):MFn C 111 [.full ([].map Atom.enc),.agg (Expr.enc a0)] [] 0 (.tup [.own 0 0 r,.bool false]) [] 1:=by
 refine zh0 (rl:=[.own 0 0 r,.bool false]) zdG6 rfl rfl rfl rfl fun E hG hN hK=>?_
 unfold zck9
 unfold zD4 at h
 refine g_gh (.own0 0 3 (Atom.enc Atom.zero)) ?_
 refine za0 (za1 hG ?_)
 refine za0 (za0 (za1 hG ?_))
 refine za3 rfl hG h (fun _ h=>?_) (fun _ h=>?_)
 · refine za0 (za0 (za1 hG ?_))
   obtain ⟨v1,hv1,h⟩:=za2 h
   refine za8 (fun hg=>zM5 a0.atom.name _ (zv4 hg hv1)) ?_
   refine za8 (fun hg=>zV2 a0.atom.amount) ?_
   refine za3 rfl hG h (fun _ h=>?_) (fun _ h=>?_)
   · refine za0 (za1 hG ?_)
     refine g_gh (.fz [0]) ?_
     refine za6 ?_
     exact nomatch h
   refine za4 ?_
   refine za0 (za0 (za1 hG ?_))
   refine zb2 (zct8 a0) (fun v=>zR9 a0 v=some (.inl r)) ?_ ?_
   · intro j1 h
     unfold zR9 at h
     refine g_st ?_
     refine za0 ?_
     obtain ⟨hb1,h⟩:=za5 h
     refine za1 hG ?_
     refine g_gh (.fz [2]) ?_
     refine za6 ?_
     exact nomatch h
   refine zc8 (zct9 a0) hK [(0,0),(1,1)] h (fun x_l1 h g1 y_l1 h_l1 hx_l1=>?_)
   unfold zZ8 at h_l1
   refine g_st ?_
   refine za0 (za0 (za1 hG ?_))
   refine za3 rfl hG h_l1 (fun _ h_l1=>?_) (fun _ h_l1=>?_)
   · refine za4 ?_
     refine za0 (zb3 (za0 ?_))
     obtain ⟨hb2,h_l1⟩:=za5 h_l1
     refine zl3 ze5 hG ?_
     refine za3 rfl hG h_l1 (fun _ h_l1=>?_) (fun _ h_l1=>?_)
     · refine za0 (za1 hG ?_)
       refine g_gh (.fz [0]) ?_
       refine za6 ?_
       cases h_l1
       cases hx_l1 _ rfl
       exact nomatch h
     refine za4 ?_
     refine za1 hG ?_
     exact zc2 hK [(0,0),(1,1)] h_l1
   refine zb5 ?_
   cases h_l1
   cases hx_l1 _ rfl
   exact zb8 hK [(0,0),(1,1)] () (by exact h)
 refine za4 ?_
 refine za0 (za0 (za1 hG ?_))
 refine za3 rfl hG h (fun _ h=>?_) (fun _ h=>?_)
 · refine za0 (za1 hG ?_)
   refine g_gh (.fz [0]) ?_
   refine za6 ?_
   exact nomatch h
 refine za4 ?_
 refine za0 (za0 (za1 hG ?_))
 refine zb2 (zcu0) (fun v=>zS0 v=some (.inl r)) ?_ ?_
 · intro j2 h
   unfold zS0 at h
   refine g_st ?_
   refine za0 (za1 hG ?_)
   refine g_gh (.fz [0]) ?_
   refine za6 ?_
   exact nomatch h
 refine zc8 (zcu1 a0) hK [(0,0),(1,1)] h (fun x_l2 h g2 y_l2 h_l2 hx_l2=>?_)
 unfold zL7 at h_l2
 refine g_st ?_
 refine za0 (za0 (za1 hG ?_))
 refine za3 rfl hG h_l2 (fun _ h_l2=>?_) (fun _ h_l2=>?_)
 · refine za4 ?_
   refine za0 (zb3 (za0 ?_))
   obtain ⟨hb3,h_l2⟩:=za5 h_l2
   refine za1 hG ?_
   obtain ⟨v2,hv2,h_l2⟩:=za2 h_l2
   rcases v2 with v2|v2
   · dsimp only at h_l2
     refine zd3 [(0,0)] [(1,2)] [0,1] (zat5 _ _ _ hv2) rfl rfl ?_
     refine za0 (za0 (za1 hG ?_))
     refine zaQ8 rfl hG ?_
     refine za0 (za1 hG ?_)
     refine za6 ?_
     cases h_l2
     cases hx_l2 _ rfl
     exact ze0 [(0,0)] (zbd0 (h))
   dsimp only at h_l2
   refine zd3 [(0,0)] [(1,2)] [0,1] (zat6 _ _ _ hv2) rfl rfl ?_
   refine za0 (za0 (za1 hG ?_))
   refine za3 rfl hG h_l2 (fun _ h_l2=>?_) (fun _ h_l2=>?_)
   · refine za0 (za1 hG ?_)
     refine za6 ?_
     cases h_l2
     cases hx_l2 _ rfl
     exact ze0 [(0,0)] (zbd0 (h))
   refine za4 ?_
   refine za1 hG ?_
   refine za1 hG ?_
   exact zc2 hK [(0,2),(1,1)] h_l2
 refine zb5 ?_
 cases h_l2
 cases hx_l2 _ rfl
 exact zb8 hK [(0,0)] g2.2 (by exact h)
theorem zaW2 (a90:(Expr→Option ((Nat)⊕((List Atom)×Bool)))) (hrc0:∀ (a0:Expr) (r:Nat),a90 a0=some (.inl r)→MFn C 111 [.full ([].map Atom.enc),.agg (Expr.enc a0)] [] 0 (.tup [.own 0 0 r,.bool false]) [] 1) (hrc1:∀ (a0:Expr) (r:(List Atom)×Bool),a90 a0=some (.inr r)→MFn C 111 [.full ([].map Atom.enc),.agg (Expr.enc a0)] [] 0 (.tup [.sl (r.1.map Atom.enc),.bool r.2]) [] 0) (a0:Expr) (r:(List Atom)×Bool) (h:zD4 a90 a0=some (.inr r)):MFn C 111 [.full ([].map Atom.enc),.agg (Expr.enc a0)] [] 0 (.tup [.sl (r.1.map Atom.enc),.bool r.2]) [] 0:=by
 refine zh0 (rl:=[.sl (r.1.map Atom.enc),.bool r.2]) zdG6 rfl rfl rfl rfl fun E hG hN hK=>?_
 unfold zck9
 unfold zD4 at h
 refine g_gh (.own0 0 3 (Atom.enc Atom.zero)) ?_
 refine za0 (za1 hG ?_)
 refine za0 (za0 (za1 hG ?_))
 refine za3 rfl hG h (fun _ h=>?_) (fun _ h=>?_)
 · refine za0 (za0 (za1 hG ?_))
   obtain ⟨v1,hv1,h⟩:=za2 h
   refine za8 (fun hg=>zM5 a0.atom.name _ (zv4 hg hv1)) ?_
   refine za8 (fun hg=>zV2 a0.atom.amount) ?_
   refine za3 rfl hG h (fun _ h=>?_) (fun _ h=>?_)
   · refine za0 (za1 hG ?_)
     refine g_gh (.fz [0]) ?_
     refine za6 ?_
     exact ze0 [] (zak2 (h))
   refine za4 ?_
   refine za0 (za0 (za1 hG ?_))
   refine zb2 (zct8 a0) (fun v=>zR9 a0 v=some (.inr r)) ?_ ?_
   · intro j1 h
     unfold zR9 at h
     refine g_st ?_
     refine za0 ?_
     obtain ⟨hb1,h⟩:=za5 h
     refine za1 hG ?_
     refine g_gh (.fz [2]) ?_
     refine za6 ?_
     exact ze0 [] (zak2 (h))
   refine zc8 (zct9 a0) hK [(0,0),(1,1)] h (fun x_l1 h g1 y_l1 h_l1 hx_l1=>?_)
   unfold zZ8 at h_l1
   refine g_st ?_
   refine za0 (za0 (za1 hG ?_))
   refine za3 rfl hG h_l1 (fun _ h_l1=>?_) (fun _ h_l1=>?_)
   · refine za4 ?_
     refine za0 (zb3 (za0 ?_))
     obtain ⟨hb2,h_l1⟩:=za5 h_l1
     refine zl3 ze5 hG ?_
     refine za3 rfl hG h_l1 (fun _ h_l1=>?_) (fun _ h_l1=>?_)
     · refine za0 (za1 hG ?_)
       refine g_gh (.fz [0]) ?_
       refine za6 ?_
       cases h_l1
       cases hx_l1 _ rfl
       exact ze0 [] (zak2 (h))
     refine za4 ?_
     refine za1 hG ?_
     exact zc2 hK [(0,0),(1,1)] h_l1
   refine zb5 ?_
   cases h_l1
   cases hx_l1 _ rfl
   exact zb8 hK [(0,0),(1,1)] () (by exact h)
 refine za4 ?_
 refine za0 (za0 (za1 hG ?_))
 refine za3 rfl hG h (fun _ h=>?_) (fun _ h=>?_)
 · refine za0 (za1 hG ?_)
   refine g_gh (.fz [0]) ?_
   refine za6 ?_
   exact ze0 [] (zak2 (h))
 refine za4 ?_
 refine za0 (za0 (za1 hG ?_))
 refine zb2 (zcu0) (fun v=>zS0 v=some (.inr r)) ?_ ?_
 · intro j2 h
   unfold zS0 at h
   refine g_st ?_
   refine za0 (za1 hG ?_)
   refine g_gh (.fz [0]) ?_
   refine za6 ?_
   exact ze0 [] (zak2 (h))
 refine zc8 (zcu1 a0) hK [(0,0),(1,1)] h (fun x_l2 h g2 y_l2 h_l2 hx_l2=>?_)
 unfold zL7 at h_l2
 refine g_st ?_
 refine za0 (za0 (za1 hG ?_))
 refine za3 rfl hG h_l2 (fun _ h_l2=>?_) (fun _ h_l2=>?_)
 · refine za4 ?_
   refine za0 (zb3 (za0 ?_))
   obtain ⟨hb3,h_l2⟩:=za5 h_l2
   refine za1 hG ?_
   obtain ⟨v2,hv2,h_l2⟩:=za2 h_l2
   rcases v2 with v2|v2
   · dsimp only at h_l2
     refine zd3 [(0,0)] [(1,2)] [0,1] (zat5 _ _ _ hv2) rfl rfl ?_
     refine za0 (za0 (za1 hG ?_))
     refine zaQ8 rfl hG ?_
     refine za0 (za1 hG ?_)
     refine za6 ?_
     cases h_l2
     cases hx_l2 _ rfl
     exact nomatch h
   dsimp only at h_l2
   refine zd3 [(0,0)] [(1,2)] [0,1] (zat6 _ _ _ hv2) rfl rfl ?_
   refine za0 (za0 (za1 hG ?_))
   refine za3 rfl hG h_l2 (fun _ h_l2=>?_) (fun _ h_l2=>?_)
   · refine za0 (za1 hG ?_)
     refine za6 ?_
     cases h_l2
     cases hx_l2 _ rfl
     exact nomatch h
   refine za4 ?_
   refine za1 hG ?_
   refine za1 hG ?_
   exact zc2 hK [(0,2),(1,1)] h_l2
 refine zb5 ?_
 cases h_l2
 cases hx_l2 _ rfl
 exact zb8 hK [(0,0)] g2.2 (by exact h)
theorem zN8:∀ (n:Nat),(∀ (a0:Expr) (r:Nat),zS1 n a0=some (.inl r)→MFn C 111 [.full ([].map Atom.enc),.agg (Expr.enc a0)] [] 0 (.tup [.own 0 0 r,.bool false]) [] 1)∧(∀ (a0:Expr) (r:(List Atom)×Bool),zS1 n a0=some (.inr r)→MFn C 111 [.full ([].map Atom.enc),.agg (Expr.enc a0)] [] 0 (.tup [.sl (r.1.map Atom.enc),.bool r.2]) [] 0)
 | 0=>⟨(fun _ _ h=>nomatch h),(fun _ _ h=>nomatch h)⟩
 | n+1=>⟨zaW1 (zS1 n) (zN8 n).1 (zN8 n).2,zaW2 (zS1 n) (zN8 n).1 (zN8 n).2⟩
theorem zaW3 (a0:Expr) (r:Nat) (h:zy2 a0=some (.inl r)):MFn C 111 [.full ([].map Atom.enc),.agg (Expr.enc a0)] [] 0 (.tup [.own 0 0 r,.bool false]) [] 1:=(zN8 _).1 a0 r h
theorem zaW4 (a0:Expr) (r:(List Atom)×Bool) (h:zy2 a0=some (.inr r)):MFn C 111 [.full ([].map Atom.enc),.agg (Expr.enc a0)] [] 0 (.tup [.sl (r.1.map Atom.enc),.bool r.2]) [] 0:=(zN8 _).2 a0 r h
attribute [local irreducible] zy2
def zaj2 (v2:(List Atom)×Bool) (j1:Unit):Option ((List Atom)×Bool) :=
 some (v2.1,true)
@[go_sem] def zeP6 (v2:(List Atom)×Bool) (j1:Unit):St:=⟨[(4,.sl (v2.1.map Atom.enc))],[],0⟩
def zaj3 (g1:Int) (j2:Unit):Option ((Int)⊕((Unit)⊕((List Atom)×Bool))) :=
 some (.inl (IntKind.i64.wrap (g1+1)))
@[go_sem] def zeP7 (v2:(List Atom)×Bool) (g1:Int) (j2:Unit):St:=⟨[(4,.sl (v2.1.map Atom.enc)),(6,.int .i64 g1)],[],0⟩
def zL8 (v2:(List Atom)×Bool) (g1:Int) (g2:Int):Option ((Int)⊕((Unit)⊕((List Atom)×Bool))) :=
 (if (decide (g2 < g1))=true then
  gd (0≤g1∧g1 < (v2.1.length:Int)) <|
  gd (0≤g2∧g2 < (v2.1.length:Int)) <|
  (if (((v2.1.getD g1.toNat Atom.zero).name).toList == ((v2.1.getD g2.toNat Atom.zero).name).toList)=true then
   some (.inr (.inr ([],false)))
  else
   some (.inl (IntKind.i64.wrap (g2+1))))
 else
  some (.inr (.inl ())))
@[go_sem] def zeP8 (v2:(List Atom)×Bool) (g1:Int) (g2:Int):St:=⟨[(4,.sl (v2.1.map Atom.enc)),(6,.int .i64 g1),(7,.int .i64 g2)],[],0⟩
def zG1 (v2:(List Atom)×Bool) (g1:Int):Option ((Int)⊕((Unit)⊕((List Atom)×Bool))) :=
 (if (decide (g1 < (v2.1.length:Int)))=true then
  (zb4 (zL8 v2 g1) 0).bind (fun|.inl z=>zaj3 g1 z|.inr z=>some (.inr (.inr z)))
 else
  some (.inr (.inl ())))
@[go_sem] def zeP9 (v2:(List Atom)×Bool) (g1:Int):St:=⟨[(4,.sl (v2.1.map Atom.enc)),(6,.int .i64 g1)],[],0⟩
def zG9 (a0:Expr):Option ((List Atom)×Bool) :=
 (zB7 a0).bind fun v1 =>
 (if (decide (v1=0))=true then
  some ([],false)
 else
  (zy2 a0).bind fun v2=>match v2 with
  | .inl v2 =>
   some ([],false)
  | .inr v2 =>
   (if ((!v2.2)||(decide (8 < (v2.1.length:Int))))=true then
    some ([],false)
   else
    (zb4 (zG1 v2) 0).bind (fun|.inl z=>zaj2 v2 z|.inr z=>some z)))
theorem zbj4 (a0:Expr) (r:(List Atom)×Bool) (h:zG9 a0=some r):PFn C 85 [.agg (Expr.enc a0)] (.tup [.sl (r.1.map Atom.enc),.bool r.2]):=by
 refine za7 zfk2 rfl fun E hG hN hK=>?_
 unfold zdH7
 unfold zG9 at h
 refine za0 (za1 hG ?_)
 refine za0 (za0 (za1 hG ?_))
 obtain ⟨v1,hv1,h⟩:=za2 h
 refine za8 (fun hg=>zbj3 _ _ hv1) ?_
 refine za3 rfl hG h (fun _ h=>?_) (fun _ h=>?_)
 · refine za0 (za1 hG ?_)
   refine za6 ?_
   exact zb0 h
 refine za4 ?_
 refine za0 (za1 hG ?_)
 obtain ⟨v2,hv2,h⟩:=za2 h
 rcases v2 with v2|v2
 · dsimp only at h
   refine zd3 [] [(0,1)] [0] (zaW3 _ _ hv2) rfl rfl ?_
   refine za0 (za0 (za1 hG ?_))
   refine zaQ8 rfl hG ?_
   refine za0 (za1 hG ?_)
   refine za6 ?_
   exact zb0 h
 dsimp only at h
 refine zd3 [] [] [] (zaW4 _ _ hv2) rfl rfl ?_
 refine za0 (za0 (za1 hG ?_))
 refine za3 rfl hG h (fun _ h=>?_) (fun _ h=>?_)
 · refine za0 (za1 hG ?_)
   refine za6 ?_
   exact zb0 h
 refine za4 ?_
 refine za0 (za0 (za1 hG ?_))
 refine zb2 (zeP6 v2) (fun v=>zaj2 v2 v=some r) ?_ ?_
 · intro j1 h
   unfold zaj2 at h
   refine g_st ?_
   refine za0 (za1 hG ?_)
   refine za6 ?_
   exact zb0 h
 refine zc8 (zeP9 v2) hK [] h (fun x_l1 h g1 y_l1 h_l1 hx_l1=>?_)
 unfold zG1 at h_l1
 refine g_st ?_
 refine za0 (za0 (za1 hG ?_))
 refine za3 rfl hG h_l1 (fun _ h_l1=>?_) (fun _ h_l1=>?_)
 · refine za4 ?_
   refine za0 (zb3 (za0 (za1 hG ?_)))
   refine zb2 (zeP7 v2 g1) (fun v=>zaj3 g1 v=some y_l1) ?_ ?_
   · intro j2 h_l1
     unfold zaj3 at h_l1
     refine g_st ?_
     refine za1 hG ?_
     exact zc2 hK [] h_l1
   refine zc8 (zeP8 v2 g1) hK [] h_l1 (fun x_l2 h_l1 g2 y_l2 h_l2 hx_l2=>?_)
   unfold zL8 at h_l2
   refine g_st ?_
   refine za0 (za0 (za1 hG ?_))
   refine za3 rfl hG h_l2 (fun _ h_l2=>?_) (fun _ h_l2=>?_)
   · refine za4 ?_
     refine za0 (zb3 (za0 ?_))
     obtain ⟨hb1,h_l2⟩:=za5 h_l2
     obtain ⟨hb2,h_l2⟩:=za5 h_l2
     refine zl3 ze5 hG ?_
     refine za3 rfl hG h_l2 (fun _ h_l2=>?_) (fun _ h_l2=>?_)
     · refine za0 (za1 hG ?_)
       refine za6 ?_
       obtain rfl:=Option.some.inj h_l2
       have hx:=hx_l2 _ rfl
       subst hx
       try dsimp only at h_l1
       cases h_l1
       cases hx_l1 _ rfl
       exact zb0 h
     refine za4 ?_
     refine za1 hG ?_
     exact zc2 hK [] h_l2
   refine zb5 ?_
   obtain rfl:=Option.some.inj h_l2
   have hx:=hx_l2 _ rfl
   subst hx
   try dsimp only at h_l1
   exact zb8 hK [] () (by exact h_l1)
 refine zb5 ?_
 cases h_l1
 cases hx_l1 _ rfl
 exact zb8 hK [] () (by exact h)
attribute [local irreducible] zG9
def zq9 (a0:Expr):Option (Bool) :=
 (zG9 a0).bind fun v1 =>
 some v1.2
theorem zaN4 (a0:Expr) (r:Bool) (h:zq9 a0=some r):PFn C 55 [.agg (Expr.enc a0)] (.bool r):=by
 refine za7 zfk3 rfl fun E hG hN hK=>?_
 unfold zdI1
 unfold zq9 at h
 refine za0 (za1 hG ?_)
 refine za0 (za1 hG ?_)
 obtain ⟨v1,hv1,h⟩:=za2 h
 refine za8 (fun hg=>zbj4 _ _ hv1) ?_
 refine za0 (za1 hG ?_)
 refine za6 ?_
 exact zb0 h
attribute [local irreducible] zq9
def zae0  (j1:(List Proc)):Option ((List Proc)) :=
 some j1
@[go_sem] def zeQ0  (j1:(List Proc)):St:=⟨[(3,.own 0 0 j1.length)],[(0,⟨false,3,(Proc.enc Proc.zero),j1.map Proc.enc⟩)],1⟩
def zT2 (a0:List Hold) (g1:Int×(List Proc)):Option ((Int×(List Proc))⊕(((List Proc)))) :=
 (if (decide (g1.1 < (a0.length:Int)))=true then
  gd (0≤g1.1∧g1.1 < (a0.length:Int)) <|
  gd (g1.2.length+1≤4294967296) <|
  some (.inl ((IntKind.i64.wrap (g1.1+1)),(g1.2++[(a0.getD g1.1.toNat Hold.zero).proc])))
 else
  some (.inr g1.2))
@[go_sem] def zeQ1 (a0:List Hold) (g1:Int×(List Proc)):St:=⟨[(0,.sl (a0.map Hold.enc)),(3,.own 0 0 g1.2.length),(4,.int .i64 g1.1)],[(0,⟨false,3,(Proc.enc Proc.zero),g1.2.map Proc.enc⟩)],1⟩
def zv1 (a0:List Hold):Option ((List Proc)) :=
 (zb4 (zT2 a0) (0,[])).bind (fun z=>zae0 z)
theorem zaR7 (a0:List Hold) (r:(List Proc)) (h:zv1 a0=some r):MFn C 145 [.sl (a0.map Hold.enc)] [] 0 (.own 0 0 r.length) [(0,⟨false,3,(Proc.enc Proc.zero),r.map Proc.enc⟩)] 1:=by
 refine zh0 (rl:=[.own 0 0 r.length]) zfk4 rfl rfl rfl rfl fun E hG hN hK=>?_
 unfold zdI9
 unfold zv1 at h
 refine za0 (za1 hG ?_)
 refine za0 (za1 hG ?_)
 refine za0 (za0 (za1 hG ?_))
 refine zb2 (zeQ0) (fun v=>zae0 v=some r) ?_ ?_
 · intro j1 h
   unfold zae0 at h
   refine g_st ?_
   refine za0 (za1 hG ?_)
   refine za6 ?_
   exact ze0 [(0,0)] h
 refine zc8 (zeQ1 a0) hK [(0,1)] h (fun x_l1 h g1 y_l1 h_l1 hx_l1=>?_)
 unfold zT2 at h_l1
 refine g_st ?_
 refine za0 (za0 (za1 hG ?_))
 refine za3 rfl hG h_l1 (fun _ h_l1=>?_) (fun _ h_l1=>?_)
 · refine za4 ?_
   refine za0 (zb3 ?_)
   obtain ⟨hb1,h_l1⟩:=za5 h_l1
   obtain ⟨hb2,h_l1⟩:=za5 h_l1
   refine za1 hG ?_
   refine za1 hG ?_
   exact zc2 hK [(0,1)] h_l1
 refine zb5 ?_
 cases h_l1
 cases hx_l1 _ rfl
 exact zb8 hK [(0,0)] g1.2 (by exact h)
attribute [local irreducible] zv1
def zZ9  (j2:(List Proc)):Option ((List Proc)) :=
 some j2
@[go_sem] def zeQ2  (j2:(List Proc)):St:=⟨[(3,.own 0 0 j2.length)],[(0,⟨false,3,(Proc.enc Proc.zero),j2.map Proc.enc⟩)],1⟩
def zaa0 (a0:Queue) (g1:Int×(List Proc)):Option ((Int×(List Proc))⊕(((List Proc)))) :=
 (if (decide (g1.1 < (a0.waits.length:Int)))=true then
  gd (0≤g1.1∧g1.1 < (a0.waits.length:Int)) <|
  gd (g1.2.length+1≤4294967296) <|
  some (.inl ((IntKind.i64.wrap (g1.1+1)),(g1.2++[(a0.waits.getD g1.1.toNat Wait.zero).proc])))
 else
  some (.inr g1.2))
@[go_sem] def zeQ3 (a0:Queue) (g1:Int×(List Proc)):St:=⟨[(1,.ptr 0 0 0),(3,.own 1 0 g1.2.length),(5,.int .i64 g1.1)],[(0,⟨false,8,(Queue.enc Queue.zero),[Queue.enc a0]⟩),(1,⟨false,3,(Proc.enc Proc.zero),g1.2.map Proc.enc⟩)],2⟩
def zaa1 (a0:Queue) (j1:(List Proc)):Option ((List Proc)) :=
 (zb4 (zaa0 a0) (0,j1)).bind (fun z=>zZ9 z)
@[go_sem] def zeQ4 (a0:Queue) (j1:(List Proc)):St:=⟨[(1,.ptr 0 0 0),(3,.own 1 0 j1.length)],[(0,⟨false,8,(Queue.enc Queue.zero),[Queue.enc a0]⟩),(1,⟨false,3,(Proc.enc Proc.zero),j1.map Proc.enc⟩)],2⟩
def zaa2 (a0:Queue) (g2:Int×(List Proc)):Option ((Int×(List Proc))⊕(((List Proc)))) :=
 (if (decide (g2.1 < (a0.converts.length:Int)))=true then
  gd (0≤g2.1∧g2.1 < (a0.converts.length:Int)) <|
  gd (g2.2.length+1≤4294967296) <|
  some (.inl ((IntKind.i64.wrap (g2.1+1)),(g2.2++[(a0.converts.getD g2.1.toNat Wait.zero).proc])))
 else
  some (.inr g2.2))
@[go_sem] def zeQ5 (a0:Queue) (g2:Int×(List Proc)):St:=⟨[(1,.ptr 0 0 0),(3,.own 1 0 g2.2.length),(4,.int .i64 g2.1)],[(0,⟨false,8,(Queue.enc Queue.zero),[Queue.enc a0]⟩),(1,⟨false,3,(Proc.enc Proc.zero),g2.2.map Proc.enc⟩)],2⟩
def zB8 (a0:Queue):Option ((List Proc)) :=
 (zb4 (zaa2 a0) (0,[])).bind (fun z=>zaa1 a0 z)
theorem zbj5 (a0:Queue) (r:(List Proc)) (h:zB8 a0=some r):PFn C 146 [.agg (Queue.enc a0)] (.sl (r.map Proc.enc)):=by
 refine za7 zfk5 rfl fun E hG hN hK=>?_
 unfold zdK0
 unfold zB8 at h
 refine za0 (za1 hG ?_)
 refine za0 (za1 hG ?_)
 refine za0 (za0 (za1 hG ?_))
 refine zb2 (zeQ4 a0) (fun v=>zaa1 a0 v=some r) ?_ ?_
 · intro j1 h
   unfold zaa1 at h
   refine g_st ?_
   refine za0 (za0 (za1 hG ?_))
   refine zb2 (zeQ2) (fun v=>zZ9 v=some r) ?_ ?_
   · intro j2 h
     unfold zZ9 at h
     refine g_st ?_
     refine za0 (za1 hG ?_)
     refine za6 ?_
     exact zb0 h
   refine zc8 (zeQ3 a0) hK [(0,0),(1,1)] h (fun x_l1 h g1 y_l1 h_l1 hx_l1=>?_)
   unfold zaa0 at h_l1
   refine g_st ?_
   refine za0 (za0 (za1 hG ?_))
   refine za3 rfl hG h_l1 (fun _ h_l1=>?_) (fun _ h_l1=>?_)
   · refine za4 ?_
     refine za0 (zb3 ?_)
     obtain ⟨hb1,h_l1⟩:=za5 h_l1
     obtain ⟨hb2,h_l1⟩:=za5 h_l1
     refine za1 hG ?_
     refine za1 hG ?_
     exact zc2 hK [(0,0),(1,2)] h_l1
   refine zb5 ?_
   cases h_l1
   cases hx_l1 _ rfl
   exact zb8 hK [(0,1)] g1.2 (by exact h)
 refine zc8 (zeQ5 a0) hK [(0,0),(1,1)] h (fun x_l2 h g2 y_l2 h_l2 hx_l2=>?_)
 unfold zaa2 at h_l2
 refine g_st ?_
 refine za0 (za0 (za1 hG ?_))
 refine za3 rfl hG h_l2 (fun _ h_l2=>?_) (fun _ h_l2=>?_)
 · refine za4 ?_
   refine za0 (zb3 ?_)
   obtain ⟨hb3,h_l2⟩:=za5 h_l2
   obtain ⟨hb4,h_l2⟩:=za5 h_l2
   refine za1 hG ?_
   refine za1 hG ?_
   exact zc2 hK [(0,0),(1,2)] h_l2
 refine zb5 ?_
 cases h_l2
 cases hx_l2 _ rfl
 exact zb8 hK [(0,0),(1,1)] g2.2 (by exact h)
attribute [local irreducible] zB8
def zT3  (j1:Unit):Option (Bool) :=
 some false
@[go_sem] def zeQ6  (j1:Unit):St:=⟨[],[],0⟩
def zM7 (a0:List Proc) (a1:Proc) (g1:Int):Option ((Int)⊕((Unit)⊕(Bool))) :=
 (if (decide (g1 < (a0.length:Int)))=true then
  gd (0≤g1∧g1 < (a0.length:Int)) <|
  (if (decide ((a0.getD g1.toNat Proc.zero)=a1))=true then
   some (.inr (.inr true))
  else
   some (.inl (IntKind.i64.wrap (g1+1))))
 else
  some (.inr (.inl ())))
@[go_sem] def zeQ7 (a0:List Proc) (a1:Proc) (g1:Int):St:=⟨[(0,.sl (a0.map Proc.enc)),(3,.ptr 0 0 0),(5,.int .i64 g1)],[(0,⟨false,3,(Proc.enc Proc.zero),[Proc.enc a1]⟩)],1⟩
def zr9 (a0:List Proc) (a1:Proc):Option (Bool) :=
 (zb4 (zM7 a0 a1) 0).bind (fun|.inl z=>zT3 z|.inr z=>some z)
theorem zaw9 (a0:List Proc) (a1:Proc) (r:Bool) (h:zr9 a0 a1=some r):PFn C 113 [.sl (a0.map Proc.enc),.agg (Proc.enc a1)] (.bool r):=by
 refine za7 zfk6 rfl fun E hG hN hK=>?_
 unfold zdK8
 unfold zr9 at h
 refine za0 (za1 hG ?_)
 refine za0 (za0 (za1 hG ?_))
 refine zb2 (zeQ6) (fun v=>zT3 v=some r) ?_ ?_
 · intro j1 h
   unfold zT3 at h
   refine g_st ?_
   refine za0 (za1 hG ?_)
   refine za6 ?_
   exact zb0 h
 refine zc8 (zeQ7 a0 a1) hK [(0,0)] h (fun x_l1 h g1 y_l1 h_l1 hx_l1=>?_)
 unfold zM7 at h_l1
 refine g_st ?_
 refine za0 (za0 (za1 hG ?_))
 refine za3 rfl hG h_l1 (fun _ h_l1=>?_) (fun _ h_l1=>?_)
 · refine za4 ?_
   refine za0 (zb3 (za0 ?_))
   obtain ⟨hb1,h_l1⟩:=za5 h_l1
   refine zl3 ze5 hG ?_
   refine za3 rfl hG h_l1 (fun _ h_l1=>?_) (fun _ h_l1=>?_)
   · refine za0 (za1 hG ?_)
     refine za6 ?_
     cases h_l1
     cases hx_l1 _ rfl
     exact zb0 h
   refine za4 ?_
   refine za1 hG ?_
   exact zc2 hK [(0,0)] h_l1
 refine zb5 ?_
 cases h_l1
 cases hx_l1 _ rfl
 exact zb8 hK [] () (by exact h)
attribute [local irreducible] zr9
def zY0  (j1:(List Proc)):Option ((List Proc)) :=
 some j1
@[go_sem] def zeQ8  (j1:(List Proc)):St:=⟨[(3,.own 0 0 j1.length)],[(0,⟨false,3,(Proc.enc Proc.zero),j1.map Proc.enc⟩)],1⟩
def zP1 (g1:Int×(List Proc)) (j2:(List Proc)):Option ((Int×(List Proc))⊕(((List Proc)))) :=
 some (.inl ((IntKind.i64.wrap (g1.1+1)),j2))
@[go_sem] def zeQ9 (a0:List Proc) (g1:Int×(List Proc)) (j2:(List Proc)):St:=⟨[(0,.sl (a0.map Proc.enc)),(3,.own 0 0 j2.length),(4,.int .i64 g1.1)],[(0,⟨false,3,(Proc.enc Proc.zero),j2.map Proc.enc⟩)],1⟩
def zH9  (g2:Int×(List Proc)):Option ((Int×(List Proc))⊕(((List Proc)))) :=
 gd ((decide (0 < g2.1))=true→0≤(IntKind.i64.wrap (g2.1 - 1))∧(IntKind.i64.wrap (g2.1 - 1)) < ((g2.2.length:Nat):Int)) <|
 gd ((decide (0 < g2.1))=true→0≤g2.1∧g2.1 < ((g2.2.length:Nat):Int)) <|
 (if ((decide (0 < g2.1))&&(decide (0 < (zm1 (g2.2.getD ((IntKind.i64.wrap (g2.1 - 1)).toNat) Proc.zero) (g2.2.getD g2.1.toNat Proc.zero)))))=true then
  gd (0≤(IntKind.i64.wrap (g2.1 - 1))∧(IntKind.i64.wrap (g2.1 - 1)) < ((g2.2.length:Nat):Int)) <|
  gd (0≤g2.1∧g2.1 < ((g2.2.length:Nat):Int)) <|
  gd (0≤(IntKind.i64.wrap (g2.1 - 1))∧(IntKind.i64.wrap (g2.1 - 1)) < ((g2.2.length:Nat):Int)) <|
  gd (0≤g2.1∧g2.1 < ((g2.2.length:Nat):Int)) <|
  some (.inl ((IntKind.i64.wrap (g2.1 - 1)),((g2.2.set ((IntKind.i64.wrap (g2.1 - 1)).toNat) (g2.2.getD g2.1.toNat Proc.zero)).set g2.1.toNat (g2.2.getD ((IntKind.i64.wrap (g2.1 - 1)).toNat) Proc.zero))))
 else
  some (.inr g2.2))
@[go_sem] def zeR0 (a0:List Proc) (g1:Int×(List Proc)) (g2:Int×(List Proc)):St:=⟨[(0,.sl (a0.map Proc.enc)),(3,.own 0 0 g2.2.length),(4,.int .i64 g1.1),(5,.int .i64 g2.1)],[(0,⟨false,3,(Proc.enc Proc.zero),g2.2.map Proc.enc⟩)],1⟩
def zI0 (a0:List Proc) (g1:Int×(List Proc)):Option ((Int×(List Proc))⊕(((List Proc)))) :=
 (if (decide (g1.1 < (a0.length:Int)))=true then
  gd (0≤g1.1∧g1.1 < (a0.length:Int)) <|
  (zr9 g1.2 (a0.getD g1.1.toNat Proc.zero)).bind fun v1 =>
  (if v1=true then
   some (.inl ((IntKind.i64.wrap (g1.1+1)),g1.2))
  else
   gd (0≤g1.1∧g1.1 < (a0.length:Int)) <|
   gd (g1.2.length+1≤4294967296) <|
   (zb4 (zH9) (((g1.2.length:Nat):Int),(g1.2++[(a0.getD g1.1.toNat Proc.zero)]))).bind (fun z=>zP1 g1 z))
 else
  some (.inr g1.2))
@[go_sem] def zeR1 (a0:List Proc) (g1:Int×(List Proc)):St:=⟨[(0,.sl (a0.map Proc.enc)),(3,.own 0 0 g1.2.length),(4,.int .i64 g1.1)],[(0,⟨false,3,(Proc.enc Proc.zero),g1.2.map Proc.enc⟩)],1⟩
def zm6 (a0:List Proc):Option ((List Proc)) :=
 (zb4 (zI0 a0) (0,[])).bind (fun z=>zY0 z)
theorem zaq1 (a0:List Proc) (r:(List Proc)) (h:zm6 a0=some r):PFn C 88 [.sl (a0.map Proc.enc)] (.sl (r.map Proc.enc)):=by
 refine za7 zfk7 rfl fun E hG hN hK=>?_
 unfold zdL9
 unfold zm6 at h
 refine za0 (za1 hG ?_)
 refine za0 (za1 hG ?_)
 refine za0 (za0 (za1 hG ?_))
 refine zb2 (zeQ8) (fun v=>zY0 v=some r) ?_ ?_
 · intro j1 h
   unfold zY0 at h
   refine g_st ?_
   refine za0 (za1 hG ?_)
   refine za6 ?_
   exact zb0 h
 refine zc8 (zeR1 a0) hK [(0,0)] h (fun x_l1 h g1 y_l1 h_l1 hx_l1=>?_)
 unfold zI0 at h_l1
 refine g_st ?_
 refine za0 (za0 (za1 hG ?_))
 refine za3 rfl hG h_l1 (fun _ h_l1=>?_) (fun _ h_l1=>?_)
 · refine za4 ?_
   refine za0 (zb3 (za0 (za0 ?_)))
   obtain ⟨hb9,h_l1⟩:=za5 h_l1
   refine za1 hG ?_
   obtain ⟨v1,hv1,h_l1⟩:=za2 h_l1
   refine za8 (fun hg=>zaw9 _ _ _ hv1) ?_
   refine za3 rfl hG h_l1 (fun _ h_l1=>?_) (fun _ h_l1=>?_)
   · refine zb5 ?_
     refine za1 hG ?_
     exact zc2 hK [(0,0)] h_l1
   refine za4 ?_
   refine za0 (za1 hG ?_)
   refine za0 ?_
   obtain ⟨hb7,h_l1⟩:=za5 h_l1
   obtain ⟨hb8,h_l1⟩:=za5 h_l1
   refine za1 hG ?_
   refine zb2 (zeQ9 a0 g1) (fun v=>zP1 g1 v=some y_l1) ?_ ?_
   · intro j2 h_l1
     unfold zP1 at h_l1
     refine g_st ?_
     refine za1 hG ?_
     exact zc2 hK [(0,0)] h_l1
   refine zc8 (zeR0 a0 g1) hK [(0,1)] h_l1 (fun x_l2 h_l1 g2 y_l2 h_l2 hx_l2=>?_)
   unfold zH9 at h_l2
   refine g_st ?_
   refine za0 (za0 ?_)
   obtain ⟨hb5,h_l2⟩:=za5 h_l2
   obtain ⟨hb6,h_l2⟩:=za5 h_l2
   refine zl3 ze5 hG ?_
   refine zd9 (fun hg=>zH7 (g2.2.getD ((IntKind.i64.wrap (g2.1 - 1)).toNat) Proc.zero) (g2.2.getD g2.1.toNat Proc.zero)) ?_
   refine za3 rfl hG h_l2 (fun _ h_l2=>?_) (fun _ h_l2=>?_)
   · refine za4 ?_
     refine zb3 (za0 ?_)
     obtain ⟨hb4,h_l2⟩:=za5 h_l2
     refine za1 hG ?_
     refine za0 ?_
     obtain ⟨hb2,h_l2⟩:=za5 h_l2
     obtain ⟨hb3,h_l2⟩:=za5 h_l2
     refine za1 hG ?_
     refine za0 ?_
     obtain ⟨hb1,h_l2⟩:=za5 h_l2
     refine za1 hG ?_
     refine za1 hG ?_
     exact zc2 hK [(0,0)] h_l2
   refine zb5 ?_
   obtain rfl:=Option.some.inj h_l2
   have hx:=hx_l2 _ rfl
   subst hx
   try dsimp only at h_l1
   exact zb8 hK [(0,0)] g2.2 (by exact h_l1)
 refine zb5 ?_
 cases h_l1
 cases hx_l1 _ rfl
 exact zb8 hK [(0,0)] g1.2 (by exact h)
attribute [local irreducible] zm6
def zy3 (a0:Queue):Option ((List Proc)) :=
 (zv1 a0.holds).bind fun v1 =>
 (zB8 a0).bind fun v2 =>
 gd (v1.length+v2.length≤4294967296) <|
 (zm6 (v1++v2)).bind fun v3 =>
 some v3
theorem zbj6 (a0:Queue) (r:(List Proc)) (h:zy3 a0=some r):PFn C 112 [.agg (Queue.enc a0)] (.sl (r.map Proc.enc)):=by
 refine za7 zfk8 rfl fun E hG hN hK=>?_
 unfold zdM2
 unfold zy3 at h
 refine za0 (za1 hG ?_)
 refine za0 (zab5 ze5 hG ?_)
 obtain ⟨v1,hv1,h⟩:=za2 h
 refine zac1 [] [(0,1)] [0] (zaR7 _ _ hv1) rfl rfl ?_
 obtain ⟨v2,hv2,h⟩:=za2 h
 obtain ⟨hb1,h⟩:=za5 h
 refine zaQ6 (fun hg=>zbj5 _ _ hv2) ?_
 obtain ⟨v3,hv3,h⟩:=za2 h
 refine zaQ6 (fun hg=>zaq1 _ _ hv3) ?_
 refine za6 ?_
 exact zb0 h
attribute [local irreducible] zy3
def zT4  (j1:(List Proc)):Option ((List Proc)) :=
 some j1
@[go_sem] def zeR2  (j1:(List Proc)):St:=⟨[(3,.own 0 0 j1.length)],[(0,⟨false,3,(Proc.enc Proc.zero),j1.map Proc.enc⟩)],1⟩
def zT5 (g1:Int×(List Proc)) (j2:(List Proc)):Option ((Int×(List Proc))⊕(((List Proc)))) :=
 some (.inl ((IntKind.i64.wrap (g1.1+1)),j2))
@[go_sem] def zeR3 (a0:List Proc) (g1:Int×(List Proc)) (j2:(List Proc)):St:=⟨[(0,.sl (a0.map Proc.enc)),(3,.own 0 0 j2.length),(4,.int .i64 g1.1)],[(0,⟨false,3,(Proc.enc Proc.zero),j2.map Proc.enc⟩)],1⟩
def zah0  (g2:Int×(List Proc)):Option ((Int×(List Proc))⊕(((List Proc)))) :=
 gd ((decide (0 < g2.1))=true→0≤(IntKind.i64.wrap (g2.1 - 1))∧(IntKind.i64.wrap (g2.1 - 1)) < ((g2.2.length:Nat):Int)) <|
 gd ((decide (0 < g2.1))=true→0≤g2.1∧g2.1 < ((g2.2.length:Nat):Int)) <|
 (if ((decide (0 < g2.1))&&(decide (0 < (zm1 (g2.2.getD ((IntKind.i64.wrap (g2.1 - 1)).toNat) Proc.zero) (g2.2.getD g2.1.toNat Proc.zero)))))=true then
  gd (0≤(IntKind.i64.wrap (g2.1 - 1))∧(IntKind.i64.wrap (g2.1 - 1)) < ((g2.2.length:Nat):Int)) <|
  gd (0≤g2.1∧g2.1 < ((g2.2.length:Nat):Int)) <|
  gd (0≤(IntKind.i64.wrap (g2.1 - 1))∧(IntKind.i64.wrap (g2.1 - 1)) < ((g2.2.length:Nat):Int)) <|
  gd (0≤g2.1∧g2.1 < ((g2.2.length:Nat):Int)) <|
  some (.inl ((IntKind.i64.wrap (g2.1 - 1)),((g2.2.set ((IntKind.i64.wrap (g2.1 - 1)).toNat) (g2.2.getD g2.1.toNat Proc.zero)).set g2.1.toNat (g2.2.getD ((IntKind.i64.wrap (g2.1 - 1)).toNat) Proc.zero))))
 else
  some (.inr g2.2))
@[go_sem] def zeR4 (a0:List Proc) (g1:Int×(List Proc)) (g2:Int×(List Proc)):St:=⟨[(0,.sl (a0.map Proc.enc)),(3,.own 0 0 g2.2.length),(4,.int .i64 g1.1),(5,.int .i64 g2.1)],[(0,⟨false,3,(Proc.enc Proc.zero),g2.2.map Proc.enc⟩)],1⟩
def zah1 (a0:List Proc) (g1:Int×(List Proc)):Option ((Int×(List Proc))⊕(((List Proc)))) :=
 (if (decide (g1.1 < (a0.length:Int)))=true then
  gd (0≤g1.1∧g1.1 < (a0.length:Int)) <|
  (zr9 g1.2 (a0.getD g1.1.toNat Proc.zero)).bind fun v1 =>
  (if v1=true then
   some (.inl ((IntKind.i64.wrap (g1.1+1)),g1.2))
  else
   gd (0≤g1.1∧g1.1 < (a0.length:Int)) <|
   gd (g1.2.length+1≤4294967296) <|
   (zb4 (zah0) (((g1.2.length:Nat):Int),(g1.2++[(a0.getD g1.1.toNat Proc.zero)]))).bind (fun z=>zT5 g1 z))
 else
  some (.inr g1.2))
@[go_sem] def zeR5 (a0:List Proc) (g1:Int×(List Proc)):St:=⟨[(0,.sl (a0.map Proc.enc)),(3,.own 0 0 g1.2.length),(4,.int .i64 g1.1)],[(0,⟨false,3,(Proc.enc Proc.zero),g1.2.map Proc.enc⟩)],1⟩
def zs9 (a0:List Proc):Option ((List Proc)) :=
 (zb4 (zah1 a0) (0,[])).bind (fun z=>zT4 z)
theorem zaD3 (a0:List Proc) (r:(List Proc)) (h:zs9 a0=some r):MFn C 88 [.sl (a0.map Proc.enc)] [] 0 (.own 0 0 r.length) [(0,⟨false,3,(Proc.enc Proc.zero),r.map Proc.enc⟩)] 1:=by
 refine zh0 (rl:=[.own 0 0 r.length]) zfk9 rfl rfl rfl rfl fun E hG hN hK=>?_
 unfold zdN3
 unfold zs9 at h
 refine za0 (za1 hG ?_)
 refine za0 (za1 hG ?_)
 refine za0 (za0 (za1 hG ?_))
 refine zb2 (zeR2) (fun v=>zT4 v=some r) ?_ ?_
 · intro j1 h
   unfold zT4 at h
   refine g_st ?_
   refine za0 (za1 hG ?_)
   refine za6 ?_
   exact ze0 [(0,0)] h
 refine zc8 (zeR5 a0) hK [(0,1)] h (fun x_l1 h g1 y_l1 h_l1 hx_l1=>?_)
 unfold zah1 at h_l1
 refine g_st ?_
 refine za0 (za0 (za1 hG ?_))
 refine za3 rfl hG h_l1 (fun _ h_l1=>?_) (fun _ h_l1=>?_)
 · refine za4 ?_
   refine za0 (zb3 (za0 (za0 ?_)))
   obtain ⟨hb9,h_l1⟩:=za5 h_l1
   refine za1 hG ?_
   obtain ⟨v1,hv1,h_l1⟩:=za2 h_l1
   refine za8 (fun hg=>zaw9 _ _ _ hv1) ?_
   refine za3 rfl hG h_l1 (fun _ h_l1=>?_) (fun _ h_l1=>?_)
   · refine zb5 ?_
     refine za1 hG ?_
     exact zc2 hK [(0,0)] h_l1
   refine za4 ?_
   refine za0 (za1 hG ?_)
   refine za0 ?_
   obtain ⟨hb7,h_l1⟩:=za5 h_l1
   obtain ⟨hb8,h_l1⟩:=za5 h_l1
   refine za1 hG ?_
   refine zb2 (zeR3 a0 g1) (fun v=>zT5 g1 v=some y_l1) ?_ ?_
   · intro j2 h_l1
     unfold zT5 at h_l1
     refine g_st ?_
     refine za1 hG ?_
     exact zc2 hK [(0,0)] h_l1
   refine zc8 (zeR4 a0 g1) hK [(0,1)] h_l1 (fun x_l2 h_l1 g2 y_l2 h_l2 hx_l2=>?_)
   unfold zah0 at h_l2
   refine g_st ?_
   refine za0 (za0 ?_)
   obtain ⟨hb5,h_l2⟩:=za5 h_l2
   obtain ⟨hb6,h_l2⟩:=za5 h_l2
   refine zl3 ze5 hG ?_
   refine zd9 (fun hg=>zH7 (g2.2.getD ((IntKind.i64.wrap (g2.1 - 1)).toNat) Proc.zero) (g2.2.getD g2.1.toNat Proc.zero)) ?_
   refine za3 rfl hG h_l2 (fun _ h_l2=>?_) (fun _ h_l2=>?_)
   · refine za4 ?_
     refine zb3 (za0 ?_)
     obtain ⟨hb4,h_l2⟩:=za5 h_l2
     refine za1 hG ?_
     refine za0 ?_
     obtain ⟨hb2,h_l2⟩:=za5 h_l2
     obtain ⟨hb3,h_l2⟩:=za5 h_l2
     refine za1 hG ?_
     refine za0 ?_
     obtain ⟨hb1,h_l2⟩:=za5 h_l2
     refine za1 hG ?_
     refine za1 hG ?_
     exact zc2 hK [(0,0)] h_l2
   refine zb5 ?_
   obtain rfl:=Option.some.inj h_l2
   have hx:=hx_l2 _ rfl
   subst hx
   try dsimp only at h_l1
   exact zb8 hK [(0,0)] g2.2 (by exact h_l1)
 refine zb5 ?_
 cases h_l1
 cases hx_l1 _ rfl
 exact zb8 hK [(0,0)] g1.2 (by exact h)
attribute [local irreducible] zs9
def zae1  (j1:(List Proc)):Option ((List Proc)) :=
 (zs9 j1).bind fun v1 =>
 some v1
@[go_sem] def zeR6  (j1:(List Proc)):St:=⟨[(3,.own 0 0 j1.length)],[(0,⟨false,3,(Proc.enc Proc.zero),j1.map Proc.enc⟩)],1⟩
def zaq2 (a0:List Queue) (g1:Int×(List Proc)):Option ((Int×(List Proc))⊕(((List Proc)))) :=
 (if (decide (g1.1 < (a0.length:Int)))=true then
  gd (0≤g1.1∧g1.1 < (a0.length:Int)) <|
  (zy3 (a0.getD g1.1.toNat Queue.zero)).bind fun v2 =>
  gd (g1.2.length+v2.length≤4294967296) <|
  some (.inl ((IntKind.i64.wrap (g1.1+1)),(g1.2++v2)))
 else
  some (.inr g1.2))
@[go_sem] def zeR7 (a0:List Queue) (g1:Int×(List Proc)):St:=⟨[(0,.sl (a0.map Queue.enc)),(3,.own 0 0 g1.2.length),(4,.int .i64 g1.1)],[(0,⟨false,3,(Proc.enc Proc.zero),g1.2.map Proc.enc⟩)],1⟩
def zz4 (a0:List Queue):Option ((List Proc)) :=
 (zb4 (zaq2 a0) (0,[])).bind (fun z=>zae1 z)
theorem zaR8 (a0:List Queue) (r:(List Proc)) (h:zz4 a0=some r):MFn C 87 [.sl (a0.map Queue.enc)] [] 0 (.own 0 0 r.length) [(0,⟨false,3,(Proc.enc Proc.zero),r.map Proc.enc⟩)] 1:=by
 refine zh0 (rl:=[.own 0 0 r.length]) zfl0 rfl rfl rfl rfl fun E hG hN hK=>?_
 unfold zdO1
 unfold zz4 at h
 refine za0 (za1 hG ?_)
 refine za0 (za1 hG ?_)
 refine za0 (za0 (za1 hG ?_))
 refine zb2 (zeR6) (fun v=>zae1 v=some r) ?_ ?_
 · intro j1 h
   unfold zae1 at h
   refine g_st ?_
   refine za0 (za1 hG ?_)
   obtain ⟨v1,hv1,h⟩:=za2 h
   refine zd3 [] [(0,1)] [0] (zaD3 _ _ hv1) rfl rfl ?_
   refine za6 ?_
   exact ze0 [(0,1)] h
 refine zc8 (zeR7 a0) hK [(0,1)] h (fun x_l1 h g1 y_l1 h_l1 hx_l1=>?_)
 unfold zaq2 at h_l1
 refine g_st ?_
 refine za0 (za0 (za1 hG ?_))
 refine za3 rfl hG h_l1 (fun _ h_l1=>?_) (fun _ h_l1=>?_)
 · refine za4 ?_
   refine za0 (zb3 ?_)
   obtain ⟨hb2,h_l1⟩:=za5 h_l1
   refine za1 hG ?_
   obtain ⟨v2,hv2,h_l1⟩:=za2 h_l1
   obtain ⟨hb1,h_l1⟩:=za5 h_l1
   refine za8 (fun hg=>zbj6 _ _ hv2) ?_
   refine za1 hG ?_
   exact zc2 hK [(0,1)] h_l1
 refine zb5 ?_
 cases h_l1
 cases hx_l1 _ rfl
 exact zb8 hK [(0,0)] g1.2 (by exact h)
attribute [local irreducible] zz4
def zaa3  (j1:(List Proc)):Option ((List Proc)) :=
 (zm6 j1).bind fun v2 =>
 some v2
@[go_sem] def zeR8  (j1:(List Proc)):St:=⟨[(3,.own 0 0 j1.length)],[(0,⟨false,3,(Proc.enc Proc.zero),j1.map Proc.enc⟩)],1⟩
def zaa4 (a0:WaitState) (g1:Int×(List Proc)):Option ((Int×(List Proc))⊕(((List Proc)))) :=
 (if (decide (g1.1 < (a0.needs.length:Int)))=true then
  gd (0≤g1.1∧g1.1 < (a0.needs.length:Int)) <|
  gd (g1.2.length+1≤4294967296) <|
  some (.inl ((IntKind.i64.wrap (g1.1+1)),(g1.2++[(a0.needs.getD g1.1.toNat Need.zero).proc])))
 else
  some (.inr g1.2))
@[go_sem] def zeR9 (a0:WaitState) (g1:Int×(List Proc)):St:=⟨[(1,.ptr 0 0 0),(3,.own 1 0 g1.2.length),(4,.int .i64 g1.1)],[(0,⟨false,2,(WaitState.enc WaitState.zero),[WaitState.enc a0]⟩),(1,⟨false,3,(Proc.enc Proc.zero),g1.2.map Proc.enc⟩)],2⟩
def zB9 (a0:WaitState):Option ((List Proc)) :=
 (zz4 a0.queues).bind fun v1 =>
 (zb4 (zaa4 a0) (0,v1)).bind (fun z=>zaa3 z)
theorem zbj7 (a0:WaitState) (r:(List Proc)) (h:zB9 a0=some r):PFn C 57 [.agg (WaitState.enc a0)] (.sl (r.map Proc.enc)):=by
 refine za7 zfl1 rfl fun E hG hN hK=>?_
 unfold zdO9
 unfold zB9 at h
 refine za0 (za1 hG ?_)
 refine za0 (za1 hG ?_)
 obtain ⟨v1,hv1,h⟩:=za2 h
 refine zd3 [] [(0,1)] [0] (zaR8 _ _ hv1) rfl rfl ?_
 refine za0 (za0 (za1 hG ?_))
 refine zb2 (zeR8) (fun v=>zaa3 v=some r) ?_ ?_
 · intro j1 h
   unfold zaa3 at h
   refine g_st ?_
   refine za0 (za1 hG ?_)
   obtain ⟨v2,hv2,h⟩:=za2 h
   refine za8 (fun hg=>zaq1 _ _ hv2) ?_
   refine za6 ?_
   exact zb0 h
 refine zc8 (zeR9 a0) hK [(0,0),(1,1)] h (fun x_l1 h g1 y_l1 h_l1 hx_l1=>?_)
 unfold zaa4 at h_l1
 refine g_st ?_
 refine za0 (za0 (za1 hG ?_))
 refine za3 rfl hG h_l1 (fun _ h_l1=>?_) (fun _ h_l1=>?_)
 · refine za4 ?_
   refine za0 (zb3 ?_)
   obtain ⟨hb1,h_l1⟩:=za5 h_l1
   obtain ⟨hb2,h_l1⟩:=za5 h_l1
   refine za1 hG ?_
   refine za1 hG ?_
   exact zc2 hK [(0,0),(1,2)] h_l1
 refine zb5 ?_
 cases h_l1
 cases hx_l1 _ rfl
 exact zb8 hK [(0,1)] g1.2 (by exact h)
attribute [local irreducible] zB9
end
end Ab
end Go.Proofs.YtebopmkhhppfaaaGreatDoor
