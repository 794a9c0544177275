import Derived.Test.YtebopmkhhppfaaaGreatDoorFn5
namespace Go.Proofs.YtebopmkhhppfaaaGreatDoor
namespace Ab
noncomputable section
set_option linter.unusedSimpArgs false
set_option linter.unusedVariables false
set_option maxRecDepth 100000
set_option maxHeartbeats 1000000
attribute [local irreducible] zk5 zc7 zb9 zo4 zd6 zb1 zr2 zd0 zc1 zd5 ze2 zh9 zg1 zn9 zf0 zk6 zj1 zl6 zq7 zt4 zt9 zs2 zo0 zh3 zw0 zl7 zu4 zz2 zo1 zu5 zr5 zq1 zu6 zn0 zq2 zk0 zo2 zo8 zi0 zm5 ze7 zd4 zs4 zu7 zc6 zc9 zj7 zu8 zu9 zj8 zi1 zf1 zw1 zi3 ze8 zC4 zi5 zc5 zC5 zg3 zf2 zi9 zl0 zk7 zj3 zr7 zm9 zs7 zz3 zy0 zD3 zy1 zK5 zK9 zG8 zv0 zB4 zB5 zO8 zB7 zr8 zy2 zG9 zq9 zv1 zB8 zr9 zm6 zy3 zs9 zz4 zB9 zy4 zu0 zT6 zL0 zl8 zd7 zx5 zv2 zq3 zo6 zx0 zl9 zp6 ze9 zr0 zt1 zl1 zw4 zh1 ze1 zA9 zx1 zv3 zH0 zM8 zp9 zj0 zh2
def zj4  (j1:Unit):Option (Bool) :=
 some true
@[go_sem] def zeW6  (j1:Unit):St:=⟨[],[],0⟩
def zp7 (a0:List Wait) (a1:List Wait) (g1:Int):Option ((Int)⊕((Unit)⊕(Bool))) :=
 (if (decide (g1 < (a0.length:Int)))=true then
  gd (0≤g1∧g1 < (a0.length:Int)) <|
  gd (0≤g1∧g1 < (a1.length:Int)) <|
  (if (!(zH1 (a0.getD g1.toNat Wait.zero) (a1.getD g1.toNat Wait.zero)))=true then
   some (.inr (.inr false))
  else
   some (.inl (IntKind.i64.wrap (g1+1))))
 else
  some (.inr (.inl ())))
@[go_sem] def zeW7 (a0:List Wait) (a1:List Wait) (g1:Int):St:=⟨[(1,.sl (a1.map Wait.enc)),(2,.clo 118 []),(15,.sl (a0.map Wait.enc)),(16,.int .i64 (a0.length:Int)),(17,.int .i64 g1)],[],0⟩
def zd8 (a0:List Wait) (a1:List Wait):Option (Bool) :=
 (if (!decide ((a0.length:Int)=(a1.length:Int)))=true then
  some false
 else
  (zb4 (zp7 a0 a1) 0).bind (fun|.inl z=>zj4 z|.inr z=>some z))
theorem zG3 (a0:List Wait) (a1:List Wait) (r:Bool) (h:zd8 a0 a1=some r):MFn C 117 [.sl (a0.map Wait.enc),.sl (a1.map Wait.enc),.clo 118 []] [] 0 (.bool r) [] 0:=by
 refine zh0 (rl:=[.bool r]) zfo1 rfl rfl rfl rfl fun E hG hN hK=>?_
 unfold zen2
 unfold zd8 at h
 refine za0 (za1 hG ?_)
 refine za0 (za0 (za1 hG ?_))
 refine za3 rfl hG h (fun _ h=>?_) (fun _ h=>?_)
 · refine za0 (za1 hG ?_)
   refine za6 ?_
   exact ze0 [] h
 refine za4 ?_
 refine za0 (za0 (za1 hG ?_))
 refine zb2 (zeW6) (fun v=>zj4 v=some r) ?_ ?_
 · intro j1 h
   unfold zj4 at h
   refine g_st ?_
   refine za0 (za1 hG ?_)
   refine za6 ?_
   exact ze0 [] h
 refine zc8 (zeW7 a0 a1) hK [] h (fun x_l1 h g1 y_l1 h_l1 hx_l1=>?_)
 unfold zp7 at h_l1
 refine g_st ?_
 refine za0 (za1 hG ?_)
 refine za0 ?_
 refine za3 rfl hG h_l1 (fun _ h_l1=>?_) (fun _ h_l1=>?_)
 · refine za4 ?_
   refine za0 (zb3 (za0 ?_))
   obtain ⟨hb2,h_l1⟩:=za5 h_l1
   refine za1 hG ?_
   refine za0 ?_
   obtain ⟨hb1,h_l1⟩:=za5 h_l1
   refine za1 hG ?_
   refine za0 (za1 hG ?_)
   refine za8 (fun hg=>zas0 (a0.getD g1.toNat Wait.zero) (a1.getD g1.toNat Wait.zero)) ?_
   refine za3 rfl hG h_l1 (fun _ h_l1=>?_) (fun _ h_l1=>?_)
   · refine za0 (za1 hG ?_)
     refine za6 ?_
     cases h_l1
     cases hx_l1 _ rfl
     exact ze0 [] h
   refine za4 ?_
   refine za1 hG ?_
   exact zc2 hK [] h_l1
 refine zb5 ?_
 cases h_l1
 cases hx_l1 _ rfl
 exact zb8 hK [] () (by exact h)
attribute [local irreducible] zd8
def zw6 (a0:Queue) (a1:Queue):Option (Bool) :=
 ((if (decide (a0.resource=a1.resource))=true then zj0 a0.holds a1.holds else some (false))).bind fun v1 =>
 ((if ((decide (a0.resource=a1.resource))&&v1)=true then zh2 a0.converts a1.converts else some (false))).bind fun v2 =>
 ((if (((decide (a0.resource=a1.resource))&&v1)&&v2)=true then zd8 a0.waits a1.waits else some false)).bind fun v3 =>
 some ((((decide (a0.resource=a1.resource))&&v1)&&v2)&&v3)
theorem zax4 (a0:Queue) (a1:Queue) (r:Bool) (h:zw6 a0 a1=some r):PFn C 94 [.agg (Queue.enc a0),.agg (Queue.enc a1)] (.bool r):=by
 refine za7 zfo2 rfl fun E hG hN hK=>?_
 unfold zen5
 unfold zw6 at h
 refine za0 (za1 hG ?_)
 refine za0 (za1 hG ?_)
 obtain ⟨v1,hv1,h⟩:=za2 h
 refine za8 (fun hg=>zaf9 a0.holds a1.holds _ (zv4 hg hv1)) ?_
 obtain ⟨v2,hv2,h⟩:=za2 h
 refine za8 (fun hg=>zN5 a0.converts a1.converts _ (zv4 hg hv2)) ?_
 obtain ⟨v3,hv3,h⟩:=za2 h
 refine zbh8 [] [] hv3 (fun hc=>zG3 a0.waits a1.waits _ hc) rfl ?_
 refine za6 ?_
 exact zb0 h
attribute [local irreducible] zw6
def zx8 (a0:Queue) (a1:Queue):Option (Bool) :=
 ((if (decide (a0.gen=a1.gen))=true then zw6 a0 a1 else some (false))).bind fun v1 =>
 ((if ((decide (a0.gen=a1.gen))&&v1)=true then zh2 a0.waits a1.waits else some (false))).bind fun v2 =>
 some (((decide (a0.gen=a1.gen))&&v1)&&v2)
theorem zaA6 (a0:Queue) (a1:Queue) (r:Bool) (h:zx8 a0 a1=some r):PFn C 65 [.agg (Queue.enc a0),.agg (Queue.enc a1)] (.bool r):=by
 refine za7 zfo3 rfl fun E hG hN hK=>?_
 unfold zen8
 unfold zx8 at h
 refine za0 (za1 hG ?_)
 refine za0 (za1 hG ?_)
 obtain ⟨v1,hv1,h⟩:=za2 h
 refine za8 (fun hg=>zax4 a0 a1 _ (zv4 hg hv1)) ?_
 obtain ⟨v2,hv2,h⟩:=za2 h
 refine za8 (fun hg=>zN5 a0.waits a1.waits _ (zv4 hg hv2)) ?_
 refine za6 ?_
 exact zb0 h
attribute [local irreducible] zx8
def zi6  (j1:Unit):Option (Bool) :=
 some true
@[go_sem] def zeW8  (j1:Unit):St:=⟨[],[],0⟩
def zi7 (a0:List Queue) (a1:List Queue) (g1:Int):Option ((Int)⊕((Unit)⊕(Bool))) :=
 (if (decide (g1 < (a0.length:Int)))=true then
  gd (0≤g1∧g1 < (a0.length:Int)) <|
  gd (0≤g1∧g1 < (a1.length:Int)) <|
  (zx8 (a0.getD g1.toNat Queue.zero) (a1.getD g1.toNat Queue.zero)).bind fun v1 =>
  (if (!v1)=true then
   some (.inr (.inr false))
  else
   some (.inl (IntKind.i64.wrap (g1+1))))
 else
  some (.inr (.inl ())))
@[go_sem] def zeW9 (a0:List Queue) (a1:List Queue) (g1:Int):St:=⟨[(1,.sl (a1.map Queue.enc)),(2,.clo 65 []),(15,.sl (a0.map Queue.enc)),(16,.int .i64 (a0.length:Int)),(17,.int .i64 g1)],[],0⟩
def zb6 (a0:List Queue) (a1:List Queue):Option (Bool) :=
 (if (!decide ((a0.length:Int)=(a1.length:Int)))=true then
  some false
 else
  (zb4 (zi7 a0 a1) 0).bind (fun|.inl z=>zi6 z|.inr z=>some z))
theorem zD0 (a0:List Queue) (a1:List Queue) (r:Bool) (h:zb6 a0 a1=some r):MFn C 64 [.sl (a0.map Queue.enc),.sl (a1.map Queue.enc),.clo 65 []] [] 0 (.bool r) [] 0:=by
 refine zh0 (rl:=[.bool r]) zfo4 rfl rfl rfl rfl fun E hG hN hK=>?_
 unfold zeo9
 unfold zb6 at h
 refine za0 (za1 hG ?_)
 refine za0 (za0 (za1 hG ?_))
 refine za3 rfl hG h (fun _ h=>?_) (fun _ h=>?_)
 · refine za0 (za1 hG ?_)
   refine za6 ?_
   exact ze0 [] h
 refine za4 ?_
 refine za0 (za0 (za1 hG ?_))
 refine zb2 (zeW8) (fun v=>zi6 v=some r) ?_ ?_
 · intro j1 h
   unfold zi6 at h
   refine g_st ?_
   refine za0 (za1 hG ?_)
   refine za6 ?_
   exact ze0 [] h
 refine zc8 (zeW9 a0 a1) hK [] h (fun x_l1 h g1 y_l1 h_l1 hx_l1=>?_)
 unfold zi7 at h_l1
 refine g_st ?_
 refine za0 (za1 hG ?_)
 refine za0 ?_
 refine za3 rfl hG h_l1 (fun _ h_l1=>?_) (fun _ h_l1=>?_)
 · refine za4 ?_
   refine za0 (zb3 (za0 ?_))
   obtain ⟨hb2,h_l1⟩:=za5 h_l1
   refine za1 hG ?_
   refine za0 ?_
   obtain ⟨hb1,h_l1⟩:=za5 h_l1
   refine za1 hG ?_
   refine za0 (za1 hG ?_)
   obtain ⟨v1,hv1,h_l1⟩:=za2 h_l1
   refine za8 (fun hg=>zaA6 _ _ _ hv1) ?_
   refine za3 rfl hG h_l1 (fun _ h_l1=>?_) (fun _ h_l1=>?_)
   · refine za0 (za1 hG ?_)
     refine za6 ?_
     cases h_l1
     cases hx_l1 _ rfl
     exact ze0 [] h
   refine za4 ?_
   refine za1 hG ?_
   exact zc2 hK [] h_l1
 refine zb5 ?_
 cases h_l1
 cases hx_l1 _ rfl
 exact zb8 hK [] () (by exact h)
attribute [local irreducible] zb6
def zj5  (j1:Unit):Option (Bool) :=
 some true
@[go_sem] def zeX0  (j1:Unit):St:=⟨[],[],0⟩
def zg4 (a90:(Expr→Expr→Option (Bool))) (a0:List Expr) (a1:List Expr) (g1:Int):Option ((Int)⊕((Unit)⊕(Bool))) :=
 (if (decide (g1 < (a0.length:Int)))=true then
  gd (0≤g1∧g1 < (a0.length:Int)) <|
  gd (0≤g1∧g1 < (a1.length:Int)) <|
  (a90 (a0.getD g1.toNat Expr.zero) (a1.getD g1.toNat Expr.zero)).bind fun v1 =>
  (if (!v1)=true then
   some (.inr (.inr false))
  else
   some (.inl (IntKind.i64.wrap (g1+1))))
 else
  some (.inr (.inl ())))
@[go_sem] def zeX1 (a0:List Expr) (a1:List Expr) (g1:Int):St:=⟨[(1,.sl (a1.map Expr.enc)),(2,.clo 96 []),(15,.sl (a0.map Expr.enc)),(16,.int .i64 (a0.length:Int)),(17,.int .i64 g1)],[],0⟩
def zd1 (a90:(Expr→Expr→Option (Bool))) (a0:List Expr) (a1:List Expr):Option (Bool) :=
 (if (!decide ((a0.length:Int)=(a1.length:Int)))=true then
  some false
 else
  (zb4 (zg4 a90 a0 a1) 0).bind (fun|.inl z=>zj5 z|.inr z=>some z))
theorem zG4 (a90:(Expr→Expr→Option (Bool))) (hrc:∀ (a0:Expr) (a1:Expr) (r:Bool),a90 a0 a1=some r→PFn C 96 [.agg (Expr.enc a0),.agg (Expr.enc a1)] (.bool r)) (a0:List Expr) (a1:List Expr) (r:Bool) (h:zd1 a90 a0 a1=some r):MFn C 119 [.sl (a0.map Expr.enc),.sl (a1.map Expr.enc),.clo 96 []] [] 0 (.bool r) [] 0:=by
 refine zh0 (rl:=[.bool r]) zfo5 rfl rfl rfl rfl fun E hG hN hK=>?_
 unfold zeq0
 unfold zd1 at h
 refine za0 (za1 hG ?_)
 refine za0 (za0 (za1 hG ?_))
 refine za3 rfl hG h (fun _ h=>?_) (fun _ h=>?_)
 · refine za0 (za1 hG ?_)
   refine za6 ?_
   exact ze0 [] h
 refine za4 ?_
 refine za0 (za0 (za1 hG ?_))
 refine zb2 (zeX0) (fun v=>zj5 v=some r) ?_ ?_
 · intro j1 h
   unfold zj5 at h
   refine g_st ?_
   refine za0 (za1 hG ?_)
   refine za6 ?_
   exact ze0 [] h
 refine zc8 (zeX1 a0 a1) hK [] h (fun x_l1 h g1 y_l1 h_l1 hx_l1=>?_)
 unfold zg4 at h_l1
 refine g_st ?_
 refine za0 (za1 hG ?_)
 refine za0 ?_
 refine za3 rfl hG h_l1 (fun _ h_l1=>?_) (fun _ h_l1=>?_)
 · refine za4 ?_
   refine za0 (zb3 (za0 ?_))
   obtain ⟨hb2,h_l1⟩:=za5 h_l1
   refine za1 hG ?_
   refine za0 ?_
   obtain ⟨hb1,h_l1⟩:=za5 h_l1
   refine za1 hG ?_
   refine za0 (za1 hG ?_)
   obtain ⟨v1,hv1,h_l1⟩:=za2 h_l1
   refine za8 (fun hg=>hrc (a0.getD g1.toNat Expr.zero) (a1.getD g1.toNat Expr.zero) _ (hv1)) ?_
   refine za3 rfl hG h_l1 (fun _ h_l1=>?_) (fun _ h_l1=>?_)
   · refine za0 (za1 hG ?_)
     refine za6 ?_
     cases h_l1
     cases hx_l1 _ rfl
     exact ze0 [] h
   refine za4 ?_
   refine za1 hG ?_
   exact zc2 hK [] h_l1
 refine zb5 ?_
 cases h_l1
 cases hx_l1 _ rfl
 exact zb8 hK [] () (by exact h)
attribute [local irreducible] zd1
def zD1 (a90:(Expr→Expr→Option (Bool))) (a0:Expr) (a1:Expr):Option (Bool) :=
 ((if ((decide (a0.k=a1.k))&&(decide (a0.atom=a1.atom)))=true then zd1 a90 a0.kids a1.kids else some false)).bind fun v1 =>
 some (((decide (a0.k=a1.k))&&(decide (a0.atom=a1.atom)))&&v1)
def zt2:Nat→(Expr→Expr→Option (Bool))
 | 0=>fun _ _=>none
 | n+1=>zD1 (zt2 n)
def zB0 (a0:Expr) (a1:Expr):Option (Bool):=zt2 (_root_.SizeOf.sizeOf a0+1) a0 a1
theorem zaA7 (a90:(Expr→Expr→Option (Bool))) (hrc:∀ (a0:Expr) (a1:Expr) (r:Bool),a90 a0 a1=some r→PFn C 96 [.agg (Expr.enc a0),.agg (Expr.enc a1)] (.bool r)) (a0:Expr) (a1:Expr) (r:Bool) (h:zD1 a90 a0 a1=some r):PFn C 96 [.agg (Expr.enc a0),.agg (Expr.enc a1)] (.bool r):=by
 refine za7 zfo6 rfl fun E hG hN hK=>?_
 unfold zeq3
 unfold zD1 at h
 refine za0 (za1 hG ?_)
 refine za0 (za1 hG ?_)
 obtain ⟨v1,hv1,h⟩:=za2 h
 refine zbh8 [] [] hv1 (fun hc=>zG4 a90 hrc a0.kids a1.kids _ hc) rfl ?_
 refine za6 ?_
 exact zb0 h
theorem zah5:∀ (n:Nat) (a0:Expr) (a1:Expr) (r:Bool),zt2 n a0 a1=some r→PFn C 96 [.agg (Expr.enc a0),.agg (Expr.enc a1)] (.bool r)
 | 0,_,_,_,h=>nomatch h
 | n+1,a0,a1,r,h=>zaA7 (zt2 n) (zah5 n) a0 a1 r h
theorem zaD8 (a0:Expr) (a1:Expr) (r:Bool) (h:zB0 a0 a1=some r):PFn C 96 [.agg (Expr.enc a0),.agg (Expr.enc a1)] (.bool r):=zah5 _ a0 a1 r h
attribute [local irreducible] zB0
def zo7 (a0:Need) (a1:Need):Option (Bool) :=
 ((if ((decide (a0.proc=a1.proc))&&(decide (a0.gen=a1.gen)))=true then zB0 a0.expr a1.expr else some (false))).bind fun v1 =>
 some (((decide (a0.proc=a1.proc))&&(decide (a0.gen=a1.gen)))&&v1)
theorem zaD9 (a0:Need) (a1:Need) (r:Bool) (h:zo7 a0 a1=some r):PFn C 67 [.agg (Need.enc a0),.agg (Need.enc a1)] (.bool r):=by
 refine za7 zfo7 rfl fun E hG hN hK=>?_
 unfold zeq6
 unfold zo7 at h
 refine za0 (za1 hG ?_)
 refine za0 (za1 hG ?_)
 obtain ⟨v1,hv1,h⟩:=za2 h
 refine za8 (fun hg=>zaD8 a0.expr a1.expr _ (zv4 hg hv1)) ?_
 refine za6 ?_
 exact zb0 h
attribute [local irreducible] zo7
def zj6  (j1:Unit):Option (Bool) :=
 some true
@[go_sem] def zeX2  (j1:Unit):St:=⟨[],[],0⟩
def zg5 (a0:List Need) (a1:List Need) (g1:Int):Option ((Int)⊕((Unit)⊕(Bool))) :=
 (if (decide (g1 < (a0.length:Int)))=true then
  gd (0≤g1∧g1 < (a0.length:Int)) <|
  gd (0≤g1∧g1 < (a1.length:Int)) <|
  (zo7 (a0.getD g1.toNat Need.zero) (a1.getD g1.toNat Need.zero)).bind fun v1 =>
  (if (!v1)=true then
   some (.inr (.inr false))
  else
   some (.inl (IntKind.i64.wrap (g1+1))))
 else
  some (.inr (.inl ())))
@[go_sem] def zeX3 (a0:List Need) (a1:List Need) (g1:Int):St:=⟨[(1,.sl (a1.map Need.enc)),(2,.clo 67 []),(15,.sl (a0.map Need.enc)),(16,.int .i64 (a0.length:Int)),(17,.int .i64 g1)],[],0⟩
def zc3 (a0:List Need) (a1:List Need):Option (Bool) :=
 (if (!decide ((a0.length:Int)=(a1.length:Int)))=true then
  some false
 else
  (zb4 (zg5 a0 a1) 0).bind (fun|.inl z=>zj6 z|.inr z=>some z))
theorem zG5 (a0:List Need) (a1:List Need) (r:Bool) (h:zc3 a0 a1=some r):MFn C 66 [.sl (a0.map Need.enc),.sl (a1.map Need.enc),.clo 67 []] [] 0 (.bool r) [] 0:=by
 refine zh0 (rl:=[.bool r]) zfo8 rfl rfl rfl rfl fun E hG hN hK=>?_
 unfold zer7
 unfold zc3 at h
 refine za0 (za1 hG ?_)
 refine za0 (za0 (za1 hG ?_))
 refine za3 rfl hG h (fun _ h=>?_) (fun _ h=>?_)
 · refine za0 (za1 hG ?_)
   refine za6 ?_
   exact ze0 [] h
 refine za4 ?_
 refine za0 (za0 (za1 hG ?_))
 refine zb2 (zeX2) (fun v=>zj6 v=some r) ?_ ?_
 · intro j1 h
   unfold zj6 at h
   refine g_st ?_
   refine za0 (za1 hG ?_)
   refine za6 ?_
   exact ze0 [] h
 refine zc8 (zeX3 a0 a1) hK [] h (fun x_l1 h g1 y_l1 h_l1 hx_l1=>?_)
 unfold zg5 at h_l1
 refine g_st ?_
 refine za0 (za1 hG ?_)
 refine za0 ?_
 refine za3 rfl hG h_l1 (fun _ h_l1=>?_) (fun _ h_l1=>?_)
 · refine za4 ?_
   refine za0 (zb3 (za0 ?_))
   obtain ⟨hb2,h_l1⟩:=za5 h_l1
   refine za1 hG ?_
   refine za0 ?_
   obtain ⟨hb1,h_l1⟩:=za5 h_l1
   refine za1 hG ?_
   refine za0 (za1 hG ?_)
   obtain ⟨v1,hv1,h_l1⟩:=za2 h_l1
   refine za8 (fun hg=>zaD9 _ _ _ hv1) ?_
   refine za3 rfl hG h_l1 (fun _ h_l1=>?_) (fun _ h_l1=>?_)
   · refine za0 (za1 hG ?_)
     refine za6 ?_
     cases h_l1
     cases hx_l1 _ rfl
     exact ze0 [] h
   refine za4 ?_
   refine za1 hG ?_
   exact zc2 hK [] h_l1
 refine zb5 ?_
 cases h_l1
 cases hx_l1 _ rfl
 exact zb8 hK [] () (by exact h)
attribute [local irreducible] zc3
def zw7 (a0:WaitState) (a1:WaitState):Option (Bool) :=
 (zb6 a0.queues a1.queues).bind fun v1 =>
 ((if v1=true then zc3 a0.needs a1.needs else some false)).bind fun v2 =>
 some (v1&&v2)
theorem zaS0 (a0:WaitState) (a1:WaitState) (r:Bool) (h:zw7 a0 a1=some r):PFn C 28 [.agg (WaitState.enc a0),.agg (WaitState.enc a1)] (.bool r):=by
 refine za7 zfo9 rfl fun E hG hN hK=>?_
 unfold zes0
 unfold zw7 at h
 refine za0 (za1 hG ?_)
 refine za0 (za1 hG ?_)
 obtain ⟨v1,hv1,h⟩:=za2 h
 refine zd3 [] [] [] (zD0 _ _ _ hv1) rfl rfl ?_
 obtain ⟨v2,hv2,h⟩:=za2 h
 refine zbh8 [] [] hv2 (fun hc=>zG5 a0.needs a1.needs _ hc) rfl ?_
 refine za6 ?_
 exact zb0 h
attribute [local irreducible] zw7
def zC0 :Option (Bool) :=
 (zL0 0).bind fun v1 =>
 (zl9 (⟨[],[(⟨v1,{ Expr.zero with atom:=(⟨(⟨#[97]⟩:ByteArray),{ Amount.zero with mode:=5 }⟩:Atom) },3⟩:Need)]⟩:WaitState)).bind fun v2 =>
 (zf1 v2.1).bind fun v3 =>
 (zw4 v3.1 v1).bind fun v4 =>
 (zp9 v3.1 v1).bind fun v5 =>
 ((if (((decide (v2.2=0))&&(decide (v3.2=0)))&&v4.2)=true then zw7 (⟨[],[(⟨v1,{ Expr.zero with atom:=(⟨(⟨#[97]⟩:ByteArray),{ Amount.zero with mode:=5 }⟩:Atom) },3⟩:Need)]⟩:WaitState) v3.1 else some (false))).bind fun v6 =>
 ((if ((((decide (v2.2=0))&&(decide (v3.2=0)))&&v4.2)&&v6)=true then zi1 v3.1 else some (false))).bind fun v7 =>
 gd (((((((decide (v2.2=0))&&(decide (v3.2=0)))&&v4.2)&&v6)&&v7)&&(decide ((v5.length:Int)=1)))=true→0≤0∧0 < (v5.length:Int)) <|
 ((if (((((((decide (v2.2=0))&&(decide (v3.2=0)))&&v4.2)&&v6)&&v7)&&(decide ((v5.length:Int)=1)))&&(v5.getD 0 false))=true then zj8 v3.1 else some ([]))).bind fun v8 =>
 some ((((((((decide (v2.2=0))&&(decide (v3.2=0)))&&v4.2)&&v6)&&v7)&&(decide ((v5.length:Int)=1)))&&(v5.getD 0 false))&&(decide ((v8.length:Int)=1)))
theorem zaq4  (r:Bool) (h:zC0=some r):PFn C 7 [] (.bool r):=by
 refine za7 zfp0 rfl fun E hG hN hK=>?_
 unfold zes9
 unfold zC0 at h
 refine za0 (za1 hG ?_)
 refine za0 (za1 hG ?_)
 obtain ⟨v1,hv1,h⟩:=za2 h
 refine za8 (fun hg=>zbz0 _ _ hv1) ?_
 refine za0 (za1 hG ?_)
 refine za0 (za1 hG ?_)
 obtain ⟨v2,hv2,h⟩:=za2 h
 have hc_v2:=zao0 (⟨[],[(⟨v1,{ Expr.zero with atom:=(⟨(⟨#[97]⟩:ByteArray),{ Amount.zero with mode:=5 }⟩:Atom) },3⟩:Need)]⟩:WaitState) _ (hv2)
 have el_v2:∀ x:WaitState,WaitState.enc x=[A.sl (x.queues.map Queue.enc),A.sl (x.needs.map Need.enc)]:=fun x=>rfl
 rw [el_v2] at hc_v2
 dsimp only at hc_v2
 refine za8 (fun hg=>PFn.unfullA hc_v2) ?_
 refine za0 (za1 hG ?_)
 obtain ⟨v3,hv3,h⟩:=za2 h
 refine za8 (fun hg=>zab7 _ _ hv3) ?_
 refine za0 (za1 hG ?_)
 obtain ⟨v4,hv4,h⟩:=za2 h
 refine za8 (fun hg=>zaR9 _ _ _ hv4) ?_
 refine za0 (za1 hG ?_)
 obtain ⟨v5,hv5,h⟩:=za2 h
 refine za8 (fun hg=>zaG5 _ _ _ hv5) ?_
 refine za0 (za1 hG ?_)
 obtain ⟨v6,hv6,h⟩:=za2 h
 refine za8 (fun hg=>PFn.unfullA (zaS0 (⟨[],[(⟨v1,{ Expr.zero with atom:=(⟨(⟨#[97]⟩:ByteArray),{ Amount.zero with mode:=5 }⟩:Atom) },3⟩:Need)]⟩:WaitState) v3.1 _ (zv4 hg hv6))) ?_
 obtain ⟨v7,hv7,h⟩:=za2 h
 obtain ⟨hb1,h⟩:=za5 h
 refine za8 (fun hg=>zT0 v3.1 _ (zv4 hg hv7)) ?_
 obtain ⟨v8,hv8,h⟩:=za2 h
 refine za8 (fun hg=>zap7 v3.1 _ (zv4 hg hv8)) ?_
 refine za6 ?_
 exact zb0 h
attribute [local irreducible] zC0
def zY2  (j1:Unit):Option (Bool) :=
 some true
@[go_sem] def zeX4  (j1:Unit):St:=⟨[],[],0⟩
def zal6 (a0:List Hold) (a1:List Hold) (g1:Int):Option ((Int)⊕((Unit)⊕(Bool))) :=
 (if (decide (g1 < (a0.length:Int)))=true then
  gd (0≤g1∧g1 < (a0.length:Int)) <|
  gd (0≤g1∧g1 < (a1.length:Int)) <|
  (if (!decide ((a0.getD g1.toNat Hold.zero)=(a1.getD g1.toNat Hold.zero)))=true then
   some (.inr (.inr false))
  else
   some (.inl (IntKind.i64.wrap (g1+1))))
 else
  some (.inr (.inl ())))
@[go_sem] def zeX5 (a0:List Hold) (a1:List Hold) (g1:Int):St:=⟨[(0,.sl (a0.map Hold.enc)),(1,.sl (a1.map Hold.enc)),(5,.int .i64 g1)],[],0⟩
def zx6 (a0:List Hold) (a1:List Hold):Option (Bool) :=
 (if (!decide ((a0.length:Int)=(a1.length:Int)))=true then
  some false
 else
  (zb4 (zal6 a0 a1) 0).bind (fun|.inl z=>zY2 z|.inr z=>some z))
theorem zaN5 (a0:List Hold) (a1:List Hold) (r:Bool) (h:zx6 a0 a1=some r):PFn C 100 [.sl (a0.map Hold.enc),.sl (a1.map Hold.enc)] (.bool r):=by
 refine za7 zfp1 rfl fun E hG hN hK=>?_
 unfold zet9
 unfold zx6 at h
 refine za0 (za1 hG ?_)
 refine za0 (za0 (za1 hG ?_))
 refine za3 rfl hG h (fun _ h=>?_) (fun _ h=>?_)
 · refine za0 (za1 hG ?_)
   refine za6 ?_
   exact zb0 h
 refine za4 ?_
 refine za0 (za0 (za1 hG ?_))
 refine zb2 (zeX4) (fun v=>zY2 v=some r) ?_ ?_
 · intro j1 h
   unfold zY2 at h
   refine g_st ?_
   refine za0 (za1 hG ?_)
   refine za6 ?_
   exact zb0 h
 refine zc8 (zeX5 a0 a1) hK [] h (fun x_l1 h g1 y_l1 h_l1 hx_l1=>?_)
 unfold zal6 at h_l1
 refine g_st ?_
 refine za0 (za0 (za1 hG ?_))
 refine za3 rfl hG h_l1 (fun _ h_l1=>?_) (fun _ h_l1=>?_)
 · refine za4 ?_
   refine za0 (zb3 (za0 ?_))
   obtain ⟨hb1,h_l1⟩:=za5 h_l1
   obtain ⟨hb2,h_l1⟩:=za5 h_l1
   refine zl3 ze5 hG ?_
   refine za3 rfl hG h_l1 (fun _ h_l1=>?_) (fun _ h_l1=>?_)
   · refine za0 (za1 hG ?_)
     refine za6 ?_
     cases h_l1
     cases hx_l1 _ rfl
     exact zb0 h
   refine za4 ?_
   refine za1 hG ?_
   exact zc2 hK [] h_l1
 refine zb5 ?_
 cases h_l1
 cases hx_l1 _ rfl
 exact zb8 hK [] () (by exact h)
attribute [local irreducible] zx6
def zY3  (j1:Unit):Option (Bool) :=
 some true
@[go_sem] def zeX6  (j1:Unit):St:=⟨[],[],0⟩
def zal7 (a0:List Wait) (a1:List Wait) (g1:Int):Option ((Int)⊕((Unit)⊕(Bool))) :=
 (if (decide (g1 < (a0.length:Int)))=true then
  gd (0≤g1∧g1 < (a0.length:Int)) <|
  gd (0≤g1∧g1 < (a1.length:Int)) <|
  (if (!decide ((a0.getD g1.toNat Wait.zero)=(a1.getD g1.toNat Wait.zero)))=true then
   some (.inr (.inr false))
  else
   some (.inl (IntKind.i64.wrap (g1+1))))
 else
  some (.inr (.inl ())))
@[go_sem] def zeX7 (a0:List Wait) (a1:List Wait) (g1:Int):St:=⟨[(0,.sl (a0.map Wait.enc)),(1,.sl (a1.map Wait.enc)),(5,.int .i64 g1)],[],0⟩
def zt7 (a0:List Wait) (a1:List Wait):Option (Bool) :=
 (if (!decide ((a0.length:Int)=(a1.length:Int)))=true then
  some false
 else
  (zb4 (zal7 a0 a1) 0).bind (fun|.inl z=>zY3 z|.inr z=>some z))
theorem zaq5 (a0:List Wait) (a1:List Wait) (r:Bool) (h:zt7 a0 a1=some r):PFn C 101 [.sl (a0.map Wait.enc),.sl (a1.map Wait.enc)] (.bool r):=by
 refine za7 zfp2 rfl fun E hG hN hK=>?_
 unfold zeu9
 unfold zt7 at h
 refine za0 (za1 hG ?_)
 refine za0 (za0 (za1 hG ?_))
 refine za3 rfl hG h (fun _ h=>?_) (fun _ h=>?_)
 · refine za0 (za1 hG ?_)
   refine za6 ?_
   exact zb0 h
 refine za4 ?_
 refine za0 (za0 (za1 hG ?_))
 refine zb2 (zeX6) (fun v=>zY3 v=some r) ?_ ?_
 · intro j1 h
   unfold zY3 at h
   refine g_st ?_
   refine za0 (za1 hG ?_)
   refine za6 ?_
   exact zb0 h
 refine zc8 (zeX7 a0 a1) hK [] h (fun x_l1 h g1 y_l1 h_l1 hx_l1=>?_)
 unfold zal7 at h_l1
 refine g_st ?_
 refine za0 (za0 (za1 hG ?_))
 refine za3 rfl hG h_l1 (fun _ h_l1=>?_) (fun _ h_l1=>?_)
 · refine za4 ?_
   refine za0 (zb3 (za0 ?_))
   obtain ⟨hb1,h_l1⟩:=za5 h_l1
   obtain ⟨hb2,h_l1⟩:=za5 h_l1
   refine zl3 ze5 hG ?_
   refine za3 rfl hG h_l1 (fun _ h_l1=>?_) (fun _ h_l1=>?_)
   · refine za0 (za1 hG ?_)
     refine za6 ?_
     cases h_l1
     cases hx_l1 _ rfl
     exact zb0 h
   refine za4 ?_
   refine za1 hG ?_
   exact zc2 hK [] h_l1
 refine zb5 ?_
 cases h_l1
 cases hx_l1 _ rfl
 exact zb8 hK [] () (by exact h)
attribute [local irreducible] zt7
def zP4 (a0:Queue) (a1:Queue):Option (Bool) :=
 ((if ((decide (a0.resource=a1.resource))&&(decide (a0.gen=a1.gen)))=true then zx6 a0.holds a1.holds else some (false))).bind fun v1 =>
 ((if (((decide (a0.resource=a1.resource))&&(decide (a0.gen=a1.gen)))&&v1)=true then zt7 a0.converts a1.converts else some (false))).bind fun v2 =>
 ((if ((((decide (a0.resource=a1.resource))&&(decide (a0.gen=a1.gen)))&&v1)&&v2)=true then zt7 a0.waits a1.waits else some (false))).bind fun v3 =>
 some (((((decide (a0.resource=a1.resource))&&(decide (a0.gen=a1.gen)))&&v1)&&v2)&&v3)
theorem zbq3 (a0:Queue) (a1:Queue) (r:Bool) (h:zP4 a0 a1=some r):PFn C 70 [.agg (Queue.enc a0),.agg (Queue.enc a1)] (.bool r):=by
 refine za7 zfp3 rfl fun E hG hN hK=>?_
 unfold zev2
 unfold zP4 at h
 refine za0 (za1 hG ?_)
 refine za0 (za1 hG ?_)
 obtain ⟨v1,hv1,h⟩:=za2 h
 refine za8 (fun hg=>zaN5 a0.holds a1.holds _ (zv4 hg hv1)) ?_
 obtain ⟨v2,hv2,h⟩:=za2 h
 refine za8 (fun hg=>zaq5 a0.converts a1.converts _ (zv4 hg hv2)) ?_
 obtain ⟨v3,hv3,h⟩:=za2 h
 refine za8 (fun hg=>zaq5 a0.waits a1.waits _ (zv4 hg hv3)) ?_
 refine za6 ?_
 exact zb0 h
attribute [local irreducible] zP4
def zad0  (j1:Unit):Option (Bool) :=
 some true
@[go_sem] def zeX8  (j1:Unit):St:=⟨[],[],0⟩
def zN9 (a0:List Queue) (a1:List Queue) (g1:Int):Option ((Int)⊕((Unit)⊕(Bool))) :=
 (if (decide (g1 < (a0.length:Int)))=true then
  gd (0≤g1∧g1 < (a0.length:Int)) <|
  gd (0≤g1∧g1 < (a1.length:Int)) <|
  (zP4 (a0.getD g1.toNat Queue.zero) (a1.getD g1.toNat Queue.zero)).bind fun v1 =>
  (if (!v1)=true then
   some (.inr (.inr false))
  else
   some (.inl (IntKind.i64.wrap (g1+1))))
 else
  some (.inr (.inl ())))
@[go_sem] def zeX9 (a0:List Queue) (a1:List Queue) (g1:Int):St:=⟨[(0,.sl (a0.map Queue.enc)),(1,.sl (a1.map Queue.enc)),(5,.int .i64 g1)],[],0⟩
def zP5 (a0:List Queue) (a1:List Queue):Option (Bool) :=
 (if (!decide ((a0.length:Int)=(a1.length:Int)))=true then
  some false
 else
  (zb4 (zN9 a0 a1) 0).bind (fun|.inl z=>zad0 z|.inr z=>some z))
theorem zbq4 (a0:List Queue) (a1:List Queue) (r:Bool) (h:zP5 a0 a1=some r):PFn C 30 [.sl (a0.map Queue.enc),.sl (a1.map Queue.enc)] (.bool r):=by
 refine za7 zfp4 rfl fun E hG hN hK=>?_
 unfold zew2
 unfold zP5 at h
 refine za0 (za1 hG ?_)
 refine za0 (za0 (za1 hG ?_))
 refine za3 rfl hG h (fun _ h=>?_) (fun _ h=>?_)
 · refine za0 (za1 hG ?_)
   refine za6 ?_
   exact zb0 h
 refine za4 ?_
 refine za0 (za0 (za1 hG ?_))
 refine zb2 (zeX8) (fun v=>zad0 v=some r) ?_ ?_
 · intro j1 h
   unfold zad0 at h
   refine g_st ?_
   refine za0 (za1 hG ?_)
   refine za6 ?_
   exact zb0 h
 refine zc8 (zeX9 a0 a1) hK [] h (fun x_l1 h g1 y_l1 h_l1 hx_l1=>?_)
 unfold zN9 at h_l1
 refine g_st ?_
 refine za0 (za0 (za1 hG ?_))
 refine za3 rfl hG h_l1 (fun _ h_l1=>?_) (fun _ h_l1=>?_)
 · refine za4 ?_
   refine za0 (zb3 (za0 ?_))
   obtain ⟨hb1,h_l1⟩:=za5 h_l1
   obtain ⟨hb2,h_l1⟩:=za5 h_l1
   refine zl3 ze5 hG ?_
   obtain ⟨v1,hv1,h_l1⟩:=za2 h_l1
   refine zd9 (fun hg=>zbq3 _ _ _ hv1) ?_
   refine za3 rfl hG h_l1 (fun _ h_l1=>?_) (fun _ h_l1=>?_)
   · refine za0 (za1 hG ?_)
     refine za6 ?_
     cases h_l1
     cases hx_l1 _ rfl
     exact zb0 h
   refine za4 ?_
   refine za1 hG ?_
   exact zc2 hK [] h_l1
 refine zb5 ?_
 cases h_l1
 cases hx_l1 _ rfl
 exact zb8 hK [] () (by exact h)
attribute [local irreducible] zP5
def zab8  (j1:Unit):Option (Bool) :=
 some true
@[go_sem] def zeY0  (j1:Unit):St:=⟨[],[],0⟩
def zR0 (a90:(Expr→Expr→Option (Bool))) (a0:Expr) (a1:Expr) (g1:Int):Option ((Int)⊕((Unit)⊕(Bool))) :=
 (if (decide (g1 < (a0.kids.length:Int)))=true then
  gd (0≤g1∧g1 < (a0.kids.length:Int)) <|
  gd (0≤g1∧g1 < (a1.kids.length:Int)) <|
  (a90 (a0.kids.getD g1.toNat Expr.zero) (a1.kids.getD g1.toNat Expr.zero)).bind fun v1 =>
  (if (!v1)=true then
   some (.inr (.inr false))
  else
   some (.inl (IntKind.i64.wrap (g1+1))))
 else
  some (.inr (.inl ())))
@[go_sem] def zeY1 (a0:Expr) (a1:Expr) (g1:Int):St:=⟨[(2,.ptr 0 0 0),(3,.ptr 1 0 0),(5,.int .i64 g1)],[(0,⟨false,5,(Expr.enc Expr.zero),[Expr.enc a0]⟩),(1,⟨false,5,(Expr.enc Expr.zero),[Expr.enc a1]⟩)],2⟩
def zM9 (a90:(Expr→Expr→Option (Bool))) (a0:Expr) (a1:Expr):Option (Bool) :=
 (if (((!decide (a0.k=a1.k))||(!decide (a0.atom=a1.atom)))||(!decide ((a0.kids.length:Int)=(a1.kids.length:Int))))=true then
  some false
 else
  (zb4 (zR0 a90 a0 a1) 0).bind (fun|.inl z=>zab8 z|.inr z=>some z))
def zJ2:Nat→(Expr→Expr→Option (Bool))
 | 0=>fun _ _=>none
 | n+1=>zM9 (zJ2 n)
def zL9 (a0:Expr) (a1:Expr):Option (Bool):=zJ2 (_root_.SizeOf.sizeOf a0+1) a0 a1
theorem zaN6 (a90:(Expr→Expr→Option (Bool))) (hrc:∀ (a0:Expr) (a1:Expr) (r:Bool),a90 a0 a1=some r→PFn C 71 [.agg (Expr.enc a0),.agg (Expr.enc a1)] (.bool r)) (a0:Expr) (a1:Expr) (r:Bool) (h:zM9 a90 a0 a1=some r):PFn C 71 [.agg (Expr.enc a0),.agg (Expr.enc a1)] (.bool r):=by
 refine za7 zfp5 rfl fun E hG hN hK=>?_
 unfold zex2
 unfold zM9 at h
 refine za0 (za1 hG ?_)
 refine za0 (za0 (za1 hG ?_))
 refine za3 rfl hG h (fun _ h=>?_) (fun _ h=>?_)
 · refine za0 (za1 hG ?_)
   refine za6 ?_
   exact zb0 h
 refine za4 ?_
 refine za0 (za0 (za1 hG ?_))
 refine zb2 (zeY0) (fun v=>zab8 v=some r) ?_ ?_
 · intro j1 h
   unfold zab8 at h
   refine g_st ?_
   refine za0 (za1 hG ?_)
   refine za6 ?_
   exact zb0 h
 refine zc8 (zeY1 a0 a1) hK [(0,0),(1,1)] h (fun x_l1 h g1 y_l1 h_l1 hx_l1=>?_)
 unfold zR0 at h_l1
 refine g_st ?_
 refine za0 (za0 (za1 hG ?_))
 refine za3 rfl hG h_l1 (fun _ h_l1=>?_) (fun _ h_l1=>?_)
 · refine za4 ?_
   refine za0 (zb3 (za0 ?_))
   obtain ⟨hb1,h_l1⟩:=za5 h_l1
   obtain ⟨hb2,h_l1⟩:=za5 h_l1
   refine zl3 ze5 hG ?_
   obtain ⟨v1,hv1,h_l1⟩:=za2 h_l1
   refine zd9 (fun hg=>hrc (a0.kids.getD g1.toNat Expr.zero) (a1.kids.getD g1.toNat Expr.zero) _ (hv1)) ?_
   refine za3 rfl hG h_l1 (fun _ h_l1=>?_) (fun _ h_l1=>?_)
   · refine za0 (za1 hG ?_)
     refine za6 ?_
     cases h_l1
     cases hx_l1 _ rfl
     exact zb0 h
   refine za4 ?_
   refine za1 hG ?_
   exact zc2 hK [(0,0),(1,1)] h_l1
 refine zb5 ?_
 cases h_l1
 cases hx_l1 _ rfl
 exact zb8 hK [] () (by exact h)
theorem zaq6:∀ (n:Nat) (a0:Expr) (a1:Expr) (r:Bool),zJ2 n a0 a1=some r→PFn C 71 [.agg (Expr.enc a0),.agg (Expr.enc a1)] (.bool r)
 | 0,_,_,_,h=>nomatch h
 | n+1,a0,a1,r,h=>zaN6 (zJ2 n) (zaq6 n) a0 a1 r h
theorem zaS1 (a0:Expr) (a1:Expr) (r:Bool) (h:zL9 a0 a1=some r):PFn C 71 [.agg (Expr.enc a0),.agg (Expr.enc a1)] (.bool r):=zaq6 _ a0 a1 r h
attribute [local irreducible] zL9
def zB1 (a0:Need) (a1:Need):Option (Bool) :=
 ((if ((decide (a0.proc=a1.proc))&&(decide (a0.gen=a1.gen)))=true then zL9 a0.expr a1.expr else some (false))).bind fun v1 =>
 some (((decide (a0.proc=a1.proc))&&(decide (a0.gen=a1.gen)))&&v1)
theorem zaS2 (a0:Need) (a1:Need) (r:Bool) (h:zB1 a0 a1=some r):PFn C 31 [.agg (Need.enc a0),.agg (Need.enc a1)] (.bool r):=by
 refine za7 zfp6 rfl fun E hG hN hK=>?_
 unfold zex5
 unfold zB1 at h
 refine za0 (za1 hG ?_)
 refine za0 (za1 hG ?_)
 obtain ⟨v1,hv1,h⟩:=za2 h
 refine za8 (fun hg=>zaS1 a0.expr a1.expr _ (zv4 hg hv1)) ?_
 refine za6 ?_
 exact zb0 h
attribute [local irreducible] zB1
def zan7  (j1:Unit):Option (Bool) :=
 some true
@[go_sem] def zeY2  (j1:Unit):St:=⟨[],[],0⟩
def zad1 (a0:WaitState) (a1:WaitState) (g1:Int):Option ((Int)⊕((Unit)⊕(Bool))) :=
 (if (decide (g1 < (a0.needs.length:Int)))=true then
  gd (0≤g1∧g1 < (a0.needs.length:Int)) <|
  gd (0≤g1∧g1 < (a1.needs.length:Int)) <|
  (zB1 (a0.needs.getD g1.toNat Need.zero) (a1.needs.getD g1.toNat Need.zero)).bind fun v2 =>
  (if (!v2)=true then
   some (.inr (.inr false))
  else
   some (.inl (IntKind.i64.wrap (g1+1))))
 else
  some (.inr (.inl ())))
@[go_sem] def zeY3 (a0:WaitState) (a1:WaitState) (g1:Int):St:=⟨[(2,.ptr 0 0 0),(3,.ptr 1 0 0),(5,.int .i64 g1)],[(0,⟨false,2,(WaitState.enc WaitState.zero),[WaitState.enc a0]⟩),(1,⟨false,2,(WaitState.enc WaitState.zero),[WaitState.enc a1]⟩)],2⟩
def zK7 (a0:WaitState) (a1:WaitState):Option (Bool) :=
 (zP5 a0.queues a1.queues).bind fun v1 =>
 (if ((!v1)||(!decide ((a0.needs.length:Int)=(a1.needs.length:Int))))=true then
  some false
 else
  (zb4 (zad1 a0 a1) 0).bind (fun|.inl z=>zan7 z|.inr z=>some z))
theorem zaL7 (a0:WaitState) (a1:WaitState) (r:Bool) (h:zK7 a0 a1=some r):PFn C 8 [.agg (WaitState.enc a0),.agg (WaitState.enc a1)] (.bool r):=by
 refine za7 zfp7 rfl fun E hG hN hK=>?_
 unfold zey5
 unfold zK7 at h
 refine za0 (za1 hG ?_)
 refine za0 (za0 (za1 hG ?_))
 obtain ⟨v1,hv1,h⟩:=za2 h
 refine za8 (fun hg=>zbq4 _ _ _ hv1) ?_
 refine za3 rfl hG h (fun _ h=>?_) (fun _ h=>?_)
 · refine za0 (za1 hG ?_)
   refine za6 ?_
   exact zb0 h
 refine za4 ?_
 refine za0 (za0 (za1 hG ?_))
 refine zb2 (zeY2) (fun v=>zan7 v=some r) ?_ ?_
 · intro j1 h
   unfold zan7 at h
   refine g_st ?_
   refine za0 (za1 hG ?_)
   refine za6 ?_
   exact zb0 h
 refine zc8 (zeY3 a0 a1) hK [(0,0),(1,1)] h (fun x_l1 h g1 y_l1 h_l1 hx_l1=>?_)
 unfold zad1 at h_l1
 refine g_st ?_
 refine za0 (za0 (za1 hG ?_))
 refine za3 rfl hG h_l1 (fun _ h_l1=>?_) (fun _ h_l1=>?_)
 · refine za4 ?_
   refine za0 (zb3 (za0 ?_))
   obtain ⟨hb1,h_l1⟩:=za5 h_l1
   obtain ⟨hb2,h_l1⟩:=za5 h_l1
   refine zl3 ze5 hG ?_
   obtain ⟨v2,hv2,h_l1⟩:=za2 h_l1
   refine zd9 (fun hg=>zaS2 _ _ _ hv2) ?_
   refine za3 rfl hG h_l1 (fun _ h_l1=>?_) (fun _ h_l1=>?_)
   · refine za0 (za1 hG ?_)
     refine za6 ?_
     cases h_l1
     cases hx_l1 _ rfl
     exact zb0 h
   refine za4 ?_
   refine za1 hG ?_
   exact zc2 hK [(0,0),(1,1)] h_l1
 refine zb5 ?_
 cases h_l1
 cases hx_l1 _ rfl
 exact zb8 hK [] () (by exact h)
attribute [local irreducible] zK7
def zaj4  (j1:Unit):Option (Bool) :=
 some true
@[go_sem] def zeY4  (j1:Unit):St:=⟨[],[],0⟩
def zaa7 (a0:WaitState) (g1:Int):Option ((Int)⊕((Unit)⊕(Bool))) :=
 (if (decide (g1 < (a0.queues.length:Int)))=true then
  gd (0≤g1∧g1 < (a0.queues.length:Int)) <|
  gd ((!(decide (12 < (((a0.queues.getD g1.toNat Queue.zero).holds).length:Int))))=true→0≤g1∧g1 < (a0.queues.length:Int)) <|
  gd ((!((decide (12 < (((a0.queues.getD g1.toNat Queue.zero).holds).length:Int)))||(decide (12 < (((a0.queues.getD g1.toNat Queue.zero).converts).length:Int)))))=true→0≤g1∧g1 < (a0.queues.length:Int)) <|
  (if (((decide (12 < (((a0.queues.getD g1.toNat Queue.zero).holds).length:Int)))||(decide (12 < (((a0.queues.getD g1.toNat Queue.zero).converts).length:Int))))||(decide (12 < (((a0.queues.getD g1.toNat Queue.zero).waits).length:Int))))=true then
   some (.inr (.inr false))
  else
   some (.inl (IntKind.i64.wrap (g1+1))))
 else
  some (.inr (.inl ())))
@[go_sem] def zeY5 (a0:WaitState) (g1:Int):St:=⟨[(1,.ptr 0 0 0),(3,.int .i64 g1)],[(0,⟨false,2,(WaitState.enc WaitState.zero),[WaitState.enc a0]⟩)],1⟩
def zL3 (a0:WaitState):Option (Bool) :=
 (if ((decide (12 < (a0.queues.length:Int)))||(decide (12 < (a0.needs.length:Int))))=true then
  some false
 else
  (zb4 (zaa7 a0) 0).bind (fun|.inl z=>zaj4 z|.inr z=>some z))
theorem zbj8 (a0:WaitState) (r:Bool) (h:zL3 a0=some r):PFn C 9 [.agg (WaitState.enc a0)] (.bool r):=by
 refine za7 zfp8 rfl fun E hG hN hK=>?_
 unfold zez5
 unfold zL3 at h
 refine za0 (za1 hG ?_)
 refine za0 (za0 (za1 hG ?_))
 refine za3 rfl hG h (fun _ h=>?_) (fun _ h=>?_)
 · refine za0 (za1 hG ?_)
   refine za6 ?_
   exact zb0 h
 refine za4 ?_
 refine za0 (za0 (za1 hG ?_))
 refine zb2 (zeY4) (fun v=>zaj4 v=some r) ?_ ?_
 · intro j1 h
   unfold zaj4 at h
   refine g_st ?_
   refine za0 (za1 hG ?_)
   refine za6 ?_
   exact zb0 h
 refine zc8 (zeY5 a0) hK [(0,0)] h (fun x_l1 h g1 y_l1 h_l1 hx_l1=>?_)
 unfold zaa7 at h_l1
 refine g_st ?_
 refine za0 (za0 (za1 hG ?_))
 refine za3 rfl hG h_l1 (fun _ h_l1=>?_) (fun _ h_l1=>?_)
 · refine za4 ?_
   refine za0 (zb3 (za0 ?_))
   obtain ⟨hb1,h_l1⟩:=za5 h_l1
   obtain ⟨hb2,h_l1⟩:=za5 h_l1
   obtain ⟨hb3,h_l1⟩:=za5 h_l1
   refine za1 hG ?_
   refine za3 rfl hG h_l1 (fun _ h_l1=>?_) (fun _ h_l1=>?_)
   · refine za0 (za1 hG ?_)
     refine za6 ?_
     cases h_l1
     cases hx_l1 _ rfl
     exact zb0 h
   refine za4 ?_
   refine za1 hG ?_
   exact zc2 hK [(0,0)] h_l1
 refine zb5 ?_
 cases h_l1
 cases hx_l1 _ rfl
 exact zb8 hK [] () (by exact h)
attribute [local irreducible] zL3
def zG6  (j1:Int×(List Int)):Option ((List Int)) :=
 gd (j1.2.length+1≤4294967296) <|
 some (j1.2++[(IntKind.u8.wrap j1.1)])
@[go_sem] def zeY6  (j1:Int×(List Int)):St:=⟨[(1,.int .u64 j1.1),(5,.own 0 0 j1.2.length)],[(0,⟨false,1,[A.int .u8 0],j1.2.map (eI .u8)⟩)],1⟩
def zh8  (g1:Int×(List Int)):Option ((Int×(List Int))⊕((Int×(List Int)))) :=
 (if (decide (128≤g1.1))=true then
  gd (g1.2.length+1≤4294967296) <|
  some (.inl ((g1.1.fdiv (2 ^ 7)),(g1.2++[(zx2 .or .u8 (IntKind.u8.wrap (zx2 .and .u64 g1.1 127)) 128)])))
 else
  some (.inr (g1.1,g1.2)))
@[go_sem] def zeY7  (g1:Int×(List Int)):St:=⟨[(1,.int .u64 g1.1),(5,.own 0 0 g1.2.length)],[(0,⟨false,1,[A.int .u8 0],g1.2.map (eI .u8)⟩)],1⟩
def zm8 (a0:List Int) (a1:Int):Option ((List Int)) :=
 gd (a0.length≤4294967296) <|
 (zb4 (zh8) (a1,a0)).bind (fun z=>zG6 z)
theorem zaa8 (a0:List Int) (a1:Int) (r:(List Int)) (h:zm8 a0 a1=some r):PFn C 74 [.sl (a0.map (eI .u8)),.int .u64 a1] (.sl (r.map (eI .u8))):=by
 refine za7 zfp9 rfl fun E hG hN hK=>?_
 unfold zeA2
 unfold zm8 at h
 refine za0 (za1 hG ?_)
 refine za0 ?_
 obtain ⟨hb3,h⟩:=za5 h
 refine za1 hG ?_
 refine za0 ?_
 refine zb2 (zeY6) (fun v=>zG6 v=some r) ?_ ?_
 · intro j1 h
   unfold zG6 at h
   refine g_st ?_
   refine za0 ?_
   obtain ⟨hb1,h⟩:=za5 h
   refine za1 hG ?_
   refine za6 ?_
   exact zb0 h
 refine zc8 (zeY7) hK [(0,1)] h (fun x_l1 h g1 y_l1 h_l1 hx_l1=>?_)
 unfold zh8 at h_l1
 refine g_st ?_
 refine za0 (za0 (za1 hG ?_))
 refine za3 rfl hG h_l1 (fun _ h_l1=>?_) (fun _ h_l1=>?_)
 · refine za4 ?_
   refine zb3 (za0 ?_)
   obtain ⟨hb2,h_l1⟩:=za5 h_l1
   refine za1 hG ?_
   refine za1 hG ?_
   exact zc2 hK [(0,1)] h_l1
 refine zb5 ?_
 cases h_l1
 cases hx_l1 _ rfl
 exact zb8 hK [(0,0)] (g1.1,g1.2) (by exact h)
attribute [local irreducible] zm8
def zk4 (a0:List Int) (a1:Int):Option ((List Int)) :=
 (zm8 a0 (IntKind.u64.wrap a1)).bind fun v1 =>
 some v1
theorem zq0 (a0:List Int) (a1:Int) (r:(List Int)) (h:zk4 a0 a1=some r):PFn C 36 [.sl (a0.map (eI .u8)),.int .i64 a1] (.sl (r.map (eI .u8))):=by
 refine za7 zfq0 rfl fun E hG hN hK=>?_
 unfold zeA5
 unfold zk4 at h
 refine za0 (za1 hG ?_)
 refine za0 (za1 hG ?_)
 obtain ⟨v1,hv1,h⟩:=za2 h
 refine za8 (fun hg=>zaa8 _ _ _ hv1) ?_
 refine za6 ?_
 exact zb0 h
attribute [local irreducible] zk4
def zY4  (j1:Int×(List Int)):Option ((List Int)) :=
 gd (j1.2.length+1≤4294967296) <|
 some (j1.2++[(IntKind.u8.wrap j1.1)])
@[go_sem] def zeY8  (j1:Int×(List Int)):St:=⟨[(1,.int .u64 j1.1),(5,.own 0 0 j1.2.length)],[(0,⟨false,1,[A.int .u8 0],j1.2.map (eI .u8)⟩)],1⟩
def zal8  (g1:Int×(List Int)):Option ((Int×(List Int))⊕((Int×(List Int)))) :=
 (if (decide (128≤g1.1))=true then
  gd (g1.2.length+1≤4294967296) <|
  some (.inl ((g1.1.fdiv (2 ^ 7)),(g1.2++[(zx2 .or .u8 (IntKind.u8.wrap (zx2 .and .u64 g1.1 127)) 128)])))
 else
  some (.inr (g1.1,g1.2)))
@[go_sem] def zeY9  (g1:Int×(List Int)):St:=⟨[(1,.int .u64 g1.1),(5,.own 0 0 g1.2.length)],[(0,⟨false,1,[A.int .u8 0],g1.2.map (eI .u8)⟩)],1⟩
def zD2 (a0:List Int) (a1:Int):Option ((List Int)) :=
 gd (a0.length≤4294967296) <|
 (zb4 (zal8) (a1,a0)).bind (fun z=>zY4 z)
theorem zaK8 (a0:List Int) (a1:Int) (r:(List Int)) (h:zD2 a0 a1=some r):MFn C 74 [.sl (a0.map (eI .u8)),.int .u64 a1] [] 0 (.own 0 0 r.length) [(0,⟨false,1,[A.int .u8 0],r.map (eI .u8)⟩)] 1:=by
 refine zh0 (rl:=[.own 0 0 r.length]) zfq1 rfl rfl rfl rfl fun E hG hN hK=>?_
 unfold zeB2
 unfold zD2 at h
 refine za0 (za1 hG ?_)
 refine za0 ?_
 obtain ⟨hb3,h⟩:=za5 h
 refine za1 hG ?_
 refine za0 ?_
 refine zb2 (zeY8) (fun v=>zY4 v=some r) ?_ ?_
 · intro j1 h
   unfold zY4 at h
   refine g_st ?_
   refine za0 ?_
   obtain ⟨hb1,h⟩:=za5 h
   refine za1 hG ?_
   refine za6 ?_
   exact ze0 [(0,1)] h
 refine zc8 (zeY9) hK [(0,2)] h (fun x_l1 h g1 y_l1 h_l1 hx_l1=>?_)
 unfold zal8 at h_l1
 refine g_st ?_
 refine za0 (za0 (za1 hG ?_))
 refine za3 rfl hG h_l1 (fun _ h_l1=>?_) (fun _ h_l1=>?_)
 · refine za4 ?_
   refine zb3 (za0 ?_)
   obtain ⟨hb2,h_l1⟩:=za5 h_l1
   refine za1 hG ?_
   refine za1 hG ?_
   exact zc2 hK [(0,1)] h_l1
 refine zb5 ?_
 cases h_l1
 cases hx_l1 _ rfl
 exact zb8 hK [(0,0)] (g1.1,g1.2) (by exact h)
attribute [local irreducible] zD2
def zz5 (a0:List Int) (a1:ByteArray):Option ((List Int)) :=
 (zD2 a0 (IntKind.u64.wrap (a1.size:Int))).bind fun v1 =>
 gd (v1.length+a1.toList.length≤4294967296) <|
 some (v1++(a1.toList.map fun b=>(b.toNat:Int)))
theorem zax5 (a0:List Int) (a1:ByteArray) (r:(List Int)) (h:zz5 a0 a1=some r):PFn C 37 [.sl (a0.map (eI .u8)),.str a1] (.sl (r.map (eI .u8))):=by
 refine za7 zfq2 rfl fun E hG hN hK=>?_
 unfold zeB5
 unfold zz5 at h
 refine za0 (za1 hG ?_)
 refine za0 (za1 hG ?_)
 obtain ⟨v1,hv1,h⟩:=za2 h
 obtain ⟨hb1,h⟩:=za5 h
 refine zd3 [] [(0,0)] [0] (zaK8 _ _ _ hv1) rfl rfl ?_
 refine za6 ?_
 exact zb0 h
attribute [local irreducible] zz5
def zs1 (a0:List Int) (a1:Proc):Option ((List Int)) :=
 (if (!(ze3 a1))=true then
  gd (a0.length≤4294967296) <|
  some a0
 else
  (zm8 a0 (IntKind.u64.wrap a1.site)).bind fun v1 =>
  (zm8 v1 (IntKind.u64.wrap a1.inc)).bind fun v2 =>
  (zm8 v2 (IntKind.u64.wrap a1.num)).bind fun v3 =>
  some v3)
theorem zaa9 (a0:List Int) (a1:Proc) (r:(List Int)) (h:zs1 a0 a1=some r):PFn C 39 [.sl (a0.map (eI .u8)),.agg (Proc.enc a1)] (.sl (r.map (eI .u8))):=by
 refine za7 zfq3 rfl fun E hG hN hK=>?_
 unfold zeC0
 unfold zs1 at h
 refine za0 (za1 hG ?_)
 refine za0 (za0 (za1 hG ?_))
 refine za8 (fun hg=>zF9 a1) ?_
 refine za3 rfl hG h (fun _ h=>?_) (fun _ h=>?_)
 · refine za0 ?_
   obtain ⟨hb1,h⟩:=za5 h
   refine za1 hG ?_
   refine za6 ?_
   exact zb0 h
 refine za4 ?_
 refine za0 (zl3 ze5 hG ?_)
 obtain ⟨v1,hv1,h⟩:=za2 h
 refine zd9 (fun hg=>zaa8 _ _ _ hv1) ?_
 obtain ⟨v2,hv2,h⟩:=za2 h
 refine zd9 (fun hg=>zaa8 _ _ _ hv2) ?_
 obtain ⟨v3,hv3,h⟩:=za2 h
 refine zd9 (fun hg=>zaa8 _ _ _ hv3) ?_
 refine za6 ?_
 exact zb0 h
attribute [local irreducible] zs1
def zu2 (a0:List Int) (a1:Amount):Option ((List Int)) :=
 (zk4 a0 a1.mode).bind fun v1 =>
 (zk4 v1 a1.units).bind fun v2 =>
 some v2
theorem zad2 (a0:List Int) (a1:Amount) (r:(List Int)) (h:zu2 a0 a1=some r):PFn C 38 [.sl (a0.map (eI .u8)),.agg (Amount.enc a1)] (.sl (r.map (eI .u8))):=by
 refine za7 zfq4 rfl fun E hG hN hK=>?_
 unfold zeC3
 unfold zu2 at h
 refine za0 (za1 hG ?_)
 refine za0 (zl3 ze5 hG ?_)
 obtain ⟨v1,hv1,h⟩:=za2 h
 refine zd9 (fun hg=>zq0 _ _ _ hv1) ?_
 obtain ⟨v2,hv2,h⟩:=za2 h
 refine zd9 (fun hg=>zq0 _ _ _ hv2) ?_
 refine za6 ?_
 exact zb0 h
attribute [local irreducible] zu2
def zan8  (j1:(List Int)):Option ((List Int)) :=
 some j1
@[go_sem] def zeZ0  (j1:(List Int)):St:=⟨[(0,.sl (j1.map (eI .u8)))],[],0⟩
def zV5 (a90:((List Int)→Expr→Option ((List Int)))) (a1:Expr) (g1:(List Int)×Int):Option (((List Int)×Int)⊕(((List Int)))) :=
 (if (decide (g1.2 < (a1.kids.length:Int)))=true then
  gd (0≤g1.2∧g1.2 < (a1.kids.length:Int)) <|
  (a90 g1.1 (a1.kids.getD g1.2.toNat Expr.zero)).bind fun v5 =>
  some (.inl (v5,(IntKind.i64.wrap (g1.2+1))))
 else
  some (.inr g1.1))
@[go_sem] def zeZ1 (a1:Expr) (g1:(List Int)×Int):St:=⟨[(0,.sl (g1.1.map (eI .u8))),(3,.ptr 0 0 0),(5,.int .i64 g1.2)],[(0,⟨false,5,(Expr.enc Expr.zero),[Expr.enc a1]⟩)],1⟩
def zY5 (a90:((List Int)→Expr→Option ((List Int)))) (a0:List Int) (a1:Expr):Option ((List Int)) :=
 (zk4 a0 a1.k).bind fun v1 =>
 (if (decide (a1.k=0))=true then
  (zz5 v1 a1.atom.name).bind fun v2 =>
  (zu2 v2 a1.atom.amount).bind fun v3 =>
  some v3
 else
  (zk4 v1 (a1.kids.length:Int)).bind fun v4 =>
  (zb4 (zV5 a90 a1) (v4,0)).bind (fun z=>zan8 z))
def zQ5:Nat→((List Int)→Expr→Option ((List Int)))
 | 0=>fun _ _=>none
 | n+1=>zY5 (zQ5 n)
def zab0 (a0:List Int) (a1:Expr):Option ((List Int)):=zQ5 (_root_.SizeOf.sizeOf a1+1) a0 a1
theorem zbj9 (a90:((List Int)→Expr→Option ((List Int)))) (hrc:∀ (a0:List Int) (a1:Expr) (r:(List Int)),a90 a0 a1=some r→PFn C 40 [.sl (a0.map (eI .u8)),.agg (Expr.enc a1)] (.sl (r.map (eI .u8)))) (a0:List Int) (a1:Expr) (r:(List Int)) (h:zY5 a90 a0 a1=some r):PFn C 40 [.sl (a0.map (eI .u8)),.agg (Expr.enc a1)] (.sl (r.map (eI .u8))):=by
 refine za7 zfq5 rfl fun E hG hN hK=>?_
 unfold zeD4
 unfold zY5 at h
 refine za0 (za1 hG ?_)
 refine za0 (za1 hG ?_)
 obtain ⟨v1,hv1,h⟩:=za2 h
 refine za8 (fun hg=>zq0 _ _ _ hv1) ?_
 refine za0 (za0 (za1 hG ?_))
 refine za3 rfl hG h (fun _ h=>?_) (fun _ h=>?_)
 · refine za0 (zl3 ze5 hG ?_)
   obtain ⟨v2,hv2,h⟩:=za2 h
   refine zd9 (fun hg=>zax5 _ _ _ hv2) ?_
   obtain ⟨v3,hv3,h⟩:=za2 h
   refine zd9 (fun hg=>zad2 _ _ _ hv3) ?_
   refine za6 ?_
   exact zb0 h
 refine za4 ?_
 refine za0 (za1 hG ?_)
 obtain ⟨v4,hv4,h⟩:=za2 h
 refine za8 (fun hg=>zq0 _ _ _ hv4) ?_
 refine za0 (za0 (za1 hG ?_))
 refine zb2 (zeZ0) (fun v=>zan8 v=some r) ?_ ?_
 · intro j1 h
   unfold zan8 at h
   refine g_st ?_
   refine za0 (za1 hG ?_)
   refine za6 ?_
   exact zb0 h
 refine zc8 (zeZ1 a1) hK [(0,0)] h (fun x_l1 h g1 y_l1 h_l1 hx_l1=>?_)
 unfold zV5 at h_l1
 refine g_st ?_
 refine za0 (za0 (za1 hG ?_))
 refine za3 rfl hG h_l1 (fun _ h_l1=>?_) (fun _ h_l1=>?_)
 · refine za4 ?_
   refine za0 (zb3 ?_)
   obtain ⟨hb1,h_l1⟩:=za5 h_l1
   refine za1 hG ?_
   obtain ⟨v5,hv5,h_l1⟩:=za2 h_l1
   refine za8 (fun hg=>hrc g1.1 (a1.kids.getD g1.2.toNat Expr.zero) _ (hv5)) ?_
   refine za1 hG ?_
   exact zc2 hK [(0,0)] h_l1
 refine zb5 ?_
 cases h_l1
 cases hx_l1 _ rfl
 exact zb8 hK [] g1.1 (by exact h)
theorem zaG6:∀ (n:Nat) (a0:List Int) (a1:Expr) (r:(List Int)),zQ5 n a0 a1=some r→PFn C 40 [.sl (a0.map (eI .u8)),.agg (Expr.enc a1)] (.sl (r.map (eI .u8)))
 | 0,_,_,_,h=>nomatch h
 | n+1,a0,a1,r,h=>zbj9 (zQ5 n) (zaG6 n) a0 a1 r h
theorem zbq5 (a0:List Int) (a1:Expr) (r:(List Int)) (h:zab0 a0 a1=some r):PFn C 40 [.sl (a0.map (eI .u8)),.agg (Expr.enc a1)] (.sl (r.map (eI .u8))):=zaG6 _ a0 a1 r h
attribute [local irreducible] zab0
def zW5  (j2:(List Int)):Option ((List Int)×Int) :=
 some (j2,0)
@[go_sem] def zeZ2  (j2:(List Int)):St:=⟨[(4,.sl (j2.map (eI .u8)))],[],0⟩
def zP6 (a0:WaitState) (g1:(List Int)×Int):Option (((List Int)×Int)⊕(((List Int)))) :=
 (if (decide (g1.2 < (a0.needs.length:Int)))=true then
  gd (0≤g1.2∧g1.2 < (a0.needs.length:Int)) <|
  (zs1 g1.1 ((a0.needs.getD g1.2.toNat Need.zero).proc)).bind fun v4 =>
  gd (0≤g1.2∧g1.2 < (a0.needs.length:Int)) <|
  (zk4 v4 ((a0.needs.getD g1.2.toNat Need.zero).gen)).bind fun v5 =>
  gd (0≤g1.2∧g1.2 < (a0.needs.length:Int)) <|
  (zab0 v5 ((a0.needs.getD g1.2.toNat Need.zero).expr)).bind fun v6 =>
  some (.inl (v6,(IntKind.i64.wrap (g1.2+1))))
 else
  some (.inr g1.1))
@[go_sem] def zeZ3 (a0:WaitState) (g1:(List Int)×Int):St:=⟨[(1,.ptr 0 0 0),(4,.sl (g1.1.map (eI .u8))),(12,.int .i64 g1.2)],[(0,⟨false,2,(WaitState.enc WaitState.zero),[WaitState.enc a0]⟩)],1⟩
def zW6 (a0:WaitState) (j1:(List Int)):Option ((List Int)×Int) :=
 (zk4 j1 (a0.needs.length:Int)).bind fun v3 =>
 (zb4 (zP6 a0) (v3,0)).bind (fun z=>zW5 z)
@[go_sem] def zeZ4 (a0:WaitState) (j1:(List Int)):St:=⟨[(1,.ptr 0 0 0),(4,.sl (j1.map (eI .u8)))],[(0,⟨false,2,(WaitState.enc WaitState.zero),[WaitState.enc a0]⟩)],1⟩
def zW7 (g2:(List Int)×Int) (j5:(List Int)):Option (((List Int)×Int)⊕(((List Int)))) :=
 some (.inl (j5,(IntKind.i64.wrap (g2.2+1))))
@[go_sem] def zeZ5 (a0:WaitState) (g2:(List Int)×Int) (j5:(List Int)):St:=⟨[(1,.ptr 0 0 0),(4,.sl (j5.map (eI .u8))),(5,.int .i64 g2.2)],[(0,⟨false,2,(WaitState.enc WaitState.zero),[WaitState.enc a0]⟩)],1⟩
def zP7 (a0:WaitState) (g2:(List Int)×Int) (g3:(List Int)×Int):Option (((List Int)×Int)⊕(((List Int)))) :=
 (if (decide (g3.2 < (((a0.queues.getD g2.2.toNat Queue.zero).waits).length:Int)))=true then
  gd (0≤g3.2∧g3.2 < (((a0.queues.getD g2.2.toNat Queue.zero).waits).length:Int)) <|
  (zs1 g3.1 ((((a0.queues.getD g2.2.toNat Queue.zero).waits).getD g3.2.toNat Wait.zero).proc)).bind fun v15 =>
  (zu2 v15 ((((a0.queues.getD g2.2.toNat Queue.zero).waits).getD g3.2.toNat Wait.zero).amount)).bind fun v16 =>
  (zk4 v16 ((((a0.queues.getD g2.2.toNat Queue.zero).waits).getD g3.2.toNat Wait.zero).priority)).bind fun v17 =>
  (zk4 v17 ((((a0.queues.getD g2.2.toNat Queue.zero).waits).getD g3.2.toNat Wait.zero).passed)).bind fun v18 =>
  some (.inl (v18,(IntKind.i64.wrap (g3.2+1))))
 else
  some (.inr g3.1))
@[go_sem] def zeZ6 (a0:WaitState) (g2:(List Int)×Int) (g3:(List Int)×Int):St:=⟨[(1,.ptr 0 0 0),(4,.sl (g3.1.map (eI .u8))),(5,.int .i64 g2.2),(6,.ptr 1 0 0),(10,.int .i64 g3.2)],[(0,⟨false,2,(WaitState.enc WaitState.zero),[WaitState.enc a0]⟩),(1,⟨false,8,(Queue.enc Queue.zero),[Queue.enc (a0.queues.getD g2.2.toNat Queue.zero)]⟩)],2⟩
def zW8 (a0:WaitState) (g2:(List Int)×Int) (j4:(List Int)):Option (((List Int)×Int)⊕(((List Int)))) :=
 (zk4 j4 (((a0.queues.getD g2.2.toNat Queue.zero).waits).length:Int)).bind fun v14 =>
 (zb4 (zP7 a0 g2) (v14,0)).bind (fun z=>zW7 g2 z)
@[go_sem] def zeZ7 (a0:WaitState) (g2:(List Int)×Int) (j4:(List Int)):St:=⟨[(1,.ptr 0 0 0),(4,.sl (j4.map (eI .u8))),(5,.int .i64 g2.2),(6,.ptr 1 0 0)],[(0,⟨false,2,(WaitState.enc WaitState.zero),[WaitState.enc a0]⟩),(1,⟨false,8,(Queue.enc Queue.zero),[Queue.enc (a0.queues.getD g2.2.toNat Queue.zero)]⟩)],2⟩
def zP8 (a0:WaitState) (g2:(List Int)×Int) (g4:(List Int)×Int):Option (((List Int)×Int)⊕(((List Int)))) :=
 (if (decide (g4.2 < (((a0.queues.getD g2.2.toNat Queue.zero).converts).length:Int)))=true then
  gd (0≤g4.2∧g4.2 < (((a0.queues.getD g2.2.toNat Queue.zero).converts).length:Int)) <|
  (zs1 g4.1 ((((a0.queues.getD g2.2.toNat Queue.zero).converts).getD g4.2.toNat Wait.zero).proc)).bind fun v19 =>
  gd (0≤g4.2∧g4.2 < (((a0.queues.getD g2.2.toNat Queue.zero).converts).length:Int)) <|
  (zu2 v19 ((((a0.queues.getD g2.2.toNat Queue.zero).converts).getD g4.2.toNat Wait.zero).amount)).bind fun v20 =>
  some (.inl (v20,(IntKind.i64.wrap (g4.2+1))))
 else
  some (.inr g4.1))
@[go_sem] def zeZ8 (a0:WaitState) (g2:(List Int)×Int) (g4:(List Int)×Int):St:=⟨[(1,.ptr 0 0 0),(4,.sl (g4.1.map (eI .u8))),(5,.int .i64 g2.2),(6,.ptr 1 0 0),(9,.int .i64 g4.2)],[(0,⟨false,2,(WaitState.enc WaitState.zero),[WaitState.enc a0]⟩),(1,⟨false,8,(Queue.enc Queue.zero),[Queue.enc (a0.queues.getD g2.2.toNat Queue.zero)]⟩)],2⟩
def zW9 (a0:WaitState) (g2:(List Int)×Int) (j3:(List Int)):Option (((List Int)×Int)⊕(((List Int)))) :=
 (zk4 j3 (((a0.queues.getD g2.2.toNat Queue.zero).converts).length:Int)).bind fun v13 =>
 (zb4 (zP8 a0 g2) (v13,0)).bind (fun z=>zW8 a0 g2 z)
@[go_sem] def zeZ9 (a0:WaitState) (g2:(List Int)×Int) (j3:(List Int)):St:=⟨[(1,.ptr 0 0 0),(4,.sl (j3.map (eI .u8))),(5,.int .i64 g2.2),(6,.ptr 1 0 0)],[(0,⟨false,2,(WaitState.enc WaitState.zero),[WaitState.enc a0]⟩),(1,⟨false,8,(Queue.enc Queue.zero),[Queue.enc (a0.queues.getD g2.2.toNat Queue.zero)]⟩)],2⟩
def zP9 (a0:WaitState) (g2:(List Int)×Int) (g5:(List Int)×Int):Option (((List Int)×Int)⊕(((List Int)))) :=
 (if (decide (g5.2 < (((a0.queues.getD g2.2.toNat Queue.zero).holds).length:Int)))=true then
  gd (0≤g5.2∧g5.2 < (((a0.queues.getD g2.2.toNat Queue.zero).holds).length:Int)) <|
  (zs1 g5.1 ((((a0.queues.getD g2.2.toNat Queue.zero).holds).getD g5.2.toNat Hold.zero).proc)).bind fun v21 =>
  gd (0≤g5.2∧g5.2 < (((a0.queues.getD g2.2.toNat Queue.zero).holds).length:Int)) <|
  (zu2 v21 ((((a0.queues.getD g2.2.toNat Queue.zero).holds).getD g5.2.toNat Hold.zero).amount)).bind fun v22 =>
  some (.inl (v22,(IntKind.i64.wrap (g5.2+1))))
 else
  some (.inr g5.1))
@[go_sem] def zfa0 (a0:WaitState) (g2:(List Int)×Int) (g5:(List Int)×Int):St:=⟨[(1,.ptr 0 0 0),(4,.sl (g5.1.map (eI .u8))),(5,.int .i64 g2.2),(6,.ptr 1 0 0),(8,.int .i64 g5.2)],[(0,⟨false,2,(WaitState.enc WaitState.zero),[WaitState.enc a0]⟩),(1,⟨false,8,(Queue.enc Queue.zero),[Queue.enc (a0.queues.getD g2.2.toNat Queue.zero)]⟩)],2⟩
def zQ0 (a0:WaitState) (g2:(List Int)×Int):Option (((List Int)×Int)⊕(((List Int)))) :=
 (if (decide (g2.2 < (a0.queues.length:Int)))=true then
  gd (0≤g2.2∧g2.2 < (a0.queues.length:Int)) <|
  (zz5 g2.1 (((a0.queues.getD g2.2.toNat Queue.zero).resource).name)).bind fun v7 =>
  (zk4 v7 (((a0.queues.getD g2.2.toNat Queue.zero).resource).kind)).bind fun v8 =>
  (zk4 v8 (((a0.queues.getD g2.2.toNat Queue.zero).resource).units)).bind fun v9 =>
  (zk4 v9 (((a0.queues.getD g2.2.toNat Queue.zero).resource).home)).bind fun v10 =>
  (zk4 v10 ((a0.queues.getD g2.2.toNat Queue.zero).gen)).bind fun v11 =>
  (zk4 v11 (((a0.queues.getD g2.2.toNat Queue.zero).holds).length:Int)).bind fun v12 =>
  (zb4 (zP9 a0 g2) (v12,0)).bind (fun z=>zW9 a0 g2 z)
 else
  some (.inr g2.1))
@[go_sem] def zfa1 (a0:WaitState) (g2:(List Int)×Int):St:=⟨[(1,.ptr 0 0 0),(4,.sl (g2.1.map (eI .u8))),(5,.int .i64 g2.2)],[(0,⟨false,2,(WaitState.enc WaitState.zero),[WaitState.enc a0]⟩)],1⟩
def zI1 (a0:WaitState):Option ((List Int)×Int) :=
 (zy4 a0).bind fun v1 =>
 (if (!v1)=true then
  some ([],2)
 else
  (zk4 [] (a0.queues.length:Int)).bind fun v2 =>
  (zb4 (zQ0 a0) (v2,0)).bind (fun z=>zW6 a0 z))
theorem zbb8 (a0:WaitState) (r:(List Int)×Int) (h:zI1 a0=some r):PFn C 11 [.agg (WaitState.enc a0)] (.tup [.sl (r.1.map (eI .u8)),.int .i64 r.2]):=by
 refine za7 zfq6 rfl fun E hG hN hK=>?_
 unfold zeE5
 unfold zI1 at h
 refine za0 (za1 hG ?_)
 refine za0 (za0 (za1 hG ?_))
 obtain ⟨v1,hv1,h⟩:=za2 h
 refine za8 (fun hg=>zaG3 _ _ hv1) ?_
 refine za3 rfl hG h (fun _ h=>?_) (fun _ h=>?_)
 · refine za0 (za1 hG ?_)
   refine za6 ?_
   exact zb0 h
 refine za4 ?_
 refine za0 (za1 hG ?_)
 obtain ⟨v2,hv2,h⟩:=za2 h
 refine za8 (fun hg=>PFn.unfull (zq0 [] (a0.queues.length:Int) _ (hv2))) ?_
 refine za0 (za0 (za1 hG ?_))
 refine zb2 (zeZ4 a0) (fun v=>zW6 a0 v=some r) ?_ ?_
 · intro j1 h
   unfold zW6 at h
   refine g_st ?_
   refine za0 (za1 hG ?_)
   obtain ⟨v3,hv3,h⟩:=za2 h
   refine za8 (fun hg=>zq0 _ _ _ hv3) ?_
   refine za0 (za0 (za1 hG ?_))
   refine zb2 (zeZ2) (fun v=>zW5 v=some r) ?_ ?_
   · intro j2 h
     unfold zW5 at h
     refine g_st ?_
     refine za0 (za1 hG ?_)
     refine za6 ?_
     exact zb0 h
   refine zc8 (zeZ3 a0) hK [(0,0)] h (fun x_l1 h g1 y_l1 h_l1 hx_l1=>?_)
   unfold zP6 at h_l1
   refine g_st ?_
   refine za0 (za0 (za1 hG ?_))
   refine za3 rfl hG h_l1 (fun _ h_l1=>?_) (fun _ h_l1=>?_)
   · refine za4 ?_
     refine za0 (zb3 ?_)
     obtain ⟨hb3,h_l1⟩:=za5 h_l1
     refine zl3 ze5 hG ?_
     obtain ⟨v4,hv4,h_l1⟩:=za2 h_l1
     obtain ⟨hb2,h_l1⟩:=za5 h_l1
     refine zd9 (fun hg=>zaa9 _ _ _ hv4) ?_
     obtain ⟨v5,hv5,h_l1⟩:=za2 h_l1
     obtain ⟨hb1,h_l1⟩:=za5 h_l1
     refine zd9 (fun hg=>zq0 _ _ _ hv5) ?_
     obtain ⟨v6,hv6,h_l1⟩:=za2 h_l1
     refine zd9 (fun hg=>zbq5 _ _ _ hv6) ?_
     refine za1 hG ?_
     exact zc2 hK [(0,0)] h_l1
   refine zb5 ?_
   cases h_l1
   cases hx_l1 _ rfl
   exact zb8 hK [] g1.1 (by exact h)
 refine zc8 (zfa1 a0) hK [(0,0)] h (fun x_l2 h g2 y_l2 h_l2 hx_l2=>?_)
 unfold zQ0 at h_l2
 refine g_st ?_
 refine za0 (za0 (za1 hG ?_))
 refine za3 rfl hG h_l2 (fun _ h_l2=>?_) (fun _ h_l2=>?_)
 · refine za4 ?_
   refine za0 (zb3 (za0 ?_))
   obtain ⟨hb9,h_l2⟩:=za5 h_l2
   refine za1 hG ?_
   refine za0 (za1 hG ?_)
   refine za0 (zl3 ze5 hG ?_)
   obtain ⟨v7,hv7,h_l2⟩:=za2 h_l2
   refine zd9 (fun hg=>zax5 _ _ _ hv7) ?_
   obtain ⟨v8,hv8,h_l2⟩:=za2 h_l2
   refine zd9 (fun hg=>zq0 _ _ _ hv8) ?_
   obtain ⟨v9,hv9,h_l2⟩:=za2 h_l2
   refine zd9 (fun hg=>zq0 _ _ _ hv9) ?_
   obtain ⟨v10,hv10,h_l2⟩:=za2 h_l2
   refine zd9 (fun hg=>zq0 _ _ _ hv10) ?_
   obtain ⟨v11,hv11,h_l2⟩:=za2 h_l2
   refine zd9 (fun hg=>zq0 _ _ _ hv11) ?_
   refine za0 (za1 hG ?_)
   obtain ⟨v12,hv12,h_l2⟩:=za2 h_l2
   refine za8 (fun hg=>zq0 _ _ _ hv12) ?_
   refine za0 (za0 (za1 hG ?_))
   refine zb2 (zeZ9 a0 g2) (fun v=>zW9 a0 g2 v=some y_l2) ?_ ?_
   · intro j3 h_l2
     unfold zW9 at h_l2
     refine g_st ?_
     refine za0 (za1 hG ?_)
     obtain ⟨v13,hv13,h_l2⟩:=za2 h_l2
     refine za8 (fun hg=>zq0 _ _ _ hv13) ?_
     refine za0 (za0 (za1 hG ?_))
     refine zb2 (zeZ7 a0 g2) (fun v=>zW8 a0 g2 v=some y_l2) ?_ ?_
     · intro j4 h_l2
       unfold zW8 at h_l2
       refine g_st ?_
       refine za0 (za1 hG ?_)
       obtain ⟨v14,hv14,h_l2⟩:=za2 h_l2
       refine za8 (fun hg=>zq0 _ _ _ hv14) ?_
       refine za0 (za1 hG ?_)
       refine zb2 (zeZ5 a0 g2) (fun v=>zW7 g2 v=some y_l2) ?_ ?_
       · intro j5 h_l2
         unfold zW7 at h_l2
         refine g_st ?_
         refine za1 hG ?_
         exact zc2 hK [(0,0)] h_l2
       refine zc8 (zeZ6 a0 g2) hK [(0,0),(1,1)] h_l2 (fun x_l3 h_l2 g3 y_l3 h_l3 hx_l3=>?_)
       unfold zP7 at h_l3
       refine g_st ?_
       refine za0 (za0 (za1 hG ?_))
       refine za3 rfl hG h_l3 (fun _ h_l3=>?_) (fun _ h_l3=>?_)
       · refine za4 ?_
         refine za0 (zb3 (za0 ?_))
         obtain ⟨hb4,h_l3⟩:=za5 h_l3
         refine za1 hG ?_
         refine zl3 ze5 hG ?_
         obtain ⟨v15,hv15,h_l3⟩:=za2 h_l3
         refine zd9 (fun hg=>zaa9 _ _ _ hv15) ?_
         obtain ⟨v16,hv16,h_l3⟩:=za2 h_l3
         refine zd9 (fun hg=>zad2 _ _ _ hv16) ?_
         obtain ⟨v17,hv17,h_l3⟩:=za2 h_l3
         refine zd9 (fun hg=>zq0 _ _ _ hv17) ?_
         obtain ⟨v18,hv18,h_l3⟩:=za2 h_l3
         refine zd9 (fun hg=>zq0 _ _ _ hv18) ?_
         refine za1 hG ?_
         exact zc2 hK [(0,0),(1,1)] h_l3
       refine zb5 ?_
       obtain rfl:=Option.some.inj h_l3
       have hx:=hx_l3 _ rfl
       subst hx
       try dsimp only at h_l2
       exact zb8 hK [(0,0)] g3.1 (by exact h_l2)
     refine zc8 (zeZ8 a0 g2) hK [(0,0),(1,1)] h_l2 (fun x_l4 h_l2 g4 y_l4 h_l4 hx_l4=>?_)
     unfold zP8 at h_l4
     refine g_st ?_
     refine za0 (za0 (za1 hG ?_))
     refine za3 rfl hG h_l4 (fun _ h_l4=>?_) (fun _ h_l4=>?_)
     · refine za4 ?_
       refine za0 (zb3 ?_)
       obtain ⟨hb6,h_l4⟩:=za5 h_l4
       refine zl3 ze5 hG ?_
       obtain ⟨v19,hv19,h_l4⟩:=za2 h_l4
       obtain ⟨hb5,h_l4⟩:=za5 h_l4
       refine zd9 (fun hg=>zaa9 _ _ _ hv19) ?_
       obtain ⟨v20,hv20,h_l4⟩:=za2 h_l4
       refine zd9 (fun hg=>zad2 _ _ _ hv20) ?_
       refine za1 hG ?_
       exact zc2 hK [(0,0),(1,1)] h_l4
     refine zb5 ?_
     obtain rfl:=Option.some.inj h_l4
     have hx:=hx_l4 _ rfl
     subst hx
     try dsimp only at h_l2
     exact zb8 hK [(0,0),(1,1)] g4.1 (by exact h_l2)
   refine zc8 (zfa0 a0 g2) hK [(0,0),(1,1)] h_l2 (fun x_l5 h_l2 g5 y_l5 h_l5 hx_l5=>?_)
   unfold zP9 at h_l5
   refine g_st ?_
   refine za0 (za0 (za1 hG ?_))
   refine za3 rfl hG h_l5 (fun _ h_l5=>?_) (fun _ h_l5=>?_)
   · refine za4 ?_
     refine za0 (zb3 ?_)
     obtain ⟨hb8,h_l5⟩:=za5 h_l5
     refine zl3 ze5 hG ?_
     obtain ⟨v21,hv21,h_l5⟩:=za2 h_l5
     obtain ⟨hb7,h_l5⟩:=za5 h_l5
     refine zd9 (fun hg=>zaa9 _ _ _ hv21) ?_
     obtain ⟨v22,hv22,h_l5⟩:=za2 h_l5
     refine zd9 (fun hg=>zad2 _ _ _ hv22) ?_
     refine za1 hG ?_
     exact zc2 hK [(0,0),(1,1)] h_l5
   refine zb5 ?_
   obtain rfl:=Option.some.inj h_l5
   have hx:=hx_l5 _ rfl
   subst hx
   try dsimp only at h_l2
   exact zb8 hK [(0,0),(1,1)] g5.1 (by exact h_l2)
 refine zb5 ?_
 cases h_l2
 cases hx_l2 _ rfl
 exact zb8 hK [(0,0)] g2.1 (by exact h)
attribute [local irreducible] zI1
def zV6 (a0:List Int) (a1:List Int):Bool :=
 ((zam5 a0).toList == (zam5 a1).toList)
theorem zbk0 (a0:List Int) (a1:List Int):PFn C 12 [.sl (a0.map (eI .u8)),.sl (a1.map (eI .u8))] (.bool (zV6 a0 a1)):=by
 generalize h:zV6 a0 a1=r
 refine za7 zfq7 rfl fun E hG hN hK=>?_
 unfold zeE8
 unfold zV6 at h
 refine za0 (za1 hG ?_)
 refine za0 (za1 hG ?_)
 refine za6 ?_
 exact zm0 h
def zaq7  (j1:(List Proc)):Option ((List Proc)) :=
 some j1
@[go_sem] def zfw3  (j1:(List Proc)):St:=⟨[(3,.own 0 0 j1.length)],[(0,⟨false,3,(Proc.enc Proc.zero),j1.map Proc.enc⟩)],1⟩
def zU3 (a0:List Hold) (g1:Int×(List Proc)):Option ((Int×(List Proc))⊕(((List Proc)))) :=
 (if (decide (g1.1 < (a0.length:Int)))=true then
  gd (0≤g1.1∧g1.1 < (a0.length:Int)) <|
  gd (g1.2.length+1≤4294967296) <|
  some (.inl ((IntKind.i64.wrap (g1.1+1)),(g1.2++[(a0.getD g1.1.toNat Hold.zero).proc])))
 else
  some (.inr g1.2))
@[go_sem] def zfw4 (a0:List Hold) (g1:Int×(List Proc)):St:=⟨[(3,.own 0 0 g1.2.length),(6,.sl (a0.map Hold.enc)),(7,.int .i64 (a0.length:Int)),(8,.int .i64 g1.1)],[(0,⟨false,3,(Proc.enc Proc.zero),g1.2.map Proc.enc⟩)],1⟩
def zO0 (a0:List Hold):Option ((List Proc)) :=
 (zb4 (zU3 a0) (0,[])).bind (fun z=>zaq7 z)
attribute [local irreducible] zO0
def zax6  (j1:(List Proc)):Option ((List Proc)) :=
 (zm6 j1).bind fun v1 =>
 some v1
@[go_sem] def zfw5  (j1:(List Proc)):St:=⟨[(3,.own 0 0 j1.length)],[(0,⟨false,3,(Proc.enc Proc.zero),j1.map Proc.enc⟩)],1⟩
def zab1 (a0:List Queue) (g1:Int×(List Proc)):Option ((Int×(List Proc))⊕(((List Proc)))) :=
 (if (decide (g1.1 < (a0.length:Int)))=true then
  gd (0≤g1.1∧g1.1 < (a0.length:Int)) <|
  (zy3 (a0.getD g1.1.toNat Queue.zero)).bind fun v2 =>
  gd (g1.2.length+v2.length≤4294967296) <|
  some (.inl ((IntKind.i64.wrap (g1.1+1)),(g1.2++v2)))
 else
  some (.inr g1.2))
@[go_sem] def zfw6 (a0:List Queue) (g1:Int×(List Proc)):St:=⟨[(0,.sl (a0.map Queue.enc)),(3,.own 0 0 g1.2.length),(4,.int .i64 g1.1)],[(0,⟨false,3,(Proc.enc Proc.zero),g1.2.map Proc.enc⟩)],1⟩
def zac5 (a0:List Queue):Option ((List Proc)) :=
 (zb4 (zab1 a0) (0,[])).bind (fun z=>zax6 z)
attribute [local irreducible] zac5
end
end Ab
end Go.Proofs.YtebopmkhhppfaaaGreatDoor
