import Derived.Test.YtebopmkhhppfaaaGreatDoorFn4
namespace Go.Proofs.YtebopmkhhppfaaaGreatDoor
namespace Ab
noncomputable section
set_option linter.unusedSimpArgs false
set_option linter.unusedVariables false
set_option maxRecDepth 100000
set_option maxHeartbeats 1000000
attribute [local irreducible] zk5 zc7 zb9 zo4 zd6 zb1 zr2 zd0 zc1 zd5 ze2 zh9 zg1 zn9 zf0 zk6 zj1 zl6 zq7 zt4 zt9 zs2 zo0 zh3 zw0 zl7 zu4 zz2 zo1 zu5 zr5 zq1 zu6 zn0 zq2 zk0 zo2 zo8 zi0 zm5 ze7 zd4 zs4 zu7 zc6 zc9 zj7 zu8 zu9 zj8 zi1 zf1 zw1 zi3 ze8 zC4 zi5 zc5 zC5 zg3 zf2 zi9 zl0 zk7 zj3 zr7 zm9 zs7 zz3 zy0 zD3 zy1 zK5 zK9 zG8 zv0 zB4 zB5 zO8 zB7 zr8 zy2 zG9 zq9 zv1 zB8 zr9 zm6 zy3 zs9 zz4 zB9
def zaa5 (a0:WaitState) (j1:Unit):Option (Bool) :=
 (zB9 a0).bind fun v2 =>
 some (decide ((v2.length:Int)≤8))
@[go_sem] def zeS0 (a0:WaitState) (j1:Unit):St:=⟨[(1,.ptr 0 0 0)],[(0,⟨false,2,(WaitState.enc WaitState.zero),[WaitState.enc a0]⟩)],1⟩
def zA4 (a0:WaitState) (g1:Int):Option ((Int)⊕((Unit)⊕(Bool))) :=
 (if (decide (g1 < (a0.needs.length:Int)))=true then
  gd (0≤g1∧g1 < (a0.needs.length:Int)) <|
  ((if (ze3 ((a0.needs.getD g1.toNat Need.zero).proc))=true then zq9 ((a0.needs.getD g1.toNat Need.zero).expr) else some (false))).bind fun v3 =>
  gd (((!((((!(ze3 ((a0.needs.getD g1.toNat Need.zero).proc)))||(!v3))||(decide ((a0.needs.getD g1.toNat Need.zero).gen < 0)))||(decide (1073741824 < (a0.needs.getD g1.toNat Need.zero).gen))))&&(decide (0 < g1)))=true→0≤(IntKind.i64.wrap (g1 - 1))∧(IntKind.i64.wrap (g1 - 1)) < (a0.needs.length:Int)) <|
  (if (((((!(ze3 ((a0.needs.getD g1.toNat Need.zero).proc)))||(!v3))||(decide ((a0.needs.getD g1.toNat Need.zero).gen < 0)))||(decide (1073741824 < (a0.needs.getD g1.toNat Need.zero).gen)))||((decide (0 < g1))&&(decide (0≤(zm1 ((a0.needs.getD ((IntKind.i64.wrap (g1 - 1)).toNat) Need.zero).proc) ((a0.needs.getD g1.toNat Need.zero).proc))))))=true then
   some (.inr (.inr false))
  else
   some (.inl (IntKind.i64.wrap (g1+1))))
 else
  some (.inr (.inl ())))
@[go_sem] def zeS1 (a0:WaitState) (g1:Int):St:=⟨[(1,.ptr 0 0 0),(3,.int .i64 g1)],[(0,⟨false,2,(WaitState.enc WaitState.zero),[WaitState.enc a0]⟩)],1⟩
def zy4 (a0:WaitState):Option (Bool) :=
 (zB5 a0.queues).bind fun v1 =>
 (if ((!v1)||(decide (8 < (a0.needs.length:Int))))=true then
  some false
 else
  (zb4 (zA4 a0) 0).bind (fun|.inl z=>zaa5 a0 z|.inr z=>some z))
theorem zaG3 (a0:WaitState) (r:Bool) (h:zy4 a0=some r):PFn C 24 [.agg (WaitState.enc a0)] (.bool r):=by
 refine za7 zfl2 rfl fun E hG hN hK=>?_
 unfold zdQ0
 unfold zy4 at h
 refine za0 (za1 hG ?_)
 refine za0 (za0 (za1 hG ?_))
 obtain ⟨v1,hv1,h⟩:=za2 h
 refine za8 (fun hg=>zbj1 _ _ hv1) ?_
 refine za3 rfl hG h (fun _ h=>?_) (fun _ h=>?_)
 · refine za0 (za1 hG ?_)
   refine za6 ?_
   exact zb0 h
 refine za4 ?_
 refine za0 (za0 (za1 hG ?_))
 refine zb2 (zeS0 a0) (fun v=>zaa5 a0 v=some r) ?_ ?_
 · intro j1 h
   unfold zaa5 at h
   refine g_st ?_
   refine za0 (za1 hG ?_)
   obtain ⟨v2,hv2,h⟩:=za2 h
   refine za8 (fun hg=>zbj7 _ _ hv2) ?_
   refine za6 ?_
   exact zb0 h
 refine zc8 (zeS1 a0) hK [(0,0)] h (fun x_l1 h g1 y_l1 h_l1 hx_l1=>?_)
 unfold zA4 at h_l1
 refine g_st ?_
 refine za0 (za0 (za1 hG ?_))
 refine za3 rfl hG h_l1 (fun _ h_l1=>?_) (fun _ h_l1=>?_)
 · refine za4 ?_
   refine za0 (zb3 (za0 ?_))
   obtain ⟨hb2,h_l1⟩:=za5 h_l1
   refine za1 hG ?_
   refine za0 (zl3 ze5 hG ?_)
   refine zd9 (fun hg=>zF9 ((a0.needs.getD g1.toNat Need.zero).proc)) ?_
   obtain ⟨v3,hv3,h_l1⟩:=za2 h_l1
   obtain ⟨hb1,h_l1⟩:=za5 h_l1
   refine zd9 (fun hg=>zaN4 ((a0.needs.getD g1.toNat Need.zero).expr) _ (zv4 hg hv3)) ?_
   refine zd9 (fun hg=>zH7 ((a0.needs.getD ((IntKind.i64.wrap (g1 - 1)).toNat) Need.zero).proc) ((a0.needs.getD g1.toNat Need.zero).proc)) ?_
   refine za3 rfl hG h_l1 (fun _ h_l1=>?_) (fun _ h_l1=>?_)
   · refine za0 (za1 hG ?_)
     refine za6 ?_
     cases h_l1
     cases hx_l1 _ rfl
     exact zb0 h
   refine za4 ?_
   refine za1 hG ?_
   exact zc2 hK [(0,0)] h_l1
 refine zb5 ?_
 cases h_l1
 cases hx_l1 _ rfl
 exact zb8 hK [(0,0)] () (by exact h)
attribute [local irreducible] zy4
def zW3 (a0:List Int) (j2:ref16Reader×WaitState):Option (WaitState×Int) :=
 (if (!decide (j2.1.e=0))=true then
  some ({ WaitState.zero with  },j2.1.e)
 else
  (if (decide (j2.1.at_ < (a0.length:Int)))=true then
   some ({ WaitState.zero with  },6)
  else
   (zy4 j2.2).bind fun v3 =>
   (if (!v3)=true then
    some ({ WaitState.zero with  },2)
   else
    some (j2.2,0))))
@[go_sem] def zeS2 (a0:List Int) (j2:ref16Reader×WaitState):St:=⟨[(0,.sl (a0.map (eI .u8))),(2,.ptr 0 0 0),(4,.ptr 1 0 0),(5,.ptr 2 0 0)],[(0,⟨false,2,(WaitState.enc WaitState.zero),[WaitState.enc WaitState.zero]⟩),(1,⟨false,3,(ref16Reader.enc ref16Reader.zero),[ref16Reader.enc j2.1]⟩),(2,⟨false,2,(WaitState.enc WaitState.zero),[[.own 3 0 j2.2.queues.length,.own 4 0 j2.2.needs.length]]⟩),(3,⟨false,8,(Queue.enc Queue.zero),j2.2.queues.map Queue.enc⟩),(4,⟨false,9,(Need.enc Need.zero),j2.2.needs.map Need.enc⟩)],5⟩
def zC7 (v2:Int×ref16Reader) (g1:Int×ref16Reader×WaitState):Option ((Int×ref16Reader×WaitState)⊕((ref16Reader×WaitState))) :=
 (if ((decide (g1.1 < v2.1))&&(decide (g1.2.1.e=0)))=true then
  (zg3 g1.2.1).bind fun v4 =>
  (zc5 v4.2).bind fun v5 =>
  (zl0 1 v5.2).bind fun v6 =>
  gd (g1.2.2.needs.length+1≤4294967296) <|
  some (.inl ((IntKind.i64.wrap (g1.1+1)),v6.2,(⟨g1.2.2.queues,(g1.2.2.needs++[{ { { Need.zero with proc:=v4.1 } with gen:=v5.1 } with expr:=v6.1 }])⟩:WaitState)))
 else
  some (.inr (g1.2.1,g1.2.2)))
@[go_sem] def zeS3 (a0:List Int) (v2:Int×ref16Reader) (g1:Int×ref16Reader×WaitState):St:=⟨[(0,.sl (a0.map (eI .u8))),(2,.ptr 0 0 0),(4,.ptr 1 0 0),(5,.ptr 2 0 0),(6,.int .i64 v2.1),(8,.int .i64 g1.1)],[(0,⟨false,2,(WaitState.enc WaitState.zero),[WaitState.enc WaitState.zero]⟩),(1,⟨false,3,(ref16Reader.enc ref16Reader.zero),[ref16Reader.enc g1.2.1]⟩),(2,⟨false,2,(WaitState.enc WaitState.zero),[[.own 3 0 g1.2.2.queues.length,.own 4 0 g1.2.2.needs.length]]⟩),(3,⟨false,8,(Queue.enc Queue.zero),g1.2.2.queues.map Queue.enc⟩),(4,⟨false,9,(Need.enc Need.zero),g1.2.2.needs.map Need.enc⟩)],5⟩
def zW4 (a0:List Int) (j1:ref16Reader×WaitState):Option (WaitState×Int) :=
 (ze8 8 j1.1).bind fun v2 =>
 (zb4 (zC7 v2) (0,v2.2,j1.2)).bind (fun z=>zW3 a0 z)
@[go_sem] def zeS4 (a0:List Int) (j1:ref16Reader×WaitState):St:=⟨[(0,.sl (a0.map (eI .u8))),(2,.ptr 0 0 0),(4,.ptr 1 0 0),(5,.ptr 2 0 0)],[(0,⟨false,2,(WaitState.enc WaitState.zero),[WaitState.enc WaitState.zero]⟩),(1,⟨false,3,(ref16Reader.enc ref16Reader.zero),[ref16Reader.enc j1.1]⟩),(2,⟨false,2,(WaitState.enc WaitState.zero),[[.own 3 0 j1.2.queues.length,.own 4 0 j1.2.needs.length]]⟩),(3,⟨false,8,(Queue.enc Queue.zero),j1.2.queues.map Queue.enc⟩),(4,⟨false,9,(Need.enc Need.zero),j1.2.needs.map Need.enc⟩)],5⟩
def zC8 (v1:Int×ref16Reader) (g2:Int×ref16Reader×WaitState):Option ((Int×ref16Reader×WaitState)⊕((ref16Reader×WaitState))) :=
 (if ((decide (g2.1 < v1.1))&&(decide (g2.2.1.e=0)))=true then
  (zi9 g2.2.1).bind fun v7 =>
  gd (g2.2.2.queues.length+1≤4294967296) <|
  some (.inl ((IntKind.i64.wrap (g2.1+1)),v7.2,(⟨(g2.2.2.queues++[v7.1]),g2.2.2.needs⟩:WaitState)))
 else
  some (.inr (g2.2.1,g2.2.2)))
@[go_sem] def zeS5 (a0:List Int) (v1:Int×ref16Reader) (g2:Int×ref16Reader×WaitState):St:=⟨[(0,.sl (a0.map (eI .u8))),(2,.ptr 0 0 0),(4,.ptr 1 0 0),(5,.ptr 2 0 0),(6,.int .i64 v1.1),(7,.int .i64 g2.1)],[(0,⟨false,2,(WaitState.enc WaitState.zero),[WaitState.enc WaitState.zero]⟩),(1,⟨false,3,(ref16Reader.enc ref16Reader.zero),[ref16Reader.enc g2.2.1]⟩),(2,⟨false,2,(WaitState.enc WaitState.zero),[[.own 3 0 g2.2.2.queues.length,.own 4 0 g2.2.2.needs.length]]⟩),(3,⟨false,8,(Queue.enc Queue.zero),g2.2.2.queues.map Queue.enc⟩),(4,⟨false,9,(Need.enc Need.zero),g2.2.2.needs.map Need.enc⟩)],5⟩
def zu0 (a0:List Int):Option (WaitState×Int) :=
 (ze8 8 ({ ref16Reader.zero with b:=a0 })).bind fun v1 =>
 (zb4 (zC8 v1) (0,v1.2,(⟨[],[]⟩:WaitState))).bind (fun z=>zW4 a0 z)
theorem zbb6 (a0:List Int) (r:WaitState×Int) (h:zu0 a0=some r):PFn C 6 [.sl (a0.map (eI .u8))] (.tup [.agg (WaitState.enc r.1),.int .i64 r.2]):=by
 refine za7 zfl3 rfl fun E hG hN hK=>?_
 unfold zdR1
 unfold zu0 at h
 refine za0 (za1 hG ?_)
 refine za0 (za1 hG ?_)
 refine za0 (za1 hG ?_)
 refine g_gh (.ownb 2 0 8 (Queue.enc Queue.zero)) ?_
 refine g_gh (.ownb 2 1 9 (Need.enc Need.zero)) ?_
 refine za0 (za1 hG ?_)
 obtain ⟨v1,hv1,h⟩:=za2 h
 refine zd3 [(0,1)] [] [0] (zs5 _ _ _ hv1) rfl rfl ?_
 refine za0 (za0 (za1 hG ?_))
 refine zb2 (zeS4 a0) (fun v=>zW4 a0 v=some r) ?_ ?_
 · intro j1 h
   unfold zW4 at h
   refine g_st ?_
   refine za0 (za1 hG ?_)
   obtain ⟨v2,hv2,h⟩:=za2 h
   refine zd3 [(0,1)] [] [0] (zs5 _ _ _ hv2) rfl rfl ?_
   refine za0 (za0 (za1 hG ?_))
   refine zb2 (zeS2 a0) (fun v=>zW3 a0 v=some r) ?_ ?_
   · intro j2 h
     unfold zW3 at h
     refine g_st ?_
     refine za0 (za0 (za1 hG ?_))
     refine za3 rfl hG h (fun _ h=>?_) (fun _ h=>?_)
     · refine za0 (zab5 ze5 hG ?_)
       refine za6 ?_
       exact zb0 h
     refine za4 ?_
     refine za0 (za0 (za1 hG ?_))
     refine za3 rfl hG h (fun _ h=>?_) (fun _ h=>?_)
     · refine za0 (za1 hG ?_)
       refine za6 ?_
       exact zb0 h
     refine za4 ?_
     refine za0 (za0 (za1 hG ?_))
     obtain ⟨v3,hv3,h⟩:=za2 h
     refine za8 (fun hg=>zaG3 _ _ hv3) ?_
     refine za3 rfl hG h (fun _ h=>?_) (fun _ h=>?_)
     · refine za0 (za1 hG ?_)
       refine za6 ?_
       exact zb0 h
     refine za4 ?_
     refine za0 (za1 hG ?_)
     refine za6 ?_
     exact zb0 h
   refine zc8 (zeS3 a0 v2) hK [(0,0),(1,1),(2,2),(3,3),(4,4)] h (fun x_l1 h g1 y_l1 h_l1 hx_l1=>?_)
   unfold zC7 at h_l1
   refine g_st ?_
   refine za0 (za0 (za1 hG ?_))
   refine za3 rfl hG h_l1 (fun _ h_l1=>?_) (fun _ h_l1=>?_)
   · refine za4 ?_
     refine za0 (zb3 (za0 (za1 hG ?_)))
     obtain ⟨v4,hv4,h_l1⟩:=za2 h_l1
     refine zd3 [(0,1)] [] [0] (zI6 _ _ hv4) rfl rfl ?_
     refine za0 (za1 hG ?_)
     obtain ⟨v5,hv5,h_l1⟩:=za2 h_l1
     refine zd3 [(0,1)] [] [0] (zi8 _ _ hv5) rfl rfl ?_
     refine za0 (za1 hG ?_)
     obtain ⟨v6,hv6,h_l1⟩:=za2 h_l1
     refine zd3 [(0,1)] [] [0] (zaw8 _ _ _ hv6) rfl rfl ?_
     obtain ⟨hb1,h_l1⟩:=za5 h_l1
     refine za1 hG ?_
     refine za1 hG ?_
     exact zc2 hK [(0,0),(1,1),(2,2),(3,3),(4,6)] h_l1
   refine zb5 ?_
   cases h_l1
   cases hx_l1 _ rfl
   exact zb8 hK [(0,0),(1,1),(2,2),(3,3),(4,4)] (g1.2.1,g1.2.2) (by exact h)
 refine zc8 (zeS5 a0 v1) hK [(0,0),(1,1),(2,2),(3,3),(4,4)] h (fun x_l2 h g2 y_l2 h_l2 hx_l2=>?_)
 unfold zC8 at h_l2
 refine g_st ?_
 refine za0 (za0 (za1 hG ?_))
 refine za3 rfl hG h_l2 (fun _ h_l2=>?_) (fun _ h_l2=>?_)
 · refine za4 ?_
   refine za0 (zb3 (zab5 ze5 hG ?_))
   obtain ⟨v7,hv7,h_l2⟩:=za2 h_l2
   obtain ⟨hb2,h_l2⟩:=za5 h_l2
   refine zac1 [(0,1)] [] [0] (zav1 _ _ hv7) rfl rfl ?_
   refine za1 hG ?_
   exact zc2 hK [(0,0),(1,1),(2,2),(3,5),(4,4)] h_l2
 refine zb5 ?_
 cases h_l2
 cases hx_l2 _ rfl
 exact zb8 hK [(0,0),(1,1),(2,2),(3,3),(4,4)] (g2.2.1,g2.2.2) (by exact h)
attribute [local irreducible] zu0
def zT6 (a0:Int) (a1:Int):Option (Int) :=
 (if (decide (a1 < 1))=true then
  some 0
 else
  gd (a1≠0) <|
  (if (decide ((a0.tmod a1) < 0))=true then
   some (IntKind.i64.wrap ((a0.tmod a1)+a1))
  else
   some (a0.tmod a1)))
theorem zbD8 (a0:Int) (a1:Int) (r:Int) (h:zT6 a0 a1=some r):PFn C 58 [.int .i64 a0,.int .i64 a1] (.int .i64 r):=by
 refine za7 zfl4 rfl fun E hG hN hK=>?_
 unfold zdR9
 unfold zT6 at h
 refine za0 (za1 hG ?_)
 refine za0 (za0 (za1 hG ?_))
 refine za3 rfl hG h (fun _ h=>?_) (fun _ h=>?_)
 · refine za0 (za1 hG ?_)
   refine za6 ?_
   exact zb0 h
 refine za4 ?_
 refine za0 ?_
 obtain ⟨hb1,h⟩:=za5 h
 refine za1 hG ?_
 refine za0 (za0 (za1 hG ?_))
 refine za3 rfl hG h (fun _ h=>?_) (fun _ h=>?_)
 · refine za1 hG ?_
   refine za0 (za1 hG ?_)
   refine za6 ?_
   exact zb0 h
 refine za4 ?_
 refine za0 (za1 hG ?_)
 refine za6 ?_
 exact zb0 h
attribute [local irreducible] zT6
def zL0 (a0:Int):Option (Proc) :=
 (zT6 a0 8).bind fun v1 =>
 some (⟨(v1.tmod 4),1,(IntKind.i64.wrap (1+(IntKind.i64.wrap (v1.tdiv 4))))⟩:Proc)
theorem zbz0 (a0:Int) (r:Proc) (h:zL0 a0=some r):PFn C 25 [.int .i64 a0] (.agg (Proc.enc r)):=by
 refine za7 zfl5 rfl fun E hG hN hK=>?_
 unfold zdS3
 unfold zL0 at h
 refine za0 (za1 hG ?_)
 refine za0 (za1 hG ?_)
 obtain ⟨v1,hv1,h⟩:=za2 h
 refine za8 (fun hg=>zbD8 _ _ _ hv1) ?_
 refine za0 (za1 hG ?_)
 refine za6 ?_
 exact zb0 h
attribute [local irreducible] zL0
def zT7  (j1:Int×(List Int)):Option ((List Int)) :=
 gd (j1.2.length+1≤4294967296) <|
 some (j1.2++[(IntKind.u8.wrap j1.1)])
@[go_sem] def zeS6  (j1:Int×(List Int)):St:=⟨[(1,.int .u64 j1.1),(5,.own 0 0 j1.2.length)],[(0,⟨false,1,[A.int .u8 0],j1.2.map (eI .u8)⟩)],1⟩
def zG2  (g1:Int×(List Int)):Option ((Int×(List Int))⊕((Int×(List Int)))) :=
 (if (decide (127 < g1.1))=true then
  gd (g1.2.length+1≤4294967296) <|
  some (.inl ((g1.1.fdiv (2 ^ 7)),(g1.2++[(zx2 .or .u8 (IntKind.u8.wrap (zx2 .and .u64 g1.1 127)) 128)])))
 else
  some (.inr (g1.1,g1.2)))
@[go_sem] def zeS7  (g1:Int×(List Int)):St:=⟨[(1,.int .u64 g1.1),(5,.own 0 0 g1.2.length)],[(0,⟨false,1,[A.int .u8 0],g1.2.map (eI .u8)⟩)],1⟩
def zl8 (a0:List Int) (a1:Int):Option ((List Int)) :=
 gd (0≤0∧0≤(a0.length:Int)∧(a0.length:Int)≤(a0.length:Int)∧(a0.length:Int)=(a0.length:Int)) <|
 (if (decide (127 < a1))=true then
  gd ((a0.take ((a0.length:Int).toNat)).length+1≤4294967296) <|
  (zb4 (zG2) ((a1.fdiv (2 ^ 7)),((a0.take ((a0.length:Int).toNat))++[(zx2 .or .u8 (IntKind.u8.wrap (zx2 .and .u64 a1 127)) 128)]))).bind (fun z=>zT7 z)
 else
  gd ((a0.take ((a0.length:Int).toNat)).length+1≤4294967296) <|
  some ((a0.take ((a0.length:Int).toNat))++[(IntKind.u8.wrap a1)]))
theorem zax0 (a0:List Int) (a1:Int) (r:(List Int)) (h:zl8 a0 a1=some r):PFn C 72 [.sl (a0.map (eI .u8)),.int .u64 a1] (.sl (r.map (eI .u8))):=by
 refine za7 zfl6 rfl fun E hG hN hK=>?_
 unfold zdT0
 unfold zl8 at h
 refine za0 (za1 hG ?_)
 refine za0 ?_
 obtain ⟨hb5,h⟩:=za5 h
 refine za1 hG ?_
 refine za0 ?_
 refine zbu1 (zeS6) (fun v=>zT7 v=some r) ?_ ?_
 · intro j1 h
   unfold zT7 at h
   refine g_st ?_
   refine za0 ?_
   obtain ⟨hb1,h⟩:=za5 h
   refine za1 hG ?_
   refine za6 ?_
   exact zb0 h
 refine zbX0 (body:=zG2) (kk:=fun z=>zT7 z) (r:=r) (zeS7) hK ?_ (fun x_l1 h g1 y_l1 h_l1 hx_l1=>?_)
 · refine za0 (za0 (za1 hG ?_))
   refine za3 rfl hG h (fun _ h=>?_) (fun _ h=>?_)
   · refine za4 ?_
     refine zb3 (za0 ?_)
     obtain ⟨hb3,h⟩:=za5 h
     refine za1 hG ?_
     refine za1 hG ?_
     exact zbN3 hK [(0,0)] h
   refine zb5 ?_
   refine .inr ?_
   refine za0 ?_
   obtain ⟨hb4,h⟩:=za5 h
   refine za1 hG ?_
   refine za6 ?_
   exact zb0 h
 unfold zG2 at h_l1
 refine g_st ?_
 refine za0 (za0 (za1 hG ?_))
 refine za3 rfl hG h_l1 (fun _ h_l1=>?_) (fun _ h_l1=>?_)
 · refine za4 ?_
   refine zb3 (za0 ?_)
   obtain ⟨hb2,h_l1⟩:=za5 h_l1
   refine za1 hG ?_
   refine za1 hG ?_
   exact zc2 hK [(0,1)] h_l1
 refine zb5 ?_
 cases h_l1
 cases hx_l1 _ rfl
 refine .inl ?_
 exact zb8 hK [(0,0)] (g1.1,g1.2) (by exact h)
attribute [local irreducible] zl8
def zT8  (j1:(List Int)):Option ((List Int)) :=
 some j1
@[go_sem] def zeS8  (j1:(List Int)):St:=⟨[(0,.sl (j1.map (eI .u8)))],[],0⟩
def zw3 (a1:List Int) (g1:(List Int)×Int):Option (((List Int)×Int)⊕(((List Int)))) :=
 (if (decide (g1.2 < (a1.length:Int)))=true then
  gd (0≤g1.2∧g1.2 < (a1.length:Int)) <|
  (zl8 g1.1 (IntKind.u64.wrap (a1.getD g1.2.toNat 0))).bind fun v1 =>
  some (.inl (v1,(IntKind.i64.wrap (g1.2+1))))
 else
  some (.inr g1.1))
@[go_sem] def zeS9 (a1:List Int) (g1:(List Int)×Int):St:=⟨[(0,.sl (g1.1.map (eI .u8))),(7,.sl (a1.map (eI .i64))),(8,.int .i64 (a1.length:Int)),(9,.int .i64 g1.2)],[],0⟩
def zd7 (a0:List Int) (a1:List Int):Option ((List Int)) :=
 (zb4 (zw3 a1) (a0,0)).bind (fun z=>zT8 z)
theorem zj2 (a0:List Int) (a1:List Int) (r:(List Int)) (h:zd7 a0 a1=some r):PFn C 32 [.sl (a0.map (eI .u8)),.sl (a1.map (eI .i64))] (.sl (r.map (eI .u8))):=by
 refine za7 zfl7 rfl fun E hG hN hK=>?_
 unfold zdT8
 unfold zd7 at h
 refine za0 (za1 hG ?_)
 refine za0 (za0 (za1 hG ?_))
 refine zb2 (zeS8) (fun v=>zT8 v=some r) ?_ ?_
 · intro j1 h
   unfold zT8 at h
   refine g_st ?_
   refine za0 (za1 hG ?_)
   refine za6 ?_
   exact zb0 h
 refine zc8 (zeS9 a1) hK [] h (fun x_l1 h g1 y_l1 h_l1 hx_l1=>?_)
 unfold zw3 at h_l1
 refine g_st ?_
 refine za0 (za1 hG ?_)
 refine za0 ?_
 refine za3 rfl hG h_l1 (fun _ h_l1=>?_) (fun _ h_l1=>?_)
 · refine za4 ?_
   refine za0 (zb3 (za0 ?_))
   obtain ⟨hb1,h_l1⟩:=za5 h_l1
   refine za1 hG ?_
   refine za1 hG ?_
   obtain ⟨v1,hv1,h_l1⟩:=za2 h_l1
   refine za8 (fun hg=>zax0 _ _ _ hv1) ?_
   refine za1 hG ?_
   exact zc2 hK [] h_l1
 refine zb5 ?_
 cases h_l1
 cases hx_l1 _ rfl
 exact zb8 hK [] g1.1 (by exact h)
attribute [local irreducible] zd7
def zP2  (j1:Int×(List Int)):Option ((List Int)) :=
 gd (j1.2.length+1≤4294967296) <|
 some (j1.2++[(IntKind.u8.wrap j1.1)])
@[go_sem] def zeT0  (j1:Int×(List Int)):St:=⟨[(1,.int .u64 j1.1),(5,.own 0 0 j1.2.length)],[(0,⟨false,1,[A.int .u8 0],j1.2.map (eI .u8)⟩)],1⟩
def zY1  (g1:Int×(List Int)):Option ((Int×(List Int))⊕((Int×(List Int)))) :=
 (if (decide (127 < g1.1))=true then
  gd (g1.2.length+1≤4294967296) <|
  some (.inl ((g1.1.fdiv (2 ^ 7)),(g1.2++[(zx2 .or .u8 (IntKind.u8.wrap (zx2 .and .u64 g1.1 127)) 128)])))
 else
  some (.inr (g1.1,g1.2)))
@[go_sem] def zeT1  (g1:Int×(List Int)):St:=⟨[(1,.int .u64 g1.1),(5,.own 0 0 g1.2.length)],[(0,⟨false,1,[A.int .u8 0],g1.2.map (eI .u8)⟩)],1⟩
def zx5 (a0:List Int) (a1:Int):Option ((List Int)) :=
 gd (0≤0∧0≤(a0.length:Int)∧(a0.length:Int)≤(a0.length:Int)∧(a0.length:Int)=(a0.length:Int)) <|
 (if (decide (127 < a1))=true then
  gd ((a0.take ((a0.length:Int).toNat)).length+1≤4294967296) <|
  (zb4 (zY1) ((a1.fdiv (2 ^ 7)),((a0.take ((a0.length:Int).toNat))++[(zx2 .or .u8 (IntKind.u8.wrap (zx2 .and .u64 a1 127)) 128)]))).bind (fun z=>zP2 z)
 else
  gd ((a0.take ((a0.length:Int).toNat)).length+1≤4294967296) <|
  some ((a0.take ((a0.length:Int).toNat))++[(IntKind.u8.wrap a1)]))
theorem zaK7 (a0:List Int) (a1:Int) (r:(List Int)) (h:zx5 a0 a1=some r):MFn C 72 [.sl (a0.map (eI .u8)),.int .u64 a1] [] 0 (.own 0 0 r.length) [(0,⟨false,1,[A.int .u8 0],r.map (eI .u8)⟩)] 1:=by
 refine zh0 (rl:=[.own 0 0 r.length]) zfl8 rfl rfl rfl rfl fun E hG hN hK=>?_
 unfold zdU5
 unfold zx5 at h
 refine za0 (za1 hG ?_)
 refine za0 ?_
 obtain ⟨hb5,h⟩:=za5 h
 refine za1 hG ?_
 refine za0 ?_
 refine zbu1 (zeT0) (fun v=>zP2 v=some r) ?_ ?_
 · intro j1 h
   unfold zP2 at h
   refine g_st ?_
   refine za0 ?_
   obtain ⟨hb1,h⟩:=za5 h
   refine za1 hG ?_
   refine za6 ?_
   exact ze0 [(0,1)] h
 refine zbX0 (body:=zY1) (kk:=fun z=>zP2 z) (r:=r) (zeT1) hK ?_ (fun x_l1 h g1 y_l1 h_l1 hx_l1=>?_)
 · refine za0 (za0 (za1 hG ?_))
   refine za3 rfl hG h (fun _ h=>?_) (fun _ h=>?_)
   · refine za4 ?_
     refine zb3 (za0 ?_)
     obtain ⟨hb3,h⟩:=za5 h
     refine za1 hG ?_
     refine za1 hG ?_
     exact zbN3 hK [(0,1)] h
   refine zb5 ?_
   refine .inr ?_
   refine za0 ?_
   obtain ⟨hb4,h⟩:=za5 h
   refine za1 hG ?_
   refine za6 ?_
   exact ze0 [(0,1)] h
 unfold zY1 at h_l1
 refine g_st ?_
 refine za0 (za0 (za1 hG ?_))
 refine za3 rfl hG h_l1 (fun _ h_l1=>?_) (fun _ h_l1=>?_)
 · refine za4 ?_
   refine zb3 (za0 ?_)
   obtain ⟨hb2,h_l1⟩:=za5 h_l1
   refine za1 hG ?_
   refine za1 hG ?_
   exact zc2 hK [(0,1)] h_l1
 refine zb5 ?_
 cases h_l1
 cases hx_l1 _ rfl
 refine .inl ?_
 exact zb8 hK [(0,0)] (g1.1,g1.2) (by exact h)
attribute [local irreducible] zx5
def zv2 (a0:List Int) (a1:ByteArray):Option ((List Int)) :=
 (zx5 a0 (IntKind.u64.wrap (a1.size:Int))).bind fun v1 =>
 gd (v1.length+a1.toList.length≤4294967296) <|
 some (v1++(a1.toList.map fun b=>(b.toNat:Int)))
theorem zax1 (a0:List Int) (a1:ByteArray) (r:(List Int)) (h:zv2 a0 a1=some r):PFn C 73 [.sl (a0.map (eI .u8)),.str a1] (.sl (r.map (eI .u8))):=by
 refine za7 zfl9 rfl fun E hG hN hK=>?_
 unfold zdU8
 unfold zv2 at h
 refine za0 (za1 hG ?_)
 refine za0 (za1 hG ?_)
 obtain ⟨v1,hv1,h⟩:=za2 h
 obtain ⟨hb1,h⟩:=za5 h
 refine zd3 [] [(0,0)] [0] (zaK7 _ _ _ hv1) rfl rfl ?_
 refine za6 ?_
 exact zb0 h
attribute [local irreducible] zv2
def zae2  (j1:(List Int)):Option ((List Int)) :=
 some j1
@[go_sem] def zeT2  (j1:(List Int)):St:=⟨[(5,.sl (j1.map (eI .u8)))],[],0⟩
def zp0 (a1:Proc) (g1:(List Int)×Int):Option (((List Int)×Int)⊕(((List Int)))) :=
 (if (decide (g1.2 < 3))=true then
  gd (0≤g1.2∧g1.2 < 3) <|
  (zl8 g1.1 (IntKind.u64.wrap (Arr.get (⟨[a1.site,a1.inc,a1.num],rfl⟩:Arr Int 3) g1.2.toNat 0))).bind fun v1 =>
  some (.inl (v1,(IntKind.i64.wrap (g1.2+1))))
 else
  some (.inr g1.1))
@[go_sem] def zeT3 (a1:Proc) (g1:(List Int)×Int):St:=⟨[(5,.sl (g1.1.map (eI .u8))),(20,.agg (Arr.enc (eI .i64) (⟨[a1.site,a1.inc,a1.num],rfl⟩:Arr Int 3))),(21,.int .i64 g1.2)],[],0⟩
def zq3 (a0:List Int) (a1:Proc):Option ((List Int)) :=
 gd (a0.length≤4294967296) <|
 (if (!(za9 a1))=true then
  some a0
 else
  (zb4 (zp0 a1) (a0,0)).bind (fun z=>zae2 z))
theorem zaa6 (a0:List Int) (a1:Proc) (r:(List Int)) (h:zq3 a0 a1=some r):PFn C 35 [.sl (a0.map (eI .u8)),.agg (Proc.enc a1)] (.sl (r.map (eI .u8))):=by
 refine za7 zfm0 rfl fun E hG hN hK=>?_
 unfold zdV9
 unfold zq3 at h
 refine za0 (za1 hG ?_)
 refine za0 ?_
 obtain ⟨hb2,h⟩:=za5 h
 refine za1 hG ?_
 refine g_gh (.fz [1]) ?_
 refine za0 (za0 (za1 hG ?_))
 refine za8 (fun hg=>zF6 a1) ?_
 refine za3 rfl hG h (fun _ h=>?_) (fun _ h=>?_)
 · refine za0 (za1 hG ?_)
   refine za6 ?_
   exact zb0 h
 refine za4 ?_
 refine za0 (za0 (za1 hG ?_))
 refine zb2 (zeT2) (fun v=>zae2 v=some r) ?_ ?_
 · intro j1 h
   unfold zae2 at h
   refine g_st ?_
   refine za0 (za1 hG ?_)
   refine za6 ?_
   exact zb0 h
 refine zc8 (zeT3 a1) hK [] h (fun x_l1 h g1 y_l1 h_l1 hx_l1=>?_)
 unfold zp0 at h_l1
 refine g_st ?_
 refine za0 (za1 hG ?_)
 refine za0 ?_
 refine za3 rfl hG h_l1 (fun _ h_l1=>?_) (fun _ h_l1=>?_)
 · refine za4 ?_
   refine za0 (zb3 (za0 ?_))
   obtain ⟨hb1,h_l1⟩:=za5 h_l1
   refine za1 hG ?_
   refine za1 hG ?_
   obtain ⟨v1,hv1,h_l1⟩:=za2 h_l1
   refine za8 (fun hg=>zax0 _ _ _ hv1) ?_
   refine za1 hG ?_
   exact zc2 hK [] h_l1
 refine zb5 ?_
 cases h_l1
 cases hx_l1 _ rfl
 exact zb8 hK [] g1.1 (by exact h)
attribute [local irreducible] zq3
def zI9  (j3:(List Int)):Option ((List Int)) :=
 some j3
@[go_sem] def zeT4  (j3:(List Int)):St:=⟨[(0,.sl (j3.map (eI .u8)))],[],0⟩
def zA5 (a1:Queue) (g1:(List Int)×Int):Option (((List Int)×Int)⊕(((List Int)))) :=
 (if (decide (g1.2 < (a1.waits.length:Int)))=true then
  gd (0≤g1.2∧g1.2 < (a1.waits.length:Int)) <|
  (zq3 g1.1 ((a1.waits.getD g1.2.toNat Wait.zero).proc)).bind fun v5 =>
  (zd7 v5 [((a1.waits.getD g1.2.toNat Wait.zero).amount).mode,((a1.waits.getD g1.2.toNat Wait.zero).amount).units,(a1.waits.getD g1.2.toNat Wait.zero).priority,(a1.waits.getD g1.2.toNat Wait.zero).passed]).bind fun v6 =>
  some (.inl (v6,(IntKind.i64.wrap (g1.2+1))))
 else
  some (.inr g1.1))
@[go_sem] def zeT5 (a1:Queue) (g1:(List Int)×Int):St:=⟨[(0,.sl (g1.1.map (eI .u8))),(84,.sl (a1.waits.map Wait.enc)),(85,.int .i64 (a1.waits.length:Int)),(86,.int .i64 g1.2)],[],0⟩
def zJ0 (a1:Queue) (j2:(List Int)):Option ((List Int)) :=
 (zd7 j2 [(a1.waits.length:Int)]).bind fun v4 =>
 (zb4 (zA5 a1) (v4,0)).bind (fun z=>zI9 z)
@[go_sem] def zeT6 (a1:Queue) (j2:(List Int)):St:=⟨[(0,.sl (j2.map (eI .u8))),(3,.ptr 0 0 0)],[(0,⟨false,8,(Queue.enc Queue.zero),[Queue.enc a1]⟩)],1⟩
def zA6 (a1:Queue) (g2:(List Int)×Int):Option (((List Int)×Int)⊕(((List Int)))) :=
 (if (decide (g2.2 < (a1.converts.length:Int)))=true then
  gd (0≤g2.2∧g2.2 < (a1.converts.length:Int)) <|
  (zq3 g2.1 ((a1.converts.getD g2.2.toNat Wait.zero).proc)).bind fun v7 =>
  (zd7 v7 [((a1.converts.getD g2.2.toNat Wait.zero).amount).mode,((a1.converts.getD g2.2.toNat Wait.zero).amount).units]).bind fun v8 =>
  some (.inl (v8,(IntKind.i64.wrap (g2.2+1))))
 else
  some (.inr g2.1))
@[go_sem] def zeT7 (a1:Queue) (g2:(List Int)×Int):St:=⟨[(0,.sl (g2.1.map (eI .u8))),(3,.ptr 0 0 0),(58,.sl (a1.converts.map Wait.enc)),(59,.int .i64 (a1.converts.length:Int)),(60,.int .i64 g2.2)],[(0,⟨false,8,(Queue.enc Queue.zero),[Queue.enc a1]⟩)],1⟩
def zJ1 (a1:Queue) (j1:(List Int)):Option ((List Int)) :=
 (zd7 j1 [(a1.converts.length:Int)]).bind fun v3 =>
 (zb4 (zA6 a1) (v3,0)).bind (fun z=>zJ0 a1 z)
@[go_sem] def zeT8 (a1:Queue) (j1:(List Int)):St:=⟨[(0,.sl (j1.map (eI .u8))),(3,.ptr 0 0 0)],[(0,⟨false,8,(Queue.enc Queue.zero),[Queue.enc a1]⟩)],1⟩
def zA7 (a1:Queue) (g3:(List Int)×Int):Option (((List Int)×Int)⊕(((List Int)))) :=
 (if (decide (g3.2 < (a1.holds.length:Int)))=true then
  gd (0≤g3.2∧g3.2 < (a1.holds.length:Int)) <|
  (zq3 g3.1 ((a1.holds.getD g3.2.toNat Hold.zero).proc)).bind fun v9 =>
  (zd7 v9 [((a1.holds.getD g3.2.toNat Hold.zero).amount).mode,((a1.holds.getD g3.2.toNat Hold.zero).amount).units]).bind fun v10 =>
  some (.inl (v10,(IntKind.i64.wrap (g3.2+1))))
 else
  some (.inr g3.1))
@[go_sem] def zeT9 (a1:Queue) (g3:(List Int)×Int):St:=⟨[(0,.sl (g3.1.map (eI .u8))),(3,.ptr 0 0 0),(32,.sl (a1.holds.map Hold.enc)),(33,.int .i64 (a1.holds.length:Int)),(34,.int .i64 g3.2)],[(0,⟨false,8,(Queue.enc Queue.zero),[Queue.enc a1]⟩)],1⟩
def zo6 (a0:List Int) (a1:Queue):Option ((List Int)) :=
 (zv2 a0 a1.resource.name).bind fun v1 =>
 (zd7 v1 [a1.resource.kind,a1.resource.units,a1.resource.home,a1.gen,(a1.holds.length:Int)]).bind fun v2 =>
 (zb4 (zA7 a1) (v2,0)).bind (fun z=>zJ1 a1 z)
theorem zaD4 (a0:List Int) (a1:Queue) (r:(List Int)) (h:zo6 a0 a1=some r):PFn C 33 [.sl (a0.map (eI .u8)),.agg (Queue.enc a1)] (.sl (r.map (eI .u8))):=by
 refine za7 zfm1 rfl fun E hG hN hK=>?_
 unfold zdX0
 unfold zo6 at h
 refine za0 (za1 hG ?_)
 refine za0 (za1 hG ?_)
 refine za0 (zl3 ze5 hG ?_)
 obtain ⟨v1,hv1,h⟩:=za2 h
 refine zd9 (fun hg=>zax1 _ _ _ hv1) ?_
 obtain ⟨v2,hv2,h⟩:=za2 h
 refine zd9 (fun hg=>PFn.unfull (zj2 v1 [a1.resource.kind,a1.resource.units,a1.resource.home,a1.gen,(a1.holds.length:Int)] _ (hv2))) ?_
 refine za0 (za0 (za1 hG ?_))
 refine zb2 (zeT8 a1) (fun v=>zJ1 a1 v=some r) ?_ ?_
 · intro j1 h
   unfold zJ1 at h
   refine g_st ?_
   refine za0 (za1 hG ?_)
   obtain ⟨v3,hv3,h⟩:=za2 h
   refine za8 (fun hg=>PFn.unfull (zj2 j1 [(a1.converts.length:Int)] _ (hv3))) ?_
   refine za0 (za0 (za1 hG ?_))
   refine zb2 (zeT6 a1) (fun v=>zJ0 a1 v=some r) ?_ ?_
   · intro j2 h
     unfold zJ0 at h
     refine g_st ?_
     refine za0 (za1 hG ?_)
     obtain ⟨v4,hv4,h⟩:=za2 h
     refine za8 (fun hg=>PFn.unfull (zj2 j2 [(a1.waits.length:Int)] _ (hv4))) ?_
     refine za0 (za0 (za1 hG ?_))
     refine zb2 (zeT4) (fun v=>zI9 v=some r) ?_ ?_
     · intro j3 h
       unfold zI9 at h
       refine g_st ?_
       refine za0 (za1 hG ?_)
       refine za6 ?_
       exact zb0 h
     refine zc8 (zeT5 a1) hK [] h (fun x_l1 h g1 y_l1 h_l1 hx_l1=>?_)
     unfold zA5 at h_l1
     refine g_st ?_
     refine za0 (za1 hG ?_)
     refine za0 ?_
     refine za3 rfl hG h_l1 (fun _ h_l1=>?_) (fun _ h_l1=>?_)
     · refine za4 ?_
       refine za0 (zb3 (za0 ?_))
       obtain ⟨hb1,h_l1⟩:=za5 h_l1
       refine za1 hG ?_
       refine zl3 ze5 hG ?_
       obtain ⟨v5,hv5,h_l1⟩:=za2 h_l1
       refine zd9 (fun hg=>zaa6 _ _ _ hv5) ?_
       obtain ⟨v6,hv6,h_l1⟩:=za2 h_l1
       refine zd9 (fun hg=>PFn.unfull (zj2 v5 [((a1.waits.getD g1.2.toNat Wait.zero).amount).mode,((a1.waits.getD g1.2.toNat Wait.zero).amount).units,(a1.waits.getD g1.2.toNat Wait.zero).priority,(a1.waits.getD g1.2.toNat Wait.zero).passed] _ (hv6))) ?_
       refine za1 hG ?_
       exact zc2 hK [] h_l1
     refine zb5 ?_
     cases h_l1
     cases hx_l1 _ rfl
     exact zb8 hK [] g1.1 (by exact h)
   refine zc8 (zeT7 a1) hK [(0,0)] h (fun x_l2 h g2 y_l2 h_l2 hx_l2=>?_)
   unfold zA6 at h_l2
   refine g_st ?_
   refine za0 (za1 hG ?_)
   refine za0 ?_
   refine za3 rfl hG h_l2 (fun _ h_l2=>?_) (fun _ h_l2=>?_)
   · refine za4 ?_
     refine za0 (zb3 (za0 ?_))
     obtain ⟨hb2,h_l2⟩:=za5 h_l2
     refine za1 hG ?_
     refine zl3 ze5 hG ?_
     obtain ⟨v7,hv7,h_l2⟩:=za2 h_l2
     refine zd9 (fun hg=>zaa6 _ _ _ hv7) ?_
     obtain ⟨v8,hv8,h_l2⟩:=za2 h_l2
     refine zd9 (fun hg=>PFn.unfull (zj2 v7 [((a1.converts.getD g2.2.toNat Wait.zero).amount).mode,((a1.converts.getD g2.2.toNat Wait.zero).amount).units] _ (hv8))) ?_
     refine za1 hG ?_
     exact zc2 hK [(0,0)] h_l2
   refine zb5 ?_
   cases h_l2
   cases hx_l2 _ rfl
   exact zb8 hK [(0,0)] g2.1 (by exact h)
 refine zc8 (zeT9 a1) hK [(0,0)] h (fun x_l3 h g3 y_l3 h_l3 hx_l3=>?_)
 unfold zA7 at h_l3
 refine g_st ?_
 refine za0 (za1 hG ?_)
 refine za0 ?_
 refine za3 rfl hG h_l3 (fun _ h_l3=>?_) (fun _ h_l3=>?_)
 · refine za4 ?_
   refine za0 (zb3 (za0 ?_))
   obtain ⟨hb3,h_l3⟩:=za5 h_l3
   refine za1 hG ?_
   refine zl3 ze5 hG ?_
   obtain ⟨v9,hv9,h_l3⟩:=za2 h_l3
   refine zd9 (fun hg=>zaa6 _ _ _ hv9) ?_
   obtain ⟨v10,hv10,h_l3⟩:=za2 h_l3
   refine zd9 (fun hg=>PFn.unfull (zj2 v9 [((a1.holds.getD g3.2.toNat Hold.zero).amount).mode,((a1.holds.getD g3.2.toNat Hold.zero).amount).units] _ (hv10))) ?_
   refine za1 hG ?_
   exact zc2 hK [(0,0)] h_l3
 refine zb5 ?_
 cases h_l3
 cases hx_l3 _ rfl
 exact zb8 hK [(0,0)] g3.1 (by exact h)
attribute [local irreducible] zo6
def zT9  (j1:(List Int)):Option ((List Int)) :=
 some j1
@[go_sem] def zeU0  (j1:(List Int)):St:=⟨[(0,.sl (j1.map (eI .u8)))],[],0⟩
def zC9 (a90:((List Int)→Expr→Option ((List Int)))) (a1:Expr) (g1:(List Int)×Int):Option (((List Int)×Int)⊕(((List Int)))) :=
 (if (decide (g1.2 < (a1.kids.length:Int)))=true then
  gd (0≤g1.2∧g1.2 < (a1.kids.length:Int)) <|
  (a90 g1.1 (a1.kids.getD g1.2.toNat Expr.zero)).bind fun v5 =>
  some (.inl (v5,(IntKind.i64.wrap (g1.2+1))))
 else
  some (.inr g1.1))
@[go_sem] def zeU1 (a1:Expr) (g1:(List Int)×Int):St:=⟨[(0,.sl (g1.1.map (eI .u8))),(37,.sl (a1.kids.map Expr.enc)),(38,.int .i64 (a1.kids.length:Int)),(39,.int .i64 g1.2)],[],0⟩
def zE8 (a90:((List Int)→Expr→Option ((List Int)))) (a0:List Int) (a1:Expr):Option ((List Int)) :=
 (zd7 a0 [a1.k]).bind fun v1 =>
 (if (decide (a1.k=0))=true then
  (zv2 v1 a1.atom.name).bind fun v2 =>
  (zd7 v2 [a1.atom.amount.mode,a1.atom.amount.units]).bind fun v3 =>
  some v3
 else
  (zd7 v1 [(a1.kids.length:Int)]).bind fun v4 =>
  (zb4 (zC9 a90 a1) (v4,0)).bind (fun z=>zT9 z))
def zu1:Nat→((List Int)→Expr→Option ((List Int)))
 | 0=>fun _ _=>none
 | n+1=>zE8 (zu1 n)
def zx0 (a0:List Int) (a1:Expr):Option ((List Int)):=zu1 (_root_.SizeOf.sizeOf a1+1) a0 a1
theorem zaD5 (a90:((List Int)→Expr→Option ((List Int)))) (hrc:∀ (a0:List Int) (a1:Expr) (r:(List Int)),a90 a0 a1=some r→PFn C 34 [.sl (a0.map (eI .u8)),.agg (Expr.enc a1)] (.sl (r.map (eI .u8)))) (a0:List Int) (a1:Expr) (r:(List Int)) (h:zE8 a90 a0 a1=some r):PFn C 34 [.sl (a0.map (eI .u8)),.agg (Expr.enc a1)] (.sl (r.map (eI .u8))):=by
 refine za7 zfm2 rfl fun E hG hN hK=>?_
 unfold zdY1
 unfold zE8 at h
 refine za0 (za1 hG ?_)
 refine za0 (za1 hG ?_)
 obtain ⟨v1,hv1,h⟩:=za2 h
 refine za8 (fun hg=>PFn.unfull (zj2 a0 [a1.k] _ (hv1))) ?_
 refine za0 (za0 (za1 hG ?_))
 refine za3 rfl hG h (fun _ h=>?_) (fun _ h=>?_)
 · refine za0 (zl3 ze5 hG ?_)
   obtain ⟨v2,hv2,h⟩:=za2 h
   refine zd9 (fun hg=>zax1 _ _ _ hv2) ?_
   obtain ⟨v3,hv3,h⟩:=za2 h
   refine zd9 (fun hg=>PFn.unfull (zj2 v2 [a1.atom.amount.mode,a1.atom.amount.units] _ (hv3))) ?_
   refine za6 ?_
   exact zb0 h
 refine za4 ?_
 refine za0 (za1 hG ?_)
 obtain ⟨v4,hv4,h⟩:=za2 h
 refine za8 (fun hg=>PFn.unfull (zj2 v1 [(a1.kids.length:Int)] _ (hv4))) ?_
 refine za0 (za0 (za1 hG ?_))
 refine zb2 (zeU0) (fun v=>zT9 v=some r) ?_ ?_
 · intro j1 h
   unfold zT9 at h
   refine g_st ?_
   refine za0 (za1 hG ?_)
   refine za6 ?_
   exact zb0 h
 refine zc8 (zeU1 a1) hK [] h (fun x_l1 h g1 y_l1 h_l1 hx_l1=>?_)
 unfold zC9 at h_l1
 refine g_st ?_
 refine za0 (za1 hG ?_)
 refine za0 ?_
 refine za3 rfl hG h_l1 (fun _ h_l1=>?_) (fun _ h_l1=>?_)
 · refine za4 ?_
   refine za0 (zb3 (za0 ?_))
   obtain ⟨hb1,h_l1⟩:=za5 h_l1
   refine za1 hG ?_
   refine za1 hG ?_
   obtain ⟨v5,hv5,h_l1⟩:=za2 h_l1
   refine za8 (fun hg=>hrc g1.1 (a1.kids.getD g1.2.toNat Expr.zero) _ (hv5)) ?_
   refine za1 hG ?_
   exact zc2 hK [] h_l1
 refine zb5 ?_
 cases h_l1
 cases hx_l1 _ rfl
 exact zb8 hK [] g1.1 (by exact h)
theorem zai1:∀ (n:Nat) (a0:List Int) (a1:Expr) (r:(List Int)),zu1 n a0 a1=some r→PFn C 34 [.sl (a0.map (eI .u8)),.agg (Expr.enc a1)] (.sl (r.map (eI .u8)))
 | 0,_,_,_,h=>nomatch h
 | n+1,a0,a1,r,h=>zaD5 (zu1 n) (zai1 n) a0 a1 r h
theorem zaG4 (a0:List Int) (a1:Expr) (r:(List Int)) (h:zx0 a0 a1=some r):PFn C 34 [.sl (a0.map (eI .u8)),.agg (Expr.enc a1)] (.sl (r.map (eI .u8))):=zai1 _ a0 a1 r h
attribute [local irreducible] zx0
def zN2  (j2:(List Int)):Option ((List Int)×Int) :=
 some (j2,0)
@[go_sem] def zeU2  (j2:(List Int)):St:=⟨[(4,.sl (j2.map (eI .u8)))],[],0⟩
def zE9 (a0:WaitState) (g1:(List Int)×Int):Option (((List Int)×Int)⊕(((List Int)))) :=
 (if (decide (g1.2 < (a0.needs.length:Int)))=true then
  gd (0≤g1.2∧g1.2 < (a0.needs.length:Int)) <|
  (zq3 g1.1 ((a0.needs.getD g1.2.toNat Need.zero).proc)).bind fun v4 =>
  (zd7 v4 [(a0.needs.getD g1.2.toNat Need.zero).gen]).bind fun v5 =>
  (zx0 v5 ((a0.needs.getD g1.2.toNat Need.zero).expr)).bind fun v6 =>
  some (.inl (v6,(IntKind.i64.wrap (g1.2+1))))
 else
  some (.inr g1.1))
@[go_sem] def zeU3 (a0:WaitState) (g1:(List Int)×Int):St:=⟨[(4,.sl (g1.1.map (eI .u8))),(35,.sl (a0.needs.map Need.enc)),(36,.int .i64 (a0.needs.length:Int)),(37,.int .i64 g1.2)],[],0⟩
def zN3 (a0:WaitState) (j1:(List Int)):Option ((List Int)×Int) :=
 (zd7 j1 [(a0.needs.length:Int)]).bind fun v3 =>
 (zb4 (zE9 a0) (v3,0)).bind (fun z=>zN2 z)
@[go_sem] def zeU4 (a0:WaitState) (j1:(List Int)):St:=⟨[(1,.ptr 0 0 0),(4,.sl (j1.map (eI .u8)))],[(0,⟨false,2,(WaitState.enc WaitState.zero),[WaitState.enc a0]⟩)],1⟩
def zF0 (a0:WaitState) (g2:(List Int)×Int):Option (((List Int)×Int)⊕(((List Int)))) :=
 (if (decide (g2.2 < (a0.queues.length:Int)))=true then
  gd (0≤g2.2∧g2.2 < (a0.queues.length:Int)) <|
  (zo6 g2.1 (a0.queues.getD g2.2.toNat Queue.zero)).bind fun v7 =>
  some (.inl (v7,(IntKind.i64.wrap (g2.2+1))))
 else
  some (.inr g2.1))
@[go_sem] def zeU5 (a0:WaitState) (g2:(List Int)×Int):St:=⟨[(1,.ptr 0 0 0),(4,.sl (g2.1.map (eI .u8))),(18,.sl (a0.queues.map Queue.enc)),(19,.int .i64 (a0.queues.length:Int)),(20,.int .i64 g2.2)],[(0,⟨false,2,(WaitState.enc WaitState.zero),[WaitState.enc a0]⟩)],1⟩
def zl9 (a0:WaitState):Option ((List Int)×Int) :=
 (zi1 a0).bind fun v1 =>
 (if (!v1)=true then
  some ([],2)
 else
  (zd7 [] [(a0.queues.length:Int)]).bind fun v2 =>
  (zb4 (zF0 a0) (v2,0)).bind (fun z=>zN3 a0 z))
theorem zao0 (a0:WaitState) (r:(List Int)×Int) (h:zl9 a0=some r):PFn C 10 [.agg (WaitState.enc a0)] (.tup [.sl (r.1.map (eI .u8)),.int .i64 r.2]):=by
 refine za7 zfm3 rfl fun E hG hN hK=>?_
 unfold zdZ2
 unfold zl9 at h
 refine za0 (za1 hG ?_)
 refine za0 (za0 (za1 hG ?_))
 obtain ⟨v1,hv1,h⟩:=za2 h
 refine za8 (fun hg=>zT0 _ _ hv1) ?_
 refine za3 rfl hG h (fun _ h=>?_) (fun _ h=>?_)
 · refine za0 (za1 hG ?_)
   refine za6 ?_
   exact zb0 h
 refine za4 ?_
 refine za0 (za1 hG ?_)
 obtain ⟨v2,hv2,h⟩:=za2 h
 refine za8 (fun hg=>PFn.unfull (zj2 [] [(a0.queues.length:Int)] _ (hv2))) ?_
 refine za0 (za0 (za1 hG ?_))
 refine zb2 (zeU4 a0) (fun v=>zN3 a0 v=some r) ?_ ?_
 · intro j1 h
   unfold zN3 at h
   refine g_st ?_
   refine za0 (za1 hG ?_)
   obtain ⟨v3,hv3,h⟩:=za2 h
   refine za8 (fun hg=>PFn.unfull (zj2 j1 [(a0.needs.length:Int)] _ (hv3))) ?_
   refine za0 (za0 (za1 hG ?_))
   refine zb2 (zeU2) (fun v=>zN2 v=some r) ?_ ?_
   · intro j2 h
     unfold zN2 at h
     refine g_st ?_
     refine za0 (za1 hG ?_)
     refine za6 ?_
     exact zb0 h
   refine zc8 (zeU3 a0) hK [] h (fun x_l1 h g1 y_l1 h_l1 hx_l1=>?_)
   unfold zE9 at h_l1
   refine g_st ?_
   refine za0 (za1 hG ?_)
   refine za0 ?_
   refine za3 rfl hG h_l1 (fun _ h_l1=>?_) (fun _ h_l1=>?_)
   · refine za4 ?_
     refine za0 (zb3 (za0 ?_))
     obtain ⟨hb1,h_l1⟩:=za5 h_l1
     refine za1 hG ?_
     refine zl3 ze5 hG ?_
     obtain ⟨v4,hv4,h_l1⟩:=za2 h_l1
     refine zd9 (fun hg=>zaa6 _ _ _ hv4) ?_
     obtain ⟨v5,hv5,h_l1⟩:=za2 h_l1
     refine zd9 (fun hg=>PFn.unfull (zj2 v4 [(a0.needs.getD g1.2.toNat Need.zero).gen] _ (hv5))) ?_
     obtain ⟨v6,hv6,h_l1⟩:=za2 h_l1
     refine zd9 (fun hg=>zaG4 _ _ _ hv6) ?_
     refine za1 hG ?_
     exact zc2 hK [] h_l1
   refine zb5 ?_
   cases h_l1
   cases hx_l1 _ rfl
   exact zb8 hK [] g1.1 (by exact h)
 refine zc8 (zeU5 a0) hK [(0,0)] h (fun x_l2 h g2 y_l2 h_l2 hx_l2=>?_)
 unfold zF0 at h_l2
 refine g_st ?_
 refine za0 (za1 hG ?_)
 refine za0 ?_
 refine za3 rfl hG h_l2 (fun _ h_l2=>?_) (fun _ h_l2=>?_)
 · refine za4 ?_
   refine za0 (zb3 (za0 ?_))
   obtain ⟨hb2,h_l2⟩:=za5 h_l2
   refine za1 hG ?_
   refine za1 hG ?_
   obtain ⟨v7,hv7,h_l2⟩:=za2 h_l2
   refine za8 (fun hg=>zaD4 _ _ _ hv7) ?_
   refine za1 hG ?_
   exact zc2 hK [(0,0)] h_l2
 refine zb5 ?_
 cases h_l2
 cases hx_l2 _ rfl
 exact zb8 hK [(0,0)] g2.1 (by exact h)
attribute [local irreducible] zl9
def zp6 (a0:Need) (a1:Proc):Option (Bool×Proc) :=
 (zf0 a0.proc a1).bind fun v1 =>
 some ((decide (v1=0)),a1)
theorem zax2 (a0:Need) (a1:Proc) (r:Bool×Proc) (h:zp6 a0 a1=some r):MFn C 90 [.agg (Need.enc a0),.ptr 0 0 0] [(0,⟨false,3,(Proc.enc Proc.zero),[Proc.enc a1]⟩)] 1 (.bool r.1) [(0,⟨false,3,(Proc.enc Proc.zero),[Proc.enc r.2]⟩)] 1:=by
 refine zh0 (rl:=[.bool r.1]) zfm4 rfl rfl rfl rfl fun E hG hN hK=>?_
 unfold zdZ5
 unfold zp6 at h
 refine za0 (za1 hG ?_)
 refine za0 (za1 hG ?_)
 obtain ⟨v1,hv1,h⟩:=za2 h
 refine za8 (fun hg=>zH5 _ _ _ hv1) ?_
 refine za6 ?_
 exact ze0 [(0,0)] h
attribute [local irreducible] zp6
def zs0  (j1:Proc):Option (Int×Proc) :=
 some ((-1),j1)
@[go_sem] def zeU6  (j1:Proc):St:=⟨[],[(0,⟨false,3,(Proc.enc Proc.zero),[Proc.enc j1]⟩)],1⟩
def zm7 (a0:List Need) (g1:Int×Proc):Option ((Int×Proc)⊕((Proc)⊕(Int×Proc))) :=
 (if (decide (g1.1 < (a0.length:Int)))=true then
  gd (0≤g1.1∧g1.1 < (a0.length:Int)) <|
  (zp6 (a0.getD g1.1.toNat Need.zero) g1.2).bind fun v1 =>
  (if v1.1=true then
   some (.inr (.inr (g1.1,v1.2)))
  else
   some (.inl ((IntKind.i64.wrap (g1.1+1)),v1.2)))
 else
  some (.inr (.inl g1.2)))
@[go_sem] def zeU7 (a0:List Need) (g1:Int×Proc):St:=⟨[(0,.sl (a0.map Need.enc)),(1,.clo 90 [.ptr 0 0 0]),(7,.int .i64 (a0.length:Int)),(8,.int .i64 g1.1)],[(0,⟨false,3,(Proc.enc Proc.zero),[Proc.enc g1.2]⟩)],1⟩
def ze9 (a0:List Need) (a1:Proc):Option (Int×Proc) :=
 (zb4 (zm7 a0) (0,a1)).bind (fun|.inl z=>zs0 z|.inr z=>some z)
theorem zW0 (a0:List Need) (a1:Proc) (r:Int×Proc) (h:ze9 a0 a1=some r):MFn C 89 [.sl (a0.map Need.enc),.clo 90 [.ptr 0 0 0]] [(0,⟨false,3,(Proc.enc Proc.zero),[Proc.enc a1]⟩)] 1 (.int .i64 r.1) [(0,⟨false,3,(Proc.enc Proc.zero),[Proc.enc r.2]⟩)] 1:=by
 refine zh0 (rl:=[.int .i64 r.1]) zfm5 rfl rfl rfl rfl fun E hG hN hK=>?_
 unfold zea4
 unfold ze9 at h
 refine za0 (za1 hG ?_)
 refine za0 (za0 (za1 hG ?_))
 refine zb2 (zeU6) (fun v=>zs0 v=some r) ?_ ?_
 · intro j1 h
   unfold zs0 at h
   refine g_st ?_
   refine za0 (za1 hG ?_)
   refine za6 ?_
   exact ze0 [(0,0)] h
 refine zc8 (zeU7 a0) hK [(0,0)] h (fun x_l1 h g1 y_l1 h_l1 hx_l1=>?_)
 unfold zm7 at h_l1
 refine g_st ?_
 refine za0 (za1 hG ?_)
 refine za0 ?_
 refine za3 rfl hG h_l1 (fun _ h_l1=>?_) (fun _ h_l1=>?_)
 · refine za4 ?_
   refine za0 (zb3 (za0 (za1 hG ?_)))
   refine za0 ?_
   obtain ⟨hb1,h_l1⟩:=za5 h_l1
   refine za1 hG ?_
   obtain ⟨v1,hv1,h_l1⟩:=za2 h_l1
   refine zd3 [(0,0)] [] [0] (zax2 _ _ _ hv1) rfl rfl ?_
   refine za3 rfl hG h_l1 (fun _ h_l1=>?_) (fun _ h_l1=>?_)
   · refine za0 (za1 hG ?_)
     refine za6 ?_
     cases h_l1
     cases hx_l1 _ rfl
     exact ze0 [(0,0)] h
   refine za4 ?_
   refine za1 hG ?_
   exact zc2 hK [(0,0)] h_l1
 refine zb5 ?_
 cases h_l1
 cases hx_l1 _ rfl
 exact zb8 hK [(0,0)] g1.2 (by exact h)
attribute [local irreducible] ze9
def zr0 (a0:List Need) (a1:Proc):Option (Int) :=
 (ze9 a0 a1).bind fun v1 =>
 some v1.1
theorem zaq3 (a0:List Need) (a1:Proc) (r:Int) (h:zr0 a0 a1=some r):PFn C 59 [.sl (a0.map Need.enc),.agg (Proc.enc a1)] (.int .i64 r):=by
 refine za7 zfm6 rfl fun E hG hN hK=>?_
 unfold zea7
 unfold zr0 at h
 refine za0 (za1 hG ?_)
 refine za0 (za1 hG ?_)
 obtain ⟨v1,hv1,h⟩:=za2 h
 refine zd3 [(0,0)] [] [0] (zW0 _ _ _ hv1) rfl rfl ?_
 refine za6 ?_
 exact zb0 h
attribute [local irreducible] zr0
def zQ3 (a0:Expr) (j1:(List Expr)):Option (Expr) :=
 some (⟨a0.k,(⟨a0.atom.name,(⟨a0.atom.amount.mode,a0.atom.amount.units⟩:Amount)⟩:Atom),j1⟩:Expr)
@[go_sem] def zeU8 (a0:Expr) (j1:(List Expr)):St:=⟨[(1,.ptr 0 0 0),(2,.ptr 1 0 0),(3,.own 2 0 j1.length)],[(0,⟨false,5,(Expr.enc Expr.zero),[Expr.enc a0]⟩),(1,⟨false,5,(Expr.enc Expr.zero),[Expr.enc Expr.zero]⟩),(2,⟨false,5,(Expr.enc Expr.zero),j1.map Expr.enc⟩)],3⟩
def zQ4 (a90:(Expr→Option (Expr))) (a0:Expr) (g1:Int×(List Expr)):Option ((Int×(List Expr))⊕(((List Expr)))) :=
 (if (decide (g1.1 < (a0.kids.length:Int)))=true then
  gd (0≤g1.1∧g1.1 < (a0.kids.length:Int)) <|
  (a90 (a0.kids.getD g1.1.toNat Expr.zero)).bind fun v1 =>
  gd (g1.2.length+1≤4294967296) <|
  some (.inl ((IntKind.i64.wrap (g1.1+1)),(g1.2++[v1])))
 else
  some (.inr g1.2))
@[go_sem] def zeU9 (a0:Expr) (g1:Int×(List Expr)):St:=⟨[(1,.ptr 0 0 0),(2,.ptr 1 0 0),(3,.own 2 0 g1.2.length),(7,.sl (a0.kids.map Expr.enc)),(8,.int .i64 (a0.kids.length:Int)),(9,.int .i64 g1.1)],[(0,⟨false,5,(Expr.enc Expr.zero),[Expr.enc a0]⟩),(1,⟨false,5,(Expr.enc Expr.zero),[Expr.enc Expr.zero]⟩),(2,⟨false,5,(Expr.enc Expr.zero),g1.2.map Expr.enc⟩)],3⟩
def zA8 (a90:(Expr→Option (Expr))) (a0:Expr):Option (Expr) :=
 (zb4 (zQ4 a90 a0) (0,[])).bind (fun z=>zQ3 a0 z)
def zK6:Nat→(Expr→Option (Expr))
 | 0=>fun _=>none
 | n+1=>zA8 (zK6 n)
def zt1 (a0:Expr):Option (Expr):=zK6 (_root_.SizeOf.sizeOf a0+1) a0
theorem zax3 (a90:(Expr→Option (Expr))) (hrc:∀ (a0:Expr) (r:Expr),a90 a0=some r→PFn C 91 [.agg (Expr.enc a0)] (.agg (Expr.enc r))) (a0:Expr) (r:Expr) (h:zA8 a90 a0=some r):PFn C 91 [.agg (Expr.enc a0)] (.agg (Expr.enc r)):=by
 refine za7 zfm7 rfl fun E hG hN hK=>?_
 unfold zeb7
 unfold zA8 at h
 refine za0 (za1 hG ?_)
 refine za0 (za1 hG ?_)
 refine za0 (za0 (za1 hG ?_))
 refine zb2 (zeU8 a0) (fun v=>zQ3 a0 v=some r) ?_ ?_
 · intro j1 h
   unfold zQ3 at h
   refine g_st ?_
   refine za0 (za1 hG ?_)
   refine za0 (za1 hG ?_)
   refine za6 ?_
   exact zb0 h (by intro e; subst e; simp [Atom.enc,Amount.enc])
 refine zc8 (zeU9 a0) hK [(0,0),(1,1),(2,2)] h (fun x_l1 h g1 y_l1 h_l1 hx_l1=>?_)
 unfold zQ4 at h_l1
 refine g_st ?_
 refine za0 (za1 hG ?_)
 refine za0 ?_
 refine za3 rfl hG h_l1 (fun _ h_l1=>?_) (fun _ h_l1=>?_)
 · refine za4 ?_
   refine za0 (zb3 (za0 ?_))
   obtain ⟨hb2,h_l1⟩:=za5 h_l1
   refine za1 hG ?_
   refine za1 hG ?_
   obtain ⟨v1,hv1,h_l1⟩:=za2 h_l1
   obtain ⟨hb1,h_l1⟩:=za5 h_l1
   refine za8 (fun hg=>hrc (a0.kids.getD g1.1.toNat Expr.zero) _ (hv1)) ?_
   refine za1 hG ?_
   exact zc2 hK [(0,0),(1,1),(2,4)] h_l1
 refine zb5 ?_
 cases h_l1
 cases hx_l1 _ rfl
 exact zb8 hK [(0,0),(1,1),(2,2)] g1.2 (by exact h)
theorem zaf3:∀ (n:Nat) (a0:Expr) (r:Expr),zK6 n a0=some r→PFn C 91 [.agg (Expr.enc a0)] (.agg (Expr.enc r))
 | 0,_,_,h=>nomatch h
 | n+1,a0,r,h=>zax3 (zK6 n) (zaf3 n) a0 r h
theorem zaA2 (a0:Expr) (r:Expr) (h:zt1 a0=some r):PFn C 91 [.agg (Expr.enc a0)] (.agg (Expr.enc r)):=zaf3 _ a0 r h
attribute [local irreducible] zt1
def zl1 (a0:Need):Option (Need) :=
 (zt1 a0.expr).bind fun v1 =>
 some ({ a0 with expr:=v1 })
theorem zaA3 (a0:Need) (r:Need) (h:zl1 a0=some r):PFn C 60 [.agg (Need.enc a0)] (.agg (Need.enc r)):=by
 refine za7 zfm8 rfl fun E hG hN hK=>?_
 unfold zec1
 unfold zl1 at h
 refine za0 (za1 hG ?_)
 refine za0 (za1 hG ?_)
 obtain ⟨v1,hv1,h⟩:=za2 h
 refine za8 (fun hg=>zaA2 _ _ hv1) ?_
 refine za0 (za1 hG ?_)
 refine za6 ?_
 exact zb0 h (by intro e; subst e; simp [Proc.enc,Atom.enc,Amount.enc])
attribute [local irreducible] zl1
def zw4 (a0:WaitState) (a1:Proc):Option (Need×Bool) :=
 (zr0 a0.needs a1).bind fun v1 =>
 (if (decide (0≤v1))=true then
  gd (0≤v1∧v1 < (a0.needs.length:Int)) <|
  (zl1 (a0.needs.getD v1.toNat Need.zero)).bind fun v2 =>
  some (v2,true)
 else
  some ({ Need.zero with  },false))
theorem zaR9 (a0:WaitState) (a1:Proc) (r:Need×Bool) (h:zw4 a0 a1=some r):PFn C 26 [.agg (WaitState.enc a0),.agg (Proc.enc a1)] (.tup [.agg (Need.enc r.1),.bool r.2]):=by
 refine za7 zfm9 rfl fun E hG hN hK=>?_
 unfold zec7
 unfold zw4 at h
 refine za0 (za1 hG ?_)
 refine za0 (za0 (za1 hG ?_))
 obtain ⟨v1,hv1,h⟩:=za2 h
 refine za8 (fun hg=>zaq3 _ _ _ hv1) ?_
 refine za0 (za1 hG ?_)
 refine za3 rfl hG h (fun _ h=>?_) (fun _ h=>?_)
 · refine za0 ?_
   obtain ⟨hb1,h⟩:=za5 h
   refine za1 hG ?_
   obtain ⟨v2,hv2,h⟩:=za2 h
   refine za8 (fun hg=>zaA3 _ _ hv2) ?_
   refine za6 ?_
   exact zb0 h (by intro e; subst e; simp [Proc.enc,Atom.enc,Amount.enc])
 refine za4 ?_
 refine za0 (za1 hG ?_)
 refine za6 ?_
 exact zb0 h (by intro e; subst e; simp [Proc.enc,Atom.enc,Amount.enc])
attribute [local irreducible] zw4
def zy5  (j1:Unit):Option (Int) :=
 some (-1)
@[go_sem] def zeV0  (j1:Unit):St:=⟨[],[],0⟩
def zy6 (a0:List Atom) (a1:Atom) (g1:Int):Option ((Int)⊕((Unit)⊕(Int))) :=
 (if (decide (g1 < (a0.length:Int)))=true then
  gd (0≤g1∧g1 < (a0.length:Int)) <|
  (if (decide (a1=(a0.getD g1.toNat Atom.zero)))=true then
   some (.inr (.inr g1))
  else
   some (.inl (IntKind.i64.wrap (g1+1))))
 else
  some (.inr (.inl ())))
@[go_sem] def zeV1 (a0:List Atom) (a1:Atom) (g1:Int):St:=⟨[(0,.sl (a0.map Atom.enc)),(3,.ptr 0 0 0),(7,.int .i64 (a0.length:Int)),(8,.int .i64 g1)],[(0,⟨false,3,(Atom.enc Atom.zero),[Atom.enc a1]⟩)],1⟩
def zh1 (a0:List Atom) (a1:Atom):Option (Int) :=
 (zb4 (zy6 a0 a1) 0).bind (fun|.inl z=>zy5 z|.inr z=>some z)
theorem zaf8 (a0:List Atom) (a1:Atom) (r:Int) (h:zh1 a0 a1=some r):PFn C 147 [.sl (a0.map Atom.enc),.agg (Atom.enc a1)] (.int .i64 r):=by
 refine za7 zfn0 rfl fun E hG hN hK=>?_
 unfold zed6
 unfold zh1 at h
 refine za0 (za1 hG ?_)
 refine za0 (za0 (za1 hG ?_))
 refine zb2 (zeV0) (fun v=>zy5 v=some r) ?_ ?_
 · intro j1 h
   unfold zy5 at h
   refine g_st ?_
   refine za0 (za1 hG ?_)
   refine za6 ?_
   exact zb0 h
 refine zc8 (zeV1 a0 a1) hK [(0,0)] h (fun x_l1 h g1 y_l1 h_l1 hx_l1=>?_)
 unfold zy6 at h_l1
 refine g_st ?_
 refine za0 (za1 hG ?_)
 refine za0 ?_
 refine za3 rfl hG h_l1 (fun _ h_l1=>?_) (fun _ h_l1=>?_)
 · refine za4 ?_
   refine za0 (zb3 (za0 (za1 hG ?_)))
   refine za0 ?_
   obtain ⟨hb1,h_l1⟩:=za5 h_l1
   refine zl3 ze5 hG ?_
   refine za3 rfl hG h_l1 (fun _ h_l1=>?_) (fun _ h_l1=>?_)
   · refine za0 (za1 hG ?_)
     refine za6 ?_
     cases h_l1
     cases hx_l1 _ rfl
     exact zb0 h
   refine za4 ?_
   refine za1 hG ?_
   exact zc2 hK [(0,0)] h_l1
 refine zb5 ?_
 cases h_l1
 cases hx_l1 _ rfl
 exact zb8 hK [] () (by exact h)
attribute [local irreducible] zh1
def ze1 (a0:List Atom) (a1:Atom):Option (Bool) :=
 (zh1 a0 a1).bind fun v1 =>
 some (decide (0≤v1))
theorem zK3 (a0:List Atom) (a1:Atom) (r:Bool) (h:ze1 a0 a1=some r):PFn C 114 [.sl (a0.map Atom.enc),.agg (Atom.enc a1)] (.bool r):=by
 refine za7 zfn1 rfl fun E hG hN hK=>?_
 unfold zed9
 unfold ze1 at h
 refine za0 (za1 hG ?_)
 refine za0 (za1 hG ?_)
 obtain ⟨v1,hv1,h⟩:=za2 h
 refine za8 (fun hg=>zaf8 _ _ _ hv1) ?_
 refine za6 ?_
 exact zb0 h
attribute [local irreducible] ze1
def zS2  (j1:(List Atom)):Option ((List Atom)) :=
 some j1
@[go_sem] def zeV2  (j1:(List Atom)):St:=⟨[(0,.own 1 0 j1.length)],[(1,⟨false,3,(Atom.enc Atom.zero),j1.map Atom.enc⟩)],2⟩
def zaf4 (a90:(Expr→(List Atom)→Option ((List Atom)))) (a0:Expr) (g1:Int×(List Atom)):Option ((Int×(List Atom))⊕(((List Atom)))) :=
 (if (decide (g1.1 < (a0.kids.length:Int)))=true then
  gd (0≤g1.1∧g1.1 < (a0.kids.length:Int)) <|
  (a90 (a0.kids.getD g1.1.toNat Expr.zero) g1.2).bind fun v2 =>
  some (.inl ((IntKind.i64.wrap (g1.1+1)),v2))
 else
  some (.inr g1.2))
@[go_sem] def zeV3 (a0:Expr) (g1:Int×(List Atom)):St:=⟨[(0,.own 1 0 g1.2.length),(22,.sl (a0.kids.map Expr.enc)),(23,.int .i64 (a0.kids.length:Int)),(24,.int .i64 g1.1)],[(1,⟨false,3,(Atom.enc Atom.zero),g1.2.map Atom.enc⟩)],2⟩
def zU0 (a90:(Expr→(List Atom)→Option ((List Atom)))) (a0:Expr) (a1:List Atom):Option ((List Atom)) :=
 (if (decide ((a0.kids.length:Int)=0))=true then
  (ze1 a1 a0.atom).bind fun v1 =>
  (if v1=true then
   some a1
  else
   gd (a1.length+1≤4294967296) <|
   some (a1++[a0.atom]))
 else
  (zb4 (zaf4 a90 a0) (0,a1)).bind (fun z=>zS2 z))
def zN4:Nat→(Expr→(List Atom)→Option ((List Atom)))
 | 0=>fun _ _=>none
 | n+1=>zU0 (zN4 n)
def zA9 (a0:Expr) (a1:List Atom):Option ((List Atom)):=zN4 (_root_.SizeOf.sizeOf a0+1) a0 a1
theorem zaA4 (a90:(Expr→(List Atom)→Option ((List Atom)))) (hrc:∀ (a0:Expr) (a1:List Atom) (r:(List Atom)),a90 a0 a1=some r→MFn C 92 [.own 0 0 a1.length,.agg (Expr.enc a0)] [(0,⟨false,3,(Atom.enc Atom.zero),a1.map Atom.enc⟩)] 1 (.own 1 0 r.length) [(1,⟨false,3,(Atom.enc Atom.zero),r.map Atom.enc⟩)] 2) (a0:Expr) (a1:List Atom) (r:(List Atom)) (h:zU0 a90 a0 a1=some r):MFn C 92 [.own 0 0 a1.length,.agg (Expr.enc a0)] [(0,⟨false,3,(Atom.enc Atom.zero),a1.map Atom.enc⟩)] 1 (.own 1 0 r.length) [(1,⟨false,3,(Atom.enc Atom.zero),r.map Atom.enc⟩)] 2:=by
 refine zh0 (rl:=[.own 1 0 r.length]) zfn2 rfl rfl rfl rfl fun E hG hN hK=>?_
 unfold zef0
 unfold zU0 at h
 refine za0 (za1 hG ?_)
 refine za0 (za0 (za1 hG ?_))
 refine za3 rfl hG h (fun _ h=>?_) (fun _ h=>?_)
 · refine za0 (za0 (za1 hG ?_))
   obtain ⟨v1,hv1,h⟩:=za2 h
   refine za8 (fun hg=>zK3 _ _ _ hv1) ?_
   refine za3 rfl hG h (fun _ h=>?_) (fun _ h=>?_)
   · refine za0 (za1 hG ?_)
     refine za6 ?_
     exact ze0 [(1,0)] h
   refine za4 ?_
   refine za0 ?_
   obtain ⟨hb1,h⟩:=za5 h
   refine za1 hG ?_
   refine za6 ?_
   exact ze0 [(1,3)] h
 refine za4 ?_
 refine za0 (za0 (za1 hG ?_))
 refine zb2 (zeV2) (fun v=>zS2 v=some r) ?_ ?_
 · intro j1 h
   unfold zS2 at h
   refine g_st ?_
   refine za0 (za1 hG ?_)
   refine za6 ?_
   exact ze0 [(1,1)] h
 refine zc8 (zeV3 a0) hK [(1,0)] h (fun x_l1 h g1 y_l1 h_l1 hx_l1=>?_)
 unfold zaf4 at h_l1
 refine g_st ?_
 refine za0 (za1 hG ?_)
 refine za0 ?_
 refine za3 rfl hG h_l1 (fun _ h_l1=>?_) (fun _ h_l1=>?_)
 · refine za4 ?_
   refine za0 (zb3 (za0 ?_))
   obtain ⟨hb2,h_l1⟩:=za5 h_l1
   refine za1 hG ?_
   refine za1 hG ?_
   obtain ⟨v2,hv2,h_l1⟩:=za2 h_l1
   refine zd3 [(0,1)] [(1,3)] [0,1] (hrc (a0.kids.getD g1.1.toNat Expr.zero) g1.2 _ hv2) rfl rfl ?_
   refine za1 hG ?_
   exact zc2 hK [(1,3)] h_l1
 refine zb5 ?_
 cases h_l1
 cases hx_l1 _ rfl
 exact zb8 hK [(1,1)] g1.2 (by exact h)
theorem zah2:∀ (n:Nat) (a0:Expr) (a1:List Atom) (r:(List Atom)),zN4 n a0 a1=some r→MFn C 92 [.own 0 0 a1.length,.agg (Expr.enc a0)] [(0,⟨false,3,(Atom.enc Atom.zero),a1.map Atom.enc⟩)] 1 (.own 1 0 r.length) [(1,⟨false,3,(Atom.enc Atom.zero),r.map Atom.enc⟩)] 2
 | 0,_,_,_,h=>nomatch h
 | n+1,a0,a1,r,h=>zaA4 (zN4 n) (zah2 n) a0 a1 r h
theorem zaA5 (a0:Expr) (a1:List Atom) (r:(List Atom)) (h:zA9 a0 a1=some r):MFn C 92 [.own 0 0 a1.length,.agg (Expr.enc a0)] [(0,⟨false,3,(Atom.enc Atom.zero),a1.map Atom.enc⟩)] 1 (.own 1 0 r.length) [(1,⟨false,3,(Atom.enc Atom.zero),r.map Atom.enc⟩)] 2:=zah2 _ a0 a1 r h
attribute [local irreducible] zA9
def zU1  (j1:(List Atom)):Option ((List Atom)) :=
 some j1
@[go_sem] def zeV4  (j1:(List Atom)):St:=⟨[(0,.own 0 0 j1.length)],[(0,⟨false,3,(Atom.enc Atom.zero),j1.map Atom.enc⟩)],1⟩
def zah3 (a0:Expr) (g1:Int×(List Atom)):Option ((Int×(List Atom))⊕(((List Atom)))) :=
 (if (decide (g1.1 < (a0.kids.length:Int)))=true then
  gd (0≤g1.1∧g1.1 < (a0.kids.length:Int)) <|
  (zA9 (a0.kids.getD g1.1.toNat Expr.zero) g1.2).bind fun v2 =>
  some (.inl ((IntKind.i64.wrap (g1.1+1)),v2))
 else
  some (.inr g1.2))
@[go_sem] def zeV5 (a0:Expr) (g1:Int×(List Atom)):St:=⟨[(0,.own 0 0 g1.2.length),(22,.sl (a0.kids.map Expr.enc)),(23,.int .i64 (a0.kids.length:Int)),(24,.int .i64 g1.1)],[(0,⟨false,3,(Atom.enc Atom.zero),g1.2.map Atom.enc⟩)],1⟩
def zF1 (a90:(Expr→Option ((List Atom)))) (a0:Expr):Option ((List Atom)) :=
 (if (decide ((a0.kids.length:Int)=0))=true then
  (ze1 [] a0.atom).bind fun v1 =>
  (if v1=true then
   some []
  else
   gd (1≤4294967296) <|
   some [a0.atom])
 else
  (zb4 (zah3 a0) (0,[])).bind (fun z=>zU1 z))
def zP3:Nat→(Expr→Option ((List Atom)))
 | 0=>fun _=>none
 | n+1=>zF1 (zP3 n)
def zx1 (a0:Expr):Option ((List Atom)):=zP3 (_root_.SizeOf.sizeOf a0+1) a0
theorem zaD6 (a90:(Expr→Option ((List Atom)))) (hrc:∀ (a0:Expr) (r:(List Atom)),a90 a0=some r→MFn C 92 [.full ([].map Atom.enc),.agg (Expr.enc a0)] [] 0 (.sl (r.map Atom.enc)) [] 0) (a0:Expr) (r:(List Atom)) (h:zF1 a90 a0=some r):MFn C 92 [.full ([].map Atom.enc),.agg (Expr.enc a0)] [] 0 (.sl (r.map Atom.enc)) [] 0:=by
 refine zh0 (rl:=[.sl (r.map Atom.enc)]) zfn3 rfl rfl rfl rfl fun E hG hN hK=>?_
 unfold zeg1
 unfold zF1 at h
 refine g_gh (.own0 0 3 (Atom.enc Atom.zero)) ?_
 refine za0 (za1 hG ?_)
 refine za0 (za0 (za1 hG ?_))
 refine za3 rfl hG h (fun _ h=>?_) (fun _ h=>?_)
 · refine za0 (za0 (za1 hG ?_))
   obtain ⟨v1,hv1,h⟩:=za2 h
   refine za8 (fun hg=>zK3 _ _ _ hv1) ?_
   refine za3 rfl hG h (fun _ h=>?_) (fun _ h=>?_)
   · refine za0 (za1 hG ?_)
     refine g_gh (.fz [0]) ?_
     refine za6 ?_
     exact ze0 [] h
   refine za4 ?_
   refine za0 ?_
   obtain ⟨hb1,h⟩:=za5 h
   refine za1 hG ?_
   refine g_gh (.fz [2]) ?_
   refine za6 ?_
   exact ze0 [] h
 refine za4 ?_
 refine za0 (za0 (za1 hG ?_))
 refine zb2 (zeV4) (fun v=>zU1 v=some r) ?_ ?_
 · intro j1 h
   unfold zU1 at h
   refine g_st ?_
   refine za0 (za1 hG ?_)
   refine g_gh (.fz [0]) ?_
   refine za6 ?_
   exact ze0 [] h
 refine zc8 (zeV5 a0) hK [(0,0)] h (fun x_l1 h g1 y_l1 h_l1 hx_l1=>?_)
 unfold zah3 at h_l1
 refine g_st ?_
 refine za0 (za1 hG ?_)
 refine za0 ?_
 refine za3 rfl hG h_l1 (fun _ h_l1=>?_) (fun _ h_l1=>?_)
 · refine za4 ?_
   refine za0 (zb3 (za0 ?_))
   obtain ⟨hb2,h_l1⟩:=za5 h_l1
   refine za1 hG ?_
   refine za1 hG ?_
   obtain ⟨v2,hv2,h_l1⟩:=za2 h_l1
   refine zd3 [(0,0)] [(1,2)] [0,1] (zaA5 _ _ _ hv2) rfl rfl ?_
   refine za1 hG ?_
   exact zc2 hK [(0,2)] h_l1
 refine zb5 ?_
 cases h_l1
 cases hx_l1 _ rfl
 exact zb8 hK [(0,0)] g1.2 (by exact h)
theorem zai2:∀ (n:Nat) (a0:Expr) (r:(List Atom)),zP3 n a0=some r→MFn C 92 [.full ([].map Atom.enc),.agg (Expr.enc a0)] [] 0 (.sl (r.map Atom.enc)) [] 0
 | 0,_,_,h=>nomatch h
 | n+1,a0,r,h=>zaD6 (zP3 n) (zai2 n) a0 r h
theorem zaD7 (a0:Expr) (r:(List Atom)) (h:zx1 a0=some r):MFn C 92 [.full ([].map Atom.enc),.agg (Expr.enc a0)] [] 0 (.sl (r.map Atom.enc)) [] 0:=zai2 _ a0 r h
attribute [local irreducible] zx1
def zv3 (a0:Expr):Option ((List Atom)) :=
 (zi0 a0).bind fun v1 =>
 (if (!v1)=true then
  some []
 else
  (zx1 a0).bind fun v2 =>
  some v2)
theorem zaW5 (a0:Expr) (r:(List Atom)) (h:zv3 a0=some r):PFn C 61 [.agg (Expr.enc a0)] (.sl (r.map Atom.enc)):=by
 refine za7 zfn4 rfl fun E hG hN hK=>?_
 unfold zeg6
 unfold zv3 at h
 refine za0 (za1 hG ?_)
 refine za0 (za0 (za1 hG ?_))
 obtain ⟨v1,hv1,h⟩:=za2 h
 refine za8 (fun hg=>zal4 _ _ hv1) ?_
 refine za3 rfl hG h (fun _ h=>?_) (fun _ h=>?_)
 · refine za0 (za1 hG ?_)
   refine za6 ?_
   exact zb0 h
 refine za4 ?_
 refine za0 (za1 hG ?_)
 obtain ⟨v2,hv2,h⟩:=za2 h
 refine zd3 [] [] [] (zaD7 _ _ hv2) rfl rfl ?_
 refine za6 ?_
 exact zb0 h
attribute [local irreducible] zv3
def zan5  (j1:Unit):Option (Int) :=
 some (-1)
@[go_sem] def zeV6  (j1:Unit):St:=⟨[],[],0⟩
def zan6 (a0:List Queue) (a1:ByteArray) (g1:Int):Option ((Int)⊕((Unit)⊕(Int))) :=
 (if (decide (g1 < (a0.length:Int)))=true then
  gd (0≤g1∧g1 < (a0.length:Int)) <|
  (if ((((a0.getD g1.toNat Queue.zero).resource).name).toList == a1.toList)=true then
   some (.inr (.inr g1))
  else
   some (.inl (IntKind.i64.wrap (g1+1))))
 else
  some (.inr (.inl ())))
@[go_sem] def zeV7 (a0:List Queue) (a1:ByteArray) (g1:Int):St:=⟨[(1,.str a1),(7,.sl (a0.map Queue.enc)),(8,.int .i64 (a0.length:Int)),(9,.int .i64 g1)],[],0⟩
def zH0 (a0:List Queue) (a1:ByteArray):Option (Int) :=
 (zb4 (zan6 a0 a1) 0).bind (fun|.inl z=>zan5 z|.inr z=>some z)
theorem zbq2 (a0:List Queue) (a1:ByteArray) (r:Int) (h:zH0 a0 a1=some r):PFn C 62 [.sl (a0.map Queue.enc),.str a1] (.int .i64 r):=by
 refine za7 zfn5 rfl fun E hG hN hK=>?_
 unfold zeh5
 unfold zH0 at h
 refine za0 (za1 hG ?_)
 refine za0 (za0 (za1 hG ?_))
 refine zb2 (zeV6) (fun v=>zan5 v=some r) ?_ ?_
 · intro j1 h
   unfold zan5 at h
   refine g_st ?_
   refine za0 (za1 hG ?_)
   refine za6 ?_
   exact zb0 h
 refine zc8 (zeV7 a0 a1) hK [] h (fun x_l1 h g1 y_l1 h_l1 hx_l1=>?_)
 unfold zan6 at h_l1
 refine g_st ?_
 refine za0 (za1 hG ?_)
 refine za0 ?_
 refine za3 rfl hG h_l1 (fun _ h_l1=>?_) (fun _ h_l1=>?_)
 · refine za4 ?_
   refine za0 (zb3 (za0 ?_))
   obtain ⟨hb1,h_l1⟩:=za5 h_l1
   refine za1 hG ?_
   refine za0 (za1 hG ?_)
   refine za3 rfl hG h_l1 (fun _ h_l1=>?_) (fun _ h_l1=>?_)
   · refine za0 (za1 hG ?_)
     refine za6 ?_
     cases h_l1
     cases hx_l1 _ rfl
     exact zb0 h
   refine za4 ?_
   refine za1 hG ?_
   exact zc2 hK [] h_l1
 refine zb5 ?_
 cases h_l1
 cases hx_l1 _ rfl
 exact zb8 hK [] () (by exact h)
attribute [local irreducible] zH0
def zah4  (j1:Unit):Option (Amount×Bool) :=
 some ({ Amount.zero with  },false)
@[go_sem] def zeV8  (j1:Unit):St:=⟨[(4,.ptr 0 0 0)],[(0,⟨false,2,(Amount.enc Amount.zero),[Amount.enc Amount.zero]⟩)],1⟩
def zat7 (a1:Proc) (v1:(List Wait)) (g1:Int):Option ((Int)⊕((Unit)⊕(Amount×Bool))) :=
 (if (decide (g1 < (v1.length:Int)))=true then
  gd (0≤g1∧g1 < (v1.length:Int)) <|
  (if (decide ((v1.getD g1.toNat Wait.zero).proc=a1))=true then
   some (.inr (.inr ((v1.getD g1.toNat Wait.zero).amount,true)))
  else
   some (.inl (IntKind.i64.wrap (g1+1))))
 else
  some (.inr (.inl ())))
@[go_sem] def zeV9 (a1:Proc) (v1:(List Wait)) (g1:Int):St:=⟨[(3,.ptr 0 0 0),(4,.ptr 1 0 0),(9,.sl (v1.map Wait.enc)),(10,.int .i64 (v1.length:Int)),(11,.int .i64 g1)],[(0,⟨false,3,(Proc.enc Proc.zero),[Proc.enc a1]⟩),(1,⟨false,2,(Amount.enc Amount.zero),[Amount.enc Amount.zero]⟩)],2⟩
def zM8 (a0:Queue) (a1:Proc):Option (Amount×Bool) :=
 (zs4 a0).bind fun v1 =>
 (zb4 (zat7 a1 v1) 0).bind (fun|.inl z=>zah4 z|.inr z=>some z)
theorem zbb7 (a0:Queue) (a1:Proc) (r:Amount×Bool) (h:zM8 a0 a1=some r):PFn C 63 [.agg (Queue.enc a0),.agg (Proc.enc a1)] (.tup [.agg (Amount.enc r.1),.bool r.2]):=by
 refine za7 zfn6 rfl fun E hG hN hK=>?_
 unfold zei4
 unfold zM8 at h
 refine za0 (za1 hG ?_)
 refine za0 (za0 (za1 hG ?_))
 obtain ⟨v1,hv1,h⟩:=za2 h
 refine za8 (fun hg=>zaG0 _ _ hv1) ?_
 refine zb2 (zeV8) (fun v=>zah4 v=some r) ?_ ?_
 · intro j1 h
   unfold zah4 at h
   refine g_st ?_
   refine za0 (za1 hG ?_)
   refine za6 ?_
   exact zb0 h
 refine zc8 (zeV9 a1 v1) hK [(0,1),(1,2)] h (fun x_l1 h g1 y_l1 h_l1 hx_l1=>?_)
 unfold zat7 at h_l1
 refine g_st ?_
 refine za0 (za1 hG ?_)
 refine za0 ?_
 refine za3 rfl hG h_l1 (fun _ h_l1=>?_) (fun _ h_l1=>?_)
 · refine za4 ?_
   refine za0 (zb3 (za0 ?_))
   obtain ⟨hb1,h_l1⟩:=za5 h_l1
   refine za1 hG ?_
   refine za0 (za1 hG ?_)
   refine za3 rfl hG h_l1 (fun _ h_l1=>?_) (fun _ h_l1=>?_)
   · refine za0 (za1 hG ?_)
     refine za6 ?_
     cases h_l1
     cases hx_l1 _ rfl
     exact zb0 h
   refine za4 ?_
   refine za1 hG ?_
   exact zc2 hK [(0,0),(1,1)] h_l1
 refine zb5 ?_
 cases h_l1
 cases hx_l1 _ rfl
 exact zb8 hK [(0,1)] () (by exact h)
attribute [local irreducible] zM8
def zU2  (j1:(List Bool)):Option ((List Bool)) :=
 some j1
@[go_sem] def zeW0  (j1:(List Bool)):St:=⟨[(6,.own 0 0 j1.length)],[(0,⟨false,1,[A.bool false],j1.map eB⟩)],1⟩
def zw5 (a0:WaitState) (a1:Proc) (v3:(List Atom)) (g1:Int×(List Bool)):Option ((Int×(List Bool))⊕(((List Bool)))) :=
 (if (decide (g1.1 < (v3.length:Int)))=true then
  gd (0≤g1.1∧g1.1 < (v3.length:Int)) <|
  (zH0 a0.queues ((v3.getD g1.1.toNat Atom.zero).name)).bind fun v4 =>
  (if (decide (0≤v4))=true then
   gd (0≤v4∧v4 < (a0.queues.length:Int)) <|
   (zM8 (a0.queues.getD v4.toNat Queue.zero) a1).bind fun v5 =>
   gd (g1.2.length+1≤4294967296) <|
   some (.inl ((IntKind.i64.wrap (g1.1+1)),(g1.2++[(!v5.2)])))
  else
   gd (g1.2.length+1≤4294967296) <|
   some (.inl ((IntKind.i64.wrap (g1.1+1)),(g1.2++[true]))))
 else
  some (.inr g1.2))
@[go_sem] def zeW1 (a0:WaitState) (a1:Proc) (v3:(List Atom)) (g1:Int×(List Bool)):St:=⟨[(2,.ptr 0 0 0),(3,.ptr 1 0 0),(6,.own 2 0 g1.2.length),(28,.sl (v3.map Atom.enc)),(29,.int .i64 (v3.length:Int)),(30,.int .i64 g1.1)],[(0,⟨false,2,(WaitState.enc WaitState.zero),[WaitState.enc a0]⟩),(1,⟨false,3,(Proc.enc Proc.zero),[Proc.enc a1]⟩),(2,⟨false,1,[A.bool false],g1.2.map eB⟩)],3⟩
def zp9 (a0:WaitState) (a1:Proc):Option ((List Bool)) :=
 (zr0 a0.needs a1).bind fun v1 =>
 ((if (!(decide (v1 < 0)))=true then zi1 a0 else some (false))).bind fun v2 =>
 (if ((decide (v1 < 0))||(!v2))=true then
  some []
 else
  gd (0≤v1∧v1 < (a0.needs.length:Int)) <|
  (zv3 ((a0.needs.getD v1.toNat Need.zero).expr)).bind fun v3 =>
  (zb4 (zw5 a0 a1 v3) (0,[])).bind (fun z=>zU2 z))
theorem zaG5 (a0:WaitState) (a1:Proc) (r:(List Bool)) (h:zp9 a0 a1=some r):PFn C 27 [.agg (WaitState.enc a0),.agg (Proc.enc a1)] (.sl (r.map eB)):=by
 refine za7 zfn7 rfl fun E hG hN hK=>?_
 unfold zej5
 unfold zp9 at h
 refine za0 (za1 hG ?_)
 refine za0 (za1 hG ?_)
 obtain ⟨v1,hv1,h⟩:=za2 h
 refine za8 (fun hg=>zaq3 _ _ _ hv1) ?_
 refine za0 (za0 (za1 hG ?_))
 obtain ⟨v2,hv2,h⟩:=za2 h
 refine za8 (fun hg=>zT0 a0 _ (zv4 hg hv2)) ?_
 refine za3 rfl hG h (fun _ h=>?_) (fun _ h=>?_)
 · refine za0 (za1 hG ?_)
   refine za6 ?_
   exact zb0 h
 refine za4 ?_
 refine za0 (za1 hG ?_)
 refine za0 (za0 ?_)
 obtain ⟨hb5,h⟩:=za5 h
 refine za1 hG ?_
 obtain ⟨v3,hv3,h⟩:=za2 h
 refine za8 (fun hg=>zaW5 _ _ hv3) ?_
 refine zb2 (zeW0) (fun v=>zU2 v=some r) ?_ ?_
 · intro j1 h
   unfold zU2 at h
   refine g_st ?_
   refine za0 (za1 hG ?_)
   refine za6 ?_
   exact zb0 h
 refine zc8 (zeW1 a0 a1 v3) hK [(0,0),(1,1),(2,2)] h (fun x_l1 h g1 y_l1 h_l1 hx_l1=>?_)
 unfold zw5 at h_l1
 refine g_st ?_
 refine za0 (za1 hG ?_)
 refine za0 ?_
 refine za3 rfl hG h_l1 (fun _ h_l1=>?_) (fun _ h_l1=>?_)
 · refine za4 ?_
   refine za0 (zb3 (za0 ?_))
   obtain ⟨hb4,h_l1⟩:=za5 h_l1
   refine za1 hG ?_
   refine za0 (za1 hG ?_)
   refine za0 (za0 (za1 hG ?_))
   obtain ⟨v4,hv4,h_l1⟩:=za2 h_l1
   refine za8 (fun hg=>zbq2 _ _ _ hv4) ?_
   refine za0 (za1 hG ?_)
   refine za3 rfl hG h_l1 (fun _ h_l1=>?_) (fun _ h_l1=>?_)
   · obtain ⟨hb2,h_l1⟩:=za5 h_l1
     refine zl3 ze5 hG ?_
     obtain ⟨v5,hv5,h_l1⟩:=za2 h_l1
     refine zd9 (fun hg=>zbb7 _ _ _ hv5) ?_
     obtain ⟨hb1,h_l1⟩:=za5 h_l1
     refine za1 hG ?_
     refine za1 hG ?_
     exact zc2 hK [(0,0),(1,1),(2,4)] h_l1
   refine za4 ?_
   obtain ⟨hb3,h_l1⟩:=za5 h_l1
   refine za1 hG ?_
   refine za1 hG ?_
   exact zc2 hK [(0,0),(1,1),(2,4)] h_l1
 refine zb5 ?_
 cases h_l1
 cases hx_l1 _ rfl
 exact zb8 hK [(0,2)] g1.2 (by exact h)
attribute [local irreducible] zp9
def zy7  (j1:Unit):Option (Bool) :=
 some true
@[go_sem] def zeW2  (j1:Unit):St:=⟨[],[],0⟩
def zL1 (a0:List Hold) (a1:List Hold) (g1:Int):Option ((Int)⊕((Unit)⊕(Bool))) :=
 (if (decide (g1 < (a0.length:Int)))=true then
  gd (0≤g1∧g1 < (a0.length:Int)) <|
  gd (0≤g1∧g1 < (a1.length:Int)) <|
  (if (!decide ((a0.getD g1.toNat Hold.zero)=(a1.getD g1.toNat Hold.zero)))=true then
   some (.inr (.inr false))
  else
   some (.inl (IntKind.i64.wrap (g1+1))))
 else
  some (.inr (.inl ())))
@[go_sem] def zeW3 (a0:List Hold) (a1:List Hold) (g1:Int):St:=⟨[(0,.sl (a0.map Hold.enc)),(1,.sl (a1.map Hold.enc)),(12,.int .i64 (a0.length:Int)),(13,.int .i64 g1)],[],0⟩
def zj0 (a0:List Hold) (a1:List Hold):Option (Bool) :=
 (if (!decide ((a0.length:Int)=(a1.length:Int)))=true then
  some false
 else
  (zb4 (zL1 a0 a1) 0).bind (fun|.inl z=>zy7 z|.inr z=>some z))
theorem zaf9 (a0:List Hold) (a1:List Hold) (r:Bool) (h:zj0 a0 a1=some r):PFn C 116 [.sl (a0.map Hold.enc),.sl (a1.map Hold.enc)] (.bool r):=by
 refine za7 zfn8 rfl fun E hG hN hK=>?_
 unfold zek6
 unfold zj0 at h
 refine za0 (za1 hG ?_)
 refine za0 (za0 (za1 hG ?_))
 refine za3 rfl hG h (fun _ h=>?_) (fun _ h=>?_)
 · refine za0 (za1 hG ?_)
   refine za6 ?_
   exact zb0 h
 refine za4 ?_
 refine za0 (za0 (za1 hG ?_))
 refine zb2 (zeW2) (fun v=>zy7 v=some r) ?_ ?_
 · intro j1 h
   unfold zy7 at h
   refine g_st ?_
   refine za0 (za1 hG ?_)
   refine za6 ?_
   exact zb0 h
 refine zc8 (zeW3 a0 a1) hK [] h (fun x_l1 h g1 y_l1 h_l1 hx_l1=>?_)
 unfold zL1 at h_l1
 refine g_st ?_
 refine za0 (za1 hG ?_)
 refine za0 ?_
 refine za3 rfl hG h_l1 (fun _ h_l1=>?_) (fun _ h_l1=>?_)
 · refine za4 ?_
   refine za0 (zb3 (za0 (za1 hG ?_)))
   refine za0 ?_
   obtain ⟨hb1,h_l1⟩:=za5 h_l1
   obtain ⟨hb2,h_l1⟩:=za5 h_l1
   refine zl3 ze5 hG ?_
   refine za3 rfl hG h_l1 (fun _ h_l1=>?_) (fun _ h_l1=>?_)
   · refine za0 (za1 hG ?_)
     refine za6 ?_
     cases h_l1
     cases hx_l1 _ rfl
     exact zb0 h
   refine za4 ?_
   refine za1 hG ?_
   exact zc2 hK [] h_l1
 refine zb5 ?_
 cases h_l1
 cases hx_l1 _ rfl
 exact zb8 hK [] () (by exact h)
attribute [local irreducible] zj0
def zy8  (j1:Unit):Option (Bool) :=
 some true
@[go_sem] def zeW4  (j1:Unit):St:=⟨[],[],0⟩
def zL2 (a0:List Wait) (a1:List Wait) (g1:Int):Option ((Int)⊕((Unit)⊕(Bool))) :=
 (if (decide (g1 < (a0.length:Int)))=true then
  gd (0≤g1∧g1 < (a0.length:Int)) <|
  gd (0≤g1∧g1 < (a1.length:Int)) <|
  (if (!decide ((a0.getD g1.toNat Wait.zero)=(a1.getD g1.toNat Wait.zero)))=true then
   some (.inr (.inr false))
  else
   some (.inl (IntKind.i64.wrap (g1+1))))
 else
  some (.inr (.inl ())))
@[go_sem] def zeW5 (a0:List Wait) (a1:List Wait) (g1:Int):St:=⟨[(0,.sl (a0.map Wait.enc)),(1,.sl (a1.map Wait.enc)),(12,.int .i64 (a0.length:Int)),(13,.int .i64 g1)],[],0⟩
def zh2 (a0:List Wait) (a1:List Wait):Option (Bool) :=
 (if (!decide ((a0.length:Int)=(a1.length:Int)))=true then
  some false
 else
  (zb4 (zL2 a0 a1) 0).bind (fun|.inl z=>zy8 z|.inr z=>some z))
theorem zN5 (a0:List Wait) (a1:List Wait) (r:Bool) (h:zh2 a0 a1=some r):PFn C 95 [.sl (a0.map Wait.enc),.sl (a1.map Wait.enc)] (.bool r):=by
 refine za7 zfn9 rfl fun E hG hN hK=>?_
 unfold zel7
 unfold zh2 at h
 refine za0 (za1 hG ?_)
 refine za0 (za0 (za1 hG ?_))
 refine za3 rfl hG h (fun _ h=>?_) (fun _ h=>?_)
 · refine za0 (za1 hG ?_)
   refine za6 ?_
   exact zb0 h
 refine za4 ?_
 refine za0 (za0 (za1 hG ?_))
 refine zb2 (zeW4) (fun v=>zy8 v=some r) ?_ ?_
 · intro j1 h
   unfold zy8 at h
   refine g_st ?_
   refine za0 (za1 hG ?_)
   refine za6 ?_
   exact zb0 h
 refine zc8 (zeW5 a0 a1) hK [] h (fun x_l1 h g1 y_l1 h_l1 hx_l1=>?_)
 unfold zL2 at h_l1
 refine g_st ?_
 refine za0 (za1 hG ?_)
 refine za0 ?_
 refine za3 rfl hG h_l1 (fun _ h_l1=>?_) (fun _ h_l1=>?_)
 · refine za4 ?_
   refine za0 (zb3 (za0 (za1 hG ?_)))
   refine za0 ?_
   obtain ⟨hb1,h_l1⟩:=za5 h_l1
   obtain ⟨hb2,h_l1⟩:=za5 h_l1
   refine zl3 ze5 hG ?_
   refine za3 rfl hG h_l1 (fun _ h_l1=>?_) (fun _ h_l1=>?_)
   · refine za0 (za1 hG ?_)
     refine za6 ?_
     cases h_l1
     cases hx_l1 _ rfl
     exact zb0 h
   refine za4 ?_
   refine za1 hG ?_
   exact zc2 hK [] h_l1
 refine zb5 ?_
 cases h_l1
 cases hx_l1 _ rfl
 exact zb8 hK [] () (by exact h)
attribute [local irreducible] zh2
def zH1 (a0:Wait) (a1:Wait):Bool :=
 (decide ({ a0 with passed:=0 }={ a1 with passed:=0 }))
theorem zas0 (a0:Wait) (a1:Wait):PFn C 118 [.agg (Wait.enc a0),.agg (Wait.enc a1)] (.bool (zH1 a0 a1)):=by
 generalize h:zH1 a0 a1=r
 refine za7 zfo0 rfl fun E hG hN hK=>?_
 unfold zem1
 unfold zH1 at h
 refine za0 (za1 hG ?_)
 refine za0 (za1 hG ?_)
 refine za0 (za1 hG ?_)
 refine za6 ?_
 exact zm0 h
end
end Ab
end Go.Proofs.YtebopmkhhppfaaaGreatDoor
