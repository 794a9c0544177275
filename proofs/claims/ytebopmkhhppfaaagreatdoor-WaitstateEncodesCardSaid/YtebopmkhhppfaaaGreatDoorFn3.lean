import Derived.Test.YtebopmkhhppfaaaGreatDoorFn2
namespace Go.Proofs.YtebopmkhhppfaaaGreatDoor
namespace Ab
noncomputable section
set_option linter.unusedSimpArgs false
set_option linter.unusedVariables false
set_option maxRecDepth 100000
set_option maxHeartbeats 1000000
attribute [local irreducible] zk5 zc7 zb9 zo4 zd6 zb1 zr2 zd0 zc1 zd5 ze2 zh9 zg1 zn9 zf0 zk6 zj1 zl6 zq7 zt4 zt9 zs2 zo0 zh3 zw0 zl7 zu4 zz2 zo1 zu5 zr5 zq1 zu6 zn0 zq2 zk0 zo2 zo8 zi0 zm5 ze7 zd4 zs4 zu7 zc6 zc9 zj7 zu8 zu9 zj8 zi1
def zE5  (j2:decoder×WaitState):Option (WaitState×Int) :=
 (if (!decide (j2.1.reader.err=0))=true then
  some ({ WaitState.zero with  },j2.1.reader.err)
 else
  (if (decide (0 < (j2.1.reader.rest.length:Int)))=true then
   some ({ WaitState.zero with  },6)
  else
   (zi1 j2.2).bind fun v3 =>
   (if (!v3)=true then
    some ({ WaitState.zero with  },2)
   else
    some (j2.2,0))))
@[go_sem] def zeL2  (j2:decoder×WaitState):St:=⟨[(2,.ptr 0 0 0),(4,.ptr 1 0 0),(5,.ptr 2 0 0)],[(0,⟨false,2,(WaitState.enc WaitState.zero),[WaitState.enc WaitState.zero]⟩),(1,⟨false,2,(decoder.enc decoder.zero),[decoder.enc j2.1]⟩),(2,⟨false,2,(WaitState.enc WaitState.zero),[[.own 3 0 j2.2.queues.length,.own 4 0 j2.2.needs.length]]⟩),(3,⟨false,8,(Queue.enc Queue.zero),j2.2.queues.map Queue.enc⟩),(4,⟨false,9,(Need.enc Need.zero),j2.2.needs.map Need.enc⟩)],5⟩
def zk8  (g1:Int×decoder×WaitState):Option ((Int×decoder×WaitState)⊕((decoder×WaitState))) :=
 (if ((decide (0 < g1.1))&&(decide (g1.2.1.reader.err=0)))=true then
  (zd0 g1.2.1).bind fun v4 =>
  (zb1 v4.2).bind fun v5 =>
  (ze2 1 v5.2).bind fun v6 =>
  gd (g1.2.2.needs.length+1≤4294967296) <|
  some (.inl ((IntKind.i64.wrap (g1.1 - 1)),v6.2,(⟨g1.2.2.queues,(g1.2.2.needs++[{ { { Need.zero with proc:=v4.1 } with gen:=v5.1 } with expr:=v6.1 }])⟩:WaitState)))
 else
  some (.inr (g1.2.1,g1.2.2)))
@[go_sem] def zeL3  (g1:Int×decoder×WaitState):St:=⟨[(2,.ptr 0 0 0),(4,.ptr 1 0 0),(5,.ptr 2 0 0),(7,.int .i64 g1.1)],[(0,⟨false,2,(WaitState.enc WaitState.zero),[WaitState.enc WaitState.zero]⟩),(1,⟨false,2,(decoder.enc decoder.zero),[decoder.enc g1.2.1]⟩),(2,⟨false,2,(WaitState.enc WaitState.zero),[[.own 3 0 g1.2.2.queues.length,.own 4 0 g1.2.2.needs.length]]⟩),(3,⟨false,8,(Queue.enc Queue.zero),g1.2.2.queues.map Queue.enc⟩),(4,⟨false,9,(Need.enc Need.zero),g1.2.2.needs.map Need.enc⟩)],5⟩
def zE6  (j1:decoder×WaitState):Option (WaitState×Int) :=
 (zb9 8 j1.1).bind fun v2 =>
 (zb4 (zk8) (v2.1,v2.2,j1.2)).bind (fun z=>zE5 z)
@[go_sem] def zeL4  (j1:decoder×WaitState):St:=⟨[(2,.ptr 0 0 0),(4,.ptr 1 0 0),(5,.ptr 2 0 0)],[(0,⟨false,2,(WaitState.enc WaitState.zero),[WaitState.enc WaitState.zero]⟩),(1,⟨false,2,(decoder.enc decoder.zero),[decoder.enc j1.1]⟩),(2,⟨false,2,(WaitState.enc WaitState.zero),[[.own 3 0 j1.2.queues.length,.own 4 0 j1.2.needs.length]]⟩),(3,⟨false,8,(Queue.enc Queue.zero),j1.2.queues.map Queue.enc⟩),(4,⟨false,9,(Need.enc Need.zero),j1.2.needs.map Need.enc⟩)],5⟩
def zk9  (g2:Int×decoder×WaitState):Option ((Int×decoder×WaitState)⊕((decoder×WaitState))) :=
 (if ((decide (0 < g2.1))&&(decide (g2.2.1.reader.err=0)))=true then
  (zd5 g2.2.1).bind fun v7 =>
  gd (g2.2.2.queues.length+1≤4294967296) <|
  some (.inl ((IntKind.i64.wrap (g2.1 - 1)),v7.2,(⟨(g2.2.2.queues++[v7.1]),g2.2.2.needs⟩:WaitState)))
 else
  some (.inr (g2.2.1,g2.2.2)))
@[go_sem] def zeL5  (g2:Int×decoder×WaitState):St:=⟨[(2,.ptr 0 0 0),(4,.ptr 1 0 0),(5,.ptr 2 0 0),(6,.int .i64 g2.1)],[(0,⟨false,2,(WaitState.enc WaitState.zero),[WaitState.enc WaitState.zero]⟩),(1,⟨false,2,(decoder.enc decoder.zero),[decoder.enc g2.2.1]⟩),(2,⟨false,2,(WaitState.enc WaitState.zero),[[.own 3 0 g2.2.2.queues.length,.own 4 0 g2.2.2.needs.length]]⟩),(3,⟨false,8,(Queue.enc Queue.zero),g2.2.2.queues.map Queue.enc⟩),(4,⟨false,9,(Need.enc Need.zero),g2.2.2.needs.map Need.enc⟩)],5⟩
def zf1 (a0:List Int):Option (WaitState×Int) :=
 (zb9 8 (⟨{ waitstateReader.zero with rest:=a0 }⟩:decoder)).bind fun v1 =>
 (zb4 (zk9) (v1.1,v1.2,(⟨[],[]⟩:WaitState))).bind (fun z=>zE6 z)
theorem zab7 (a0:List Int) (r:WaitState×Int) (h:zf1 a0=some r):PFn C 5 [.sl (a0.map (eI .u8))] (.tup [.agg (WaitState.enc r.1),.int .i64 r.2]):=by
 refine za7 zff7 rfl fun E hG hN hK=>?_
 unfold zcZ9
 unfold zf1 at h
 refine za0 (za1 hG ?_)
 refine za0 (za1 hG ?_)
 refine za0 (za1 hG ?_)
 refine g_gh (.ownb 2 0 8 (Queue.enc Queue.zero)) ?_
 refine g_gh (.ownb 2 1 9 (Need.enc Need.zero)) ?_
 refine za0 (za0 (za1 hG ?_))
 obtain ⟨v1,hv1,h⟩:=za2 h
 refine zd3 [(0,1)] [] [0] (zn8 _ _ _ hv1) rfl rfl ?_
 refine zb2 (zeL4) (fun v=>zE6 v=some r) ?_ ?_
 · intro j1 h
   unfold zE6 at h
   refine g_st ?_
   refine za0 (za0 (za1 hG ?_))
   obtain ⟨v2,hv2,h⟩:=za2 h
   refine zd3 [(0,1)] [] [0] (zn8 _ _ _ hv2) rfl rfl ?_
   refine zb2 (zeL2) (fun v=>zE5 v=some r) ?_ ?_
   · intro j2 h
     unfold zE5 at h
     refine g_st ?_
     refine za0 (zb3 (za0 (za1 hG ?_)))
     refine za3 rfl hG h (fun _ h=>?_) (fun _ h=>?_)
     · refine za0 (zab5 ze5 hG ?_)
       refine za6 ?_
       exact zb0 h
     refine za0 (za1 hG ?_)
     refine za3 rfl hG h (fun _ h=>?_) (fun _ h=>?_)
     · refine za0 (za1 hG ?_)
       refine za6 ?_
       exact zb0 h
     refine za0 (za1 hG ?_)
     obtain ⟨v3,hv3,h⟩:=za2 h
     refine za8 (fun hg=>zT0 _ _ hv3) ?_
     refine za3 rfl hG h (fun _ h=>?_) (fun _ h=>?_)
     · refine za0 (za1 hG ?_)
       refine za6 ?_
       exact zb0 h
     refine za4 ?_
     refine za0 (za1 hG ?_)
     refine za6 ?_
     exact zb0 h
   refine zc8 (zeL3) hK [(0,0),(1,1),(2,2),(3,3),(4,4)] h (fun x_l1 h g1 y_l1 h_l1 hx_l1=>?_)
   unfold zk8 at h_l1
   refine g_st ?_
   refine za0 (za0 (za1 hG ?_))
   refine za3 rfl hG h_l1 (fun _ h_l1=>?_) (fun _ h_l1=>?_)
   · refine za4 ?_
     refine za0 (zb3 (za0 (za1 hG ?_)))
     obtain ⟨v4,hv4,h_l1⟩:=za2 h_l1
     refine zd3 [(0,1)] [] [0] (zB2 _ _ hv4) rfl rfl ?_
     refine za0 (za1 hG ?_)
     obtain ⟨v5,hv5,h_l1⟩:=za2 h_l1
     refine zd3 [(0,1)] [] [0] (zf9 _ _ hv5) rfl rfl ?_
     refine za0 (za1 hG ?_)
     obtain ⟨v6,hv6,h_l1⟩:=za2 h_l1
     refine zd3 [(0,1)] [] [0] (zan0 _ _ _ hv6) rfl rfl ?_
     obtain ⟨hb1,h_l1⟩:=za5 h_l1
     refine za1 hG ?_
     refine za1 hG ?_
     exact zc2 hK [(0,0),(1,1),(2,2),(3,3),(4,6)] h_l1
   refine zb5 ?_
   cases h_l1
   cases hx_l1 _ rfl
   exact zb8 hK [(0,0),(1,1),(2,2),(3,3),(4,4)] (g1.2.1,g1.2.2) (by exact h)
 refine zc8 (zeL5) hK [(0,0),(1,1),(2,2),(3,3),(4,4)] h (fun x_l2 h g2 y_l2 h_l2 hx_l2=>?_)
 unfold zk9 at h_l2
 refine g_st ?_
 refine za0 (za0 (za1 hG ?_))
 refine za3 rfl hG h_l2 (fun _ h_l2=>?_) (fun _ h_l2=>?_)
 · refine za4 ?_
   refine za0 (zb3 (zab5 ze5 hG ?_))
   obtain ⟨v7,hv7,h_l2⟩:=za2 h_l2
   obtain ⟨hb2,h_l2⟩:=za5 h_l2
   refine zac1 [(0,1)] [] [0] (zal1 _ _ hv7) rfl rfl ?_
   refine za1 hG ?_
   exact zc2 hK [(0,0),(1,1),(2,2),(3,5),(4,4)] h_l2
 refine zb5 ?_
 cases h_l2
 cases hx_l2 _ rfl
 exact zb8 hK [(0,0),(1,1),(2,2),(3,3),(4,4)] (g2.2.1,g2.2.2) (by exact h)
attribute [local irreducible] zf1
def zan2  (j1:Unit):Option (Int×Int×Int) :=
 some (0,0,6)
@[go_sem] def zeL6  (j1:Unit):St:=⟨[],[],0⟩
def zac8 (a0:List Int) (g1:Int×Int):Option ((Int×Int)⊕((Unit)⊕(Int×Int×Int))) :=
 (if (decide (g1.2 < 10))=true then
  (if (decide ((a0.length:Int)≤g1.2))=true then
   some (.inr (.inr (0,0,5)))
  else
   gd (0≤g1.2∧g1.2 < (a0.length:Int)) <|
   (if (((decide (g1.2=9))&&(decide (1 < (a0.getD g1.2.toNat 0))))||((decide ((a0.getD g1.2.toNat 0)=0))&&(decide (0 < g1.2))))=true then
    some (.inr (.inr (0,0,6)))
   else
    gd (0≤(IntKind.u64.wrap (IntKind.i64.wrap (7 * g1.2)))) <|
    (if (decide ((a0.getD g1.2.toNat 0) < 128))=true then
     some (.inr (.inr ((zx2 .or .u64 g1.1 (IntKind.u64.wrap ((IntKind.u64.wrap (zx2 .and .u8 (a0.getD g1.2.toNat 0) 127)) * 2 ^ (Nat.min (IntKind.u64.wrap (IntKind.i64.wrap (7 * g1.2))).toNat IntKind.u64.bits)))),(IntKind.i64.wrap (g1.2+1)),0)))
    else
     some (.inl ((zx2 .or .u64 g1.1 (IntKind.u64.wrap ((IntKind.u64.wrap (zx2 .and .u8 (a0.getD g1.2.toNat 0) 127)) * 2 ^ (Nat.min (IntKind.u64.wrap (IntKind.i64.wrap (7 * g1.2))).toNat IntKind.u64.bits)))),(IntKind.i64.wrap (g1.2+1)))))))
 else
  some (.inr (.inl ())))
@[go_sem] def zeL7 (a0:List Int) (g1:Int×Int):St:=⟨[(0,.sl (a0.map (eI .u8))),(5,.int .u64 g1.1),(6,.int .i64 g1.2)],[],0⟩
def zw1 (a0:List Int):Option (Int×Int×Int) :=
 (zb4 (zac8 a0) (0,0)).bind (fun|.inl z=>zan2 z|.inr z=>some z)
theorem zav0 (a0:List Int) (r:Int×Int×Int) (h:zw1 a0=some r):PFn C 82 [.sl (a0.map (eI .u8))] (.tup [.int .u64 r.1,.int .i64 r.2.1,.int .i64 r.2.2]):=by
 refine za7 zff8 rfl fun E hG hN hK=>?_
 unfold zdb0
 unfold zw1 at h
 refine za0 (za1 hG ?_)
 refine za0 (za1 hG ?_)
 refine za0 (za0 (za1 hG ?_))
 refine zb2 (zeL6) (fun v=>zan2 v=some r) ?_ ?_
 · intro j1 h
   unfold zan2 at h
   refine g_st ?_
   refine za0 (za1 hG ?_)
   refine za6 ?_
   exact zb0 h
 refine zc8 (zeL7 a0) hK [] h (fun x_l1 h g1 y_l1 h_l1 hx_l1=>?_)
 unfold zac8 at h_l1
 refine g_st ?_
 refine za0 (za0 (za1 hG ?_))
 refine za3 rfl hG h_l1 (fun _ h_l1=>?_) (fun _ h_l1=>?_)
 · refine za4 ?_
   refine za0 (zb3 (za0 (za0 (za1 hG ?_))))
   refine za3 rfl hG h_l1 (fun _ h_l1=>?_) (fun _ h_l1=>?_)
   · refine za0 (za1 hG ?_)
     refine za6 ?_
     cases h_l1
     cases hx_l1 _ rfl
     exact zb0 h
   refine za4 ?_
   refine za0 ?_
   obtain ⟨hb2,h_l1⟩:=za5 h_l1
   refine za1 hG ?_
   refine za0 (za0 (za1 hG ?_))
   refine za3 rfl hG h_l1 (fun _ h_l1=>?_) (fun _ h_l1=>?_)
   · refine za0 (za1 hG ?_)
     refine za6 ?_
     cases h_l1
     cases hx_l1 _ rfl
     exact zb0 h
   refine za4 ?_
   refine za0 ?_
   obtain ⟨hb1,h_l1⟩:=za5 h_l1
   refine za1 hG ?_
   refine za0 (za1 hG ?_)
   refine za3 rfl hG h_l1 (fun _ h_l1=>?_) (fun _ h_l1=>?_)
   · refine za0 (za1 hG ?_)
     refine za6 ?_
     cases h_l1
     cases hx_l1 _ rfl
     exact zb0 h
   refine za4 ?_
   refine za1 hG ?_
   exact zc2 hK [] h_l1
 refine zb5 ?_
 cases h_l1
 cases hx_l1 _ rfl
 exact zb8 hK [] () (by exact h)
attribute [local irreducible] zw1
def zi3 (a0:Int) (a1:Int) (a2:ref16Reader):Option (Int×ref16Reader) :=
 (if (!decide (a2.e=0))=true then
  some (0,a2)
 else
  gd (0≤a2.at_∧a2.at_≤(a2.b.length:Int)∧(a2.b.length:Int)≤(a2.b.length:Int)) <|
  (zw1 (a2.b.drop a2.at_.toNat)).bind fun v1 =>
  (if (!decide (v1.2.2=0))=true then
   some (0,{ a2 with e:=v1.2.2 })
  else
   (if (decide ((IntKind.u64.wrap a0) < v1.1))=true then
    some (0,{ { a2 with at_:=(IntKind.i64.wrap (a2.at_+v1.2.1)) } with e:=a1 })
   else
    some ((IntKind.i64.wrap v1.1),{ a2 with at_:=(IntKind.i64.wrap (a2.at_+v1.2.1)) }))))
theorem zag7 (a0:Int) (a1:Int) (a2:ref16Reader) (r:Int×ref16Reader) (h:zi3 a0 a1 a2=some r):MFn C 49 [.ptr 0 0 0,.int .i64 a0,.int .i64 a1] [(0,⟨false,3,(ref16Reader.enc ref16Reader.zero),[ref16Reader.enc a2]⟩)] 1 (.int .i64 r.1) [(0,⟨false,3,(ref16Reader.enc ref16Reader.zero),[ref16Reader.enc r.2]⟩)] 1:=by
 refine zh0 (rl:=[.int .i64 r.1]) zff9 rfl rfl rfl rfl fun E hG hN hK=>?_
 unfold zdc1
 unfold zi3 at h
 refine za0 (za1 hG ?_)
 refine za0 (za0 (za1 hG ?_))
 refine za3 rfl hG h (fun _ h=>?_) (fun _ h=>?_)
 · refine za0 (za1 hG ?_)
   refine za6 ?_
   exact ze0 [(0,0)] h
 refine za4 ?_
 refine za0 ?_
 obtain ⟨hb1,h⟩:=za5 h
 refine zl3 ze5 hG ?_
 obtain ⟨v1,hv1,h⟩:=za2 h
 refine zd9 (fun hg=>zav0 _ _ hv1) ?_
 refine za0 (za0 (za1 hG ?_))
 refine za3 rfl hG h (fun _ h=>?_) (fun _ h=>?_)
 · refine za0 (za1 hG ?_)
   refine za0 (za1 hG ?_)
   refine za6 ?_
   exact ze0 [(0,0)] h
 refine za4 ?_
 refine za0 (za1 hG ?_)
 refine za0 (za0 (za1 hG ?_))
 refine za3 rfl hG h (fun _ h=>?_) (fun _ h=>?_)
 · refine za0 (za1 hG ?_)
   refine za0 (za1 hG ?_)
   refine za6 ?_
   exact ze0 [(0,0)] h
 refine za4 ?_
 refine za0 (za1 hG ?_)
 refine za6 ?_
 exact ze0 [(0,0)] h
attribute [local irreducible] zi3
def ze8 (a0:Int) (a1:ref16Reader):Option (Int×ref16Reader) :=
 (zi3 a0 4 a1).bind fun v1 =>
 some (v1.1,v1.2)
theorem zs5 (a0:Int) (a1:ref16Reader) (r:Int×ref16Reader) (h:ze8 a0 a1=some r):MFn C 19 [.ptr 0 0 0,.int .i64 a0] [(0,⟨false,3,(ref16Reader.enc ref16Reader.zero),[ref16Reader.enc a1]⟩)] 1 (.int .i64 r.1) [(0,⟨false,3,(ref16Reader.enc ref16Reader.zero),[ref16Reader.enc r.2]⟩)] 1:=by
 refine zh0 (rl:=[.int .i64 r.1]) zfg0 rfl rfl rfl rfl fun E hG hN hK=>?_
 unfold zdc4
 unfold ze8 at h
 refine za0 (za1 hG ?_)
 refine za0 (za1 hG ?_)
 obtain ⟨v1,hv1,h⟩:=za2 h
 refine zd3 [(0,0)] [] [0] (zag7 _ _ _ _ hv1) rfl rfl ?_
 refine za6 ?_
 exact ze0 [(0,0)] h
attribute [local irreducible] ze8
def zC4 (a0:List Int):Option (ByteArray×Int×Int) :=
 (zw1 a0).bind fun v1 =>
 (if (!decide (v1.2.2=0))=true then
  some ((⟨#[]⟩:ByteArray),0,v1.2.2)
 else
  (if (decide (1024 < v1.1))=true then
   some ((⟨#[]⟩:ByteArray),0,3)
  else
   (if (decide ((IntKind.i64.wrap ((a0.length:Int) - v1.2.1)) < (IntKind.i64.wrap v1.1)))=true then
    some ((⟨#[]⟩:ByteArray),0,5)
   else
    gd (0≤v1.2.1∧v1.2.1≤(IntKind.i64.wrap (v1.2.1+(IntKind.i64.wrap v1.1)))∧(IntKind.i64.wrap (v1.2.1+(IntKind.i64.wrap v1.1)))≤(a0.length:Int)) <|
    some ((zam5 ((a0.take ((IntKind.i64.wrap (v1.2.1+(IntKind.i64.wrap v1.1))).toNat)).drop v1.2.1.toNat)),(IntKind.i64.wrap (v1.2.1+(IntKind.i64.wrap v1.1))),0))))
theorem zbp6 (a0:List Int) (r:ByteArray×Int×Int) (h:zC4 a0=some r):PFn C 83 [.sl (a0.map (eI .u8))] (.tup [.str r.1,.int .i64 r.2.1,.int .i64 r.2.2]):=by
 refine za7 zfg1 rfl fun E hG hN hK=>?_
 unfold zdd4
 unfold zC4 at h
 refine za0 (za1 hG ?_)
 refine za0 (za1 hG ?_)
 obtain ⟨v1,hv1,h⟩:=za2 h
 refine za8 (fun hg=>zav0 _ _ hv1) ?_
 refine za0 (za0 (za1 hG ?_))
 refine za3 rfl hG h (fun _ h=>?_) (fun _ h=>?_)
 · refine za0 (za1 hG ?_)
   refine za6 ?_
   exact zb0 h
 refine za4 ?_
 refine za0 (za0 (za1 hG ?_))
 refine za3 rfl hG h (fun _ h=>?_) (fun _ h=>?_)
 · refine za0 (za1 hG ?_)
   refine za6 ?_
   exact zb0 h
 refine za4 ?_
 refine za0 (za0 (za1 hG ?_))
 refine za3 rfl hG h (fun _ h=>?_) (fun _ h=>?_)
 · refine za0 (za1 hG ?_)
   refine za6 ?_
   exact zb0 h
 refine za4 ?_
 refine za0 ?_
 obtain ⟨hb1,h⟩:=za5 h
 refine za1 hG ?_
 refine za6 ?_
 exact zb0 h
attribute [local irreducible] zC4
def zi5 (a0:ref16Reader):Option (ByteArray×ref16Reader) :=
 (if (!decide (a0.e=0))=true then
  some ((⟨#[]⟩:ByteArray),a0)
 else
  gd (0≤a0.at_∧a0.at_≤(a0.b.length:Int)∧(a0.b.length:Int)≤(a0.b.length:Int)) <|
  (zC4 (a0.b.drop a0.at_.toNat)).bind fun v1 =>
  (if (!decide (v1.2.2=0))=true then
   some ((⟨#[]⟩:ByteArray),{ a0 with e:=v1.2.2 })
  else
   some (v1.1,{ a0 with at_:=(IntKind.i64.wrap (a0.at_+v1.2.1)) })))
theorem zaf1 (a0:ref16Reader) (r:ByteArray×ref16Reader) (h:zi5 a0=some r):MFn C 50 [.ptr 0 0 0] [(0,⟨false,3,(ref16Reader.enc ref16Reader.zero),[ref16Reader.enc a0]⟩)] 1 (.str r.1) [(0,⟨false,3,(ref16Reader.enc ref16Reader.zero),[ref16Reader.enc r.2]⟩)] 1:=by
 refine zh0 (rl:=[.str r.1]) zfg2 rfl rfl rfl rfl fun E hG hN hK=>?_
 unfold zde4
 unfold zi5 at h
 refine za0 (za1 hG ?_)
 refine za0 (za0 (za1 hG ?_))
 refine za3 rfl hG h (fun _ h=>?_) (fun _ h=>?_)
 · refine za0 (za1 hG ?_)
   refine za6 ?_
   exact ze0 [(0,0)] h
 refine za4 ?_
 refine za0 ?_
 obtain ⟨hb1,h⟩:=za5 h
 refine zl3 ze5 hG ?_
 obtain ⟨v1,hv1,h⟩:=za2 h
 refine zd9 (fun hg=>zbp6 _ _ hv1) ?_
 refine za0 (za0 (za1 hG ?_))
 refine za3 rfl hG h (fun _ h=>?_) (fun _ h=>?_)
 · refine za0 (za1 hG ?_)
   refine za0 (za1 hG ?_)
   refine za6 ?_
   exact ze0 [(0,0)] h
 refine za4 ?_
 refine za0 (za1 hG ?_)
 refine za0 (za1 hG ?_)
 refine za6 ?_
 exact ze0 [(0,0)] h
attribute [local irreducible] zi5
def zc5 (a0:ref16Reader):Option (Int×ref16Reader) :=
 (zi3 1073741824 16 a0).bind fun v1 =>
 some (v1.1,v1.2)
theorem zi8 (a0:ref16Reader) (r:Int×ref16Reader) (h:zc5 a0=some r):MFn C 22 [.ptr 0 0 0] [(0,⟨false,3,(ref16Reader.enc ref16Reader.zero),[ref16Reader.enc a0]⟩)] 1 (.int .i64 r.1) [(0,⟨false,3,(ref16Reader.enc ref16Reader.zero),[ref16Reader.enc r.2]⟩)] 1:=by
 refine zh0 (rl:=[.int .i64 r.1]) zfg3 rfl rfl rfl rfl fun E hG hN hK=>?_
 unfold zde7
 unfold zc5 at h
 refine za0 (za1 hG ?_)
 refine za0 (za1 hG ?_)
 obtain ⟨v1,hv1,h⟩:=za2 h
 refine zd3 [(0,0)] [] [0] (zag7 _ _ _ _ hv1) rfl rfl ?_
 refine za6 ?_
 exact ze0 [(0,0)] h
attribute [local irreducible] zc5
def ze3 (a0:Proc):Bool :=
 ((((((decide (0≤a0.site))&&(decide (a0.site < 4)))&&(decide (1≤a0.inc)))&&(decide (a0.inc≤99)))&&(decide (1≤a0.num)))&&(decide (a0.num≤999)))
theorem zF9 (a0:Proc):PFn C 54 [.agg (Proc.enc a0)] (.bool (ze3 a0)):=by
 generalize h:ze3 a0=r
 refine za7 zfg4 rfl fun E hG hN hK=>?_
 unfold zdf0
 unfold ze3 at h
 refine za0 (za1 hG ?_)
 refine za0 (za1 hG ?_)
 refine za6 ?_
 exact zm0 h
def zac9  (j1:Int×(Arr Int 3)):Option (Proc×Int×Int) :=
 (if (((decide (1073741824 < (Arr.get j1.2 0 0)))||(decide (1073741824 < (Arr.get j1.2 1 0))))||(decide (1073741824 < (Arr.get j1.2 2 0))))=true then
  some ({ Proc.zero with  },0,2)
 else
  (if (!(ze3 (⟨(IntKind.i64.wrap (Arr.get j1.2 0 0)),(IntKind.i64.wrap (Arr.get j1.2 1 0)),(IntKind.i64.wrap (Arr.get j1.2 2 0))⟩:Proc)))=true then
   some ({ Proc.zero with  },0,2)
  else
   some ((⟨(IntKind.i64.wrap (Arr.get j1.2 0 0)),(IntKind.i64.wrap (Arr.get j1.2 1 0)),(IntKind.i64.wrap (Arr.get j1.2 2 0))⟩:Proc),j1.1,0)))
@[go_sem] def zeL8  (j1:Int×(Arr Int 3)):St:=⟨[(2,.ptr 0 0 0),(5,.ptr 1 0 0),(6,.int .i64 j1.1)],[(0,⟨false,3,(Proc.enc Proc.zero),[Proc.enc Proc.zero]⟩),(1,⟨false,3,(Arr.enc (eI .u64) (Arr.rep 3 0)),[Arr.enc (eI .u64) j1.2]⟩)],2⟩
def zr6 (a0:List Int) (g1:Int×Int×(Arr Int 3)):Option ((Int×Int×(Arr Int 3))⊕((Int×(Arr Int 3))⊕(Proc×Int×Int))) :=
 (if (decide (g1.2.1 < 3))=true then
  gd (0≤g1.1∧g1.1≤(a0.length:Int)∧(a0.length:Int)≤(a0.length:Int)) <|
  (zw1 (a0.drop g1.1.toNat)).bind fun v1 =>
  (if (!decide (v1.2.2=0))=true then
   some (.inr (.inr ({ Proc.zero with  },0,v1.2.2)))
  else
   gd (0≤g1.2.1∧g1.2.1 < 3) <|
   some (.inl ((IntKind.i64.wrap (g1.1+v1.2.1)),(IntKind.i64.wrap (g1.2.1+1)),(Arr.put g1.2.2 g1.2.1.toNat v1.1))))
 else
  some (.inr (.inl (g1.1,g1.2.2))))
@[go_sem] def zeL9 (a0:List Int) (g1:Int×Int×(Arr Int 3)):St:=⟨[(0,.sl (a0.map (eI .u8))),(2,.ptr 0 0 0),(5,.ptr 1 0 0),(6,.int .i64 g1.1),(7,.int .i64 g1.2.1)],[(0,⟨false,3,(Proc.enc Proc.zero),[Proc.enc Proc.zero]⟩),(1,⟨false,3,(Arr.enc (eI .u64) (Arr.rep 3 0)),[Arr.enc (eI .u64) g1.2.2]⟩)],2⟩
def zC5 (a0:List Int):Option (Proc×Int×Int) :=
 (zb4 (zr6 a0) (0,0,(Arr.rep 3 0))).bind (fun|.inl z=>zac9 z|.inr z=>some z)
theorem zbp7 (a0:List Int) (r:Proc×Int×Int) (h:zC5 a0=some r):PFn C 52 [.sl (a0.map (eI .u8))] (.tup [.agg (Proc.enc r.1),.int .i64 r.2.1,.int .i64 r.2.2]):=by
 refine za7 zfg5 rfl fun E hG hN hK=>?_
 unfold zdg1
 unfold zC5 at h
 refine za0 (za1 hG ?_)
 refine za0 (za1 hG ?_)
 refine za0 (za1 hG ?_)
 refine za0 (za0 (za1 hG ?_))
 refine zb2 (zeL8) (fun v=>zac9 v=some r) ?_ ?_
 · intro j1 h
   unfold zac9 at h
   refine g_st ?_
   refine za0 (za0 (za1 hG ?_))
   refine za3 rfl hG h (fun _ h=>?_) (fun _ h=>?_)
   · refine za0 (za1 hG ?_)
     refine za6 ?_
     exact zb0 h
   refine za4 ?_
   refine za0 (za1 hG ?_)
   refine za0 (za0 (za1 hG ?_))
   refine za8 (fun hg=>zF9 (⟨(IntKind.i64.wrap (Arr.get j1.2 0 0)),(IntKind.i64.wrap (Arr.get j1.2 1 0)),(IntKind.i64.wrap (Arr.get j1.2 2 0))⟩:Proc)) ?_
   refine za3 rfl hG h (fun _ h=>?_) (fun _ h=>?_)
   · refine za0 (za1 hG ?_)
     refine za6 ?_
     exact zb0 h
   refine za4 ?_
   refine za0 (za1 hG ?_)
   refine za6 ?_
   exact zb0 h
 refine zc8 (zeL9 a0) hK [(0,0),(1,1)] h (fun x_l1 h g1 y_l1 h_l1 hx_l1=>?_)
 unfold zr6 at h_l1
 refine g_st ?_
 refine za0 (za0 (za1 hG ?_))
 refine za3 rfl hG h_l1 (fun _ h_l1=>?_) (fun _ h_l1=>?_)
 · refine za4 ?_
   refine za0 (zb3 (za0 ?_))
   obtain ⟨hb2,h_l1⟩:=za5 h_l1
   refine za1 hG ?_
   obtain ⟨v1,hv1,h_l1⟩:=za2 h_l1
   refine za8 (fun hg=>zav0 _ _ hv1) ?_
   refine za0 (za0 (za1 hG ?_))
   refine za3 rfl hG h_l1 (fun _ h_l1=>?_) (fun _ h_l1=>?_)
   · refine za0 (za1 hG ?_)
     refine za6 ?_
     cases h_l1
     cases hx_l1 _ rfl
     exact zb0 h
   refine za4 ?_
   refine za0 ?_
   obtain ⟨hb1,h_l1⟩:=za5 h_l1
   refine za1 hG ?_
   refine za1 hG ?_
   refine za1 hG ?_
   exact zc2 hK [(0,0),(1,1)] h_l1
 refine zb5 ?_
 cases h_l1
 cases hx_l1 _ rfl
 exact zb8 hK [(0,0),(1,1)] (g1.1,g1.2.2) (by exact h)
attribute [local irreducible] zC5
def zg3 (a0:ref16Reader):Option (Proc×ref16Reader) :=
 (if (!decide (a0.e=0))=true then
  some ({ Proc.zero with  },a0)
 else
  gd (0≤a0.at_∧a0.at_≤(a0.b.length:Int)∧(a0.b.length:Int)≤(a0.b.length:Int)) <|
  (zC5 (a0.b.drop a0.at_.toNat)).bind fun v1 =>
  (if (!decide (v1.2.2=0))=true then
   some ({ Proc.zero with  },{ a0 with e:=v1.2.2 })
  else
   some (v1.1,{ a0 with at_:=(IntKind.i64.wrap (a0.at_+v1.2.1)) })))
theorem zI6 (a0:ref16Reader) (r:Proc×ref16Reader) (h:zg3 a0=some r):MFn C 21 [.ptr 0 0 0] [(0,⟨false,3,(ref16Reader.enc ref16Reader.zero),[ref16Reader.enc a0]⟩)] 1 (.agg (Proc.enc r.1)) [(0,⟨false,3,(ref16Reader.enc ref16Reader.zero),[ref16Reader.enc r.2]⟩)] 1:=by
 refine zh0 (rl:=[.agg (Proc.enc r.1)]) zfg6 rfl rfl rfl rfl fun E hG hN hK=>?_
 unfold zdh1
 unfold zg3 at h
 refine za0 (za1 hG ?_)
 refine za0 (za0 (za1 hG ?_))
 refine za3 rfl hG h (fun _ h=>?_) (fun _ h=>?_)
 · refine za0 (za1 hG ?_)
   refine za6 ?_
   exact ze0 [(0,0)] h
 refine za4 ?_
 refine za0 ?_
 obtain ⟨hb1,h⟩:=za5 h
 refine zab5 ze5 hG ?_
 obtain ⟨v1,hv1,h⟩:=za2 h
 refine zaQ6 (fun hg=>zbp7 _ _ hv1) ?_
 refine za0 (za0 (za1 hG ?_))
 refine za3 rfl hG h (fun _ h=>?_) (fun _ h=>?_)
 · refine za0 (za1 hG ?_)
   refine za0 (za1 hG ?_)
   refine za6 ?_
   exact ze0 [(0,0)] h
 refine za4 ?_
 refine za0 (za1 hG ?_)
 refine za0 (za1 hG ?_)
 refine za6 ?_
 exact ze0 [(0,0)] h
attribute [local irreducible] zg3
def zf2 (a0:ref16Reader):Option (Amount×ref16Reader) :=
 (zc5 a0).bind fun v1 =>
 (zc5 v1.2).bind fun v2 =>
 some ((⟨v1.1,v2.1⟩:Amount),v2.2)
theorem zD7 (a0:ref16Reader) (r:Amount×ref16Reader) (h:zf2 a0=some r):MFn C 51 [.ptr 0 0 0] [(0,⟨false,3,(ref16Reader.enc ref16Reader.zero),[ref16Reader.enc a0]⟩)] 1 (.agg (Amount.enc r.1)) [(0,⟨false,3,(ref16Reader.enc ref16Reader.zero),[ref16Reader.enc r.2]⟩)] 1:=by
 refine zh0 (rl:=[.agg (Amount.enc r.1)]) zfg7 rfl rfl rfl rfl fun E hG hN hK=>?_
 unfold zdh5
 unfold zf2 at h
 refine za0 (za1 hG ?_)
 refine za0 (za1 hG ?_)
 obtain ⟨v1,hv1,h⟩:=za2 h
 refine zd3 [(0,0)] [] [0] (zi8 _ _ hv1) rfl rfl ?_
 refine za0 (za1 hG ?_)
 obtain ⟨v2,hv2,h⟩:=za2 h
 refine zd3 [(0,0)] [] [0] (zi8 _ _ hv2) rfl rfl ?_
 refine za6 ?_
 exact ze0 [(0,0)] h
attribute [local irreducible] zf2
def zD8  (j3:ref16Reader×Queue):Option (Queue×ref16Reader) :=
 some (j3.2,j3.1)
@[go_sem] def zeM0  (j3:ref16Reader×Queue):St:=⟨[(2,.ptr 1 0 0),(3,.ptr 2 0 0)],[(0,⟨false,3,(ref16Reader.enc ref16Reader.zero),[ref16Reader.enc j3.1]⟩),(1,⟨false,8,(Queue.enc Queue.zero),[Queue.enc Queue.zero]⟩),(2,⟨false,8,(Queue.enc Queue.zero),[[.str j3.2.resource.name,.int .i64 j3.2.resource.kind,.int .i64 j3.2.resource.units,.int .i64 j3.2.resource.home,.own 3 0 j3.2.holds.length,.own 4 0 j3.2.converts.length,.own 5 0 j3.2.waits.length,.int .i64 j3.2.gen]]⟩),(3,⟨false,5,(Hold.enc Hold.zero),j3.2.holds.map Hold.enc⟩),(4,⟨false,7,(Wait.enc Wait.zero),j3.2.converts.map Wait.enc⟩),(5,⟨false,7,(Wait.enc Wait.zero),j3.2.waits.map Wait.enc⟩)],6⟩
def zn5 (v8:Int×ref16Reader) (g1:Int×ref16Reader×Queue):Option ((Int×ref16Reader×Queue)⊕((ref16Reader×Queue))) :=
 (if ((decide (g1.1 < v8.1))&&(decide (g1.2.1.e=0)))=true then
  (zg3 g1.2.1).bind fun v9 =>
  (zf2 v9.2).bind fun v10 =>
  (zc5 v10.2).bind fun v11 =>
  (zc5 v11.2).bind fun v12 =>
  gd (g1.2.2.waits.length+1≤4294967296) <|
  some (.inl ((IntKind.i64.wrap (g1.1+1)),v12.2,(⟨(⟨g1.2.2.resource.name,g1.2.2.resource.kind,g1.2.2.resource.units,g1.2.2.resource.home⟩:Resource),g1.2.2.holds,g1.2.2.converts,(g1.2.2.waits++[{ { { { Wait.zero with proc:=v9.1 } with amount:=v10.1 } with priority:=v11.1 } with passed:=v12.1 }]),g1.2.2.gen⟩:Queue)))
 else
  some (.inr (g1.2.1,g1.2.2)))
@[go_sem] def zeM1 (v8:Int×ref16Reader) (g1:Int×ref16Reader×Queue):St:=⟨[(0,.ptr 0 0 0),(2,.ptr 1 0 0),(3,.ptr 2 0 0),(4,.int .i64 v8.1),(9,.int .i64 g1.1)],[(0,⟨false,3,(ref16Reader.enc ref16Reader.zero),[ref16Reader.enc g1.2.1]⟩),(1,⟨false,8,(Queue.enc Queue.zero),[Queue.enc Queue.zero]⟩),(2,⟨false,8,(Queue.enc Queue.zero),[[.str g1.2.2.resource.name,.int .i64 g1.2.2.resource.kind,.int .i64 g1.2.2.resource.units,.int .i64 g1.2.2.resource.home,.own 3 0 g1.2.2.holds.length,.own 4 0 g1.2.2.converts.length,.own 5 0 g1.2.2.waits.length,.int .i64 g1.2.2.gen]]⟩),(3,⟨false,5,(Hold.enc Hold.zero),g1.2.2.holds.map Hold.enc⟩),(4,⟨false,7,(Wait.enc Wait.zero),g1.2.2.converts.map Wait.enc⟩),(5,⟨false,7,(Wait.enc Wait.zero),g1.2.2.waits.map Wait.enc⟩)],6⟩
def zD9  (j2:ref16Reader×Queue):Option (Queue×ref16Reader) :=
 (ze8 8 j2.1).bind fun v8 =>
 (zb4 (zn5 v8) (0,v8.2,j2.2)).bind (fun z=>zD8 z)
@[go_sem] def zeM2  (j2:ref16Reader×Queue):St:=⟨[(0,.ptr 0 0 0),(2,.ptr 1 0 0),(3,.ptr 2 0 0)],[(0,⟨false,3,(ref16Reader.enc ref16Reader.zero),[ref16Reader.enc j2.1]⟩),(1,⟨false,8,(Queue.enc Queue.zero),[Queue.enc Queue.zero]⟩),(2,⟨false,8,(Queue.enc Queue.zero),[[.str j2.2.resource.name,.int .i64 j2.2.resource.kind,.int .i64 j2.2.resource.units,.int .i64 j2.2.resource.home,.own 3 0 j2.2.holds.length,.own 4 0 j2.2.converts.length,.own 5 0 j2.2.waits.length,.int .i64 j2.2.gen]]⟩),(3,⟨false,5,(Hold.enc Hold.zero),j2.2.holds.map Hold.enc⟩),(4,⟨false,7,(Wait.enc Wait.zero),j2.2.converts.map Wait.enc⟩),(5,⟨false,7,(Wait.enc Wait.zero),j2.2.waits.map Wait.enc⟩)],6⟩
def zn6 (v7:Int×ref16Reader) (g2:Int×ref16Reader×Queue):Option ((Int×ref16Reader×Queue)⊕((ref16Reader×Queue))) :=
 (if ((decide (g2.1 < v7.1))&&(decide (g2.2.1.e=0)))=true then
  (zg3 g2.2.1).bind fun v13 =>
  (zf2 v13.2).bind fun v14 =>
  gd (g2.2.2.converts.length+1≤4294967296) <|
  some (.inl ((IntKind.i64.wrap (g2.1+1)),v14.2,(⟨(⟨g2.2.2.resource.name,g2.2.2.resource.kind,g2.2.2.resource.units,g2.2.2.resource.home⟩:Resource),g2.2.2.holds,(g2.2.2.converts++[{ Wait.zero with proc:=v13.1,amount:=v14.1 }]),g2.2.2.waits,g2.2.2.gen⟩:Queue)))
 else
  some (.inr (g2.2.1,g2.2.2)))
@[go_sem] def zeM3 (v7:Int×ref16Reader) (g2:Int×ref16Reader×Queue):St:=⟨[(0,.ptr 0 0 0),(2,.ptr 1 0 0),(3,.ptr 2 0 0),(4,.int .i64 v7.1),(7,.int .i64 g2.1)],[(0,⟨false,3,(ref16Reader.enc ref16Reader.zero),[ref16Reader.enc g2.2.1]⟩),(1,⟨false,8,(Queue.enc Queue.zero),[Queue.enc Queue.zero]⟩),(2,⟨false,8,(Queue.enc Queue.zero),[[.str g2.2.2.resource.name,.int .i64 g2.2.2.resource.kind,.int .i64 g2.2.2.resource.units,.int .i64 g2.2.2.resource.home,.own 3 0 g2.2.2.holds.length,.own 4 0 g2.2.2.converts.length,.own 5 0 g2.2.2.waits.length,.int .i64 g2.2.2.gen]]⟩),(3,⟨false,5,(Hold.enc Hold.zero),g2.2.2.holds.map Hold.enc⟩),(4,⟨false,7,(Wait.enc Wait.zero),g2.2.2.converts.map Wait.enc⟩),(5,⟨false,7,(Wait.enc Wait.zero),g2.2.2.waits.map Wait.enc⟩)],6⟩
def zE0  (j1:ref16Reader×Queue):Option (Queue×ref16Reader) :=
 (ze8 8 j1.1).bind fun v7 =>
 (zb4 (zn6 v7) (0,v7.2,j1.2)).bind (fun z=>zD9 z)
@[go_sem] def zeM4  (j1:ref16Reader×Queue):St:=⟨[(0,.ptr 0 0 0),(2,.ptr 1 0 0),(3,.ptr 2 0 0)],[(0,⟨false,3,(ref16Reader.enc ref16Reader.zero),[ref16Reader.enc j1.1]⟩),(1,⟨false,8,(Queue.enc Queue.zero),[Queue.enc Queue.zero]⟩),(2,⟨false,8,(Queue.enc Queue.zero),[[.str j1.2.resource.name,.int .i64 j1.2.resource.kind,.int .i64 j1.2.resource.units,.int .i64 j1.2.resource.home,.own 3 0 j1.2.holds.length,.own 4 0 j1.2.converts.length,.own 5 0 j1.2.waits.length,.int .i64 j1.2.gen]]⟩),(3,⟨false,5,(Hold.enc Hold.zero),j1.2.holds.map Hold.enc⟩),(4,⟨false,7,(Wait.enc Wait.zero),j1.2.converts.map Wait.enc⟩),(5,⟨false,7,(Wait.enc Wait.zero),j1.2.waits.map Wait.enc⟩)],6⟩
def zn7 (v6:Int×ref16Reader) (g3:Int×ref16Reader×Queue):Option ((Int×ref16Reader×Queue)⊕((ref16Reader×Queue))) :=
 (if ((decide (g3.1 < v6.1))&&(decide (g3.2.1.e=0)))=true then
  (zg3 g3.2.1).bind fun v15 =>
  (zf2 v15.2).bind fun v16 =>
  gd (g3.2.2.holds.length+1≤4294967296) <|
  some (.inl ((IntKind.i64.wrap (g3.1+1)),v16.2,(⟨(⟨g3.2.2.resource.name,g3.2.2.resource.kind,g3.2.2.resource.units,g3.2.2.resource.home⟩:Resource),(g3.2.2.holds++[(⟨v15.1,v16.1⟩:Hold)]),g3.2.2.converts,g3.2.2.waits,g3.2.2.gen⟩:Queue)))
 else
  some (.inr (g3.2.1,g3.2.2)))
@[go_sem] def zeM5 (v6:Int×ref16Reader) (g3:Int×ref16Reader×Queue):St:=⟨[(0,.ptr 0 0 0),(2,.ptr 1 0 0),(3,.ptr 2 0 0),(4,.int .i64 v6.1),(5,.int .i64 g3.1)],[(0,⟨false,3,(ref16Reader.enc ref16Reader.zero),[ref16Reader.enc g3.2.1]⟩),(1,⟨false,8,(Queue.enc Queue.zero),[Queue.enc Queue.zero]⟩),(2,⟨false,8,(Queue.enc Queue.zero),[[.str g3.2.2.resource.name,.int .i64 g3.2.2.resource.kind,.int .i64 g3.2.2.resource.units,.int .i64 g3.2.2.resource.home,.own 3 0 g3.2.2.holds.length,.own 4 0 g3.2.2.converts.length,.own 5 0 g3.2.2.waits.length,.int .i64 g3.2.2.gen]]⟩),(3,⟨false,5,(Hold.enc Hold.zero),g3.2.2.holds.map Hold.enc⟩),(4,⟨false,7,(Wait.enc Wait.zero),g3.2.2.converts.map Wait.enc⟩),(5,⟨false,7,(Wait.enc Wait.zero),g3.2.2.waits.map Wait.enc⟩)],6⟩
def zi9 (a0:ref16Reader):Option (Queue×ref16Reader) :=
 (zi5 a0).bind fun v1 =>
 (zc5 v1.2).bind fun v2 =>
 (zc5 v2.2).bind fun v3 =>
 (zc5 v3.2).bind fun v4 =>
 (zc5 v4.2).bind fun v5 =>
 (ze8 8 v5.2).bind fun v6 =>
 (zb4 (zn7 v6) (0,v6.2,(⟨(⟨v1.1,v2.1,v3.1,v4.1⟩:Resource),[],[],[],v5.1⟩:Queue))).bind (fun z=>zE0 z)
theorem zav1 (a0:ref16Reader) (r:Queue×ref16Reader) (h:zi9 a0=some r):MFn C 20 [.ptr 0 0 0] [(0,⟨false,3,(ref16Reader.enc ref16Reader.zero),[ref16Reader.enc a0]⟩)] 1 (.agg (Queue.enc r.1)) [(0,⟨false,3,(ref16Reader.enc ref16Reader.zero),[ref16Reader.enc r.2]⟩)] 1:=by
 refine zh0 (rl:=[.agg (Queue.enc r.1)]) zfg8 rfl rfl rfl rfl fun E hG hN hK=>?_
 unfold zdi6
 unfold zi9 at h
 refine za0 (za1 hG ?_)
 refine za0 (za1 hG ?_)
 refine g_gh (.ownb 2 4 5 (Hold.enc Hold.zero)) ?_
 refine g_gh (.ownb 2 5 7 (Wait.enc Wait.zero)) ?_
 refine g_gh (.ownb 2 6 7 (Wait.enc Wait.zero)) ?_
 refine za0 (za1 hG ?_)
 obtain ⟨v1,hv1,h⟩:=za2 h
 refine zd3 [(0,0)] [] [0] (zaf1 _ _ hv1) rfl rfl ?_
 refine za0 (za1 hG ?_)
 obtain ⟨v2,hv2,h⟩:=za2 h
 refine zd3 [(0,0)] [] [0] (zi8 _ _ hv2) rfl rfl ?_
 refine za0 (za1 hG ?_)
 obtain ⟨v3,hv3,h⟩:=za2 h
 refine zd3 [(0,0)] [] [0] (zi8 _ _ hv3) rfl rfl ?_
 refine za0 (za1 hG ?_)
 obtain ⟨v4,hv4,h⟩:=za2 h
 refine zd3 [(0,0)] [] [0] (zi8 _ _ hv4) rfl rfl ?_
 refine za0 (za1 hG ?_)
 obtain ⟨v5,hv5,h⟩:=za2 h
 refine zd3 [(0,0)] [] [0] (zi8 _ _ hv5) rfl rfl ?_
 refine za0 (za1 hG ?_)
 obtain ⟨v6,hv6,h⟩:=za2 h
 refine zd3 [(0,0)] [] [0] (zs5 _ _ _ hv6) rfl rfl ?_
 refine za0 (za0 (za1 hG ?_))
 refine zb2 (zeM4) (fun v=>zE0 v=some r) ?_ ?_
 · intro j1 h
   unfold zE0 at h
   refine g_st ?_
   refine za0 (za1 hG ?_)
   obtain ⟨v7,hv7,h⟩:=za2 h
   refine zd3 [(0,0)] [] [0] (zs5 _ _ _ hv7) rfl rfl ?_
   refine za0 (za0 (za1 hG ?_))
   refine zb2 (zeM2) (fun v=>zD9 v=some r) ?_ ?_
   · intro j2 h
     unfold zD9 at h
     refine g_st ?_
     refine za0 (za1 hG ?_)
     obtain ⟨v8,hv8,h⟩:=za2 h
     refine zd3 [(0,0)] [] [0] (zs5 _ _ _ hv8) rfl rfl ?_
     refine za0 (za0 (za1 hG ?_))
     refine zb2 (zeM0) (fun v=>zD8 v=some r) ?_ ?_
     · intro j3 h
       unfold zD8 at h
       refine g_st ?_
       refine za0 (za1 hG ?_)
       refine g_gh (.fz [3,4,5]) ?_
       refine za6 ?_
       exact ze0 [(0,0)] h
     refine zc8 (zeM1 v8) hK [(0,0),(1,1),(2,2),(3,3),(4,4),(5,5)] h (fun x_l1 h g1 y_l1 h_l1 hx_l1=>?_)
     unfold zn5 at h_l1
     refine g_st ?_
     refine za0 (za0 (za1 hG ?_))
     refine za3 rfl hG h_l1 (fun _ h_l1=>?_) (fun _ h_l1=>?_)
     · refine za4 ?_
       refine za0 (zb3 (za0 (za1 hG ?_)))
       obtain ⟨v9,hv9,h_l1⟩:=za2 h_l1
       refine zd3 [(0,0)] [] [0] (zI6 _ _ hv9) rfl rfl ?_
       refine za0 (za1 hG ?_)
       obtain ⟨v10,hv10,h_l1⟩:=za2 h_l1
       refine zd3 [(0,0)] [] [0] (zD7 _ _ hv10) rfl rfl ?_
       refine za0 (za1 hG ?_)
       obtain ⟨v11,hv11,h_l1⟩:=za2 h_l1
       refine zd3 [(0,0)] [] [0] (zi8 _ _ hv11) rfl rfl ?_
       refine za0 (za1 hG ?_)
       obtain ⟨v12,hv12,h_l1⟩:=za2 h_l1
       refine zd3 [(0,0)] [] [0] (zi8 _ _ hv12) rfl rfl ?_
       obtain ⟨hb1,h_l1⟩:=za5 h_l1
       refine za1 hG ?_
       refine za1 hG ?_
       exact zc2 hK [(0,0),(1,1),(2,2),(3,3),(4,4),(5,7)] h_l1
     refine zb5 ?_
     cases h_l1
     cases hx_l1 _ rfl
     exact zb8 hK [(0,0),(1,1),(2,2),(3,3),(4,4),(5,5)] (g1.2.1,g1.2.2) (by exact h)
   refine zc8 (zeM3 v7) hK [(0,0),(1,1),(2,2),(3,3),(4,4),(5,5)] h (fun x_l2 h g2 y_l2 h_l2 hx_l2=>?_)
   unfold zn6 at h_l2
   refine g_st ?_
   refine za0 (za0 (za1 hG ?_))
   refine za3 rfl hG h_l2 (fun _ h_l2=>?_) (fun _ h_l2=>?_)
   · refine za4 ?_
     refine za0 (zb3 (za0 (za1 hG ?_)))
     obtain ⟨v13,hv13,h_l2⟩:=za2 h_l2
     refine zd3 [(0,0)] [] [0] (zI6 _ _ hv13) rfl rfl ?_
     refine zab5 ze5 hG ?_
     obtain ⟨v14,hv14,h_l2⟩:=za2 h_l2
     obtain ⟨hb2,h_l2⟩:=za5 h_l2
     refine zac1 [(0,0)] [] [0] (zD7 _ _ hv14) rfl rfl ?_
     refine za1 hG ?_
     exact zc2 hK [(0,0),(1,1),(2,2),(3,3),(4,7),(5,5)] h_l2
   refine zb5 ?_
   cases h_l2
   cases hx_l2 _ rfl
   exact zb8 hK [(0,0),(1,1),(2,2),(3,3),(4,4),(5,5)] (g2.2.1,g2.2.2) (by exact h)
 refine zc8 (zeM5 v6) hK [(0,0),(1,1),(2,2),(3,3),(4,4),(5,5)] h (fun x_l3 h g3 y_l3 h_l3 hx_l3=>?_)
 unfold zn7 at h_l3
 refine g_st ?_
 refine za0 (za0 (za1 hG ?_))
 refine za3 rfl hG h_l3 (fun _ h_l3=>?_) (fun _ h_l3=>?_)
 · refine za4 ?_
   refine za0 (zb3 (za0 (za1 hG ?_)))
   obtain ⟨v15,hv15,h_l3⟩:=za2 h_l3
   refine zd3 [(0,0)] [] [0] (zI6 _ _ hv15) rfl rfl ?_
   refine zab5 ze5 hG ?_
   obtain ⟨v16,hv16,h_l3⟩:=za2 h_l3
   obtain ⟨hb3,h_l3⟩:=za5 h_l3
   refine zac1 [(0,0)] [] [0] (zD7 _ _ hv16) rfl rfl ?_
   refine za1 hG ?_
   exact zc2 hK [(0,0),(1,1),(2,2),(3,7),(4,4),(5,5)] h_l3
 refine zb5 ?_
 cases h_l3
 cases hx_l3 _ rfl
 exact zb8 hK [(0,0),(1,1),(2,2),(3,3),(4,4),(5,5)] (g3.2.1,g3.2.2) (by exact h)
attribute [local irreducible] zi9
def zG7  (j2:ref16Reader×Expr):Option (Expr×ref16Reader) :=
 some (j2.2,j2.1)
@[go_sem] def zeM6  (j2:ref16Reader×Expr):St:=⟨[(4,.ptr 1 0 0),(5,.ptr 2 0 0)],[(0,⟨false,3,(ref16Reader.enc ref16Reader.zero),[ref16Reader.enc j2.1]⟩),(1,⟨false,5,(Expr.enc Expr.zero),[Expr.enc Expr.zero]⟩),(2,⟨false,5,(Expr.enc Expr.zero),[[.int .i64 j2.2.k,.str j2.2.atom.name,.int .i64 j2.2.atom.amount.mode,.int .i64 j2.2.atom.amount.units,.own 3 0 j2.2.kids.length]]⟩),(3,⟨false,5,(Expr.enc Expr.zero),j2.2.kids.map Expr.enc⟩)],4⟩
def zo9 (a90:(Int→ref16Reader→Option (Expr×ref16Reader))) (a0:Int) (v4:Int×ref16Reader) (g1:Int×ref16Reader×Expr):Option ((Int×ref16Reader×Expr)⊕((ref16Reader×Expr))) :=
 (if ((decide (g1.1 < v4.1))&&(decide (g1.2.1.e=0)))=true then
  (a90 (IntKind.i64.wrap (a0+1)) g1.2.1).bind fun v5 =>
  gd (g1.2.2.kids.length+1≤4294967296) <|
  some (.inl ((IntKind.i64.wrap (g1.1+1)),v5.2,(⟨g1.2.2.k,(⟨g1.2.2.atom.name,(⟨g1.2.2.atom.amount.mode,g1.2.2.atom.amount.units⟩:Amount)⟩:Atom),(g1.2.2.kids++[v5.1])⟩:Expr)))
 else
  some (.inr (g1.2.1,g1.2.2)))
@[go_sem] def zeM7 (a0:Int) (v4:Int×ref16Reader) (g1:Int×ref16Reader×Expr):St:=⟨[(0,.ptr 0 0 0),(1,.int .i64 a0),(4,.ptr 1 0 0),(5,.ptr 2 0 0),(6,.int .i64 v4.1),(7,.int .i64 g1.1)],[(0,⟨false,3,(ref16Reader.enc ref16Reader.zero),[ref16Reader.enc g1.2.1]⟩),(1,⟨false,5,(Expr.enc Expr.zero),[Expr.enc Expr.zero]⟩),(2,⟨false,5,(Expr.enc Expr.zero),[[.int .i64 g1.2.2.k,.str g1.2.2.atom.name,.int .i64 g1.2.2.atom.amount.mode,.int .i64 g1.2.2.atom.amount.units,.own 3 0 g1.2.2.kids.length]]⟩),(3,⟨false,5,(Expr.enc Expr.zero),g1.2.2.kids.map Expr.enc⟩)],4⟩
def zs6 (a90:(Int→ref16Reader→Option (Expr×ref16Reader))) (a0:Int) (j1:ref16Reader):Option (Expr×ref16Reader) :=
 (zc5 j1).bind fun v1 =>
 (if (!decide (v1.2.e=0))=true then
  some ((⟨v1.1,(⟨Expr.zero.atom.name,(⟨Expr.zero.atom.amount.mode,Expr.zero.atom.amount.units⟩:Amount)⟩:Atom),[]⟩:Expr),v1.2)
 else
  (if (decide (v1.1=0))=true then
   (zi5 v1.2).bind fun v2 =>
   (zf2 v2.2).bind fun v3 =>
   some ((⟨v1.1,(⟨v2.1,(⟨v3.1.mode,v3.1.units⟩:Amount)⟩:Atom),[]⟩:Expr),v3.2)
  else
   (ze8 24 v1.2).bind fun v4 =>
   (zb4 (zo9 a90 a0 v4) (0,v4.2,(⟨v1.1,(⟨Expr.zero.atom.name,(⟨Expr.zero.atom.amount.mode,Expr.zero.atom.amount.units⟩:Amount)⟩:Atom),[]⟩:Expr))).bind (fun z=>zG7 z)))
@[go_sem] def zeM8 (a0:Int) (j1:ref16Reader):St:=⟨[(0,.ptr 0 0 0),(1,.int .i64 a0),(4,.ptr 1 0 0)],[(0,⟨false,3,(ref16Reader.enc ref16Reader.zero),[ref16Reader.enc j1]⟩),(1,⟨false,5,(Expr.enc Expr.zero),[Expr.enc Expr.zero]⟩)],2⟩
def zA2 (a90:(Int→ref16Reader→Option (Expr×ref16Reader))) (a0:Int) (a1:ref16Reader):Option (Expr×ref16Reader) :=
 (if ((decide (a1.e=0))&&(decide (4 < a0)))=true then
  zs6 a90 a0 ({ a1 with e:=4 })
 else
  zs6 a90 a0 a1)
def zr3:Nat→(Int→ref16Reader→Option (Expr×ref16Reader))
 | 0=>fun _ _=>none
 | n+1=>zA2 (zr3 n)
def zl0 (a0:Int) (a1:ref16Reader):Option (Expr×ref16Reader):=zr3 ((6 - a0).toNat+1) a0 a1
theorem zaw7 (a90:(Int→ref16Reader→Option (Expr×ref16Reader))) (hrc:∀ (a0:Int) (a1:ref16Reader) (r:Expr×ref16Reader),a90 a0 a1=some r→MFn C 23 [.ptr 0 0 0,.int .i64 a0] [(0,⟨false,3,(ref16Reader.enc ref16Reader.zero),[ref16Reader.enc a1]⟩)] 1 (.agg (Expr.enc r.1)) [(0,⟨false,3,(ref16Reader.enc ref16Reader.zero),[ref16Reader.enc r.2]⟩)] 1) (a0:Int) (a1:ref16Reader) (r:Expr×ref16Reader) (h:zA2 a90 a0 a1=some r):MFn C 23 [.ptr 0 0 0,.int .i64 a0] [(0,⟨false,3,(ref16Reader.enc ref16Reader.zero),[ref16Reader.enc a1]⟩)] 1 (.agg (Expr.enc r.1)) [(0,⟨false,3,(ref16Reader.enc ref16Reader.zero),[ref16Reader.enc r.2]⟩)] 1:=by
 refine zh0 (rl:=[.agg (Expr.enc r.1)]) zfg9 rfl rfl rfl rfl fun E hG hN hK=>?_
 unfold zdj7
 unfold zA2 at h
 refine za0 (za1 hG ?_)
 refine za0 (za0 (za1 hG ?_))
 refine zaQ7 (zeM8 a0) (fun v=>zs6 a90 a0 v=some r) rfl hG h ?_ (fun _ h=>?_) (fun _ h=>?_)
 · intro j1 h
   unfold zs6 at h
   refine g_st ?_
   refine za0 (za1 hG ?_)
   refine g_gh (.ownb 2 4 5 (Expr.enc Expr.zero)) ?_
   refine za0 (za1 hG ?_)
   obtain ⟨v1,hv1,h⟩:=za2 h
   refine zd3 [(0,0)] [] [0] (zi8 _ _ hv1) rfl rfl ?_
   refine za0 (za0 (za1 hG ?_))
   refine za3 rfl hG h (fun _ h=>?_) (fun _ h=>?_)
   · refine za0 (za1 hG ?_)
     refine g_gh (.fz [3]) ?_
     refine za6 ?_
     exact ze0 [(0,0)] h
   refine za4 ?_
   refine za0 (za0 (za1 hG ?_))
   refine za3 rfl hG h (fun _ h=>?_) (fun _ h=>?_)
   · refine za0 (za1 hG ?_)
     obtain ⟨v2,hv2,h⟩:=za2 h
     refine zd3 [(0,0)] [] [0] (zaf1 _ _ hv2) rfl rfl ?_
     refine za0 (za1 hG ?_)
     obtain ⟨v3,hv3,h⟩:=za2 h
     refine zd3 [(0,0)] [] [0] (zD7 _ _ hv3) rfl rfl ?_
     refine za0 (za1 hG ?_)
     refine g_gh (.fz [3]) ?_
     refine za6 ?_
     exact ze0 [(0,0)] h
   refine za4 ?_
   refine za0 (za1 hG ?_)
   obtain ⟨v4,hv4,h⟩:=za2 h
   refine zd3 [(0,0)] [] [0] (zs5 _ _ _ hv4) rfl rfl ?_
   refine za0 (za0 (za1 hG ?_))
   refine zb2 (zeM6) (fun v=>zG7 v=some r) ?_ ?_
   · intro j2 h
     unfold zG7 at h
     refine g_st ?_
     refine za0 (za1 hG ?_)
     refine g_gh (.fz [3]) ?_
     refine za6 ?_
     exact ze0 [(0,0)] h
   refine zc8 (zeM7 a0 v4) hK [(0,0),(1,1),(2,2),(3,3)] h (fun x_l1 h g1 y_l1 h_l1 hx_l1=>?_)
   unfold zo9 at h_l1
   refine g_st ?_
   refine za0 (za0 (za1 hG ?_))
   refine za3 rfl hG h_l1 (fun _ h_l1=>?_) (fun _ h_l1=>?_)
   · refine za4 ?_
     refine za0 (zb3 (zab5 ze5 hG ?_))
     obtain ⟨v5,hv5,h_l1⟩:=za2 h_l1
     obtain ⟨hb1,h_l1⟩:=za5 h_l1
     refine zac1 [(0,0)] [] [0] (hrc (IntKind.i64.wrap (a0+1)) g1.2.1 _ hv5) rfl rfl ?_
     refine za1 hG ?_
     exact zc2 hK [(0,0),(1,1),(2,2),(3,4)] h_l1
   refine zb5 ?_
   cases h_l1
   cases hx_l1 _ rfl
   exact zb8 hK [(0,0),(1,1),(2,2),(3,3)] (g1.2.1,g1.2.2) (by exact h)
 · refine za1 hG ?_
   exact zb8 hK [(0,0),(1,1)] ({ a1 with e:=4 }) (by exact h)
 refine za4 ?_
 exact zb8 hK [(0,0),(1,1)] a1 (by exact h)
theorem zaf2:∀ (n:Nat) (a0:Int) (a1:ref16Reader) (r:Expr×ref16Reader),zr3 n a0 a1=some r→MFn C 23 [.ptr 0 0 0,.int .i64 a0] [(0,⟨false,3,(ref16Reader.enc ref16Reader.zero),[ref16Reader.enc a1]⟩)] 1 (.agg (Expr.enc r.1)) [(0,⟨false,3,(ref16Reader.enc ref16Reader.zero),[ref16Reader.enc r.2]⟩)] 1
 | 0,_,_,_,h=>nomatch h
 | n+1,a0,a1,r,h=>zaw7 (zr3 n) (zaf2 n) a0 a1 r h
theorem zaw8 (a0:Int) (a1:ref16Reader) (r:Expr×ref16Reader) (h:zl0 a0 a1=some r):MFn C 23 [.ptr 0 0 0,.int .i64 a0] [(0,⟨false,3,(ref16Reader.enc ref16Reader.zero),[ref16Reader.enc a1]⟩)] 1 (.agg (Expr.enc r.1)) [(0,⟨false,3,(ref16Reader.enc ref16Reader.zero),[ref16Reader.enc r.2]⟩)] 1:=zaf2 _ a0 a1 r h
attribute [local irreducible] zl0
def zC6 (a0:Int):Bool :=
 ((decide (97≤a0))&&(decide (a0≤122)))
theorem zaC7 (a0:Int):PFn C 176 [.int .u8 a0] (.bool (zC6 a0)):=by
 generalize h:zC6 a0=r
 refine za7 zfh0 rfl fun E hG hN hK=>?_
 unfold zdk0
 unfold zC6 at h
 refine za0 (za1 hG ?_)
 refine za0 (za1 hG ?_)
 refine za6 ?_
 exact zm0 h
def zw2 (a0:ByteArray):Bool :=
 (((((a0.toList == (⟨#[97,108,108]⟩:ByteArray).toList)||(a0.toList == (⟨#[97,110,121]⟩:ByteArray).toList))||(a0.toList == (⟨#[111,102]⟩:ByteArray).toList))||(a0.toList == (⟨#[112,114,105,111]⟩:ByteArray).toList))||(a0.toList == (⟨#[108,105,109,105,116]⟩:ByteArray).toList))
theorem zaR3 (a0:ByteArray):PFn C 177 [.str a0] (.bool (zw2 a0)):=by
 generalize h:zw2 a0=r
 refine za7 zfh1 rfl fun E hG hN hK=>?_
 unfold zdk3
 unfold zw2 at h
 refine za0 (za1 hG ?_)
 refine za0 (za1 hG ?_)
 refine za6 ?_
 exact zm0 h
def zt5 (a0:Int):Bool :=
 ((((zC6 a0)||((decide (48≤a0))&&(decide (a0≤57))))||(decide (a0=95)))||(decide (a0=45)))
theorem zbp8 (a0:Int):PFn C 178 [.int .u8 a0] (.bool (zt5 a0)):=by
 generalize h:zt5 a0=r
 refine za7 zfh2 rfl fun E hG hN hK=>?_
 unfold zdk6
 unfold zt5 at h
 refine za0 (za1 hG ?_)
 refine za0 (za1 hG ?_)
 refine za8 (fun hg=>zaC7 a0) ?_
 refine za6 ?_
 exact zm0 h
def zX7  (j1:Unit):Option (Bool) :=
 some true
@[go_sem] def zeM9  (j1:Unit):St:=⟨[],[],0⟩
def zA3 (a0:ByteArray) (g1:Int):Option ((Int)⊕((Unit)⊕(Bool))) :=
 (if (decide (g1 < (a0.size:Int)))=true then
  gd (0≤g1∧g1 < (a0.size:Int)) <|
  (if (!(zt5 ((a0.toList.getD g1.toNat 0).toNat:Int)))=true then
   some (.inr (.inr false))
  else
   some (.inl (IntKind.i64.wrap (g1+1))))
 else
  some (.inr (.inl ())))
@[go_sem] def zeN0 (a0:ByteArray) (g1:Int):St:=⟨[(0,.str a0),(3,.int .i64 g1)],[],0⟩
def zk7 (a0:ByteArray):Option (Bool) :=
 gd ((!((decide ((a0.size:Int) < 1))||(decide (12 < (a0.size:Int)))))=true→0≤0∧0 < (a0.size:Int)) <|
 (if ((((decide ((a0.size:Int) < 1))||(decide (12 < (a0.size:Int))))||(!(zC6 ((a0.toList.getD 0 0).toNat:Int))))||(zw2 a0))=true then
  some false
 else
  (zb4 (zA3 a0) 0).bind (fun|.inl z=>zX7 z|.inr z=>some z))
theorem zM5 (a0:ByteArray) (r:Bool) (h:zk7 a0=some r):PFn C 143 [.str a0] (.bool r):=by
 refine za7 zfh3 rfl fun E hG hN hK=>?_
 unfold zdl6
 unfold zk7 at h
 refine za0 (za1 hG ?_)
 refine za0 (za0 ?_)
 obtain ⟨hb2,h⟩:=za5 h
 refine za1 hG ?_
 refine za8 (fun hg=>zaC7 ((a0.toList.getD 0 0).toNat:Int)) ?_
 refine za8 (fun hg=>zaR3 a0) ?_
 refine za3 rfl hG h (fun _ h=>?_) (fun _ h=>?_)
 · refine za0 (za1 hG ?_)
   refine za6 ?_
   exact zb0 h
 refine za4 ?_
 refine za0 (za0 (za1 hG ?_))
 refine zb2 (zeM9) (fun v=>zX7 v=some r) ?_ ?_
 · intro j1 h
   unfold zX7 at h
   refine g_st ?_
   refine za0 (za1 hG ?_)
   refine za6 ?_
   exact zb0 h
 refine zc8 (zeN0 a0) hK [] h (fun x_l1 h g1 y_l1 h_l1 hx_l1=>?_)
 unfold zA3 at h_l1
 refine g_st ?_
 refine za0 (za0 (za1 hG ?_))
 refine za3 rfl hG h_l1 (fun _ h_l1=>?_) (fun _ h_l1=>?_)
 · refine za4 ?_
   refine za0 (zb3 (za0 ?_))
   obtain ⟨hb1,h_l1⟩:=za5 h_l1
   refine za1 hG ?_
   refine za8 (fun hg=>zbp8 ((a0.toList.getD g1.toNat 0).toNat:Int)) ?_
   refine za3 rfl hG h_l1 (fun _ h_l1=>?_) (fun _ h_l1=>?_)
   · refine za0 (za1 hG ?_)
     refine za6 ?_
     cases h_l1
     cases hx_l1 _ rfl
     exact zb0 h
   refine za4 ?_
   refine za1 hG ?_
   exact zc2 hK [] h_l1
 refine zb5 ?_
 cases h_l1
 cases hx_l1 _ rfl
 exact zb8 hK [] () (by exact h)
attribute [local irreducible] zk7
def zx9 (a0:Resource):Bool :=
 (((decide (a0.kind=1))&&(decide (a0.units=1)))||(((decide (a0.kind=2))&&(decide (1≤a0.units)))&&(decide (a0.units≤8))))
theorem zV1 (a0:Resource):PFn C 168 [.agg (Resource.enc a0)] (.bool (zx9 a0)):=by
 generalize h:zx9 a0=r
 refine za7 zfh4 rfl fun E hG hN hK=>?_
 unfold zdl9
 unfold zx9 at h
 refine za0 (za1 hG ?_)
 refine za0 (za1 hG ?_)
 refine za6 ?_
 exact zm0 h
def zj3 (a0:Resource):Option (Bool) :=
 (zk7 a0.name).bind fun v1 =>
 some (((v1&&(zx9 a0))&&(decide (0≤a0.home)))&&(decide (a0.home < 4)))
theorem zaA1 (a0:Resource) (r:Bool) (h:zj3 a0=some r):PFn C 132 [.agg (Resource.enc a0)] (.bool r):=by
 refine za7 zfh5 rfl fun E hG hN hK=>?_
 unfold zdm2
 unfold zj3 at h
 refine za0 (za1 hG ?_)
 refine za0 (za1 hG ?_)
 obtain ⟨v1,hv1,h⟩:=za2 h
 refine za8 (fun hg=>zM5 _ _ hv1) ?_
 refine za8 (fun hg=>zV1 a0) ?_
 refine za6 ?_
 exact zb0 h
attribute [local irreducible] zj3
def zq8 (a0:Int):Bool :=
 ((decide (1≤a0))&&(decide (a0≤5)))
theorem zR6 (a0:Int):PFn C 172 [.int .i64 a0] (.bool (zq8 a0)):=by
 generalize h:zq8 a0=r
 refine za7 zfh6 rfl fun E hG hN hK=>?_
 unfold zdm5
 unfold zq8 at h
 refine za0 (za1 hG ?_)
 refine za0 (za1 hG ?_)
 refine za6 ?_
 exact zm0 h
def zo5 (a0:Resource) (a1:Amount):Bool :=
 (if (!(zx9 a0))=true then
  false
 else
  (if (decide (a0.kind=1))=true then
   ((zq8 a1.mode)&&(decide (a1.units=0)))
  else
   (((decide (a1.mode=0))&&(decide (1≤a1.units)))&&(decide (a1.units≤a0.units)))))
theorem zac4 (a0:Resource) (a1:Amount):PFn C 137 [.agg (Resource.enc a0),.agg (Amount.enc a1)] (.bool (zo5 a0 a1)):=by
 generalize h:zo5 a0 a1=r
 refine za7 zfh7 rfl fun E hG hN hK=>?_
 unfold zdn2
 unfold zo5 at h
 refine za0 (za1 hG ?_)
 refine za0 (za0 (za1 hG ?_))
 refine za8 (fun hg=>zV1 a0) ?_
 refine za3 rfl hG h (fun _ h=>?_) (fun _ h=>?_)
 · refine za0 (za1 hG ?_)
   refine za6 ?_
   exact zm0 h
 refine za4 ?_
 refine za0 (za0 (za1 hG ?_))
 refine za3 rfl hG h (fun _ h=>?_) (fun _ h=>?_)
 · refine za0 (za1 hG ?_)
   refine za8 (fun hg=>zR6 a1.mode) ?_
   refine za6 ?_
   exact zm0 h
 refine za4 ?_
 refine za0 (za1 hG ?_)
 refine za6 ?_
 exact zm0 h
def zB3 (a0:Int) (a1:Int):Int :=
 (if (decide (a0 < a1))=true then
  (-1)
 else
  (if (decide (a1 < a0))=true then
   1
  else
   0))
theorem zap8 (a0:Int) (a1:Int):PFn C 86 [.int .i64 a0,.int .i64 a1] (.int .i64 (zB3 a0 a1)):=by
 generalize h:zB3 a0 a1=r
 refine za7 zfh8 rfl fun E hG hN hK=>?_
 unfold zdn9
 unfold zB3 at h
 refine za0 (za1 hG ?_)
 refine za0 (za0 (za1 hG ?_))
 refine za3 rfl hG h (fun _ h=>?_) (fun _ h=>?_)
 · refine za0 (za1 hG ?_)
   refine za6 ?_
   exact zm0 h
 refine za4 ?_
 refine za0 (za0 (za1 hG ?_))
 refine za3 rfl hG h (fun _ h=>?_) (fun _ h=>?_)
 · refine za0 (za1 hG ?_)
   refine za6 ?_
   exact zm0 h
 refine za4 ?_
 refine za0 (za1 hG ?_)
 refine za6 ?_
 exact zm0 h
def zm1 (a0:Proc) (a1:Proc):Int :=
 (if (!decide ((zB3 a0.site a1.site)=0))=true then
  (zB3 a0.site a1.site)
 else
  (if (!decide ((zB3 a0.inc a1.inc)=0))=true then
   (zB3 a0.inc a1.inc)
  else
   (zB3 a0.num a1.num)))
theorem zH7 (a0:Proc) (a1:Proc):PFn C 56 [.agg (Proc.enc a0),.agg (Proc.enc a1)] (.int .i64 (zm1 a0 a1)):=by
 generalize h:zm1 a0 a1=r
 refine za7 zfh9 rfl fun E hG hN hK=>?_
 unfold zdo8
 unfold zm1 at h
 refine za0 (za1 hG ?_)
 refine za0 (za0 (za1 hG ?_))
 refine za8 (fun hg=>zap8 a0.site a1.site) ?_
 refine za0 (za1 hG ?_)
 refine za3 rfl hG h (fun _ h=>?_) (fun _ h=>?_)
 · refine za0 (za1 hG ?_)
   refine za6 ?_
   exact zm0 h
 refine za4 ?_
 refine za0 (za0 (za1 hG ?_))
 refine za8 (fun hg=>zap8 a0.inc a1.inc) ?_
 refine za0 (za1 hG ?_)
 refine za3 rfl hG h (fun _ h=>?_) (fun _ h=>?_)
 · refine za0 (za1 hG ?_)
   refine za6 ?_
   exact zm0 h
 refine za4 ?_
 refine za0 (za1 hG ?_)
 refine za8 (fun hg=>zap8 a0.num a1.num) ?_
 refine za6 ?_
 exact zm0 h
def zT1  (j1:(List Amount)):Option ((List Amount)) :=
 some j1
@[go_sem] def zeN1  (j1:(List Amount)):St:=⟨[(3,.own 0 0 j1.length)],[(0,⟨false,2,(Amount.enc Amount.zero),j1.map Amount.enc⟩)],1⟩
def zM6 (a0:List Hold) (g1:Int×(List Amount)):Option ((Int×(List Amount))⊕(((List Amount)))) :=
 (if (decide (g1.1 < (a0.length:Int)))=true then
  gd (0≤g1.1∧g1.1 < (a0.length:Int)) <|
  gd (g1.2.length+1≤4294967296) <|
  some (.inl ((IntKind.i64.wrap (g1.1+1)),(g1.2++[(a0.getD g1.1.toNat Hold.zero).amount])))
 else
  some (.inr g1.2))
@[go_sem] def zeN2 (a0:List Hold) (g1:Int×(List Amount)):St:=⟨[(0,.sl (a0.map Hold.enc)),(3,.own 0 0 g1.2.length),(4,.int .i64 g1.1)],[(0,⟨false,2,(Amount.enc Amount.zero),g1.2.map Amount.enc⟩)],1⟩
def zr7 (a0:List Hold):Option ((List Amount)) :=
 (zb4 (zM6 a0) (0,[])).bind (fun z=>zT1 z)
theorem zaV9 (a0:List Hold) (r:(List Amount)) (h:zr7 a0=some r):PFn C 170 [.sl (a0.map Hold.enc)] (.sl (r.map Amount.enc)):=by
 refine za7 zfi0 rfl fun E hG hN hK=>?_
 unfold zdp6
 unfold zr7 at h
 refine za0 (za1 hG ?_)
 refine za0 (za1 hG ?_)
 refine za0 (za0 (za1 hG ?_))
 refine zb2 (zeN1) (fun v=>zT1 v=some r) ?_ ?_
 · intro j1 h
   unfold zT1 at h
   refine g_st ?_
   refine za0 (za1 hG ?_)
   refine za6 ?_
   exact zb0 h
 refine zc8 (zeN2 a0) hK [(0,0)] h (fun x_l1 h g1 y_l1 h_l1 hx_l1=>?_)
 unfold zM6 at h_l1
 refine g_st ?_
 refine za0 (za0 (za1 hG ?_))
 refine za3 rfl hG h_l1 (fun _ h_l1=>?_) (fun _ h_l1=>?_)
 · refine za4 ?_
   refine za0 (zb3 ?_)
   obtain ⟨hb1,h_l1⟩:=za5 h_l1
   obtain ⟨hb2,h_l1⟩:=za5 h_l1
   refine za1 hG ?_
   refine za1 hG ?_
   exact zc2 hK [(0,1)] h_l1
 refine zb5 ?_
 cases h_l1
 cases hx_l1 _ rfl
 exact zb8 hK [(0,0)] g1.2 (by exact h)
attribute [local irreducible] zr7
def zi4 (a0:Amount):Bool :=
 (decide (a0={ Amount.zero with  }))
theorem zK8 (a0:Amount):PFn C 136 [.agg (Amount.enc a0)] (.bool (zi4 a0)):=by
 generalize h:zi4 a0=r
 refine za7 zfi1 rfl fun E hG hN hK=>?_
 unfold zdp9
 unfold zi4 at h
 refine za0 (za1 hG ?_)
 refine za0 (za1 hG ?_)
 refine za6 ?_
 exact zm0 h
def zx4 (a0:Resource) (a1:Amount):Bool :=
 ((zx9 a0)&&((zi4 a1)||(zo5 a0 a1)))
theorem zad9 (a0:Resource) (a1:Amount):PFn C 173 [.agg (Resource.enc a0),.agg (Amount.enc a1)] (.bool (zx4 a0 a1)):=by
 generalize h:zx4 a0 a1=r
 refine za7 zfi2 rfl fun E hG hN hK=>?_
 unfold zdq2
 unfold zx4 at h
 refine za0 (za1 hG ?_)
 refine za0 (za1 hG ?_)
 refine za8 (fun hg=>zV1 a0) ?_
 refine za8 (fun hg=>zK8 a1) ?_
 refine za8 (fun hg=>zac4 a0 a1) ?_
 refine za6 ?_
 exact zm0 h
def zz7 (a0:Int) (a1:Int):Bool :=
 (if ((((!(zq8 a0))||(!(zq8 a1)))||(decide (a0=5)))||(decide (a1=5)))=true then
  false
 else
  (((decide (a0=1))||(decide (a1=1)))||((decide (a0=a1))&&(!decide (a0=4)))))
theorem zaK5 (a0:Int) (a1:Int):PFn C 189 [.int .i64 a0,.int .i64 a1] (.bool (zz7 a0 a1)):=by
 generalize h:zz7 a0 a1=r
 refine za7 zfi3 rfl fun E hG hN hK=>?_
 unfold zdq7
 unfold zz7 at h
 refine za0 (za1 hG ?_)
 refine za0 (za0 (za1 hG ?_))
 refine za8 (fun hg=>zR6 a0) ?_
 refine za8 (fun hg=>zR6 a1) ?_
 refine za3 rfl hG h (fun _ h=>?_) (fun _ h=>?_)
 · refine za0 (za1 hG ?_)
   refine za6 ?_
   exact zm0 h
 refine za4 ?_
 refine za0 (za1 hG ?_)
 refine za6 ?_
 exact zm0 h
def zV9  (j1:Unit):Option (Bool) :=
 some true
@[go_sem] def zeN3  (j1:Unit):St:=⟨[],[],0⟩
def zN1 (g1:Int×Int) (j2:Unit):Option ((Int×Int)⊕((Unit)⊕(Bool))) :=
 some (.inl (g1.1,(IntKind.i64.wrap (g1.2+1))))
@[go_sem] def zeN4 (a0:Resource) (a1:List Amount) (g1:Int×Int) (j2:Unit):St:=⟨[(1,.sl (a1.map Amount.enc)),(2,.ptr 0 0 0),(5,.int .i64 g1.1),(6,.int .i64 g1.2)],[(0,⟨false,4,(Resource.enc Resource.zero),[Resource.enc a0]⟩)],1⟩
def zx7 (a1:List Amount) (g1:Int×Int) (g2:Int):Option ((Int)⊕((Unit)⊕(Bool))) :=
 (if (decide (g2 < g1.2))=true then
  gd (0≤g1.2∧g1.2 < (a1.length:Int)) <|
  gd ((!(zi4 (a1.getD g1.2.toNat Amount.zero)))=true→0≤g2∧g2 < (a1.length:Int)) <|
  gd (((!(zi4 (a1.getD g1.2.toNat Amount.zero)))&&(!(zi4 (a1.getD g2.toNat Amount.zero))))=true→0≤g1.2∧g1.2 < (a1.length:Int)) <|
  gd (((!(zi4 (a1.getD g1.2.toNat Amount.zero)))&&(!(zi4 (a1.getD g2.toNat Amount.zero))))=true→0≤g2∧g2 < (a1.length:Int)) <|
  (if (((!(zi4 (a1.getD g1.2.toNat Amount.zero)))&&(!(zi4 (a1.getD g2.toNat Amount.zero))))&&(!(zz7 ((a1.getD g1.2.toNat Amount.zero).mode) ((a1.getD g2.toNat Amount.zero).mode))))=true then
   some (.inr (.inr false))
  else
   some (.inl (IntKind.i64.wrap (g2+1))))
 else
  some (.inr (.inl ())))
@[go_sem] def zeN5 (a0:Resource) (a1:List Amount) (g1:Int×Int) (g2:Int):St:=⟨[(1,.sl (a1.map Amount.enc)),(2,.ptr 0 0 0),(5,.int .i64 g1.1),(6,.int .i64 g1.2),(7,.int .i64 g2)],[(0,⟨false,4,(Resource.enc Resource.zero),[Resource.enc a0]⟩)],1⟩
def zE7 (a0:Resource) (a1:List Amount) (g1:Int×Int):Option ((Int×Int)⊕((Unit)⊕(Bool))) :=
 (if (decide (g1.2 < (a1.length:Int)))=true then
  gd (0≤g1.2∧g1.2 < (a1.length:Int)) <|
  (if (!(zx4 a0 (a1.getD g1.2.toNat Amount.zero)))=true then
   some (.inr (.inr false))
  else
   (if (decide (a0.kind=2))=true then
    gd (0≤g1.2∧g1.2 < (a1.length:Int)) <|
    (if (decide (a0.units < (IntKind.i64.wrap (g1.1+(a1.getD g1.2.toNat Amount.zero).units))))=true then
     some (.inr (.inr false))
    else
     some (.inl ((IntKind.i64.wrap (g1.1+(a1.getD g1.2.toNat Amount.zero).units)),(IntKind.i64.wrap (g1.2+1)))))
   else
    (zb4 (zx7 a1 g1) 0).bind (fun|.inl z=>zN1 g1 z|.inr z=>some (.inr (.inr z)))))
 else
  some (.inr (.inl ())))
@[go_sem] def zeN6 (a0:Resource) (a1:List Amount) (g1:Int×Int):St:=⟨[(1,.sl (a1.map Amount.enc)),(2,.ptr 0 0 0),(5,.int .i64 g1.1),(6,.int .i64 g1.2)],[(0,⟨false,4,(Resource.enc Resource.zero),[Resource.enc a0]⟩)],1⟩
def zm9 (a0:Resource) (a1:List Amount):Option (Bool) :=
 (if (!(zx9 a0))=true then
  some false
 else
  (zb4 (zE7 a0 a1) (0,0)).bind (fun|.inl z=>zV9 z|.inr z=>some z))
theorem zaK6 (a0:Resource) (a1:List Amount) (r:Bool) (h:zm9 a0 a1=some r):PFn C 169 [.agg (Resource.enc a0),.sl (a1.map Amount.enc)] (.bool r):=by
 refine za7 zfi4 rfl fun E hG hN hK=>?_
 unfold zdr8
 unfold zm9 at h
 refine za0 (za1 hG ?_)
 refine za0 (za0 (za1 hG ?_))
 refine za8 (fun hg=>zV1 a0) ?_
 refine za3 rfl hG h (fun _ h=>?_) (fun _ h=>?_)
 · refine za0 (za1 hG ?_)
   refine za6 ?_
   exact zb0 h
 refine za4 ?_
 refine za0 (za1 hG ?_)
 refine za0 (za0 (za1 hG ?_))
 refine zb2 (zeN3) (fun v=>zV9 v=some r) ?_ ?_
 · intro j1 h
   unfold zV9 at h
   refine g_st ?_
   refine za0 (za1 hG ?_)
   refine za6 ?_
   exact zb0 h
 refine zc8 (zeN6 a0 a1) hK [(0,0)] h (fun x_l1 h g1 y_l1 h_l1 hx_l1=>?_)
 unfold zE7 at h_l1
 refine g_st ?_
 refine za0 (za0 (za1 hG ?_))
 refine za3 rfl hG h_l1 (fun _ h_l1=>?_) (fun _ h_l1=>?_)
 · refine za4 ?_
   refine za0 (zb3 (za0 (za0 ?_)))
   obtain ⟨hb6,h_l1⟩:=za5 h_l1
   refine zl3 ze5 hG ?_
   refine zd9 (fun hg=>zad9 a0 (a1.getD g1.2.toNat Amount.zero)) ?_
   refine za3 rfl hG h_l1 (fun _ h_l1=>?_) (fun _ h_l1=>?_)
   · refine za0 (za1 hG ?_)
     refine za6 ?_
     cases h_l1
     cases hx_l1 _ rfl
     exact zb0 h
   refine za4 ?_
   refine za0 (za0 (za1 hG ?_))
   refine za3 rfl hG h_l1 (fun _ h_l1=>?_) (fun _ h_l1=>?_)
   · refine za0 ?_
     obtain ⟨hb1,h_l1⟩:=za5 h_l1
     refine za1 hG ?_
     refine za0 (za0 (za1 hG ?_))
     refine za3 rfl hG h_l1 (fun _ h_l1=>?_) (fun _ h_l1=>?_)
     · refine za0 (za1 hG ?_)
       refine za6 ?_
       cases h_l1
       cases hx_l1 _ rfl
       exact zb0 h
     refine za4 ?_
     refine zb5 ?_
     refine za1 hG ?_
     exact zc2 hK [(0,0)] h_l1
   refine za4 ?_
   refine za0 (za1 hG ?_)
   refine zb2 (zeN4 a0 a1 g1) (fun v=>zN1 g1 v=some y_l1) ?_ ?_
   · intro j2 h_l1
     unfold zN1 at h_l1
     refine g_st ?_
     refine za1 hG ?_
     exact zc2 hK [(0,0)] h_l1
   refine zc8 (zeN5 a0 a1 g1) hK [(0,0)] h_l1 (fun x_l2 h_l1 g2 y_l2 h_l2 hx_l2=>?_)
   unfold zx7 at h_l2
   refine g_st ?_
   refine za0 (za0 (za1 hG ?_))
   refine za3 rfl hG h_l2 (fun _ h_l2=>?_) (fun _ h_l2=>?_)
   · refine za4 ?_
     refine za0 (zb3 (za0 ?_))
     obtain ⟨hb5,h_l2⟩:=za5 h_l2
     refine zl3 ze5 hG ?_
     obtain ⟨hb4,h_l2⟩:=za5 h_l2
     refine zd9 (fun hg=>zK8 (a1.getD g1.2.toNat Amount.zero)) ?_
     obtain ⟨hb2,h_l2⟩:=za5 h_l2
     obtain ⟨hb3,h_l2⟩:=za5 h_l2
     refine zd9 (fun hg=>zK8 (a1.getD g2.toNat Amount.zero)) ?_
     refine zd9 (fun hg=>zaK5 ((a1.getD g1.2.toNat Amount.zero).mode) ((a1.getD g2.toNat Amount.zero).mode)) ?_
     refine za3 rfl hG h_l2 (fun _ h_l2=>?_) (fun _ h_l2=>?_)
     · refine za0 (za1 hG ?_)
       refine za6 ?_
       obtain rfl:=Option.some.inj h_l2
       have hx:=hx_l2 _ rfl
       subst hx
       try dsimp only at h_l1
       cases h_l1
       cases hx_l1 _ rfl
       exact zb0 h
     refine za4 ?_
     refine za1 hG ?_
     exact zc2 hK [(0,0)] h_l2
   refine zb5 ?_
   obtain rfl:=Option.some.inj h_l2
   have hx:=hx_l2 _ rfl
   subst hx
   try dsimp only at h_l1
   exact zb8 hK [(0,0)] () (by exact h_l1)
 refine zb5 ?_
 cases h_l1
 cases hx_l1 _ rfl
 exact zb8 hK [] () (by exact h)
attribute [local irreducible] zm9
def zZ3 (a0:Resource) (a1:List Hold) (j1:Unit):Option (Bool) :=
 (zr7 a1).bind fun v1 =>
 (zm9 a0 v1).bind fun v2 =>
 some v2
@[go_sem] def zeN7 (a0:Resource) (a1:List Hold) (j1:Unit):St:=⟨[(1,.sl (a1.map Hold.enc)),(2,.ptr 0 0 0)],[(0,⟨false,4,(Resource.enc Resource.zero),[Resource.enc a0]⟩)],1⟩
def zR7 (a0:Resource) (a1:List Hold) (g1:Int):Option ((Int)⊕((Unit)⊕(Bool))) :=
 (if (decide (g1 < (a1.length:Int)))=true then
  gd (0≤g1∧g1 < (a1.length:Int)) <|
  gd ((ze3 ((a1.getD g1.toNat Hold.zero).proc))=true→0≤g1∧g1 < (a1.length:Int)) <|
  gd (((!((!(ze3 ((a1.getD g1.toNat Hold.zero).proc)))||(!(zo5 a0 ((a1.getD g1.toNat Hold.zero).amount)))))&&(decide (0 < g1)))=true→0≤(IntKind.i64.wrap (g1 - 1))∧(IntKind.i64.wrap (g1 - 1)) < (a1.length:Int)) <|
  gd (((!((!(ze3 ((a1.getD g1.toNat Hold.zero).proc)))||(!(zo5 a0 ((a1.getD g1.toNat Hold.zero).amount)))))&&(decide (0 < g1)))=true→0≤g1∧g1 < (a1.length:Int)) <|
  (if (((!(ze3 ((a1.getD g1.toNat Hold.zero).proc)))||(!(zo5 a0 ((a1.getD g1.toNat Hold.zero).amount))))||((decide (0 < g1))&&(decide (0≤(zm1 ((a1.getD ((IntKind.i64.wrap (g1 - 1)).toNat) Hold.zero).proc) ((a1.getD g1.toNat Hold.zero).proc))))))=true then
   some (.inr (.inr false))
  else
   some (.inl (IntKind.i64.wrap (g1+1))))
 else
  some (.inr (.inl ())))
@[go_sem] def zeN8 (a0:Resource) (a1:List Hold) (g1:Int):St:=⟨[(1,.sl (a1.map Hold.enc)),(2,.ptr 0 0 0),(5,.int .i64 g1)],[(0,⟨false,4,(Resource.enc Resource.zero),[Resource.enc a0]⟩)],1⟩
def zs7 (a0:Resource) (a1:List Hold):Option (Bool) :=
 (if ((!(zx9 a0))||(decide (8 < (a1.length:Int))))=true then
  some false
 else
  (zb4 (zR7 a0 a1) 0).bind (fun|.inl z=>zZ3 a0 a1 z|.inr z=>some z))
theorem zap9 (a0:Resource) (a1:List Hold) (r:Bool) (h:zs7 a0 a1=some r):PFn C 133 [.agg (Resource.enc a0),.sl (a1.map Hold.enc)] (.bool r):=by
 refine za7 zfi5 rfl fun E hG hN hK=>?_
 unfold zds8
 unfold zs7 at h
 refine za0 (za1 hG ?_)
 refine za0 (za0 (za1 hG ?_))
 refine za8 (fun hg=>zV1 a0) ?_
 refine za3 rfl hG h (fun _ h=>?_) (fun _ h=>?_)
 · refine za0 (za1 hG ?_)
   refine za6 ?_
   exact zb0 h
 refine za4 ?_
 refine za0 (za0 (za1 hG ?_))
 refine zb2 (zeN7 a0 a1) (fun v=>zZ3 a0 a1 v=some r) ?_ ?_
 · intro j1 h
   unfold zZ3 at h
   refine g_st ?_
   refine za0 (zl3 ze5 hG ?_)
   obtain ⟨v1,hv1,h⟩:=za2 h
   refine zd9 (fun hg=>zaV9 _ _ hv1) ?_
   obtain ⟨v2,hv2,h⟩:=za2 h
   refine zd9 (fun hg=>zaK6 _ _ _ hv2) ?_
   refine za6 ?_
   exact zb0 h
 refine zc8 (zeN8 a0 a1) hK [(0,0)] h (fun x_l1 h g1 y_l1 h_l1 hx_l1=>?_)
 unfold zR7 at h_l1
 refine g_st ?_
 refine za0 (za0 (za1 hG ?_))
 refine za3 rfl hG h_l1 (fun _ h_l1=>?_) (fun _ h_l1=>?_)
 · refine za4 ?_
   refine za0 (zb3 (za0 ?_))
   obtain ⟨hb4,h_l1⟩:=za5 h_l1
   refine zl3 ze5 hG ?_
   obtain ⟨hb3,h_l1⟩:=za5 h_l1
   refine zd9 (fun hg=>zF9 ((a1.getD g1.toNat Hold.zero).proc)) ?_
   obtain ⟨hb1,h_l1⟩:=za5 h_l1
   obtain ⟨hb2,h_l1⟩:=za5 h_l1
   refine zd9 (fun hg=>zac4 a0 ((a1.getD g1.toNat Hold.zero).amount)) ?_
   refine zd9 (fun hg=>zH7 ((a1.getD ((IntKind.i64.wrap (g1 - 1)).toNat) Hold.zero).proc) ((a1.getD g1.toNat Hold.zero).proc)) ?_
   refine za3 rfl hG h_l1 (fun _ h_l1=>?_) (fun _ h_l1=>?_)
   · refine za0 (za1 hG ?_)
     refine za6 ?_
     cases h_l1
     cases hx_l1 _ rfl
     exact zb0 h
   refine za4 ?_
   refine za1 hG ?_
   exact zc2 hK [(0,0)] h_l1
 refine zb5 ?_
 cases h_l1
 cases hx_l1 _ rfl
 exact zb8 hK [(0,0)] () (by exact h)
attribute [local irreducible] zs7
def zq6 (a0:Amount):Bool :=
 (((zq8 a0.mode)&&(decide (a0.units=0)))||(((decide (a0.mode=0))&&(decide (1≤a0.units)))&&(decide (a0.units≤8))))
theorem zV2 (a0:Amount):PFn C 144 [.agg (Amount.enc a0)] (.bool (zq6 a0)):=by
 generalize h:zq6 a0=r
 refine za7 zfi6 rfl fun E hG hN hK=>?_
 unfold zdt1
 unfold zq6 at h
 refine za0 (za1 hG ?_)
 refine za0 (za1 hG ?_)
 refine za8 (fun hg=>zR6 a0.mode) ?_
 refine za6 ?_
 exact zm0 h
def zt6 (a0:Wait):Bool :=
 ((((((ze3 a0.proc)&&(zq6 a0.amount))&&(decide (0≤a0.priority)))&&(decide (a0.priority≤7)))&&(decide (0≤a0.passed)))&&(decide (a0.passed≤3)))
theorem zaN3 (a0:Wait):PFn C 171 [.agg (Wait.enc a0)] (.bool (zt6 a0)):=by
 generalize h:zt6 a0=r
 refine za7 zfi7 rfl fun E hG hN hK=>?_
 unfold zdt4
 unfold zt6 at h
 refine za0 (za1 hG ?_)
 refine za0 (za1 hG ?_)
 refine za8 (fun hg=>zF9 a0.proc) ?_
 refine za8 (fun hg=>zV2 a0.amount) ?_
 refine za6 ?_
 exact zm0 h
def zan3  (j1:Unit):Option (Int) :=
 some (-1)
@[go_sem] def zeN9  (j1:Unit):St:=⟨[],[],0⟩
def zaC8 (a0:List Wait) (a1:Proc) (g1:Int):Option ((Int)⊕((Unit)⊕(Int))) :=
 (if (decide (g1 < (a0.length:Int)))=true then
  gd (0≤g1∧g1 < (a0.length:Int)) <|
  (if (decide ((a0.getD g1.toNat Wait.zero).proc=a1))=true then
   some (.inr (.inr g1))
  else
   some (.inl (IntKind.i64.wrap (g1+1))))
 else
  some (.inr (.inl ())))
@[go_sem] def zeO0 (a0:List Wait) (a1:Proc) (g1:Int):St:=⟨[(0,.sl (a0.map Wait.enc)),(3,.ptr 0 0 0),(5,.int .i64 g1)],[(0,⟨false,3,(Proc.enc Proc.zero),[Proc.enc a1]⟩)],1⟩
def zz3 (a0:List Wait) (a1:Proc):Option (Int) :=
 (zb4 (zaC8 a0 a1) 0).bind (fun|.inl z=>zan3 z|.inr z=>some z)
theorem zaL6 (a0:List Wait) (a1:Proc) (r:Int) (h:zz3 a0 a1=some r):PFn C 139 [.sl (a0.map Wait.enc),.agg (Proc.enc a1)] (.int .i64 r):=by
 refine za7 zfi8 rfl fun E hG hN hK=>?_
 unfold zdu2
 unfold zz3 at h
 refine za0 (za1 hG ?_)
 refine za0 (za0 (za1 hG ?_))
 refine zb2 (zeN9) (fun v=>zan3 v=some r) ?_ ?_
 · intro j1 h
   unfold zan3 at h
   refine g_st ?_
   refine za0 (za1 hG ?_)
   refine za6 ?_
   exact zb0 h
 refine zc8 (zeO0 a0 a1) hK [(0,0)] h (fun x_l1 h g1 y_l1 h_l1 hx_l1=>?_)
 unfold zaC8 at h_l1
 refine g_st ?_
 refine za0 (za0 (za1 hG ?_))
 refine za3 rfl hG h_l1 (fun _ h_l1=>?_) (fun _ h_l1=>?_)
 · refine za4 ?_
   refine za0 (zb3 (za0 ?_))
   obtain ⟨hb1,h_l1⟩:=za5 h_l1
   refine zl3 ze5 hG ?_
   refine za3 rfl hG h_l1 (fun _ h_l1=>?_) (fun _ h_l1=>?_)
   · refine za0 (za1 hG ?_)
     refine za6 ?_
     cases h_l1
     cases hx_l1 _ rfl
     exact zb0 h
   refine za4 ?_
   refine za1 hG ?_
   exact zc2 hK [(0,0)] h_l1
 refine zb5 ?_
 cases h_l1
 cases hx_l1 _ rfl
 exact zb8 hK [] () (by exact h)
attribute [local irreducible] zz3
def zai9  (j1:Unit):Option (Bool) :=
 some true
@[go_sem] def zeO1  (j1:Unit):St:=⟨[],[],0⟩
def zZ4 (a0:List Wait) (g1:Int):Option ((Int)⊕((Unit)⊕(Bool))) :=
 (if (decide (g1 < (a0.length:Int)))=true then
  gd (0≤g1∧g1 < (a0.length:Int)) <|
  gd ((zt6 (a0.getD g1.toNat Wait.zero))=true→0≤g1∧g1 < (a0.length:Int)) <|
  ((if (zt6 (a0.getD g1.toNat Wait.zero))=true then zz3 a0 ((a0.getD g1.toNat Wait.zero).proc) else some (0))).bind fun v1 =>
  (if ((!(zt6 (a0.getD g1.toNat Wait.zero)))||(!decide (v1=g1)))=true then
   some (.inr (.inr false))
  else
   some (.inl (IntKind.i64.wrap (g1+1))))
 else
  some (.inr (.inl ())))
@[go_sem] def zeO2 (a0:List Wait) (g1:Int):St:=⟨[(0,.sl (a0.map Wait.enc)),(3,.int .i64 g1)],[],0⟩
def zy0 (a0:List Wait):Option (Bool) :=
 (if (decide (8 < (a0.length:Int)))=true then
  some false
 else
  (zb4 (zZ4 a0) 0).bind (fun|.inl z=>zai9 z|.inr z=>some z))
theorem zbi9 (a0:List Wait) (r:Bool) (h:zy0 a0=some r):PFn C 134 [.sl (a0.map Wait.enc)] (.bool r):=by
 refine za7 zfi9 rfl fun E hG hN hK=>?_
 unfold zdv2
 unfold zy0 at h
 refine za0 (za1 hG ?_)
 refine za0 (za0 (za1 hG ?_))
 refine za3 rfl hG h (fun _ h=>?_) (fun _ h=>?_)
 · refine za0 (za1 hG ?_)
   refine za6 ?_
   exact zb0 h
 refine za4 ?_
 refine za0 (za0 (za1 hG ?_))
 refine zb2 (zeO1) (fun v=>zai9 v=some r) ?_ ?_
 · intro j1 h
   unfold zai9 at h
   refine g_st ?_
   refine za0 (za1 hG ?_)
   refine za6 ?_
   exact zb0 h
 refine zc8 (zeO2 a0) hK [] h (fun x_l1 h g1 y_l1 h_l1 hx_l1=>?_)
 unfold zZ4 at h_l1
 refine g_st ?_
 refine za0 (za0 (za1 hG ?_))
 refine za3 rfl hG h_l1 (fun _ h_l1=>?_) (fun _ h_l1=>?_)
 · refine za4 ?_
   refine za0 (zb3 (za0 ?_))
   obtain ⟨hb2,h_l1⟩:=za5 h_l1
   refine za1 hG ?_
   obtain ⟨hb1,h_l1⟩:=za5 h_l1
   refine za8 (fun hg=>zaN3 (a0.getD g1.toNat Wait.zero)) ?_
   obtain ⟨v1,hv1,h_l1⟩:=za2 h_l1
   refine za8 (fun hg=>zaL6 a0 ((a0.getD g1.toNat Wait.zero).proc) _ (zv4 hg hv1)) ?_
   refine za3 rfl hG h_l1 (fun _ h_l1=>?_) (fun _ h_l1=>?_)
   · refine za0 (za1 hG ?_)
     refine za6 ?_
     cases h_l1
     cases hx_l1 _ rfl
     exact zb0 h
   refine za4 ?_
   refine za1 hG ?_
   exact zc2 hK [] h_l1
 refine zb5 ?_
 cases h_l1
 cases hx_l1 _ rfl
 exact zb8 hK [] () (by exact h)
attribute [local irreducible] zy0
def zaq0  (j1:Unit):Option (Amount) :=
 some ({ Amount.zero with  })
@[go_sem] def zeO3  (j1:Unit):St:=⟨[(4,.ptr 0 0 0)],[(0,⟨false,2,(Amount.enc Amount.zero),[Amount.enc Amount.zero]⟩)],1⟩
def zag8 (a0:List Hold) (a1:Proc) (g1:Int):Option ((Int)⊕((Unit)⊕(Amount))) :=
 (if (decide (g1 < (a0.length:Int)))=true then
  gd (0≤g1∧g1 < (a0.length:Int)) <|
  (if (decide ((a0.getD g1.toNat Hold.zero).proc=a1))=true then
   gd (0≤g1∧g1 < (a0.length:Int)) <|
   some (.inr (.inr ((a0.getD g1.toNat Hold.zero).amount)))
  else
   some (.inl (IntKind.i64.wrap (g1+1))))
 else
  some (.inr (.inl ())))
@[go_sem] def zeO4 (a0:List Hold) (a1:Proc) (g1:Int):St:=⟨[(0,.sl (a0.map Hold.enc)),(3,.ptr 0 0 0),(4,.ptr 1 0 0),(5,.int .i64 g1)],[(0,⟨false,3,(Proc.enc Proc.zero),[Proc.enc a1]⟩),(1,⟨false,2,(Amount.enc Amount.zero),[Amount.enc Amount.zero]⟩)],2⟩
def zD3 (a0:List Hold) (a1:Proc):Option (Amount) :=
 (zb4 (zag8 a0 a1) 0).bind (fun|.inl z=>zaq0 z|.inr z=>some z)
theorem zaR4 (a0:List Hold) (a1:Proc) (r:Amount) (h:zD3 a0 a1=some r):PFn C 135 [.sl (a0.map Hold.enc),.agg (Proc.enc a1)] (.agg (Amount.enc r)):=by
 refine za7 zfj0 rfl fun E hG hN hK=>?_
 unfold zdw0
 unfold zD3 at h
 refine za0 (za1 hG ?_)
 refine za0 (za0 (za1 hG ?_))
 refine zb2 (zeO3) (fun v=>zaq0 v=some r) ?_ ?_
 · intro j1 h
   unfold zaq0 at h
   refine g_st ?_
   refine za0 (za1 hG ?_)
   refine za6 ?_
   exact zb0 h
 refine zc8 (zeO4 a0 a1) hK [(0,0),(1,1)] h (fun x_l1 h g1 y_l1 h_l1 hx_l1=>?_)
 unfold zag8 at h_l1
 refine g_st ?_
 refine za0 (za0 (za1 hG ?_))
 refine za3 rfl hG h_l1 (fun _ h_l1=>?_) (fun _ h_l1=>?_)
 · refine za4 ?_
   refine za0 (zb3 (za0 ?_))
   obtain ⟨hb2,h_l1⟩:=za5 h_l1
   refine zl3 ze5 hG ?_
   refine za3 rfl hG h_l1 (fun _ h_l1=>?_) (fun _ h_l1=>?_)
   · refine za0 ?_
     obtain ⟨hb1,h_l1⟩:=za5 h_l1
     refine za1 hG ?_
     refine za6 ?_
     cases h_l1
     cases hx_l1 _ rfl
     exact zb0 h
   refine za4 ?_
   refine za1 hG ?_
   exact zc2 hK [(0,0),(1,1)] h_l1
 refine zb5 ?_
 cases h_l1
 cases hx_l1 _ rfl
 exact zb8 hK [(0,1)] () (by exact h)
attribute [local irreducible] zD3
def zR8 (a0:Int) (a1:Int):Bool :=
 (if ((!(zq8 a0))||(!(zq8 a1)))=true then
  false
 else
  ((((decide (a0=a1))||(decide (a0=5)))||(decide (a1=1)))||((decide (a0=4))&&(!decide (a1=5)))))
theorem zbb4 (a0:Int) (a1:Int):PFn C 174 [.int .i64 a0,.int .i64 a1] (.bool (zR8 a0 a1)):=by
 generalize h:zR8 a0 a1=r
 refine za7 zfj1 rfl fun E hG hN hK=>?_
 unfold zdw5
 unfold zR8 at h
 refine za0 (za1 hG ?_)
 refine za0 (za0 (za1 hG ?_))
 refine za8 (fun hg=>zR6 a0) ?_
 refine za8 (fun hg=>zR6 a1) ?_
 refine za3 rfl hG h (fun _ h=>?_) (fun _ h=>?_)
 · refine za0 (za1 hG ?_)
   refine za6 ?_
   exact zm0 h
 refine za4 ?_
 refine za0 (za1 hG ?_)
 refine za6 ?_
 exact zm0 h
def zH8 (a0:Resource) (a1:Amount) (a2:Amount):Bool :=
 (if ((!(zx4 a0 a1))||(!(zx4 a0 a2)))=true then
  false
 else
  (if (zi4 a2)=true then
   true
  else
   (if (zi4 a1)=true then
    false
   else
    (if (decide (a0.kind=1))=true then
     (zR8 a1.mode a2.mode)
    else
     (decide (a2.units≤a1.units))))))
theorem zbb5 (a0:Resource) (a1:Amount) (a2:Amount):PFn C 138 [.agg (Resource.enc a0),.agg (Amount.enc a1),.agg (Amount.enc a2)] (.bool (zH8 a0 a1 a2)):=by
 generalize h:zH8 a0 a1 a2=r
 refine za7 zfj2 rfl fun E hG hN hK=>?_
 unfold zdx6
 unfold zH8 at h
 refine za0 (za1 hG ?_)
 refine za0 (za0 (za1 hG ?_))
 refine za8 (fun hg=>zad9 a0 a1) ?_
 refine za8 (fun hg=>zad9 a0 a2) ?_
 refine za3 rfl hG h (fun _ h=>?_) (fun _ h=>?_)
 · refine za0 (za1 hG ?_)
   refine za6 ?_
   exact zm0 h
 refine za4 ?_
 refine za0 (za0 (za1 hG ?_))
 refine za8 (fun hg=>zK8 a2) ?_
 refine za3 rfl hG h (fun _ h=>?_) (fun _ h=>?_)
 · refine za0 (za1 hG ?_)
   refine za6 ?_
   exact zm0 h
 refine za4 ?_
 refine za0 (za0 (za1 hG ?_))
 refine za8 (fun hg=>zK8 a1) ?_
 refine za3 rfl hG h (fun _ h=>?_) (fun _ h=>?_)
 · refine za0 (za1 hG ?_)
   refine za6 ?_
   exact zm0 h
 refine za4 ?_
 refine za0 (za0 (za1 hG ?_))
 refine za3 rfl hG h (fun _ h=>?_) (fun _ h=>?_)
 · refine za0 (za1 hG ?_)
   refine za8 (fun hg=>zbb4 a1.mode a2.mode) ?_
   refine za6 ?_
   exact zm0 h
 refine za4 ?_
 refine za0 (za1 hG ?_)
 refine za6 ?_
 exact zm0 h
end
end Ab
end Go.Proofs.YtebopmkhhppfaaaGreatDoor
