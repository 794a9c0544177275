import Derived.Test.YtebopmkhhppfaaaGreatDoorCode
import Derived.Test.YtebopmkhhppfaaaGreatDoorHand
import Derived.Test.YtebopmkhhppfaaaGreatDoorSort
namespace Go.Proofs.YtebopmkhhppfaaaGreatDoor
namespace Ab
noncomputable section
set_option linter.unusedSimpArgs false
set_option linter.unusedVariables false
set_option maxRecDepth 100000
set_option maxHeartbeats 1000000
def zam8  (j1:Unit):Option (Int×Int×Int) :=
 some (0,0,6)
@[go_sem] def zfr0  (j1:Unit):St:=⟨[],[],0⟩
def zm4 (a0:List Int) (g1:Int×Int):Option ((Int×Int)⊕((Unit)⊕(Int×Int×Int))) :=
 (if (decide (g1.2 < 10))=true then
  (if (decide ((a0.length:Int)≤g1.2))=true then
   some (.inr (.inr (0,0,5)))
  else
   gd (0≤g1.2∧g1.2 < (a0.length:Int)) <|
   (if ((decide (g1.2=9))&&(decide (1 < (a0.getD g1.2.toNat 0))))=true then
    some (.inr (.inr (0,0,6)))
   else
    gd (0≤(IntKind.i64.wrap (7 * g1.2))) <|
    (if (!decide ((zx2 .and .u8 (a0.getD g1.2.toNat 0) 128)=0))=true then
     some (.inl ((zx2 .or .u64 g1.1 (IntKind.u64.wrap ((IntKind.u64.wrap (zx2 .and .u8 (a0.getD g1.2.toNat 0) 127)) * 2 ^ (Nat.min (IntKind.i64.wrap (7 * g1.2)).toNat IntKind.u64.bits)))),(IntKind.i64.wrap (g1.2+1))))
    else
     (if ((decide ((a0.getD g1.2.toNat 0)=0))&&(decide (0 < g1.2)))=true then
      some (.inr (.inr (0,0,6)))
     else
      some (.inr (.inr ((zx2 .or .u64 g1.1 (IntKind.u64.wrap ((IntKind.u64.wrap (zx2 .and .u8 (a0.getD g1.2.toNat 0) 127)) * 2 ^ (Nat.min (IntKind.i64.wrap (7 * g1.2)).toNat IntKind.u64.bits)))),(IntKind.i64.wrap (g1.2+1)),0)))))))
 else
  some (.inr (.inl ())))
@[go_sem] def zfr1 (a0:List Int) (g1:Int×Int):St:=⟨[(0,.sl (a0.map (eI .u8))),(5,.int .u64 g1.1),(8,.int .i64 g1.2)],[],0⟩
def zk5 (a0:List Int):Option (Int×Int×Int) :=
 (zb4 (zm4 a0) (0,0)).bind (fun|.inl z=>zam8 z|.inr z=>some z)
theorem zau8 (a0:List Int) (r:Int×Int×Int) (h:zk5 a0=some r):PFn C 75 [.sl (a0.map (eI .u8))] (.tup [.int .u64 r.1,.int .i64 r.2.1,.int .i64 r.2.2]):=by
 refine za7 ck_0 rfl fun E hG hN hK=>?_
 unfold pc_0
 unfold zk5 at h
 refine za0 (za1 hG ?_)
 refine za0 (za1 hG ?_)
 refine za0 (za0 (za1 hG ?_))
 refine zb2 (zfr0) (fun v=>zam8 v=some r) ?_ ?_
 · intro j1 h
   unfold zam8 at h
   refine g_st ?_
   refine za0 (za1 hG ?_)
   refine za6 ?_
   exact zb0 h
 refine zc8 (zfr1 a0) hK [] h (fun x_l1 h g1 y_l1 h_l1 hx_l1=>?_)
 unfold zm4 at h_l1
 refine g_st ?_
 refine za0 (za1 hG ?_)
 refine za0 ?_
 refine za3 rfl hG h_l1 (fun _ h_l1=>?_) (fun _ h_l1=>?_)
 · refine za4 ?_
   refine za0 (zb3 (za0 (za1 hG ?_)))
   refine za0 (za0 (za1 hG ?_))
   refine za3 rfl hG h_l1 (fun _ h_l1=>?_) (fun _ h_l1=>?_)
   · refine za0 (za1 hG ?_)
     refine za6 ?_
     cases h_l1
     cases hx_l1 _ rfl
     exact zb0 h
   refine za4 ?_
   refine za0 ?_
   obtain ⟨hb2,h_l1⟩:=za5 h_l1
   refine za1 hG ?_
   refine za0 (za0 (za1 hG ?_))
   refine za3 rfl hG h_l1 (fun _ h_l1=>?_) (fun _ h_l1=>?_)
   · refine za0 (za1 hG ?_)
     refine za6 ?_
     cases h_l1
     cases hx_l1 _ rfl
     exact zb0 h
   refine za4 ?_
   refine za0 ?_
   obtain ⟨hb1,h_l1⟩:=za5 h_l1
   refine za1 hG ?_
   refine za0 (za0 (za1 hG ?_))
   refine za3 rfl hG h_l1 (fun _ h_l1=>?_) (fun _ h_l1=>?_)
   · refine zb5 ?_
     refine za1 hG ?_
     exact zc2 hK [] h_l1
   refine za4 ?_
   refine za0 (za0 (za1 hG ?_))
   refine za3 rfl hG h_l1 (fun _ h_l1=>?_) (fun _ h_l1=>?_)
   · refine za0 (za1 hG ?_)
     refine za6 ?_
     cases h_l1
     cases hx_l1 _ rfl
     exact zb0 h
   refine za4 ?_
   refine za0 (za1 hG ?_)
   refine za6 ?_
   cases h_l1
   cases hx_l1 _ rfl
   exact zb0 h
 refine zb5 ?_
 cases h_l1
 cases hx_l1 _ rfl
 exact zb8 hK [] () (by exact h)
attribute [local irreducible] zk5
def zi2 (a2:decoder) (v1:Int×Int×Int) (j1:Int):Option (Int×decoder) :=
 (if (!decide (j1=0))=true then
  some (0,{ a2 with reader:={ a2.reader with err:=j1 } })
 else
  gd (0≤v1.2.1∧v1.2.1≤(a2.reader.rest.length:Int)∧(a2.reader.rest.length:Int)≤(a2.reader.rest.length:Int)) <|
  some ((IntKind.i64.wrap v1.1),{ a2 with reader:={ a2.reader with rest:=(a2.reader.rest.drop v1.2.1.toNat) } }))
@[go_sem] def zfr2 (a2:decoder) (v1:Int×Int×Int) (j1:Int):St:=⟨[(0,.ptr 0 0 0),(7,.int .u64 v1.1),(8,.int .i64 v1.2.1),(9,.int .i64 j1)],[(0,⟨false,2,(decoder.enc decoder.zero),[decoder.enc a2]⟩)],1⟩
def zc7 (a0:Int) (a1:Int) (a2:decoder):Option (Int×decoder) :=
 (if (!decide (a2.reader.err=0))=true then
  some (0,a2)
 else
  (zk5 a2.reader.rest).bind fun v1 =>
  (if ((decide (v1.2.2=0))&&(decide ((IntKind.u64.wrap a0) < v1.1)))=true then
   zi2 a2 v1 a1
  else
   zi2 a2 v1 v1.2.2))
theorem zS4 (a0:Int) (a1:Int) (a2:decoder) (r:Int×decoder) (h:zc7 a0 a1 a2=some r):MFn C 41 [.ptr 0 0 0,.int .i64 a0,.int .i64 a1] [(0,⟨false,2,(decoder.enc decoder.zero),[decoder.enc a2]⟩)] 1 (.int .i64 r.1) [(0,⟨false,2,(decoder.enc decoder.zero),[decoder.enc r.2]⟩)] 1:=by
 refine zh0 (rl:=[.int .i64 r.1]) ck_1 rfl rfl rfl rfl fun E hG hN hK=>?_
 unfold pc_1
 unfold zc7 at h
 refine za0 (za1 hG ?_)
 refine za0 (za0 (za1 hG ?_))
 refine za3 rfl hG h (fun _ h=>?_) (fun _ h=>?_)
 · refine za0 (za1 hG ?_)
   refine za6 ?_
   exact ze0 [(0,0)] h
 refine za4 ?_
 refine za0 (za1 hG ?_)
 obtain ⟨v1,hv1,h⟩:=za2 h
 refine za8 (fun hg=>zau8 _ _ hv1) ?_
 refine za0 (za0 (za1 hG ?_))
 refine zaQ7 (zfr2 a2 v1) (fun v=>zi2 a2 v1 v=some r) rfl hG h ?_ (fun _ h=>?_) (fun _ h=>?_)
 · intro j1 h
   unfold zi2 at h
   refine g_st ?_
   refine za0 (za0 (za1 hG ?_))
   refine za3 rfl hG h (fun _ h=>?_) (fun _ h=>?_)
   · refine za0 (za1 hG ?_)
     refine za0 (za1 hG ?_)
     refine za6 ?_
     exact ze0 [(0,0)] h
   refine za4 ?_
   refine za0 ?_
   obtain ⟨hb1,h⟩:=za5 h
   refine za1 hG ?_
   refine za0 (za1 hG ?_)
   refine za6 ?_
   exact ze0 [(0,0)] h
 · refine za1 hG ?_
   exact zb8 hK [(0,0)] a1 (by exact h)
 refine za4 ?_
 exact zb8 hK [(0,0)] v1.2.2 (by exact h)
attribute [local irreducible] zc7
def zb9 (a0:Int) (a1:decoder):Option (Int×decoder) :=
 (zc7 a0 4 a1).bind fun v1 =>
 some (v1.1,v1.2)
theorem zn8 (a0:Int) (a1:decoder) (r:Int×decoder) (h:zb9 a0 a1=some r):MFn C 13 [.ptr 0 0 0,.int .i64 a0] [(0,⟨false,2,(decoder.enc decoder.zero),[decoder.enc a1]⟩)] 1 (.int .i64 r.1) [(0,⟨false,2,(decoder.enc decoder.zero),[decoder.enc r.2]⟩)] 1:=by
 refine zh0 (rl:=[.int .i64 r.1]) ck_2 rfl rfl rfl rfl fun E hG hN hK=>?_
 unfold pc_2
 unfold zb9 at h
 refine za0 (za1 hG ?_)
 refine za0 (za1 hG ?_)
 obtain ⟨v1,hv1,h⟩:=za2 h
 refine zd3 [(0,0)] [] [0] (zS4 _ _ _ _ hv1) rfl rfl ?_
 refine za6 ?_
 exact ze0 [(0,0)] h
attribute [local irreducible] zb9
def zo4 (a0:List Int):Option (ByteArray×Int×Int) :=
 (zk5 a0).bind fun v1 =>
 (if (!decide (v1.2.2=0))=true then
  some ((⟨#[]⟩:ByteArray),0,v1.2.2)
 else
  (if (decide (1024 < v1.1))=true then
   some ((⟨#[]⟩:ByteArray),0,3)
  else
   (if (decide ((IntKind.i64.wrap ((a0.length:Int) - v1.2.1)) < (IntKind.i64.wrap v1.1)))=true then
    some ((⟨#[]⟩:ByteArray),0,5)
   else
    gd (0≤v1.2.1∧v1.2.1≤(IntKind.i64.wrap (v1.2.1+(IntKind.i64.wrap v1.1)))∧(IntKind.i64.wrap (v1.2.1+(IntKind.i64.wrap v1.1)))≤(a0.length:Int)) <|
    some ((zam5 ((a0.take ((IntKind.i64.wrap (v1.2.1+(IntKind.i64.wrap v1.1))).toNat)).drop v1.2.1.toNat)),(IntKind.i64.wrap (v1.2.1+(IntKind.i64.wrap v1.1))),0))))
theorem zbp2 (a0:List Int) (r:ByteArray×Int×Int) (h:zo4 a0=some r):PFn C 76 [.sl (a0.map (eI .u8))] (.tup [.str r.1,.int .i64 r.2.1,.int .i64 r.2.2]):=by
 refine za7 ck_3 rfl fun E hG hN hK=>?_
 unfold pc_3
 unfold zo4 at h
 refine za0 (za1 hG ?_)
 refine za0 (za1 hG ?_)
 obtain ⟨v1,hv1,h⟩:=za2 h
 refine za8 (fun hg=>zau8 _ _ hv1) ?_
 refine za0 (zb3 (za0 (za1 hG ?_)))
 refine za3 rfl hG h (fun _ h=>?_) (fun _ h=>?_)
 · refine za0 (za1 hG ?_)
   refine za6 ?_
   exact zb0 h
 refine za0 (za1 hG ?_)
 refine za3 rfl hG h (fun _ h=>?_) (fun _ h=>?_)
 · refine za0 (za1 hG ?_)
   refine za6 ?_
   exact zb0 h
 refine za0 (za1 hG ?_)
 refine za3 rfl hG h (fun _ h=>?_) (fun _ h=>?_)
 · refine za0 (za1 hG ?_)
   refine za6 ?_
   exact zb0 h
 refine za4 ?_
 refine za0 (za1 hG ?_)
 refine za0 ?_
 obtain ⟨hb1,h⟩:=za5 h
 refine za1 hG ?_
 refine za6 ?_
 exact zb0 h
attribute [local irreducible] zo4
def zd6 (a0:decoder):Option (ByteArray×decoder) :=
 (if (!decide (a0.reader.err=0))=true then
  some ((⟨#[]⟩:ByteArray),a0)
 else
  (zo4 a0.reader.rest).bind fun v1 =>
  (if (!decide (v1.2.2=0))=true then
   some ((⟨#[]⟩:ByteArray),{ a0 with reader:={ a0.reader with err:=v1.2.2 } })
  else
   gd (0≤v1.2.1∧v1.2.1≤(a0.reader.rest.length:Int)∧(a0.reader.rest.length:Int)≤(a0.reader.rest.length:Int)) <|
   some (v1.1,{ a0 with reader:={ a0.reader with rest:=(a0.reader.rest.drop v1.2.1.toNat) } })))
theorem zW2 (a0:decoder) (r:ByteArray×decoder) (h:zd6 a0=some r):MFn C 42 [.ptr 0 0 0] [(0,⟨false,2,(decoder.enc decoder.zero),[decoder.enc a0]⟩)] 1 (.str r.1) [(0,⟨false,2,(decoder.enc decoder.zero),[decoder.enc r.2]⟩)] 1:=by
 refine zh0 (rl:=[.str r.1]) ck_4 rfl rfl rfl rfl fun E hG hN hK=>?_
 unfold pc_4
 unfold zd6 at h
 refine za0 (za1 hG ?_)
 refine za0 (za0 (za1 hG ?_))
 refine za3 rfl hG h (fun _ h=>?_) (fun _ h=>?_)
 · refine za0 (za1 hG ?_)
   refine za6 ?_
   exact ze0 [(0,0)] h
 refine za4 ?_
 refine za0 (za1 hG ?_)
 obtain ⟨v1,hv1,h⟩:=za2 h
 refine za8 (fun hg=>zbp2 _ _ hv1) ?_
 refine za0 (za0 (za1 hG ?_))
 refine za3 rfl hG h (fun _ h=>?_) (fun _ h=>?_)
 · refine za0 (za1 hG ?_)
   refine za0 (za1 hG ?_)
   refine za6 ?_
   exact ze0 [(0,0)] h
 refine za4 ?_
 refine za0 ?_
 obtain ⟨hb1,h⟩:=za5 h
 refine za1 hG ?_
 refine za0 (za1 hG ?_)
 refine za6 ?_
 exact ze0 [(0,0)] h
attribute [local irreducible] zd6
def zb1 (a0:decoder):Option (Int×decoder) :=
 (zc7 1073741824 16 a0).bind fun v1 =>
 some (v1.1,v1.2)
theorem zf9 (a0:decoder) (r:Int×decoder) (h:zb1 a0=some r):MFn C 16 [.ptr 0 0 0] [(0,⟨false,2,(decoder.enc decoder.zero),[decoder.enc a0]⟩)] 1 (.int .i64 r.1) [(0,⟨false,2,(decoder.enc decoder.zero),[decoder.enc r.2]⟩)] 1:=by
 refine zh0 (rl:=[.int .i64 r.1]) ck_5 rfl rfl rfl rfl fun E hG hN hK=>?_
 unfold pc_5
 unfold zb1 at h
 refine za0 (za1 hG ?_)
 refine za0 (za1 hG ?_)
 obtain ⟨v1,hv1,h⟩:=za2 h
 refine zd3 [(0,0)] [] [0] (zS4 _ _ _ _ hv1) rfl rfl ?_
 refine za6 ?_
 exact ze0 [(0,0)] h
attribute [local irreducible] zb1
def zu3 (a0:Int) (a1:Int) (a2:Int):Bool :=
 ((decide (a1≤a0))&&(decide (a0≤a2)))
theorem zai6 (a0:Int) (a1:Int) (a2:Int):PFn C 78 [.int .i64 a0,.int .i64 a1,.int .i64 a2] (.bool (zu3 a0 a1 a2)):=by
 generalize h:zu3 a0 a1 a2=r
 refine za7 ck_6 rfl fun E hG hN hK=>?_
 unfold pc_6
 unfold zu3 at h
 refine za0 (za1 hG ?_)
 refine za0 (za1 hG ?_)
 refine za6 ?_
 exact zm0 h
def za9 (a0:Proc):Bool :=
 (((zu3 a0.site 0 3)&&(zu3 a0.inc 1 99))&&(zu3 a0.num 1 999))
theorem zF6 (a0:Proc):PFn C 46 [.agg (Proc.enc a0)] (.bool (za9 a0)):=by
 generalize h:za9 a0=r
 refine za7 ck_7 rfl fun E hG hN hK=>?_
 unfold pc_7
 unfold za9 at h
 refine za0 (za1 hG ?_)
 refine za0 (za1 hG ?_)
 refine za8 (fun hg=>zai6 a0.site 0 3) ?_
 refine za8 (fun hg=>zai6 a0.inc 1 99) ?_
 refine za8 (fun hg=>zai6 a0.num 1 999) ?_
 refine za6 ?_
 exact zm0 h
def zU9  (j1:Int×(Arr Int 3)):Option (Proc×Int×Int) :=
 (if (!(za9 (⟨(Arr.get j1.2 0 0),(Arr.get j1.2 1 0),(Arr.get j1.2 2 0)⟩:Proc)))=true then
  some ({ Proc.zero with  },0,2)
 else
  some ((⟨(Arr.get j1.2 0 0),(Arr.get j1.2 1 0),(Arr.get j1.2 2 0)⟩:Proc),j1.1,0))
@[go_sem] def zfr3  (j1:Int×(Arr Int 3)):St:=⟨[(2,.ptr 0 0 0),(5,.ptr 1 0 0),(6,.int .i64 j1.1)],[(0,⟨false,3,(Proc.enc Proc.zero),[Proc.enc Proc.zero]⟩),(1,⟨false,3,(Arr.enc (eI .i64) (Arr.rep 3 0)),[Arr.enc (eI .i64) j1.2]⟩)],2⟩
def zl4 (a0:List Int) (g1:Int×Int×(Arr Int 3)):Option ((Int×Int×(Arr Int 3))⊕((Int×(Arr Int 3))⊕(Proc×Int×Int))) :=
 (if (decide (g1.2.1 < 3))=true then
  gd (0≤g1.1∧g1.1≤(a0.length:Int)∧(a0.length:Int)≤(a0.length:Int)) <|
  (zk5 (a0.drop g1.1.toNat)).bind fun v1 =>
  (if (!decide (v1.2.2=0))=true then
   some (.inr (.inr ({ Proc.zero with  },0,v1.2.2)))
  else
   gd (0≤g1.2.1∧g1.2.1 < 3) <|
   some (.inl ((IntKind.i64.wrap (g1.1+v1.2.1)),(IntKind.i64.wrap (g1.2.1+1)),(Arr.put g1.2.2 g1.2.1.toNat (IntKind.i64.wrap (if 1073741824 < v1.1 then 1073741824 else v1.1))))))
 else
  some (.inr (.inl (g1.1,g1.2.2))))
@[go_sem] def zfr4 (a0:List Int) (g1:Int×Int×(Arr Int 3)):St:=⟨[(0,.sl (a0.map (eI .u8))),(2,.ptr 0 0 0),(5,.ptr 1 0 0),(6,.int .i64 g1.1),(12,.int .i64 g1.2.1)],[(0,⟨false,3,(Proc.enc Proc.zero),[Proc.enc Proc.zero]⟩),(1,⟨false,3,(Arr.enc (eI .i64) (Arr.rep 3 0)),[Arr.enc (eI .i64) g1.2.2]⟩)],2⟩
def zr2 (a0:List Int):Option (Proc×Int×Int) :=
 (zb4 (zl4 a0) (0,0,(Arr.rep 3 0))).bind (fun|.inl z=>zU9 z|.inr z=>some z)
theorem zbp3 (a0:List Int) (r:Proc×Int×Int) (h:zr2 a0=some r):PFn C 44 [.sl (a0.map (eI .u8))] (.tup [.agg (Proc.enc r.1),.int .i64 r.2.1,.int .i64 r.2.2]):=by
 refine za7 ck_8 rfl fun E hG hN hK=>?_
 unfold pc_8
 unfold zr2 at h
 refine za0 (za1 hG ?_)
 refine za0 (za1 hG ?_)
 refine za0 (za1 hG ?_)
 refine za0 (za0 (za1 hG ?_))
 refine zb2 (zfr3) (fun v=>zU9 v=some r) ?_ ?_
 · intro j1 h
   unfold zU9 at h
   refine g_st ?_
   refine za0 (za1 hG ?_)
   refine za0 (za0 (za1 hG ?_))
   refine za8 (fun hg=>zF6 (⟨(Arr.get j1.2 0 0),(Arr.get j1.2 1 0),(Arr.get j1.2 2 0)⟩:Proc)) ?_
   refine za3 rfl hG h (fun _ h=>?_) (fun _ h=>?_)
   · refine za0 (za1 hG ?_)
     refine za6 ?_
     exact zb0 h
   refine za4 ?_
   refine za0 (za1 hG ?_)
   refine za6 ?_
   exact zb0 h
 refine zc8 (zfr4 a0) hK [(0,0),(1,1)] h (fun x_l1 h g1 y_l1 h_l1 hx_l1=>?_)
 unfold zl4 at h_l1
 refine g_st ?_
 refine za0 (za1 hG ?_)
 refine za0 ?_
 refine za3 rfl hG h_l1 (fun _ h_l1=>?_) (fun _ h_l1=>?_)
 · refine za4 ?_
   refine za0 (zb3 (za0 (za1 hG ?_)))
   refine za0 ?_
   obtain ⟨hb2,h_l1⟩:=za5 h_l1
   refine za1 hG ?_
   obtain ⟨v1,hv1,h_l1⟩:=za2 h_l1
   refine za8 (fun hg=>zau8 _ _ hv1) ?_
   refine za0 (za0 (za1 hG ?_))
   refine za3 rfl hG h_l1 (fun _ h_l1=>?_) (fun _ h_l1=>?_)
   · refine za0 (za1 hG ?_)
     refine za6 ?_
     cases h_l1
     cases hx_l1 _ rfl
     exact zb0 h
   refine za4 ?_
   refine za0 (za1 hG ?_)
   obtain ⟨hb1,h_l1⟩:=za5 h_l1
   refine za1 hG ?_
   refine za1 hG ?_
   exact zc2 hK [(0,0),(1,1)] h_l1
 refine zb5 ?_
 cases h_l1
 cases hx_l1 _ rfl
 exact zb8 hK [(0,0),(1,1)] (g1.1,g1.2.2) (by exact h)
attribute [local irreducible] zr2
def zd0 (a0:decoder):Option (Proc×decoder) :=
 (if (!decide (a0.reader.err=0))=true then
  some ({ Proc.zero with  },a0)
 else
  (zr2 a0.reader.rest).bind fun v1 =>
  (if (!decide (v1.2.2=0))=true then
   some ({ Proc.zero with  },{ a0 with reader:={ a0.reader with err:=v1.2.2 } })
  else
   gd (0≤v1.2.1∧v1.2.1≤(a0.reader.rest.length:Int)∧(a0.reader.rest.length:Int)≤(a0.reader.rest.length:Int)) <|
   some (v1.1,{ a0 with reader:={ a0.reader with rest:=(a0.reader.rest.drop v1.2.1.toNat) } })))
theorem zB2 (a0:decoder) (r:Proc×decoder) (h:zd0 a0=some r):MFn C 15 [.ptr 0 0 0] [(0,⟨false,2,(decoder.enc decoder.zero),[decoder.enc a0]⟩)] 1 (.agg (Proc.enc r.1)) [(0,⟨false,2,(decoder.enc decoder.zero),[decoder.enc r.2]⟩)] 1:=by
 refine zh0 (rl:=[.agg (Proc.enc r.1)]) ck_9 rfl rfl rfl rfl fun E hG hN hK=>?_
 unfold pc_9
 unfold zd0 at h
 refine za0 (za1 hG ?_)
 refine za0 (za0 (za1 hG ?_))
 refine za3 rfl hG h (fun _ h=>?_) (fun _ h=>?_)
 · refine za0 (za1 hG ?_)
   refine za6 ?_
   exact ze0 [(0,0)] h
 refine za4 ?_
 refine za0 (za1 hG ?_)
 obtain ⟨v1,hv1,h⟩:=za2 h
 refine za8 (fun hg=>zbp3 _ _ hv1) ?_
 refine za0 (za0 (za1 hG ?_))
 refine za3 rfl hG h (fun _ h=>?_) (fun _ h=>?_)
 · refine za0 (za1 hG ?_)
   refine za0 (za1 hG ?_)
   refine za6 ?_
   exact ze0 [(0,0)] h
 refine za4 ?_
 refine za0 ?_
 obtain ⟨hb1,h⟩:=za5 h
 refine za1 hG ?_
 refine za0 (za1 hG ?_)
 refine za6 ?_
 exact ze0 [(0,0)] h
attribute [local irreducible] zd0
def zc1 (a0:decoder):Option (Amount×decoder) :=
 (zb1 a0).bind fun v1 =>
 (zb1 v1.2).bind fun v2 =>
 some ((⟨v1.1,v2.1⟩:Amount),v2.2)
theorem zv6 (a0:decoder) (r:Amount×decoder) (h:zc1 a0=some r):MFn C 43 [.ptr 0 0 0] [(0,⟨false,2,(decoder.enc decoder.zero),[decoder.enc a0]⟩)] 1 (.agg (Amount.enc r.1)) [(0,⟨false,2,(decoder.enc decoder.zero),[decoder.enc r.2]⟩)] 1:=by
 refine zh0 (rl:=[.agg (Amount.enc r.1)]) ck_a rfl rfl rfl rfl fun E hG hN hK=>?_
 unfold pc_a
 unfold zc1 at h
 refine za0 (za1 hG ?_)
 refine za0 (za1 hG ?_)
 obtain ⟨v1,hv1,h⟩:=za2 h
 refine zd3 [(0,0)] [] [0] (zf9 _ _ hv1) rfl rfl ?_
 refine za0 (za1 hG ?_)
 obtain ⟨v2,hv2,h⟩:=za2 h
 refine zd3 [(0,0)] [] [0] (zf9 _ _ hv2) rfl rfl ?_
 refine za6 ?_
 exact ze0 [(0,0)] h
attribute [local irreducible] zc1
def zv7  (j3:decoder×Queue):Option (Queue×decoder) :=
 some (j3.2,j3.1)
@[go_sem] def zfr5  (j3:decoder×Queue):St:=⟨[(2,.ptr 1 0 0),(3,.ptr 2 0 0)],[(0,⟨false,2,(decoder.enc decoder.zero),[decoder.enc j3.1]⟩),(1,⟨false,8,(Queue.enc Queue.zero),[Queue.enc Queue.zero]⟩),(2,⟨false,8,(Queue.enc Queue.zero),[[.str j3.2.resource.name,.int .i64 j3.2.resource.kind,.int .i64 j3.2.resource.units,.int .i64 j3.2.resource.home,.own 3 0 j3.2.holds.length,.own 4 0 j3.2.converts.length,.own 5 0 j3.2.waits.length,.int .i64 j3.2.gen]]⟩),(3,⟨false,5,(Hold.enc Hold.zero),j3.2.holds.map Hold.enc⟩),(4,⟨false,7,(Wait.enc Wait.zero),j3.2.converts.map Wait.enc⟩),(5,⟨false,7,(Wait.enc Wait.zero),j3.2.waits.map Wait.enc⟩)],6⟩
def zf3  (g1:Int×decoder×Queue):Option ((Int×decoder×Queue)⊕((decoder×Queue))) :=
 (if ((decide (0 < g1.1))&&(decide (g1.2.1.reader.err=0)))=true then
  (zd0 g1.2.1).bind fun v9 =>
  (zc1 v9.2).bind fun v10 =>
  (zb1 v10.2).bind fun v11 =>
  (zb1 v11.2).bind fun v12 =>
  gd (g1.2.2.waits.length+1≤4294967296) <|
  some (.inl ((IntKind.i64.wrap (g1.1 - 1)),v12.2,(⟨(⟨g1.2.2.resource.name,g1.2.2.resource.kind,g1.2.2.resource.units,g1.2.2.resource.home⟩:Resource),g1.2.2.holds,g1.2.2.converts,(g1.2.2.waits++[{ { { { Wait.zero with proc:=v9.1 } with amount:=v10.1 } with priority:=v11.1 } with passed:=v12.1 }]),g1.2.2.gen⟩:Queue)))
 else
  some (.inr (g1.2.1,g1.2.2)))
@[go_sem] def zfr6  (g1:Int×decoder×Queue):St:=⟨[(0,.ptr 0 0 0),(2,.ptr 1 0 0),(3,.ptr 2 0 0),(8,.int .i64 g1.1)],[(0,⟨false,2,(decoder.enc decoder.zero),[decoder.enc g1.2.1]⟩),(1,⟨false,8,(Queue.enc Queue.zero),[Queue.enc Queue.zero]⟩),(2,⟨false,8,(Queue.enc Queue.zero),[[.str g1.2.2.resource.name,.int .i64 g1.2.2.resource.kind,.int .i64 g1.2.2.resource.units,.int .i64 g1.2.2.resource.home,.own 3 0 g1.2.2.holds.length,.own 4 0 g1.2.2.converts.length,.own 5 0 g1.2.2.waits.length,.int .i64 g1.2.2.gen]]⟩),(3,⟨false,5,(Hold.enc Hold.zero),g1.2.2.holds.map Hold.enc⟩),(4,⟨false,7,(Wait.enc Wait.zero),g1.2.2.converts.map Wait.enc⟩),(5,⟨false,7,(Wait.enc Wait.zero),g1.2.2.waits.map Wait.enc⟩)],6⟩
def zq4  (j2:decoder×Queue):Option (Queue×decoder) :=
 (zb9 8 j2.1).bind fun v8 =>
 (zb4 (zf3) (v8.1,v8.2,j2.2)).bind (fun z=>zv7 z)
@[go_sem] def zfr7  (j2:decoder×Queue):St:=⟨[(0,.ptr 0 0 0),(2,.ptr 1 0 0),(3,.ptr 2 0 0)],[(0,⟨false,2,(decoder.enc decoder.zero),[decoder.enc j2.1]⟩),(1,⟨false,8,(Queue.enc Queue.zero),[Queue.enc Queue.zero]⟩),(2,⟨false,8,(Queue.enc Queue.zero),[[.str j2.2.resource.name,.int .i64 j2.2.resource.kind,.int .i64 j2.2.resource.units,.int .i64 j2.2.resource.home,.own 3 0 j2.2.holds.length,.own 4 0 j2.2.converts.length,.own 5 0 j2.2.waits.length,.int .i64 j2.2.gen]]⟩),(3,⟨false,5,(Hold.enc Hold.zero),j2.2.holds.map Hold.enc⟩),(4,⟨false,7,(Wait.enc Wait.zero),j2.2.converts.map Wait.enc⟩),(5,⟨false,7,(Wait.enc Wait.zero),j2.2.waits.map Wait.enc⟩)],6⟩
def zf4  (g2:Int×decoder×Queue):Option ((Int×decoder×Queue)⊕((decoder×Queue))) :=
 (if ((decide (0 < g2.1))&&(decide (g2.2.1.reader.err=0)))=true then
  (zd0 g2.2.1).bind fun v13 =>
  (zc1 v13.2).bind fun v14 =>
  gd (g2.2.2.converts.length+1≤4294967296) <|
  some (.inl ((IntKind.i64.wrap (g2.1 - 1)),v14.2,(⟨(⟨g2.2.2.resource.name,g2.2.2.resource.kind,g2.2.2.resource.units,g2.2.2.resource.home⟩:Resource),g2.2.2.holds,(g2.2.2.converts++[{ Wait.zero with proc:=v13.1,amount:=v14.1 }]),g2.2.2.waits,g2.2.2.gen⟩:Queue)))
 else
  some (.inr (g2.2.1,g2.2.2)))
@[go_sem] def zfr8  (g2:Int×decoder×Queue):St:=⟨[(0,.ptr 0 0 0),(2,.ptr 1 0 0),(3,.ptr 2 0 0),(6,.int .i64 g2.1)],[(0,⟨false,2,(decoder.enc decoder.zero),[decoder.enc g2.2.1]⟩),(1,⟨false,8,(Queue.enc Queue.zero),[Queue.enc Queue.zero]⟩),(2,⟨false,8,(Queue.enc Queue.zero),[[.str g2.2.2.resource.name,.int .i64 g2.2.2.resource.kind,.int .i64 g2.2.2.resource.units,.int .i64 g2.2.2.resource.home,.own 3 0 g2.2.2.holds.length,.own 4 0 g2.2.2.converts.length,.own 5 0 g2.2.2.waits.length,.int .i64 g2.2.2.gen]]⟩),(3,⟨false,5,(Hold.enc Hold.zero),g2.2.2.holds.map Hold.enc⟩),(4,⟨false,7,(Wait.enc Wait.zero),g2.2.2.converts.map Wait.enc⟩),(5,⟨false,7,(Wait.enc Wait.zero),g2.2.2.waits.map Wait.enc⟩)],6⟩
def zq5  (j1:decoder×Queue):Option (Queue×decoder) :=
 (zb9 8 j1.1).bind fun v7 =>
 (zb4 (zf4) (v7.1,v7.2,j1.2)).bind (fun z=>zq4 z)
@[go_sem] def zfr9  (j1:decoder×Queue):St:=⟨[(0,.ptr 0 0 0),(2,.ptr 1 0 0),(3,.ptr 2 0 0)],[(0,⟨false,2,(decoder.enc decoder.zero),[decoder.enc j1.1]⟩),(1,⟨false,8,(Queue.enc Queue.zero),[Queue.enc Queue.zero]⟩),(2,⟨false,8,(Queue.enc Queue.zero),[[.str j1.2.resource.name,.int .i64 j1.2.resource.kind,.int .i64 j1.2.resource.units,.int .i64 j1.2.resource.home,.own 3 0 j1.2.holds.length,.own 4 0 j1.2.converts.length,.own 5 0 j1.2.waits.length,.int .i64 j1.2.gen]]⟩),(3,⟨false,5,(Hold.enc Hold.zero),j1.2.holds.map Hold.enc⟩),(4,⟨false,7,(Wait.enc Wait.zero),j1.2.converts.map Wait.enc⟩),(5,⟨false,7,(Wait.enc Wait.zero),j1.2.waits.map Wait.enc⟩)],6⟩
def zf5  (g3:Int×decoder×Queue):Option ((Int×decoder×Queue)⊕((decoder×Queue))) :=
 (if ((decide (0 < g3.1))&&(decide (g3.2.1.reader.err=0)))=true then
  (zd0 g3.2.1).bind fun v15 =>
  (zc1 v15.2).bind fun v16 =>
  gd (g3.2.2.holds.length+1≤4294967296) <|
  some (.inl ((IntKind.i64.wrap (g3.1 - 1)),v16.2,(⟨(⟨g3.2.2.resource.name,g3.2.2.resource.kind,g3.2.2.resource.units,g3.2.2.resource.home⟩:Resource),(g3.2.2.holds++[(⟨v15.1,v16.1⟩:Hold)]),g3.2.2.converts,g3.2.2.waits,g3.2.2.gen⟩:Queue)))
 else
  some (.inr (g3.2.1,g3.2.2)))
@[go_sem] def zfs0  (g3:Int×decoder×Queue):St:=⟨[(0,.ptr 0 0 0),(2,.ptr 1 0 0),(3,.ptr 2 0 0),(4,.int .i64 g3.1)],[(0,⟨false,2,(decoder.enc decoder.zero),[decoder.enc g3.2.1]⟩),(1,⟨false,8,(Queue.enc Queue.zero),[Queue.enc Queue.zero]⟩),(2,⟨false,8,(Queue.enc Queue.zero),[[.str g3.2.2.resource.name,.int .i64 g3.2.2.resource.kind,.int .i64 g3.2.2.resource.units,.int .i64 g3.2.2.resource.home,.own 3 0 g3.2.2.holds.length,.own 4 0 g3.2.2.converts.length,.own 5 0 g3.2.2.waits.length,.int .i64 g3.2.2.gen]]⟩),(3,⟨false,5,(Hold.enc Hold.zero),g3.2.2.holds.map Hold.enc⟩),(4,⟨false,7,(Wait.enc Wait.zero),g3.2.2.converts.map Wait.enc⟩),(5,⟨false,7,(Wait.enc Wait.zero),g3.2.2.waits.map Wait.enc⟩)],6⟩
def zd5 (a0:decoder):Option (Queue×decoder) :=
 (zd6 a0).bind fun v1 =>
 (zb1 v1.2).bind fun v2 =>
 (zb1 v2.2).bind fun v3 =>
 (zb1 v3.2).bind fun v4 =>
 (zb1 v4.2).bind fun v5 =>
 (zb9 8 v5.2).bind fun v6 =>
 (zb4 (zf5) (v6.1,v6.2,(⟨(⟨v1.1,v2.1,v3.1,v4.1⟩:Resource),[],[],[],v5.1⟩:Queue))).bind (fun z=>zq5 z)
theorem zal1 (a0:decoder) (r:Queue×decoder) (h:zd5 a0=some r):MFn C 14 [.ptr 0 0 0] [(0,⟨false,2,(decoder.enc decoder.zero),[decoder.enc a0]⟩)] 1 (.agg (Queue.enc r.1)) [(0,⟨false,2,(decoder.enc decoder.zero),[decoder.enc r.2]⟩)] 1:=by
 refine zh0 (rl:=[.agg (Queue.enc r.1)]) ck_b rfl rfl rfl rfl fun E hG hN hK=>?_
 unfold pc_b
 unfold zd5 at h
 refine za0 (za1 hG ?_)
 refine za0 (za1 hG ?_)
 refine g_gh (.ownb 2 4 5 (Hold.enc Hold.zero)) ?_
 refine g_gh (.ownb 2 5 7 (Wait.enc Wait.zero)) ?_
 refine g_gh (.ownb 2 6 7 (Wait.enc Wait.zero)) ?_
 refine za0 (za1 hG ?_)
 obtain ⟨v1,hv1,h⟩:=za2 h
 refine zd3 [(0,0)] [] [0] (zW2 _ _ hv1) rfl rfl ?_
 refine za0 (za1 hG ?_)
 obtain ⟨v2,hv2,h⟩:=za2 h
 refine zd3 [(0,0)] [] [0] (zf9 _ _ hv2) rfl rfl ?_
 refine za0 (za1 hG ?_)
 obtain ⟨v3,hv3,h⟩:=za2 h
 refine zd3 [(0,0)] [] [0] (zf9 _ _ hv3) rfl rfl ?_
 refine za0 (za1 hG ?_)
 obtain ⟨v4,hv4,h⟩:=za2 h
 refine zd3 [(0,0)] [] [0] (zf9 _ _ hv4) rfl rfl ?_
 refine za0 (za1 hG ?_)
 obtain ⟨v5,hv5,h⟩:=za2 h
 refine zd3 [(0,0)] [] [0] (zf9 _ _ hv5) rfl rfl ?_
 refine za0 (za0 (za1 hG ?_))
 obtain ⟨v6,hv6,h⟩:=za2 h
 refine zd3 [(0,0)] [] [0] (zn8 _ _ _ hv6) rfl rfl ?_
 refine zb2 (zfr9) (fun v=>zq5 v=some r) ?_ ?_
 · intro j1 h
   unfold zq5 at h
   refine g_st ?_
   refine za0 (za0 (za1 hG ?_))
   obtain ⟨v7,hv7,h⟩:=za2 h
   refine zd3 [(0,0)] [] [0] (zn8 _ _ _ hv7) rfl rfl ?_
   refine zb2 (zfr7) (fun v=>zq4 v=some r) ?_ ?_
   · intro j2 h
     unfold zq4 at h
     refine g_st ?_
     refine za0 (za0 (za1 hG ?_))
     obtain ⟨v8,hv8,h⟩:=za2 h
     refine zd3 [(0,0)] [] [0] (zn8 _ _ _ hv8) rfl rfl ?_
     refine zb2 (zfr5) (fun v=>zv7 v=some r) ?_ ?_
     · intro j3 h
       unfold zv7 at h
       refine g_st ?_
       refine za0 (za1 hG ?_)
       refine g_gh (.fz [3,4,5]) ?_
       refine za6 ?_
       exact ze0 [(0,0)] h
     refine zc8 (zfr6) hK [(0,0),(1,1),(2,2),(3,3),(4,4),(5,5)] h (fun x_l1 h g1 y_l1 h_l1 hx_l1=>?_)
     unfold zf3 at h_l1
     refine g_st ?_
     refine za0 (za0 (za1 hG ?_))
     refine za3 rfl hG h_l1 (fun _ h_l1=>?_) (fun _ h_l1=>?_)
     · refine za4 ?_
       refine za0 (zb3 (za0 (za1 hG ?_)))
       obtain ⟨v9,hv9,h_l1⟩:=za2 h_l1
       refine zd3 [(0,0)] [] [0] (zB2 _ _ hv9) rfl rfl ?_
       refine za0 (za1 hG ?_)
       obtain ⟨v10,hv10,h_l1⟩:=za2 h_l1
       refine zd3 [(0,0)] [] [0] (zv6 _ _ hv10) rfl rfl ?_
       refine za0 (za1 hG ?_)
       obtain ⟨v11,hv11,h_l1⟩:=za2 h_l1
       refine zd3 [(0,0)] [] [0] (zf9 _ _ hv11) rfl rfl ?_
       refine za0 (za1 hG ?_)
       obtain ⟨v12,hv12,h_l1⟩:=za2 h_l1
       refine zd3 [(0,0)] [] [0] (zf9 _ _ hv12) rfl rfl ?_
       obtain ⟨hb1,h_l1⟩:=za5 h_l1
       refine za1 hG ?_
       refine za1 hG ?_
       exact zc2 hK [(0,0),(1,1),(2,2),(3,3),(4,4),(5,7)] h_l1
     refine zb5 ?_
     cases h_l1
     cases hx_l1 _ rfl
     exact zb8 hK [(0,0),(1,1),(2,2),(3,3),(4,4),(5,5)] (g1.2.1,g1.2.2) (by exact h)
   refine zc8 (zfr8) hK [(0,0),(1,1),(2,2),(3,3),(4,4),(5,5)] h (fun x_l2 h g2 y_l2 h_l2 hx_l2=>?_)
   unfold zf4 at h_l2
   refine g_st ?_
   refine za0 (za0 (za1 hG ?_))
   refine za3 rfl hG h_l2 (fun _ h_l2=>?_) (fun _ h_l2=>?_)
   · refine za4 ?_
     refine za0 (zb3 (za0 (za1 hG ?_)))
     obtain ⟨v13,hv13,h_l2⟩:=za2 h_l2
     refine zd3 [(0,0)] [] [0] (zB2 _ _ hv13) rfl rfl ?_
     refine zab5 ze5 hG ?_
     obtain ⟨v14,hv14,h_l2⟩:=za2 h_l2
     obtain ⟨hb2,h_l2⟩:=za5 h_l2
     refine zac1 [(0,0)] [] [0] (zv6 _ _ hv14) rfl rfl ?_
     refine za1 hG ?_
     exact zc2 hK [(0,0),(1,1),(2,2),(3,3),(4,7),(5,5)] h_l2
   refine zb5 ?_
   cases h_l2
   cases hx_l2 _ rfl
   exact zb8 hK [(0,0),(1,1),(2,2),(3,3),(4,4),(5,5)] (g2.2.1,g2.2.2) (by exact h)
 refine zc8 (zfs0) hK [(0,0),(1,1),(2,2),(3,3),(4,4),(5,5)] h (fun x_l3 h g3 y_l3 h_l3 hx_l3=>?_)
 unfold zf5 at h_l3
 refine g_st ?_
 refine za0 (za0 (za1 hG ?_))
 refine za3 rfl hG h_l3 (fun _ h_l3=>?_) (fun _ h_l3=>?_)
 · refine za4 ?_
   refine za0 (zb3 (za0 (za1 hG ?_)))
   obtain ⟨v15,hv15,h_l3⟩:=za2 h_l3
   refine zd3 [(0,0)] [] [0] (zB2 _ _ hv15) rfl rfl ?_
   refine zab5 ze5 hG ?_
   obtain ⟨v16,hv16,h_l3⟩:=za2 h_l3
   obtain ⟨hb3,h_l3⟩:=za5 h_l3
   refine zac1 [(0,0)] [] [0] (zv6 _ _ hv16) rfl rfl ?_
   refine za1 hG ?_
   exact zc2 hK [(0,0),(1,1),(2,2),(3,7),(4,4),(5,5)] h_l3
 refine zb5 ?_
 cases h_l3
 cases hx_l3 _ rfl
 exact zb8 hK [(0,0),(1,1),(2,2),(3,3),(4,4),(5,5)] (g3.2.1,g3.2.2) (by exact h)
attribute [local irreducible] zd5
def zr1  (j2:decoder×Expr):Option (Expr×decoder) :=
 some (j2.2,j2.1)
@[go_sem] def zfs1  (j2:decoder×Expr):St:=⟨[(4,.ptr 1 0 0),(5,.ptr 2 0 0)],[(0,⟨false,2,(decoder.enc decoder.zero),[decoder.enc j2.1]⟩),(1,⟨false,5,(Expr.enc Expr.zero),[Expr.enc Expr.zero]⟩),(2,⟨false,5,(Expr.enc Expr.zero),[[.int .i64 j2.2.k,.str j2.2.atom.name,.int .i64 j2.2.atom.amount.mode,.int .i64 j2.2.atom.amount.units,.own 3 0 j2.2.kids.length]]⟩),(3,⟨false,5,(Expr.enc Expr.zero),j2.2.kids.map Expr.enc⟩)],4⟩
def zg0 (a90:(Int→decoder→Option (Expr×decoder))) (a0:Int) (g1:Int×decoder×Expr):Option ((Int×decoder×Expr)⊕((decoder×Expr))) :=
 (if ((decide (0 < g1.1))&&(decide (g1.2.1.reader.err=0)))=true then
  (a90 (IntKind.i64.wrap (a0+1)) g1.2.1).bind fun v5 =>
  gd (g1.2.2.kids.length+1≤4294967296) <|
  some (.inl ((IntKind.i64.wrap (g1.1 - 1)),v5.2,(⟨g1.2.2.k,(⟨g1.2.2.atom.name,(⟨g1.2.2.atom.amount.mode,g1.2.2.atom.amount.units⟩:Amount)⟩:Atom),(g1.2.2.kids++[v5.1])⟩:Expr)))
 else
  some (.inr (g1.2.1,g1.2.2)))
@[go_sem] def zfs2 (a0:Int) (g1:Int×decoder×Expr):St:=⟨[(0,.ptr 0 0 0),(1,.int .i64 a0),(4,.ptr 1 0 0),(5,.ptr 2 0 0),(6,.int .i64 g1.1)],[(0,⟨false,2,(decoder.enc decoder.zero),[decoder.enc g1.2.1]⟩),(1,⟨false,5,(Expr.enc Expr.zero),[Expr.enc Expr.zero]⟩),(2,⟨false,5,(Expr.enc Expr.zero),[[.int .i64 g1.2.2.k,.str g1.2.2.atom.name,.int .i64 g1.2.2.atom.amount.mode,.int .i64 g1.2.2.atom.amount.units,.own 3 0 g1.2.2.kids.length]]⟩),(3,⟨false,5,(Expr.enc Expr.zero),g1.2.2.kids.map Expr.enc⟩)],4⟩
def zk3 (a90:(Int→decoder→Option (Expr×decoder))) (a0:Int) (j1:decoder):Option (Expr×decoder) :=
 (zb1 j1).bind fun v1 =>
 (if (!decide (v1.2.reader.err=0))=true then
  some ((⟨v1.1,(⟨((⟨Expr.zero.k,(⟨Expr.zero.atom.name,(⟨Expr.zero.atom.amount.mode,Expr.zero.atom.amount.units⟩:Amount)⟩:Atom),[]⟩:Expr).atom).name,(⟨(((⟨Expr.zero.k,(⟨Expr.zero.atom.name,(⟨Expr.zero.atom.amount.mode,Expr.zero.atom.amount.units⟩:Amount)⟩:Atom),[]⟩:Expr).atom).amount).mode,(((⟨Expr.zero.k,(⟨Expr.zero.atom.name,(⟨Expr.zero.atom.amount.mode,Expr.zero.atom.amount.units⟩:Amount)⟩:Atom),[]⟩:Expr).atom).amount).units⟩:Amount)⟩:Atom),(⟨Expr.zero.k,(⟨Expr.zero.atom.name,(⟨Expr.zero.atom.amount.mode,Expr.zero.atom.amount.units⟩:Amount)⟩:Atom),[]⟩:Expr).kids⟩:Expr),v1.2)
 else
  (if (decide (v1.1=0))=true then
   (zd6 v1.2).bind fun v2 =>
   (zc1 v2.2).bind fun v3 =>
   some ((⟨v1.1,(⟨v2.1,(⟨v3.1.mode,v3.1.units⟩:Amount)⟩:Atom),(⟨Expr.zero.k,(⟨Expr.zero.atom.name,(⟨Expr.zero.atom.amount.mode,Expr.zero.atom.amount.units⟩:Amount)⟩:Atom),[]⟩:Expr).kids⟩:Expr),v3.2)
  else
   (zb9 24 v1.2).bind fun v4 =>
   (zb4 (zg0 a90 a0) (v4.1,v4.2,(⟨v1.1,(⟨((⟨Expr.zero.k,(⟨Expr.zero.atom.name,(⟨Expr.zero.atom.amount.mode,Expr.zero.atom.amount.units⟩:Amount)⟩:Atom),[]⟩:Expr).atom).name,(⟨(((⟨Expr.zero.k,(⟨Expr.zero.atom.name,(⟨Expr.zero.atom.amount.mode,Expr.zero.atom.amount.units⟩:Amount)⟩:Atom),[]⟩:Expr).atom).amount).mode,(((⟨Expr.zero.k,(⟨Expr.zero.atom.name,(⟨Expr.zero.atom.amount.mode,Expr.zero.atom.amount.units⟩:Amount)⟩:Atom),[]⟩:Expr).atom).amount).units⟩:Amount)⟩:Atom),(⟨Expr.zero.k,(⟨Expr.zero.atom.name,(⟨Expr.zero.atom.amount.mode,Expr.zero.atom.amount.units⟩:Amount)⟩:Atom),[]⟩:Expr).kids⟩:Expr))).bind (fun z=>zr1 z)))
@[go_sem] def zfs3 (a0:Int) (j1:decoder):St:=⟨[(0,.ptr 0 0 0),(1,.int .i64 a0),(4,.ptr 1 0 0),(5,.ptr 2 0 0)],[(0,⟨false,2,(decoder.enc decoder.zero),[decoder.enc j1]⟩),(1,⟨false,5,(Expr.enc Expr.zero),[Expr.enc Expr.zero]⟩),(2,⟨false,5,(Expr.enc Expr.zero),[[.int .i64 ((⟨Expr.zero.k,(⟨Expr.zero.atom.name,(⟨Expr.zero.atom.amount.mode,Expr.zero.atom.amount.units⟩:Amount)⟩:Atom),[]⟩:Expr).k),.str (((⟨Expr.zero.k,(⟨Expr.zero.atom.name,(⟨Expr.zero.atom.amount.mode,Expr.zero.atom.amount.units⟩:Amount)⟩:Atom),[]⟩:Expr).atom).name),.int .i64 ((((⟨Expr.zero.k,(⟨Expr.zero.atom.name,(⟨Expr.zero.atom.amount.mode,Expr.zero.atom.amount.units⟩:Amount)⟩:Atom),[]⟩:Expr).atom).amount).mode),.int .i64 ((((⟨Expr.zero.k,(⟨Expr.zero.atom.name,(⟨Expr.zero.atom.amount.mode,Expr.zero.atom.amount.units⟩:Amount)⟩:Atom),[]⟩:Expr).atom).amount).units),.own 3 0 (((⟨Expr.zero.k,(⟨Expr.zero.atom.name,(⟨Expr.zero.atom.amount.mode,Expr.zero.atom.amount.units⟩:Amount)⟩:Atom),[]⟩:Expr).kids).length)]]⟩),(3,⟨false,5,(Expr.enc Expr.zero),((⟨Expr.zero.k,(⟨Expr.zero.atom.name,(⟨Expr.zero.atom.amount.mode,Expr.zero.atom.amount.units⟩:Amount)⟩:Atom),[]⟩:Expr).kids).map Expr.enc⟩)],4⟩
def zl5 (a90:(Int→decoder→Option (Expr×decoder))) (a0:Int) (a1:decoder):Option (Expr×decoder) :=
 (if ((decide (a1.reader.err=0))&&(decide (4 < a0)))=true then
  zk3 a90 a0 ({ a1 with reader:={ a1.reader with err:=4 } })
 else
  zk3 a90 a0 a1)
def zg7:Nat→(Int→decoder→Option (Expr×decoder))
 | 0=>fun _ _=>none
 | n+1=>zl5 (zg7 n)
def ze2 (a0:Int) (a1:decoder):Option (Expr×decoder):=zg7 ((6 - a0).toNat+1) a0 a1
theorem zam9 (a90:(Int→decoder→Option (Expr×decoder))) (hrc:∀ (a0:Int) (a1:decoder) (r:Expr×decoder),a90 a0 a1=some r→MFn C 17 [.ptr 0 0 0,.int .i64 a0] [(0,⟨false,2,(decoder.enc decoder.zero),[decoder.enc a1]⟩)] 1 (.agg (Expr.enc r.1)) [(0,⟨false,2,(decoder.enc decoder.zero),[decoder.enc r.2]⟩)] 1) (a0:Int) (a1:decoder) (r:Expr×decoder) (h:zl5 a90 a0 a1=some r):MFn C 17 [.ptr 0 0 0,.int .i64 a0] [(0,⟨false,2,(decoder.enc decoder.zero),[decoder.enc a1]⟩)] 1 (.agg (Expr.enc r.1)) [(0,⟨false,2,(decoder.enc decoder.zero),[decoder.enc r.2]⟩)] 1:=by
 refine zh0 (rl:=[.agg (Expr.enc r.1)]) ck_c rfl rfl rfl rfl fun E hG hN hK=>?_
 unfold pc_c
 unfold zl5 at h
 refine za0 (za1 hG ?_)
 refine za0 (za1 hG ?_)
 refine g_gh (.ownb 2 4 5 (Expr.enc Expr.zero)) ?_
 refine za0 (za0 (za1 hG ?_))
 refine zaQ7 (zfs3 a0) (fun v=>zk3 a90 a0 v=some r) rfl hG h ?_ (fun _ h=>?_) (fun _ h=>?_)
 · intro j1 h
   unfold zk3 at h
   refine g_st ?_
   refine za0 (za1 hG ?_)
   obtain ⟨v1,hv1,h⟩:=za2 h
   refine zd3 [(0,0)] [] [0] (zf9 _ _ hv1) rfl rfl ?_
   refine za0 (za0 (za1 hG ?_))
   refine za3 rfl hG h (fun _ h=>?_) (fun _ h=>?_)
   · refine za0 (za1 hG ?_)
     refine g_gh (.fz [3]) ?_
     refine za6 ?_
     exact ze0 [(0,0)] h
   refine za4 ?_
   refine za0 (za0 (za1 hG ?_))
   refine za3 rfl hG h (fun _ h=>?_) (fun _ h=>?_)
   · refine za0 (za1 hG ?_)
     obtain ⟨v2,hv2,h⟩:=za2 h
     refine zd3 [(0,0)] [] [0] (zW2 _ _ hv2) rfl rfl ?_
     refine za0 (za1 hG ?_)
     obtain ⟨v3,hv3,h⟩:=za2 h
     refine zd3 [(0,0)] [] [0] (zv6 _ _ hv3) rfl rfl ?_
     refine za0 (za1 hG ?_)
     refine g_gh (.fz [3]) ?_
     refine za6 ?_
     exact ze0 [(0,0)] h
   refine za4 ?_
   refine za0 (za0 (za1 hG ?_))
   obtain ⟨v4,hv4,h⟩:=za2 h
   refine zd3 [(0,0)] [] [0] (zn8 _ _ _ hv4) rfl rfl ?_
   refine zb2 (zfs1) (fun v=>zr1 v=some r) ?_ ?_
   · intro j2 h
     unfold zr1 at h
     refine g_st ?_
     refine za0 (za1 hG ?_)
     refine g_gh (.fz [3]) ?_
     refine za6 ?_
     exact ze0 [(0,0)] h
   refine zc8 (zfs2 a0) hK [(0,0),(1,1),(2,2),(3,3)] h (fun x_l1 h g1 y_l1 h_l1 hx_l1=>?_)
   unfold zg0 at h_l1
   refine g_st ?_
   refine za0 (za0 (za1 hG ?_))
   refine za3 rfl hG h_l1 (fun _ h_l1=>?_) (fun _ h_l1=>?_)
   · refine za4 ?_
     refine za0 (zb3 (zab5 ze5 hG ?_))
     obtain ⟨v5,hv5,h_l1⟩:=za2 h_l1
     obtain ⟨hb1,h_l1⟩:=za5 h_l1
     refine zac1 [(0,0)] [] [0] (hrc (IntKind.i64.wrap (a0+1)) g1.2.1 _ hv5) rfl rfl ?_
     refine za1 hG ?_
     exact zc2 hK [(0,0),(1,1),(2,2),(3,4)] h_l1
   refine zb5 ?_
   cases h_l1
   cases hx_l1 _ rfl
   exact zb8 hK [(0,0),(1,1),(2,2),(3,3)] (g1.2.1,g1.2.2) (by exact h)
 · refine za1 hG ?_
   exact zb8 hK [(0,0),(1,1),(2,2),(3,3)] ({ a1 with reader:={ a1.reader with err:=4 } }) (by exact h)
 refine za4 ?_
 exact zb8 hK [(0,0),(1,1),(2,2),(3,3)] a1 (by exact h)
theorem zV0:∀ (n:Nat) (a0:Int) (a1:decoder) (r:Expr×decoder),zg7 n a0 a1=some r→MFn C 17 [.ptr 0 0 0,.int .i64 a0] [(0,⟨false,2,(decoder.enc decoder.zero),[decoder.enc a1]⟩)] 1 (.agg (Expr.enc r.1)) [(0,⟨false,2,(decoder.enc decoder.zero),[decoder.enc r.2]⟩)] 1
 | 0,_,_,_,h=>nomatch h
 | n+1,a0,a1,r,h=>zam9 (zg7 n) (zV0 n) a0 a1 r h
theorem zan0 (a0:Int) (a1:decoder) (r:Expr×decoder) (h:ze2 a0 a1=some r):MFn C 17 [.ptr 0 0 0,.int .i64 a0] [(0,⟨false,2,(decoder.enc decoder.zero),[decoder.enc a1]⟩)] 1 (.agg (Expr.enc r.1)) [(0,⟨false,2,(decoder.enc decoder.zero),[decoder.enc r.2]⟩)] 1:=zV0 _ a0 a1 r h
attribute [local irreducible] ze2
def zp5  (j1:Bool):Bool :=
 (if j1=true then
  true
 else
  false)
@[go_sem] def zfs4  (j1:Bool):St:=⟨[(4,.bool j1)],[],0⟩
def zF7 (a0:ByteArray):Bool :=
 (if (a0.toList == (⟨#[97,108,108]⟩:ByteArray).toList)=true then
  zp5 (a0.toList == (⟨#[97,108,108]⟩:ByteArray).toList)
 else
  (if (a0.toList == (⟨#[97,110,121]⟩:ByteArray).toList)=true then
   zp5 (a0.toList == (⟨#[97,110,121]⟩:ByteArray).toList)
  else
   (if (a0.toList == (⟨#[111,102]⟩:ByteArray).toList)=true then
    zp5 (a0.toList == (⟨#[111,102]⟩:ByteArray).toList)
   else
    (if (a0.toList == (⟨#[112,114,105,111]⟩:ByteArray).toList)=true then
     zp5 (a0.toList == (⟨#[112,114,105,111]⟩:ByteArray).toList)
    else
     zp5 (a0.toList == (⟨#[108,105,109,105,116]⟩:ByteArray).toList)))))
theorem zaK2 (a0:ByteArray):PFn C 166 [.str a0] (.bool (zF7 a0)):=by
 generalize h:zF7 a0=r
 refine za7 ck_d rfl fun E hG hN hK=>?_
 unfold pc_d
 unfold zF7 at h
 refine za0 (za1 hG ?_)
 refine za0 (za0 (za1 hG ?_))
 refine zb3 (za0 (za0 (za1 hG ?_)))
 refine zaQ7 (zfs4) (fun v=>zp5 v=r) rfl hG h ?_ (fun _ h=>?_) (fun _ h=>?_)
 · intro j1 h
   unfold zp5 at h
   refine g_st ?_
   refine za3 rfl hG h (fun _ h=>?_) (fun _ h=>?_)
   · refine za0 (za1 hG ?_)
     refine za6 ?_
     exact zm0 h
   refine za4 ?_
   refine za0 (za1 hG ?_)
   refine za6 ?_
   exact zm0 h
 · refine za4 ?_
   exact zb8 hK [] (a0.toList == (⟨#[97,108,108]⟩:ByteArray).toList) (by exact h)
 refine za0 (za1 hG ?_)
 refine za3 rfl hG h (fun _ h=>?_) (fun _ h=>?_)
 · refine za4 ?_
   exact zb8 hK [] (a0.toList == (⟨#[97,110,121]⟩:ByteArray).toList) (by exact h)
 refine za0 (za1 hG ?_)
 refine za3 rfl hG h (fun _ h=>?_) (fun _ h=>?_)
 · refine za4 ?_
   exact zb8 hK [] (a0.toList == (⟨#[111,102]⟩:ByteArray).toList) (by exact h)
 refine za0 (za1 hG ?_)
 refine za3 rfl hG h (fun _ h=>?_) (fun _ h=>?_)
 · refine za4 ?_
   exact zb8 hK [] (a0.toList == (⟨#[112,114,105,111]⟩:ByteArray).toList) (by exact h)
 refine za1 hG ?_
 exact zb8 hK [] (a0.toList == (⟨#[108,105,109,105,116]⟩:ByteArray).toList) (by exact h)
def zS6  (j1:Unit):Option (Bool) :=
 some true
@[go_sem] def zfs5  (j1:Unit):St:=⟨[],[],0⟩
def zv8 (a0:ByteArray) (g1:Int):Option ((Int)⊕((Unit)⊕(Bool))) :=
 (if (decide (g1 < (a0.size:Int)))=true then
  gd (0≤g1∧g1 < (a0.size:Int)) <|
  (if ((!((decide (97≤((a0.toList.getD g1.toNat 0).toNat:Int)))&&(decide (((a0.toList.getD g1.toNat 0).toNat:Int)≤122))))&&((decide (g1=0))||(!((((decide (48≤((a0.toList.getD g1.toNat 0).toNat:Int)))&&(decide (((a0.toList.getD g1.toNat 0).toNat:Int)≤57)))||(decide (((a0.toList.getD g1.toNat 0).toNat:Int)=95)))||(decide (((a0.toList.getD g1.toNat 0).toNat:Int)=45))))))=true then
   some (.inr (.inr false))
  else
   some (.inl (IntKind.i64.wrap (g1+1))))
 else
  some (.inr (.inl ())))
@[go_sem] def zfs6 (a0:ByteArray) (g1:Int):St:=⟨[(0,.str a0),(20,.int .i64 (a0.size:Int)),(21,.int .i64 g1)],[],0⟩
def zh9 (a0:ByteArray):Option (Bool) :=
 (if (((decide ((a0.size:Int) < 1))||(decide (12 < (a0.size:Int))))||(zF7 a0))=true then
  some false
 else
  (zb4 (zv8 a0) 0).bind (fun|.inl z=>zS6 z|.inr z=>some z))
theorem zal2 (a0:ByteArray) (r:Bool) (h:zh9 a0=some r):PFn C 130 [.str a0] (.bool r):=by
 refine za7 ck_e rfl fun E hG hN hK=>?_
 unfold pc_e
 unfold zh9 at h
 refine za0 (za1 hG ?_)
 refine za0 (za0 (za1 hG ?_))
 refine za8 (fun hg=>zaK2 a0) ?_
 refine za3 rfl hG h (fun _ h=>?_) (fun _ h=>?_)
 · refine za0 (za1 hG ?_)
   refine za6 ?_
   exact zb0 h
 refine za4 ?_
 refine za0 (za0 (za1 hG ?_))
 refine zb2 (zfs5) (fun v=>zS6 v=some r) ?_ ?_
 · intro j1 h
   unfold zS6 at h
   refine g_st ?_
   refine za0 (za1 hG ?_)
   refine za6 ?_
   exact zb0 h
 refine zc8 (zfs6 a0) hK [] h (fun x_l1 h g1 y_l1 h_l1 hx_l1=>?_)
 unfold zv8 at h_l1
 refine g_st ?_
 refine za0 (za1 hG ?_)
 refine za0 ?_
 refine za3 rfl hG h_l1 (fun _ h_l1=>?_) (fun _ h_l1=>?_)
 · refine za4 ?_
   refine za0 (zb3 (za0 (za1 hG ?_)))
   refine za0 ?_
   obtain ⟨hb1,h_l1⟩:=za5 h_l1
   refine za1 hG ?_
   refine za0 (za1 hG ?_)
   refine za0 (za1 hG ?_)
   refine za0 (za1 hG ?_)
   refine za3 rfl hG h_l1 (fun _ h_l1=>?_) (fun _ h_l1=>?_)
   · refine za0 (za1 hG ?_)
     refine za6 ?_
     cases h_l1
     cases hx_l1 _ rfl
     exact zb0 h
   refine za4 ?_
   refine za1 hG ?_
   exact zc2 hK [] h_l1
 refine zb5 ?_
 cases h_l1
 cases hx_l1 _ rfl
 exact zb8 hK [] () (by exact h)
attribute [local irreducible] zh9
def ze4 (a0:Resource):Bool :=
 (if (decide (a0.kind=1))=true then
  (decide (a0.units=1))
 else
  (if (decide (a0.kind=2))=true then
   ((decide (1≤a0.units))&&(decide (a0.units≤8)))
  else
   false))
theorem zR3 (a0:Resource):PFn C 159 [.agg (Resource.enc a0)] (.bool (ze4 a0)):=by
 generalize h:ze4 a0=r
 refine za7 ck_f rfl fun E hG hN hK=>?_
 unfold pc_f
 unfold ze4 at h
 refine za0 (za1 hG ?_)
 refine za0 (za0 (za1 hG ?_))
 refine zb3 (za0 (za1 hG ?_))
 refine za3 rfl hG h (fun _ h=>?_) (fun _ h=>?_)
 · refine za0 (za1 hG ?_)
   refine za6 ?_
   exact zm0 h
 refine za0 (za1 hG ?_)
 refine za3 rfl hG h (fun _ h=>?_) (fun _ h=>?_)
 · refine za0 (za1 hG ?_)
   refine za6 ?_
   exact zm0 h
 refine za4 ?_
 refine za0 (za1 hG ?_)
 refine za6 ?_
 exact zm0 h
def zg1 (a0:Resource):Option (Bool) :=
 (zh9 a0.name).bind fun v1 =>
 some (((v1&&(ze4 a0))&&(decide (0≤a0.home)))&&(decide (a0.home < 4)))
theorem zau9 (a0:Resource) (r:Bool) (h:zg1 a0=some r):PFn C 124 [.agg (Resource.enc a0)] (.bool r):=by
 refine za7 ck_g rfl fun E hG hN hK=>?_
 unfold pc_g
 unfold zg1 at h
 refine za0 (za1 hG ?_)
 refine za0 (za1 hG ?_)
 obtain ⟨v1,hv1,h⟩:=za2 h
 refine za8 (fun hg=>zal2 _ _ hv1) ?_
 refine za8 (fun hg=>zR3 a0) ?_
 refine za6 ?_
 exact zb0 h
attribute [local irreducible] zg1
def zm2 (a0:Int):Bool :=
 ((decide (1≤a0))&&(decide (a0≤5)))
theorem zac2 (a0:Int):PFn C 167 [.int .i64 a0] (.bool (zm2 a0)):=by
 generalize h:zm2 a0=r
 refine za7 ck_h rfl fun E hG hN hK=>?_
 unfold pc_h
 unfold zm2 at h
 refine za0 (za1 hG ?_)
 refine za0 (za1 hG ?_)
 refine za6 ?_
 exact zm0 h
def zb7 (a0:Resource) (a1:Amount):Bool :=
 (if (!(ze4 a0))=true then
  false
 else
  (if (decide (a0.kind=1))=true then
   ((zm2 a1.mode)&&(decide (a1.units=0)))
  else
   (((decide (a1.mode=0))&&(decide (1≤a1.units)))&&(decide (a1.units≤a0.units)))))
theorem zC1 (a0:Resource) (a1:Amount):PFn C 131 [.agg (Resource.enc a0),.agg (Amount.enc a1)] (.bool (zb7 a0 a1)):=by
 generalize h:zb7 a0 a1=r
 refine za7 ck_i rfl fun E hG hN hK=>?_
 unfold pc_i
 unfold zb7 at h
 refine za0 (za1 hG ?_)
 refine za0 (za0 (za1 hG ?_))
 refine za8 (fun hg=>zR3 a0) ?_
 refine za3 rfl hG h (fun _ h=>?_) (fun _ h=>?_)
 · refine za0 (za1 hG ?_)
   refine za6 ?_
   exact zm0 h
 refine za4 ?_
 refine za0 (za0 (za1 hG ?_))
 refine za3 rfl hG h (fun _ h=>?_) (fun _ h=>?_)
 · refine za0 (za1 hG ?_)
   refine za8 (fun hg=>zac2 a1.mode) ?_
   refine za6 ?_
   exact zm0 h
 refine za4 ?_
 refine za0 (za1 hG ?_)
 refine za6 ?_
 exact zm0 h
def zM2  (j1:Unit):Option (Int) :=
 some 0
@[go_sem] def zfs7  (j1:Unit):St:=⟨[],[],0⟩
def zf8 (a0:Arr Int 3) (a1:Arr Int 3) (g1:Int):Option ((Int)⊕((Unit)⊕(Int))) :=
 (if (decide (g1 < 3))=true then
  gd (0≤g1∧g1 < 3) <|
  gd (0≤g1∧g1 < 3) <|
  (if (decide ((Arr.get a0 g1.toNat 0) < (Arr.get a1 g1.toNat 0)))=true then
   some (.inr (.inr (-1)))
  else
   gd (0≤g1∧g1 < 3) <|
   (if (decide ((Arr.get a1 g1.toNat 0) < (Arr.get a0 g1.toNat 0)))=true then
    some (.inr (.inr 1))
   else
    some (.inl (IntKind.i64.wrap (g1+1)))))
 else
  some (.inr (.inl ())))
@[go_sem] def zfs8 (a0:Arr Int 3) (a1:Arr Int 3) (g1:Int):St:=⟨[(3,.ptr 0 0 0),(7,.agg (Arr.enc (eI .i64) a0)),(8,.int .i64 g1)],[(0,⟨false,3,(Arr.enc (eI .i64) (Arr.rep 3 0)),[Arr.enc (eI .i64) a1]⟩)],1⟩
def zn9 (a0:Arr Int 3) (a1:Arr Int 3):Option (Int) :=
 (zb4 (zf8 a0 a1) 0).bind (fun|.inl z=>zM2 z|.inr z=>some z)
theorem zaV5 (a0:Arr Int 3) (a1:Arr Int 3) (r:Int) (h:zn9 a0 a1=some r):PFn C 81 [.agg (Arr.enc (eI .i64) a0),.agg (Arr.enc (eI .i64) a1)] (.int .i64 r):=by
 refine za7 ck_j rfl fun E hG hN hK=>?_
 unfold pc_j
 unfold zn9 at h
 refine za0 (za1 hG ?_)
 refine za0 (za0 (za1 hG ?_))
 refine zb2 (zfs7) (fun v=>zM2 v=some r) ?_ ?_
 · intro j1 h
   unfold zM2 at h
   refine g_st ?_
   refine za0 (za1 hG ?_)
   refine za6 ?_
   exact zb0 h
 refine zc8 (zfs8 a0 a1) hK [(0,1)] h (fun x_l1 h g1 y_l1 h_l1 hx_l1=>?_)
 unfold zf8 at h_l1
 refine g_st ?_
 refine za0 (za1 hG ?_)
 refine za0 ?_
 refine za3 rfl hG h_l1 (fun _ h_l1=>?_) (fun _ h_l1=>?_)
 · refine za4 ?_
   refine za0 (zb3 (za0 ?_))
   obtain ⟨hb3,h_l1⟩:=za5 h_l1
   refine za1 hG ?_
   refine za0 (za0 ?_)
   obtain ⟨hb2,h_l1⟩:=za5 h_l1
   refine za1 hG ?_
   refine za3 rfl hG h_l1 (fun _ h_l1=>?_) (fun _ h_l1=>?_)
   · refine za0 (za1 hG ?_)
     refine za6 ?_
     cases h_l1
     cases hx_l1 _ rfl
     exact zb0 h
   refine za4 ?_
   refine za0 ?_
   obtain ⟨hb1,h_l1⟩:=za5 h_l1
   refine za1 hG ?_
   refine za3 rfl hG h_l1 (fun _ h_l1=>?_) (fun _ h_l1=>?_)
   · refine za0 (za1 hG ?_)
     refine za6 ?_
     cases h_l1
     cases hx_l1 _ rfl
     exact zb0 h
   refine za4 ?_
   refine za1 hG ?_
   exact zc2 hK [(0,0)] h_l1
 refine zb5 ?_
 cases h_l1
 cases hx_l1 _ rfl
 exact zb8 hK [] () (by exact h)
attribute [local irreducible] zn9
def zf0 (a0:Proc) (a1:Proc):Option (Int) :=
 (zn9 (⟨[a0.site,a0.inc,a0.num],rfl⟩:Arr Int 3) (⟨[a1.site,a1.inc,a1.num],rfl⟩:Arr Int 3)).bind fun v1 =>
 some v1
theorem zH5 (a0:Proc) (a1:Proc) (r:Int) (h:zf0 a0 a1=some r):PFn C 48 [.agg (Proc.enc a0),.agg (Proc.enc a1)] (.int .i64 r):=by
 refine za7 ck_k rfl fun E hG hN hK=>?_
 unfold pc_k
 unfold zf0 at h
 refine za0 (za1 hG ?_)
 refine za0 (za1 hG ?_)
 obtain ⟨v1,hv1,h⟩:=za2 h
 refine za8 (fun hg=>zaV5 _ _ _ hv1) ?_
 refine za6 ?_
 exact zb0 h
attribute [local irreducible] zf0
def zg8 (a0:Amount):Bool :=
 (decide (a0={ Amount.zero with  }))
theorem zM3 (a0:Amount):PFn C 163 [.agg (Amount.enc a0)] (.bool (zg8 a0)):=by
 generalize h:zg8 a0=r
 refine za7 ck_l rfl fun E hG hN hK=>?_
 unfold pc_l
 unfold zg8 at h
 refine za0 (za1 hG ?_)
 refine za0 (za1 hG ?_)
 refine za6 ?_
 exact zm0 h
def zc0 (a0:Resource) (a1:Amount):Bool :=
 ((ze4 a0)&&((zg8 a1)||(zb7 a0 a1)))
theorem zab6 (a0:Resource) (a1:Amount):PFn C 184 [.agg (Resource.enc a0),.agg (Amount.enc a1)] (.bool (zc0 a0 a1)):=by
 generalize h:zc0 a0 a1=r
 refine za7 ck_m rfl fun E hG hN hK=>?_
 unfold pc_m
 unfold zc0 at h
 refine za0 (za1 hG ?_)
 refine za0 (za1 hG ?_)
 refine za8 (fun hg=>zR3 a0) ?_
 refine za8 (fun hg=>zM3 a1) ?_
 refine za8 (fun hg=>zC1 a0 a1) ?_
 refine za6 ?_
 exact zm0 h
def zk6 (a0:Int) (a1:Int):Option (Bool) :=
 gd (((zm2 a0)&&(zm2 a1))=true→0≤(IntKind.i64.wrap (a0 - 1))∧(IntKind.i64.wrap (a0 - 1)) < 5) <|
 gd (((zm2 a0)&&(zm2 a1))=true→0≤(IntKind.i64.wrap (a1 - 1))∧(IntKind.i64.wrap (a1 - 1)) < 5) <|
 some (((zm2 a0)&&(zm2 a1))&&(Arr.get (Arr.get zbh9 ((IntKind.i64.wrap (a0 - 1)).toNat) (Arr.rep 5 false)) ((IntKind.i64.wrap (a1 - 1)).toNat) false))
theorem zaN1 (a0:Int) (a1:Int) (r:Bool) (h:zk6 a0 a1=some r):PFn C 185 [.int .i64 a0,.int .i64 a1] (.bool r):=by
 refine za7 ck_n rfl fun E hG hN hK=>?_
 unfold pc_n
 unfold zk6 at h
 refine za0 (za1 hG ?_)
 refine za0 (za1 hG ?_)
 refine za8 (fun hg=>zac2 a0) ?_
 obtain ⟨hb1,h⟩:=za5 h
 obtain ⟨hb2,h⟩:=za5 h
 refine za8 (fun hg=>zac2 a1) ?_
 refine za6 ?_
 exact zb0 h
attribute [local irreducible] zk6
def zS7  (j1:Bool):Option (Bool) :=
 some j1
@[go_sem] def zfs9  (j1:Bool):St:=⟨[(5,.bool j1)],[],0⟩
def zK4 (a1:List Amount) (g1:Int×Int×(Arr Bool 6)) (j2:Unit):Option ((Int×Int×(Arr Bool 6))⊕((Bool))) :=
 gd (0≤(a1.getD g1.2.1.toNat Amount.zero).mode∧(a1.getD g1.2.1.toNat Amount.zero).mode < 6) <|
 some (.inl ((IntKind.i64.wrap (g1.1+(a1.getD g1.2.1.toNat Amount.zero).units)),(IntKind.i64.wrap (g1.2.1+1)),(Arr.put g1.2.2 (((a1.getD g1.2.1.toNat Amount.zero).mode).toNat) true)))
@[go_sem] def zft0 (a0:Resource) (a1:List Amount) (g1:Int×Int×(Arr Bool 6)) (j2:Unit):St:=⟨[(2,.ptr 0 0 0),(5,.bool true),(6,.ptr 1 0 0),(7,.int .i64 (IntKind.i64.wrap (g1.1+(a1.getD g1.2.1.toNat Amount.zero).units))),(9,.ptr 2 0 0),(15,.sl (a1.map Amount.enc)),(16,.int .i64 (a1.length:Int)),(17,.int .i64 g1.2.1)],[(0,⟨false,4,(Resource.enc Resource.zero),[Resource.enc a0]⟩),(1,⟨false,6,(Arr.enc eB (Arr.rep 6 false)),[Arr.enc eB g1.2.2]⟩),(2,⟨false,2,(Amount.enc Amount.zero),[Amount.enc (a1.getD g1.2.1.toNat Amount.zero)]⟩)],3⟩
def zv9 (a1:List Amount) (g1:Int×Int×(Arr Bool 6)) (g2:Int):Option ((Int)⊕((Unit)⊕(Bool))) :=
 (if (decide (g2 < 6))=true then
  gd (0≤g2∧g2 < 6) <|
  ((if (Arr.get g1.2.2 g2.toNat false)=true then zk6 g2 ((a1.getD g1.2.1.toNat Amount.zero).mode) else some (false))).bind fun v1 =>
  (if ((Arr.get g1.2.2 g2.toNat false)&&(!v1))=true then
   some (.inr (.inr false))
  else
   some (.inl (IntKind.i64.wrap (g2+1))))
 else
  some (.inr (.inl ())))
@[go_sem] def zft1 (a0:Resource) (a1:List Amount) (g1:Int×Int×(Arr Bool 6)) (g2:Int):St:=⟨[(2,.ptr 0 0 0),(5,.bool true),(6,.ptr 1 0 0),(7,.int .i64 (IntKind.i64.wrap (g1.1+(a1.getD g1.2.1.toNat Amount.zero).units))),(9,.ptr 2 0 0),(15,.sl (a1.map Amount.enc)),(16,.int .i64 (a1.length:Int)),(17,.int .i64 g1.2.1),(41,.agg (Arr.enc eB g1.2.2)),(42,.int .i64 g2)],[(0,⟨false,4,(Resource.enc Resource.zero),[Resource.enc a0]⟩),(1,⟨false,6,(Arr.enc eB (Arr.rep 6 false)),[Arr.enc eB g1.2.2]⟩),(2,⟨false,2,(Amount.enc Amount.zero),[Amount.enc (a1.getD g1.2.1.toNat Amount.zero)]⟩)],3⟩
def zC2 (a0:Resource) (a1:List Amount) (g1:Int×Int×(Arr Bool 6)):Option ((Int×Int×(Arr Bool 6))⊕((Bool))) :=
 (if (decide (g1.2.1 < (a1.length:Int)))=true then
  gd (0≤g1.2.1∧g1.2.1 < (a1.length:Int)) <|
  (if ((!(zc0 a0 (a1.getD g1.2.1.toNat Amount.zero)))||(decide (a0.units < (IntKind.i64.wrap (g1.1+(a1.getD g1.2.1.toNat Amount.zero).units)))))=true then
   some (.inr false)
  else
   (if (decide ((a1.getD g1.2.1.toNat Amount.zero).mode=0))=true then
    some (.inl ((IntKind.i64.wrap (g1.1+(a1.getD g1.2.1.toNat Amount.zero).units)),(IntKind.i64.wrap (g1.2.1+1)),g1.2.2))
   else
    (zb4 (zv9 a1 g1) 0).bind (fun|.inl z=>zK4 a1 g1 z|.inr z=>some (.inr z))))
 else
  some (.inr true))
@[go_sem] def zft2 (a0:Resource) (a1:List Amount) (g1:Int×Int×(Arr Bool 6)):St:=⟨[(2,.ptr 0 0 0),(5,.bool true),(6,.ptr 1 0 0),(7,.int .i64 g1.1),(15,.sl (a1.map Amount.enc)),(16,.int .i64 (a1.length:Int)),(17,.int .i64 g1.2.1)],[(0,⟨false,4,(Resource.enc Resource.zero),[Resource.enc a0]⟩),(1,⟨false,6,(Arr.enc eB (Arr.rep 6 false)),[Arr.enc eB g1.2.2]⟩)],2⟩
def zj1 (a0:Resource) (a1:List Amount):Option (Bool) :=
 (if (!(ze4 a0))=true then
  some false
 else
  (zb4 (zC2 a0 a1) (0,0,(Arr.rep 6 false))).bind (fun z=>zS7 z))
theorem zaF6 (a0:Resource) (a1:List Amount) (r:Bool) (h:zj1 a0 a1=some r):PFn C 160 [.agg (Resource.enc a0),.sl (a1.map Amount.enc)] (.bool r):=by
 refine za7 ck_o rfl fun E hG hN hK=>?_
 unfold pc_o
 unfold zj1 at h
 refine za0 (za1 hG ?_)
 refine zbV2 ?_
 refine za0 (za0 (za1 hG ?_))
 refine za8 (fun hg=>zR3 a0) ?_
 refine za3 rfl hG h (fun _ h=>?_) (fun _ h=>?_)
 · refine za0 (za1 hG ?_)
   refine za6 ?_
   exact zb0 h
 refine za4 ?_
 refine za0 (za1 hG ?_)
 refine za0 (za1 hG ?_)
 refine za0 (za1 hG ?_)
 refine za0 ?_
 refine zcz9 ?_
 refine za0 (za0 (za1 hG ?_))
 refine zb2 (zfs9) (fun v=>zS7 v=some r) ?_ ?_
 · intro j1 h
   unfold zS7 at h
   refine g_st ?_
   refine za0 (za1 hG ?_)
   refine za6 ?_
   exact zb0 h
 refine zc8 (zft2 a0 a1) hK [(0,0),(1,1)] h (fun x_l1 h g1 y_l1 h_l1 hx_l1=>?_)
 unfold zC2 at h_l1
 refine g_st ?_
 refine za0 (za1 hG ?_)
 refine za0 ?_
 refine za3 rfl hG h_l1 (fun _ h_l1=>?_) (fun _ h_l1=>?_)
 · refine za4 ?_
   refine za0 (zb3 (za0 ?_))
   obtain ⟨hb3,h_l1⟩:=za5 h_l1
   refine za1 hG ?_
   refine za0 (za0 (za1 hG ?_))
   refine za8 (fun hg=>zab6 a0 (a1.getD g1.2.1.toNat Amount.zero)) ?_
   refine za3 rfl hG h_l1 (fun _ h_l1=>?_) (fun _ h_l1=>?_)
   · refine za0 (za1 hG ?_)
     refine zb5 ?_
     cases h_l1
     cases hx_l1 _ rfl
     exact zb8 hK [] false (by exact h)
   refine za4 ?_
   refine za0 (za1 hG ?_)
   refine za0 (za0 (za1 hG ?_))
   refine za3 rfl hG h_l1 (fun _ h_l1=>?_) (fun _ h_l1=>?_)
   · refine zb5 ?_
     refine za1 hG ?_
     exact zc2 hK [(0,0),(1,1)] h_l1
   refine za4 ?_
   refine za0 (za0 (za1 hG ?_))
   refine zb2 (zft0 a0 a1 g1) (fun v=>zK4 a1 g1 v=some y_l1) ?_ ?_
   · intro j2 h_l1
     unfold zK4 at h_l1
     refine g_st ?_
     obtain ⟨hb1,h_l1⟩:=za5 h_l1
     refine za1 hG ?_
     refine za1 hG ?_
     exact zc2 hK [(0,0),(1,1)] h_l1
   refine zc8 (zft1 a0 a1 g1) hK [(0,0),(1,1),(2,2)] h_l1 (fun x_l2 h_l1 g2 y_l2 h_l2 hx_l2=>?_)
   unfold zv9 at h_l2
   refine g_st ?_
   refine za0 (za1 hG ?_)
   refine za0 ?_
   refine za3 rfl hG h_l2 (fun _ h_l2=>?_) (fun _ h_l2=>?_)
   · refine za4 ?_
     refine za0 (zb3 (za0 ?_))
     obtain ⟨hb2,h_l2⟩:=za5 h_l2
     refine za1 hG ?_
     refine za0 (za1 hG ?_)
     obtain ⟨v1,hv1,h_l2⟩:=za2 h_l2
     refine za8 (fun hg=>zaN1 g2 ((a1.getD g1.2.1.toNat Amount.zero).mode) _ (zv4 hg hv1)) ?_
     refine za3 rfl hG h_l2 (fun _ h_l2=>?_) (fun _ h_l2=>?_)
     · refine za0 (za1 hG ?_)
       refine zb5 ?_
       obtain rfl:=Option.some.inj h_l2
       have hx:=hx_l2 _ rfl
       subst hx
       try dsimp only at h_l1
       cases h_l1
       cases hx_l1 _ rfl
       exact zb8 hK [] false (by exact h)
     refine za4 ?_
     refine za1 hG ?_
     exact zc2 hK [(0,0),(1,1),(2,2)] h_l2
   refine zb5 ?_
   obtain rfl:=Option.some.inj h_l2
   have hx:=hx_l2 _ rfl
   subst hx
   try dsimp only at h_l1
   exact zb8 hK [(0,0),(1,1),(2,2)] () (by exact h_l1)
 refine zb5 ?_
 cases h_l1
 cases hx_l1 _ rfl
 exact zb8 hK [] true (by exact h)
attribute [local irreducible] zj1
def zS8 (a0:Resource) (j1:(List Amount)):Option (Bool) :=
 (zj1 a0 j1).bind fun v1 =>
 some v1
@[go_sem] def zft3 (a0:Resource) (j1:(List Amount)):St:=⟨[(2,.ptr 0 0 0),(5,.own 1 0 j1.length)],[(0,⟨false,4,(Resource.enc Resource.zero),[Resource.enc a0]⟩),(1,⟨false,2,(Amount.enc Amount.zero),j1.map Amount.enc⟩)],2⟩
def zM4 (a0:Resource) (a1:List Hold) (g1:Int×(List Amount)):Option ((Int×(List Amount))⊕(((List Amount))⊕(Bool))) :=
 (if (decide (g1.1 < (a1.length:Int)))=true then
  gd (0≤g1.1∧g1.1 < (a1.length:Int)) <|
  (if ((!(za9 ((a1.getD g1.1.toNat Hold.zero).proc)))||(!(zb7 a0 ((a1.getD g1.1.toNat Hold.zero).amount))))=true then
   some (.inr (.inr false))
  else
   gd ((decide (0 < g1.1))=true→0≤(IntKind.i64.wrap (g1.1 - 1))∧(IntKind.i64.wrap (g1.1 - 1)) < (a1.length:Int)) <|
   ((if (decide (0 < g1.1))=true then zf0 ((a1.getD ((IntKind.i64.wrap (g1.1 - 1)).toNat) Hold.zero).proc) ((a1.getD g1.1.toNat Hold.zero).proc) else some (0))).bind fun v2 =>
   (if ((decide (0 < g1.1))&&(decide (0≤v2)))=true then
    some (.inr (.inr false))
   else
    gd (g1.2.length+1≤4294967296) <|
    some (.inl ((IntKind.i64.wrap (g1.1+1)),(g1.2++[(a1.getD g1.1.toNat Hold.zero).amount])))))
 else
  some (.inr (.inl g1.2)))
@[go_sem] def zft4 (a0:Resource) (a1:List Hold) (g1:Int×(List Amount)):St:=⟨[(1,.sl (a1.map Hold.enc)),(2,.ptr 0 0 0),(5,.own 1 0 g1.2.length),(16,.sl (a1.map Hold.enc)),(17,.int .i64 (a1.length:Int)),(18,.int .i64 g1.1)],[(0,⟨false,4,(Resource.enc Resource.zero),[Resource.enc a0]⟩),(1,⟨false,2,(Amount.enc Amount.zero),g1.2.map Amount.enc⟩)],2⟩
def zl6 (a0:Resource) (a1:List Hold):Option (Bool) :=
 (if ((!(ze4 a0))||(decide (8 < (a1.length:Int))))=true then
  some false
 else
  (zb4 (zM4 a0 a1) (0,[])).bind (fun|.inl z=>zS8 a0 z|.inr z=>some z))
theorem zai7 (a0:Resource) (a1:List Hold) (r:Bool) (h:zl6 a0 a1=some r):PFn C 125 [.agg (Resource.enc a0),.sl (a1.map Hold.enc)] (.bool r):=by
 refine za7 ck_p rfl fun E hG hN hK=>?_
 unfold pc_p
 unfold zl6 at h
 refine za0 (za1 hG ?_)
 refine za0 (za0 (za1 hG ?_))
 refine za8 (fun hg=>zR3 a0) ?_
 refine za3 rfl hG h (fun _ h=>?_) (fun _ h=>?_)
 · refine za0 (za1 hG ?_)
   refine za6 ?_
   exact zb0 h
 refine za4 ?_
 refine za0 (za1 hG ?_)
 refine za0 (za0 (za1 hG ?_))
 refine zb2 (zft3 a0) (fun v=>zS8 a0 v=some r) ?_ ?_
 · intro j1 h
   unfold zS8 at h
   refine g_st ?_
   refine za0 (za1 hG ?_)
   obtain ⟨v1,hv1,h⟩:=za2 h
   refine za8 (fun hg=>zaF6 _ _ _ hv1) ?_
   refine za6 ?_
   exact zb0 h
 refine zc8 (zft4 a0 a1) hK [(0,0),(1,1)] h (fun x_l1 h g1 y_l1 h_l1 hx_l1=>?_)
 unfold zM4 at h_l1
 refine g_st ?_
 refine za0 (za1 hG ?_)
 refine za0 ?_
 refine za3 rfl hG h_l1 (fun _ h_l1=>?_) (fun _ h_l1=>?_)
 · refine za4 ?_
   refine za0 (zb3 (za0 ?_))
   obtain ⟨hb3,h_l1⟩:=za5 h_l1
   refine za1 hG ?_
   refine za0 (za0 (za1 hG ?_))
   refine za8 (fun hg=>zF6 ((a1.getD g1.1.toNat Hold.zero).proc)) ?_
   refine za8 (fun hg=>zC1 a0 ((a1.getD g1.1.toNat Hold.zero).amount)) ?_
   refine za3 rfl hG h_l1 (fun _ h_l1=>?_) (fun _ h_l1=>?_)
   · refine za0 (za1 hG ?_)
     refine za6 ?_
     cases h_l1
     cases hx_l1 _ rfl
     exact zb0 h
   refine za4 ?_
   refine za0 (za0 ?_)
   obtain ⟨hb2,h_l1⟩:=za5 h_l1
   refine zl3 ze5 hG ?_
   obtain ⟨v2,hv2,h_l1⟩:=za2 h_l1
   refine zd9 (fun hg=>zH5 ((a1.getD ((IntKind.i64.wrap (g1.1 - 1)).toNat) Hold.zero).proc) ((a1.getD g1.1.toNat Hold.zero).proc) _ (zv4 hg hv2)) ?_
   refine za3 rfl hG h_l1 (fun _ h_l1=>?_) (fun _ h_l1=>?_)
   · refine za0 (za1 hG ?_)
     refine za6 ?_
     cases h_l1
     cases hx_l1 _ rfl
     exact zb0 h
   refine za4 ?_
   obtain ⟨hb1,h_l1⟩:=za5 h_l1
   refine za1 hG ?_
   refine za1 hG ?_
   exact zc2 hK [(0,0),(1,3)] h_l1
 refine zb5 ?_
 cases h_l1
 cases hx_l1 _ rfl
 exact zb8 hK [(0,0),(1,1)] g1.2 (by exact h)
attribute [local irreducible] zl6
def zai8  (j1:Unit):Option (Amount) :=
 some ({ Amount.zero with  })
@[go_sem] def zft5  (j1:Unit):St:=⟨[(4,.ptr 0 0 0)],[(0,⟨false,2,(Amount.enc Amount.zero),[Amount.enc Amount.zero]⟩)],1⟩
def zF8 (a0:List Hold) (a1:Proc) (g1:Int):Option ((Int)⊕((Unit)⊕(Amount))) :=
 (if (decide (g1 < (a0.length:Int)))=true then
  gd (0≤g1∧g1 < (a0.length:Int)) <|
  (if (decide ((a0.getD g1.toNat Hold.zero).proc=a1))=true then
   some (.inr (.inr ((a0.getD g1.toNat Hold.zero).amount)))
  else
   some (.inl (IntKind.i64.wrap (g1+1))))
 else
  some (.inr (.inl ())))
@[go_sem] def zft6 (a0:List Hold) (a1:Proc) (g1:Int):St:=⟨[(3,.ptr 0 0 0),(4,.ptr 1 0 0),(7,.sl (a0.map Hold.enc)),(8,.int .i64 (a0.length:Int)),(9,.int .i64 g1)],[(0,⟨false,3,(Proc.enc Proc.zero),[Proc.enc a1]⟩),(1,⟨false,2,(Amount.enc Amount.zero),[Amount.enc Amount.zero]⟩)],2⟩
def zq7 (a0:List Hold) (a1:Proc):Option (Amount) :=
 (zb4 (zF8 a0 a1) 0).bind (fun|.inl z=>zai8 z|.inr z=>some z)
theorem zbi1 (a0:List Hold) (a1:Proc) (r:Amount) (h:zq7 a0 a1=some r):PFn C 186 [.sl (a0.map Hold.enc),.agg (Proc.enc a1)] (.agg (Amount.enc r)):=by
 refine za7 ck_q rfl fun E hG hN hK=>?_
 unfold pc_q
 unfold zq7 at h
 refine za0 (za1 hG ?_)
 refine za0 (za0 (za1 hG ?_))
 refine zb2 (zft5) (fun v=>zai8 v=some r) ?_ ?_
 · intro j1 h
   unfold zai8 at h
   refine g_st ?_
   refine za0 (za1 hG ?_)
   refine za6 ?_
   exact zb0 h
 refine zc8 (zft6 a0 a1) hK [(0,0),(1,1)] h (fun x_l1 h g1 y_l1 h_l1 hx_l1=>?_)
 unfold zF8 at h_l1
 refine g_st ?_
 refine za0 (za1 hG ?_)
 refine za0 ?_
 refine za3 rfl hG h_l1 (fun _ h_l1=>?_) (fun _ h_l1=>?_)
 · refine za4 ?_
   refine za0 (zb3 (za0 ?_))
   obtain ⟨hb1,h_l1⟩:=za5 h_l1
   refine za1 hG ?_
   refine za0 (za1 hG ?_)
   refine za3 rfl hG h_l1 (fun _ h_l1=>?_) (fun _ h_l1=>?_)
   · refine za0 (za1 hG ?_)
     refine za6 ?_
     cases h_l1
     cases hx_l1 _ rfl
     exact zb0 h
   refine za4 ?_
   refine za1 hG ?_
   exact zc2 hK [(0,0),(1,1)] h_l1
 refine zb5 ?_
 cases h_l1
 cases hx_l1 _ rfl
 exact zb8 hK [(0,1)] () (by exact h)
attribute [local irreducible] zq7
def zt4 (a0:Queue) (a1:Proc):Option (Amount) :=
 (zq7 a0.holds a1).bind fun v1 =>
 some v1
theorem zaL5 (a0:Queue) (a1:Proc) (r:Amount) (h:zt4 a0 a1=some r):PFn C 161 [.agg (Queue.enc a0),.agg (Proc.enc a1)] (.agg (Amount.enc r)):=by
 refine za7 ck_r rfl fun E hG hN hK=>?_
 unfold pc_r
 unfold zt4 at h
 refine za0 (za1 hG ?_)
 refine za0 (za1 hG ?_)
 obtain ⟨v1,hv1,h⟩:=za2 h
 refine za8 (fun hg=>zbi1 _ _ _ hv1) ?_
 refine za6 ?_
 exact zb0 h
attribute [local irreducible] zt4
def zap6  (j1:Unit):Option (Int) :=
 some (-1)
@[go_sem] def zft7  (j1:Unit):St:=⟨[],[],0⟩
def zX3 (a0:List Wait) (a1:Proc) (g1:Int):Option ((Int)⊕((Unit)⊕(Int))) :=
 (if (decide (g1 < (a0.length:Int)))=true then
  gd (0≤g1∧g1 < (a0.length:Int)) <|
  (if (decide ((a0.getD g1.toNat Wait.zero).proc=a1))=true then
   some (.inr (.inr g1))
  else
   some (.inl (IntKind.i64.wrap (g1+1))))
 else
  some (.inr (.inl ())))
@[go_sem] def zft8 (a0:List Wait) (a1:Proc) (g1:Int):St:=⟨[(3,.ptr 0 0 0),(7,.sl (a0.map Wait.enc)),(8,.int .i64 (a0.length:Int)),(9,.int .i64 g1)],[(0,⟨false,3,(Proc.enc Proc.zero),[Proc.enc a1]⟩)],1⟩
def zt9 (a0:List Wait) (a1:Proc):Option (Int) :=
 (zb4 (zX3 a0 a1) 0).bind (fun|.inl z=>zap6 z|.inr z=>some z)
theorem zaR0 (a0:List Wait) (a1:Proc) (r:Int) (h:zt9 a0 a1=some r):PFn C 162 [.sl (a0.map Wait.enc),.agg (Proc.enc a1)] (.int .i64 r):=by
 refine za7 ck_s rfl fun E hG hN hK=>?_
 unfold pc_s
 unfold zt9 at h
 refine za0 (za1 hG ?_)
 refine za0 (za0 (za1 hG ?_))
 refine zb2 (zft7) (fun v=>zap6 v=some r) ?_ ?_
 · intro j1 h
   unfold zap6 at h
   refine g_st ?_
   refine za0 (za1 hG ?_)
   refine za6 ?_
   exact zb0 h
 refine zc8 (zft8 a0 a1) hK [(0,0)] h (fun x_l1 h g1 y_l1 h_l1 hx_l1=>?_)
 unfold zX3 at h_l1
 refine g_st ?_
 refine za0 (za1 hG ?_)
 refine za0 ?_
 refine za3 rfl hG h_l1 (fun _ h_l1=>?_) (fun _ h_l1=>?_)
 · refine za4 ?_
   refine za0 (zb3 (za0 ?_))
   obtain ⟨hb1,h_l1⟩:=za5 h_l1
   refine za1 hG ?_
   refine za0 (za1 hG ?_)
   refine za3 rfl hG h_l1 (fun _ h_l1=>?_) (fun _ h_l1=>?_)
   · refine za0 (za1 hG ?_)
     refine za6 ?_
     cases h_l1
     cases hx_l1 _ rfl
     exact zb0 h
   refine za4 ?_
   refine za1 hG ?_
   exact zc2 hK [(0,0)] h_l1
 refine zb5 ?_
 cases h_l1
 cases hx_l1 _ rfl
 exact zb8 hK [] () (by exact h)
attribute [local irreducible] zt9
def zag6 (a0:Int):(Arr Bool 6) :=
 (if (decide (a0=5))=true then
  (Arr.put (Arr.put (Arr.put (Arr.put (Arr.put (Arr.rep 6 false) 5 true) 4 true) 3 true) 2 true) 1 true)
 else
  (if (decide (a0=4))=true then
   (Arr.put (Arr.put (Arr.put (Arr.put (Arr.rep 6 false) 4 true) 3 true) 2 true) 1 true)
  else
   (if (decide (a0=2))=true then
    (Arr.put (Arr.put (Arr.rep 6 false) 2 true) 1 true)
   else
    (if (decide (a0=1))=true then
     (Arr.put (Arr.rep 6 false) 1 true)
    else
     (if (decide (a0=3))=true then
      (Arr.put (Arr.put (Arr.rep 6 false) 3 true) 1 true)
     else
      (Arr.rep 6 false))))))
theorem zbb2 (a0:Int):PFn C 191 [.int .i64 a0] (.agg (Arr.enc eB (zag6 a0))):=by
 generalize h:zag6 a0=r
 refine za7 ck_t rfl fun E hG hN hK=>?_
 unfold pc_t
 unfold zag6 at h
 refine za0 (za1 hG ?_)
 refine za0 (za1 hG ?_)
 refine za0 (za0 (za1 hG ?_))
 refine zb3 (za0 (zb3 (za0 (zb3 (za0 (zb3 (za0 (zb3 (za0 (zb3 (za0 (za0 (za0 (za1 hG ?_))))))))))))))
 refine za3 rfl hG h (fun _ h=>?_) (fun _ h=>?_)
 · refine zb5 ?_
   refine za1 hG ?_
   refine za0 (za1 hG ?_)
   refine za1 hG ?_
   refine za1 hG ?_
   refine za0 (za1 hG ?_)
   refine zb5 ?_
   refine za0 (za1 hG ?_)
   refine za6 ?_
   exact zm0 h
 refine za4 ?_
 refine za0 (za0 (za1 hG ?_))
 refine za3 rfl hG h (fun _ h=>?_) (fun _ h=>?_)
 · refine zb5 ?_
   refine za0 (za1 hG ?_)
   refine za1 hG ?_
   refine za1 hG ?_
   refine za0 (za1 hG ?_)
   refine zb5 ?_
   refine za0 (za1 hG ?_)
   refine za6 ?_
   exact zm0 h
 refine za4 ?_
 refine za0 (za0 (za1 hG ?_))
 refine za3 rfl hG h (fun _ h=>?_) (fun _ h=>?_)
 · refine zb5 ?_
   refine za1 hG ?_
   refine za0 (za1 hG ?_)
   refine zb5 ?_
   refine za0 (za1 hG ?_)
   refine za6 ?_
   exact zm0 h
 refine za4 ?_
 refine za0 (za0 (za1 hG ?_))
 refine za3 rfl hG h (fun _ h=>?_) (fun _ h=>?_)
 · refine zb5 ?_
   refine za0 (za1 hG ?_)
   refine zb5 ?_
   refine za0 (za1 hG ?_)
   refine za6 ?_
   exact zm0 h
 refine za4 ?_
 refine za0 (za1 hG ?_)
 refine za3 rfl hG h (fun _ h=>?_) (fun _ h=>?_)
 · refine zb5 ?_
   refine za0 (za0 (za1 hG ?_))
   refine za1 hG ?_
   refine zb5 ?_
   refine za0 (za1 hG ?_)
   refine za6 ?_
   exact zm0 h
 refine za4 ?_
 refine zb5 ?_
 refine za0 (za1 hG ?_)
 refine za6 ?_
 exact zm0 h
def zs2 (a0:Int) (a1:Int):Option (Bool) :=
 gd (((zm2 a0)&&(zm2 a1))=true→0≤a1∧a1 < 6) <|
 some (((zm2 a0)&&(zm2 a1))&&(Arr.get (zag6 a0) a1.toNat false))
theorem zbi2 (a0:Int) (a1:Int) (r:Bool) (h:zs2 a0 a1=some r):PFn C 187 [.int .i64 a0,.int .i64 a1] (.bool r):=by
 refine za7 ck_u rfl fun E hG hN hK=>?_
 unfold pc_u
 unfold zs2 at h
 refine za0 (za1 hG ?_)
 refine za0 (za1 hG ?_)
 refine za8 (fun hg=>zac2 a0) ?_
 refine za8 (fun hg=>zac2 a1) ?_
 obtain ⟨hb1,h⟩:=za5 h
 refine za8 (fun hg=>zbb2 a0) ?_
 refine za6 ?_
 exact zb0 h
attribute [local irreducible] zs2
def zo0 (a0:Resource) (a1:Amount) (a2:Amount):Option (Bool) :=
 (if ((!(zc0 a0 a1))||(!(zc0 a0 a2)))=true then
  some false
 else
  (if ((zg8 a1)||(zg8 a2))=true then
   some (zg8 a2)
  else
   (if (decide (a0.kind=1))=true then
    (zs2 a1.mode a2.mode).bind fun v1 =>
    some v1
   else
    some (decide (a2.units≤a1.units)))))
theorem zaV6 (a0:Resource) (a1:Amount) (a2:Amount) (r:Bool) (h:zo0 a0 a1 a2=some r):PFn C 164 [.agg (Resource.enc a0),.agg (Amount.enc a1),.agg (Amount.enc a2)] (.bool r):=by
 refine za7 ck_v rfl fun E hG hN hK=>?_
 unfold pc_v
 unfold zo0 at h
 refine za0 (za1 hG ?_)
 refine za0 (za0 (za1 hG ?_))
 refine za8 (fun hg=>zab6 a0 a1) ?_
 refine za8 (fun hg=>zab6 a0 a2) ?_
 refine za3 rfl hG h (fun _ h=>?_) (fun _ h=>?_)
 · refine za0 (za1 hG ?_)
   refine za6 ?_
   exact zb0 h
 refine za4 ?_
 refine za0 (za0 (za1 hG ?_))
 refine za8 (fun hg=>zM3 a1) ?_
 refine za8 (fun hg=>zM3 a2) ?_
 refine za3 rfl hG h (fun _ h=>?_) (fun _ h=>?_)
 · refine za0 (za1 hG ?_)
   refine za8 (fun hg=>zM3 a2) ?_
   refine za6 ?_
   exact zb0 h
 refine za4 ?_
 refine za0 (za0 (za1 hG ?_))
 refine za3 rfl hG h (fun _ h=>?_) (fun _ h=>?_)
 · refine za0 (za1 hG ?_)
   obtain ⟨v1,hv1,h⟩:=za2 h
   refine za8 (fun hg=>zbi2 _ _ _ hv1) ?_
   refine za6 ?_
   exact zb0 h
 refine za4 ?_
 refine za0 (za1 hG ?_)
 refine za6 ?_
 exact zb0 h
attribute [local irreducible] zo0
def zQ2  (j1:Unit):Option (Bool) :=
 some true
@[go_sem] def zft9  (j1:Unit):St:=⟨[],[],0⟩
def zs3 (a0:Queue) (g1:Int):Option ((Int)⊕((Unit)⊕(Bool))) :=
 (if (decide (g1 < (a0.converts.length:Int)))=true then
  gd (0≤g1∧g1 < (a0.converts.length:Int)) <|
  (zt4 a0 ((a0.converts.getD g1.toNat Wait.zero).proc)).bind fun v1 =>
  (zt9 a0.converts ((a0.converts.getD g1.toNat Wait.zero).proc)).bind fun v2 =>
  (if ((!decide (v2=g1))||(zg8 v1))=true then
   some (.inr (.inr false))
  else
   ((if (zb7 a0.resource ((a0.converts.getD g1.toNat Wait.zero).amount))=true then zo0 a0.resource ((a0.converts.getD g1.toNat Wait.zero).amount) v1 else some (false))).bind fun v3 =>
   (if (((!(zb7 a0.resource ((a0.converts.getD g1.toNat Wait.zero).amount)))||(!v3))||(decide ((a0.converts.getD g1.toNat Wait.zero).amount=v1)))=true then
    some (.inr (.inr false))
   else
    (if ((!decide ((a0.converts.getD g1.toNat Wait.zero).priority=0))||(!decide ((a0.converts.getD g1.toNat Wait.zero).passed=0)))=true then
     some (.inr (.inr false))
    else
     some (.inl (IntKind.i64.wrap (g1+1))))))
 else
  some (.inr (.inl ())))
@[go_sem] def zfu0 (a0:Queue) (g1:Int):St:=⟨[(1,.ptr 0 0 0),(11,.sl (a0.converts.map Wait.enc)),(12,.int .i64 (a0.converts.length:Int)),(13,.int .i64 g1)],[(0,⟨false,8,(Queue.enc Queue.zero),[Queue.enc a0]⟩)],1⟩
def zh3 (a0:Queue):Option (Bool) :=
 (if (decide (8 < (a0.converts.length:Int)))=true then
  some false
 else
  (zb4 (zs3 a0) 0).bind (fun|.inl z=>zQ2 z|.inr z=>some z))
theorem zaA0 (a0:Queue) (r:Bool) (h:zh3 a0=some r):PFn C 126 [.agg (Queue.enc a0)] (.bool r):=by
 refine za7 ck_w rfl fun E hG hN hK=>?_
 unfold pc_w
 unfold zh3 at h
 refine za0 (za1 hG ?_)
 refine za0 (za0 (za1 hG ?_))
 refine za3 rfl hG h (fun _ h=>?_) (fun _ h=>?_)
 · refine za0 (za1 hG ?_)
   refine za6 ?_
   exact zb0 h
 refine za4 ?_
 refine za0 (za0 (za1 hG ?_))
 refine zb2 (zft9) (fun v=>zQ2 v=some r) ?_ ?_
 · intro j1 h
   unfold zQ2 at h
   refine g_st ?_
   refine za0 (za1 hG ?_)
   refine za6 ?_
   exact zb0 h
 refine zc8 (zfu0 a0) hK [(0,0)] h (fun x_l1 h g1 y_l1 h_l1 hx_l1=>?_)
 unfold zs3 at h_l1
 refine g_st ?_
 refine za0 (za1 hG ?_)
 refine za0 ?_
 refine za3 rfl hG h_l1 (fun _ h_l1=>?_) (fun _ h_l1=>?_)
 · refine za4 ?_
   refine za0 (zb3 (za0 ?_))
   obtain ⟨hb1,h_l1⟩:=za5 h_l1
   refine za1 hG ?_
   refine za0 (za1 hG ?_)
   obtain ⟨v1,hv1,h_l1⟩:=za2 h_l1
   refine za8 (fun hg=>zaL5 _ _ _ hv1) ?_
   refine za0 (za0 (za1 hG ?_))
   obtain ⟨v2,hv2,h_l1⟩:=za2 h_l1
   refine za8 (fun hg=>zaR0 _ _ _ hv2) ?_
   refine za8 (fun hg=>zM3 v1) ?_
   refine za3 rfl hG h_l1 (fun _ h_l1=>?_) (fun _ h_l1=>?_)
   · refine za0 (za1 hG ?_)
     refine za6 ?_
     cases h_l1
     cases hx_l1 _ rfl
     exact zb0 h
   refine za4 ?_
   refine za0 (za0 (za1 hG ?_))
   refine za8 (fun hg=>zC1 a0.resource ((a0.converts.getD g1.toNat Wait.zero).amount)) ?_
   obtain ⟨v3,hv3,h_l1⟩:=za2 h_l1
   refine za8 (fun hg=>zaV6 a0.resource ((a0.converts.getD g1.toNat Wait.zero).amount) v1 _ (zv4 hg hv3)) ?_
   refine za3 rfl hG h_l1 (fun _ h_l1=>?_) (fun _ h_l1=>?_)
   · refine za0 (za1 hG ?_)
     refine za6 ?_
     cases h_l1
     cases hx_l1 _ rfl
     exact zb0 h
   refine za4 ?_
   refine za0 (za1 hG ?_)
   refine za3 rfl hG h_l1 (fun _ h_l1=>?_) (fun _ h_l1=>?_)
   · refine za0 (za1 hG ?_)
     refine za6 ?_
     cases h_l1
     cases hx_l1 _ rfl
     exact zb0 h
   refine za4 ?_
   refine za1 hG ?_
   exact zc2 hK [(0,0)] h_l1
 refine zb5 ?_
 cases h_l1
 cases hx_l1 _ rfl
 exact zb8 hK [] () (by exact h)
attribute [local irreducible] zh3
def zj9 (a0:Wait):Bool :=
 ((((((za9 a0.proc)&&((zb7 ({ Resource.zero with kind:=1,units:=1 }) a0.amount)||(zb7 ({ Resource.zero with kind:=2,units:=8 }) a0.amount)))&&(decide (0≤a0.priority)))&&(decide (a0.priority≤7)))&&(decide (0≤a0.passed)))&&(decide (a0.passed≤3)))
theorem zaR1 (a0:Wait):PFn C 188 [.agg (Wait.enc a0)] (.bool (zj9 a0)):=by
 generalize h:zj9 a0=r
 refine za7 ck_x rfl fun E hG hN hK=>?_
 unfold pc_x
 unfold zj9 at h
 refine za0 (za1 hG ?_)
 refine za0 (za1 hG ?_)
 refine za0 (za1 hG ?_)
 refine za0 (za1 hG ?_)
 refine za8 (fun hg=>zF6 a0.proc) ?_
 refine za8 (fun hg=>zC1 ({ Resource.zero with kind:=1,units:=1 }) a0.amount) ?_
 refine za8 (fun hg=>zC1 ({ Resource.zero with kind:=2,units:=8 }) a0.amount) ?_
 refine za6 ?_
 exact zm0 h
end
end Ab
end Go.Proofs.YtebopmkhhppfaaaGreatDoor
