import Derived.Test.YtcggeefhhegeoaaGreatDoorAuto
namespace Go.Proofs.YtcggeefhhegeoaaGreatDoor
namespace Ab
open IntKind (i64 u64 u8)
set_option linter.unusedSimpArgs false
set_option linter.unusedVariables false
set_option linter.defProp false
set_option maxRecDepth 100000
set_option maxHeartbeats 1000000
noncomputable section
def zav2 (a0:List Int):Bool :=
 (decide ((a0.length:Int)≤300))
instance zdg2 (a0:List Int):OkT 5 [.sl (a0.map (eI .i64))] (.bool (zav2 a0)):=ok2 (fun r=>.bool r) (zav2.eq_1 a0) Tryz.f5 []
def zn6 (a0 a1:Int):Option Int :=
 (if (decide (a1 < 1))=true then
  some 0
 else
  gd (a1≠0) <|
  (if (decide (a0.tmod a1 < 0))=true then
   some (i64.wrap (a0.tmod a1+a1))
  else
   some (a0.tmod a1)))
instance zdo4 (a0 a1:Int):OkP (zn6 a0 a1) 18 [.int .i64 a0,.int .i64 a1] (fun r=>.int .i64 r):=ok1 (zn6.eq_1 a0 a1) Tryz.f18 []
attribute [local irreducible] zn6
def zK8 (a0 a1 a2:Int):Bool :=
 (decide (a1≤a0)&&decide (a0≤a2))
instance zcK9 (a0 a1 a2:Int):OkT 107 [.int .i64 a0,.int .i64 a1,.int .i64 a2] (.bool (zK8 a0 a1 a2)):=ok2 (fun r=>.bool r) (zK8.eq_1 a0 a1 a2) Tryz.f107 []
def zv8 (a0:Int):Bool :=
 (decide (1≤a0)&&decide (a0≤5))
instance zdg3 (a0:Int):OkT 231 [.int .i64 a0] (.bool (zv8 a0)):=ok2 (fun r=>.bool r) (zv8.eq_1 a0) Tryz.f231 []
def zbd0 (j1:Unit):Option Int :=
 some (-1)
def zaj4 (a0:List Wait) (a1:Proc) (g1:Int):Option (Int⊕(Unit⊕Int)) :=
 (if (decide (g1 < (a0.length:Int)))=true then
  gd (0≤g1∧g1 < (a0.length:Int)) <|
  (if (decide ((a0.getD g1.toNat Wait.zero).proc=a1))=true then
   some (.inr (.inr g1))
  else
   some (.inl (i64.wrap (g1+1))))
 else
  some (.inr (.inl ())))
def zm4 (a0:List Wait) (a1:Proc):Option Int :=
 (zc0 (zaj4 a0 a1) 0).bind (fun|.inl z=>zbd0 z|.inr z=>some z)
@[reducible,instance] def zec1 a0 a1:=mkJ (zm4 a0 a1) 0 (@zbd0.eq_1) fun (j1:Unit)=>⟨[],[],0⟩
@[reducible,instance] def zec2 (a0:List Wait) (a1:Proc) {T:Type} (x:T):=mkL x (@zaj4.eq_1 a0 a1) fun (g1:Int)=>⟨[(3,.ptr 0 0 0),(7,la a0),(8,.int .i64 (a0.length:Int)),(9,.int .i64 g1)],[(0,bx a1)],1⟩
instance zdk8 (a0:List Wait) (a1:Proc):OkP (zm4 a0 a1) 226 [la a0,ga a1] (fun r=>.int .i64 r):=ok1 (zm4.eq_1 a0 a1) Tryz.f226 []
attribute [local irreducible] zm4
def zm1 (a0:Queue):Option (Wait×Bool) :=
 (if (decide (0 < (a0.converts.length:Int)))=true then
  gd (0≤0∧0 < (a0.converts.length:Int)) <|
  some ((a0.converts.getD 0 Wait.zero),true)
 else
  (if (decide (0 < (a0.waits.length:Int)))=true then
   gd (0≤0∧0 < (a0.waits.length:Int)) <|
   some ((a0.waits.getD 0 Wait.zero),true)
  else
   some ({ Wait.zero with  },false)))
instance zdg4 (a0:Queue):OkP (zm1 a0) 140 [ga a0] (fun r=>.tup [ga r.1,.bool r.2]):=ok1 (zm1.eq_1 a0) Tryz.f140 []
attribute [local irreducible] zm1
def zaf5 (j1:Int×(List Int)):Option (List Int) :=
 gd (j1.2.length+1≤4294967296) <|
 some (j1.2++[(u8.wrap j1.1)])
@[go_sem] def zdr1 (j1:Int×(List Int)):St:=⟨[(1,.int .u64 j1.1),(5,.own 0 0 j1.2.length)],[(0,⟨false,1,[A.int .u8 0],j1.2.map (eI .u8)⟩)],1⟩
def zN2 (g1:Int×(List Int)):Option ((Int×(List Int))⊕(Int×(List Int))) :=
 (if (decide (127 < g1.1))=true then
  gd (g1.2.length+1≤4294967296) <|
  some (.inl ((g1.1.fdiv (2 ^ 7)),(g1.2++[(zO0 .or .u8 (u8.wrap (zO0 .and .u64 g1.1 127)) 128)])))
 else
  some (.inr (g1.1,g1.2)))
@[go_sem] def zdr2 (g1:Int×(List Int)):St:=⟨[(1,.int .u64 g1.1),(5,.own 0 0 g1.2.length)],[(0,⟨false,1,[A.int .u8 0],g1.2.map (eI .u8)⟩)],1⟩
def zd9 (a0:List Int) (a1:Int):Option (List Int) :=
 gd (0≤0∧0≤(a0.length:Int)∧(a0.length:Int)≤(a0.length:Int)∧(a0.length:Int)=(a0.length:Int)) <|
 (if (decide (127 < a1))=true then
  gd ((a0.take ((a0.length:Int).toNat)).length+1≤4294967296) <|
  (zc0 zN2 ((a1.fdiv (2 ^ 7)),(a0.take ((a0.length:Int).toNat)++[(zO0 .or .u8 (u8.wrap (zO0 .and .u64 a1 127)) 128)]))).bind (fun z=>zaf5 z)
 else
  gd ((a0.take ((a0.length:Int).toNat)).length+1≤4294967296) <|
  some (a0.take ((a0.length:Int).toNat)++[(u8.wrap a1)]))
theorem zbw4 (a0:List Int) (a1:Int) (r:(List Int)) (h:zd9 a0 a1=some r):PFn C 75 [.sl (a0.map (eI .u8)),.int .u64 a1] (.sl (r.map (eI .u8))):=by
 refine zag9 Tryz.f75 [] fun E hG hN hK=>?_
 unfold zd9 at h
 refine za2 (za9 hG ?_)
 refine za2 ?_
 obtain ⟨hb5,h⟩:=zg5 h
 refine za9 hG ?_
 refine za2 ?_
 refine zbZ5 zdr1 (fun v=>zaf5 v=some r) ?_ ?_
 · intro j1 h
   unfold zaf5 at h
   refine g_st ?_
   refine za2 ?_
   obtain ⟨hb1,h⟩:=zg5 h
   refine za9 hG ?_
   refine zw3 ?_
   exact zW9 h
 refine zcV2 (body:=zN2) (kk:=fun z=>zaf5 z) (r:=r) zdr2 hK ?_ (fun x_l1 h g1 y_l1 h_l1 hx_l1=>?_)
 · refine za2 (za2 (za9 hG ?_))
   refine zo2 rfl hG h (fun _ h=>?_) (fun _ h=>?_)
   · refine zn4 ?_
     refine zI8 (za2 ?_)
     obtain ⟨hb3,h⟩:=zg5 h
     refine za9 hG ?_
     refine za9 hG ?_
     exact zcE6 hK [(0,0)] h
   refine zR6 ?_
   refine .inr ?_
   refine za2 ?_
   obtain ⟨hb4,h⟩:=zg5 h
   refine za9 hG ?_
   refine zw3 ?_
   exact zW9 h
 unfold zN2 at h_l1
 refine g_st ?_
 refine za2 (za2 (za9 hG ?_))
 refine zo2 rfl hG h_l1 (fun _ h_l1=>?_) (fun _ h_l1=>?_)
 · refine zn4 ?_
   refine zI8 (za2 ?_)
   obtain ⟨hb2,h_l1⟩:=zg5 h_l1
   refine za9 hG ?_
   refine za9 hG ?_
   exact zX1 hK [(0,1)] h_l1
 refine zR6 ?_
 cases h_l1
 cases hx_l1 _ rfl
 refine .inl ?_
 exact zI1 hK [(0,0)] (g1.1,g1.2) (by exact h)
instance zcF5 (a0:List Int) (a1:Int):OkP (zd9 a0 a1) 75 [.sl (a0.map (eI .u8)),.int .u64 a1] (fun r=>.sl (r.map (eI .u8))):=⟨zbw4 a0 a1⟩
attribute [local irreducible] zd9
def zY9 (j1:Int×(List Int)):Option (List Int) :=
 gd (j1.2.length+1≤4294967296) <|
 some (j1.2++[(u8.wrap j1.1)])
@[go_sem] def zdr3  (j1:Int×(List Int)):St:=⟨[(1,.int .u64 j1.1),(5,.own 0 0 j1.2.length)],[(0,⟨false,1,[A.int .u8 0],j1.2.map (eI .u8)⟩)],1⟩
def zaj5 (g1:Int×(List Int)):Option ((Int×(List Int))⊕(Int×(List Int))) :=
 (if (decide (127 < g1.1))=true then
  gd (g1.2.length+1≤4294967296) <|
  some (.inl ((g1.1.fdiv (2 ^ 7)),(g1.2++[(zO0 .or .u8 (u8.wrap (zO0 .and .u64 g1.1 127)) 128)])))
 else
  some (.inr (g1.1,g1.2)))
@[go_sem] def zdr4  (g1:Int×(List Int)):St:=⟨[(1,.int .u64 g1.1),(5,.own 0 0 g1.2.length)],[(0,⟨false,1,[A.int .u8 0],g1.2.map (eI .u8)⟩)],1⟩
def ze8 (a0:List Int) (a1:Int):Option (List Int) :=
 gd (0≤0∧0≤(a0.length:Int)∧(a0.length:Int)≤(a0.length:Int)∧(a0.length:Int)=(a0.length:Int)) <|
 (if (decide (127 < a1))=true then
  gd ((a0.take ((a0.length:Int).toNat)).length+1≤4294967296) <|
  (zc0 zaj5 ((a1.fdiv (2 ^ 7)),(a0.take ((a0.length:Int).toNat)++[(zO0 .or .u8 (u8.wrap (zO0 .and .u64 a1 127)) 128)]))).bind (fun z=>zY9 z)
 else
  gd ((a0.take ((a0.length:Int).toNat)).length+1≤4294967296) <|
  some (a0.take ((a0.length:Int).toNat)++[(u8.wrap a1)]))
theorem zbj3 (a0:List Int) (a1:Int) (r:(List Int)) (h:ze8 a0 a1=some r):MFn C 75 [.sl (a0.map (eI .u8)),.int .u64 a1] [] 0 (.own 0 0 r.length) [(0,⟨false,1,[A.int .u8 0],r.map (eI .u8)⟩)] 1:=by
 refine zaC5 Tryz.f75 [(4,1)] [.own 0 0 r.length] fun E hG hN hK=>?_
 unfold ze8 at h
 refine za2 (za9 hG ?_)
 refine za2 ?_
 obtain ⟨hb5,h⟩:=zg5 h
 refine za9 hG ?_
 refine za2 ?_
 refine zbZ5 zdr3 (fun v=>zY9 v=some r) ?_ ?_
 · intro j1 h
   unfold zY9 at h
   refine g_st ?_
   refine za2 ?_
   obtain ⟨hb1,h⟩:=zg5 h
   refine za9 hG ?_
   refine zw3 ?_
   exact zS7 [(0,1)] h
 refine zcV2 (body:=zaj5) (kk:=fun z=>zY9 z) (r:=r) zdr4 hK ?_ (fun x_l1 h g1 y_l1 h_l1 hx_l1=>?_)
 · refine za2 (za2 (za9 hG ?_))
   refine zo2 rfl hG h (fun _ h=>?_) (fun _ h=>?_)
   · refine zn4 ?_
     refine zI8 (za2 ?_)
     obtain ⟨hb3,h⟩:=zg5 h
     refine za9 hG ?_
     refine za9 hG ?_
     exact zcE6 hK [(0,1)] h
   refine zR6 ?_
   refine .inr ?_
   refine za2 ?_
   obtain ⟨hb4,h⟩:=zg5 h
   refine za9 hG ?_
   refine zw3 ?_
   exact zS7 [(0,1)] h
 unfold zaj5 at h_l1
 refine g_st ?_
 refine za2 (za2 (za9 hG ?_))
 refine zo2 rfl hG h_l1 (fun _ h_l1=>?_) (fun _ h_l1=>?_)
 · refine zn4 ?_
   refine zI8 (za2 ?_)
   obtain ⟨hb2,h_l1⟩:=zg5 h_l1
   refine za9 hG ?_
   refine za9 hG ?_
   exact zX1 hK [(0,1)] h_l1
 refine zR6 ?_
 cases h_l1
 cases hx_l1 _ rfl
 refine .inl ?_
 exact zI1 hK [(0,0)] (g1.1,g1.2) (by exact h)
instance zcu4 (a0:List Int) (a1:Int):OkM (ze8 a0 a1) 75 [.sl (a0.map (eI .u8)),.int .u64 a1] [] 0 (fun r=>.own 0 0 r.length) (fun r=>[(0,⟨false,1,[A.int .u8 0],r.map (eI .u8)⟩)]) 1:=⟨zbj3 a0 a1⟩
attribute [local irreducible] ze8
def zaZ1 (j1:Unit):Option Int :=
 some (-1)
def zah0 (a0:List Queue) (a1:ByteArray) (g1:Int):Option (Int⊕(Unit⊕Int)) :=
 (if (decide (g1 < (a0.length:Int)))=true then
  gd (0≤g1∧g1 < (a0.length:Int)) <|
  (if ((((a0.getD g1.toNat Queue.zero).resource).name).toList == a1.toList)=true then
   some (.inr (.inr g1))
  else
   some (.inl (i64.wrap (g1+1))))
 else
  some (.inr (.inl ())))
def zk2 (a0:List Queue) (a1:ByteArray):Option Int :=
 (zc0 (zah0 a0 a1) 0).bind (fun|.inl z=>zaZ1 z|.inr z=>some z)
@[reducible,instance] def zdG9 a0 a1:=mkJ (zk2 a0 a1) 0 (@zaZ1.eq_1) fun (j1:Unit)=>⟨[],[],0⟩
@[reducible,instance] def zdH0 (a0:List Queue) (a1:ByteArray) {T:Type} (x:T):=mkL x (@zah0.eq_1 a0 a1) fun (g1:Int)=>⟨[(1,.str a1),(7,la a0),(8,.int .i64 (a0.length:Int)),(9,.int .i64 g1)],[],0⟩
instance zdg5 (a0:List Queue) (a1:ByteArray):OkP (zk2 a0 a1) 46 [la a0,.str a1] (fun r=>.int .i64 r):=ok1 (zk2.eq_1 a0 a1) Tryz.f46 []
attribute [local irreducible] zk2
def zm6 (a0:Proc):Bool :=
 (((((decide (0≤a0.site)&&decide (a0.site < 4))&&decide (1≤a0.inc))&&decide (a0.inc≤99))&&decide (1≤a0.num))&&decide (a0.num≤999))
instance zbn1 (a0:Proc):OkT 92 [.agg (Proc.enc a0)] (.bool (zm6 a0)):=ok2 (fun r=>.bool r) (zm6.eq_1 a0) Tryz.f92 []
def zbd1 (j1:Unit):Option Amount :=
 some ({ Amount.zero with  })
def zav3 (a0:List Hold) (a1:Proc) (g1:Int):Option (Int⊕(Unit⊕Amount)) :=
 (if (decide (g1 < (a0.length:Int)))=true then
  gd (0≤g1∧g1 < (a0.length:Int)) <|
  (if (decide ((a0.getD g1.toNat Hold.zero).proc=a1))=true then
   gd (0≤g1∧g1 < (a0.length:Int)) <|
   some (.inr (.inr ((a0.getD g1.toNat Hold.zero).amount)))
  else
   some (.inl (i64.wrap (g1+1))))
 else
  some (.inr (.inl ())))
def zm5 (a0:List Hold) (a1:Proc):Option Amount :=
 (zc0 (zav3 a0 a1) 0).bind (fun|.inl z=>zbd1 z|.inr z=>some z)
@[reducible,instance] def zdH1 a0 a1:=mkJ (zm5 a0 a1) 0 (@zbd1.eq_1) fun (j1:Unit)=>⟨[(4,.ptr 0 0 0)],[(0,bx Amount.zero)],1⟩
@[reducible,instance] def zdH2 (a0:List Hold) (a1:Proc) {T:Type} (x:T):=mkL x (@zav3.eq_1 a0 a1) fun (g1:Int)=>⟨[(0,la a0),(3,.ptr 0 0 0),(4,.ptr 1 0 0),(5,.int .i64 g1)],[(0,bx a1),(1,bx Amount.zero)],2⟩
instance zdk9 (a0:List Hold) (a1:Proc):OkP (zm5 a0 a1) 217 [la a0,ga a1] (fun r=>ga r):=ok1 (zm5.eq_1 a0 a1) Tryz.f217 []
attribute [local irreducible] zm5
def zaI8 (j1:(List Proc)):Option (List Proc) :=
 some j1
def zaf6 (a0:List Hold) (g1:Int×(List Proc)):Option ((Int×(List Proc))⊕(List Proc)) :=
 (if (decide (g1.1 < (a0.length:Int)))=true then
  gd (0≤g1.1∧g1.1 < (a0.length:Int)) <|
  gd (g1.2.length+1≤4294967296) <|
  some (.inl ((i64.wrap (g1.1+1)),(g1.2++[(a0.getD g1.1.toNat Hold.zero).proc])))
 else
  some (.inr g1.2))
def zh1 (a0:List Hold):Option (List Proc) :=
 (zc0 (zaf6 a0) (0,[])).bind (fun z=>zaI8 z)
@[reducible,instance] def zdH3 a0:=mkJ (zh1 a0) 0 (@zaI8.eq_1) fun (j1:(List Proc))=>⟨[(3,.own 0 0 j1.length)],[(0,sx j1)],1⟩
@[reducible,instance] def zdH4 (a0:List Hold) {T:Type} (x:T):=mkL x (@zaf6.eq_1 a0) fun (g1:Int×(List Proc))=>⟨[(0,la a0),(3,.own 0 0 g1.2.length),(4,.int .i64 g1.1)],[(0,sx g1.2)],1⟩
instance zcF6 (a0:List Hold):OkM (zh1 a0) 128 [la a0] [] 0 (fun r=>.own 0 0 r.length) (fun r=>[(0,sx r)]) 1:=okm (zh1.eq_1 a0) (fun r=>[.own 0 0 r.length]) Tryz.f128 [(2,1),(3,1)]
attribute [local irreducible] zh1
def zay5 (j2:(List Proc)):Option (List Proc) :=
 some j2
def zal9 (a0:Queue) (g1:Int×(List Proc)):Option ((Int×(List Proc))⊕(List Proc)) :=
 (if (decide (g1.1 < (a0.waits.length:Int)))=true then
  gd (0≤g1.1∧g1.1 < (a0.waits.length:Int)) <|
  gd (g1.2.length+1≤4294967296) <|
  some (.inl ((i64.wrap (g1.1+1)),(g1.2++[(a0.waits.getD g1.1.toNat Wait.zero).proc])))
 else
  some (.inr g1.2))
def zam0 (a0:Queue) (j1:(List Proc)):Option (List Proc) :=
 (zc0 (zal9 a0) (0,j1)).bind (fun z=>zay5 z)
def zam1 (a0:Queue) (g2:Int×(List Proc)):Option ((Int×(List Proc))⊕(List Proc)) :=
 (if (decide (g2.1 < (a0.converts.length:Int)))=true then
  gd (0≤g2.1∧g2.1 < (a0.converts.length:Int)) <|
  gd (g2.2.length+1≤4294967296) <|
  some (.inl ((i64.wrap (g2.1+1)),(g2.2++[(a0.converts.getD g2.1.toNat Wait.zero).proc])))
 else
  some (.inr g2.2))
def zj9 (a0:Queue):Option (List Proc) :=
 (zc0 (zam1 a0) (0,[])).bind (fun z=>zam0 a0 z)
@[reducible,instance] def zdH5 a0 j1:=mkJ (zam0 a0 j1) 2 (@zay5.eq_1) fun (j2:(List Proc))=>⟨[(3,.own 0 0 j2.length)],[(0,sx j2)],1⟩
@[reducible,instance] def zdH6 (a0:Queue) {T:Type} (x:T):=mkL x (@zal9.eq_1 a0) fun (g1:Int×(List Proc))=>⟨[(1,.ptr 0 0 0),(3,.own 1 0 g1.2.length),(5,.int .i64 g1.1)],[(0,bx a0),(1,sx g1.2)],2⟩
@[reducible,instance] def zdH7 (a0:Queue):=mkJ (zj9 a0) 0 (@zam0.eq_1 a0) fun (j1:(List Proc))=>⟨[(1,.ptr 0 0 0),(3,.own 1 0 j1.length)],[(0,bx a0),(1,sx j1)],2⟩
@[reducible,instance] def zdH8 (a0:Queue) {T:Type} (x:T):=mkL x (@zam1.eq_1 a0) fun (g2:Int×(List Proc))=>⟨[(1,.ptr 0 0 0),(3,.own 1 0 g2.2.length),(4,.int .i64 g2.1)],[(0,bx a0),(1,sx g2.2)],2⟩
instance zcW8 (a0:Queue):OkP (zj9 a0) 129 [ga a0] (fun r=>la r):=ok1 (zj9.eq_1 a0) Tryz.f129 [(3,1)]
attribute [local irreducible] zj9
def zaZ2 (j1:Unit):Option (Resource×Bool) :=
 some ({ Resource.zero with  },false)
def zaq4 (a0:List Resource) (a1:ByteArray) (g1:Int):Option (Int⊕(Unit⊕(Resource×Bool))) :=
 (if (decide (g1 < (a0.length:Int)))=true then
  gd (0≤g1∧g1 < (a0.length:Int)) <|
  (if (((a0.getD g1.toNat Resource.zero).name).toList == a1.toList)=true then
   gd (0≤g1∧g1 < (a0.length:Int)) <|
   some (.inr (.inr ((a0.getD g1.toNat Resource.zero),true)))
  else
   some (.inl (i64.wrap (g1+1))))
 else
  some (.inr (.inl ())))
def zl7 (a0:List Resource) (a1:ByteArray):Option (Resource×Bool) :=
 (zc0 (zaq4 a0 a1) 0).bind (fun|.inl z=>zaZ2 z|.inr z=>some z)
@[reducible,instance] def zdH9 a0 a1:=mkJ (zl7 a0 a1) 0 (@zaZ2.eq_1) fun (j1:Unit)=>⟨[(4,.ptr 0 0 0)],[(0,bx Resource.zero)],1⟩
@[reducible,instance] def zdI0 (a0:List Resource) (a1:ByteArray) {T:Type} (x:T):=mkL x (@zaq4.eq_1 a0 a1) fun (g1:Int)=>⟨[(0,la a0),(1,.str a1),(4,.ptr 0 0 0),(6,.int .i64 g1)],[(0,bx Resource.zero)],1⟩
instance zdg6 (a0:List Resource) (a1:ByteArray):OkP (zl7 a0 a1) 238 [la a0,.str a1] (fun r=>.tup [ga r.1,.bool r.2]):=ok1 (zl7.eq_1 a0 a1) Tryz.f238 []
attribute [local irreducible] zl7
def zd0 (a0:Int) (a1:Proc) (a2:work):Option (Int×(List Queue)×(List Proce)×(List Event)) :=
 gd (a2.ev.length+1≤4294967296) <|
 some (a2.c.now,a2.c.queues,a2.c.procs,(a2.ev++[{ Event.zero with kind:=a0,proc:=a1 }]))
instance zci9 (a0:Int) (a1:Proc) (a2:work):OkM (zd0 a0 a1 a2) 244 [.ptr 0 0 0,.int .i64 a0,ga a1] [(0,⟨false,4,work.enc work.zero,[[.int .i64 a2.c.now,la a2.c.queues,.own 1 0 a2.c.procs.length,.own 2 0 a2.ev.length]]⟩),(1,sx a2.c.procs),(2,sx a2.ev)] 3 (fun r=>.tup []) (fun r=>[(0,⟨false,4,work.enc work.zero,[[.int .i64 r.1,la r.2.1,.own 1 0 r.2.2.1.length,.own 3 0 r.2.2.2.length]]⟩),(1,sx r.2.2.1),(3,sx r.2.2.2)]) 4:=okm (zd0.eq_1 a0 a1 a2) (fun r=>[]) Tryz.f244 []
attribute [local irreducible] zd0
def zi7 (a0:Queue):Option Queue :=
 gd (a0.holds.length≤4294967296) <|
 gd (a0.converts.length≤4294967296) <|
 gd (a0.waits.length≤4294967296) <|
 some a0
theorem zbw5 (a0 r:Queue) (h:zi7 a0=some r):MFn C 277 [ga a0] [] 0 (.agg [.str r.resource.name,.int .i64 r.resource.kind,.int .i64 r.resource.units,.int .i64 r.resource.home,.own 0 0 r.holds.length,.own 1 0 r.converts.length,.own 2 0 r.waits.length,.int .i64 r.gen]) [(0,sx r.holds),(1,sx r.converts),(2,sx r.waits)] 3:=by
 refine zaC5 Tryz.f277 [(3,1),(8,1),(13,1)] [.agg [.str r.resource.name,.int .i64 r.resource.kind,.int .i64 r.resource.units,.int .i64 r.resource.home,.own 0 0 r.holds.length,.own 1 0 r.converts.length,.own 2 0 r.waits.length,.int .i64 r.gen]] fun E hG hN hK=>?_
 unfold zi7 at h
 refine za2 (za9 hG ?_)
 refine za2 ?_
 obtain ⟨hb3,h⟩:=zg5 h
 refine za9 hG ?_
 refine za2 ?_
 obtain ⟨hb2,h⟩:=zg5 h
 refine za9 hG ?_
 refine za2 ?_
 obtain ⟨hb1,h⟩:=zg5 h
 refine za9 hG ?_
 refine za2 (za9 hG ?_)
 refine zw3 ?_
 exact zS7 [(0,3),(1,5),(2,7)] h
attribute [local irreducible] zi7
def zV1 (j1:Int×(List Int)):Option (List Int) :=
 gd (j1.2.length+1≤4294967296) <|
 some (j1.2++[(u8.wrap j1.1)])
def zr9 (g1:Int×(List Int)):Option ((Int×(List Int))⊕(Int×(List Int))) :=
 (if (decide (128≤g1.1))=true then
  gd (g1.2.length+1≤4294967296) <|
  some (.inl ((g1.1.fdiv (2 ^ 7)),(g1.2++[(zO0 .or .u8 (u8.wrap (zO0 .and .u64 g1.1 127)) 128)])))
 else
  some (.inr (g1.1,g1.2)))
def zf0 (a0:List Int) (a1:Int):Option (List Int) :=
 gd (a0.length≤4294967296) <|
 (zc0 zr9 (a1,a0)).bind (fun z=>zV1 z)
@[reducible,instance] def zdI1 a0 a1:=mkJ (zf0 a0 a1) 0 (@zV1.eq_1) fun (j1:Int×(List Int))=>⟨[(1,.int .u64 j1.1),(5,.own 0 0 j1.2.length)],[(0,⟨false,1,[A.int .u8 0],j1.2.map (eI .u8)⟩)],1⟩
@[reducible,instance] def zdI2 {T:Type} (x:T):=mkL x (@zr9.eq_1) fun (g1:Int×(List Int))=>⟨[(1,.int .u64 g1.1),(5,.own 0 0 g1.2.length)],[(0,⟨false,1,[A.int .u8 0],g1.2.map (eI .u8)⟩)],1⟩
attribute [local irreducible] zf0
def zaD5 (j1:Int×(List Int)):Option (List Int) :=
 gd (j1.2.length+1≤4294967296) <|
 some (j1.2++[(u8.wrap j1.1)])
def zaD6 (g1:Int×(List Int)):Option ((Int×(List Int))⊕(Int×(List Int))) :=
 (if (decide (128≤g1.1))=true then
  gd (g1.2.length+1≤4294967296) <|
  some (.inl ((g1.1.fdiv (2 ^ 7)),(g1.2++[(zO0 .or .u8 (u8.wrap (zO0 .and .u64 g1.1 127)) 128)])))
 else
  some (.inr (g1.1,g1.2)))
def zf9 (a0:List Int) (a1:Int):Option (List Int) :=
 gd (a0.length≤4294967296) <|
 (zc0 zaD6 (a1,a0)).bind (fun z=>zaD5 z)
@[reducible,instance] def zdI3 a0 a1:=mkJ (zf9 a0 a1) 0 (@zaD5.eq_1) fun (j1:Int×(List Int))=>⟨[(1,.int .u64 j1.1),(5,.own 0 0 j1.2.length)],[(0,⟨false,1,[A.int .u8 0],j1.2.map (eI .u8)⟩)],1⟩
@[reducible,instance] def zdI4 {T:Type} (x:T):=mkL x (@zaD6.eq_1) fun (g1:Int×(List Int))=>⟨[(1,.int .u64 g1.1),(5,.own 0 0 g1.2.length)],[(0,⟨false,1,[A.int .u8 0],g1.2.map (eI .u8)⟩)],1⟩
attribute [local irreducible] zf9
def zaZ3 (j1:Unit):Option (Need×Bool) :=
 some ({ Need.zero with  },false)
def zaq5 (a0:WaitState) (a1:Proc) (g1:Int):Option (Int⊕(Unit⊕(Need×Bool))) :=
 (if (decide (g1 < (a0.needs.length:Int)))=true then
  gd (0≤g1∧g1 < (a0.needs.length:Int)) <|
  (if (decide ((a0.needs.getD g1.toNat Need.zero).proc=a1))=true then
   gd (0≤g1∧g1 < (a0.needs.length:Int)) <|
   some (.inr (.inr ((a0.needs.getD g1.toNat Need.zero),true)))
  else
   some (.inl (i64.wrap (g1+1))))
 else
  some (.inr (.inl ())))
def zl4 (a0:WaitState) (a1:Proc):Option (Need×Bool) :=
 (zc0 (zaq5 a0 a1) 0).bind (fun|.inl z=>zaZ3 z|.inr z=>some z)
@[reducible,instance] def zdI5 (a0:WaitState) (a1:Proc):=mkJ (zl4 a0 a1) 0 (@zaZ3.eq_1) fun (j1:Unit)=>⟨[(4,.ptr 0 0 0)],[(0,bx Need.zero)],1⟩
@[reducible,instance] def zdI6 (a0:WaitState) (a1:Proc) {T:Type} (x:T):=mkL x (@zaq5.eq_1 a0 a1) fun (g1:Int)=>⟨[(2,.ptr 0 0 0),(3,.ptr 1 0 0),(4,.ptr 2 0 0),(6,.int .i64 g1)],[(0,bx a0),(1,bx a1),(2,bx Need.zero)],3⟩
instance zdg7 (a0:WaitState) (a1:Proc):OkP (zl4 a0 a1) 48 [ga a0,ga a1] (fun r=>.tup [ga r.1,.bool r.2]):=⟨fun r h=>by
 refine zag9 Tryz.f48 [] fun E hG hN hK=>?_
 have hm:Mk (zl4 a0 a1):=trivial
 unfold zl4 at h
 refine za2 (za9 hG ?_)
 refine za2 (za2 (za9 hG ?_))
 refine zao7 hm h (fun j1 hm h=>?_) ?_
 · try refine g_st ?_
   refine za2 (za9 hG ?_)
   refine zw3 ?_
   exact zW9 h (by intro e; subst e; simp [Proc.enc,Atom.enc,Amount.enc])
 refine zcF0 hm hK [(0,0),(1,1),(2,2)] h (fun g1 y hm kx h=>?_)
 try refine g_st ?_
 refine za2 (za2 (za9 hG ?_))
 refine zo2 rfl hG h (fun _ h=>?_) (fun _ h=>?_)
 · refine zn4 ?_
   refine za2 (zI8 (za2 ?_))
   obtain ⟨hb2,h⟩:=zg5 h
   refine zbc9 zL7 hG ?_
   refine zo2 rfl hG h (fun _ h=>?_) (fun _ h=>?_)
   · refine za2 ?_
     obtain ⟨hb1,h⟩:=zg5 h
     refine za9 hG ?_
     refine zw3 ?_
     obtain ⟨hm,h⟩:=zdo3 kx h
     clear kx
     try dsimp only at h
     exact zW9 h (by intro e; subst e; simp [Proc.enc,Atom.enc,Amount.enc])
   exact gogo
 exact gogo⟩
attribute [local irreducible] zl4
end
end Ab
end Go.Proofs.YtcggeefhhegeoaaGreatDoor
