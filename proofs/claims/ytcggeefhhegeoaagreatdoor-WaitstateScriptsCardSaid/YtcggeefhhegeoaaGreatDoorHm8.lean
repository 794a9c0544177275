import Derived.Test.YtcggeefhhegeoaaGreatDoorHm1
import Derived.Test.YtcggeefhhegeoaaGreatDoorHm2
import Derived.Test.YtcggeefhhegeoaaGreatDoorHm3
import Derived.Test.YtcggeefhhegeoaaGreatDoorHm4
namespace Go.Proofs.YtcggeefhhegeoaaGreatDoor
namespace Ab
open IntKind (i64 u64 u8)
set_option linter.unusedSimpArgs false
set_option linter.unusedVariables false
set_option linter.defProp false
set_option maxRecDepth 100000
set_option maxHeartbeats 1000000
noncomputable section
attribute [local irreducible] zj2 za4 zd1 za7 zf7 zi6 zk5 zg4 zk6 zf3 zd2 zd8 zh9 zd6 zk1 za6 za0 ze0 zj7 zl9 zi3 zh5 zg2 zg8 zf8 zc5 ze1 ze2 zg9 zf5 ze3 zb0 za8 zh0 zi4 ze4 zn1 f_ref08_holds zj3 zc2 zn6 zm4 zm1 zd9 ze8 zk2 zm5 zh1 zj9 zl7 zd0 zi7 zf0 zf9 zl4
def zb3 (a0:Resource) (a1:Amount):Bool :=
 (if (!(zg3 a0))=true then
  false
 else
  (if (decide (a0.kind=1))=true then
   (zv8 a1.mode&&decide (a1.units=0))
  else
   ((decide (a1.mode=0)&&decide (1≤a1.units))&&decide (a1.units≤a0.units))))
instance zcW9 (a0:Resource) (a1:Amount):OkT 180 [.agg (Resource.enc a0),.agg (Amount.enc a1)] (.bool (zb3 a0 a1)):=ok2 (fun r=>.bool r) (zb3.eq_1 a0 a1) Tryz.f180 []
def zn9 (a0:Queue) (a1:Proc):Option Amount :=
 (zj2 a0.holds a1).bind fun v1 =>
 some v1
instance zdg8 (a0:Queue) (a1:Proc):OkP (zn9 a0 a1) 225 [ga a0,ga a1] (fun r=>ga r):=ok1 (zn9.eq_1 a0 a1) Tryz.f225 []
attribute [local irreducible] zn9
def zm7 (a0 a1:Int):Option Bool :=
 gd ((zv8 a0&&zv8 a1)=true→0≤a1∧a1 < 6) <|
 some ((zv8 a0&&zv8 a1)&&Arr.get (zaI6 a0) a1.toNat false)
instance zcX0 (a0 a1:Int):OkP (zm7 a0 a1) 264 [.int .i64 a0,.int .i64 a1] (fun r=>.bool r):=ok1 (zm7.eq_1 a0 a1) Tryz.f264 []
attribute [local irreducible] zm7
def zE6 (j2:(List Wait)):Option (List Wait) :=
 some j2
@[go_sem] def zdr5  (j2:(List Wait)):St:=⟨[(6,.own 0 0 j2.length)],[(0,sx j2)],1⟩
def zo0 (a0:List (List Wait)) (g1:Int×(List Wait)):Option ((Int×(List Wait))⊕(List Wait)) :=
 (if (decide (g1.1 < (a0.length:Int)))=true then
  gd (0≤g1.1∧g1.1 < (a0.length:Int)) <|
  gd (g1.2.length+(a0.getD g1.1.toNat []).length≤4294967296) <|
  some (.inl ((i64.wrap (g1.1+1)),(g1.2++a0.getD g1.1.toNat [])))
 else
  some (.inr g1.2))
@[go_sem] def zdr6 (a0:List (List Wait)) (g1:Int×(List Wait)):St:=⟨[(6,.own 0 0 g1.2.length),(25,.sl (a0.map (eL Wait.enc))),(26,.int .i64 (a0.length:Int)),(27,.int .i64 g1.1)],[(0,sx g1.2)],1⟩
def zy2 (a0:List (List Wait)) (j1:Int):Option (List Wait) :=
 (zb0 j1).bind fun v1 =>
 (zc0 (zo0 a0) (0,v1)).bind (fun z=>zE6 z)
@[go_sem] def zdr7 (a0:List (List Wait)) (j1:Int):St:=⟨[(0,.sl (a0.map (eL Wait.enc))),(3,.int .i64 j1)],[],0⟩
def zo1 (a0:List (List Wait)) (g2:Int×Int):Option ((Int×Int)⊕Int) :=
 (if (decide (g2.2 < (a0.length:Int)))=true then
  gd (0≤g2.2∧g2.2 < (a0.length:Int)) <|
  (if (decide (i64.wrap (g2.1+((a0.getD g2.2.toNat []).length:Int)) < 0))=true then
   none
  else
   some (.inl ((i64.wrap (g2.1+((a0.getD g2.2.toNat []).length:Int))),i64.wrap (g2.2+1))))
 else
  some (.inr g2.1))
@[go_sem] def zdr8 (a0:List (List Wait)) (g2:Int×Int):St:=⟨[(0,.sl (a0.map (eL Wait.enc))),(3,.int .i64 g2.1),(9,.sl (a0.map (eL Wait.enc))),(10,.int .i64 (a0.length:Int)),(11,.int .i64 g2.2)],[],0⟩
def zb2 (a0:List (List Wait)):Option (List Wait) :=
 (zc0 (zo1 a0) (0,0)).bind (fun z=>zy2 a0 z)
theorem zar3 (a0:List (List Wait)) (r:(List Wait)) (h:zb2 a0=some r):PFn C 132 [.sl (a0.map (eL Wait.enc))] (la r):=by
 refine zag9 Tryz.f132 [] fun E hG hN hK=>?_
 unfold zb2 at h
 refine za2 (za9 hG ?_)
 refine za2 (za9 hG ?_)
 refine za2 (za2 (za9 hG ?_))
 refine zP5 (zdr7 a0) (fun v=>zy2 a0 v=some r) ?_ ?_
 · intro j1 h
   unfold zy2 at h
   refine g_st ?_
   refine za2 (za9 hG ?_)
   obtain ⟨v1,hv1,h⟩:=zf1 h
   refine zu2 [] [(0,0)] [0] (zap0 _ _ hv1) rfl rfl ?_
   refine za2 (za2 (za9 hG ?_))
   refine zP5 zdr5 (fun v=>zE6 v=some r) ?_ ?_
   · intro j2 h
     unfold zE6 at h
     refine g_st ?_
     refine za2 (za9 hG ?_)
     refine zw3 ?_
     exact zW9 h
   refine zao1 (zdr6 a0) hK [(0,0)] h (fun x_l1 h g1 y_l1 h_l1 hx_l1=>?_)
   unfold zo0 at h_l1
   refine g_st ?_
   refine za2 (za9 hG ?_)
   refine za2 ?_
   refine zo2 rfl hG h_l1 (fun _ h_l1=>?_) (fun _ h_l1=>?_)
   · refine zn4 ?_
     refine za2 (zI8 (za2 ?_))
     obtain ⟨hb2,h_l1⟩:=zg5 h_l1
     refine za9 hG ?_
     obtain ⟨hb1,h_l1⟩:=zg5 h_l1
     refine za9 hG ?_
     refine za9 hG ?_
     exact zX1 hK [(0,1)] h_l1
   refine zR6 ?_
   cases h_l1
   cases hx_l1 _ rfl
   exact zI1 hK [(0,0)] g1.2 (by exact h)
 refine zao1 (zdr8 a0) hK [] h (fun x_l2 h g2 y_l2 h_l2 hx_l2=>?_)
 unfold zo1 at h_l2
 refine g_st ?_
 refine za2 (za9 hG ?_)
 refine za2 ?_
 refine zo2 rfl hG h_l2 (fun _ h_l2=>?_) (fun _ h_l2=>?_)
 · refine zn4 ?_
   refine za2 (zI8 (za2 ?_))
   obtain ⟨hb3,h_l2⟩:=zg5 h_l2
   refine za9 hG ?_
   refine za2 (za9 hG ?_)
   refine za2 (za9 hG ?_)
   refine zo2 rfl hG h_l2 (fun _ h_l2=>?_) (fun _ h_l2=>?_)
   · exact zdq9 h_l2
   refine zn4 ?_
   refine za9 hG ?_
   exact zX1 hK [] h_l2
 refine zR6 ?_
 cases h_l2
 cases hx_l2 _ rfl
 exact zI1 hK [] g2.1 (by exact h)
instance zbk7 (a0:List (List Wait)):OkP (zb2 a0) 132 [.sl (a0.map (eL Wait.enc))] (fun r=>la r):=⟨zar3 a0⟩
attribute [local irreducible] zb2
def zav4 (j1:(List Int)):Option (List Int) :=
 some j1
def zD3 (a1:List Int) (g1:(List Int)×Int):Option (((List Int)×Int)⊕(List Int)) :=
 (if (decide (g1.2 < (a1.length:Int)))=true then
  gd (0≤g1.2∧g1.2 < (a1.length:Int)) <|
  (zd9 g1.1 (u64.wrap (a1.getD g1.2.toNat 0))).bind fun v1 =>
  some (.inl (v1,i64.wrap (g1.2+1)))
 else
  some (.inr g1.1))
def zc1 (a0 a1:List Int):Option (List Int) :=
 (zc0 (zD3 a1) (a0,0)).bind (fun z=>zav4 z)
@[reducible,instance] def zdI7 a0 a1:=mkJ (zc1 a0 a1) 0 (@zav4.eq_1) fun (j1:(List Int))=>⟨[(0,.sl (j1.map (eI .u8)))],[],0⟩
@[reducible,instance] def zdI8 (a1:List Int) {T:Type} (x:T):=mkL x (@zD3.eq_1 a1) fun (g1:(List Int)×Int)=>⟨[(0,.sl (g1.1.map (eI .u8))),(7,.sl (a1.map (eI .i64))),(8,.int .i64 (a1.length:Int)),(9,.int .i64 g1.2)],[],0⟩
instance zcn5 (a0 a1:List Int):OkP (zc1 a0 a1) 29 [.sl (a0.map (eI .u8)),.sl (a1.map (eI .i64))] (fun r=>.sl (r.map (eI .u8))):=ok1 (zc1.eq_1 a0 a1) Tryz.f29 []
attribute [local irreducible] zc1
def zD4 (a0:Int):Bool :=
 (((zP6 a0||(decide (48≤a0)&&decide (a0≤57)))||decide (a0=95))||decide (a0=45))
instance zdg9 (a0:Int):OkT 222 [.int .u8 a0] (.bool (zD4 a0)):=ok2 (fun r=>.bool r) (zD4.eq_1 a0) Tryz.f222 []
def zt4 (a0 a1:Proc):Int :=
 (if (!decide (zO2 a0.site a1.site=0))=true then
  (zO2 a0.site a1.site)
 else
  (if (!decide (zO2 a0.inc a1.inc=0))=true then
   (zO2 a0.inc a1.inc)
  else
   (zO2 a0.num a1.num)))
instance zcn6 (a0 a1:Proc):OkT 86 [.agg (Proc.enc a0),.agg (Proc.enc a1)] (.int .i64 (zt4 a0 a1)):=ok2 (fun r=>.int .i64 r) (zt4.eq_1 a0 a1) Tryz.f86 []
def zh4 (a0:Queue) (a1:Proc):Option (Amount×Bool) :=
 (zj7 a0.converts a1).bind fun v1 =>
 (if (decide (0≤v1))=true then
  gd (0≤v1∧v1 < (a0.converts.length:Int)) <|
  some ((a0.converts.getD v1.toNat Wait.zero).amount,true)
 else
  (zj7 a0.waits a1).bind fun v2 =>
  (if (decide (0≤v2))=true then
   gd (0≤v2∧v2 < (a0.waits.length:Int)) <|
   some ((a0.waits.getD v2.toNat Wait.zero).amount,true)
  else
   some ({ Amount.zero with  },false)))
instance zbE5 (a0:Queue) (a1:Proc):OkP (zh4 a0 a1) 96 [ga a0,ga a1] (fun r=>.tup [ga r.1,.bool r.2]):=ok1 (zh4.eq_1 a0 a1) Tryz.f96 []
attribute [local irreducible] zh4
def zq0 (a0:List Int) (a1:Int):Option (List Int) :=
 (zf0 a0 (u64.wrap a1)).bind fun v1 =>
 some v1
attribute [local irreducible] zq0
def zb6 (a0:Proc):Bool :=
 ((zK8 a0.site 0 3&&zK8 a0.inc 1 99)&&zK8 a0.num 1 999)
instance zcx3 (a0:Proc):OkT 66 [.agg (Proc.enc a0)] (.bool (zb6 a0)):=ok2 (fun r=>.bool r) (zb6.eq_1 a0) Tryz.f66 []
def zh2 (a0 a1:Int):Option Bool :=
 gd ((zv8 a0&&zv8 a1)=true→0≤i64.wrap (a0 - 1)∧i64.wrap (a0 - 1) < 5) <|
 gd ((zv8 a0&&zv8 a1)=true→0≤i64.wrap (a1 - 1)∧i64.wrap (a1 - 1) < 5) <|
 some ((zv8 a0&&zv8 a1)&&Arr.get (Arr.get zcf3 ((i64.wrap (a0 - 1)).toNat) (Arr.rep 5 false)) ((i64.wrap (a1 - 1)).toNat) false)
instance zbn2 (a0 a1:Int):OkP (zh2 a0 a1) 262 [.int .i64 a0,.int .i64 a1] (fun r=>.bool r):=ok1 (zh2.eq_1 a0 a1) Tryz.f262 []
attribute [local irreducible] zh2
def za5 (a0:List Atom) (a1:Atom):Option Bool :=
 (za7 a0 a1).bind fun v1 =>
 some (decide (0≤v1))
instance zao3 (a0:List Atom) (a1:Atom):OkP (za5 a0 a1) 131 [la a0,ga a1] (fun r=>.bool r):=ok1 (za5.eq_1 a0 a1) Tryz.f131 []
attribute [local irreducible] za5
def zy0 (j1:Unit):Option Bool :=
 some true
def zp8 (a0 a1:List Wait) (g1:Int):Option (Int⊕(Unit⊕Bool)) :=
 (if (decide (g1 < (a0.length:Int)))=true then
  gd (0≤g1∧g1 < (a0.length:Int)) <|
  gd (0≤g1∧g1 < (a1.length:Int)) <|
  (if (!(zO3 (a0.getD g1.toNat Wait.zero) (a1.getD g1.toNat Wait.zero)))=true then
   some (.inr (.inr false))
  else
   some (.inl (i64.wrap (g1+1))))
 else
  some (.inr (.inl ())))
def za1 (a0 a1:List Wait):Option Bool :=
 (if (!decide ((a0.length:Int)=(a1.length:Int)))=true then
  some false
 else
  (zc0 (zp8 a0 a1) 0).bind (fun|.inl z=>zy0 z|.inr z=>some z))
@[reducible,instance] def zdI9 a0 a1:=mkJ (za1 a0 a1) 0 (@zy0.eq_1) fun (j1:Unit)=>⟨[],[],0⟩
@[reducible,instance] def zdJ0 (a0 a1:List Wait) {T:Type} (x:T):=mkL x (@zp8.eq_1 a0 a1) fun (g1:Int)=>⟨[(1,la a1),(2,.clo 126 []),(15,la a0),(16,.int .i64 (a0.length:Int)),(17,.int .i64 g1)],[],0⟩
instance zN3 (a0 a1:List Wait):OkM (za1 a0 a1) 125 [la a0,la a1,.clo 126 []] [] 0 (fun r=>.bool r) (fun r=>[]) 0:=okm (za1.eq_1 a0 a1) (fun r=>[.bool r]) Tryz.f125 []
attribute [local irreducible] za1
def zb4 (a0:Int) (a1:Tape):Option (Int×Tape) :=
 (if (decide ((a1.l.length:Int)≤a1.at_))=true then
  some (0,a1)
 else
  gd (0≤i64.wrap (({ a1 with at_:=(i64.wrap (a1.at_+1)) }).at_ - 1)∧i64.wrap (({ a1 with at_:=(i64.wrap (a1.at_+1)) }).at_ - 1) < ((({ a1 with at_:=(i64.wrap (a1.at_+1)) }).l).length:Int)) <|
  (zn6 ((({ a1 with at_:=(i64.wrap (a1.at_+1)) }).l).getD ((i64.wrap (({ a1 with at_:=(i64.wrap (a1.at_+1)) }).at_ - 1)).toNat) 0) a0).bind fun v1 =>
  some (v1,{ a1 with at_:=(i64.wrap (a1.at_+1)) }))
instance zu0 (a0:Int) (a1:Tape):OkM (zb4 a0 a1) 26 [.ptr 0 0 0,.int .i64 a0] [(0,bx a1)] 1 (fun r=>.int .i64 r.1) (fun r=>[(0,bx r.2)]) 1:=okm (zb4.eq_1 a0 a1) (fun r=>[.int .i64 r.1]) Tryz.f26 []
attribute [local irreducible] zb4
def zaG2 (j1:(List Atom)):Option (List Atom) :=
 some j1
def zab3 (a0:Ledger) (v1:(List ByteArray)) (g1:Int×(List Atom)):Option ((Int×(List Atom))⊕(List Atom)) :=
 (if (decide (g1.1 < (v1.length:Int)))=true then
  gd (0≤g1.1∧g1.1 < (v1.length:Int)) <|
  (zi6 a0.entries (v1.getD g1.1.toNat ⟨#[]⟩)).bind fun v2 =>
  (if (!decide (v2={ Amount.zero with  }))=true then
   gd (0≤g1.1∧g1.1 < (v1.length:Int)) <|
   gd (g1.2.length+1≤4294967296) <|
   some (.inl ((i64.wrap (g1.1+1)),(g1.2++[(⟨(v1.getD g1.1.toNat ⟨#[]⟩),v2⟩:Atom)])))
  else
   some (.inl ((i64.wrap (g1.1+1)),g1.2)))
 else
  some (.inr g1.2))
def zh7 (a0:Ledger):Option (List Atom) :=
 (zi3 a0.entries).bind fun v1 =>
 (zc0 (zab3 a0 v1) (0,[])).bind (fun z=>zaG2 z)
@[reducible,instance] def zdJ1 a0 {T1:Type} (v1:T1):=mkJ (zh7 a0,v1) 0 (@zaG2.eq_1) fun (j1:(List Atom))=>⟨[(3,.own 0 0 j1.length)],[(0,sx j1)],1⟩
@[reducible,instance] def zdJ2 (a0:Ledger) (v1:(List ByteArray)) {T:Type} (x:T):=mkL x (@zab3.eq_1 a0 v1) fun (g1:Int×(List Atom))=>⟨[(1,.ptr 0 0 0),(3,.own 1 0 g1.2.length),(4,.sl (v1.map eS)),(5,.int .i64 g1.1)],[(0,bx a0),(1,sx g1.2)],2⟩
instance zcF7 (a0:Ledger):OkP (zh7 a0) 150 [ga a0] (fun r=>la r):=ok1 (zh7.eq_1 a0) Tryz.f150 [(3,1)]
attribute [local irreducible] zh7
def ze9 (a0 a1:Request):Option Bool :=
 (zg4 a0.expr a1.expr).bind fun v1 =>
 some ((v1&&decide (a0.priority=a1.priority))&&decide (a0.limit=a1.limit))
instance zcn7 (a0 a1:Request):OkP (ze9 a0 a1) 152 [ga a0,ga a1] (fun r=>.bool r):=ok1 (ze9.eq_1 a0 a1) Tryz.f152 []
attribute [local irreducible] ze9
def zm8 (a0:Expr):Option Int :=
 (zn1 a0 1).bind fun v1 =>
 (if (decide (24 < v1.1))=true then
  some 0
 else
  some v1.1)
instance zbM2 (a0:Expr):OkP (zm8 a0) 134 [ga a0] (fun r=>.int .i64 r):=ok1 (zm8.eq_1 a0) Tryz.f134 []
attribute [local irreducible] zm8
def zk9 (a0:List Int) (a1:ByteArray):Option (List Int) :=
 (zf9 a0 (u64.wrap (a1.size:Int))).bind fun v1 =>
 gd (v1.length+a1.toList.length≤4294967296) <|
 some (v1++(a1.toList.map fun b=>(b.toNat:Int)))
attribute [local irreducible] zk9
def zav5 (j1:Unit):Option Bool :=
 some true
def zD5 (a0:ByteArray) (g1:Int):Option (Int⊕(Unit⊕Bool)) :=
 (if (decide (g1 < (a0.size:Int)))=true then
  gd (0≤g1∧g1 < (a0.size:Int)) <|
  (if ((!(decide (97≤((a0.toList.getD g1.toNat 0).toNat:Int))&&decide (((a0.toList.getD g1.toNat 0).toNat:Int)≤122)))&&(decide (g1=0)||(!(((decide (48≤((a0.toList.getD g1.toNat 0).toNat:Int))&&decide (((a0.toList.getD g1.toNat 0).toNat:Int)≤57))||decide (((a0.toList.getD g1.toNat 0).toNat:Int)=95))||decide (((a0.toList.getD g1.toNat 0).toNat:Int)=45)))))=true then
   some (.inr (.inr false))
  else
   some (.inl (i64.wrap (g1+1))))
 else
  some (.inr (.inl ())))
def zd7 (a0:ByteArray):Option Bool :=
 (if ((decide ((a0.size:Int) < 1)||decide (12 < (a0.size:Int)))||zN1 a0)=true then
  some false
 else
  (zc0 (zD5 a0) 0).bind (fun|.inl z=>zav5 z|.inr z=>some z))
@[reducible,instance] def zec3 a0:=mkJ (zd7 a0) 0 (@zav5.eq_1) fun (j1:Unit)=>⟨[],[],0⟩
@[reducible,instance] def zec4 (a0:ByteArray) {T:Type} (x:T):=mkL x (@zD5.eq_1 a0) fun (g1:Int)=>⟨[(0,.str a0),(20,.int .i64 (a0.size:Int)),(21,.int .i64 g1)],[],0⟩
instance zcn8 (a0:ByteArray):OkP (zd7 a0) 179 [.str a0] (fun r=>.bool r):=ok1 (zd7.eq_1 a0) Tryz.f179 []
attribute [local irreducible] zd7
def zd3 (a0 a1:Proc):Option Int :=
 (zg9 (⟨[a0.site,a0.inc,a0.num],rfl⟩:Arr Int 3) (⟨[a1.site,a1.inc,a1.num],rfl⟩:Arr Int 3)).bind fun v1 =>
 some v1
instance zaD7 (a0 a1:Proc):OkP (zd3 a0 a1) 68 [ga a0,ga a1] (fun r=>.int .i64 r):=ok1 (zd3.eq_1 a0 a1) Tryz.f68 []
attribute [local irreducible] zd3
def zi8 (a0:List Int) (a1:ByteArray):Option (List Int) :=
 (ze8 a0 (u64.wrap (a1.size:Int))).bind fun v1 =>
 gd (v1.length+a1.toList.length≤4294967296) <|
 some (v1++(a1.toList.map fun b=>(b.toNat:Int)))
instance zcL0 (a0:List Int) (a1:ByteArray):OkP (zi8 a0 a1) 76 [.sl (a0.map (eI .u8)),.str a1] (fun r=>.sl (r.map (eI .u8))):=ok1 (zi8.eq_1 a0 a1) Tryz.f76 [(9,1)]
attribute [local irreducible] zi8
def zD6 (a90:(Expr→Expr→Option Bool)) (a0 a1:Expr):Option Bool :=
 ((if (decide (a0.k=a1.k)&&decide (a0.atom=a1.atom))=true then za0 a90 a0.kids a1.kids else some false)).bind fun v1 =>
 some ((decide (a0.k=a1.k)&&decide (a0.atom=a1.atom))&&v1)
def zB7:Nat→(Expr→Expr→Option Bool)
 | 0=>fun _ _=>none
 | n+1=>zD6 (zB7 n)
def ze6 (a0 a1:Expr):Option Bool:=zB7 (_root_.SizeOf.sizeOf a0+1) a0 a1
theorem zaV6 (a90:(Expr→Expr→Option Bool)) (hrc:∀ (a0:Expr) (a1:Expr) (r:Bool),a90 a0 a1=some r→PFn C 83 [ga a0,ga a1] (.bool r)) (a0 a1:Expr) (r:Bool) (h:zD6 a90 a0 a1=some r):PFn C 83 [ga a0,ga a1] (.bool r):=by
 refine zag9 Tryz.f83 [] fun E hG hN hK=>?_
 have hm:Mk (zD6 a90 a0 a1):=trivial
 unfold zD6 at h
 refine za2 (za9 hG ?_)
 refine za2 (za9 hG ?_)
 obtain ⟨v1,hv1,h⟩:=zf1 h
 have hm:=mkP hm v1
 refine zbr4 [] [] hv1 (fun hc=>zN0 a90 hrc a0.kids a1.kids _ hc) rfl ?_
 exact gogo
theorem zav6:∀ (n:Nat) (a0:Expr) (a1:Expr) (r:Bool),zB7 n a0 a1=some r→PFn C 83 [ga a0,ga a1] (.bool r)
 | 0,_,_,_,h=>nomatch h
 | n+1,a0,a1,r,h=>zaV6 (zB7 n) (zav6 n) a0 a1 r h
instance zcj0 (a0 a1:Expr):OkP (ze6 a0 a1) 83 [ga a0,ga a1] (fun r=>.bool r):=⟨fun r h=>zav6 _ a0 a1 r h⟩
attribute [local irreducible] ze6
def zX6 :List Int:=[5,5,3,4,2,1,3,5]
def zq1 (a0:Int):Option Int :=
 (zn6 a0 (zX6.length:Int)).bind fun v1 =>
 gd (0≤v1∧v1 < (zX6.length:Int)) <|
 some (zX6.getD v1.toNat 0)
instance zdl0 (a0:Int):OkP (zq1 a0) 267 [.int .i64 a0] (fun r=>.int .i64 r):=⟨fun r h=>by
 refine zag9 Tryz.f267 [] fun E hG hN hK=>?_
 have hm:Mk (zq1 a0):=trivial
 unfold zq1 at h
 refine za2 (za9 hG ?_)
 refine za2 (za9 hG ?_)
 refine g_gh (.cast 3 (.full (zX6.map (eI .i64)))) ?_
 exact gogo⟩
attribute [local irreducible] zq1
def zr2 (a0:Amount):Bool :=
 ((zx6 a0.mode&&decide (a0.units=0))||((decide (a0.mode=0)&&decide (1≤a0.units))&&decide (a0.units≤8)))
instance zaZ4 (a0:Amount):OkT 172 [.agg (Amount.enc a0)] (.bool (zr2 a0)):=ok2 (fun r=>.bool r) (zr2.eq_1 a0) Tryz.f172 []
def zi2 (a0:Queue) (a1:Proc):Option Amount :=
 (zm5 a0.holds a1).bind fun v1 =>
 some v1
instance zaP5 (a0:Queue) (a1:Proc):OkP (zi2 a0 a1) 197 [ga a0,ga a1] (fun r=>ga r):=ok1 (zi2.eq_1 a0 a1) Tryz.f197 []
attribute [local irreducible] zi2
def zc8 (a0:Int) (a1:work):Option (Int×(List Queue)×(List Proce)×(List Event)) :=
 gd (0≤a0∧a0 < ((a1.c.procs.length:Nat):Int)) <|
 gd (0≤a0∧a0 < ((a1.c.procs.length:Nat):Int)) <|
 some (a1.c.now,a1.c.queues,a1.c.procs.set a0.toNat ({ (a1.c.procs.getD a0.toNat Proce.zero) with gen:=(zn8 ((a1.c.procs.getD a0.toNat Proce.zero).gen)) }),a1.ev)
instance zba8 (a0:Int) (a1:work):OkM (zc8 a0 a1) 209 [.ptr 0 0 0,.int .i64 a0] [(0,⟨false,4,work.enc work.zero,[[.int .i64 a1.c.now,la a1.c.queues,.own 1 0 a1.c.procs.length,.own 2 0 a1.ev.length]]⟩),(1,sx a1.c.procs),(2,sx a1.ev)] 3 (fun r=>.tup []) (fun r=>[(0,⟨false,4,work.enc work.zero,[[.int .i64 r.1,la r.2.1,.own 1 0 r.2.2.1.length,.own 2 0 r.2.2.2.length]]⟩),(1,sx r.2.2.1),(2,sx r.2.2.2)]) 3:=okm (zc8.eq_1 a0 a1) (fun r=>[]) Tryz.f209 []
attribute [local irreducible] zc8
def zo4 (a0 a1:Queue):Option Bool :=
 ((if (decide (a0.resource=a1.resource)&&decide (a0.gen=a1.gen))=true then ze1 a0.holds a1.holds else some false)).bind fun v1 =>
 ((if ((decide (a0.resource=a1.resource)&&decide (a0.gen=a1.gen))&&v1)=true then zd8 a0.converts a1.converts else some false)).bind fun v2 =>
 ((if (((decide (a0.resource=a1.resource)&&decide (a0.gen=a1.gen))&&v1)&&v2)=true then zd8 a0.waits a1.waits else some false)).bind fun v3 =>
 some ((((decide (a0.resource=a1.resource)&&decide (a0.gen=a1.gen))&&v1)&&v2)&&v3)
instance zdh0 (a0 a1:Queue):OkP (zo4 a0 a1) 52 [ga a0,ga a1] (fun r=>.bool r):=ok1 (zo4.eq_1 a0 a1) Tryz.f52 []
attribute [local irreducible] zo4
end
end Ab
end Go.Proofs.YtcggeefhhegeoaaGreatDoor
