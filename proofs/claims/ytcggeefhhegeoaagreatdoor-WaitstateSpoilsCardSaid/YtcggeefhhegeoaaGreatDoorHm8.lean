import Derived.Test.YtcggeefhhegeoaaGreatDoorHm2
import Derived.Test.YtcggeefhhegeoaaGreatDoorHm4
namespace Go.Proofs.YtcggeefhhegeoaaGreatDoor
namespace Ab
open IntKind (i64 u64 u8)
set_option linter.unusedSimpArgs false
set_option linter.unusedVariables false
set_option linter.defProp false
set_option maxRecDepth 100000
set_option maxHeartbeats 1000000
noncomputable section
attribute [local irreducible] zk1 za4 zd6 za7 zg5 zj4 zl7 zg2 zl8 zg1 zd7 zk9 ze5 zi3 ze3 zi6 za8 za0 ze9 zl0 zn1 zi9 zi2 zg9 zh2 zg6 zc8 zf0 zh3 zg3 zf1 zb0 zb1 zh4 zj0 zf2 zo5 f_ref08_holds zk2 zc6 zn7 zn8 zn3 ze6 zf6 zm4 zn9 zh5 zl1 zm7 zd5 zj5 ze7 zf7
def zb4 (a0:aH) (a1:aC):Bool :=
 (if (!(zh0 a0))=true then
  false
 else
  (if (decide (a0.kind=1))=true then
   (zx7 a1.mode&&decide (a1.aT=0))
  else
   ((decide (a1.mode=0)&&decide (1≤a1.aT))&&decide (a1.aT≤a0.aT))))
instance zde0 (a0:aH) (a1:aC):OkT 180 [.agg (aH.enc a0),.agg (aC.enc a1)] (.bool (zb4 a0 a1)):=ok2 (fun r=>.bool r) (zb4.eq_1 a0 a1) Tryz.f180 []
def zo8 (a0:aB) (a1:aJ):Option aC :=
 (zk1 a0.aS a1).bind fun v1 =>
 some v1
instance zdo0 (a0:aB) (a1:aJ):OkP (zo8 a0 a1) 225 [ga a0,ga a1] (fun r=>ga r):=ok1 (zo8.eq_1 a0 a1) Tryz.f225 []
attribute [local irreducible] zo8
def zo0 (a0 a1:Int):Option Bool :=
 gd ((zx7 a0&&zx7 a1)=true→0≤a1∧a1 < 6) <|
 some ((zx7 a0&&zx7 a1)&&Arr.get (zaM4 a0) a1.toNat false)
instance zde1 (a0 a1:Int):OkP (zo0 a0 a1) 264 [.int .i64 a0,.int .i64 a1] (fun r=>.bool r):=ok1 (zo0.eq_1 a0 a1) Tryz.f264 []
attribute [local irreducible] zo0
def zG9 (j2:(List aX)):Option (List aX) :=
 some j2
@[go_sem] def zdz4  (j2:(List aX)):St:=⟨[(6,.own 0 0 j2.length)],[(0,sx j2)],1⟩
def zp2 (a0:List (List aX)) (g1:Int×(List aX)):Option ((Int×(List aX))⊕(List aX)) :=
 (if (decide (g1.1 < (a0.length:Int)))=true then
  gd (0≤g1.1∧g1.1 < (a0.length:Int)) <|
  gd (g1.2.length+(a0.getD g1.1.toNat []).length≤4294967296) <|
  some (.inl ((i64.wrap (g1.1+1)),(g1.2++a0.getD g1.1.toNat [])))
 else
  some (.inr g1.2))
@[go_sem] def zdz5 (a0:List (List aX)) (g1:Int×(List aX)):St:=⟨[(6,.own 0 0 g1.2.length),(25,.sl (a0.map (eL aX.enc))),(26,.int .i64 (a0.length:Int)),(27,.int .i64 g1.1)],[(0,sx g1.2)],1⟩
def zA4 (a0:List (List aX)) (j1:Int):Option (List aX) :=
 (zb0 j1).bind fun v1 =>
 (zc0 (zp2 a0) (0,v1)).bind (fun z=>zG9 z)
@[go_sem] def zdz6 (a0:List (List aX)) (j1:Int):St:=⟨[(0,.sl (a0.map (eL aX.enc))),(3,.int .i64 j1)],[],0⟩
def zp3 (a0:List (List aX)) (g2:Int×Int):Option ((Int×Int)⊕Int) :=
 (if (decide (g2.2 < (a0.length:Int)))=true then
  gd (0≤g2.2∧g2.2 < (a0.length:Int)) <|
  (if (decide (i64.wrap (g2.1+((a0.getD g2.2.toNat []).length:Int)) < 0))=true then
   none
  else
   some (.inl ((i64.wrap (g2.1+((a0.getD g2.2.toNat []).length:Int))),i64.wrap (g2.2+1))))
 else
  some (.inr g2.1))
@[go_sem] def zdz7 (a0:List (List aX)) (g2:Int×Int):St:=⟨[(0,.sl (a0.map (eL aX.enc))),(3,.int .i64 g2.1),(9,.sl (a0.map (eL aX.enc))),(10,.int .i64 (a0.length:Int)),(11,.int .i64 g2.2)],[],0⟩
def zb3 (a0:List (List aX)):Option (List aX) :=
 (zc0 (zp3 a0) (0,0)).bind (fun z=>zA4 a0 z)
theorem zau9 (a0:List (List aX)) (r:(List aX)) (h:zb3 a0=some r):PFn C 132 [.sl (a0.map (eL aX.enc))] (la r):=by
 refine zak7 Tryz.f132 [] fun E hG hN hK=>?_
 unfold zb3 at h
 refine za2 (za5 hG ?_)
 refine za2 (za5 hG ?_)
 refine za2 (za2 (za5 hG ?_))
 refine zO2 (zdz6 a0) (fun v=>zA4 a0 v=some r) ?_ ?_
 · intro j1 h
   unfold zA4 at h
   refine g_st ?_
   refine za2 (za5 hG ?_)
   obtain ⟨v1,hv1,h⟩:=zc2 h
   refine zs1 [] [(0,0)] [0] (zas5 _ _ hv1) rfl rfl ?_
   refine za2 (za2 (za5 hG ?_))
   refine zO2 zdz4 (fun v=>zG9 v=some r) ?_ ?_
   · intro j2 h
     unfold zG9 at h
     refine g_st ?_
     refine za2 (za5 hG ?_)
     refine zx8 ?_
     exact zae1 h
   refine zam4 (zdz5 a0) hK [(0,0)] h (fun x_l1 h g1 y_l1 h_l1 hx_l1=>?_)
   unfold zp2 at h_l1
   refine g_st ?_
   refine za2 (za5 hG ?_)
   refine za2 ?_
   refine zp0 rfl hG h_l1 (fun _ h_l1=>?_) (fun _ h_l1=>?_)
   · refine zo3 ?_
     refine za2 (zK9 (za2 ?_))
     obtain ⟨hb2,h_l1⟩:=zg0 h_l1
     refine za5 hG ?_
     obtain ⟨hb1,h_l1⟩:=zg0 h_l1
     refine za5 hG ?_
     refine za5 hG ?_
     exact zX7 hK [(0,1)] h_l1
   refine zR8 ?_
   cases h_l1
   cases hx_l1 _ rfl
   exact zG8 hK [(0,0)] g1.2 (by exact h)
 refine zam4 (zdz7 a0) hK [] h (fun x_l2 h g2 y_l2 h_l2 hx_l2=>?_)
 unfold zp3 at h_l2
 refine g_st ?_
 refine za2 (za5 hG ?_)
 refine za2 ?_
 refine zp0 rfl hG h_l2 (fun _ h_l2=>?_) (fun _ h_l2=>?_)
 · refine zo3 ?_
   refine za2 (zK9 (za2 ?_))
   obtain ⟨hb3,h_l2⟩:=zg0 h_l2
   refine za5 hG ?_
   refine za2 (za5 hG ?_)
   refine za2 (za5 hG ?_)
   refine zp0 rfl hG h_l2 (fun _ h_l2=>?_) (fun _ h_l2=>?_)
   · exact zdy8 h_l2
   refine zo3 ?_
   refine za5 hG ?_
   exact zX7 hK [] h_l2
 refine zR8 ?_
 cases h_l2
 cases hx_l2 _ rfl
 exact zG8 hK [] g2.1 (by exact h)
instance zbp2 (a0:List (List aX)):OkP (zb3 a0) 132 [.sl (a0.map (eL aX.enc))] (fun r=>la r):=⟨zau9 a0⟩
attribute [local irreducible] zb3
def zay5 (j1:(List Int)):Option (List Int) :=
 some j1
def zF6 (a1:List Int) (g1:(List Int)×Int):Option (((List Int)×Int)⊕(List Int)) :=
 (if (decide (g1.2 < (a1.length:Int)))=true then
  gd (0≤g1.2∧g1.2 < (a1.length:Int)) <|
  (ze6 g1.1 (u64.wrap (a1.getD g1.2.toNat 0))).bind fun v1 =>
  some (.inl (v1,i64.wrap (g1.2+1)))
 else
  some (.inr g1.1))
def zc4 (a0 a1:List Int):Option (List Int) :=
 (zc0 (zF6 a1) (a0,0)).bind (fun z=>zay5 z)
@[reducible,instance] def zdQ9 a0 a1:=mkJ (zc4 a0 a1) 0 (@zay5.eq_1) fun (j1:(List Int))=>⟨[(0,.sl (j1.map (eI .u8)))],[],0⟩
@[reducible,instance] def zdR0 (a1:List Int) {T:Type} (x:T):=mkL x (@zF6.eq_1 a1) fun (g1:(List Int)×Int)=>⟨[(0,.sl (g1.1.map (eI .u8))),(7,.sl (a1.map (eI .i64))),(8,.int .i64 (a1.length:Int)),(9,.int .i64 g1.2)],[],0⟩
instance zct3 (a0 a1:List Int):OkP (zc4 a0 a1) 29 [.sl (a0.map (eI .u8)),.sl (a1.map (eI .i64))] (fun r=>.sl (r.map (eI .u8))):=ok1 (zc4.eq_1 a0 a1) Tryz.f29 []
attribute [local irreducible] zc4
def zF7 (a0:Int):Bool :=
 (((zR9 a0||(decide (48≤a0)&&decide (a0≤57)))||decide (a0=95))||decide (a0=45))
instance zdo1 (a0:Int):OkT 222 [.int .u8 a0] (.bool (zF7 a0)):=ok2 (fun r=>.bool r) (zF7.eq_1 a0) Tryz.f222 []
def zv1 (a0 a1:aJ):Int :=
 (if (!decide (zQ5 a0.site a1.site=0))=true then
  (zQ5 a0.site a1.site)
 else
  (if (!decide (zQ5 a0.inc a1.inc=0))=true then
   (zQ5 a0.inc a1.inc)
  else
   (zQ5 a0.num a1.num)))
instance zct4 (a0 a1:aJ):OkT 86 [.agg (aJ.enc a0),.agg (aJ.enc a1)] (.int .i64 (zv1 a0 a1)):=ok2 (fun r=>.int .i64 r) (zv1.eq_1 a0 a1) Tryz.f86 []
def zi1 (a0:aB) (a1:aJ):Option (aC×Bool) :=
 (zl0 a0.aI a1).bind fun v1 =>
 (if (decide (0≤v1))=true then
  gd (0≤v1∧v1 < (a0.aI.length:Int)) <|
  some ((a0.aI.getD v1.toNat aX.zero).aK,true)
 else
  (zl0 a0.aV a1).bind fun v2 =>
  (if (decide (0≤v2))=true then
   gd (0≤v2∧v2 < (a0.aV.length:Int)) <|
   some ((a0.aV.getD v2.toNat aX.zero).aK,true)
  else
   some ({ aC.zero with  },false)))
instance zbJ5 (a0:aB) (a1:aJ):OkP (zi1 a0 a1) 96 [ga a0,ga a1] (fun r=>.tup [ga r.1,.bool r.2]):=ok1 (zi1.eq_1 a0 a1) Tryz.f96 []
attribute [local irreducible] zi1
def zj7 (a0:List Int) (a1:Int):Option (List Int) :=
 (ze7 a0 (u64.wrap a1)).bind fun v1 =>
 some v1
instance zds7 (a0:List Int) (a1:Int):OkP (zj7 a0 a1) 53 [.sl (a0.map (eI .u8)),.int .i64 a1] (fun r=>.sl (r.map (eI .u8))):=ok1 (zj7.eq_1 a0 a1) Tryz.f53 []
attribute [local irreducible] zj7
def zp6 (a0:List Int):Option (ByteArray×Int×Int) :=
 (zk9 a0).bind fun v1 =>
 (if (!decide (v1.2.2=0))=true then
  some ((⟨#[]⟩:ByteArray),0,v1.2.2)
 else
  (if (decide (1024 < v1.1))=true then
   some ((⟨#[]⟩:ByteArray),0,3)
  else
   (if (decide (i64.wrap ((a0.length:Int) - v1.2.1) < i64.wrap v1.1))=true then
    some ((⟨#[]⟩:ByteArray),0,5)
   else
    gd (0≤v1.2.1∧v1.2.1≤i64.wrap (v1.2.1+i64.wrap v1.1)∧i64.wrap (v1.2.1+i64.wrap v1.1)≤(a0.length:Int)) <|
    some ((zam3 ((a0.take ((i64.wrap (v1.2.1+i64.wrap v1.1)).toNat)).drop v1.2.1.toNat)),i64.wrap (v1.2.1+i64.wrap v1.1),0))))
instance zdo2 (a0:List Int):OkP (zp6 a0) 138 [.sl (a0.map (eI .u8))] (fun r=>.tup [.str r.1,.int .i64 r.2.1,.int .i64 r.2.2]):=ok1 (zp6.eq_1 a0) Tryz.f138 []
attribute [local irreducible] zp6
def zb2 (a0:aJ):Bool :=
 ((zF3 a0.site 0 3&&zF3 a0.inc 1 99)&&zF3 a0.num 1 999)
instance zcC8 (a0:aJ):OkT 66 [.agg (aJ.enc a0)] (.bool (zb2 a0)):=ok2 (fun r=>.bool r) (zb2.eq_1 a0) Tryz.f66 []
def zh7 (a0 a1:Int):Option Bool :=
 gd ((zx7 a0&&zx7 a1)=true→0≤i64.wrap (a0 - 1)∧i64.wrap (a0 - 1) < 5) <|
 gd ((zx7 a0&&zx7 a1)=true→0≤i64.wrap (a1 - 1)∧i64.wrap (a1 - 1) < 5) <|
 some ((zx7 a0&&zx7 a1)&&Arr.get (Arr.get zck7 ((i64.wrap (a0 - 1)).toNat) (Arr.rep 5 false)) ((i64.wrap (a1 - 1)).toNat) false)
instance zbr9 (a0 a1:Int):OkP (zh7 a0 a1) 262 [.int .i64 a0,.int .i64 a1] (fun r=>.bool r):=ok1 (zh7.eq_1 a0 a1) Tryz.f262 []
attribute [local irreducible] zh7
def za6 (a0:List aM) (a1:aM):Option Bool :=
 (za7 a0 a1).bind fun v1 =>
 some (decide (0≤v1))
instance zar7 (a0:List aM) (a1:aM):OkP (za6 a0 a1) 131 [la a0,ga a1] (fun r=>.bool r):=ok1 (za6.eq_1 a0 a1) Tryz.f131 []
attribute [local irreducible] za6
def zA1 (j1:Unit):Option Bool :=
 some true
def zA2 (a0 a1:List aX) (g1:Int):Option (Int⊕(Unit⊕Bool)) :=
 (if (decide (g1 < (a0.length:Int)))=true then
  gd (0≤g1∧g1 < (a0.length:Int)) <|
  gd (0≤g1∧g1 < (a1.length:Int)) <|
  (if (!(zad2 (a0.getD g1.toNat aX.zero) (a1.getD g1.toNat aX.zero)))=true then
   some (.inr (.inr false))
  else
   some (.inl (i64.wrap (g1+1))))
 else
  some (.inr (.inl ())))
def za1 (a0 a1:List aX):Option Bool :=
 (if (!decide ((a0.length:Int)=(a1.length:Int)))=true then
  some false
 else
  (zc0 (zA2 a0 a1) 0).bind (fun|.inl z=>zA1 z|.inr z=>some z))
@[reducible,instance] def zdR1 a0 a1:=mkJ (za1 a0 a1) 0 (@zA1.eq_1) fun (j1:Unit)=>⟨[],[],0⟩
@[reducible,instance] def zdR2 (a0 a1:List aX) {T:Type} (x:T):=mkL x (@zA2.eq_1 a0 a1) fun (g1:Int)=>⟨[(1,la a1),(2,.clo 126 []),(15,la a0),(16,.int .i64 (a0.length:Int)),(17,.int .i64 g1)],[],0⟩
instance zP5 (a0 a1:List aX):OkM (za1 a0 a1) 125 [la a0,la a1,.clo 126 []] [] 0 (fun r=>.bool r) (fun r=>[]) 0:=okm (za1.eq_1 a0 a1) (fun r=>[.bool r]) Tryz.f125 []
attribute [local irreducible] za1
def zb8 (a0:Int) (a1:bP):Option (Int×bP) :=
 (if (decide ((a1.l.length:Int)≤a1.at_))=true then
  some (0,a1)
 else
  gd (0≤i64.wrap (({ a1 with at_:=(i64.wrap (a1.at_+1)) }).at_ - 1)∧i64.wrap (({ a1 with at_:=(i64.wrap (a1.at_+1)) }).at_ - 1) < ((({ a1 with at_:=(i64.wrap (a1.at_+1)) }).l).length:Int)) <|
  (zn7 ((({ a1 with at_:=(i64.wrap (a1.at_+1)) }).l).getD ((i64.wrap (({ a1 with at_:=(i64.wrap (a1.at_+1)) }).at_ - 1)).toNat) 0) a0).bind fun v1 =>
  some (v1,{ a1 with at_:=(i64.wrap (a1.at_+1)) }))
instance zv9 (a0:Int) (a1:bP):OkM (zb8 a0 a1) 26 [.ptr 0 0 0,.int .i64 a0] [(0,bx a1)] 1 (fun r=>.int .i64 r.1) (fun r=>[(0,bx r.2)]) 1:=okm (zb8.eq_1 a0 a1) (fun r=>[.int .i64 r.1]) Tryz.f26 []
attribute [local irreducible] zb8
def zaJ7 (j1:(List aM)):Option (List aM) :=
 some j1
def zae4 (a0:bA) (v1:(List ByteArray)) (g1:Int×(List aM)):Option ((Int×(List aM))⊕(List aM)) :=
 (if (decide (g1.1 < (v1.length:Int)))=true then
  gd (0≤g1.1∧g1.1 < (v1.length:Int)) <|
  (zj4 a0.aQ (v1.getD g1.1.toNat ⟨#[]⟩)).bind fun v2 =>
  (if (!decide (v2={ aC.zero with  }))=true then
   gd (0≤g1.1∧g1.1 < (v1.length:Int)) <|
   gd (g1.2.length+1≤4294967296) <|
   some (.inl ((i64.wrap (g1.1+1)),(g1.2++[(⟨(v1.getD g1.1.toNat ⟨#[]⟩),v2⟩:aM)])))
  else
   some (.inl ((i64.wrap (g1.1+1)),g1.2)))
 else
  some (.inr g1.2))
def zi0 (a0:bA):Option (List aM) :=
 (zi9 a0.aQ).bind fun v1 =>
 (zc0 (zae4 a0 v1) (0,[])).bind (fun z=>zaJ7 z)
@[reducible,instance] def zdR3 a0 {T1:Type} (v1:T1):=mkJ (zi0 a0,v1) 0 (@zaJ7.eq_1) fun (j1:(List aM))=>⟨[(3,.own 0 0 j1.length)],[(0,sx j1)],1⟩
@[reducible,instance] def zdR4 (a0:bA) (v1:(List ByteArray)) {T:Type} (x:T):=mkL x (@zae4.eq_1 a0 v1) fun (g1:Int×(List aM))=>⟨[(1,.ptr 0 0 0),(3,.own 1 0 g1.2.length),(4,.sl (v1.map eS)),(5,.int .i64 g1.1)],[(0,bx a0),(1,sx g1.2)],2⟩
instance zcL2 (a0:bA):OkP (zi0 a0) 150 [ga a0] (fun r=>la r):=ok1 (zi0.eq_1 a0) Tryz.f150 [(3,1)]
attribute [local irreducible] zi0
def zf8 (a0 a1:bO):Option Bool :=
 (zg2 a0.bS a1.bS).bind fun v1 =>
 some ((v1&&decide (a0.bH=a1.bH))&&decide (a0.limit=a1.limit))
instance zct5 (a0 a1:bO):OkP (zf8 a0 a1) 152 [ga a0,ga a1] (fun r=>.bool r):=ok1 (zf8.eq_1 a0 a1) Tryz.f152 []
attribute [local irreducible] zf8
def zo1 (a0:aN):Option Int :=
 (zo5 a0 1).bind fun v1 =>
 (if (decide (24 < v1.1))=true then
  some 0
 else
  some v1.1)
instance zbR2 (a0:aN):OkP (zo1 a0) 134 [ga a0] (fun r=>.int .i64 r):=ok1 (zo1.eq_1 a0) Tryz.f134 []
attribute [local irreducible] zo1
def zj8 (a0:List Int) (a1:ByteArray):Option (List Int) :=
 (zf7 a0 (u64.wrap (a1.size:Int))).bind fun v1 =>
 gd (v1.length+a1.toList.length≤4294967296) <|
 some (v1++(a1.toList.map fun b=>(b.toNat:Int)))
instance zcQ6 (a0:List Int) (a1:ByteArray):OkP (zj8 a0 a1) 54 [.sl (a0.map (eI .u8)),.str a1] (fun r=>.sl (r.map (eI .u8))):=ok1 (zj8.eq_1 a0 a1) Tryz.f54 [(9,1)]
attribute [local irreducible] zj8
def ze1 (a0 a1:Int) (a2:aO):Option (Int×aO) :=
 (if (!decide (a2.e=0))=true then
  some (0,a2)
 else
  gd (0≤a2.at_∧a2.at_≤(a2.b.length:Int)∧(a2.b.length:Int)≤(a2.b.length:Int)) <|
  (zk9 (a2.b.drop a2.at_.toNat)).bind fun v1 =>
  (if (!decide (v1.2.2=0))=true then
   some (0,{ a2 with e:=v1.2.2 })
  else
   (if (decide (u64.wrap a0 < v1.1))=true then
    some (0,{ { a2 with at_:=(i64.wrap (a2.at_+v1.2.1)) } with e:=a1 })
   else
    some ((i64.wrap v1.1),{ a2 with at_:=(i64.wrap (a2.at_+v1.2.1)) }))))
instance zck9 (a0 a1:Int) (a2:aO):OkM (ze1 a0 a1 a2) 100 [.ptr 0 0 0,.int .i64 a0,.int .i64 a1] [(0,bx a2)] 1 (fun r=>.int .i64 r.1) (fun r=>[(0,bx r.2)]) 1:=okm (ze1.eq_1 a0 a1 a2) (fun r=>[.int .i64 r.1]) Tryz.f100 []
attribute [local irreducible] ze1
def zay6 (j1:Unit):Option Bool :=
 some true
def zF8 (a0:ByteArray) (g1:Int):Option (Int⊕(Unit⊕Bool)) :=
 (if (decide (g1 < (a0.size:Int)))=true then
  gd (0≤g1∧g1 < (a0.size:Int)) <|
  (if ((!(decide (97≤((a0.toList.getD g1.toNat 0).toNat:Int))&&decide (((a0.toList.getD g1.toNat 0).toNat:Int)≤122)))&&(decide (g1=0)||(!(((decide (48≤((a0.toList.getD g1.toNat 0).toNat:Int))&&decide (((a0.toList.getD g1.toNat 0).toNat:Int)≤57))||decide (((a0.toList.getD g1.toNat 0).toNat:Int)=95))||decide (((a0.toList.getD g1.toNat 0).toNat:Int)=45)))))=true then
   some (.inr (.inr false))
  else
   some (.inl (i64.wrap (g1+1))))
 else
  some (.inr (.inl ())))
def ze4 (a0:ByteArray):Option Bool :=
 (if ((decide ((a0.size:Int) < 1)||decide (12 < (a0.size:Int)))||zP3 a0)=true then
  some false
 else
  (zc0 (zF8 a0) 0).bind (fun|.inl z=>zay6 z|.inr z=>some z))
@[reducible,instance] def zel9 a0:=mkJ (ze4 a0) 0 (@zay6.eq_1) fun (j1:Unit)=>⟨[],[],0⟩
@[reducible,instance] def zem0 (a0:ByteArray) {T:Type} (x:T):=mkL x (@zF8.eq_1 a0) fun (g1:Int)=>⟨[(0,.str a0),(20,.int .i64 (a0.size:Int)),(21,.int .i64 g1)],[],0⟩
instance zct6 (a0:ByteArray):OkP (ze4 a0) 179 [.str a0] (fun r=>.bool r):=ok1 (ze4.eq_1 a0) Tryz.f179 []
attribute [local irreducible] ze4
def zd8 (a0 a1:aJ):Option Int :=
 (zh3 (⟨[a0.site,a0.inc,a0.num],rfl⟩:Arr Int 3) (⟨[a1.site,a1.inc,a1.num],rfl⟩:Arr Int 3)).bind fun v1 =>
 some v1
instance zaH2 (a0 a1:aJ):OkP (zd8 a0 a1) 68 [ga a0,ga a1] (fun r=>.int .i64 r):=ok1 (zd8.eq_1 a0 a1) Tryz.f68 []
attribute [local irreducible] zd8
def zj9 (a0:List Int) (a1:ByteArray):Option (List Int) :=
 (zf6 a0 (u64.wrap (a1.size:Int))).bind fun v1 =>
 gd (v1.length+a1.toList.length≤4294967296) <|
 some (v1++(a1.toList.map fun b=>(b.toNat:Int)))
instance zcQ7 (a0:List Int) (a1:ByteArray):OkP (zj9 a0 a1) 76 [.sl (a0.map (eI .u8)),.str a1] (fun r=>.sl (r.map (eI .u8))):=ok1 (zj9.eq_1 a0 a1) Tryz.f76 [(9,1)]
attribute [local irreducible] zj9
def zF9 (a90:(aN→aN→Option Bool)) (a0 a1:aN):Option Bool :=
 ((if (decide (a0.k=a1.k)&&decide (a0.bF=a1.bF))=true then za0 a90 a0.bE a1.bE else some false)).bind fun v1 =>
 some ((decide (a0.k=a1.k)&&decide (a0.bF=a1.bF))&&v1)
def zD9:Nat→(aN→aN→Option Bool)
 | 0=>fun _ _=>none
 | n+1=>zF9 (zD9 n)
def zf9 (a0 a1:aN):Option Bool:=zD9 (_root_.SizeOf.sizeOf a0+1) a0 a1
theorem zaZ5 (a90:(aN→aN→Option Bool)) (hrc:∀ (a0:aN) (a1:aN) (r:Bool),a90 a0 a1=some r→PFn C 83 [ga a0,ga a1] (.bool r)) (a0 a1:aN) (r:Bool) (h:zF9 a90 a0 a1=some r):PFn C 83 [ga a0,ga a1] (.bool r):=by
 refine zak7 Tryz.f83 [] fun E hG hN hK=>?_
 have hm:Mk (zF9 a90 a0 a1):=trivial
 unfold zF9 at h
 refine za2 (za5 hG ?_)
 refine za2 (za5 hG ?_)
 obtain ⟨v1,hv1,h⟩:=zc2 h
 have hm:=mkP hm v1
 refine zbw0 [] [] hv1 (fun hc=>zP2 a90 hrc a0.bE a1.bE _ hc) rfl ?_
 exact gogo
theorem zay7:∀ (n:Nat) (a0:aN) (a1:aN) (r:Bool),zD9 n a0 a1=some r→PFn C 83 [ga a0,ga a1] (.bool r)
 | 0,_,_,_,h=>nomatch h
 | n+1,a0,a1,r,h=>zaZ5 (zD9 n) (zay7 n) a0 a1 r h
instance zco8 (a0 a1:aN):OkP (zf9 a0 a1) 83 [ga a0,ga a1] (fun r=>.bool r):=⟨fun r h=>zay7 _ a0 a1 r h⟩
attribute [local irreducible] zf9
def zaa1 :List Int:=[5,5,3,4,2,1,3,5]
def zr5 (a0:Int):Option Int :=
 (zn7 a0 (zaa1.length:Int)).bind fun v1 =>
 gd (0≤v1∧v1 < (zaa1.length:Int)) <|
 some (zaa1.getD v1.toNat 0)
instance zds8 (a0:Int):OkP (zr5 a0) 267 [.int .i64 a0] (fun r=>.int .i64 r):=⟨fun r h=>by
 refine zak7 Tryz.f267 [] fun E hG hN hK=>?_
 have hm:Mk (zr5 a0):=trivial
 unfold zr5 at h
 refine za2 (za5 hG ?_)
 refine za2 (za5 hG ?_)
 refine g_gh (.cast 3 (.full (zaa1.map (eI .i64)))) ?_
 exact gogo⟩
attribute [local irreducible] zr5
def zs7 (a0:aC):Bool :=
 ((zz5 a0.mode&&decide (a0.aT=0))||((decide (a0.mode=0)&&decide (1≤a0.aT))&&decide (a0.aT≤8)))
instance zbd4 (a0:aC):OkT 172 [.agg (aC.enc a0)] (.bool (zs7 a0)):=ok2 (fun r=>.bool r) (zs7.eq_1 a0) Tryz.f172 []
def zi7 (a0:aB) (a1:aJ):Option aC :=
 (zn9 a0.aS a1).bind fun v1 =>
 some v1
instance zaS9 (a0:aB) (a1:aJ):OkP (zi7 a0 a1) 197 [ga a0,ga a1] (fun r=>ga r):=ok1 (zi7.eq_1 a0 a1) Tryz.f197 []
attribute [local irreducible] zi7
def zd3 (a0:Int) (a1:aZ):Option (Int×(List aB)×(List aG)×(List bL)) :=
 gd (0≤a0∧a0 < ((a1.c.aD.length:Nat):Int)) <|
 gd (0≤a0∧a0 < ((a1.c.aD.length:Nat):Int)) <|
 some (a1.c.now,a1.c.aF,a1.c.aD.set a0.toNat ({ (a1.c.aD.getD a0.toNat aG.zero) with gen:=(zo7 ((a1.c.aD.getD a0.toNat aG.zero).gen)) }),a1.ev)
instance zbe9 (a0:Int) (a1:aZ):OkM (zd3 a0 a1) 209 [.ptr 0 0 0,.int .i64 a0] [(0,⟨false,4,aZ.enc aZ.zero,[[.int .i64 a1.c.now,la a1.c.aF,.own 1 0 a1.c.aD.length,.own 2 0 a1.ev.length]]⟩),(1,sx a1.c.aD),(2,sx a1.ev)] 3 (fun r=>.tup []) (fun r=>[(0,⟨false,4,aZ.enc aZ.zero,[[.int .i64 r.1,la r.2.1,.own 1 0 r.2.2.1.length,.own 2 0 r.2.2.2.length]]⟩),(1,sx r.2.2.1),(2,sx r.2.2.2)]) 3:=okm (zd3.eq_1 a0 a1) (fun r=>[]) Tryz.f209 []
attribute [local irreducible] zd3
def zp7 (a0 a1:aB):Option Bool :=
 ((if (decide (a0.aA=a1.aA)&&decide (a0.gen=a1.gen))=true then zf0 a0.aS a1.aS else some false)).bind fun v1 =>
 ((if ((decide (a0.aA=a1.aA)&&decide (a0.gen=a1.gen))&&v1)=true then ze5 a0.aI a1.aI else some false)).bind fun v2 =>
 ((if (((decide (a0.aA=a1.aA)&&decide (a0.gen=a1.gen))&&v1)&&v2)=true then ze5 a0.aV a1.aV else some false)).bind fun v3 =>
 some ((((decide (a0.aA=a1.aA)&&decide (a0.gen=a1.gen))&&v1)&&v2)&&v3)
instance zdo3 (a0 a1:aB):OkP (zp7 a0 a1) 52 [ga a0,ga a1] (fun r=>.bool r):=ok1 (zp7.eq_1 a0 a1) Tryz.f52 []
attribute [local irreducible] zp7
def zi8 (a0 a1:bN):Option Bool :=
 ((if (decide (a0.aP=a1.aP)&&decide (a0.gen=a1.gen))=true then zg2 a0.bS a1.bS else some false)).bind fun v1 =>
 some ((decide (a0.aP=a1.aP)&&decide (a0.gen=a1.gen))&&v1)
instance zcL3 (a0 a1:bN):OkP (zi8 a0 a1) 63 [ga a0,ga a1] (fun r=>.bool r):=ok1 (zi8.eq_1 a0 a1) Tryz.f63 []
attribute [local irreducible] zi8
end
end Ab
end Go.Proofs.YtcggeefhhegeoaaGreatDoor
