import Derived.Test.YtcggeefhhegeoaaGreatDoorHm8
import Derived.Test.YtcggeefhhegeoaaGreatDoorHm11
namespace Go.Proofs.YtcggeefhhegeoaaGreatDoor
namespace Ab
open IntKind (i64 u64 u8)
set_option linter.unusedSimpArgs false
set_option linter.unusedVariables false
set_option linter.defProp false
set_option maxRecDepth 100000
set_option maxHeartbeats 1000000
noncomputable section
attribute [local irreducible] zk1 za4 zd6 za7 zg5 zj4 zl7 zg2 zl8 zg1 zd7 zk9 ze5 zi3 ze3 zi6 za8 za0 ze9 zl0 zn1 zi9 zi2 zg9 zh2 zg6 zc8 zf0 zh3 zg3 zf1 zb0 zb1 zh4 zj0 zf2 zo5 f_ref08_holds zk2 zc6 zn7 zn8 zn3 ze6 zf6 zm4 zn9 zh5 zl1 zm7 zd5 zj5 ze7 zf7 zo8 zo0 zb3 zc4 zi1 zj7 zp6 zq4 zl5 zb7 zn4 zd9 zj2 zp8 zh7 za6 za1 zb8 zi0 zf8 zo1 zj8 ze1 ze4 zd8 zj9 zf9 zr5 zi7 zd3 zp7 zi8
def zm8 (a0:aX):Bool :=
 (((((zb2 a0.aP&&(zb4 ({ aH.zero with kind:=1,aT:=1 }) a0.aK||zb4 ({ aH.zero with kind:=2,aT:=8 }) a0.aK))&&decide (0≤a0.bH))&&decide (a0.bH≤7))&&decide (0≤a0.bR))&&decide (a0.bR≤3))
instance zcL5 (a0:aX):OkT 265 [.agg (aX.enc a0)] (.bool (zm8 a0)):=ok2 (fun r=>.bool r) (zm8.eq_1 a0) Tryz.f265 []
def zc7 (a0:aU):Option (ByteArray×aU) :=
 (if (!decide (a0.bC.err=0))=true then
  some ((⟨#[]⟩:ByteArray),a0)
 else
  (zn4 a0.bC.rest).bind fun v1 =>
  (if (!decide (v1.2.2=0))=true then
   some ((⟨#[]⟩:ByteArray),{ a0 with bC:={ a0.bC with err:=v1.2.2 } })
  else
   gd (0≤v1.2.1∧v1.2.1≤(a0.bC.rest.length:Int)∧(a0.bC.rest.length:Int)≤(a0.bC.rest.length:Int)) <|
   some (v1.1,{ a0 with bC:={ a0.bC with rest:=(a0.bC.rest.drop v1.2.1.toNat) } })))
instance zal1 (a0:aU):OkM (zc7 a0) 78 [.ptr 0 0 0] [(0,bx a0)] 1 (fun r=>.str r.1) (fun r=>[(0,bx r.2)]) 1:=okm (zc7.eq_1 a0) (fun r=>[.str r.1]) Tryz.f78 []
attribute [local irreducible] zc7
def zaj5 (j1:Int×(Arr Int 3)):Option (aJ×Int×Int) :=
 (if (!(zb2 (⟨(Arr.get j1.2 0 0),Arr.get j1.2 1 0,Arr.get j1.2 2 0⟩:aJ)))=true then
  some ({ aJ.zero with  },0,2)
 else
  some ((⟨(Arr.get j1.2 0 0),Arr.get j1.2 1 0,Arr.get j1.2 2 0⟩:aJ),j1.1,0))
def zq0 (a0:List Int) (g1:Int×Int×(Arr Int 3)):Option ((Int×Int×(Arr Int 3))⊕((Int×(Arr Int 3))⊕(aJ×Int×Int))) :=
 (if (decide (g1.2.1 < 3))=true then
  gd (0≤g1.1∧g1.1≤(a0.length:Int)∧(a0.length:Int)≤(a0.length:Int)) <|
  (zi6 (a0.drop g1.1.toNat)).bind fun v1 =>
  (if (!decide (v1.2.2=0))=true then
   some (.inr (.inr ({ aJ.zero with  },0,v1.2.2)))
  else
   gd (0≤g1.2.1∧g1.2.1 < 3) <|
   some (.inl ((i64.wrap (g1.1+v1.2.1)),i64.wrap (g1.2.1+1),Arr.put g1.2.2 g1.2.1.toNat (i64.wrap (if 1073741824 < v1.1 then 1073741824 else v1.1)))))
 else
  some (.inr (.inl (g1.1,g1.2.2))))
def zo9 (a0:List Int):Option (aJ×Int×Int) :=
 (zc0 (zq0 a0) (0,0,Arr.rep 3 0)).bind (fun|.inl z=>zaj5 z|.inr z=>some z)
@[reducible,instance] def zdT2 a0:=mkJ (zo9 a0) 0 (@zaj5.eq_1) fun (j1:Int×(Arr Int 3))=>⟨[(2,.ptr 0 0 0),(5,.ptr 1 0 0),(6,.int .i64 j1.1)],[(0,bx aJ.zero),(1,⟨false,3,Arr.enc (eI .i64) (Arr.rep 3 0),[Arr.enc (eI .i64) j1.2]⟩)],2⟩
@[reducible,instance] def zdT3 (a0:List Int) {T:Type} (x:T):=mkL x (@zq0.eq_1 a0) fun (g1:Int×Int×(Arr Int 3))=>⟨[(0,.sl (a0.map (eI .u8))),(2,.ptr 0 0 0),(5,.ptr 1 0 0),(6,.int .i64 g1.1),(12,.int .i64 g1.2.1)],[(0,bx aJ.zero),(1,⟨false,3,Arr.enc (eI .i64) (Arr.rep 3 0),[Arr.enc (eI .i64) g1.2.2]⟩)],2⟩
instance zdo7 (a0:List Int):OkP (zo9 a0) 80 [.sl (a0.map (eI .u8))] (fun r=>.tup [ga r.1,.int .i64 r.2.1,.int .i64 r.2.2]):=ok1 (zo9.eq_1 a0) Tryz.f80 []
attribute [local irreducible] zo9
def zaH3 (j1:Unit):Option Bool :=
 some true
def zJ5 (a0:ByteArray) (g1:Int):Option (Int⊕(Unit⊕Bool)) :=
 (if (decide (g1 < (a0.size:Int)))=true then
  gd (0≤g1∧g1 < (a0.size:Int)) <|
  (if (!(zF7 ((a0.toList.getD g1.toNat 0).toNat:Int)))=true then
   some (.inr (.inr false))
  else
   some (.inl (i64.wrap (g1+1))))
 else
  some (.inr (.inl ())))
def zh8 (a0:ByteArray):Option Bool :=
 gd ((!(decide ((a0.size:Int) < 1)||decide (12 < (a0.size:Int))))=true→0≤0∧0 < (a0.size:Int)) <|
 (if (((decide ((a0.size:Int) < 1)||decide (12 < (a0.size:Int)))||(!(zR9 ((a0.toList.getD 0 0).toNat:Int))))||zJ3 a0)=true then
  some false
 else
  (zc0 (zJ5 a0) 0).bind (fun|.inl z=>zaH3 z|.inr z=>some z))
@[reducible,instance] def zdT4 a0:=mkJ (zh8 a0) 0 (@zaH3.eq_1) fun (j1:Unit)=>⟨[],[],0⟩
@[reducible,instance] def zdT5 (a0:ByteArray) {T:Type} (x:T):=mkL x (@zJ5.eq_1 a0) fun (g1:Int)=>⟨[(0,.str a0),(3,.int .i64 g1)],[],0⟩
instance zaM8 (a0:ByteArray):OkP (zh8 a0) 171 [.str a0] (fun r=>.bool r):=ok1 (zh8.eq_1 a0) Tryz.f171 []
attribute [local irreducible] zh8
def zB7 (a0:aX):Bool :=
 (((((zj6 a0.aP&&zs7 a0.aK)&&decide (0≤a0.bH))&&decide (a0.bH≤7))&&decide (0≤a0.bR))&&decide (a0.bR≤3))
instance zcD1 (a0:aX):OkT 259 [.agg (aX.enc a0)] (.bool (zB7 a0)):=ok2 (fun r=>.bool r) (zB7.eq_1 a0) Tryz.f259 []
def zaH4 (j1:(List aJ)):Option (List aJ) :=
 some j1
def zam9 (g1:Int×(List aJ)) (j2:(List aJ)):Option ((Int×(List aJ))⊕(List aJ)) :=
 some (.inl ((i64.wrap (g1.1+1)),j2))
def zS1 (g2:Int×(List aJ)):Option ((Int×(List aJ))⊕(List aJ)) :=
 gd (decide (0 < g2.1)=true→0≤i64.wrap (g2.1 - 1)∧i64.wrap (g2.1 - 1) < ((g2.2.length:Nat):Int)) <|
 gd (decide (0 < g2.1)=true→0≤g2.1∧g2.1 < ((g2.2.length:Nat):Int)) <|
 (if (decide (0 < g2.1)&&decide (0 < zv1 (g2.2.getD ((i64.wrap (g2.1 - 1)).toNat) aJ.zero) (g2.2.getD g2.1.toNat aJ.zero)))=true then
  gd (0≤i64.wrap (g2.1 - 1)∧i64.wrap (g2.1 - 1) < ((g2.2.length:Nat):Int)) <|
  gd (0≤g2.1∧g2.1 < ((g2.2.length:Nat):Int)) <|
  gd (0≤i64.wrap (g2.1 - 1)∧i64.wrap (g2.1 - 1) < ((g2.2.length:Nat):Int)) <|
  gd (0≤g2.1∧g2.1 < ((g2.2.length:Nat):Int)) <|
  some (.inl ((i64.wrap (g2.1 - 1)),(g2.2.set ((i64.wrap (g2.1 - 1)).toNat) (g2.2.getD g2.1.toNat aJ.zero)).set g2.1.toNat (g2.2.getD ((i64.wrap (g2.1 - 1)).toNat) aJ.zero)))
 else
  some (.inr g2.2))
def zE9 (a0:List aJ) (g1:Int×(List aJ)):Option ((Int×(List aJ))⊕(List aJ)) :=
 (if (decide (g1.1 < (a0.length:Int)))=true then
  gd (0≤g1.1∧g1.1 < (a0.length:Int)) <|
  (zg5 g1.2 (a0.getD g1.1.toNat aJ.zero)).bind fun v1 =>
  (if v1=true then
   some (.inl ((i64.wrap (g1.1+1)),g1.2))
  else
   gd (0≤g1.1∧g1.1 < (a0.length:Int)) <|
   gd (g1.2.length+1≤4294967296) <|
   (zc0 zS1 (((g1.2.length:Nat):Int),(g1.2++[(a0.getD g1.1.toNat aJ.zero)]))).bind (fun z=>zam9 g1 z))
 else
  some (.inr g1.2))
def zh9 (a0:List aJ):Option (List aJ) :=
 (zc0 (zE9 a0) (0,[])).bind (fun z=>zaH4 z)
@[reducible,instance] def zdT6 a0:=mkJ (zh9 a0) 0 (@zaH4.eq_1) fun (j1:(List aJ))=>⟨[(3,.own 0 0 j1.length)],[(0,sx j1)],1⟩
@[reducible,instance] def zdT7 (a0:List aJ) (g1:Int×(List aJ)) {T1:Type} (v1:T1):=mkJ (zE9 a0 g1,v1) 2 (@zam9.eq_1 g1) fun (j2:(List aJ))=>⟨[(0,la a0),(3,.own 0 0 j2.length),(4,.int .i64 g1.1)],[(0,sx j2)],1⟩
@[reducible,instance] def zdT8 (a0:List aJ) (g1:Int×(List aJ)) {T1:Type} (v1:T1):=mkL (zE9 a0 g1,v1) (@zS1.eq_1) fun (g2:Int×(List aJ))=>⟨[(0,la a0),(3,.own 0 0 g2.2.length),(4,.int .i64 g1.1),(5,.int .i64 g2.1)],[(0,sx g2.2)],1⟩
@[reducible,instance] def zdT9 (a0:List aJ) {T:Type} (x:T):=mkL x (@zE9.eq_1 a0) fun (g1:Int×(List aJ))=>⟨[(0,la a0),(3,.own 0 0 g1.2.length),(4,.int .i64 g1.1)],[(0,sx g1.2)],1⟩
instance zcD2 (a0:List aJ):OkP (zh9 a0) 43 [la a0] (fun r=>la r):=ok1 (zh9.eq_1 a0) Tryz.f43 [(3,1)]
attribute [local irreducible] zh9
def zaz0 (j1:(List aJ)):Option (List aJ) :=
 some j1
def zaz1 (g1:Int×(List aJ)) (j2:(List aJ)):Option ((Int×(List aJ))⊕(List aJ)) :=
 some (.inl ((i64.wrap (g1.1+1)),j2))
def zaz2 (g2:Int×(List aJ)):Option ((Int×(List aJ))⊕(List aJ)) :=
 gd (decide (0 < g2.1)=true→0≤i64.wrap (g2.1 - 1)∧i64.wrap (g2.1 - 1) < ((g2.2.length:Nat):Int)) <|
 gd (decide (0 < g2.1)=true→0≤g2.1∧g2.1 < ((g2.2.length:Nat):Int)) <|
 (if (decide (0 < g2.1)&&decide (0 < zv1 (g2.2.getD ((i64.wrap (g2.1 - 1)).toNat) aJ.zero) (g2.2.getD g2.1.toNat aJ.zero)))=true then
  gd (0≤i64.wrap (g2.1 - 1)∧i64.wrap (g2.1 - 1) < ((g2.2.length:Nat):Int)) <|
  gd (0≤g2.1∧g2.1 < ((g2.2.length:Nat):Int)) <|
  gd (0≤i64.wrap (g2.1 - 1)∧i64.wrap (g2.1 - 1) < ((g2.2.length:Nat):Int)) <|
  gd (0≤g2.1∧g2.1 < ((g2.2.length:Nat):Int)) <|
  some (.inl ((i64.wrap (g2.1 - 1)),(g2.2.set ((i64.wrap (g2.1 - 1)).toNat) (g2.2.getD g2.1.toNat aJ.zero)).set g2.1.toNat (g2.2.getD ((i64.wrap (g2.1 - 1)).toNat) aJ.zero)))
 else
  some (.inr g2.2))
def zV4 (a0:List aJ) (g1:Int×(List aJ)):Option ((Int×(List aJ))⊕(List aJ)) :=
 (if (decide (g1.1 < (a0.length:Int)))=true then
  gd (0≤g1.1∧g1.1 < (a0.length:Int)) <|
  (zg5 g1.2 (a0.getD g1.1.toNat aJ.zero)).bind fun v1 =>
  (if v1=true then
   some (.inl ((i64.wrap (g1.1+1)),g1.2))
  else
   gd (0≤g1.1∧g1.1 < (a0.length:Int)) <|
   gd (g1.2.length+1≤4294967296) <|
   (zc0 zaz2 (((g1.2.length:Nat):Int),(g1.2++[(a0.getD g1.1.toNat aJ.zero)]))).bind (fun z=>zaz1 g1 z))
 else
  some (.inr g1.2))
def zi4 (a0:List aJ):Option (List aJ) :=
 (zc0 (zV4 a0) (0,[])).bind (fun z=>zaz0 z)
@[reducible,instance] def zdU0 a0:=mkJ (zi4 a0) 0 (@zaz0.eq_1) fun (j1:(List aJ))=>⟨[(3,.own 0 0 j1.length)],[(0,sx j1)],1⟩
@[reducible,instance] def zdU1 (a0:List aJ) (g1:Int×(List aJ)) {T1:Type} (v1:T1):=mkJ (zV4 a0 g1,v1) 2 (@zaz1.eq_1 g1) fun (j2:(List aJ))=>⟨[(0,la a0),(3,.own 0 0 j2.length),(4,.int .i64 g1.1)],[(0,sx j2)],1⟩
@[reducible,instance] def zdU2 (a0:List aJ) (g1:Int×(List aJ)) {T1:Type} (v1:T1):=mkL (zV4 a0 g1,v1) (@zaz2.eq_1) fun (g2:Int×(List aJ))=>⟨[(0,la a0),(3,.own 0 0 g2.2.length),(4,.int .i64 g1.1),(5,.int .i64 g2.1)],[(0,sx g2.2)],1⟩
@[reducible,instance] def zdU3 (a0:List aJ) {T:Type} (x:T):=mkL x (@zV4.eq_1 a0) fun (g1:Int×(List aJ))=>⟨[(0,la a0),(3,.own 0 0 g1.2.length),(4,.int .i64 g1.1)],[(0,sx g1.2)],1⟩
instance zcp0 (a0:List aJ):OkM (zi4 a0) 43 [la a0] [] 0 (fun r=>.own 0 0 r.length) (fun r=>[(0,sx r)]) 1:=okm (zi4.eq_1 a0) (fun r=>[.own 0 0 r.length]) Tryz.f43 [(2,1),(3,1)]
attribute [local irreducible] zi4
def zd4 (a0:Int) (a1:aO):Option (Int×aO) :=
 (ze1 a0 4 a1).bind fun v1 =>
 some (v1.1,v1.2)
instance zQ7 (a0:Int) (a1:aO):OkM (zd4 a0 a1) 58 [.ptr 0 0 0,.int .i64 a0] [(0,bx a1)] 1 (fun r=>.int .i64 r.1) (fun r=>[(0,bx r.2)]) 1:=okm (zd4.eq_1 a0 a1) (fun r=>[.int .i64 r.1]) Tryz.f58 []
attribute [local irreducible] zd4
def zc5 (a0:aO):Option (Int×aO) :=
 (ze1 1073741824 16 a0).bind fun v1 =>
 some (v1.1,v1.2)
instance zI0 (a0:aO):OkM (zc5 a0) 61 [.ptr 0 0 0] [(0,bx a0)] 1 (fun r=>.int .i64 r.1) (fun r=>[(0,bx r.2)]) 1:=okm (zc5.eq_1 a0) (fun r=>[.int .i64 r.1]) Tryz.f61 []
attribute [local irreducible] zc5
attribute [local irreducible] zq1 zb6 zk0 zg8 zj3 zg4 zo4 zm9 zf5 zf3 zk7 zb9 za9 zl2 zr6 zm0 ze8 zt1
def zai6 (j1:Bool):Option Bool :=
 some j1
@[go_sem] def zdF9  (j1:Bool):St:=⟨[(5,.bool j1)],[],0⟩
def zV5 (a1:List aC) (g1:Int×Int×(Arr Bool 6)) (j2:Unit):Option ((Int×Int×(Arr Bool 6))⊕Bool) :=
 gd (0≤(a1.getD g1.2.1.toNat aC.zero).mode∧(a1.getD g1.2.1.toNat aC.zero).mode < 6) <|
 some (.inl ((i64.wrap (g1.1+(a1.getD g1.2.1.toNat aC.zero).aT)),i64.wrap (g1.2.1+1),Arr.put g1.2.2 (((a1.getD g1.2.1.toNat aC.zero).mode).toNat) true))
@[go_sem] def zdG0 (a0:aH) (a1:List aC) (g1:Int×Int×(Arr Bool 6)) (j2:Unit):St:=⟨[(2,.ptr 0 0 0),(5,.bool true),(6,.ptr 1 0 0),(7,.int .i64 (i64.wrap (g1.1+(a1.getD g1.2.1.toNat aC.zero).aT))),(9,.ptr 2 0 0),(15,la a1),(16,.int .i64 (a1.length:Int)),(17,.int .i64 g1.2.1)],[(0,bx a0),(1,⟨false,6,Arr.enc eB (Arr.rep 6 false),[Arr.enc eB g1.2.2]⟩),(2,bx (a1.getD g1.2.1.toNat aC.zero))],3⟩
def zG0 (a1:List aC) (g1:Int×Int×(Arr Bool 6)) (g2:Int):Option (Int⊕(Unit⊕Bool)) :=
 (if (decide (g2 < 6))=true then
  gd (0≤g2∧g2 < 6) <|
  ((if (Arr.get g1.2.2 g2.toNat false)=true then zh7 g2 ((a1.getD g1.2.1.toNat aC.zero).mode) else some false)).bind fun v1 =>
  (if (Arr.get g1.2.2 g2.toNat false&&(!v1))=true then
   some (.inr (.inr false))
  else
   some (.inl (i64.wrap (g2+1))))
 else
  some (.inr (.inl ())))
@[go_sem] def zdG1 (a0:aH) (a1:List aC) (g1:Int×Int×(Arr Bool 6)) (g2:Int):St:=⟨[(2,.ptr 0 0 0),(5,.bool true),(6,.ptr 1 0 0),(7,.int .i64 (i64.wrap (g1.1+(a1.getD g1.2.1.toNat aC.zero).aT))),(9,.ptr 2 0 0),(15,la a1),(16,.int .i64 (a1.length:Int)),(17,.int .i64 g1.2.1),(41,.agg (Arr.enc eB g1.2.2)),(42,.int .i64 g2)],[(0,bx a0),(1,⟨false,6,Arr.enc eB (Arr.rep 6 false),[Arr.enc eB g1.2.2]⟩),(2,bx (a1.getD g1.2.1.toNat aC.zero))],3⟩
def zL3 (a0:aH) (a1:List aC) (g1:Int×Int×(Arr Bool 6)):Option ((Int×Int×(Arr Bool 6))⊕Bool) :=
 (if (decide (g1.2.1 < (a1.length:Int)))=true then
  gd (0≤g1.2.1∧g1.2.1 < (a1.length:Int)) <|
  (if ((!(zc9 a0 (a1.getD g1.2.1.toNat aC.zero)))||decide (a0.aT < i64.wrap (g1.1+(a1.getD g1.2.1.toNat aC.zero).aT)))=true then
   some (.inr false)
  else
   (if (decide ((a1.getD g1.2.1.toNat aC.zero).mode=0))=true then
    some (.inl ((i64.wrap (g1.1+(a1.getD g1.2.1.toNat aC.zero).aT)),i64.wrap (g1.2.1+1),g1.2.2))
   else
    (zc0 (zG0 a1 g1) 0).bind (fun|.inl z=>zV5 a1 g1 z|.inr z=>some (.inr z))))
 else
  some (.inr true))
@[go_sem] def zdG2 (a0:aH) (a1:List aC) (g1:Int×Int×(Arr Bool 6)):St:=⟨[(2,.ptr 0 0 0),(5,.bool true),(6,.ptr 1 0 0),(7,.int .i64 g1.1),(15,la a1),(16,.int .i64 (a1.length:Int)),(17,.int .i64 g1.2.1)],[(0,bx a0),(1,⟨false,6,Arr.enc eB (Arr.rep 6 false),[Arr.enc eB g1.2.2]⟩)],2⟩
def zk8 (a0:aH) (a1:List aC):Option Bool :=
 (if (!(zh0 a0))=true then
  some false
 else
  (zc0 (zL3 a0 a1) (0,0,Arr.rep 6 false)).bind (fun z=>zai6 z))
theorem zbh3 (a0:aH) (a1:List aC) (r:Bool) (h:zk8 a0 a1=some r):PFn C 224 [ga a0,la a1] (.bool r):=by
 refine zak7 Tryz.f224 [] fun E hG hN hK=>?_
 unfold zk8 at h
 refine za2 (za5 hG ?_)
 refine zda7 ?_
 refine za2 (za2 (za5 hG ?_))
 refine zw4 (fun hg=>(zbB0 a0).ok) ?_
 refine zp0 rfl hG h (fun _ h=>?_) (fun _ h=>?_)
 · refine za2 (za5 hG ?_)
   refine zx8 ?_
   exact zae1 h
 refine zo3 ?_
 refine za2 (za5 hG ?_)
 refine za2 (za5 hG ?_)
 refine za2 (za5 hG ?_)
 refine za2 ?_
 refine zdr9 ?_
 refine za2 (za2 (za5 hG ?_))
 refine zO2 zdF9 (fun v=>zai6 v=some r) ?_ ?_
 · intro j1 h
   unfold zai6 at h
   refine g_st ?_
   refine za2 (za5 hG ?_)
   refine zx8 ?_
   exact zae1 h
 refine zam4 (zdG2 a0 a1) hK [(0,0),(1,1)] h (fun x_l1 h g1 y_l1 h_l1 hx_l1=>?_)
 unfold zL3 at h_l1
 refine g_st ?_
 refine za2 (za5 hG ?_)
 refine za2 ?_
 refine zp0 rfl hG h_l1 (fun _ h_l1=>?_) (fun _ h_l1=>?_)
 · refine zo3 ?_
   refine za2 (zK9 (za2 ?_))
   obtain ⟨hb3,h_l1⟩:=zg0 h_l1
   refine za5 hG ?_
   refine za2 (za2 (za5 hG ?_))
   refine zw4 (fun hg=>(zbn7 a0 (a1.getD g1.2.1.toNat aC.zero)).ok) ?_
   refine zp0 rfl hG h_l1 (fun _ h_l1=>?_) (fun _ h_l1=>?_)
   · refine za2 (za5 hG ?_)
     refine zR8 ?_
     cases h_l1
     cases hx_l1 _ rfl
     exact zG8 hK [] false (by exact h)
   refine zo3 ?_
   refine za2 (za5 hG ?_)
   refine za2 (za2 (za5 hG ?_))
   refine zp0 rfl hG h_l1 (fun _ h_l1=>?_) (fun _ h_l1=>?_)
   · refine zR8 ?_
     refine za5 hG ?_
     exact zX7 hK [(0,0),(1,1)] h_l1
   refine zo3 ?_
   refine za2 (za2 (za5 hG ?_))
   refine zO2 (zdG0 a0 a1 g1) (fun v=>zV5 a1 g1 v=some y_l1) ?_ ?_
   · intro j2 h_l1
     unfold zV5 at h_l1
     refine g_st ?_
     obtain ⟨hb1,h_l1⟩:=zg0 h_l1
     refine za5 hG ?_
     refine za5 hG ?_
     exact zX7 hK [(0,0),(1,1)] h_l1
   refine zam4 (zdG1 a0 a1 g1) hK [(0,0),(1,1),(2,2)] h_l1 (fun x_l2 h_l1 g2 y_l2 h_l2 hx_l2=>?_)
   unfold zG0 at h_l2
   refine g_st ?_
   refine za2 (za5 hG ?_)
   refine za2 ?_
   refine zp0 rfl hG h_l2 (fun _ h_l2=>?_) (fun _ h_l2=>?_)
   · refine zo3 ?_
     refine za2 (zK9 (za2 ?_))
     obtain ⟨hb2,h_l2⟩:=zg0 h_l2
     refine za5 hG ?_
     refine za2 (za5 hG ?_)
     obtain ⟨v1,hv1,h_l2⟩:=zc2 h_l2
     refine zw4 (fun hg=>(zbr9 g2 ((a1.getD g1.2.1.toNat aC.zero).mode)).ok _ (zaU4 hg hv1)) ?_
     refine zp0 rfl hG h_l2 (fun _ h_l2=>?_) (fun _ h_l2=>?_)
     · refine za2 (za5 hG ?_)
       refine zR8 ?_
       obtain rfl:=dN h_l2
       have hx:=hx_l2 _ rfl
       subst hx
       try dsimp only at h_l1
       cases h_l1
       cases hx_l1 _ rfl
       exact zG8 hK [] false (by exact h)
     refine zo3 ?_
     refine za5 hG ?_
     exact zX7 hK [(0,0),(1,1),(2,2)] h_l2
   refine zR8 ?_
   obtain rfl:=dN h_l2
   have hx:=hx_l2 _ rfl
   subst hx
   try dsimp only at h_l1
   exact zG8 hK [(0,0),(1,1),(2,2)] () (by exact h_l1)
 refine zR8 ?_
 cases h_l1
 cases hx_l1 _ rfl
 exact zG8 hK [] true (by exact h)
instance zcp1 (a0:aH) (a1:List aC):OkP (zk8 a0 a1) 224 [ga a0,la a1] (fun r=>.bool r):=⟨zbh3 a0 a1⟩
attribute [local irreducible] zk8
def zq8 (a0:aH) (a1 a2:aC):Option Bool :=
 (if ((!(zc9 a0 a1))||(!(zc9 a0 a2)))=true then
  some false
 else
  (if (zm1 a1||zm1 a2)=true then
   some (zm1 a2)
  else
   (if (decide (a0.kind=1))=true then
    (zo0 a1.mode a2.mode).bind fun v1 =>
    some v1
   else
    some (decide (a2.aT≤a1.aT)))))
instance zcR1 (a0:aH) (a1 a2:aC):OkP (zq8 a0 a1 a2) 228 [ga a0,ga a1,ga a2] (fun r=>.bool r):=ok1 (zq8.eq_1 a0 a1 a2) Tryz.f228 []
attribute [local irreducible] zq8
def zaC1 (j1:(List aJ)):Option (List aJ) :=
 some j1
def zaf7 (v1:(List aX)) (g1:Int×(List aJ)):Option ((Int×(List aJ))⊕(List aJ)) :=
 (if (decide (g1.1 < (v1.length:Int)))=true then
  gd (0≤g1.1∧g1.1 < (v1.length:Int)) <|
  gd (g1.2.length+1≤4294967296) <|
  some (.inl ((i64.wrap (g1.1+1)),(g1.2++[(v1.getD g1.1.toNat aX.zero).aP])))
 else
  some (.inr g1.2))
def zt5 (a0:aB):Option (List aJ) :=
 (zq1 a0).bind fun v1 =>
 (zc0 (zaf7 v1) (0,[])).bind (fun z=>zaC1 z)
@[reducible,instance] def zdU4 a0 {T1:Type} (v1:T1):=mkJ (zt5 a0,v1) 0 (@zaC1.eq_1) fun (j1:(List aJ))=>⟨[(3,.own 0 0 j1.length)],[(0,sx j1)],1⟩
@[reducible,instance] def zdU5 (v1:(List aX)) {T:Type} (x:T):=mkL x (@zaf7.eq_1 v1) fun (g1:Int×(List aJ))=>⟨[(3,.own 0 0 g1.2.length),(7,la v1),(8,.int .i64 (v1.length:Int)),(9,.int .i64 g1.1)],[(0,sx g1.2)],1⟩
instance zde6 (a0:aB):OkP (zt5 a0) 146 [ga a0] (fun r=>la r):=ok1 (zt5.eq_1 a0) Tryz.f146 [(3,1)]
attribute [local irreducible] zt5
def zaR0 (j1:Unit):Option (aC×Bool) :=
 some ({ aC.zero with  },false)
def zaR1 (a1:aJ) (v1:(List aX)) (g1:Int):Option (Int⊕(Unit⊕(aC×Bool))) :=
 (if (decide (g1 < (v1.length:Int)))=true then
  gd (0≤g1∧g1 < (v1.length:Int)) <|
  (if (decide ((v1.getD g1.toNat aX.zero).aP=a1))=true then
   some (.inr (.inr ((v1.getD g1.toNat aX.zero).aK,true)))
  else
   some (.inl (i64.wrap (g1+1))))
 else
  some (.inr (.inl ())))
def zt9 (a0:aB) (a1:aJ):Option (aC×Bool) :=
 (zq1 a0).bind fun v1 =>
 (zc0 (zaR1 a1 v1) 0).bind (fun|.inl z=>zaR0 z|.inr z=>some z)
@[reducible,instance] def zdU6 a0 a1 {T1:Type} (v1:T1):=mkJ (zt9 a0 a1,v1) 0 (@zaR0.eq_1) fun (j1:Unit)=>⟨[(4,.ptr 0 0 0)],[(0,bx aC.zero)],1⟩
@[reducible,instance] def zdU7 (a1:aJ) (v1:(List aX)) {T:Type} (x:T):=mkL x (@zaR1.eq_1 a1 v1) fun (g1:Int)=>⟨[(3,.ptr 0 0 0),(4,.ptr 1 0 0),(9,la v1),(10,.int .i64 (v1.length:Int)),(11,.int .i64 g1)],[(0,bx a1),(1,bx aC.zero)],2⟩
instance zcX9 (a0:aB) (a1:aJ):OkP (zt9 a0 a1) 47 [ga a0,ga a1] (fun r=>.tup [ga r.1,.bool r.2]):=ok1 (zt9.eq_1 a0 a1) Tryz.f47 []
attribute [local irreducible] zt9
def zbd6 (j1:(List Int)):Option (List Int) :=
 some j1
def zaj6 (a90:(List Int→aN→Option (List Int))) (a1:aN) (g1:(List Int)×Int):Option (((List Int)×Int)⊕(List Int)) :=
 (if (decide (g1.2 < (a1.bE.length:Int)))=true then
  gd (0≤g1.2∧g1.2 < (a1.bE.length:Int)) <|
  (a90 g1.1 (a1.bE.getD g1.2.toNat aN.zero)).bind fun v5 =>
  some (.inl (v5,i64.wrap (g1.2+1)))
 else
  some (.inr g1.1))
def zaf8 (a90:(List Int→aN→Option (List Int))) (a0:List Int) (a1:aN):Option (List Int) :=
 (zj7 a0 a1.k).bind fun v1 =>
 (if (decide (a1.k=0))=true then
  (zj8 v1 a1.bF.name).bind fun v2 =>
  (zm9 v2 a1.bF.aK).bind fun v3 =>
  some v3
 else
  (zj7 v1 (a1.bE.length:Int)).bind fun v4 =>
  (zc0 (zaj6 a90 a1) (v4,0)).bind (fun z=>zbd6 z))
def zak1:Nat→(List Int→aN→Option (List Int))
 | 0=>fun _ _=>none
 | n+1=>zaf8 (zak1 n)
def zw6 (a0:List Int) (a1:aN):Option (List Int):=zak1 (_root_.SizeOf.sizeOf a1+1) a0 a1
@[reducible,instance] def zdU8 (a90:(List Int→aN→Option (List Int))) (a0:List Int) (a1:aN) {T1:Type} (v1:T1) {T2:Type} (v4:T2):=mkJ ((zaf8 a90 a0 a1,v1),v4) 0 (@zbd6.eq_1) fun (j1:(List Int))=>⟨[(0,.sl (j1.map (eI .u8)))],[],0⟩
@[reducible,instance] def zdU9 (a90:(List Int→aN→Option (List Int))) (a1:aN) {T:Type} (x:T):=mkL x (@zaj6.eq_1 a90 a1) fun (g1:(List Int)×Int)=>⟨[(0,.sl (g1.1.map (eI .u8))),(3,.ptr 0 0 0),(5,.int .i64 g1.2)],[(0,bx a1)],1⟩
abbrev zaK5 (g:(List Int→aN→Option (List Int))):Prop:=∀ (a0:List Int) (a1:aN),OkP (g a0 a1) 57 [.sl (a0.map (eI .u8)),.agg (aN.enc a1)] (fun r=>.sl (r.map (eI .u8)))
theorem zbR4 (a90:(List Int→aN→Option (List Int))) (hrc:zaK5 a90):zaK5 (zaf8 a90):=fun a0 a1=>ok1 (zaf8.eq_1 a90 a0 a1) Tryz.f57 []
theorem zbR5:∀ n,zaK5 (zak1 n):=zaM3 (fun _ _=>⟨fun _ h=>nomatch h⟩) fun n=>zbR4 _
instance zdo8:zaK5 zw6:=fun a0 a1=>zbR5 _ a0 a1
attribute [local irreducible] zw6
def zf4 (a0:aO):Option (aC×aO) :=
 (zc5 a0).bind fun v1 =>
 (zc5 v1.2).bind fun v2 =>
 some ((⟨v1.1,v2.1⟩:aC),v2.2)
instance zaP6 (a0:aO):OkM (zf4 a0) 102 [.ptr 0 0 0] [(0,bx a0)] 1 (fun r=>ga r.1) (fun r=>[(0,bx r.2)]) 1:=okm (zf4.eq_1 a0) (fun r=>[ga r.1]) Tryz.f102 []
attribute [local irreducible] zf4
def zap5 (a1:aJ) (a2:aC) (j1:Int×(List aY)):Option (List aY) :=
 (if (zm1 a2)=true then
  some j1.2
 else
  (if (decide (j1.1 < 0))=true then
   gd (j1.2.length+1≤4294967296) <|
   gd (0≤i64.wrap (((j1.2.length:Nat):Int)+1)∧i64.wrap (((j1.2.length:Nat):Int)+1)≤((j1.2.length+1:Nat):Int)∧((j1.2.length+1:Nat):Int)≤((j1.2.length+1:Nat):Int)) <|
   gd (0≤((j1.2.length:Nat):Int)∧((j1.2.length:Nat):Int)≤((j1.2.length+1:Nat):Int)∧((j1.2.length+1:Nat):Int)≤((j1.2.length+1:Nat):Int)) <|
   gd (0≤((j1.2.length:Nat):Int)∧((j1.2.length:Nat):Int) < ((j1.2.length+1:Nat):Int)) <|
   some (((j1.2++[{ aY.zero with  }]).take (i64.wrap (((j1.2.length:Nat):Int)+1)).toNat++(((j1.2++[{ aY.zero with  }]).drop (((j1.2.length:Nat):Int).toNat)).take (j1.2.length+1 - ((j1.2.length:Nat):Int).toNat)).take (j1.2.length+1 - (i64.wrap (((j1.2.length:Nat):Int)+1)).toNat)++(j1.2++[{ aY.zero with  }]).drop ((i64.wrap (((j1.2.length:Nat):Int)+1)).toNat+min (((j1.2++[{ aY.zero with  }]).drop (((j1.2.length:Nat):Int).toNat)).take (j1.2.length+1 - ((j1.2.length:Nat):Int).toNat)).length (j1.2.length+1 - (i64.wrap (((j1.2.length:Nat):Int)+1)).toNat))).set (((j1.2.length:Nat):Int).toNat) (⟨a1,a2⟩:aY))
  else
   gd (j1.2.length+1≤4294967296) <|
   gd (0≤i64.wrap (j1.1+1)∧i64.wrap (j1.1+1)≤((j1.2.length+1:Nat):Int)∧((j1.2.length+1:Nat):Int)≤((j1.2.length+1:Nat):Int)) <|
   gd (0≤j1.1∧j1.1≤((j1.2.length+1:Nat):Int)∧((j1.2.length+1:Nat):Int)≤((j1.2.length+1:Nat):Int)) <|
   gd (0≤j1.1∧j1.1 < ((j1.2.length+1:Nat):Int)) <|
   some (((j1.2++[{ aY.zero with  }]).take (i64.wrap (j1.1+1)).toNat++(((j1.2++[{ aY.zero with  }]).drop j1.1.toNat).take (j1.2.length+1 - j1.1.toNat)).take (j1.2.length+1 - (i64.wrap (j1.1+1)).toNat)++(j1.2++[{ aY.zero with  }]).drop ((i64.wrap (j1.1+1)).toNat+min (((j1.2++[{ aY.zero with  }]).drop j1.1.toNat).take (j1.2.length+1 - j1.1.toNat)).length (j1.2.length+1 - (i64.wrap (j1.1+1)).toNat))).set j1.1.toNat (⟨a1,a2⟩:aY))))
@[go_sem] def zdG3 (a1:aJ) (a2:aC) (j1:Int×(List aY)):St:=⟨[(4,.ptr 0 0 0),(5,.ptr 1 0 0),(7,.own 2 0 j1.2.length),(8,.int .i64 j1.1)],[(0,bx a1),(1,bx a2),(2,sx j1.2)],3⟩
def zW6 (a0:List aY) (a1:aJ) (g1:Int×Int×(List aY)):Option ((Int×Int×(List aY))⊕(Int×(List aY))) :=
 (if (decide (g1.2.1 < (a0.length:Int)))=true then
  gd (0≤g1.2.1∧g1.2.1 < (a0.length:Int)) <|
  (if (decide ((a0.getD g1.2.1.toNat aY.zero).aP=a1))=true then
   some (.inl (g1.1,i64.wrap (g1.2.1+1),g1.2.2))
  else
   ((if (decide (g1.1 < 0))=true then zd8 ((a0.getD g1.2.1.toNat aY.zero).aP) a1 else some 0)).bind fun v1 =>
   (if (decide (g1.1 < 0)&&decide (0 < v1))=true then
    gd (g1.2.2.length+1≤4294967296) <|
    some (.inl (((g1.2.2.length:Nat):Int),i64.wrap (g1.2.1+1),(g1.2.2++[(a0.getD g1.2.1.toNat aY.zero)])))
   else
    gd (g1.2.2.length+1≤4294967296) <|
    some (.inl (g1.1,i64.wrap (g1.2.1+1),(g1.2.2++[(a0.getD g1.2.1.toNat aY.zero)])))))
 else
  some (.inr (g1.1,g1.2.2)))
@[go_sem] def zdG4 (a0:List aY) (a1:aJ) (a2:aC) (g1:Int×Int×(List aY)):St:=⟨[(4,.ptr 0 0 0),(5,.ptr 1 0 0),(7,.own 2 0 g1.2.2.length),(8,.int .i64 g1.1),(15,la a0),(16,.int .i64 (a0.length:Int)),(17,.int .i64 g1.2.1)],[(0,bx a1),(1,bx a2),(2,sx g1.2.2)],3⟩
def zq9 (a0:List aY) (a1:aJ) (a2:aC):Option (List aY) :=
 gd (0≤0∧0≤i64.wrap ((a0.length:Int)+1)∧i64.wrap ((a0.length:Int)+1)≤4294967296) <|
 (zc0 (zW6 a0 a1) ((-1),0,List.replicate 0 aY.zero)).bind (fun z=>zap5 a1 a2 z)
theorem zbR6 (a0:List aY) (a1:aJ) (a2:aC) (r:(List aY)) (h:zq9 a0 a1 a2=some r):PFn C 178 [la a0,ga a1,ga a2] (la r):=by
 refine zak7 Tryz.f178 [] fun E hG hN hK=>?_
 unfold zq9 at h
 refine za2 (za5 hG ?_)
 refine za2 ?_
 obtain ⟨hb12,h⟩:=zg0 h
 refine za5 hG ?_
 refine za2 (za5 hG ?_)
 refine za2 (za2 (za5 hG ?_))
 refine zO2 (zdG3 a1 a2) (fun v=>zap5 a1 a2 v=some r) ?_ ?_
 · intro j1 h
   unfold zap5 at h
   refine g_st ?_
   refine za2 (za2 (za5 hG ?_))
   refine zw4 (fun hg=>(zbQ8 a2).ok) ?_
   refine zp0 rfl hG h (fun _ h=>?_) (fun _ h=>?_)
   · refine za2 (za5 hG ?_)
     refine zx8 ?_
     exact zae1 h
   refine zo3 ?_
   refine za2 (za2 (za5 hG ?_))
   refine zp0 rfl hG h (fun _ h=>?_) (fun _ h=>?_)
   · refine za5 hG ?_
     refine za2 ?_
     obtain ⟨hb4,h⟩:=zg0 h
     refine za5 hG ?_
     refine za2 ?_
     obtain ⟨hb2,h⟩:=zg0 h
     obtain ⟨hb3,h⟩:=zg0 h
     refine zaB7 zN6 hG ?_
     refine za2 ?_
     obtain ⟨hb1,h⟩:=zg0 h
     refine za5 hG ?_
     refine za2 (za5 hG ?_)
     refine zx8 ?_
     exact zae1 h
   refine zo3 ?_
   refine za2 ?_
   obtain ⟨hb8,h⟩:=zg0 h
   refine za5 hG ?_
   refine za2 ?_
   obtain ⟨hb6,h⟩:=zg0 h
   obtain ⟨hb7,h⟩:=zg0 h
   refine zaB7 zN6 hG ?_
   refine za2 ?_
   obtain ⟨hb5,h⟩:=zg0 h
   refine za5 hG ?_
   refine za2 (za5 hG ?_)
   refine zx8 ?_
   exact zae1 h
 refine zam4 (zdG4 a0 a1 a2) hK [(0,0),(1,1),(2,2)] h (fun x_l1 h g1 y_l1 h_l1 hx_l1=>?_)
 unfold zW6 at h_l1
 refine g_st ?_
 refine za2 (za5 hG ?_)
 refine za2 ?_
 refine zp0 rfl hG h_l1 (fun _ h_l1=>?_) (fun _ h_l1=>?_)
 · refine zo3 ?_
   refine za2 (zK9 (za2 ?_))
   obtain ⟨hb11,h_l1⟩:=zg0 h_l1
   refine za5 hG ?_
   refine za2 (za2 (za5 hG ?_))
   refine zp0 rfl hG h_l1 (fun _ h_l1=>?_) (fun _ h_l1=>?_)
   · refine zR8 ?_
     refine za5 hG ?_
     exact zX7 hK [(0,0),(1,1),(2,2)] h_l1
   refine zo3 ?_
   refine za2 (za2 (za5 hG ?_))
   obtain ⟨v1,hv1,h_l1⟩:=zc2 h_l1
   refine zw4 (fun hg=>(zaH2 ((a0.getD g1.2.1.toNat aY.zero).aP) a1).ok _ (zaU4 hg hv1)) ?_
   refine zp0 rfl hG h_l1 (fun _ h_l1=>?_) (fun _ h_l1=>?_)
   · refine za5 hG ?_
     obtain ⟨hb9,h_l1⟩:=zg0 h_l1
     refine za5 hG ?_
     refine za5 hG ?_
     exact zX7 hK [(0,0),(1,1),(2,4)] h_l1
   refine zo3 ?_
   obtain ⟨hb10,h_l1⟩:=zg0 h_l1
   refine za5 hG ?_
   refine za5 hG ?_
   exact zX7 hK [(0,0),(1,1),(2,4)] h_l1
 refine zR8 ?_
 cases h_l1
 cases hx_l1 _ rfl
 exact zG8 hK [(0,0),(1,1),(2,2)] (g1.1,g1.2.2) (by exact h)
instance zcY0 (a0:List aY) (a1:aJ) (a2:aC):OkP (zq9 a0 a1 a2) 178 [la a0,ga a1,ga a2] (fun r=>la r):=⟨zbR6 a0 a1 a2⟩
attribute [local irreducible] zq9
def zi5 (a0:aM):Option Bool :=
 (ze4 a0.name).bind fun v1 =>
 some (v1&&(zb4 ({ aH.zero with kind:=1,aT:=1 }) a0.aK||zb4 ({ aH.zero with kind:=2,aT:=8 }) a0.aK))
instance zbh4 (a0:aM):OkP (zi5 a0) 143 [ga a0] (fun r=>.bool r):=ok1 (zi5.eq_1 a0) Tryz.f143 []
attribute [local irreducible] zi5
def zg7 (a0 a1:aB):Option Bool :=
 ((if (decide (a0.aA=a1.aA))=true then zb1 a0.aS a1.aS else some false)).bind fun v1 =>
 ((if (decide (a0.aA=a1.aA)&&v1)=true then za8 a0.aI a1.aI else some false)).bind fun v2 =>
 ((if ((decide (a0.aA=a1.aA)&&v1)&&v2)=true then za1 a0.aV a1.aV else some false)).bind fun v3 =>
 some (((decide (a0.aA=a1.aA)&&v1)&&v2)&&v3)
instance zcf0 (a0 a1:aB):OkP (zg7 a0 a1) 81 [ga a0,ga a1] (fun r=>.bool r):=⟨fun r h=>by
 refine zak7 Tryz.f81 [] fun E hG hN hK=>?_
 have hm:Mk (zg7 a0 a1):=trivial
 unfold zg7 at h
 refine za2 (za5 hG ?_)
 refine za2 (za5 hG ?_)
 obtain ⟨v1,hv1,h⟩:=zc2 h
 have hm:=mkP hm v1
 refine zw4 (fun hg=>(zax1 a0.aS a1.aS).ok _ (zaU4 hg hv1)) ?_
 obtain ⟨v2,hv2,h⟩:=zc2 h
 have hm:=mkP hm v2
 refine zw4 (fun hg=>(zax0 a0.aI a1.aI).ok _ (zaU4 hg hv2)) ?_
 obtain ⟨v3,hv3,h⟩:=zc2 h
 have hm:=mkP hm v3
 refine zbw0 [] [] hv3 (fun hc=>(zP5 a0.aV a1.aV).ok _ hc) rfl ?_
 exact gogo⟩
attribute [local irreducible] zg7
def zr7 (a0:aH) (a1:Int):Option aC :=
 (if (decide (a0.kind=1))=true then
  (zr5 a1).bind fun v1 =>
  some ({ aC.zero with mode:=v1 })
 else
  (zn7 a1 a0.aT).bind fun v2 =>
  some ({ aC.zero with aT:=(i64.wrap (1+v2)) }))
instance zde7 (a0:aH) (a1:Int):OkP (zr7 a0 a1) 241 [ga a0,.int .i64 a1] (fun r=>ga r):=ok1 (zr7.eq_1 a0 a1) Tryz.f241 []
attribute [local irreducible] zr7
def zw1 (a0:aH) (a1:aC):Bool :=
 (zL1 a0&&(zn2 a1||zv4 a0 a1))
instance zcD3 (a0:aH) (a1:aC):OkT 239 [.agg (aH.enc a0),.agg (aC.enc a1)] (.bool (zw1 a0 a1)):=ok2 (fun r=>.bool r) (zw1.eq_1 a0 a1) Tryz.f239 []
def zaM9 (a1:aJ) (a2:aC) (j1:Bool×(List aY)):Option (List aY) :=
 (if (!j1.1)=true then
  gd (j1.2.length+1≤4294967296) <|
  some (j1.2++[(⟨a1,a2⟩:aY)])
 else
  some j1.2)
def zan0 (a0:List aY) (a1:aJ) (a2:aC) (g1:Bool×Int×(List aY)):Option ((Bool×Int×(List aY))⊕(Bool×(List aY))) :=
 (if (decide (g1.2.1 < (a0.length:Int)))=true then
  gd (0≤g1.2.1∧g1.2.1 < (a0.length:Int)) <|
  (if (decide ((a0.getD g1.2.1.toNat aY.zero).aP=a1))=true then
   some (.inl (g1.1,i64.wrap (g1.2.1+1),g1.2.2))
  else
   gd ((!g1.1)=true→0≤g1.2.1∧g1.2.1 < (a0.length:Int)) <|
   (if ((!g1.1)&&decide (0 < zv1 ((a0.getD g1.2.1.toNat aY.zero).aP) a1))=true then
    gd (g1.2.2.length+1≤4294967296) <|
    gd (0≤g1.2.1∧g1.2.1 < (a0.length:Int)) <|
    gd (g1.2.2.length+1+1≤4294967296) <|
    some (.inl (true,i64.wrap (g1.2.1+1),((g1.2.2++[(⟨a1,a2⟩:aY)])++[(a0.getD g1.2.1.toNat aY.zero)])))
   else
    gd (0≤g1.2.1∧g1.2.1 < (a0.length:Int)) <|
    gd (g1.2.2.length+1≤4294967296) <|
    some (.inl (g1.1,i64.wrap (g1.2.1+1),(g1.2.2++[(a0.getD g1.2.1.toNat aY.zero)])))))
 else
  some (.inr (g1.1,g1.2.2)))
def zt0 (a0:List aY) (a1:aJ) (a2:aC):Option (List aY) :=
 (zc0 (zan0 a0 a1 a2) ((zn2 a2),0,[])).bind (fun z=>zaM9 a1 a2 z)
@[reducible,instance] def zdV0 a0 (a1:aJ) (a2:aC):=mkJ (zt0 a0 a1 a2) 0 (@zaM9.eq_1 a1 a2) fun (j1:Bool×(List aY))=>⟨[(4,.ptr 0 0 0),(5,.ptr 1 0 0),(7,.own 2 0 j1.2.length),(8,.bool j1.1)],[(0,bx a1),(1,bx a2),(2,sx j1.2)],3⟩
@[reducible,instance] def zdV1 (a0:List aY) (a1:aJ) (a2:aC) {T:Type} (x:T):=mkL x (@zan0.eq_1 a0 a1 a2) fun (g1:Bool×Int×(List aY))=>⟨[(0,la a0),(4,.ptr 0 0 0),(5,.ptr 1 0 0),(7,.own 2 0 g1.2.2.length),(8,.bool g1.1),(9,.int .i64 g1.2.1)],[(0,bx a1),(1,bx a2),(2,sx g1.2.2)],3⟩
instance zdt1 (a0:List aY) (a1:aJ) (a2:aC):OkP (zt0 a0 a1 a2) 260 [la a0,ga a1,ga a2] (fun r=>la r):=ok1 (zt0.eq_1 a0 a1 a2) Tryz.f260 [(7,1)]
attribute [local irreducible] zt0
def zQ8 (a0 a1:aC):Bool :=
 (if ((!(zs7 a1))||decide (a0=a1))=true then
  false
 else
  (if (decide (a0={ aC.zero with  }))=true then
   true
  else
   (if (!(zs7 a0))=true then
    false
   else
    (if (!decide (a0.mode=0))=true then
     (zS0 a1.mode a0.mode)
    else
     (decide (a0.aT < a1.aT))))))
instance zde8 (a0 a1:aC):OkT 192 [.agg (aC.enc a0),.agg (aC.enc a1)] (.bool (zQ8 a0 a1)):=ok2 (fun r=>.bool r) (zQ8.eq_1 a0 a1) Tryz.f192 []
def zbh5 (j1:Unit):Option Int :=
 some 0
def zaz3 (a0 a1 g1:Int):Option (Int⊕(Unit⊕Int)) :=
 (if (decide (g1≤5))=true then
  (if (zS0 g1 a0&&zS0 g1 a1)=true then
   some (.inr (.inr g1))
  else
   some (.inl (i64.wrap (g1+1))))
 else
  some (.inr (.inl ())))
def zu8 (a0 a1:Int):Option Int :=
 (zc0 (zaz3 a0 a1) 1).bind (fun|.inl z=>zbh5 z|.inr z=>some z)
@[reducible,instance] def zdV2 a0 a1:=mkJ (zu8 a0 a1) 0 (@zbh5.eq_1) fun (j1:Unit)=>⟨[],[],0⟩
@[reducible,instance] def zdV3 (a0 a1:Int) {T:Type} (x:T):=mkL x (@zaz3.eq_1 a0 a1) fun (g1:Int)=>⟨[(0,.int .i64 a0),(1,.int .i64 a1),(5,.int .i64 g1)],[],0⟩
instance zdt2 (a0 a1:Int):OkP (zu8 a0 a1) 240 [.int .i64 a0,.int .i64 a1] (fun r=>.int .i64 r):=ok1 (zu8.eq_1 a0 a1) Tryz.f240 []
attribute [local irreducible] zu8
def zaz4 (a2:aZ) (j1:(List aG)):Option (Int×aZ) :=
 some (0,(⟨(⟨a2.c.now,a2.c.aF,j1⟩:bD),a2.ev⟩:aZ))
def zV6 (g1:Int×(List aG)):Option ((Int×(List aG))⊕(List aG)) :=
 gd (decide (0 < g1.1)=true→0≤i64.wrap (g1.1 - 1)∧i64.wrap (g1.1 - 1) < ((g1.2.length:Nat):Int)) <|
 gd (decide (0 < g1.1)=true→0≤g1.1∧g1.1 < ((g1.2.length:Nat):Int)) <|
 (if (decide (0 < g1.1)&&decide (0 < zv1 ((g1.2.getD ((i64.wrap (g1.1 - 1)).toNat) aG.zero).aP) ((g1.2.getD g1.1.toNat aG.zero).aP)))=true then
  gd (0≤g1.1∧g1.1 < ((g1.2.length:Nat):Int)) <|
  gd (0≤i64.wrap (g1.1 - 1)∧i64.wrap (g1.1 - 1) < ((g1.2.length:Nat):Int)) <|
  gd (0≤g1.1∧g1.1 < ((g1.2.length:Nat):Int)) <|
  gd (0≤i64.wrap (g1.1 - 1)∧i64.wrap (g1.1 - 1) < ((g1.2.length:Nat):Int)) <|
  some (.inl ((i64.wrap (g1.1 - 1)),(g1.2.set g1.1.toNat (g1.2.getD ((i64.wrap (g1.1 - 1)).toNat) aG.zero)).set ((i64.wrap (g1.1 - 1)).toNat) (g1.2.getD g1.1.toNat aG.zero)))
 else
  some (.inr g1.2))
def zh1 (a0:aJ) (a1:Int) (a2:aZ):Option (Int×aZ) :=
 (if (((!(zj6 a0))||decide (a1 < 1))||decide (1000 < a1))=true then
  some (1,a2)
 else
  (zj0 a2.c.aD a0).bind fun v1 =>
  (if (decide (0≤v1))=true then
   some (11,a2)
  else
   (if (decide (((a2.c.aD.length:Nat):Int)=8))=true then
    some (4,a2)
   else
    gd (a2.c.aD.length+1≤4294967296) <|
    (zc0 zV6 ((i64.wrap (((a2.c.aD.length+1:Nat):Int) - 1)),(a2.c.aD++[{ aG.zero with aP:=a0,cost:=a1 }]))).bind (fun z=>zaz4 a2 z))))
@[reducible,instance] def zdV4 a0 a1 (a2:aZ) {T1:Type} (v1:T1):=mkJ (zh1 a0 a1 a2,v1) 0 (@zaz4.eq_1 a2) fun (j1:(List aG))=>⟨[(0,.ptr 0 0 0),(7,.own 3 0 j1.length)],[(0,⟨false,4,aZ.enc aZ.zero,[[.int .i64 a2.c.now,la a2.c.aF,.own 1 0 a2.c.aD.length,.own 4 0 a2.ev.length]]⟩),(3,sx j1),(4,sx a2.ev)],5⟩
@[reducible,instance] def zdV5 a0 a1 (a2:aZ) {T1:Type} (v1:T1):=mkL (zh1 a0 a1 a2,v1) (@zV6.eq_1) fun (g1:Int×(List aG))=>⟨[(0,.ptr 0 0 0),(7,.own 3 0 g1.2.length),(8,.int .i64 g1.1)],[(0,⟨false,4,aZ.enc aZ.zero,[[.int .i64 a2.c.now,la a2.c.aF,.own 1 0 a2.c.aD.length,.own 4 0 a2.ev.length]]⟩),(3,sx g1.2),(4,sx a2.ev)],5⟩
instance zcp2 (a0:aJ) (a1:Int) (a2:aZ):OkM (zh1 a0 a1 a2) 205 [.ptr 0 0 0,ga a0,.int .i64 a1] [(0,⟨false,4,aZ.enc aZ.zero,[[.int .i64 a2.c.now,la a2.c.aF,.own 1 0 a2.c.aD.length,.own 2 0 a2.ev.length]]⟩),(1,sx a2.c.aD),(2,sx a2.ev)] 3 (fun r=>.int .i64 r.1) (fun r=>[(0,⟨false,4,aZ.enc aZ.zero,[[.int .i64 r.2.c.now,la r.2.c.aF,.own 3 0 r.2.c.aD.length,.own 4 0 r.2.ev.length]]⟩),(3,sx r.2.c.aD),(4,sx r.2.ev)]) 5:=okm (zh1.eq_1 a0 a1 a2) (fun r=>[.int .i64 r.1]) Tryz.f205 []
attribute [local irreducible] zh1
def zu4 (a0:aB) (a1:aJ):Option Bool :=
 (zi1 a0 a1).bind fun v1 =>
 ((if (!v1.2)=true then zi7 a0 a1 else some aC.zero)).bind fun v2 =>
 some (v1.2||(!(zn2 v2)))
instance zdt3 (a0:aB) (a1:aJ):OkP (zu4 a0 a1) 273 [ga a0,ga a1] (fun r=>.bool r):=ok1 (zu4.eq_1 a0 a1) Tryz.f273 []
attribute [local irreducible] zu4
end
end Ab
end Go.Proofs.YtcggeefhhegeoaaGreatDoor
