import Derived.Test.YtcggeefhhegeoaaGreatDoorHm8
import Derived.Test.YtcggeefhhegeoaaGreatDoorHm11
namespace Go.Proofs.YtcggeefhhegeoaaGreatDoor
namespace Ab
open IntKind (i64 u64 u8)
set_option linter.unusedSimpArgs false
set_option linter.unusedVariables false
set_option linter.defProp false
set_option maxRecDepth 100000
set_option maxHeartbeats 1000000
noncomputable section
attribute [local irreducible] zj2 za4 zd1 za7 zf7 zi6 zk5 zg4 zk6 zf3 zd2 zd8 zh9 zd6 zk1 za6 za0 ze0 zj7 zl9 zi3 zh5 zg2 zg8 zf8 zc5 ze1 ze2 zg9 zf5 ze3 zb0 za8 zh0 zi4 ze4 zn1 f_ref08_holds zj3 zc2 zn6 zm4 zm1 zd9 ze8 zk2 zm5 zh1 zj9 zl7 zd0 zi7 zf0 zf9 zl4 zn9 zm7 zb2 zc1 zh4 zq0 zp1 zk4 zb9 zo8 zd4 zm2 zh2 za5 za1 zb4 zh7 ze9 zm8 zk9 zd7 zd3 zi8 ze6 zq1 zi2 zc8 zo4
def zl8 (a0:Wait):Bool :=
 (((((zb6 a0.proc&&(zb3 ({ Resource.zero with kind:=1,units:=1 }) a0.amount||zb3 ({ Resource.zero with kind:=2,units:=8 }) a0.amount))&&decide (0≤a0.priority))&&decide (a0.priority≤7))&&decide (0≤a0.passed))&&decide (a0.passed≤3))
instance zcF9 (a0:Wait):OkT 265 [.agg (Wait.enc a0)] (.bool (zl8 a0)):=ok2 (fun r=>.bool r) (zl8.eq_1 a0) Tryz.f265 []
def zc9 (a0:decoder):Option (ByteArray×decoder) :=
 (if (!decide (a0.reader.err=0))=true then
  some ((⟨#[]⟩:ByteArray),a0)
 else
  (zo8 a0.reader.rest).bind fun v1 =>
  (if (!decide (v1.2.2=0))=true then
   some ((⟨#[]⟩:ByteArray),{ a0 with reader:={ a0.reader with err:=v1.2.2 } })
  else
   gd (0≤v1.2.1∧v1.2.1≤(a0.reader.rest.length:Int)∧(a0.reader.rest.length:Int)≤(a0.reader.rest.length:Int)) <|
   some (v1.1,{ a0 with reader:={ a0.reader with rest:=(a0.reader.rest.drop v1.2.1.toNat) } })))
instance zai4 (a0:decoder):OkM (zc9 a0) 78 [.ptr 0 0 0] [(0,bx a0)] 1 (fun r=>.str r.1) (fun r=>[(0,bx r.2)]) 1:=okm (zc9.eq_1 a0) (fun r=>[.str r.1]) Tryz.f78 []
attribute [local irreducible] zc9
def zaF2 (j1:Int×(Arr Int 3)):Option (Proc×Int×Int) :=
 (if (!(zb6 (⟨(Arr.get j1.2 0 0),Arr.get j1.2 1 0,Arr.get j1.2 2 0⟩:Proc)))=true then
  some ({ Proc.zero with  },0,2)
 else
  some ((⟨(Arr.get j1.2 0 0),Arr.get j1.2 1 0,Arr.get j1.2 2 0⟩:Proc),j1.1,0))
def zC9 (a0:List Int) (g1:Int×Int×(Arr Int 3)):Option ((Int×Int×(Arr Int 3))⊕((Int×(Arr Int 3))⊕(Proc×Int×Int))) :=
 (if (decide (g1.2.1 < 3))=true then
  gd (0≤g1.1∧g1.1≤(a0.length:Int)∧(a0.length:Int)≤(a0.length:Int)) <|
  (zk1 (a0.drop g1.1.toNat)).bind fun v1 =>
  (if (!decide (v1.2.2=0))=true then
   some (.inr (.inr ({ Proc.zero with  },0,v1.2.2)))
  else
   gd (0≤g1.2.1∧g1.2.1 < 3) <|
   some (.inl ((i64.wrap (g1.1+v1.2.1)),i64.wrap (g1.2.1+1),Arr.put g1.2.2 g1.2.1.toNat (i64.wrap (if 1073741824 < v1.1 then 1073741824 else v1.1)))))
 else
  some (.inr (.inl (g1.1,g1.2.2))))
def zq8 (a0:List Int):Option (Proc×Int×Int) :=
 (zc0 (zC9 a0) (0,0,Arr.rep 3 0)).bind (fun|.inl z=>zaF2 z|.inr z=>some z)
@[reducible,instance] def zdK8 a0:=mkJ (zq8 a0) 0 (@zaF2.eq_1) fun (j1:Int×(Arr Int 3))=>⟨[(2,.ptr 0 0 0),(5,.ptr 1 0 0),(6,.int .i64 j1.1)],[(0,bx Proc.zero),(1,⟨false,3,Arr.enc (eI .i64) (Arr.rep 3 0),[Arr.enc (eI .i64) j1.2]⟩)],2⟩
@[reducible,instance] def zdK9 (a0:List Int) {T:Type} (x:T):=mkL x (@zC9.eq_1 a0) fun (g1:Int×Int×(Arr Int 3))=>⟨[(0,.sl (a0.map (eI .u8))),(2,.ptr 0 0 0),(5,.ptr 1 0 0),(6,.int .i64 g1.1),(12,.int .i64 g1.2.1)],[(0,bx Proc.zero),(1,⟨false,3,Arr.enc (eI .i64) (Arr.rep 3 0),[Arr.enc (eI .i64) g1.2.2]⟩)],2⟩
instance zdh3 (a0:List Int):OkP (zq8 a0) 80 [.sl (a0.map (eI .u8))] (fun r=>.tup [ga r.1,.int .i64 r.2.1,.int .i64 r.2.2]):=ok1 (zq8.eq_1 a0) Tryz.f80 []
attribute [local irreducible] zq8
def zaD8 (j1:Unit):Option Bool :=
 some true
def zH2 (a0:ByteArray) (g1:Int):Option (Int⊕(Unit⊕Bool)) :=
 (if (decide (g1 < (a0.size:Int)))=true then
  gd (0≤g1∧g1 < (a0.size:Int)) <|
  (if (!(zD4 ((a0.toList.getD g1.toNat 0).toNat:Int)))=true then
   some (.inr (.inr false))
  else
   some (.inl (i64.wrap (g1+1))))
 else
  some (.inr (.inl ())))
def zh3 (a0:ByteArray):Option Bool :=
 gd ((!(decide ((a0.size:Int) < 1)||decide (12 < (a0.size:Int))))=true→0≤0∧0 < (a0.size:Int)) <|
 (if (((decide ((a0.size:Int) < 1)||decide (12 < (a0.size:Int)))||(!(zP6 ((a0.toList.getD 0 0).toNat:Int))))||zH0 a0)=true then
  some false
 else
  (zc0 (zH2 a0) 0).bind (fun|.inl z=>zaD8 z|.inr z=>some z))
@[reducible,instance] def zdL0 a0:=mkJ (zh3 a0) 0 (@zaD8.eq_1) fun (j1:Unit)=>⟨[],[],0⟩
@[reducible,instance] def zdL1 (a0:ByteArray) {T:Type} (x:T):=mkL x (@zH2.eq_1 a0) fun (g1:Int)=>⟨[(0,.str a0),(3,.int .i64 g1)],[],0⟩
instance zaJ0 (a0:ByteArray):OkP (zh3 a0) 171 [.str a0] (fun r=>.bool r):=ok1 (zh3.eq_1 a0) Tryz.f171 []
attribute [local irreducible] zh3
def zz8 (a0:Wait):Bool :=
 (((((zm6 a0.proc&&zr2 a0.amount)&&decide (0≤a0.priority))&&decide (a0.priority≤7))&&decide (0≤a0.passed))&&decide (a0.passed≤3))
instance zcx6 (a0:Wait):OkT 259 [.agg (Wait.enc a0)] (.bool (zz8 a0)):=ok2 (fun r=>.bool r) (zz8.eq_1 a0) Tryz.f259 []
def zaD9 (j1:(List Proc)):Option (List Proc) :=
 some j1
def zaj7 (g1:Int×(List Proc)) (j2:(List Proc)):Option ((Int×(List Proc))⊕(List Proc)) :=
 some (.inl ((i64.wrap (g1.1+1)),j2))
def zP8 (g2:Int×(List Proc)):Option ((Int×(List Proc))⊕(List Proc)) :=
 gd (decide (0 < g2.1)=true→0≤i64.wrap (g2.1 - 1)∧i64.wrap (g2.1 - 1) < ((g2.2.length:Nat):Int)) <|
 gd (decide (0 < g2.1)=true→0≤g2.1∧g2.1 < ((g2.2.length:Nat):Int)) <|
 (if (decide (0 < g2.1)&&decide (0 < zt4 (g2.2.getD ((i64.wrap (g2.1 - 1)).toNat) Proc.zero) (g2.2.getD g2.1.toNat Proc.zero)))=true then
  gd (0≤i64.wrap (g2.1 - 1)∧i64.wrap (g2.1 - 1) < ((g2.2.length:Nat):Int)) <|
  gd (0≤g2.1∧g2.1 < ((g2.2.length:Nat):Int)) <|
  gd (0≤i64.wrap (g2.1 - 1)∧i64.wrap (g2.1 - 1) < ((g2.2.length:Nat):Int)) <|
  gd (0≤g2.1∧g2.1 < ((g2.2.length:Nat):Int)) <|
  some (.inl ((i64.wrap (g2.1 - 1)),(g2.2.set ((i64.wrap (g2.1 - 1)).toNat) (g2.2.getD g2.1.toNat Proc.zero)).set g2.1.toNat (g2.2.getD ((i64.wrap (g2.1 - 1)).toNat) Proc.zero)))
 else
  some (.inr g2.2))
def zC6 (a0:List Proc) (g1:Int×(List Proc)):Option ((Int×(List Proc))⊕(List Proc)) :=
 (if (decide (g1.1 < (a0.length:Int)))=true then
  gd (0≤g1.1∧g1.1 < (a0.length:Int)) <|
  (zf7 g1.2 (a0.getD g1.1.toNat Proc.zero)).bind fun v1 =>
  (if v1=true then
   some (.inl ((i64.wrap (g1.1+1)),g1.2))
  else
   gd (0≤g1.1∧g1.1 < (a0.length:Int)) <|
   gd (g1.2.length+1≤4294967296) <|
   (zc0 zP8 (((g1.2.length:Nat):Int),(g1.2++[(a0.getD g1.1.toNat Proc.zero)]))).bind (fun z=>zaj7 g1 z))
 else
  some (.inr g1.2))
def zh6 (a0:List Proc):Option (List Proc) :=
 (zc0 (zC6 a0) (0,[])).bind (fun z=>zaD9 z)
@[reducible,instance] def zdL2 a0:=mkJ (zh6 a0) 0 (@zaD9.eq_1) fun (j1:(List Proc))=>⟨[(3,.own 0 0 j1.length)],[(0,sx j1)],1⟩
@[reducible,instance] def zdL3 (a0:List Proc) (g1:Int×(List Proc)) {T1:Type} (v1:T1):=mkJ (zC6 a0 g1,v1) 2 (@zaj7.eq_1 g1) fun (j2:(List Proc))=>⟨[(0,la a0),(3,.own 0 0 j2.length),(4,.int .i64 g1.1)],[(0,sx j2)],1⟩
@[reducible,instance] def zdL4 (a0:List Proc) (g1:Int×(List Proc)) {T1:Type} (v1:T1):=mkL (zC6 a0 g1,v1) (@zP8.eq_1) fun (g2:Int×(List Proc))=>⟨[(0,la a0),(3,.own 0 0 g2.2.length),(4,.int .i64 g1.1),(5,.int .i64 g2.1)],[(0,sx g2.2)],1⟩
@[reducible,instance] def zdL5 (a0:List Proc) {T:Type} (x:T):=mkL x (@zC6.eq_1 a0) fun (g1:Int×(List Proc))=>⟨[(0,la a0),(3,.own 0 0 g1.2.length),(4,.int .i64 g1.1)],[(0,sx g1.2)],1⟩
instance zcx7 (a0:List Proc):OkP (zh6 a0) 43 [la a0] (fun r=>la r):=ok1 (zh6.eq_1 a0) Tryz.f43 [(3,1)]
attribute [local irreducible] zh6
def zav9 (j1:(List Proc)):Option (List Proc) :=
 some j1
def zaw0 (g1:Int×(List Proc)) (j2:(List Proc)):Option ((Int×(List Proc))⊕(List Proc)) :=
 some (.inl ((i64.wrap (g1.1+1)),j2))
def zaw1 (g2:Int×(List Proc)):Option ((Int×(List Proc))⊕(List Proc)) :=
 gd (decide (0 < g2.1)=true→0≤i64.wrap (g2.1 - 1)∧i64.wrap (g2.1 - 1) < ((g2.2.length:Nat):Int)) <|
 gd (decide (0 < g2.1)=true→0≤g2.1∧g2.1 < ((g2.2.length:Nat):Int)) <|
 (if (decide (0 < g2.1)&&decide (0 < zt4 (g2.2.getD ((i64.wrap (g2.1 - 1)).toNat) Proc.zero) (g2.2.getD g2.1.toNat Proc.zero)))=true then
  gd (0≤i64.wrap (g2.1 - 1)∧i64.wrap (g2.1 - 1) < ((g2.2.length:Nat):Int)) <|
  gd (0≤g2.1∧g2.1 < ((g2.2.length:Nat):Int)) <|
  gd (0≤i64.wrap (g2.1 - 1)∧i64.wrap (g2.1 - 1) < ((g2.2.length:Nat):Int)) <|
  gd (0≤g2.1∧g2.1 < ((g2.2.length:Nat):Int)) <|
  some (.inl ((i64.wrap (g2.1 - 1)),(g2.2.set ((i64.wrap (g2.1 - 1)).toNat) (g2.2.getD g2.1.toNat Proc.zero)).set g2.1.toNat (g2.2.getD ((i64.wrap (g2.1 - 1)).toNat) Proc.zero)))
 else
  some (.inr g2.2))
def zS8 (a0:List Proc) (g1:Int×(List Proc)):Option ((Int×(List Proc))⊕(List Proc)) :=
 (if (decide (g1.1 < (a0.length:Int)))=true then
  gd (0≤g1.1∧g1.1 < (a0.length:Int)) <|
  (zf7 g1.2 (a0.getD g1.1.toNat Proc.zero)).bind fun v1 =>
  (if v1=true then
   some (.inl ((i64.wrap (g1.1+1)),g1.2))
  else
   gd (0≤g1.1∧g1.1 < (a0.length:Int)) <|
   gd (g1.2.length+1≤4294967296) <|
   (zc0 zaw1 (((g1.2.length:Nat):Int),(g1.2++[(a0.getD g1.1.toNat Proc.zero)]))).bind (fun z=>zaw0 g1 z))
 else
  some (.inr g1.2))
def zi0 (a0:List Proc):Option (List Proc) :=
 (zc0 (zS8 a0) (0,[])).bind (fun z=>zav9 z)
@[reducible,instance] def zdL6 a0:=mkJ (zi0 a0) 0 (@zav9.eq_1) fun (j1:(List Proc))=>⟨[(3,.own 0 0 j1.length)],[(0,sx j1)],1⟩
@[reducible,instance] def zdL7 (a0:List Proc) (g1:Int×(List Proc)) {T1:Type} (v1:T1):=mkJ (zS8 a0 g1,v1) 2 (@zaw0.eq_1 g1) fun (j2:(List Proc))=>⟨[(0,la a0),(3,.own 0 0 j2.length),(4,.int .i64 g1.1)],[(0,sx j2)],1⟩
@[reducible,instance] def zdL8 (a0:List Proc) (g1:Int×(List Proc)) {T1:Type} (v1:T1):=mkL (zS8 a0 g1,v1) (@zaw1.eq_1) fun (g2:Int×(List Proc))=>⟨[(0,la a0),(3,.own 0 0 g2.2.length),(4,.int .i64 g1.1),(5,.int .i64 g2.1)],[(0,sx g2.2)],1⟩
@[reducible,instance] def zdL9 (a0:List Proc) {T:Type} (x:T):=mkL x (@zS8.eq_1 a0) fun (g1:Int×(List Proc))=>⟨[(0,la a0),(3,.own 0 0 g1.2.length),(4,.int .i64 g1.1)],[(0,sx g1.2)],1⟩
instance zcj2 (a0:List Proc):OkM (zi0 a0) 43 [la a0] [] 0 (fun r=>.own 0 0 r.length) (fun r=>[(0,sx r)]) 1:=okm (zi0.eq_1 a0) (fun r=>[.own 0 0 r.length]) Tryz.f43 [(2,1),(3,1)]
attribute [local irreducible] zi0
def zaJ1 (j2:WaitState):Option WaitState :=
 some j2
def zaf7 (a0:WaitState) (g1:Int×Tape×WaitState):Option ((Int×Tape×WaitState)⊕WaitState) :=
 (if (decide (g1.1 < (a0.needs.length:Int)))=true then
  (zb4 5 g1.2.1).bind fun v1 =>
  (if (!decide (v1.1=1))=true then
   gd (0≤g1.1∧g1.1 < (a0.needs.length:Int)) <|
   gd (g1.2.2.needs.length+1≤4294967296) <|
   some (.inl ((i64.wrap (g1.1+1)),v1.2,(⟨g1.2.2.queues,(g1.2.2.needs++[(a0.needs.getD g1.1.toNat Need.zero)])⟩:WaitState)))
  else
   some (.inl ((i64.wrap (g1.1+1)),v1.2,g1.2.2)))
 else
  some (.inr g1.2.2))
def zaf8 (a0:WaitState) (j1:Tape×WaitState):Option WaitState :=
 (zc0 (zaf7 a0) (0,j1.1,j1.2)).bind (fun z=>zaJ1 z)
def zaf9 (a0:WaitState) (g2:Int×Tape×WaitState):Option ((Int×Tape×WaitState)⊕(Tape×WaitState)) :=
 (if (decide (g2.1 < (a0.queues.length:Int)))=true then
  (zb4 5 g2.2.1).bind fun v2 =>
  (if (!decide (v2.1=1))=true then
   gd (0≤g2.1∧g2.1 < (a0.queues.length:Int)) <|
   gd (g2.2.2.queues.length+1≤4294967296) <|
   some (.inl ((i64.wrap (g2.1+1)),v2.2,(⟨(g2.2.2.queues++[(a0.queues.getD g2.1.toNat Queue.zero)]),g2.2.2.needs⟩:WaitState)))
  else
   some (.inl ((i64.wrap (g2.1+1)),v2.2,g2.2.2)))
 else
  some (.inr (g2.2.1,g2.2.2)))
def zl1 (a0:WaitState) (a1:List Int):Option WaitState :=
 (zc0 (zaf9 a0) (0,{ Tape.zero with l:=a1 },(⟨[],[]⟩:WaitState))).bind (fun z=>zaf8 a0 z)
@[reducible,instance] def zdM0 (a0:WaitState) (j1:Tape×WaitState):=mkJ (zaf8 a0 j1) 2 (@zaJ1.eq_1) fun (j2:WaitState)=>⟨[(4,.ptr 0 0 0),(6,.ptr 1 0 0)],[(0,bx WaitState.zero),(1,⟨false,2,WaitState.enc WaitState.zero,[[.own 2 0 j2.queues.length,.own 3 0 j2.needs.length]]⟩),(2,sx j2.queues),(3,sx j2.needs)],4⟩
@[reducible,instance] def zdM1 (a0:WaitState) {T:Type} (x:T):=mkL x (@zaf7.eq_1 a0) fun (g1:Int×Tape×WaitState)=>⟨[(2,.ptr 0 0 0),(4,.ptr 1 0 0),(5,.ptr 2 0 0),(6,.ptr 3 0 0),(8,.int .i64 g1.1)],[(0,bx a0),(1,bx WaitState.zero),(2,bx g1.2.1),(3,⟨false,2,WaitState.enc WaitState.zero,[[.own 4 0 g1.2.2.queues.length,.own 5 0 g1.2.2.needs.length]]⟩),(4,sx g1.2.2.queues),(5,sx g1.2.2.needs)],6⟩
@[reducible,instance] def zdM2 (a0:WaitState) (a1:List Int):=mkJ (zl1 a0 a1) 0 (@zaf8.eq_1 a0) fun (j1:Tape×WaitState)=>⟨[(2,.ptr 0 0 0),(4,.ptr 1 0 0),(5,.ptr 2 0 0),(6,.ptr 3 0 0)],[(0,bx a0),(1,bx WaitState.zero),(2,bx j1.1),(3,⟨false,2,WaitState.enc WaitState.zero,[[.own 4 0 j1.2.queues.length,.own 5 0 j1.2.needs.length]]⟩),(4,sx j1.2.queues),(5,sx j1.2.needs)],6⟩
@[reducible,instance] def zdM3 (a0:WaitState) {T:Type} (x:T):=mkL x (@zaf9.eq_1 a0) fun (g2:Int×Tape×WaitState)=>⟨[(2,.ptr 0 0 0),(4,.ptr 1 0 0),(5,.ptr 2 0 0),(6,.ptr 3 0 0),(7,.int .i64 g2.1)],[(0,bx a0),(1,bx WaitState.zero),(2,bx g2.2.1),(3,⟨false,2,WaitState.enc WaitState.zero,[[.own 4 0 g2.2.2.queues.length,.own 5 0 g2.2.2.needs.length]]⟩),(4,sx g2.2.2.queues),(5,sx g2.2.2.needs)],6⟩
instance zcL3 (a0:WaitState) (a1:List Int):OkP (zl1 a0 a1) 7 [ga a0,.sl (a1.map (eI .i64))] (fun r=>ga r):=⟨fun r h=>by
 refine zag9 Tryz.f7 [(6,5)] fun E hG hN hK=>?_
 have hm:Mk (zl1 a0 a1):=trivial
 unfold zl1 at h
 refine za2 (za9 hG ?_)
 refine za2 (za9 hG ?_)
 refine za2 (za9 hG ?_)
 refine g_gh (.ownb 3 0 8 (Queue.enc Queue.zero)) ?_
 refine g_gh (.ownb 3 1 9 (Need.enc Need.zero)) ?_
 exact gogo⟩
attribute [local irreducible] zl1
end
end Ab
end Go.Proofs.YtcggeefhhegeoaaGreatDoor
