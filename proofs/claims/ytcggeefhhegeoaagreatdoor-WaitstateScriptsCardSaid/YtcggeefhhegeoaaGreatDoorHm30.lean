import Derived.Test.YtcggeefhhegeoaaGreatDoorHm28
namespace Go.Proofs.YtcggeefhhegeoaaGreatDoor
namespace Ab
open IntKind (i64 u64 u8)
set_option linter.unusedSimpArgs false
set_option linter.unusedVariables false
set_option linter.defProp false
set_option maxRecDepth 100000
set_option maxHeartbeats 1000000
noncomputable section
attribute [local irreducible] zj2 za4 zd1 za7 zf7 zi6 zk5 zg4 zk6 zf3 zd2 zd8 zh9 zd6 zk1 za6 za0 ze0 zj7 zl9 zi3 zh5 zg2 zg8 zf8 zc5 ze1 ze2 zg9 zf5 ze3 zb0 za8 zh0 zi4 ze4 zn1 f_ref08_holds zj3 zc2 zn6 zm4 zm1 zd9 ze8 zk2 zm5 zh1 zj9 zl7 zd0 zi7 zf0 zf9 zl4 zn9 zm7 zb2 zc1 zh4 zq0 zp1 zk4 zb9 zo8 zd4 zm2 zh2 za5 za1 zb4 zh7 ze9 zm8 zk9 zd7 zd3 zi8 ze6 zq1 zi2 zc8 zo4 zo5 zb5 zi9 zf4 zh8 ze7 zm9 zp0 zp4 zp6 zi1 zf2 zq4 zr5 zt1 zg6 zs7 ze5 zj5 zc3 zb7 zk3 zq2 zl0 zr6 zc9 zq8 zh3 zh6 zi0 zl1 zj6 zp5 zs0 zq3 zn2 zc7 zb8 zl6 zr3 zs5 zd5 za3 zk7 zs1 zp2 zl5 zj4 zj1 zs4 zi5 zo6 zq7 zn5 zt7 zu4 zt0 zx1 zb1 zt2 zv3 zA2 zy3 zp3 zw1 zg0 zt8 zu8 zx2 zp9 zo9 zn7 zw8 zB1 zn3 zy5 zI3 zB2 zD0 zv4 zL1 zJ4 zG2 zz1 zw9 zs6 zz2 zv5 zD1 zx3 zJ5 zA8 zw2
def zS0 (a0:Queue):Option Bool :=
 (zI3 a0).bind fun v1 =>
 (if (!v1)=true then
  some false
 else
  (zm1 a0).bind fun v2 =>
  ((if v2.2=true then zJ5 a0.resource a0.holds v2.1.proc v2.1.amount else some false)).bind fun v3 =>
  some ((!v2.2)||(!v3)))
instance zcM4 (a0:Queue):OkP (zS0 a0) 106 [ga a0] (fun r=>.bool r):=ok1 (zS0.eq_1 a0) Tryz.f106 []
attribute [local irreducible] zS0
def zaa7 (a0:Queue):Option Bool :=
 (zS0 a0).bind fun v1 =>
 some v1
instance zda2 (a0:Queue):OkP (zaa7 a0) 65 [ga a0] (fun r=>.bool r):=ok1 (zaa7.eq_1 a0) Tryz.f65 []
attribute [local irreducible] zaa7
def zak1 (a0:WaitState) (j2:Unit):Option Bool :=
 (zv5 a0).bind fun v1 =>
 some (decide ((v1.length:Int)≤8))
def zZ9 (a0:WaitState) (g1:Int):Option (Int⊕(Unit⊕Bool)) :=
 (if (decide (g1 < (a0.needs.length:Int)))=true then
  gd (0≤g1∧g1 < (a0.needs.length:Int)) <|
  ((if (!(((!(zb6 ((a0.needs.getD g1.toNat Need.zero).proc)))||decide ((a0.needs.getD g1.toNat Need.zero).gen < 0))||decide (1073741824 < (a0.needs.getD g1.toNat Need.zero).gen)))=true then zo9 ((a0.needs.getD g1.toNat Need.zero).expr) else some false)).bind fun v2 =>
  (if ((((!(zb6 ((a0.needs.getD g1.toNat Need.zero).proc)))||decide ((a0.needs.getD g1.toNat Need.zero).gen < 0))||decide (1073741824 < (a0.needs.getD g1.toNat Need.zero).gen))||(!v2))=true then
   some (.inr (.inr false))
  else
   gd (decide (0 < g1)=true→0≤i64.wrap (g1 - 1)∧i64.wrap (g1 - 1) < (a0.needs.length:Int)) <|
   ((if (decide (0 < g1))=true then zd3 ((a0.needs.getD ((i64.wrap (g1 - 1)).toNat) Need.zero).proc) ((a0.needs.getD g1.toNat Need.zero).proc) else some 0)).bind fun v3 =>
   (if (decide (0 < g1)&&decide (0≤v3))=true then
    some (.inr (.inr false))
   else
    some (.inl (i64.wrap (g1+1)))))
 else
  some (.inr (.inl ())))
def zaa0 (a0:WaitState) (j1:Unit):Option Bool :=
 (zc0 (zZ9 a0) 0).bind (fun|.inl z=>zak1 a0 z|.inr z=>some z)
def zaa1 (a0:WaitState) (g2:Int):Option (Int⊕(Unit⊕Bool)) :=
 (if (decide (g2 < (a0.queues.length:Int)))=true then
  gd (0≤g2∧g2 < (a0.queues.length:Int)) <|
  (zaa7 (a0.queues.getD g2.toNat Queue.zero)).bind fun v4 =>
  gd ((v4&&decide (0 < g2))=true→0≤i64.wrap (g2 - 1)∧i64.wrap (g2 - 1) < (a0.queues.length:Int)) <|
  (if ((!v4)||(decide (0 < g2)&&(!Op.bytesLess (((a0.queues.getD ((i64.wrap (g2 - 1)).toNat) Queue.zero).resource).name).toList (((a0.queues.getD g2.toNat Queue.zero).resource).name).toList)))=true then
   some (.inr (.inr false))
  else
   some (.inl (i64.wrap (g2+1))))
 else
  some (.inr (.inl ())))
def zx4 (a0:WaitState):Option Bool :=
 (if (decide (8 < (a0.queues.length:Int))||decide (8 < (a0.needs.length:Int)))=true then
  some false
 else
  (zc0 (zaa1 a0) 0).bind (fun|.inl z=>zaa0 a0 z|.inr z=>some z))
@[reducible,instance] def zdY1 (a0:WaitState) j1:=mkJ (zaa0 a0 j1) 2 (@zak1.eq_1 a0) fun (j2:Unit)=>⟨[(1,.ptr 0 0 0)],[(0,bx a0)],1⟩
@[reducible,instance] def zdY2 (a0:WaitState) {T:Type} (x:T):=mkL x (@zZ9.eq_1 a0) fun (g1:Int)=>⟨[(1,.ptr 0 0 0),(48,la a0.needs),(49,.int .i64 (a0.needs.length:Int)),(50,.int .i64 g1)],[(0,bx a0)],1⟩
@[reducible,instance] def zdY3 (a0:WaitState):=mkJ (zx4 a0) 0 (@zaa0.eq_1 a0) fun (j1:Unit)=>⟨[(1,.ptr 0 0 0)],[(0,bx a0)],1⟩
@[reducible,instance] def zdY4 (a0:WaitState) {T:Type} (x:T):=mkL x (@zaa1.eq_1 a0) fun (g2:Int)=>⟨[(1,.ptr 0 0 0),(18,la a0.queues),(19,.int .i64 (a0.queues.length:Int)),(20,.int .i64 g2)],[(0,bx a0)],1⟩
instance zcy3 (a0:WaitState):OkP (zx4 a0) 24 [ga a0] (fun r=>.bool r):=ok1 (zx4.eq_1 a0) Tryz.f24 []
attribute [local irreducible] zx4
def zah9 (j2:(List Int)):Option ((List Int)×Int) :=
 some (j2,0)
def zM2 (a0:WaitState) (g1:(List Int)×Int):Option (((List Int)×Int)⊕(List Int)) :=
 (if (decide (g1.2 < (a0.needs.length:Int)))=true then
  gd (0≤g1.2∧g1.2 < (a0.needs.length:Int)) <|
  (zi9 g1.1 ((a0.needs.getD g1.2.toNat Need.zero).proc)).bind fun v4 =>
  (zc1 v4 [(a0.needs.getD g1.2.toNat Need.zero).gen]).bind fun v5 =>
  (zj5 v5 ((a0.needs.getD g1.2.toNat Need.zero).expr)).bind fun v6 =>
  some (.inl (v6,i64.wrap (g1.2+1)))
 else
  some (.inr g1.1))
def zW6 (a0:WaitState) (j1:(List Int)):Option ((List Int)×Int) :=
 (zc1 j1 [(a0.needs.length:Int)]).bind fun v3 =>
 (zc0 (zM2 a0) (v3,0)).bind (fun z=>zah9 z)
def zM3 (a0:WaitState) (g2:(List Int)×Int):Option (((List Int)×Int)⊕(List Int)) :=
 (if (decide (g2.2 < (a0.queues.length:Int)))=true then
  gd (0≤g2.2∧g2.2 < (a0.queues.length:Int)) <|
  (zj4 g2.1 (a0.queues.getD g2.2.toNat Queue.zero)).bind fun v7 =>
  some (.inl (v7,i64.wrap (g2.2+1)))
 else
  some (.inr g2.1))
def zv6 (a0:WaitState):Option ((List Int)×Int) :=
 (zx4 a0).bind fun v1 =>
 (if (!v1)=true then
  some ([],2)
 else
  (zc1 [] [(a0.queues.length:Int)]).bind fun v2 =>
  (zc0 (zM3 a0) (v2,0)).bind (fun z=>zW6 a0 z))
@[reducible,instance] def zdY5 a0 j1 {T1:Type} (v3:T1):=mkJ (zW6 a0 j1,v3) 2 (@zah9.eq_1) fun (j2:(List Int))=>⟨[(4,.sl (j2.map (eI .u8)))],[],0⟩
@[reducible,instance] def zdY6 (a0:WaitState) {T:Type} (x:T):=mkL x (@zM2.eq_1 a0) fun (g1:(List Int)×Int)=>⟨[(4,.sl (g1.1.map (eI .u8))),(35,la a0.needs),(36,.int .i64 (a0.needs.length:Int)),(37,.int .i64 g1.2)],[],0⟩
@[reducible,instance] def zdY7 (a0:WaitState) {T1:Type} (v1:T1) {T2:Type} (v2:T2):=mkJ ((zv6 a0,v1),v2) 0 (@zW6.eq_1 a0) fun (j1:(List Int))=>⟨[(1,.ptr 0 0 0),(4,.sl (j1.map (eI .u8)))],[(0,bx a0)],1⟩
@[reducible,instance] def zdY8 (a0:WaitState) {T:Type} (x:T):=mkL x (@zM3.eq_1 a0) fun (g2:(List Int)×Int)=>⟨[(1,.ptr 0 0 0),(4,.sl (g2.1.map (eI .u8))),(18,la a0.queues),(19,.int .i64 (a0.queues.length:Int)),(20,.int .i64 g2.2)],[(0,bx a0)],1⟩
instance zbj5 (a0:WaitState):OkP (zv6 a0) 9 [ga a0] (fun r=>.tup [.sl (r.1.map (eI .u8)),.int .i64 r.2]):=ok1 (zv6.eq_1 a0) Tryz.f9 []
attribute [local irreducible] zv6
def zai0 (j2:decoder×WaitState):Option (WaitState×Int) :=
 (if (!decide (j2.1.reader.err=0))=true then
  some ({ WaitState.zero with  },j2.1.reader.err)
 else
  (if (decide (0 < (j2.1.reader.rest.length:Int)))=true then
   some ({ WaitState.zero with  },6)
  else
   (zx4 j2.2).bind fun v3 =>
   (if (!v3)=true then
    some ({ WaitState.zero with  },2)
   else
    some (j2.2,0))))
def zM4 (g1:Int×decoder×WaitState):Option ((Int×decoder×WaitState)⊕(decoder×WaitState)) :=
 (if (decide (0 < g1.1)&&decide (g1.2.1.reader.err=0))=true then
  (zd5 g1.2.1).bind fun v4 =>
  (zb7 v4.2).bind fun v5 =>
  (zn7 1 v5.2).bind fun v6 =>
  gd (g1.2.2.needs.length+1≤4294967296) <|
  some (.inl ((i64.wrap (g1.1 - 1)),v6.2,(⟨g1.2.2.queues,(g1.2.2.needs++[{ { { Need.zero with proc:=v4.1 } with gen:=v5.1 } with expr:=v6.1 }])⟩:WaitState)))
 else
  some (.inr (g1.2.1,g1.2.2)))
def zW7 (j1:decoder×WaitState):Option (WaitState×Int) :=
 (zc3 8 j1.1).bind fun v2 =>
 (zc0 zM4 (v2.1,v2.2,j1.2)).bind (fun z=>zai0 z)
def zM5 (g2:Int×decoder×WaitState):Option ((Int×decoder×WaitState)⊕(decoder×WaitState)) :=
 (if (decide (0 < g2.1)&&decide (g2.2.1.reader.err=0))=true then
  (zg0 g2.2.1).bind fun v7 =>
  gd (g2.2.2.queues.length+1≤4294967296) <|
  some (.inl ((i64.wrap (g2.1 - 1)),v7.2,(⟨(g2.2.2.queues++[v7.1]),g2.2.2.needs⟩:WaitState)))
 else
  some (.inr (g2.2.1,g2.2.2)))
def zu7 (a0:List Int):Option (WaitState×Int) :=
 (zc3 8 (⟨{ waitstateReader.zero with rest:=a0 }⟩:decoder)).bind fun v1 =>
 (zc0 zM5 (v1.1,v1.2,(⟨[],[]⟩:WaitState))).bind (fun z=>zW7 z)
@[reducible,instance] def zdY9 (j1:decoder×WaitState) {T1:Type} (v2:T1):=mkJ (zW7 j1,v2) 2 (@zai0.eq_1) fun (j2:decoder×WaitState)=>⟨[(2,.ptr 0 0 0),(4,.ptr 1 0 0),(5,.ptr 2 0 0)],[(0,bx WaitState.zero),(1,bx j2.1),(2,⟨false,2,WaitState.enc WaitState.zero,[[.own 3 0 j2.2.queues.length,.own 4 0 j2.2.needs.length]]⟩),(3,sx j2.2.queues),(4,sx j2.2.needs)],5⟩
@[reducible,instance] def zdZ0 {T:Type} (x:T):=mkL x (@zM4.eq_1) fun (g1:Int×decoder×WaitState)=>⟨[(2,.ptr 0 0 0),(4,.ptr 1 0 0),(5,.ptr 2 0 0),(7,.int .i64 g1.1)],[(0,bx WaitState.zero),(1,bx g1.2.1),(2,⟨false,2,WaitState.enc WaitState.zero,[[.own 3 0 g1.2.2.queues.length,.own 4 0 g1.2.2.needs.length]]⟩),(3,sx g1.2.2.queues),(4,sx g1.2.2.needs)],5⟩
@[reducible,instance] def zdZ1 (a0:List Int) {T1:Type} (v1:T1):=mkJ (zu7 a0,v1) 0 (@zW7.eq_1) fun (j1:decoder×WaitState)=>⟨[(2,.ptr 0 0 0),(4,.ptr 1 0 0),(5,.ptr 2 0 0)],[(0,bx WaitState.zero),(1,bx j1.1),(2,⟨false,2,WaitState.enc WaitState.zero,[[.own 3 0 j1.2.queues.length,.own 4 0 j1.2.needs.length]]⟩),(3,sx j1.2.queues),(4,sx j1.2.needs)],5⟩
@[reducible,instance] def zdZ2 {T:Type} (x:T):=mkL x (@zM5.eq_1) fun (g2:Int×decoder×WaitState)=>⟨[(2,.ptr 0 0 0),(4,.ptr 1 0 0),(5,.ptr 2 0 0),(6,.int .i64 g2.1)],[(0,bx WaitState.zero),(1,bx g2.2.1),(2,⟨false,2,WaitState.enc WaitState.zero,[[.own 3 0 g2.2.2.queues.length,.own 4 0 g2.2.2.needs.length]]⟩),(3,sx g2.2.2.queues),(4,sx g2.2.2.needs)],5⟩
instance zbj6 (a0:List Int):OkP (zu7 a0) 10 [.sl (a0.map (eI .u8))] (fun r=>.tup [ga r.1,.int .i64 r.2]):=⟨fun r h=>by
 refine zag9 Tryz.f10 [(5,5)] fun E hG hN hK=>?_
 have hm:Mk (zu7 a0):=trivial
 unfold zu7 at h
 refine za2 (za9 hG ?_)
 refine za2 (za9 hG ?_)
 refine za2 (za9 hG ?_)
 refine g_gh (.ownb 2 0 8 (Queue.enc Queue.zero)) ?_
 refine g_gh (.ownb 2 1 9 (Need.enc Need.zero)) ?_
 exact gogo⟩
attribute [local irreducible] zu7
def zaw9 (j1:(List Bool)):Option (List Bool) :=
 some j1
def zv1 (a0:WaitState) (a1:Proc) (v3:(List Atom)) (g1:Int×(List Bool)):Option ((Int×(List Bool))⊕(List Bool)) :=
 (if (decide (g1.1 < (v3.length:Int)))=true then
  gd (0≤g1.1∧g1.1 < (v3.length:Int)) <|
  (zk2 a0.queues ((v3.getD g1.1.toNat Atom.zero).name)).bind fun v4 =>
  (if (decide (0≤v4))=true then
   gd (0≤v4∧v4 < (a0.queues.length:Int)) <|
   (zq3 (a0.queues.getD v4.toNat Queue.zero) a1).bind fun v5 =>
   gd (g1.2.length+1≤4294967296) <|
   some (.inl ((i64.wrap (g1.1+1)),(g1.2++[(!v5.2)])))
  else
   gd (g1.2.length+1≤4294967296) <|
   some (.inl ((i64.wrap (g1.1+1)),(g1.2++[true]))))
 else
  some (.inr g1.2))
def zu9 (a0:WaitState) (a1:Proc):Option (List Bool) :=
 (zn5 a0.needs a1).bind fun v1 =>
 ((if (!(decide (v1 < 0)))=true then zx4 a0 else some false)).bind fun v2 =>
 (if (decide (v1 < 0)||(!v2))=true then
  some []
 else
  gd (0≤v1∧v1 < (a0.needs.length:Int)) <|
  (zv4 ((a0.needs.getD v1.toNat Need.zero).expr)).bind fun v3 =>
  (zc0 (zv1 a0 a1 v3) (0,[])).bind (fun z=>zaw9 z))
@[reducible,instance] def zdZ3 a0 a1 {T1:Type} (v1:T1) {T2:Type} (v2:T2) {T3:Type} (v3:T3):=mkJ (((zu9 a0 a1,v1),v2),v3) 0 (@zaw9.eq_1) fun (j1:(List Bool))=>⟨[(6,.own 0 0 j1.length)],[(0,⟨false,1,[A.bool false],j1.map eB⟩)],1⟩
@[reducible,instance] def zdZ4 (a0:WaitState) (a1:Proc) (v3:(List Atom)) {T:Type} (x:T):=mkL x (@zv1.eq_1 a0 a1 v3) fun (g1:Int×(List Bool))=>⟨[(2,.ptr 0 0 0),(3,.ptr 1 0 0),(6,.own 2 0 g1.2.length),(28,la v3),(29,.int .i64 (v3.length:Int)),(30,.int .i64 g1.1)],[(0,bx a0),(1,bx a1),(2,⟨false,1,[A.bool false],g1.2.map eB⟩)],3⟩
instance zbe3 (a0:WaitState) (a1:Proc):OkP (zu9 a0 a1) 14 [ga a0,ga a1] (fun r=>.sl (r.map eB)):=ok1 (zu9.eq_1 a0 a1) Tryz.f14 [(6,1)]
attribute [local irreducible] zu9
end
end Ab
end Go.Proofs.YtcggeefhhegeoaaGreatDoor
