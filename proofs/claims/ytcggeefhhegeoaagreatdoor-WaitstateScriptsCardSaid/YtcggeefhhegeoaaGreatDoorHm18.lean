import Derived.Test.YtcggeefhhegeoaaGreatDoorHm13
import Derived.Test.YtcggeefhhegeoaaGreatDoorHm14
import Derived.Test.YtcggeefhhegeoaaGreatDoorHm15
import Derived.Test.YtcggeefhhegeoaaGreatDoorHm16
namespace Go.Proofs.YtcggeefhhegeoaaGreatDoor
namespace Ab
open IntKind (i64 u64 u8)
set_option linter.unusedSimpArgs false
set_option linter.unusedVariables false
set_option linter.defProp false
set_option maxRecDepth 100000
set_option maxHeartbeats 1000000
noncomputable section
attribute [local irreducible] zj2 za4 zd1 za7 zf7 zi6 zk5 zg4 zk6 zf3 zd2 zd8 zh9 zd6 zk1 za6 za0 ze0 zj7 zl9 zi3 zh5 zg2 zg8 zf8 zc5 ze1 ze2 zg9 zf5 ze3 zb0 za8 zh0 zi4 ze4 zn1 f_ref08_holds zj3 zc2 zn6 zm4 zm1 zd9 ze8 zk2 zm5 zh1 zj9 zl7 zd0 zi7 zf0 zf9 zl4 zn9 zm7 zb2 zc1 zh4 zq0 zp1 zk4 zb9 zo8 zd4 zm2 zh2 za5 za1 zb4 zh7 ze9 zm8 zk9 zd7 zd3 zi8 ze6 zq1 zi2 zc8 zo4 zo5 zb5 zi9 zf4 zh8 ze7 zm9 zp0 zp4 zp6 zi1 zf2 zq4 zr5 zt1 zg6 zs7 ze5 zj5 zc3 zb7 zk3 zq2 zl0 zr6 zc9 zq8 zh3 zh6 zi0 zl1 zj6 zp5 zs0 zq3 zn2 zc7 zb8 zl6 zr3 zs5 zd5 za3 zk7 zs1 zp2 zl5 zj4 zj1 zs4 zi5 zo6
def zw7 (j1:Unit):Option Bool :=
 some true
def zk8 (a0 a1:List Queue) (g1:Int):Option (Int⊕(Unit⊕Bool)) :=
 (if (decide (g1 < (a0.length:Int)))=true then
  gd (0≤g1∧g1 < (a0.length:Int)) <|
  gd (0≤g1∧g1 < (a1.length:Int)) <|
  (zj1 (a0.getD g1.toNat Queue.zero) (a1.getD g1.toNat Queue.zero)).bind fun v1 =>
  (if (!v1)=true then
   some (.inr (.inr false))
  else
   some (.inl (i64.wrap (g1+1))))
 else
  some (.inr (.inl ())))
def zb1 (a0 a1:List Queue):Option Bool :=
 (if (!decide ((a0.length:Int)=(a1.length:Int)))=true then
  some false
 else
  (zc0 (zk8 a0 a1) 0).bind (fun|.inl z=>zw7 z|.inr z=>some z))
@[reducible,instance] def zdR0 a0 a1:=mkJ (zb1 a0 a1) 0 (@zw7.eq_1) fun (j1:Unit)=>⟨[],[],0⟩
@[reducible,instance] def zdR1 (a0 a1:List Queue) {T:Type} (x:T):=mkL x (@zk8.eq_1 a0 a1) fun (g1:Int)=>⟨[(1,la a1),(2,.clo 39 []),(15,la a0),(16,.int .i64 (a0.length:Int)),(17,.int .i64 g1)],[],0⟩
instance zJ3 (a0 a1:List Queue):OkM (zb1 a0 a1) 38 [la a0,la a1,.clo 39 []] [] 0 (fun r=>.bool r) (fun r=>[]) 0:=okm (zb1.eq_1 a0 a1) (fun r=>[.bool r]) Tryz.f38 []
attribute [local irreducible] zb1
def zK7 (a0:List Resource) (j1:Tape×Request):Option (Request×Tape) :=
 (zs4 a0 j1.1).bind fun v3 =>
 some ({ j1.2 with expr:=v3.1 },v3.2)
@[go_sem] def zds3 (a0:List Resource) (j1:Tape×Request):St:=⟨[(0,.ptr 0 0 0),(1,la a0),(4,.ptr 1 0 0),(5,.ptr 2 0 0)],[(0,bx j1.1),(1,bx Request.zero),(2,bx j1.2)],3⟩
def zt2 (a0:List Resource) (a1:Tape):Option (Request×Tape) :=
 (zb4 8 a1).bind fun v1 =>
 (zb4 5 v1.2).bind fun v2 =>
 (if (decide (v2.1=1))=true then
  (zb4 20 v2.2).bind fun v4 =>
  zK7 a0 (v4.2,{ { Request.zero with priority:=v1.1 } with limit:=(i64.wrap (1+v4.1)) })
 else
  zK7 a0 (v2.2,{ Request.zero with priority:=v1.1 }))
theorem zbn5 (a0:List Resource) (a1:Tape) (r:Request×Tape) (h:zt2 a0 a1=some r):MFn C 162 [.ptr 0 0 0,la a0] [(0,bx a1)] 1 (ga r.1) [(0,bx r.2)] 1:=by
 refine zaC5 Tryz.f162 [] [ga r.1] fun E hG hN hK=>?_
 unfold zt2 at h
 refine za2 (za9 hG ?_)
 refine za2 (za9 hG ?_)
 obtain ⟨v1,hv1,h⟩:=zf1 h
 refine zu2 [(0,0)] [] [0] ((zu0 8 a1).ok _ hv1) rfl rfl ?_
 refine za2 (za2 (za9 hG ?_))
 obtain ⟨v2,hv2,h⟩:=zf1 h
 refine zu2 [(0,0)] [] [0] ((zu0 5 v1.2).ok _ hv2) rfl rfl ?_
 refine zbh2 (zds3 a0) (fun v=>zK7 a0 v=some r) rfl hG h ?_ (fun _ h=>?_) (fun _ h=>?_)
 · intro j1 h
   unfold zK7 at h
   refine g_st ?_
   refine za2 (za9 hG ?_)
   obtain ⟨v3,hv3,h⟩:=zf1 h
   refine zu2 [(0,0)] [] [0] ((zbE7 a0 j1.1).ok _ hv3) rfl rfl ?_
   refine za2 (za9 hG ?_)
   refine zw3 ?_
   exact zS7 [(0,0)] h
 · refine za9 hG ?_
   obtain ⟨v4,hv4,h⟩:=zf1 h
   refine zu2 [(0,0)] [] [0] ((zu0 20 v2.2).ok _ hv4) rfl rfl ?_
   exact zI1 hK [(0,0),(1,1),(2,2)] (v4.2,{ { Request.zero with priority:=v1.1 } with limit:=(i64.wrap (1+v4.1)) }) (by exact h)
 refine zn4 ?_
 exact zI1 hK [(0,0),(1,1),(2,2)] (v2.2,{ Request.zero with priority:=v1.1 }) (by exact h)
instance zcx9 (a0:List Resource) (a1:Tape):OkM (zt2 a0 a1) 162 [.ptr 0 0 0,la a0] [(0,bx a1)] 1 (fun r=>ga r.1) (fun r=>[(0,bx r.2)]) 1:=⟨zbn5 a0 a1⟩
attribute [local irreducible] zt2
def zay9 (j1:(List Proc)):Option (List Proc) :=
 (zh6 j1).bind fun v1 =>
 some v1
def zad4 (a0:List Queue) (g1:Int×(List Proc)):Option ((Int×(List Proc))⊕(List Proc)) :=
 (if (decide (g1.1 < (a0.length:Int)))=true then
  gd (0≤g1.1∧g1.1 < (a0.length:Int)) <|
  (zs1 (a0.getD g1.1.toNat Queue.zero)).bind fun v2 =>
  gd (g1.2.length+v2.length≤4294967296) <|
  some (.inl ((i64.wrap (g1.1+1)),(g1.2++v2)))
 else
  some (.inr g1.2))
def zv3 (a0:List Queue):Option (List Proc) :=
 (zc0 (zad4 a0) (0,[])).bind (fun z=>zay9 z)
@[reducible,instance] def zdR2 a0:=mkJ (zv3 a0) 0 (@zay9.eq_1) fun (j1:(List Proc))=>⟨[(3,.own 0 0 j1.length)],[(0,sx j1)],1⟩
@[reducible,instance] def zdR3 (a0:List Queue) {T:Type} (x:T):=mkL x (@zad4.eq_1 a0) fun (g1:Int×(List Proc))=>⟨[(0,la a0),(3,.own 0 0 g1.2.length),(4,.int .i64 g1.1)],[(0,sx g1.2)],1⟩
instance zcY6 (a0:List Queue):OkP (zv3 a0) 42 [la a0] (fun r=>la r):=ok1 (zv3.eq_1 a0) Tryz.f42 [(3,1)]
attribute [local irreducible] zv3
def zA2 (a0:Resource) (a1 a2:Amount):Option Amount :=
 (if ((!(zu3 a0 a1))||(!(zu3 a0 a2)))=true then
  some ({ Amount.zero with  })
 else
  (if (zs9 a0 a1 a2)=true then
   some a1
  else
   (if (zs9 a0 a2 a1)=true then
    some a2
   else
    (zt1 a1.mode a2.mode).bind fun v1 =>
    some ({ Amount.zero with mode:=v1 }))))
instance zbV1 (a0:Resource) (a1 a2:Amount):OkP (zA2 a0 a1 a2) 202 [ga a0,ga a1,ga a2] (fun r=>ga r):=ok1 (zA2.eq_1 a0 a1 a2) Tryz.f202 []
attribute [local irreducible] zA2
def zaF3 (a0 j1:Ledger):Option (Ledger×Bool) :=
 (if (decide (((j1.entries.length:Nat):Int)=(a0.entries.length:Int)))=true then
  some ({ Ledger.zero with  },false)
 else
  some (j1,true))
def zaF4 (g1:Int×Ledger) (j2:Ledger):Option ((Int×Ledger)⊕Ledger) :=
 some (.inl ((i64.wrap (g1.1+1)),j2))
def zah2 (a0:Ledger) (g1 g2:Int×Ledger):Option ((Int×Ledger)⊕Ledger) :=
 (if (decide (g2.1 < ((g2.2.saves.length:Nat):Int)))=true then
  gd (0≤g2.1∧g2.1 < (a0.saves.length:Int)) <|
  (if (decide (g1.1 < (a0.saves.getD g2.1.toNat Save.zero).at_))=true then
   gd (0≤g2.1∧g2.1 < ((g2.2.saves.length:Nat):Int)) <|
   gd (0≤g2.1∧g2.1 < ((g2.2.saves.length:Nat):Int)) <|
   some (.inl ((i64.wrap (g2.1+1)),(⟨g2.2.entries,g2.2.saves.set g2.1.toNat ({ (g2.2.saves.getD g2.1.toNat Save.zero) with at_:=(i64.wrap ((g2.2.saves.getD g2.1.toNat Save.zero).at_ - 1)) })⟩:Ledger)))
  else
   some (.inl ((i64.wrap (g2.1+1)),g2.2)))
 else
  some (.inr g2.2))
def zY1 (a0:Ledger) (a1:ByteArray) (g1:Int×Ledger):Option ((Int×Ledger)⊕Ledger) :=
 (if (decide (g1.1 < (a0.entries.length:Int)))=true then
  gd (0≤g1.1∧g1.1 < (a0.entries.length:Int)) <|
  (if (!(((a0.entries.getD g1.1.toNat Entry.zero).name).toList == a1.toList))=true then
   gd (0≤g1.1∧g1.1 < (a0.entries.length:Int)) <|
   gd (g1.2.entries.length+1≤4294967296) <|
   some (.inl ((i64.wrap (g1.1+1)),(⟨(g1.2.entries++[(a0.entries.getD g1.1.toNat Entry.zero)]),g1.2.saves⟩:Ledger)))
  else
   (zc0 (zah2 a0 g1) (0,g1.2)).bind (fun z=>zaF4 g1 z))
 else
  some (.inr g1.2))
def zy3 (a0:Ledger) (a1:ByteArray):Option (Ledger×Bool) :=
 (zo6 a0).bind fun v1 =>
 (if (!v1)=true then
  some ({ Ledger.zero with  },false)
 else
  gd (a0.saves.length≤4294967296) <|
  (zc0 (zY1 a0 a1) (0,(⟨[],a0.saves⟩:Ledger))).bind (fun z=>zaF3 a0 z))
@[reducible,instance] def zdR4 (a0:Ledger) (a1:ByteArray) {T1:Type} (v1:T1):=mkJ (zy3 a0 a1,v1) 0 (@zaF3.eq_1 a0) fun (j1:Ledger)=>⟨[(2,.ptr 0 0 0),(4,.ptr 1 0 0),(6,.ptr 2 0 0)],[(0,bx a0),(1,bx Ledger.zero),(2,⟨false,2,Ledger.enc Ledger.zero,[[.own 3 0 j1.entries.length,.own 4 0 j1.saves.length]]⟩),(3,sx j1.entries),(4,sx j1.saves)],5⟩
@[reducible,instance] def zdR5 (a0:Ledger) (a1:ByteArray) (g1:Int×Ledger):=mkJ (zY1 a0 a1 g1) 2 (@zaF4.eq_1 g1) fun (j2:Ledger)=>⟨[(1,.str a1),(2,.ptr 0 0 0),(4,.ptr 1 0 0),(6,.ptr 2 0 0),(7,.int .i64 g1.1)],[(0,bx a0),(1,bx Ledger.zero),(2,⟨false,2,Ledger.enc Ledger.zero,[[.own 3 0 j2.entries.length,.own 4 0 j2.saves.length]]⟩),(3,sx j2.entries),(4,sx j2.saves)],5⟩
@[reducible,instance] def zdR6 (a0:Ledger) (a1:ByteArray) (g1:Int×Ledger):=mkL (zY1 a0 a1 g1) (@zah2.eq_1 a0 g1) fun (g2:Int×Ledger)=>⟨[(1,.str a1),(2,.ptr 0 0 0),(4,.ptr 1 0 0),(6,.ptr 2 0 0),(7,.int .i64 g1.1),(8,.int .i64 g2.1)],[(0,bx a0),(1,bx Ledger.zero),(2,⟨false,2,Ledger.enc Ledger.zero,[[.own 3 0 g2.2.entries.length,.own 4 0 g2.2.saves.length]]⟩),(3,sx g2.2.entries),(4,sx g2.2.saves)],5⟩
@[reducible,instance] def zdR7 (a0:Ledger) (a1:ByteArray) {T:Type} (x:T):=mkL x (@zY1.eq_1 a0 a1) fun (g1:Int×Ledger)=>⟨[(1,.str a1),(2,.ptr 0 0 0),(4,.ptr 1 0 0),(6,.ptr 2 0 0),(7,.int .i64 g1.1)],[(0,bx a0),(1,bx Ledger.zero),(2,⟨false,2,Ledger.enc Ledger.zero,[[.own 3 0 g1.2.entries.length,.own 4 0 g1.2.saves.length]]⟩),(3,sx g1.2.entries),(4,sx g1.2.saves)],5⟩
instance zdh6 (a0:Ledger) (a1:ByteArray):OkP (zy3 a0 a1) 254 [ga a0,.str a1] (fun r=>.tup [ga r.1,.bool r.2]):=⟨fun r h=>by
 refine zag9 Tryz.f254 [(13,1),(17,5),(6,5)] fun E hG hN hK=>?_
 have hm:Mk (zy3 a0 a1):=trivial
 unfold zy3 at h
 refine za2 (za9 hG ?_)
 refine za2 (za2 (za9 hG ?_))
 obtain ⟨v1,hv1,h⟩:=zf1 h
 have hm:=mkP hm v1
 refine zu6 (fun hg=>(zbd8 a0).ok _ hv1) ?_
 refine zo2 rfl hG h (fun _ h=>?_) (fun _ h=>?_)
 · exact gogo
 refine zn4 ?_
 refine za2 ?_
 obtain ⟨hb7,h⟩:=zg5 h
 refine za9 hG ?_
 refine g_gh (.ownb 4 0 5 (Entry.enc Entry.zero)) ?_
 exact gogo⟩
attribute [local irreducible] zy3
end
end Ab
end Go.Proofs.YtcggeefhhegeoaaGreatDoor
