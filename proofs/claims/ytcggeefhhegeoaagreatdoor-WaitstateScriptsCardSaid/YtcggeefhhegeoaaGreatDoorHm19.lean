import Derived.Test.YtcggeefhhegeoaaGreatDoorHm13
import Derived.Test.YtcggeefhhegeoaaGreatDoorHm14
import Derived.Test.YtcggeefhhegeoaaGreatDoorHm15
import Derived.Test.YtcggeefhhegeoaaGreatDoorHm16
namespace Go.Proofs.YtcggeefhhegeoaaGreatDoor
namespace Ab
open IntKind (i64 u64 u8)
set_option linter.unusedSimpArgs false
set_option linter.unusedVariables false
set_option linter.defProp false
set_option maxRecDepth 100000
set_option maxHeartbeats 1000000
noncomputable section
attribute [local irreducible] zj2 za4 zd1 za7 zf7 zi6 zk5 zg4 zk6 zf3 zd2 zd8 zh9 zd6 zk1 za6 za0 ze0 zj7 zl9 zi3 zh5 zg2 zg8 zf8 zc5 ze1 ze2 zg9 zf5 ze3 zb0 za8 zh0 zi4 ze4 zn1 f_ref08_holds zj3 zc2 zn6 zm4 zm1 zd9 ze8 zk2 zm5 zh1 zj9 zl7 zd0 zi7 zf0 zf9 zl4 zn9 zm7 zb2 zc1 zh4 zq0 zp1 zk4 zb9 zo8 zd4 zm2 zh2 za5 za1 zb4 zh7 ze9 zm8 zk9 zd7 zd3 zi8 ze6 zq1 zi2 zc8 zo4 zo5 zb5 zi9 zf4 zh8 ze7 zm9 zp0 zp4 zp6 zi1 zf2 zq4 zr5 zt1 zg6 zs7 ze5 zj5 zc3 zb7 zk3 zq2 zl0 zr6 zc9 zq8 zh3 zh6 zi0 zl1 zj6 zp5 zs0 zq3 zn2 zc7 zb8 zl6 zr3 zs5 zd5 za3 zk7 zs1 zp2 zl5 zj4 zj1 zs4 zi5 zo6
def zay1 (j1:Unit):Option Bool :=
 some true
def zB9 (a0:Queue) (g1:Int):Option (Int⊕(Unit⊕Bool)) :=
 (if (decide (g1 < (a0.waits.length:Int)))=true then
  gd (0≤g1∧g1 < (a0.waits.length:Int)) <|
  ((if (zb3 a0.resource ((a0.waits.getD g1.toNat Wait.zero).amount))=true then zn9 a0 ((a0.waits.getD g1.toNat Wait.zero).proc) else some Amount.zero)).bind fun v2 =>
  (if ((!(zb3 a0.resource ((a0.waits.getD g1.toNat Wait.zero).amount)))||(!(zl2 v2)))=true then
   some (.inr (.inr false))
  else
   some (.inl (i64.wrap (g1+1))))
 else
  some (.inr (.inl ())))
def zp3 (a0:Queue):Option Bool :=
 (zs5 a0.waits).bind fun v1 =>
 (if ((!v1)||decide (8 < i64.wrap ((a0.holds.length:Int)+(a0.waits.length:Int))))=true then
  some false
 else
  (zc0 (zB9 a0) 0).bind (fun|.inl z=>zay1 z|.inr z=>some z))
@[reducible,instance] def zec9 a0 {T1:Type} (v1:T1):=mkJ (zp3 a0,v1) 0 (@zay1.eq_1) fun (j1:Unit)=>⟨[],[],0⟩
@[reducible,instance] def zed0 (a0:Queue) {T:Type} (x:T):=mkL x (@zB9.eq_1 a0) fun (g1:Int)=>⟨[(1,.ptr 0 0 0),(20,la a0.waits),(21,.int .i64 (a0.waits.length:Int)),(22,.int .i64 g1)],[(0,bx a0)],1⟩
instance zcu8 (a0:Queue):OkP (zp3 a0) 176 [ga a0] (fun r=>.bool r):=ok1 (zp3.eq_1 a0) Tryz.f176 []
attribute [local irreducible] zp3
def zw1 (a0:Queue):Option (List Proc) :=
 (ze3 a0.holds).bind fun v1 =>
 (zs0 a0).bind fun v2 =>
 gd (v1.length+v2.length≤4294967296) <|
 (zl5 (v1++v2)).bind fun v3 =>
 some v3
instance zcY7 (a0:Queue):OkP (zw1 a0) 111 [ga a0] (fun r=>la r):=ok1 (zw1.eq_1 a0) Tryz.f111 []
attribute [local irreducible] zw1
def zad5 (j3:decoder×Queue):Option (Queue×decoder) :=
 some (j3.2,j3.1)
def zy8 (g1:Int×decoder×Queue):Option ((Int×decoder×Queue)⊕(decoder×Queue)) :=
 (if (decide (0 < g1.1)&&decide (g1.2.1.reader.err=0))=true then
  (zd5 g1.2.1).bind fun v9 =>
  (zc7 v9.2).bind fun v10 =>
  (zb7 v10.2).bind fun v11 =>
  (zb7 v11.2).bind fun v12 =>
  gd (g1.2.2.waits.length+1≤4294967296) <|
  some (.inl ((i64.wrap (g1.1 - 1)),v12.2,(⟨(⟨g1.2.2.resource.name,g1.2.2.resource.kind,g1.2.2.resource.units,g1.2.2.resource.home⟩:Resource),g1.2.2.holds,g1.2.2.converts,(g1.2.2.waits++[{ { { { Wait.zero with proc:=v9.1 } with amount:=v10.1 } with priority:=v11.1 } with passed:=v12.1 }]),g1.2.2.gen⟩:Queue)))
 else
  some (.inr (g1.2.1,g1.2.2)))
def zE0 (j2:decoder×Queue):Option (Queue×decoder) :=
 (zc3 8 j2.1).bind fun v8 =>
 (zc0 zy8 (v8.1,v8.2,j2.2)).bind (fun z=>zad5 z)
def zy9 (g2:Int×decoder×Queue):Option ((Int×decoder×Queue)⊕(decoder×Queue)) :=
 (if (decide (0 < g2.1)&&decide (g2.2.1.reader.err=0))=true then
  (zd5 g2.2.1).bind fun v13 =>
  (zc7 v13.2).bind fun v14 =>
  gd (g2.2.2.converts.length+1≤4294967296) <|
  some (.inl ((i64.wrap (g2.1 - 1)),v14.2,(⟨(⟨g2.2.2.resource.name,g2.2.2.resource.kind,g2.2.2.resource.units,g2.2.2.resource.home⟩:Resource),g2.2.2.holds,(g2.2.2.converts++[{ Wait.zero with proc:=v13.1,amount:=v14.1 }]),g2.2.2.waits,g2.2.2.gen⟩:Queue)))
 else
  some (.inr (g2.2.1,g2.2.2)))
def zE1 (j1:decoder×Queue):Option (Queue×decoder) :=
 (zc3 8 j1.1).bind fun v7 =>
 (zc0 zy9 (v7.1,v7.2,j1.2)).bind (fun z=>zE0 z)
def zz0 (g3:Int×decoder×Queue):Option ((Int×decoder×Queue)⊕(decoder×Queue)) :=
 (if (decide (0 < g3.1)&&decide (g3.2.1.reader.err=0))=true then
  (zd5 g3.2.1).bind fun v15 =>
  (zc7 v15.2).bind fun v16 =>
  gd (g3.2.2.holds.length+1≤4294967296) <|
  some (.inl ((i64.wrap (g3.1 - 1)),v16.2,(⟨(⟨g3.2.2.resource.name,g3.2.2.resource.kind,g3.2.2.resource.units,g3.2.2.resource.home⟩:Resource),(g3.2.2.holds++[(⟨v15.1,v16.1⟩:Hold)]),g3.2.2.converts,g3.2.2.waits,g3.2.2.gen⟩:Queue)))
 else
  some (.inr (g3.2.1,g3.2.2)))
def zg0 (a0:decoder):Option (Queue×decoder) :=
 (zc9 a0).bind fun v1 =>
 (zb7 v1.2).bind fun v2 =>
 (zb7 v2.2).bind fun v3 =>
 (zb7 v3.2).bind fun v4 =>
 (zb7 v4.2).bind fun v5 =>
 (zc3 8 v5.2).bind fun v6 =>
 (zc0 zz0 (v6.1,v6.2,(⟨(⟨v1.1,v2.1,v3.1,v4.1⟩:Resource),[],[],[],v5.1⟩:Queue))).bind (fun z=>zE1 z)
@[reducible,instance] def zdR8 (j2:decoder×Queue) {T1:Type} (v8:T1):=mkJ (zE0 j2,v8) 4 (@zad5.eq_1) fun (j3:decoder×Queue)=>⟨[(2,.ptr 1 0 0),(3,.ptr 2 0 0)],[(0,bx j3.1),(1,bx Queue.zero),(2,⟨false,8,Queue.enc Queue.zero,[[.str j3.2.resource.name,.int .i64 j3.2.resource.kind,.int .i64 j3.2.resource.units,.int .i64 j3.2.resource.home,.own 3 0 j3.2.holds.length,.own 4 0 j3.2.converts.length,.own 5 0 j3.2.waits.length,.int .i64 j3.2.gen]]⟩),(3,sx j3.2.holds),(4,sx j3.2.converts),(5,sx j3.2.waits)],6⟩
@[reducible,instance] def zdR9 {T:Type} (x:T):=mkL x (@zy8.eq_1) fun (g1:Int×decoder×Queue)=>⟨[(0,.ptr 0 0 0),(2,.ptr 1 0 0),(3,.ptr 2 0 0),(8,.int .i64 g1.1)],[(0,bx g1.2.1),(1,bx Queue.zero),(2,⟨false,8,Queue.enc Queue.zero,[[.str g1.2.2.resource.name,.int .i64 g1.2.2.resource.kind,.int .i64 g1.2.2.resource.units,.int .i64 g1.2.2.resource.home,.own 3 0 g1.2.2.holds.length,.own 4 0 g1.2.2.converts.length,.own 5 0 g1.2.2.waits.length,.int .i64 g1.2.2.gen]]⟩),(3,sx g1.2.2.holds),(4,sx g1.2.2.converts),(5,sx g1.2.2.waits)],6⟩
@[reducible,instance] def zdS0 (j1:decoder×Queue) {T1:Type} (v7:T1):=mkJ (zE1 j1,v7) 2 (@zE0.eq_1) fun (j2:decoder×Queue)=>⟨[(0,.ptr 0 0 0),(2,.ptr 1 0 0),(3,.ptr 2 0 0)],[(0,bx j2.1),(1,bx Queue.zero),(2,⟨false,8,Queue.enc Queue.zero,[[.str j2.2.resource.name,.int .i64 j2.2.resource.kind,.int .i64 j2.2.resource.units,.int .i64 j2.2.resource.home,.own 3 0 j2.2.holds.length,.own 4 0 j2.2.converts.length,.own 5 0 j2.2.waits.length,.int .i64 j2.2.gen]]⟩),(3,sx j2.2.holds),(4,sx j2.2.converts),(5,sx j2.2.waits)],6⟩
@[reducible,instance] def zdS1 {T:Type} (x:T):=mkL x (@zy9.eq_1) fun (g2:Int×decoder×Queue)=>⟨[(0,.ptr 0 0 0),(2,.ptr 1 0 0),(3,.ptr 2 0 0),(6,.int .i64 g2.1)],[(0,bx g2.2.1),(1,bx Queue.zero),(2,⟨false,8,Queue.enc Queue.zero,[[.str g2.2.2.resource.name,.int .i64 g2.2.2.resource.kind,.int .i64 g2.2.2.resource.units,.int .i64 g2.2.2.resource.home,.own 3 0 g2.2.2.holds.length,.own 4 0 g2.2.2.converts.length,.own 5 0 g2.2.2.waits.length,.int .i64 g2.2.2.gen]]⟩),(3,sx g2.2.2.holds),(4,sx g2.2.2.converts),(5,sx g2.2.2.waits)],6⟩
@[reducible,instance] def zdS2 (a0:decoder) {T1:Type} (v1:T1) {T2:Type} (v2:T2) {T3:Type} (v3:T3) {T4:Type} (v4:T4) {T5:Type} (v5:T5) {T6:Type} (v6:T6):=mkJ ((((((zg0 a0,v1),v2),v3),v4),v5),v6) 0 (@zE1.eq_1) fun (j1:decoder×Queue)=>⟨[(0,.ptr 0 0 0),(2,.ptr 1 0 0),(3,.ptr 2 0 0)],[(0,bx j1.1),(1,bx Queue.zero),(2,⟨false,8,Queue.enc Queue.zero,[[.str j1.2.resource.name,.int .i64 j1.2.resource.kind,.int .i64 j1.2.resource.units,.int .i64 j1.2.resource.home,.own 3 0 j1.2.holds.length,.own 4 0 j1.2.converts.length,.own 5 0 j1.2.waits.length,.int .i64 j1.2.gen]]⟩),(3,sx j1.2.holds),(4,sx j1.2.converts),(5,sx j1.2.waits)],6⟩
@[reducible,instance] def zdS3 {T:Type} (x:T):=mkL x (@zz0.eq_1) fun (g3:Int×decoder×Queue)=>⟨[(0,.ptr 0 0 0),(2,.ptr 1 0 0),(3,.ptr 2 0 0),(4,.int .i64 g3.1)],[(0,bx g3.2.1),(1,bx Queue.zero),(2,⟨false,8,Queue.enc Queue.zero,[[.str g3.2.2.resource.name,.int .i64 g3.2.2.resource.kind,.int .i64 g3.2.2.resource.units,.int .i64 g3.2.2.resource.home,.own 3 0 g3.2.2.holds.length,.own 4 0 g3.2.2.converts.length,.own 5 0 g3.2.2.waits.length,.int .i64 g3.2.2.gen]]⟩),(3,sx g3.2.2.holds),(4,sx g3.2.2.converts),(5,sx g3.2.2.waits)],6⟩
instance zbC4 (a0:decoder):OkM (zg0 a0) 34 [.ptr 0 0 0] [(0,bx a0)] 1 (fun r=>ga r.1) (fun r=>[(0,bx r.2)]) 1:=⟨fun r h=>by
 refine zaC5 Tryz.f34 [(3,114)] [ga r.1] fun E hG hN hK=>?_
 have hm:Mk (zg0 a0):=trivial
 unfold zg0 at h
 refine za2 (za9 hG ?_)
 refine za2 (za9 hG ?_)
 refine g_gh (.ownb 2 4 5 (Hold.enc Hold.zero)) ?_
 refine g_gh (.ownb 2 5 7 (Wait.enc Wait.zero)) ?_
 refine g_gh (.ownb 2 6 7 (Wait.enc Wait.zero)) ?_
 refine za2 (za9 hG ?_)
 obtain ⟨v1,hv1,h⟩:=zf1 h
 have hm:=mkP hm v1
 refine zu2 [(0,0)] [] [0] ((zai4 a0).ok _ hv1) rfl rfl ?_
 refine za2 (za9 hG ?_)
 obtain ⟨v2,hv2,h⟩:=zf1 h
 have hm:=mkP hm v2
 refine zu2 [(0,0)] [] [0] ((zz9 v1.2).ok _ hv2) rfl rfl ?_
 refine za2 (za9 hG ?_)
 obtain ⟨v3,hv3,h⟩:=zf1 h
 have hm:=mkP hm v3
 refine zu2 [(0,0)] [] [0] ((zz9 v2.2).ok _ hv3) rfl rfl ?_
 refine za2 (za9 hG ?_)
 obtain ⟨v4,hv4,h⟩:=zf1 h
 have hm:=mkP hm v4
 refine zu2 [(0,0)] [] [0] ((zz9 v3.2).ok _ hv4) rfl rfl ?_
 refine za2 (za9 hG ?_)
 obtain ⟨v5,hv5,h⟩:=zf1 h
 have hm:=mkP hm v5
 refine zu2 [(0,0)] [] [0] ((zz9 v4.2).ok _ hv5) rfl rfl ?_
 refine za2 (za2 (za9 hG ?_))
 obtain ⟨v6,hv6,h⟩:=zf1 h
 have hm:=mkP hm v6
 refine zu2 [(0,0)] [] [0] ((zG1 8 v5.2).ok _ hv6) rfl rfl ?_
 refine zao7 hm h (fun j1 hm h=>?_) ?_
 · try refine g_st ?_
   refine za2 (za2 (za9 hG ?_))
   obtain ⟨v7,hv7,h⟩:=zf1 h
   have hm:=mkP hm v7
   refine zu2 [(0,0)] [] [0] ((zG1 8 j1.1).ok _ hv7) rfl rfl ?_
   refine zao7 hm h (fun j2 hm h=>?_) ?_
   · try refine g_st ?_
     refine za2 (za2 (za9 hG ?_))
     obtain ⟨v8,hv8,h⟩:=zf1 h
     have hm:=mkP hm v8
     refine zu2 [(0,0)] [] [0] ((zG1 8 j2.1).ok _ hv8) rfl rfl ?_
     refine zao7 hm h (fun j3 hm h=>?_) ?_
     · try refine g_st ?_
       refine za2 (za9 hG ?_)
       refine g_gh (.fz [3,4,5]) ?_
       exact gogo
     exact gogo
   exact gogo
 exact gogo⟩
attribute [local irreducible] zg0
def zaz0 (a0:Resource) (a1:List Hold) (j1:Unit):Option Bool :=
 (zh0 a1).bind fun v1 =>
 (zk7 a0 v1).bind fun v2 =>
 some v2
def zad6 (a0:Resource) (a1:List Hold) (g1:Int):Option (Int⊕(Unit⊕Bool)) :=
 (if (decide (g1 < (a1.length:Int)))=true then
  gd (0≤g1∧g1 < (a1.length:Int)) <|
  gd (zm6 ((a1.getD g1.toNat Hold.zero).proc)=true→0≤g1∧g1 < (a1.length:Int)) <|
  gd (((!((!(zm6 ((a1.getD g1.toNat Hold.zero).proc)))||(!(zt6 a0 ((a1.getD g1.toNat Hold.zero).amount)))))&&decide (0 < g1))=true→0≤i64.wrap (g1 - 1)∧i64.wrap (g1 - 1) < (a1.length:Int)) <|
  gd (((!((!(zm6 ((a1.getD g1.toNat Hold.zero).proc)))||(!(zt6 a0 ((a1.getD g1.toNat Hold.zero).amount)))))&&decide (0 < g1))=true→0≤g1∧g1 < (a1.length:Int)) <|
  (if (((!(zm6 ((a1.getD g1.toNat Hold.zero).proc)))||(!(zt6 a0 ((a1.getD g1.toNat Hold.zero).amount))))||(decide (0 < g1)&&decide (0≤zt4 ((a1.getD ((i64.wrap (g1 - 1)).toNat) Hold.zero).proc) ((a1.getD g1.toNat Hold.zero).proc))))=true then
   some (.inr (.inr false))
  else
   some (.inl (i64.wrap (g1+1))))
 else
  some (.inr (.inl ())))
def zt8 (a0:Resource) (a1:List Hold):Option Bool :=
 (if ((!(zJ0 a0))||decide (8 < (a1.length:Int)))=true then
  some false
 else
  (zc0 (zad6 a0 a1) 0).bind (fun|.inl z=>zaz0 a0 a1 z|.inr z=>some z))
@[reducible,instance] def zdS4 (a0:Resource) (a1:List Hold):=mkJ (zt8 a0 a1) 0 (@zaz0.eq_1 a0 a1) fun (j1:Unit)=>⟨[(1,la a1),(2,.ptr 0 0 0)],[(0,bx a0)],1⟩
@[reducible,instance] def zdS5 (a0:Resource) (a1:List Hold) {T:Type} (x:T):=mkL x (@zad6.eq_1 a0 a1) fun (g1:Int)=>⟨[(1,la a1),(2,.ptr 0 0 0),(5,.int .i64 g1)],[(0,bx a0)],1⟩
instance zcY8 (a0:Resource) (a1:List Hold):OkP (zt8 a0 a1) 215 [ga a0,la a1] (fun r=>.bool r):=ok1 (zt8.eq_1 a0 a1) Tryz.f215 []
attribute [local irreducible] zt8
def zu8 (a0:Ledger) (a1:Entry):Option (Ledger×Int) :=
 (zo6 a0).bind fun v1 =>
 (if (!v1)=true then
  some ({ Ledger.zero with  },2)
 else
  gd (a0.entries.length≤4294967296) <|
  gd (a0.entries.length+1≤4294967296) <|
  gd (a0.saves.length≤4294967296) <|
  (zo6 (⟨(a0.entries++[a1]),a0.saves⟩:Ledger)).bind fun v2 =>
  (if (!v2)=true then
   some ({ Ledger.zero with  },1)
  else
   some ((⟨(a0.entries++[a1]),a0.saves⟩:Ledger),0)))
instance zcR3 (a0:Ledger) (a1:Entry):OkP (zu8 a0 a1) 252 [ga a0,ga a1] (fun r=>.tup [ga r.1,.int .i64 r.2]):=ok1 (zu8.eq_1 a0 a1) Tryz.f252 [(11,1),(18,1),(22,2)]
attribute [local irreducible] zu8
def zaF5 (a0:Ledger) (j1:Int×Int) (j2:(List Atom)):Option (Ledger×(List Atom)×Int) :=
 some ((⟨(a0.entries.take j1.1.toNat),a0.saves.take j1.2.toNat⟩:Ledger),j2,0)
@[go_sem] def zds4 (a0:Ledger) (j1:Int×Int) (j2:(List Atom)):St:=⟨[(4,.ptr 0 0 0),(10,.ptr 1 0 0),(11,.own 2 0 j2.length)],[(0,bx Ledger.zero),(1,⟨false,2,Ledger.enc Ledger.zero,[[.own 3 0 (((⟨(a0.entries.take j1.1.toNat),a0.saves.take j1.2.toNat⟩:Ledger).entries).length),.own 4 0 (((⟨(a0.entries.take j1.1.toNat),a0.saves.take j1.2.toNat⟩:Ledger).saves).length)]]⟩),(2,sx j2),(3,sx ((⟨(a0.entries.take j1.1.toNat),a0.saves.take j1.2.toNat⟩:Ledger).entries)),(4,sx ((⟨(a0.entries.take j1.1.toNat),a0.saves.take j1.2.toNat⟩:Ledger).saves))],5⟩
def zah3 (a0:Ledger) (j1:Int×Int) (v2:(List ByteArray)) (g1:Int×(List Atom)):Option ((Int×(List Atom))⊕(List Atom)) :=
 (if (decide (g1.1 < (v2.length:Int)))=true then
  gd (0≤g1.1∧g1.1 < (v2.length:Int)) <|
  gd (0≤g1.1∧g1.1 < (v2.length:Int)) <|
  (zi6 ((⟨(a0.entries.take j1.1.toNat),a0.saves.take j1.2.toNat⟩:Ledger).entries) (v2.getD g1.1.toNat ⟨#[]⟩)).bind fun v3 =>
  gd (g1.2.length+1≤4294967296) <|
  some (.inl ((i64.wrap (g1.1+1)),(g1.2++[(⟨(v2.getD g1.1.toNat ⟨#[]⟩),v3⟩:Atom)])))
 else
  some (.inr g1.2))
@[go_sem] def zds5 (a0:Ledger) (j1:Int×Int) (v2:(List ByteArray)) (g1:Int×(List Atom)):St:=⟨[(4,.ptr 0 0 0),(10,.ptr 1 0 0),(11,.own 2 0 g1.2.length),(12,.sl (v2.map eS)),(13,.int .i64 g1.1)],[(0,bx Ledger.zero),(1,⟨false,2,Ledger.enc Ledger.zero,[[.own 3 0 (((⟨(a0.entries.take j1.1.toNat),a0.saves.take j1.2.toNat⟩:Ledger).entries).length),.own 4 0 (((⟨(a0.entries.take j1.1.toNat),a0.saves.take j1.2.toNat⟩:Ledger).saves).length)]]⟩),(2,sx g1.2),(3,sx ((⟨(a0.entries.take j1.1.toNat),a0.saves.take j1.2.toNat⟩:Ledger).entries)),(4,sx ((⟨(a0.entries.take j1.1.toNat),a0.saves.take j1.2.toNat⟩:Ledger).saves))],5⟩
def zY2 (a0:Ledger) (j1:Int×Int):Option (Ledger×(List Atom)×Int) :=
 gd (0≤0∧0≤j1.1∧j1.1≤(a0.entries.length:Int)) <|
 gd ((a0.entries.take j1.1.toNat).length≤4294967296) <|
 gd (0≤0∧0≤j1.2∧j1.2≤(a0.saves.length:Int)) <|
 gd ((a0.saves.take j1.2.toNat).length≤4294967296) <|
 gd (0≤j1.1∧j1.1≤(a0.entries.length:Int)∧(a0.entries.length:Int)≤(a0.entries.length:Int)) <|
 (zi3 (a0.entries.drop j1.1.toNat)).bind fun v2 =>
 (zc0 (zah3 a0 j1 v2) (0,[])).bind (fun z=>zaF5 a0 j1 z)
@[go_sem] def zds6 (a0:Ledger) (j1:Int×Int):St:=⟨[(2,.ptr 0 0 0),(4,.ptr 1 0 0),(7,.int .i64 j1.1),(8,.int .i64 j1.2)],[(0,bx a0),(1,bx Ledger.zero)],2⟩
def zx2 (a0:Ledger) (a1:Int):Option (Ledger×(List Atom)×Int) :=
 (zo6 a0).bind fun v1 =>
 (if (!v1)=true then
  some ({ Ledger.zero with  },[],2)
 else
  (if (!decide (a1=0))=true then
   (zk5 a0.saves a1).bind fun v4 =>
   (if (decide (v4 < 0))=true then
    some ({ Ledger.zero with  },[],10)
   else
    gd (0≤v4∧v4 < (a0.saves.length:Int)) <|
    zY2 a0 ((a0.saves.getD v4.toNat Save.zero).at_,i64.wrap (v4+1)))
  else
   zY2 a0 (0,0)))
theorem zbV2 (a0:Ledger) (a1:Int) (r:Ledger×(List Atom)×Int) (h:zx2 a0 a1=some r):PFn C 255 [ga a0,.int .i64 a1] (.tup [ga r.1,la r.2.1,.int .i64 r.2.2]):=by
 refine zag9 Tryz.f255 [(35,1),(41,1),(47,2),(11,1)] fun E hG hN hK=>?_
 unfold zx2 at h
 refine za2 (za9 hG ?_)
 refine za2 (za2 (za9 hG ?_))
 obtain ⟨v1,hv1,h⟩:=zf1 h
 refine zu6 (fun hg=>(zbd8 a0).ok _ hv1) ?_
 refine zo2 rfl hG h (fun _ h=>?_) (fun _ h=>?_)
 · refine za2 (za9 hG ?_)
   refine zw3 ?_
   exact zW9 h
 refine zn4 ?_
 refine za2 (za9 hG ?_)
 refine za2 (za2 (za9 hG ?_))
 refine zbh2 (zds6 a0) (fun v=>zY2 a0 v=some r) rfl hG h ?_ (fun _ h=>?_) (fun _ h=>?_)
 · intro j1 h
   unfold zY2 at h
   refine g_st ?_
   refine za2 ?_
   obtain ⟨hb5,h⟩:=zg5 h
   obtain ⟨hb6,h⟩:=zg5 h
   obtain ⟨hb7,h⟩:=zg5 h
   obtain ⟨hb8,h⟩:=zg5 h
   refine zaF0 zL7 hG ?_
   refine za2 (za9 hG ?_)
   refine za2 ?_
   obtain ⟨hb4,h⟩:=zg5 h
   refine za9 hG ?_
   obtain ⟨v2,hv2,h⟩:=zf1 h
   refine zu6 (fun hg=>(zbL9 (a0.entries.drop j1.1.toNat)).ok _ hv2) ?_
   refine za2 (za2 (za9 hG ?_))
   refine zP5 (zds4 a0 j1) (fun v=>zaF5 a0 j1 v=some r) ?_ ?_
   · intro j2 h
     unfold zaF5 at h
     refine g_st ?_
     refine za2 (za9 hG ?_)
     refine zw3 ?_
     exact zW9 h
   refine zao1 (zds5 a0 j1 v2) hK [(0,1),(1,6),(2,7),(3,3),(4,5)] h (fun x_l1 h g1 y_l1 h_l1 hx_l1=>?_)
   unfold zah3 at h_l1
   refine g_st ?_
   refine za2 (za2 (za9 hG ?_))
   refine zo2 rfl hG h_l1 (fun _ h_l1=>?_) (fun _ h_l1=>?_)
   · refine zn4 ?_
     refine za2 (zI8 ?_)
     obtain ⟨hb2,h_l1⟩:=zg5 h_l1
     obtain ⟨hb3,h_l1⟩:=zg5 h_l1
     refine zaF0 zL7 hG ?_
     obtain ⟨v3,hv3,h_l1⟩:=zf1 h_l1
     obtain ⟨hb1,h_l1⟩:=zg5 h_l1
     refine zal5 (fun hg=>(zbU5 ((⟨(a0.entries.take j1.1.toNat),a0.saves.take j1.2.toNat⟩:Ledger).entries) (v2.getD g1.1.toNat ⟨#[]⟩)).ok _ hv3) ?_
     refine za9 hG ?_
     exact zX1 hK [(0,0),(1,1),(2,5),(3,3),(4,4)] h_l1
   refine zR6 ?_
   cases h_l1
   cases hx_l1 _ rfl
   exact zI1 hK [(0,0),(1,1),(2,2),(3,3),(4,4)] g1.2 (by exact h)
 · refine za2 (za9 hG ?_)
   obtain ⟨v4,hv4,h⟩:=zf1 h
   refine zu6 (fun hg=>(zbU6 a0.saves a1).ok _ hv4) ?_
   refine za2 (za2 (za9 hG ?_))
   refine zo2 rfl hG h (fun _ h=>?_) (fun _ h=>?_)
   · refine za2 (za9 hG ?_)
     refine zw3 ?_
     exact zW9 h
   refine zn4 ?_
   obtain ⟨hb9,h⟩:=zg5 h
   refine za9 hG ?_
   exact zI1 hK [(0,0),(1,1)] ((a0.saves.getD v4.toNat Save.zero).at_,i64.wrap (v4+1)) (by exact h)
 refine zn4 ?_
 exact zI1 hK [(0,0),(1,1)] (0,0) (by exact h)
attribute [local irreducible] zx2
end
end Ab
end Go.Proofs.YtcggeefhhegeoaaGreatDoor
