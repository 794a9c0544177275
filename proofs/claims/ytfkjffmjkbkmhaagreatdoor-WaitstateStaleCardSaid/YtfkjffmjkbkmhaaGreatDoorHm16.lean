import Derived.Test.YtfkjffmjkbkmhaaGreatDoorHm13
import Derived.Test.YtfkjffmjkbkmhaaGreatDoorHm15
import Derived.Test.YtfkjffmjkbkmhaaGreatDoorSort
namespace Go.Proofs.YtfkjffmjkbkmhaaGreatDoor
namespace Ab
open IntKind (i64 u64 u8)
set_option linter.unusedSimpArgs false
set_option linter.defProp false
set_option linter.unusedVariables false
set_option maxRecDepth 100000
set_option maxHeartbeats 1000000
noncomputable section
attribute [local irreducible] zl7 zl8 zb2 za3 zd9 za8 zm2 zj6 zg1 zg2 zf8 zb1 zf5 zg6 zj1 ze3 za9 zj4 zi1 zh6 zg4 zf2 zc4 zi7 zb0 zf0 zl9 zh2 zm6 zh3 zi2 zk8 zn7 zm0 f_ref08_holds zc3 zk9 ze0 zm3 zf7 zh4 zf6 zb3 zl0 za0 ze7 zi5 ze8 zj3 zd7 zg5 zb4 zb5 zf1 zh7 zm8 zd3 zh9 zn6 zk3 zc9 zq5 za1 zi6 zg3 zd8 zn8 zc0 zd5 zf3 zp8 zo8 ze4 zk2 zb7 zh8 zd6 zp2 zd0 zb8 zs6 zj0 zn9 zj2 zp3 zl1 zh1 zq0 zl5 zu2 zg8 zb6 ze6 zk4 zi9 zf9 zj5 zp4 zg9 zi3 ze5 ze2 zq7 zt2 zi4 zl2 zs8 zt1 zs9 zm1 zt7 zs2 zf4 zr3 zt8 zp5 zd4 zq8 zo0 zh5 zd2 zi8 za7
def zan5 (j1:Unit):Option Bool :=
 some true
def zz2 (a0:aA) (g1:Int):Option (Int⊕(Unit⊕Bool)) :=
 (if (decide (g1 < (a0.aO.length:Int)))=true then
  gd (0≤g1∧g1 < (a0.aO.length:Int)) <|
  (zn8 a0 ((a0.aO.getD g1.toNat aT.zero).aJ)).bind fun v1 =>
  (zm3 a0.aO ((a0.aO.getD g1.toNat aT.zero).aJ)).bind fun v2 =>
  (if ((!decide (v2=g1))||zj7 v1)=true then
   some (.inr (.inr false))
  else
   ((if (za4 a0.aB ((a0.aO.getD g1.toNat aT.zero).aN))=true then zs2 a0.aB ((a0.aO.getD g1.toNat aT.zero).aN) v1 else some false)).bind fun v3 =>
   (if (((!(za4 a0.aB ((a0.aO.getD g1.toNat aT.zero).aN)))||(!v3))||decide ((a0.aO.getD g1.toNat aT.zero).aN=v1))=true then
    some (.inr (.inr false))
   else
    (if ((!decide ((a0.aO.getD g1.toNat aT.zero).bC=0))||(!decide ((a0.aO.getD g1.toNat aT.zero).bR=0)))=true then
     some (.inr (.inr false))
    else
     some (.inl (i64.wrap (g1+1))))))
 else
  some (.inr (.inl ())))
def zq6 (a0:aA):Option Bool :=
 (if (decide (8 < (a0.aO.length:Int)))=true then
  some false
 else
  (zb9 (zz2 a0) 0).bind (fun|.inl z=>zan5 z|.inr z=>some z))
@[reducible,instance] def zea5 a0:=mkJ (zq6 a0) 0 (@zan5.eq_1) fun (j1:Unit)=>⟨[],[],0⟩
@[reducible,instance] def zea6 (a0:aA) {T:Type} (x:T):=mkL x (@zz2.eq_1 a0) fun (g1:Int)=>⟨[(1,.ptr 0 0 0),(11,la a0.aO),(12,.int .i64 (a0.aO.length:Int)),(13,.int .i64 g1)],[(0,bx a0)],1⟩
instance zcd8 (a0:aA):OkP (zq6 a0) 166 [ga a0] (fun r=>.bool r):=ok1 (zq6.eq_1 a0) Tryz.f166 []
attribute [local irreducible] zq6
def zaa3 (j3:bD×aA):Option (aA×bD) :=
 some (j3.2,j3.1)
def zaa4 (g1:Int×bD×aA):Option ((Int×bD×aA)⊕(bD×aA)) :=
 (if (decide (0 < g1.1)&&decide (g1.2.1.bO.err=0))=true then
  (zh5 g1.2.1).bind fun v9 =>
  (zf4 v9.2).bind fun v10 =>
  (zb8 v10.2).bind fun v11 =>
  (zb8 v11.2).bind fun v12 =>
  gd (g1.2.2.aS.length+1≤4294967296) <|
  some (.inl ((i64.wrap (g1.1 - 1)),v12.2,(⟨(⟨g1.2.2.aB.name,g1.2.2.aB.kind,g1.2.2.aB.aR,g1.2.2.aB.home⟩:aI),g1.2.2.aQ,g1.2.2.aO,(g1.2.2.aS++[{ { { { aT.zero with aJ:=v9.1 } with aN:=v10.1 } with bC:=v11.1 } with bR:=v12.1 }]),g1.2.2.gen⟩:aA)))
 else
  some (.inr (g1.2.1,g1.2.2)))
def zK6 (j2:bD×aA):Option (aA×bD) :=
 (zd0 8 j2.1).bind fun v8 =>
 (zb9 zaa4 (v8.1,v8.2,j2.2)).bind (fun z=>zaa3 z)
def zaa5 (g2:Int×bD×aA):Option ((Int×bD×aA)⊕(bD×aA)) :=
 (if (decide (0 < g2.1)&&decide (g2.2.1.bO.err=0))=true then
  (zh5 g2.2.1).bind fun v13 =>
  (zf4 v13.2).bind fun v14 =>
  gd (g2.2.2.aO.length+1≤4294967296) <|
  some (.inl ((i64.wrap (g2.1 - 1)),v14.2,(⟨(⟨g2.2.2.aB.name,g2.2.2.aB.kind,g2.2.2.aB.aR,g2.2.2.aB.home⟩:aI),g2.2.2.aQ,(g2.2.2.aO++[{ aT.zero with aJ:=v13.1,aN:=v14.1 }]),g2.2.2.aS,g2.2.2.gen⟩:aA)))
 else
  some (.inr (g2.2.1,g2.2.2)))
def zK7 (j1:bD×aA):Option (aA×bD) :=
 (zd0 8 j1.1).bind fun v7 =>
 (zb9 zaa5 (v7.1,v7.2,j1.2)).bind (fun z=>zK6 z)
def zaa6 (g3:Int×bD×aA):Option ((Int×bD×aA)⊕(bD×aA)) :=
 (if (decide (0 < g3.1)&&decide (g3.2.1.bO.err=0))=true then
  (zh5 g3.2.1).bind fun v15 =>
  (zf4 v15.2).bind fun v16 =>
  gd (g3.2.2.aQ.length+1≤4294967296) <|
  some (.inl ((i64.wrap (g3.1 - 1)),v16.2,(⟨(⟨g3.2.2.aB.name,g3.2.2.aB.kind,g3.2.2.aB.aR,g3.2.2.aB.home⟩:aI),(g3.2.2.aQ++[(⟨v15.1,v16.1⟩:aV)]),g3.2.2.aO,g3.2.2.aS,g3.2.2.gen⟩:aA)))
 else
  some (.inr (g3.2.1,g3.2.2)))
def zn5 (a0:bD):Option (aA×bD) :=
 (ze5 a0).bind fun v1 =>
 (zb8 v1.2).bind fun v2 =>
 (zb8 v2.2).bind fun v3 =>
 (zb8 v3.2).bind fun v4 =>
 (zb8 v4.2).bind fun v5 =>
 (zd0 8 v5.2).bind fun v6 =>
 (zb9 zaa6 (v6.1,v6.2,(⟨(⟨v1.1,v2.1,v3.1,v4.1⟩:aI),[],[],[],v5.1⟩:aA))).bind (fun z=>zK7 z)
@[reducible,instance] def zdO7 (j2:bD×aA) {T1:Type} (v8:T1):=mkJ (zK6 j2,v8) 4 (@zaa3.eq_1) fun (j3:bD×aA)=>⟨[(2,.ptr 1 0 0),(3,.ptr 2 0 0)],[(0,bx j3.1),(1,bx aA.zero),(2,⟨false,8,aA.enc aA.zero,[[.str j3.2.aB.name,.int .i64 j3.2.aB.kind,.int .i64 j3.2.aB.aR,.int .i64 j3.2.aB.home,.own 3 0 j3.2.aQ.length,.own 4 0 j3.2.aO.length,.own 5 0 j3.2.aS.length,.int .i64 j3.2.gen]]⟩),(3,sx j3.2.aQ),(4,sx j3.2.aO),(5,sx j3.2.aS)],6⟩
@[reducible,instance] def zdO8 {T:Type} (x:T):=mkL x (@zaa4.eq_1) fun (g1:Int×bD×aA)=>⟨[(0,.ptr 0 0 0),(2,.ptr 1 0 0),(3,.ptr 2 0 0),(8,.int .i64 g1.1)],[(0,bx g1.2.1),(1,bx aA.zero),(2,⟨false,8,aA.enc aA.zero,[[.str g1.2.2.aB.name,.int .i64 g1.2.2.aB.kind,.int .i64 g1.2.2.aB.aR,.int .i64 g1.2.2.aB.home,.own 3 0 g1.2.2.aQ.length,.own 4 0 g1.2.2.aO.length,.own 5 0 g1.2.2.aS.length,.int .i64 g1.2.2.gen]]⟩),(3,sx g1.2.2.aQ),(4,sx g1.2.2.aO),(5,sx g1.2.2.aS)],6⟩
@[reducible,instance] def zdO9 (j1:bD×aA) {T1:Type} (v7:T1):=mkJ (zK7 j1,v7) 2 (@zK6.eq_1) fun (j2:bD×aA)=>⟨[(0,.ptr 0 0 0),(2,.ptr 1 0 0),(3,.ptr 2 0 0)],[(0,bx j2.1),(1,bx aA.zero),(2,⟨false,8,aA.enc aA.zero,[[.str j2.2.aB.name,.int .i64 j2.2.aB.kind,.int .i64 j2.2.aB.aR,.int .i64 j2.2.aB.home,.own 3 0 j2.2.aQ.length,.own 4 0 j2.2.aO.length,.own 5 0 j2.2.aS.length,.int .i64 j2.2.gen]]⟩),(3,sx j2.2.aQ),(4,sx j2.2.aO),(5,sx j2.2.aS)],6⟩
@[reducible,instance] def zdP0 {T:Type} (x:T):=mkL x (@zaa5.eq_1) fun (g2:Int×bD×aA)=>⟨[(0,.ptr 0 0 0),(2,.ptr 1 0 0),(3,.ptr 2 0 0),(6,.int .i64 g2.1)],[(0,bx g2.2.1),(1,bx aA.zero),(2,⟨false,8,aA.enc aA.zero,[[.str g2.2.2.aB.name,.int .i64 g2.2.2.aB.kind,.int .i64 g2.2.2.aB.aR,.int .i64 g2.2.2.aB.home,.own 3 0 g2.2.2.aQ.length,.own 4 0 g2.2.2.aO.length,.own 5 0 g2.2.2.aS.length,.int .i64 g2.2.2.gen]]⟩),(3,sx g2.2.2.aQ),(4,sx g2.2.2.aO),(5,sx g2.2.2.aS)],6⟩
@[reducible,instance] def zdP1 (a0:bD) {T1:Type} (v1:T1) {T2:Type} (v2:T2) {T3:Type} (v3:T3) {T4:Type} (v4:T4) {T5:Type} (v5:T5) {T6:Type} (v6:T6):=mkJ ((((((zn5 a0,v1),v2),v3),v4),v5),v6) 0 (@zK7.eq_1) fun (j1:bD×aA)=>⟨[(0,.ptr 0 0 0),(2,.ptr 1 0 0),(3,.ptr 2 0 0)],[(0,bx j1.1),(1,bx aA.zero),(2,⟨false,8,aA.enc aA.zero,[[.str j1.2.aB.name,.int .i64 j1.2.aB.kind,.int .i64 j1.2.aB.aR,.int .i64 j1.2.aB.home,.own 3 0 j1.2.aQ.length,.own 4 0 j1.2.aO.length,.own 5 0 j1.2.aS.length,.int .i64 j1.2.gen]]⟩),(3,sx j1.2.aQ),(4,sx j1.2.aO),(5,sx j1.2.aS)],6⟩
@[reducible,instance] def zdP2 {T:Type} (x:T):=mkL x (@zaa6.eq_1) fun (g3:Int×bD×aA)=>⟨[(0,.ptr 0 0 0),(2,.ptr 1 0 0),(3,.ptr 2 0 0),(4,.int .i64 g3.1)],[(0,bx g3.2.1),(1,bx aA.zero),(2,⟨false,8,aA.enc aA.zero,[[.str g3.2.2.aB.name,.int .i64 g3.2.2.aB.kind,.int .i64 g3.2.2.aB.aR,.int .i64 g3.2.2.aB.home,.own 3 0 g3.2.2.aQ.length,.own 4 0 g3.2.2.aO.length,.own 5 0 g3.2.2.aS.length,.int .i64 g3.2.2.gen]]⟩),(3,sx g3.2.2.aQ),(4,sx g3.2.2.aO),(5,sx g3.2.2.aS)],6⟩
instance zbB5 (a0:bD):OkM (zn5 a0) 41 [.ptr 0 0 0] [(0,bx a0)] 1 (fun r=>ga r.1) (fun r=>[(0,bx r.2)]) 1:=⟨fun r h=>by
 refine zax1 Tryz.f41 [(3,114)] [ga r.1] fun E hG hN hK=>?_
 have hm:Mk (zn5 a0):=trivial
 unfold zn5 at h
 refine za2 (za5 hG ?_)
 refine za2 (za5 hG ?_)
 refine g_gh (.ownb 2 4 5 (aV.enc aV.zero)) ?_
 refine g_gh (.ownb 2 5 7 (aT.enc aT.zero)) ?_
 refine g_gh (.ownb 2 6 7 (aT.enc aT.zero)) ?_
 refine za2 (za5 hG ?_)
 obtain ⟨v1,hv1,h⟩:=zc7 h
 have hm:=mkP hm v1
 refine zr6 [(0,0)] [] [0] ((zaf9 a0).ok _ hv1) rfl rfl ?_
 refine za2 (za5 hG ?_)
 obtain ⟨v2,hv2,h⟩:=zc7 h
 have hm:=mkP hm v2
 refine zr6 [(0,0)] [] [0] ((zy4 v1.2).ok _ hv2) rfl rfl ?_
 refine za2 (za5 hG ?_)
 obtain ⟨v3,hv3,h⟩:=zc7 h
 have hm:=mkP hm v3
 refine zr6 [(0,0)] [] [0] ((zy4 v2.2).ok _ hv3) rfl rfl ?_
 refine za2 (za5 hG ?_)
 obtain ⟨v4,hv4,h⟩:=zc7 h
 have hm:=mkP hm v4
 refine zr6 [(0,0)] [] [0] ((zy4 v3.2).ok _ hv4) rfl rfl ?_
 refine za2 (za5 hG ?_)
 obtain ⟨v5,hv5,h⟩:=zc7 h
 have hm:=mkP hm v5
 refine zr6 [(0,0)] [] [0] ((zy4 v4.2).ok _ hv5) rfl rfl ?_
 refine za2 (za2 (za5 hG ?_))
 obtain ⟨v6,hv6,h⟩:=zc7 h
 have hm:=mkP hm v6
 refine zr6 [(0,0)] [] [0] ((zE0 8 v5.2).ok _ hv6) rfl rfl ?_
 refine zat9 hm h (fun j1 hm h=>?_) ?_
 · try refine g_st ?_
   refine za2 (za2 (za5 hG ?_))
   obtain ⟨v7,hv7,h⟩:=zc7 h
   have hm:=mkP hm v7
   refine zr6 [(0,0)] [] [0] ((zE0 8 j1.1).ok _ hv7) rfl rfl ?_
   refine zat9 hm h (fun j2 hm h=>?_) ?_
   · try refine g_st ?_
     refine za2 (za2 (za5 hG ?_))
     obtain ⟨v8,hv8,h⟩:=zc7 h
     have hm:=mkP hm v8
     refine zr6 [(0,0)] [] [0] ((zE0 8 j2.1).ok _ hv8) rfl rfl ?_
     refine zat9 hm h (fun j3 hm h=>?_) ?_
     · try refine g_st ?_
       refine za2 (za5 hG ?_)
       refine g_gh (.fz [3,4,5]) ?_
       exact gogo
     exact gogo
   exact gogo
 exact gogo⟩
attribute [local irreducible] zn5
def zI1 (a0:List aI) (j1:bL×bK):Option (bK×bL) :=
 (zs9 a0 j1.1).bind fun v3 =>
 some ({ j1.2 with bP:=v3.1 },v3.2)
@[go_sem] def zdt2 (a0:List aI) (j1:bL×bK):St:=⟨[(0,.ptr 0 0 0),(1,la a0),(4,.ptr 1 0 0),(5,.ptr 2 0 0)],[(0,bx j1.1),(1,bx bK.zero),(2,bx j1.2)],3⟩
def zv8 (a0:List aI) (a1:bL):Option (bK×bL) :=
 (zb7 8 a1).bind fun v1 =>
 (zb7 5 v1.2).bind fun v2 =>
 (if (decide (v2.1=1))=true then
  (zb7 20 v2.2).bind fun v4 =>
  zI1 a0 (v4.2,{ { bK.zero with bC:=v1.1 } with limit:=(i64.wrap (1+v4.1)) })
 else
  zI1 a0 (v2.2,{ bK.zero with bC:=v1.1 }))
theorem zbo1 (a0:List aI) (a1:bL) (r:bK×bL) (h:zv8 a0 a1=some r):MFn C 150 [.ptr 0 0 0,la a0] [(0,bx a1)] 1 (ga r.1) [(0,bx r.2)] 1:=by
 refine zax1 Tryz.f150 [] [ga r.1] fun E hG hN hK=>?_
 unfold zv8 at h
 refine za2 (za5 hG ?_)
 refine za2 (za5 hG ?_)
 obtain ⟨v1,hv1,h⟩:=zc7 h
 refine zr6 [(0,0)] [] [0] ((zt0 8 a1).ok _ hv1) rfl rfl ?_
 refine za2 (za2 (za5 hG ?_))
 obtain ⟨v2,hv2,h⟩:=zc7 h
 refine zr6 [(0,0)] [] [0] ((zt0 5 v1.2).ok _ hv2) rfl rfl ?_
 refine zbh3 (zdt2 a0) (fun v=>zI1 a0 v=some r) rfl hG h ?_ (fun _ h=>?_) (fun _ h=>?_)
 · intro j1 h
   unfold zI1 at h
   refine g_st ?_
   refine za2 (za5 hG ?_)
   obtain ⟨v3,hv3,h⟩:=zc7 h
   refine zr6 [(0,0)] [] [0] ((zbD2 a0 j1.1).ok _ hv3) rfl rfl ?_
   refine za2 (za5 hG ?_)
   refine zt4 ?_
   exact zO9 [(0,0)] h
 · refine za5 hG ?_
   obtain ⟨v4,hv4,h⟩:=zc7 h
   refine zr6 [(0,0)] [] [0] ((zt0 20 v2.2).ok _ hv4) rfl rfl ?_
   exact zA9 hK [(0,0),(1,1),(2,2)] (v4.2,{ { bK.zero with bC:=v1.1 } with limit:=(i64.wrap (1+v4.1)) }) (by exact h)
 refine zk1 ?_
 exact zA9 hK [(0,0),(1,1),(2,2)] (v2.2,{ bK.zero with bC:=v1.1 }) (by exact h)
instance zcw7 (a0:List aI) (a1:bL):OkM (zv8 a0 a1) 150 [.ptr 0 0 0,la a0] [(0,bx a1)] 1 (fun r=>ga r.1) (fun r=>[(0,bx r.2)]) 1:=⟨zbo1 a0 a1⟩
attribute [local irreducible] zv8
def zay8 (j1:(List aK)):Option (List aK) :=
 (zj0 j1).bind fun v1 =>
 some v1
def zaa7 (a0:List aA) (g1:Int×(List aK)):Option ((Int×(List aK))⊕(List aK)) :=
 (if (decide (g1.1 < (a0.length:Int)))=true then
  gd (0≤g1.1∧g1.1 < (a0.length:Int)) <|
  (zt7 (a0.getD g1.1.toNat aA.zero)).bind fun v2 =>
  gd (g1.2.length+v2.length≤4294967296) <|
  some (.inl ((i64.wrap (g1.1+1)),(g1.2++v2)))
 else
  some (.inr g1.2))
def zy2 (a0:List aA):Option (List aK) :=
 (zb9 (zaa7 a0) (0,[])).bind (fun z=>zay8 z)
@[reducible,instance] def zdP3 a0:=mkJ (zy2 a0) 0 (@zay8.eq_1) fun (j1:(List aK))=>⟨[(3,.own 0 0 j1.length)],[(0,sx j1)],1⟩
@[reducible,instance] def zdP4 (a0:List aA) {T:Type} (x:T):=mkL x (@zaa7.eq_1 a0) fun (g1:Int×(List aK))=>⟨[(0,la a0),(3,.own 0 0 g1.2.length),(4,.int .i64 g1.1)],[(0,sx g1.2)],1⟩
instance zcX5 (a0:List aA):OkP (zy2 a0) 87 [la a0] (fun r=>la r):=ok1 (zy2.eq_1 a0) Tryz.f87 [(3,1)]
attribute [local irreducible] zy2
def zG9 (a0:aW) (a1:Int):Option (aW×Int) :=
 (zp5 a0).bind fun v1 =>
 (if (!v1)=true then
  some ({ aW.zero with  },2)
 else
  (if (decide (a1 < 1)||decide (99 < a1))=true then
   some ({ aW.zero with  },1)
  else
   (zk8 a0.aY a1).bind fun v2 =>
   (if (decide (0≤v2))=true then
    some ({ aW.zero with  },11)
   else
    (if (decide ((a0.aY.length:Int)=4))=true then
     some ({ aW.zero with  },4)
    else
     gd (a0.aH.length≤4294967296) <|
     gd (a0.aY.length≤4294967296) <|
     gd (a0.aY.length+1≤4294967296) <|
     some ((⟨a0.aH,(a0.aY++[(⟨a1,(a0.aH.length:Int)⟩:bN)])⟩:aW),0)))))
instance zdh1 (a0:aW) (a1:Int):OkP (zG9 a0 a1) 210 [ga a0,.int .i64 a1] (fun r=>.tup [ga r.1,.int .i64 r.2]):=ok1 (zG9.eq_1 a0 a1) Tryz.f210 [(28,1),(32,1),(43,2)]
attribute [local irreducible] zG9
def zaZ5 (j1:Unit):Option Bool :=
 some true
def zP3 (a0:List aT) (g1:Int):Option (Int⊕(Unit⊕Bool)) :=
 (if (decide (g1 < (a0.length:Int)))=true then
  gd (0≤g1∧g1 < (a0.length:Int)) <|
  ((if (zk5 (a0.getD g1.toNat aT.zero))=true then zm3 a0 ((a0.getD g1.toNat aT.zero).aJ) else some 0)).bind fun v1 =>
  (if ((!(zk5 (a0.getD g1.toNat aT.zero)))||(!decide (v1=g1)))=true then
   some (.inr (.inr false))
  else
   some (.inl (i64.wrap (g1+1))))
 else
  some (.inr (.inl ())))
def zu3 (a0:List aT):Option Bool :=
 (if (decide (8 < (a0.length:Int)))=true then
  some false
 else
  (zb9 (zP3 a0) 0).bind (fun|.inl z=>zaZ5 z|.inr z=>some z))
@[reducible,instance] def zea7 a0:=mkJ (zu3 a0) 0 (@zaZ5.eq_1) fun (j1:Unit)=>⟨[],[],0⟩
@[reducible,instance] def zea8 (a0:List aT) {T:Type} (x:T):=mkL x (@zP3.eq_1 a0) fun (g1:Int)=>⟨[(0,la a0),(8,la a0),(9,.int .i64 (a0.length:Int)),(10,.int .i64 g1)],[],0⟩
instance zdh2 (a0:List aT):OkP (zu3 a0) 221 [la a0] (fun r=>.bool r):=ok1 (zu3.eq_1 a0) Tryz.f221 []
attribute [local irreducible] zu3
theorem zah8:SlLaysF0.n6 C.P ⟨fun|6=>84|15=>64|14=>129|28=>106|29=>107|20=>172|21=>173|22=>174|23=>175|24=>176|25=>177|26=>178|27=>179|46=>224|47=>155|48=>156|49=>225|50=>226|57=>262|n=>n,fun|22=>63|24=>43|25=>81|39=>137|53=>186|55=>145|46=>179|45=>178|50=>183|66=>228|70=>203|76=>274|77=>275|n=>n,fun n=>n⟩ where
 mixed:=zz1
 f6:=⟨ "slices.SortFunc[[]clusterlocks/api.Proc,clusterlocks/api.Proc]",by decide,Tryz.func84.trans (cQ some (by kernel_rfl))⟩
 f14:=⟨ "slices.pdqsortCmpFunc[clusterlocks/api.Proc]",by decide,Tryz.func129.trans (cQ some (by kernel_rfl))⟩
 f15:=Tryz.func64.trans (cQ some (by kernel_rfl))
 f20:=⟨ "slices.insertionSortCmpFunc[clusterlocks/api.Proc]",by decide,Tryz.func172.trans (cQ some (by kernel_rfl))⟩
 f21:=⟨ "slices.heapSortCmpFunc[clusterlocks/api.Proc]",by decide,Tryz.func173.trans (cQ some (by kernel_rfl))⟩
 f22:=⟨ "slices.breakPatternsCmpFunc[clusterlocks/api.Proc]",by decide,Tryz.func174.trans (cQ some (by kernel_rfl))⟩
 f23:=⟨ "slices.choosePivotCmpFunc[clusterlocks/api.Proc]",by decide,Tryz.func175.trans (cQ some (by kernel_rfl))⟩
 f24:=⟨ "slices.reverseRangeCmpFunc[clusterlocks/api.Proc]",by decide,Tryz.func176.trans (cQ some (by kernel_rfl))⟩
 f25:=⟨ "slices.partialInsertionSortCmpFunc[clusterlocks/api.Proc]",by decide,Tryz.func177.trans (cQ some (by kernel_rfl))⟩
 f26:=⟨ "slices.partitionEqualCmpFunc[clusterlocks/api.Proc]",by decide,Tryz.func178.trans (cQ some (by kernel_rfl))⟩
 f27:=⟨ "slices.partitionCmpFunc[clusterlocks/api.Proc]",by decide,Tryz.func179.trans (cQ some (by kernel_rfl))⟩
 f28:=Tryz.func106.trans (cQ some (by kernel_rfl))
 f29:=Tryz.func107.trans (cQ some (by kernel_rfl))
 f46:=⟨ "slices.siftDownCmpFunc[clusterlocks/api.Proc]",by decide,Tryz.func224.trans (cQ some (by kernel_rfl))⟩
 f47:=Tryz.func155.trans (cQ some (by kernel_rfl))
 f48:=Tryz.func156.trans (cQ some (by kernel_rfl))
 f49:=⟨ "slices.medianAdjacentCmpFunc[clusterlocks/api.Proc]",by decide,Tryz.func225.trans (cQ some (by kernel_rfl))⟩
 f50:=⟨ "slices.medianCmpFunc[clusterlocks/api.Proc]",by decide,Tryz.func226.trans (cQ some (by kernel_rfl))⟩
 f57:=⟨ "slices.order2CmpFunc[clusterlocks/api.Proc]",by decide,Tryz.func262.trans (cQ some (by kernel_rfl))⟩
 t0:=Tryz.underlying0
 a0:=Tryz.isAgg0
 z0:=Tryz.sizeOf0
 v0:=Tryz.zeroValue0
 t3:=Tryz.underlying3
 a3:=Tryz.isAgg3
 z3:=Tryz.sizeOf3
 v3:=Tryz.zeroValue3
 t4:=Tryz.underlying4
 a4:=Tryz.isAgg4
 z4:=Tryz.sizeOf4
 v4:=Tryz.zeroValue4
 t5:=Tryz.underlying5
 a5:=Tryz.isAgg5
 z5:=Tryz.sizeOf5
 v5:=Tryz.zeroValue5
 t9:=Tryz.underlying9
 a9:=Tryz.isAgg9
 z9:=Tryz.sizeOf9
 v9:=Tryz.zeroValue9
 t22:=Tryz.underlying63
 a22:=Tryz.isAgg63
 z22:=Tryz.sizeOf63
 v22:=Tryz.zeroValue63
 t25:=Tryz.underlying81
 a25:=Tryz.isAgg81
 z25:=Tryz.sizeOf81
 v25:=Tryz.zeroValue81
 t39:=Tryz.underlying137
 a39:=Tryz.isAgg137
 z39:=Tryz.sizeOf137
 v39:=Tryz.zeroValue137
 t45:=Tryz.underlying178
 a45:=Tryz.isAgg178
 z45:=Tryz.sizeOf178
 v45:=Tryz.zeroValue178
 t46:=Tryz.underlying179
 a46:=Tryz.isAgg179
 z46:=Tryz.sizeOf179
 v46:=Tryz.zeroValue179
 t50:=Tryz.underlying183
 a50:=Tryz.isAgg183
 z50:=Tryz.sizeOf183
 v50:=Tryz.zeroValue183
 t53:=Tryz.underlying186
 a53:=Tryz.isAgg186
 z53:=Tryz.sizeOf186
 v53:=Tryz.zeroValue186
 t55:=Tryz.underlying145
 a55:=Tryz.isAgg145
 z55:=Tryz.sizeOf145
 v55:=Tryz.zeroValue145
 t66:=Tryz.underlying228
 a66:=Tryz.isAgg228
 z66:=Tryz.sizeOf228
 v66:=Tryz.zeroValue228
 t70:=Tryz.underlying203
 a70:=Tryz.isAgg203
 z70:=Tryz.sizeOf203
 v70:=Tryz.zeroValue203
 t76:=Tryz.underlying274
 a76:=Tryz.isAgg274
 z76:=Tryz.sizeOf274
 v76:=Tryz.zeroValue274
 t77:=Tryz.underlying275
 a77:=Tryz.isAgg275
 z77:=Tryz.sizeOf275
 v77:=Tryz.zeroValue275
def zc8 (a0:List aK):Option (List aK):=gd (a0.length≤4294967296) (some (a0.mergeSort fun x y=>!decide (y.site < x.site∨y.site=x.site∧(y.inc < x.inc∨y.inc=x.inc∧y.num < x.num))))
theorem zag8 (a0 r:List aK) (h:zc8 a0=some r):r.length=a0.length:=by
 obtain ⟨_,h⟩:=ze1 h
 obtain rfl:=dZ h
 exact iG _
theorem zag9 (a0 r:List aK) (h:zc8 a0=some r):MFn C 84 [.own 0 0 a0.length,.clo 32 []] [(0,sx a0)] 1 (.tup []) [(0,sx r)] 1:=by
 obtain ⟨hl,h⟩:=ze1 h
 obtain rfl:=dZ h
 haveI:Inhabited aK:=⟨aK.zero⟩
 have e:(fun x y:aK=>!decide (y.site < x.site∨y.site=x.site∧(y.inc < x.inc∨y.inc=x.inc∧y.num < x.num)))=fun x y=>!(ltOf cmpS) y x:=by
  funext x y
  rw [zaR6]
  exact cQ not (iO.2 kH)
 rw [e]
 exact zbK1 zah8 aK.enc 3 aK.len (by decide) (fun x=>(aK.laws x).2.1) Tryz.isAgg43 Tryz.sizeOf43 cmpS zcm8 32 (fun x y=>(zaD3 x y).ok _ (zcE8 x y)) (enters_of Tryz.func32 (by kernel_rfl) rfl) rfl _ a0 hl (fun x _ y _=>zcw6 x y)
attribute [local irreducible] zc8
def zw9 (j1:Unit):Option Bool :=
 some true
def zo4 (a0 a1:List bI) (g1:Int):Option (Int⊕(Unit⊕Bool)) :=
 (if (decide (g1 < (a0.length:Int)))=true then
  gd (0≤g1∧g1 < (a0.length:Int)) <|
  gd (0≤g1∧g1 < (a1.length:Int)) <|
  (zf9 (a0.getD g1.toNat bI.zero) (a1.getD g1.toNat bI.zero)).bind fun v1 =>
  (if (!v1)=true then
   some (.inr (.inr false))
  else
   some (.inl (i64.wrap (g1+1))))
 else
  some (.inr (.inl ())))
def za6 (a0 a1:List bI):Option Bool :=
 (if (!decide ((a0.length:Int)=(a1.length:Int)))=true then
  some false
 else
  (zb9 (zo4 a0 a1) 0).bind (fun|.inl z=>zw9 z|.inr z=>some z))
@[reducible,instance] def zdP5 a0 a1:=mkJ (za6 a0 a1) 0 (@zw9.eq_1) fun (j1:Unit)=>⟨[],[],0⟩
@[reducible,instance] def zdP6 (a0 a1:List bI) {T:Type} (x:T):=mkL x (@zo4.eq_1 a0 a1) fun (g1:Int)=>⟨[(1,la a1),(2,.clo 26 []),(15,la a0),(16,.int .i64 (a0.length:Int)),(17,.int .i64 g1)],[],0⟩
instance zx3 (a0 a1:List bI):OkM (za6 a0 a1) 35 [la a0,la a1,.clo 26 []] [] 0 (fun r=>.bool r) (fun r=>[]) 0:=okm (za6.eq_1 a0 a1) (fun r=>[.bool r]) Tryz.f35 []
attribute [local irreducible] za6
def zj9 (a0:aI):Option Bool :=
 (zg9 a0.name).bind fun v1 =>
 some (((v1&&zG6 a0)&&decide (0≤a0.home))&&decide (a0.home < 4))
instance zcd9 (a0:aI):OkP (zj9 a0) 202 [ga a0] (fun r=>.bool r):=ok1 (zj9.eq_1 a0) Tryz.f202 []
attribute [local irreducible] zj9
def zq9 (a0:aI) (a1 a2:aD):Bool :=
 (if ((!(zt5 a0 a1))||(!(zt5 a0 a2)))=true then
  false
 else
  (if (zk7 a2)=true then
   true
  else
   (if (zk7 a1)=true then
    false
   else
    (if (decide (a0.kind=1))=true then
     (zN1 a1.mode a2.mode)
    else
     (decide (a2.aR≤a1.aR))))))
instance zbD3 (a0:aI) (a1 a2:aD):OkT 199 [.agg (aI.enc a0),.agg (aD.enc a1),.agg (aD.enc a2)] (.bool (zq9 a0 a1 a2)):=ok2 (fun r=>.bool r) (zq9.eq_1 a0 a1 a2) Tryz.f199 []
def zav4 (a0:aP) (a1:List aM) (j1:Unit):Option (Nat⊕(Bool×(List aM))) :=
 gd (a1.length+1≤4294967296) <|
 some (.inr (true,(a1++[a0.bF])))
def zag0 (a0:aP) (a1:List aM) (g1:Int):Option (Int⊕(Unit⊕(Nat⊕(Bool×(List aM))))) :=
 (if (decide (g1 < ((a1.length:Nat):Int)))=true then
  gd (0≤g1∧g1 < ((a1.length:Nat):Int)) <|
  (if (decide (a1.getD g1.toNat aM.zero=a0.bF))=true then
   some (.inr (.inr (.inr (true,a1))))
  else
   some (.inl (i64.wrap (g1+1))))
 else
  some (.inr (.inl ())))
def zaN7 (j2:(List aM)):Option (Nat⊕(Bool×(List aM))) :=
 some (.inr (true,j2))
def zW3 (a90:(aP→List aM→Option (Nat⊕(Bool×(List aM))))) (a0:aP) (g2:Int×(List aM)):Option ((Int×(List aM))⊕((List aM)⊕(Nat⊕(Bool×(List aM))))) :=
 (if (decide (g2.1 < (a0.bE.length:Int)))=true then
  gd (0≤g2.1∧g2.1 < (a0.bE.length:Int)) <|
  (a90 (a0.bE.getD g2.1.toNat aP.zero) g2.2).bind fun v2=>match v2 with
  | .inl v2 =>
   some (.inr (.inr (.inl g2.2.length)))
  | .inr v2 =>
   (if (!v2.1)=true then
    some (.inr (.inr (.inl g2.2.length)))
   else
    some (.inl ((i64.wrap (g2.1+1)),v2.2)))
 else
  some (.inr (.inl g2.2)))
def zx4 (a90:(aP→List aM→Option (Nat⊕(Bool×(List aM))))) (a0:aP) (a1:List aM):Option (Nat⊕(Bool×(List aM))) :=
 (if (decide ((a0.bE.length:Int)=0))=true then
  ((if (decide (a0.k=0))=true then zg9 a0.bF.name else some false)).bind fun v1 =>
  (if (((!decide (a0.k=0))||(!v1))||(!(zm4 a0.bF.aN)))=true then
   some (.inr (false,a1))
  else
   (zb9 (zag0 a0 a1) 0).bind (fun|.inl z=>zav4 a0 a1 z|.inr z=>some z))
 else
  (if ((decide (a0.k < 1)||decide ((a0.bE.length:Int) < a0.k))||(!decide (a0.bF={ aM.zero with  })))=true then
   some (.inr (false,a1))
  else
   (zb9 (zW3 a90 a0) (0,a1)).bind (fun|.inl z=>zaN7 z|.inr z=>some z)))
def zy8:Nat→(aP→List aM→Option (Nat⊕(Bool×(List aM))))
 | 0=>fun _ _=>none
 | n+1=>zx4 (zy8 n)
def zr0 (a0:aP) (a1:List aM):Option (Nat⊕(Bool×(List aM))):=zy8 (_root_.SizeOf.sizeOf a0+1) a0 a1
@[reducible,instance] def zdP7 (a90:(aP→List aM→Option (Nat⊕(Bool×(List aM))))) (a0:aP) (a1:List aM) {T1:Type} (v1:T1):=mkJ (zx4 a90 a0 a1,v1) 0 (@zav4.eq_1 a0 a1) fun (j1:Unit)=>⟨[(0,.own 1 0 a1.length),(3,.ptr 2 0 0)],[(1,sx a1),(2,bx a0)],3⟩
@[reducible,instance] def zdP8 (a0:aP) (a1:List aM) {T:Type} (x:T):=mkL x (@zag0.eq_1 a0 a1) fun (g1:Int)=>⟨[(0,.own 1 0 a1.length),(3,.ptr 2 0 0),(6,.int .i64 g1)],[(1,sx a1),(2,bx a0)],3⟩
@[reducible,instance] def zdP9 (a90:(aP→List aM→Option (Nat⊕(Bool×(List aM))))) (a0:aP) (a1:List aM):=mkJ (zx4 a90 a0 a1) 2 (@zaN7.eq_1) fun (j2:(List aM))=>⟨[(0,.own 1 0 j2.length)],[(1,sx j2)],2⟩
@[reducible,instance] def zdQ0 (a90:(aP→List aM→Option (Nat⊕(Bool×(List aM))))) (a0:aP) {T:Type} (x:T):=mkL x (@zW3.eq_1 a90 a0) fun (g2:Int×(List aM))=>⟨[(0,.own 1 0 g2.2.length),(3,.ptr 2 0 0),(7,.int .i64 g2.1)],[(1,sx g2.2),(2,bx a0)],3⟩
abbrev zV1 (g:(aP→List aM→Option (Nat⊕(Bool×(List aM))))):Prop:=∀ (a0:aP) (a1:List aM),OkL (g a0 a1) 237 [.own 0 0 a1.length,.agg (aP.enc a0)] [(0,⟨false,3,aM.enc aM.zero,a1.map aM.enc⟩)] 1 (fun r=>.tup [.own 1 0 r,.bool false]) (fun r=>[]) 2
abbrev zV2 (g:(aP→List aM→Option (Nat⊕(Bool×(List aM))))):Prop:=∀ (a0:aP) (a1:List aM),OkR (g a0 a1) 237 [.own 0 0 a1.length,.agg (aP.enc a0)] [(0,⟨false,3,aM.enc aM.zero,a1.map aM.enc⟩)] 1 (fun r=>.tup [.own 1 0 r.2.length,.bool r.1]) (fun r=>[(1,⟨false,3,aM.enc aM.zero,r.2.map aM.enc⟩)]) 2
theorem zbs0 (a90:(aP→List aM→Option (Nat⊕(Bool×(List aM))))) (h0:zV1 a90) (h1:zV2 a90):zV1 (zx4 a90):=fun a0 a1=>⟨fun r h=>by
 refine zax1 Tryz.f237 [(4,1)] [.own 1 0 r,.bool false] fun E hG hN hK=>?_
 have hm:Mk (zx4 a90 a0 a1):=trivial
 unfold zx4 at h
 exact gogo⟩
theorem zbs1 (a90:(aP→List aM→Option (Nat⊕(Bool×(List aM))))) (h0:zV1 a90) (h1:zV2 a90):zV2 (zx4 a90):=fun a0 a1=>⟨fun r h=>by
 refine zax1 Tryz.f237 [(4,1)] [.own 1 0 r.2.length,.bool r.1] fun E hG hN hK=>?_
 have hm:Mk (zx4 a90 a0 a1):=trivial
 unfold zx4 at h
 exact gogo⟩
theorem zaR9:∀ n,zV1 (zy8 n)∧zV2 (zy8 n):=zaP2 (P:=fun g=>zV1 g∧zV2 g) ⟨fun _ _=>⟨fun _ h=>nomatch h⟩,fun _ _=>⟨fun _ h=>nomatch h⟩⟩ fun n h=>⟨zbs0 _ h.1 h.2,zbs1 _ h.1 h.2⟩
instance zaN8:zV1 zr0:=fun a0 a1=>(zaR9 _).1 a0 a1
instance zaN9:zV2 zr0:=fun a0 a1=>(zaR9 _).2 a0 a1
attribute [local irreducible] zr0
end
end Ab
end Go.Proofs.YtfkjffmjkbkmhaaGreatDoor
