import Derived.Test.YtogpinppgncpmaaGreatDoorHm13
import Derived.Test.YtogpinppgncpmaaGreatDoorHm16
import Derived.Test.YtogpinppgncpmaaGreatDoorHm18
namespace Go.Proofs.YtogpinppgncpmaaGreatDoor
namespace Ab
open IntKind (i64 u64 u8)
set_option linter.unusedSimpArgs false
set_option linter.defProp false
set_option linter.unusedVariables false
set_option maxRecDepth 100000
set_option maxHeartbeats 1000000
noncomputable section
attribute [local irreducible] zb2 za4 zd4 za6 zh1 zm5 zm4 zh2 zk4 zi2 zd7 zg4 za7 zn9 zh3 zj7 ze3 za8 zg8 zi3 zg1 zl1 zj1 za9 zf9 ze4 zh8 ze5 zk7 zk0 zk1 zn8 zg9 zm3 f_ref08_holds zj9 zc5 zf8 zd0 zd9 ze6 zn2 zm9 zg7 ze7 zg0 zb3 za0 zf2 zj3 zl8 zh9 zf3 zh4 zo0 zn0 zk2 zb4 zd1 zd2 zd6 zg3 zd8 zc3 zo7 za1 zq1 zi0 zi5 zh5 zj5 zc1 zb0 ze9 zf4 zn1 zo8 zp1 ze8 zb8 zi6 zi4 zp7 zi7 zc6 ze0 zs0 zj6 zo2 zj8 zg5 zp8 zl2 zh0 zb5 zi8 zr5 zp9 zk3 zb9 zk8 zl4 zr3 zh7 zt3 zf1 zg2 zf0 zr9 zu3 zi9 zk9 ze2 zi1 za5 zm0 zt0 zq7 zu0 zv1 zq8 zd3 zq5 zu1 zl6 ze1 zu5 zu2
def zo1 (a0:aO):Option Bool :=
 (zk2 a0).bind fun v1 =>
 (if (!decide (v1=0))=true then
  (zq5 a0 []).bind fun v2 =>
  some ((!decide (v1=0))&&v2.1)
 else
  some ((!decide (v1=0))&&false))
theorem zbg7 (a0:aO) (r:Bool) (h:zo1 a0=some r):PFn C 51 [ga a0] (.bool r):=by
 refine zad2 Tryz.f51 [(3,3)] fun E hG hN hK=>?_
 unfold zo1 at h
 refine za2 (za3 hG ?_)
 refine za2 (za3 hG ?_)
 refine g_gh (.ownb 1 0 3 (aM.enc aM.zero)) ?_
 refine za2 (za3 hG ?_)
 obtain ⟨v1,hv1,h⟩:=zc9 h
 refine zq4 (fun hg=>(zbA4 a0).ok _ hv1) ?_
 refine zcI1 h (fun hc h=>?_) (fun hc h=>?_)
 · obtain ⟨v2,hv2,h⟩:=zc9 h
   refine zcp6 hc [(0,1),(1,2)] [(2,3)] [0,1,2] ((zbg6 a0 []).ok _ hv2) rfl rfl ?_
   refine zt2 ?_
   exact zI9 h
 refine zcp7 hc (.bool false) ?_
 refine zt2 ?_
 exact zI9 h
instance zcm2 (a0:aO):OkP (zo1 a0) 51 [ga a0] (fun r=>.bool r):=⟨zbg7 a0⟩
attribute [local irreducible] zo1
def zF2 (j2:aY×aO):Option (aO×aY) :=
 some (j2.2,j2.1)
@[go_sem] def zdx2  (j2:aY×aO):St:=⟨[(4,.ptr 1 0 0),(5,.ptr 2 0 0)],[(0,bx j2.1),(1,bx aO.zero),(2,⟨false,5,aO.enc aO.zero,[[.int .i64 j2.2.k,.str j2.2.bB.name,.int .i64 j2.2.bB.aK.mode,.int .i64 j2.2.bB.aK.aS,.own 3 0 j2.2.bA.length]]⟩),(3,sx j2.2.bA)],4⟩
def zy6 (a90:(Int→aY→Option (aO×aY))) (a0:Int) (g1:Int×aY×aO):Option ((Int×aY×aO)⊕(aY×aO)) :=
 (if (decide (0 < g1.1)&&decide (g1.2.1.bN.err=0))=true then
  (a90 (i64.wrap (a0+1)) g1.2.1).bind fun v5 =>
  gd (g1.2.2.bA.length+1≤4294967296) <|
  some (.inl ((i64.wrap (g1.1 - 1)),v5.2,(⟨g1.2.2.k,(⟨g1.2.2.bB.name,(⟨g1.2.2.bB.aK.mode,g1.2.2.bB.aK.aS⟩:aC)⟩:aM),(g1.2.2.bA++[v5.1])⟩:aO)))
 else
  some (.inr (g1.2.1,g1.2.2)))
@[go_sem] def zdx3 (a0:Int) (g1:Int×aY×aO):St:=⟨[(0,.ptr 0 0 0),(1,.int .i64 a0),(4,.ptr 1 0 0),(5,.ptr 2 0 0),(6,.int .i64 g1.1)],[(0,bx g1.2.1),(1,bx aO.zero),(2,⟨false,5,aO.enc aO.zero,[[.int .i64 g1.2.2.k,.str g1.2.2.bB.name,.int .i64 g1.2.2.bB.aK.mode,.int .i64 g1.2.2.bB.aK.aS,.own 3 0 g1.2.2.bA.length]]⟩),(3,sx g1.2.2.bA)],4⟩
def zy7 (a90:(Int→aY→Option (aO×aY))) (a0:Int) (j1:aY):Option (aO×aY) :=
 (zb9 j1).bind fun v1 =>
 (if (!decide (v1.2.bN.err=0))=true then
  some ((⟨v1.1,(⟨((⟨aO.zero.k,(⟨aO.zero.bB.name,(⟨aO.zero.bB.aK.mode,aO.zero.bB.aK.aS⟩:aC)⟩:aM),[]⟩:aO).bB).name,(⟨(((⟨aO.zero.k,(⟨aO.zero.bB.name,(⟨aO.zero.bB.aK.mode,aO.zero.bB.aK.aS⟩:aC)⟩:aM),[]⟩:aO).bB).aK).mode,(((⟨aO.zero.k,(⟨aO.zero.bB.name,(⟨aO.zero.bB.aK.mode,aO.zero.bB.aK.aS⟩:aC)⟩:aM),[]⟩:aO).bB).aK).aS⟩:aC)⟩:aM),(⟨aO.zero.k,(⟨aO.zero.bB.name,(⟨aO.zero.bB.aK.mode,aO.zero.bB.aK.aS⟩:aC)⟩:aM),[]⟩:aO).bA⟩:aO),v1.2)
 else
  (if (decide (v1.1=0))=true then
   (ze0 v1.2).bind fun v2 =>
   (ze1 v2.2).bind fun v3 =>
   some ((⟨v1.1,(⟨v2.1,(⟨v3.1.mode,v3.1.aS⟩:aC)⟩:aM),(⟨aO.zero.k,(⟨aO.zero.bB.name,(⟨aO.zero.bB.aK.mode,aO.zero.bB.aK.aS⟩:aC)⟩:aM),[]⟩:aO).bA⟩:aO),v3.2)
  else
   (zc6 24 v1.2).bind fun v4 =>
   (zc0 (zy6 a90 a0) (v4.1,v4.2,(⟨v1.1,(⟨((⟨aO.zero.k,(⟨aO.zero.bB.name,(⟨aO.zero.bB.aK.mode,aO.zero.bB.aK.aS⟩:aC)⟩:aM),[]⟩:aO).bB).name,(⟨(((⟨aO.zero.k,(⟨aO.zero.bB.name,(⟨aO.zero.bB.aK.mode,aO.zero.bB.aK.aS⟩:aC)⟩:aM),[]⟩:aO).bB).aK).mode,(((⟨aO.zero.k,(⟨aO.zero.bB.name,(⟨aO.zero.bB.aK.mode,aO.zero.bB.aK.aS⟩:aC)⟩:aM),[]⟩:aO).bB).aK).aS⟩:aC)⟩:aM),(⟨aO.zero.k,(⟨aO.zero.bB.name,(⟨aO.zero.bB.aK.mode,aO.zero.bB.aK.aS⟩:aC)⟩:aM),[]⟩:aO).bA⟩:aO))).bind (fun z=>zF2 z)))
@[go_sem] def zdx4 (a0:Int) (j1:aY):St:=⟨[(0,.ptr 0 0 0),(1,.int .i64 a0),(4,.ptr 1 0 0),(5,.ptr 2 0 0)],[(0,bx j1),(1,bx aO.zero),(2,⟨false,5,aO.enc aO.zero,[[.int .i64 ((⟨aO.zero.k,(⟨aO.zero.bB.name,(⟨aO.zero.bB.aK.mode,aO.zero.bB.aK.aS⟩:aC)⟩:aM),[]⟩:aO).k),.str (((⟨aO.zero.k,(⟨aO.zero.bB.name,(⟨aO.zero.bB.aK.mode,aO.zero.bB.aK.aS⟩:aC)⟩:aM),[]⟩:aO).bB).name),.int .i64 ((((⟨aO.zero.k,(⟨aO.zero.bB.name,(⟨aO.zero.bB.aK.mode,aO.zero.bB.aK.aS⟩:aC)⟩:aM),[]⟩:aO).bB).aK).mode),.int .i64 ((((⟨aO.zero.k,(⟨aO.zero.bB.name,(⟨aO.zero.bB.aK.mode,aO.zero.bB.aK.aS⟩:aC)⟩:aM),[]⟩:aO).bB).aK).aS),.own 3 0 (((⟨aO.zero.k,(⟨aO.zero.bB.name,(⟨aO.zero.bB.aK.mode,aO.zero.bB.aK.aS⟩:aC)⟩:aM),[]⟩:aO).bA).length)]]⟩),(3,sx ((⟨aO.zero.k,(⟨aO.zero.bB.name,(⟨aO.zero.bB.aK.mode,aO.zero.bB.aK.aS⟩:aC)⟩:aM),[]⟩:aO).bA))],4⟩
def zz3 (a90:(Int→aY→Option (aO×aY))) (a0:Int) (a1:aY):Option (aO×aY) :=
 (if (decide (a1.bN.err=0)&&decide (4 < a0))=true then
  zy7 a90 a0 ({ a1 with bN:={ a1.bN with err:=4 } })
 else
  zy7 a90 a0 a1)
def zu6:Nat→(Int→aY→Option (aO×aY))
 | 0=>fun _ _=>none
 | n+1=>zz3 (zu6 n)
def zm7 (a0:Int) (a1:aY):Option (aO×aY):=zu6 ((6 - a0).toNat+1) a0 a1
theorem zaG8 (a90:(Int→aY→Option (aO×aY))) (hrc:∀ (a0:Int) (a1:aY) (r:aO×aY),a90 a0 a1=some r→MFn C 44 [.ptr 0 0 0,.int .i64 a0] [(0,bx a1)] 1 (ga r.1) [(0,bx r.2)] 1) (a0:Int) (a1:aY) (r:aO×aY) (h:zz3 a90 a0 a1=some r):MFn C 44 [.ptr 0 0 0,.int .i64 a0] [(0,bx a1)] 1 (ga r.1) [(0,bx r.2)] 1:=by
 refine zaz8 Tryz.f44 [(5,18)] [ga r.1] fun E hG hN hK=>?_
 unfold zz3 at h
 refine za2 (za3 hG ?_)
 refine za2 (za3 hG ?_)
 refine g_gh (.ownb 2 4 5 (aO.enc aO.zero)) ?_
 refine za2 (za2 (za3 hG ?_))
 refine zaP1 (zdx4 a0) (fun v=>zy7 a90 a0 v=some r) rfl hG h ?_ (fun _ h=>?_) (fun _ h=>?_)
 · intro j1 h
   unfold zy7 at h
   refine g_st ?_
   refine za2 (za3 hG ?_)
   obtain ⟨v1,hv1,h⟩:=zc9 h
   refine zs2 [(0,0)] [] [0] ((zy5 j1).ok _ hv1) rfl rfl ?_
   refine za2 (za2 (za3 hG ?_))
   refine zl0 rfl hG h (fun _ h=>?_) (fun _ h=>?_)
   · refine za2 (za3 hG ?_)
     refine g_gh (.fz [3]) ?_
     refine zt2 ?_
     exact zS4 [(0,0)] h
   refine zj2 ?_
   refine za2 (za2 (za3 hG ?_))
   refine zl0 rfl hG h (fun _ h=>?_) (fun _ h=>?_)
   · refine za2 (za3 hG ?_)
     obtain ⟨v2,hv2,h⟩:=zc9 h
     refine zs2 [(0,0)] [] [0] ((zaj6 v1.2).ok _ hv2) rfl rfl ?_
     refine za2 (za3 hG ?_)
     obtain ⟨v3,hv3,h⟩:=zc9 h
     refine zs2 [(0,0)] [] [0] ((zaA9 v2.2).ok _ hv3) rfl rfl ?_
     refine za2 (za3 hG ?_)
     refine g_gh (.fz [3]) ?_
     refine zt2 ?_
     exact zS4 [(0,0)] h
   refine zj2 ?_
   refine za2 (za2 (za3 hG ?_))
   obtain ⟨v4,hv4,h⟩:=zc9 h
   refine zs2 [(0,0)] [] [0] ((zG8 24 v1.2).ok _ hv4) rfl rfl ?_
   refine zB6 zdx2 (fun v=>zF2 v=some r) ?_ ?_
   · intro j2 h
     unfold zF2 at h
     refine g_st ?_
     refine za2 (za3 hG ?_)
     refine g_gh (.fz [3]) ?_
     refine zt2 ?_
     exact zS4 [(0,0)] h
   refine zY4 (zdx3 a0) hK [(0,0),(1,1),(2,2),(3,3)] h (fun x_l1 h g1 y_l1 h_l1 hx_l1=>?_)
   unfold zy6 at h_l1
   refine g_st ?_
   refine za2 (za2 (za3 hG ?_))
   refine zl0 rfl hG h_l1 (fun _ h_l1=>?_) (fun _ h_l1=>?_)
   · refine zj2 ?_
     refine za2 (zB5 (zad1 zw6 hG ?_))
     obtain ⟨v5,hv5,h_l1⟩:=zc9 h_l1
     obtain ⟨hb1,h_l1⟩:=zd5 h_l1
     refine zbO6 [(0,0)] [] [0] (hrc (i64.wrap (a0+1)) g1.2.1 _ hv5) rfl rfl ?_
     refine za3 hG ?_
     exact zF8 hK [(0,0),(1,1),(2,2),(3,4)] h_l1
   refine zH3 ?_
   cases h_l1
   cases hx_l1 _ rfl
   exact zy4 hK [(0,0),(1,1),(2,2),(3,3)] (g1.2.1,g1.2.2) (by exact h)
 · refine za3 hG ?_
   exact zy4 hK [(0,0),(1,1),(2,2),(3,3)] ({ a1 with bN:={ a1.bN with err:=4 } }) (by exact h)
 refine zj2 ?_
 exact zy4 hK [(0,0),(1,1),(2,2),(3,3)] a1 (by exact h)
theorem zai3:∀ (n:Nat) (a0:Int) (a1:aY) (r:aO×aY),zu6 n a0 a1=some r→MFn C 44 [.ptr 0 0 0,.int .i64 a0] [(0,bx a1)] 1 (ga r.1) [(0,bx r.2)] 1
 | 0,_,_,_,h=>nomatch h
 | n+1,a0,a1,r,h=>zaG8 (zu6 n) (zai3 n) a0 a1 r h
instance zbH8 (a0:Int) (a1:aY):OkM (zm7 a0 a1) 44 [.ptr 0 0 0,.int .i64 a0] [(0,bx a1)] 1 (fun r=>ga r.1) (fun r=>[(0,bx r.2)]) 1:=⟨fun r h=>zai3 _ a0 a1 r h⟩
attribute [local irreducible] zm7
def zv5 (j1:Unit):Option Bool :=
 some true
def zr8 (a0 a1:List aA) (g1:Int):Option (Int⊕(Unit⊕Bool)) :=
 (if (decide (g1 < (a0.length:Int)))=true then
  gd (0≤g1∧g1 < (a0.length:Int)) <|
  gd (0≤g1∧g1 < (a1.length:Int)) <|
  (zi1 (a0.getD g1.toNat aA.zero) (a1.getD g1.toNat aA.zero)).bind fun v1 =>
  (if (!v1)=true then
   some (.inr (.inr false))
  else
   some (.inl (i64.wrap (g1+1))))
 else
  some (.inr (.inl ())))
def zb7 (a0 a1:List aA):Option Bool :=
 (if (!decide ((a0.length:Int)=(a1.length:Int)))=true then
  some false
 else
  (zc0 (zr8 a0 a1) 0).bind (fun|.inl z=>zv5 z|.inr z=>some z))
@[reducible,instance] def zdV8 a0 a1:=mkJ (zb7 a0 a1) 0 (@zv5.eq_1) fun (j1:Unit)=>⟨[],[],0⟩
@[reducible,instance] def zdV9 (a0 a1:List aA) {T:Type} (x:T):=mkL x (@zr8.eq_1 a0 a1) fun (g1:Int)=>⟨[(1,la a1),(2,.clo 24 []),(15,la a0),(16,.int .i64 (a0.length:Int)),(17,.int .i64 g1)],[],0⟩
instance zJ5 (a0 a1:List aA):OkM (zb7 a0 a1) 47 [la a0,la a1,.clo 24 []] [] 0 (fun r=>.bool r) (fun r=>[]) 0:=okm (zb7.eq_1 a0 a1) (fun r=>[.bool r]) Tryz.f47 []
attribute [local irreducible] zb7
def zA8 (a0:aI) (a1 a2:aC):Option aC :=
 (if ((!(zt5 a0 a1))||(!(zt5 a0 a2)))=true then
  some ({ aC.zero with  })
 else
  (if (zs4 a0 a1 a2)=true then
   some a1
  else
   (if (zs4 a0 a2 a1)=true then
    some a2
   else
    (zu3 a1.mode a2.mode).bind fun v1 =>
    some ({ aC.zero with mode:=v1 }))))
instance zbX9 (a0:aI) (a1 a2:aC):OkP (zA8 a0 a1 a2) 205 [ga a0,ga a1,ga a2] (fun r=>ga r):=ok1 (zA8.eq_1 a0 a1 a2) Tryz.f205 []
attribute [local irreducible] zA8
def zay4 (j1:Int) (j2:(List aT)):Option ((List aT)×Int×Int) :=
 some (j2,j1,0)
def zaa5 (a0:List aT) (g1:Int×(List aT)):Option ((Int×(List aT))⊕(List aT)) :=
 (if (decide (g1.1 < (a0.length:Int)))=true then
  gd (0≤g1.1∧g1.1 < (a0.length:Int)) <|
  gd (g1.2.length+1≤4294967296) <|
  some (.inl ((i64.wrap (g1.1+1)),(g1.2++[{ (a0.getD g1.1.toNat aT.zero) with bQ:=(i64.wrap ((a0.getD g1.1.toNat aT.zero).bQ+1)) }])))
 else
  some (.inr g1.2))
def zaa6 (a0:List aT) (a1:aT) (j1:Int):Option ((List aT)×Int×Int) :=
 gd (0≤0∧0≤j1∧j1≤(a0.length:Int)) <|
 gd ((a0.take j1.toNat).length≤4294967296) <|
 gd ((a0.take j1.toNat).length+1≤4294967296) <|
 (zc0 (zaa5 a0) (j1,(a0.take j1.toNat++[a1]))).bind (fun z=>zay4 j1 z)
def zak0 (a0:List aT) (a1:aT) (g2:Int):Option (Int⊕Int) :=
 gd (decide (0 < g2)=true→0≤i64.wrap (g2 - 1)∧i64.wrap (g2 - 1) < (a0.length:Int)) <|
 gd ((decide (0 < g2)&&decide ((a0.getD ((i64.wrap (g2 - 1)).toNat) aT.zero).bG < a1.bG))=true→0≤i64.wrap (g2 - 1)∧i64.wrap (g2 - 1) < (a0.length:Int)) <|
 (if ((decide (0 < g2)&&decide ((a0.getD ((i64.wrap (g2 - 1)).toNat) aT.zero).bG < a1.bG))&&decide ((a0.getD ((i64.wrap (g2 - 1)).toNat) aT.zero).bQ < 3))=true then
  some (.inl (i64.wrap (g2 - 1)))
 else
  some (.inr g2))
def zv8 (a0:List aT) (a1:aT):Option ((List aT)×Int×Int) :=
 (zu0 a0).bind fun v1 =>
 (if (!v1)=true then
  some ([],0,2)
 else
  (if ((!(zy2 a1))||(!decide (a1.bQ=0)))=true then
   some ([],0,1)
  else
   (zk1 a0 a1.aN).bind fun v2 =>
   (if (decide (0≤v2))=true then
    some ([],0,11)
   else
    (if (decide ((a0.length:Int)=8))=true then
     some ([],0,4)
    else
     (zc0 (zak0 a0 a1) (a0.length:Int)).bind (fun z=>zaa6 a0 a1 z)))))
@[reducible,instance] def zdW0 a0 a1 (j1:Int):=mkJ (zaa6 a0 a1 j1) 2 (@zay4.eq_1 j1) fun (j2:(List aT))=>⟨[(7,.int .i64 j1),(8,.own 0 0 j2.length)],[(0,sx j2)],1⟩
@[reducible,instance] def zdW1 (a0:List aT) a1 (j1:Int):=mkL (zaa6 a0 a1 j1) (@zaa5.eq_1 a0) fun (g1:Int×(List aT))=>⟨[(0,la a0),(7,.int .i64 j1),(8,.own 0 0 g1.2.length),(9,.int .i64 g1.1)],[(0,sx g1.2)],1⟩
@[reducible,instance] def zdW2 (a0:List aT) (a1:aT) {T1:Type} (v1:T1) {T2:Type} (v2:T2):=mkJ ((zv8 a0 a1,v1),v2) 0 (@zaa6.eq_1 a0 a1) fun (j1:Int)=>⟨[(0,la a0),(3,.ptr 0 0 0),(7,.int .i64 j1)],[(0,bx a1)],1⟩
@[reducible,instance] def zdW3 (a0:List aT) (a1:aT) {T:Type} (x:T):=mkL x (@zak0.eq_1 a0 a1) fun (g2:Int)=>⟨[(0,la a0),(3,.ptr 0 0 0),(7,.int .i64 g2)],[(0,bx a1)],1⟩
instance zbH9 (a0:List aT) (a1:aT):OkP (zv8 a0 a1) 288 [la a0,ga a1] (fun r=>.tup [la r.1,.int .i64 r.2.1,.int .i64 r.2.2]):=ok1 (zv8.eq_1 a0 a1) Tryz.f288 [(56,1)]
attribute [local irreducible] zv8
attribute [local irreducible] zr6 zt6 zc8 zc2 zj4 zr4
def zat3 (a0:aI) (j1:(List aC)):Option Bool :=
 (zk9 a0 j1).bind fun v1 =>
 some v1
def zW6 (a0:aI) (a1:List aU) (g1:Int×(List aC)):Option ((Int×(List aC))⊕((List aC)⊕Bool)) :=
 (if (decide (g1.1 < (a1.length:Int)))=true then
  gd (0≤g1.1∧g1.1 < (a1.length:Int)) <|
  (if ((!(zb6 ((a1.getD g1.1.toNat aU.zero).aN)))||(!(zb1 a0 ((a1.getD g1.1.toNat aU.zero).aK))))=true then
   some (.inr (.inr false))
  else
   gd (decide (0 < g1.1)=true→0≤i64.wrap (g1.1 - 1)∧i64.wrap (g1.1 - 1) < (a1.length:Int)) <|
   ((if (decide (0 < g1.1))=true then zd8 ((a1.getD ((i64.wrap (g1.1 - 1)).toNat) aU.zero).aN) ((a1.getD g1.1.toNat aU.zero).aN) else some 0)).bind fun v2 =>
   (if (decide (0 < g1.1)&&decide (0≤v2))=true then
    some (.inr (.inr false))
   else
    gd (g1.2.length+1≤4294967296) <|
    some (.inl ((i64.wrap (g1.1+1)),(g1.2++[(a1.getD g1.1.toNat aU.zero).aK])))))
 else
  some (.inr (.inl g1.2)))
def zs6 (a0:aI) (a1:List aU):Option Bool :=
 (if ((!(zf7 a0))||decide (8 < (a1.length:Int)))=true then
  some false
 else
  (zc0 (zW6 a0 a1) (0,[])).bind (fun|.inl z=>zat3 a0 z|.inr z=>some z))
@[reducible,instance] def zeg6 (a0:aI) a1:=mkJ (zs6 a0 a1) 0 (@zat3.eq_1 a0) fun (j1:(List aC))=>⟨[(2,.ptr 0 0 0),(5,.own 1 0 j1.length)],[(0,bx a0),(1,sx j1)],2⟩
@[reducible,instance] def zeg7 (a0:aI) (a1:List aU) {T:Type} (x:T):=mkL x (@zW6.eq_1 a0 a1) fun (g1:Int×(List aC))=>⟨[(1,la a1),(2,.ptr 0 0 0),(5,.own 1 0 g1.2.length),(16,la a1),(17,.int .i64 (a1.length:Int)),(18,.int .i64 g1.1)],[(0,bx a0),(1,sx g1.2)],2⟩
instance zcP7 (a0:aI) (a1:List aU):OkP (zs6 a0 a1) 171 [ga a0,la a1] (fun r=>.bool r):=ok1 (zs6.eq_1 a0 a1) Tryz.f171 [(5,1)]
attribute [local irreducible] zs6
def zp2 (a0:List bC) (a1:aJ):Option Int :=
 (zc2 a0 a1).bind fun v1 =>
 some v1.1
instance zaK9 (a0:List bC) (a1:aJ):OkP (zp2 a0 a1) 25 [la a0,ga a1] (fun r=>.int .i64 r):=ok1 (zp2.eq_1 a0 a1) Tryz.f25 []
attribute [local irreducible] zp2
def zaU0 (j1:Unit):Option Bool :=
 some true
def zao6 (a0:List aI) (g1:Int):Option (Int⊕(Unit⊕Bool)) :=
 (if (decide (g1 < (a0.length:Int)))=true then
  gd (0≤g1∧g1 < (a0.length:Int)) <|
  (zj4 (a0.getD g1.toNat aI.zero)).bind fun v1 =>
  gd ((v1&&decide (0 < g1))=true→0≤i64.wrap (g1 - 1)∧i64.wrap (g1 - 1) < (a0.length:Int)) <|
  gd ((v1&&decide (0 < g1))=true→0≤g1∧g1 < (a0.length:Int)) <|
  (if ((!v1)||(decide (0 < g1)&&(!Op.bytesLess ((a0.getD ((i64.wrap (g1 - 1)).toNat) aI.zero).name).toList ((a0.getD g1.toNat aI.zero).name).toList)))=true then
   some (.inr (.inr false))
  else
   some (.inl (i64.wrap (g1+1))))
 else
  some (.inr (.inl ())))
def zw3 (a0:List aI):Option Bool :=
 (if (decide (8 < (a0.length:Int)))=true then
  some false
 else
  (zc0 (zao6 a0) 0).bind (fun|.inl z=>zaU0 z|.inr z=>some z))
@[reducible,instance] def zdW4 a0:=mkJ (zw3 a0) 0 (@zaU0.eq_1) fun (j1:Unit)=>⟨[],[],0⟩
@[reducible,instance] def zdW5 (a0:List aI) {T:Type} (x:T):=mkL x (@zao6.eq_1 a0) fun (g1:Int)=>⟨[(0,la a0),(3,.int .i64 g1)],[],0⟩
instance zdc8 (a0:List aI):OkP (zw3 a0) 157 [la a0] (fun r=>.bool r):=ok1 (zw3.eq_1 a0) Tryz.f157 []
attribute [local irreducible] zw3
def zaG9 (a0 j1:aX):Option (aX×Bool) :=
 (if (decide (((j1.aP.length:Nat):Int)=(a0.aP.length:Int)))=true then
  some ({ aX.zero with  },false)
 else
  some (j1,true))
def zaH0 (g1:Int×aX) (j2:aX):Option ((Int×aX)⊕aX) :=
 some (.inl ((i64.wrap (g1.1+1)),j2))
def zai4 (a0:aX) (g1 g2:Int×aX):Option ((Int×aX)⊕aX) :=
 (if (decide (g2.1 < ((g2.2.bD.length:Nat):Int)))=true then
  gd (0≤g2.1∧g2.1 < (a0.bD.length:Int)) <|
  (if (decide (g1.1 < (a0.bD.getD g2.1.toNat bR.zero).at_))=true then
   gd (0≤g2.1∧g2.1 < ((g2.2.bD.length:Nat):Int)) <|
   gd (0≤g2.1∧g2.1 < ((g2.2.bD.length:Nat):Int)) <|
   some (.inl ((i64.wrap (g2.1+1)),(⟨g2.2.aP,g2.2.bD.set g2.1.toNat ({ (g2.2.bD.getD g2.1.toNat bR.zero) with at_:=(i64.wrap ((g2.2.bD.getD g2.1.toNat bR.zero).at_ - 1)) })⟩:aX)))
  else
   some (.inl ((i64.wrap (g2.1+1)),g2.2)))
 else
  some (.inr g2.2))
def zZ4 (a0:aX) (a1:ByteArray) (g1:Int×aX):Option ((Int×aX)⊕aX) :=
 (if (decide (g1.1 < (a0.aP.length:Int)))=true then
  gd (0≤g1.1∧g1.1 < (a0.aP.length:Int)) <|
  (if (!(((a0.aP.getD g1.1.toNat bK.zero).name).toList == a1.toList))=true then
   gd (0≤g1.1∧g1.1 < (a0.aP.length:Int)) <|
   gd (g1.2.aP.length+1≤4294967296) <|
   some (.inl ((i64.wrap (g1.1+1)),(⟨(g1.2.aP++[(a0.aP.getD g1.1.toNat bK.zero)]),g1.2.bD⟩:aX)))
  else
   (zc0 (zai4 a0 g1) (0,g1.2)).bind (fun z=>zaH0 g1 z))
 else
  some (.inr g1.2))
def zy8 (a0:aX) (a1:ByteArray):Option (aX×Bool) :=
 (zq8 a0).bind fun v1 =>
 (if (!v1)=true then
  some ({ aX.zero with  },false)
 else
  gd (a0.bD.length≤4294967296) <|
  (zc0 (zZ4 a0 a1) (0,(⟨[],a0.bD⟩:aX))).bind (fun z=>zaG9 a0 z))
@[reducible,instance] def zdW6 (a0:aX) (a1:ByteArray) {T1:Type} (v1:T1):=mkJ (zy8 a0 a1,v1) 0 (@zaG9.eq_1 a0) fun (j1:aX)=>⟨[(2,.ptr 0 0 0),(4,.ptr 1 0 0),(6,.ptr 2 0 0)],[(0,bx a0),(1,bx aX.zero),(2,⟨false,2,aX.enc aX.zero,[[.own 3 0 j1.aP.length,.own 4 0 j1.bD.length]]⟩),(3,sx j1.aP),(4,sx j1.bD)],5⟩
@[reducible,instance] def zdW7 (a0:aX) (a1:ByteArray) (g1:Int×aX):=mkJ (zZ4 a0 a1 g1) 2 (@zaH0.eq_1 g1) fun (j2:aX)=>⟨[(1,.str a1),(2,.ptr 0 0 0),(4,.ptr 1 0 0),(6,.ptr 2 0 0),(7,.int .i64 g1.1)],[(0,bx a0),(1,bx aX.zero),(2,⟨false,2,aX.enc aX.zero,[[.own 3 0 j2.aP.length,.own 4 0 j2.bD.length]]⟩),(3,sx j2.aP),(4,sx j2.bD)],5⟩
@[reducible,instance] def zdW8 (a0:aX) (a1:ByteArray) (g1:Int×aX):=mkL (zZ4 a0 a1 g1) (@zai4.eq_1 a0 g1) fun (g2:Int×aX)=>⟨[(1,.str a1),(2,.ptr 0 0 0),(4,.ptr 1 0 0),(6,.ptr 2 0 0),(7,.int .i64 g1.1),(8,.int .i64 g2.1)],[(0,bx a0),(1,bx aX.zero),(2,⟨false,2,aX.enc aX.zero,[[.own 3 0 g2.2.aP.length,.own 4 0 g2.2.bD.length]]⟩),(3,sx g2.2.aP),(4,sx g2.2.bD)],5⟩
@[reducible,instance] def zdW9 (a0:aX) (a1:ByteArray) {T:Type} (x:T):=mkL x (@zZ4.eq_1 a0 a1) fun (g1:Int×aX)=>⟨[(1,.str a1),(2,.ptr 0 0 0),(4,.ptr 1 0 0),(6,.ptr 2 0 0),(7,.int .i64 g1.1)],[(0,bx a0),(1,bx aX.zero),(2,⟨false,2,aX.enc aX.zero,[[.own 3 0 g1.2.aP.length,.own 4 0 g1.2.bD.length]]⟩),(3,sx g1.2.aP),(4,sx g1.2.bD)],5⟩
instance zdl1 (a0:aX) (a1:ByteArray):OkP (zy8 a0 a1) 259 [ga a0,.str a1] (fun r=>.tup [ga r.1,.bool r.2]):=⟨fun r h=>by
 refine zad2 Tryz.f259 [(13,1),(17,5),(6,5)] fun E hG hN hK=>?_
 have hm:Mk (zy8 a0 a1):=trivial
 unfold zy8 at h
 refine za2 (za3 hG ?_)
 refine za2 (za2 (za3 hG ?_))
 obtain ⟨v1,hv1,h⟩:=zc9 h
 have hm:=mkP hm v1
 refine zq4 (fun hg=>(zbg4 a0).ok _ hv1) ?_
 refine zl0 rfl hG h (fun _ h=>?_) (fun _ h=>?_)
 · exact gogo
 refine zj2 ?_
 refine za2 ?_
 obtain ⟨hb7,h⟩:=zd5 h
 refine za3 hG ?_
 refine g_gh (.ownb 4 0 5 (bK.enc bK.zero)) ?_
 exact gogo⟩
attribute [local irreducible] zy8
def zD6 (a0:aX) (a1:Int):Option (aX×Int) :=
 (zq8 a0).bind fun v1 =>
 (if (!v1)=true then
  some ({ aX.zero with  },2)
 else
  (if (decide (a1 < 1)||decide (99 < a1))=true then
   some ({ aX.zero with  },1)
  else
   (zl8 a0.bD a1).bind fun v2 =>
   (if (decide (0≤v2))=true then
    some ({ aX.zero with  },11)
   else
    (if (decide ((a0.bD.length:Int)=4))=true then
     some ({ aX.zero with  },4)
    else
     gd (a0.aP.length≤4294967296) <|
     gd (a0.bD.length≤4294967296) <|
     gd (a0.bD.length+1≤4294967296) <|
     some ((⟨a0.aP,(a0.bD++[(⟨a1,(a0.aP.length:Int)⟩:bR)])⟩:aX),0)))))
instance zdl2 (a0:aX) (a1:Int):OkP (zD6 a0 a1) 215 [ga a0,.int .i64 a1] (fun r=>.tup [ga r.1,.int .i64 r.2]):=ok1 (zD6.eq_1 a0 a1) Tryz.f215 [(28,1),(32,1),(43,2)]
attribute [local irreducible] zD6
def zaH1 (a0:aX) (j1:Int×Int) (j2:(List aM)):Option (aX×(List aM)×Int) :=
 some ((⟨(a0.aP.take j1.1.toNat),a0.bD.take j1.2.toNat⟩:aX),j2,0)
@[go_sem] def zdx5 (a0:aX) (j1:Int×Int) (j2:(List aM)):St:=⟨[(4,.ptr 0 0 0),(10,.ptr 1 0 0),(11,.own 2 0 j2.length)],[(0,bx aX.zero),(1,⟨false,2,aX.enc aX.zero,[[.own 3 0 (((⟨(a0.aP.take j1.1.toNat),a0.bD.take j1.2.toNat⟩:aX).aP).length),.own 4 0 (((⟨(a0.aP.take j1.1.toNat),a0.bD.take j1.2.toNat⟩:aX).bD).length)]]⟩),(2,sx j2),(3,sx ((⟨(a0.aP.take j1.1.toNat),a0.bD.take j1.2.toNat⟩:aX).aP)),(4,sx ((⟨(a0.aP.take j1.1.toNat),a0.bD.take j1.2.toNat⟩:aX).bD))],5⟩
def zai5 (a0:aX) (j1:Int×Int) (v2:(List ByteArray)) (g1:Int×(List aM)):Option ((Int×(List aM))⊕(List aM)) :=
 (if (decide (g1.1 < (v2.length:Int)))=true then
  gd (0≤g1.1∧g1.1 < (v2.length:Int)) <|
  gd (0≤g1.1∧g1.1 < (v2.length:Int)) <|
  (zj3 ((⟨(a0.aP.take j1.1.toNat),a0.bD.take j1.2.toNat⟩:aX).aP) (v2.getD g1.1.toNat ⟨#[]⟩)).bind fun v3 =>
  gd (g1.2.length+1≤4294967296) <|
  some (.inl ((i64.wrap (g1.1+1)),(g1.2++[(⟨(v2.getD g1.1.toNat ⟨#[]⟩),v3⟩:aM)])))
 else
  some (.inr g1.2))
@[go_sem] def zdx6 (a0:aX) (j1:Int×Int) (v2:(List ByteArray)) (g1:Int×(List aM)):St:=⟨[(4,.ptr 0 0 0),(10,.ptr 1 0 0),(11,.own 2 0 g1.2.length),(12,.sl (v2.map eS)),(13,.int .i64 g1.1)],[(0,bx aX.zero),(1,⟨false,2,aX.enc aX.zero,[[.own 3 0 (((⟨(a0.aP.take j1.1.toNat),a0.bD.take j1.2.toNat⟩:aX).aP).length),.own 4 0 (((⟨(a0.aP.take j1.1.toNat),a0.bD.take j1.2.toNat⟩:aX).bD).length)]]⟩),(2,sx g1.2),(3,sx ((⟨(a0.aP.take j1.1.toNat),a0.bD.take j1.2.toNat⟩:aX).aP)),(4,sx ((⟨(a0.aP.take j1.1.toNat),a0.bD.take j1.2.toNat⟩:aX).bD))],5⟩
def zZ5 (a0:aX) (j1:Int×Int):Option (aX×(List aM)×Int) :=
 gd (0≤0∧0≤j1.1∧j1.1≤(a0.aP.length:Int)) <|
 gd ((a0.aP.take j1.1.toNat).length≤4294967296) <|
 gd (0≤0∧0≤j1.2∧j1.2≤(a0.bD.length:Int)) <|
 gd ((a0.bD.take j1.2.toNat).length≤4294967296) <|
 gd (0≤j1.1∧j1.1≤(a0.aP.length:Int)∧(a0.aP.length:Int)≤(a0.aP.length:Int)) <|
 (zi3 (a0.aP.drop j1.1.toNat)).bind fun v2 =>
 (zc0 (zai5 a0 j1 v2) (0,[])).bind (fun z=>zaH1 a0 j1 z)
@[go_sem] def zdx7 (a0:aX) (j1:Int×Int):St:=⟨[(2,.ptr 0 0 0),(4,.ptr 1 0 0),(7,.int .i64 j1.1),(8,.int .i64 j1.2)],[(0,bx a0),(1,bx aX.zero)],2⟩
def zA9 (a0:aX) (a1:Int):Option (aX×(List aM)×Int) :=
 (zq8 a0).bind fun v1 =>
 (if (!v1)=true then
  some ({ aX.zero with  },[],2)
 else
  (if (!decide (a1=0))=true then
   (zl8 a0.bD a1).bind fun v4 =>
   (if (decide (v4 < 0))=true then
    some ({ aX.zero with  },[],10)
   else
    gd (0≤v4∧v4 < (a0.bD.length:Int)) <|
    zZ5 a0 ((a0.bD.getD v4.toNat bR.zero).at_,i64.wrap (v4+1)))
  else
   zZ5 a0 (0,0)))
theorem zbY0 (a0:aX) (a1:Int) (r:aX×(List aM)×Int) (h:zA9 a0 a1=some r):PFn C 260 [ga a0,.int .i64 a1] (.tup [ga r.1,la r.2.1,.int .i64 r.2.2]):=by
 refine zad2 Tryz.f260 [(35,1),(41,1),(47,2),(11,1)] fun E hG hN hK=>?_
 unfold zA9 at h
 refine za2 (za3 hG ?_)
 refine za2 (za2 (za3 hG ?_))
 obtain ⟨v1,hv1,h⟩:=zc9 h
 refine zq4 (fun hg=>(zbg4 a0).ok _ hv1) ?_
 refine zl0 rfl hG h (fun _ h=>?_) (fun _ h=>?_)
 · refine za2 (za3 hG ?_)
   refine zt2 ?_
   exact zI9 h
 refine zj2 ?_
 refine za2 (za3 hG ?_)
 refine za2 (za2 (za3 hG ?_))
 refine zaP1 (zdx7 a0) (fun v=>zZ5 a0 v=some r) rfl hG h ?_ (fun _ h=>?_) (fun _ h=>?_)
 · intro j1 h
   unfold zZ5 at h
   refine g_st ?_
   refine za2 ?_
   obtain ⟨hb5,h⟩:=zd5 h
   obtain ⟨hb6,h⟩:=zd5 h
   obtain ⟨hb7,h⟩:=zd5 h
   obtain ⟨hb8,h⟩:=zd5 h
   refine zad1 zw6 hG ?_
   refine za2 (za3 hG ?_)
   refine za2 ?_
   obtain ⟨hb4,h⟩:=zd5 h
   refine za3 hG ?_
   obtain ⟨v2,hv2,h⟩:=zc9 h
   refine zq4 (fun hg=>(zbP2 (a0.aP.drop j1.1.toNat)).ok _ hv2) ?_
   refine za2 (za2 (za3 hG ?_))
   refine zB6 (zdx5 a0 j1) (fun v=>zaH1 a0 j1 v=some r) ?_ ?_
   · intro j2 h
     unfold zaH1 at h
     refine g_st ?_
     refine za2 (za3 hG ?_)
     refine zt2 ?_
     exact zI9 h
   refine zY4 (zdx6 a0 j1 v2) hK [(0,1),(1,6),(2,7),(3,3),(4,5)] h (fun x_l1 h g1 y_l1 h_l1 hx_l1=>?_)
   unfold zai5 at h_l1
   refine g_st ?_
   refine za2 (za2 (za3 hG ?_))
   refine zl0 rfl hG h_l1 (fun _ h_l1=>?_) (fun _ h_l1=>?_)
   · refine zj2 ?_
     refine za2 (zB5 ?_)
     obtain ⟨hb2,h_l1⟩:=zd5 h_l1
     obtain ⟨hb3,h_l1⟩:=zd5 h_l1
     refine zad1 zw6 hG ?_
     obtain ⟨v3,hv3,h_l1⟩:=zc9 h_l1
     obtain ⟨hb1,h_l1⟩:=zd5 h_l1
     refine zaa0 (fun hg=>(zbX5 ((⟨(a0.aP.take j1.1.toNat),a0.bD.take j1.2.toNat⟩:aX).aP) (v2.getD g1.1.toNat ⟨#[]⟩)).ok _ hv3) ?_
     refine za3 hG ?_
     exact zF8 hK [(0,0),(1,1),(2,5),(3,3),(4,4)] h_l1
   refine zH3 ?_
   cases h_l1
   cases hx_l1 _ rfl
   exact zy4 hK [(0,0),(1,1),(2,2),(3,3),(4,4)] g1.2 (by exact h)
 · refine za2 (za3 hG ?_)
   obtain ⟨v4,hv4,h⟩:=zc9 h
   refine zq4 (fun hg=>(zbX6 a0.bD a1).ok _ hv4) ?_
   refine za2 (za2 (za3 hG ?_))
   refine zl0 rfl hG h (fun _ h=>?_) (fun _ h=>?_)
   · refine za2 (za3 hG ?_)
     refine zt2 ?_
     exact zI9 h
   refine zj2 ?_
   obtain ⟨hb9,h⟩:=zd5 h
   refine za3 hG ?_
   exact zy4 hK [(0,0),(1,1)] ((a0.bD.getD v4.toNat bR.zero).at_,i64.wrap (v4+1)) (by exact h)
 refine zj2 ?_
 exact zy4 hK [(0,0),(1,1)] (0,0) (by exact h)
attribute [local irreducible] zA9
attribute [local irreducible] zq6 zm6 zu7 zw2
def zG1 (a0:aA):Option (List aJ) :=
 (ze5 a0.aR).bind fun v1 =>
 (zu1 a0).bind fun v2 =>
 gd (v1.length+v2.length≤4294967296) <|
 (zm6 (v1++v2)).bind fun v3 =>
 some v3
instance zdc9 (a0:aA):OkP (zG1 a0) 85 [ga a0] (fun r=>la r):=ok1 (zG1.eq_1 a0) Tryz.f85 []
attribute [local irreducible] zG1
def zP0 (a0:aI) (a1:List aU) (a2:aJ) (a3:aC):Option Bool :=
 (zu7 a0 a1).bind fun v1 =>
 ((if ((v1&&zm2 a2)&&zs9 a0 a3)=true then zr9 a1 a2 a3 else some [])).bind fun v2 =>
 ((if ((v1&&zm2 a2)&&zs9 a0 a3)=true then zu7 a0 v2 else some false)).bind fun v3 =>
 some (((v1&&zm2 a2)&&zs9 a0 a3)&&v3)
instance zdl3 (a0:aI) (a1:List aU) (a2:aJ) (a3:aC):OkP (zP0 a0 a1 a2 a3) 271 [ga a0,la a1,ga a2,ga a3] (fun r=>.bool r):=ok1 (zP0.eq_1 a0 a1 a2 a3) Tryz.f271 []
attribute [local irreducible] zP0
def zaf0 (v2:(List aM)×Bool) (j1:Unit):Option ((List aM)×Bool) :=
 some (v2.1,true)
@[go_sem] def zdx8 (v2:(List aM)×Bool) (j1:Unit):St:=⟨[(4,la v2.1)],[],0⟩
def zaB3 (g1:Int) (j2:Unit):Option (Int⊕(Unit⊕((List aM)×Bool))) :=
 some (.inl (i64.wrap (g1+1)))
@[go_sem] def zdx9 (v2:(List aM)×Bool) (g1:Int) (j2:Unit):St:=⟨[(4,la v2.1),(6,.int .i64 g1)],[],0⟩
def zV5 (v2:(List aM)×Bool) (g1 g2:Int):Option (Int⊕(Unit⊕((List aM)×Bool))) :=
 (if (decide (g2 < g1))=true then
  gd (0≤g1∧g1 < (v2.1.length:Int)) <|
  gd (0≤g2∧g2 < (v2.1.length:Int)) <|
  (if (((v2.1.getD g1.toNat aM.zero).name).toList == ((v2.1.getD g2.toNat aM.zero).name).toList)=true then
   some (.inr (.inr ([],false)))
  else
   some (.inl (i64.wrap (g2+1))))
 else
  some (.inr (.inl ())))
@[go_sem] def zdy0 (v2:(List aM)×Bool) (g1 g2:Int):St:=⟨[(4,la v2.1),(6,.int .i64 g1),(7,.int .i64 g2)],[],0⟩
def zN8 (v2:(List aM)×Bool) (g1:Int):Option (Int⊕(Unit⊕((List aM)×Bool))) :=
 (if (decide (g1 < (v2.1.length:Int)))=true then
  (zc0 (zV5 v2 g1) 0).bind (fun|.inl z=>zaB3 g1 z|.inr z=>some (.inr (.inr z)))
 else
  some (.inr (.inl ())))
@[go_sem] def zdy1 (v2:(List aM)×Bool) (g1:Int):St:=⟨[(4,la v2.1),(6,.int .i64 g1)],[],0⟩
def zo3 (a0:aO):Option ((List aM)×Bool) :=
 (zn1 a0).bind fun v1 =>
 (if (decide (v1=0))=true then
  some ([],false)
 else
  (zw2 a0).bind fun v2=>match v2 with
  | .inl v2 =>
   some ([],false)
  | .inr v2 =>
   (if ((!v2.2)||decide (8 < (v2.1.length:Int)))=true then
    some ([],false)
   else
    (zc0 (zN8 v2) 0).bind (fun|.inl z=>zaf0 v2 z|.inr z=>some z)))
theorem zbP8 (a0:aO) (r:(List aM)×Bool) (h:zo3 a0=some r):PFn C 201 [ga a0] (.tup [la r.1,.bool r.2]):=by
 refine zad2 Tryz.f201 [] fun E hG hN hK=>?_
 unfold zo3 at h
 refine za2 (za3 hG ?_)
 refine za2 (za2 (za3 hG ?_))
 obtain ⟨v1,hv1,h⟩:=zc9 h
 refine zq4 (fun hg=>(zbP6 a0).ok _ hv1) ?_
 refine zl0 rfl hG h (fun _ h=>?_) (fun _ h=>?_)
 · refine za2 (za3 hG ?_)
   refine zt2 ?_
   exact zI9 h
 refine zj2 ?_
 refine za2 (za3 hG ?_)
 obtain ⟨v2,hv2,h⟩:=zc9 h
 rcases v2 with v2|v2
 · dsimp only at h
   refine zs2 [] [(0,1)] [0] (zbA8 _ _ hv2) rfl rfl ?_
   refine za2 (za2 (za3 hG ?_))
   refine zbj9 rfl hG ?_
   refine za2 (za3 hG ?_)
   refine zt2 ?_
   exact zI9 h
 dsimp only at h
 refine zs2 [] [] [] (zbA9 _ _ hv2) rfl rfl ?_
 refine za2 (za2 (za3 hG ?_))
 refine zl0 rfl hG h (fun _ h=>?_) (fun _ h=>?_)
 · refine za2 (za3 hG ?_)
   refine zt2 ?_
   exact zI9 h
 refine zj2 ?_
 refine za2 (za2 (za3 hG ?_))
 refine zB6 (zdx8 v2) (fun v=>zaf0 v2 v=some r) ?_ ?_
 · intro j1 h
   unfold zaf0 at h
   refine g_st ?_
   refine za2 (za3 hG ?_)
   refine zt2 ?_
   exact zI9 h
 refine zY4 (zdy1 v2) hK [] h (fun x_l1 h g1 y_l1 h_l1 hx_l1=>?_)
 unfold zN8 at h_l1
 refine g_st ?_
 refine za2 (za2 (za3 hG ?_))
 refine zl0 rfl hG h_l1 (fun _ h_l1=>?_) (fun _ h_l1=>?_)
 · refine zj2 ?_
   refine za2 (zB5 (za2 (za3 hG ?_)))
   refine zB6 (zdx9 v2 g1) (fun v=>zaB3 g1 v=some y_l1) ?_ ?_
   · intro j2 h_l1
     unfold zaB3 at h_l1
     refine g_st ?_
     refine za3 hG ?_
     exact zF8 hK [] h_l1
   refine zY4 (zdy0 v2 g1) hK [] h_l1 (fun x_l2 h_l1 g2 y_l2 h_l2 hx_l2=>?_)
   unfold zV5 at h_l2
   refine g_st ?_
   refine za2 (za2 (za3 hG ?_))
   refine zl0 rfl hG h_l2 (fun _ h_l2=>?_) (fun _ h_l2=>?_)
   · refine zj2 ?_
     refine za2 (zB5 (za2 ?_))
     obtain ⟨hb1,h_l2⟩:=zd5 h_l2
     obtain ⟨hb2,h_l2⟩:=zd5 h_l2
     refine zaX8 zw6 hG ?_
     refine zl0 rfl hG h_l2 (fun _ h_l2=>?_) (fun _ h_l2=>?_)
     · refine za2 (za3 hG ?_)
       refine zt2 ?_
       obtain rfl:=dU h_l2
       have hx:=hx_l2 _ rfl
       subst hx
       try dsimp only at h_l1
       cases h_l1
       cases hx_l1 _ rfl
       exact zI9 h
     refine zj2 ?_
     refine za3 hG ?_
     exact zF8 hK [] h_l2
   refine zH3 ?_
   obtain rfl:=dU h_l2
   have hx:=hx_l2 _ rfl
   subst hx
   try dsimp only at h_l1
   exact zy4 hK [] () (by exact h_l1)
 refine zH3 ?_
 cases h_l1
 cases hx_l1 _ rfl
 exact zy4 hK [] () (by exact h)
instance zcV5 (a0:aO):OkP (zo3 a0) 201 [ga a0] (fun r=>.tup [la r.1,.bool r.2]):=⟨zbP8 a0⟩
attribute [local irreducible] zo3
def zz6 (a0 a1:aD):Option Bool :=
 (zb7 a0.aF a1.aF).bind fun v1 =>
 ((if v1=true then za5 a0.aQ a1.aQ else some false)).bind fun v2 =>
 some (v1&&v2)
instance zbv3 (a0 a1:aD):OkP (zz6 a0 a1) 15 [ga a0,ga a1] (fun r=>.bool r):=⟨fun r h=>by
 refine zad2 Tryz.f15 [] fun E hG hN hK=>?_
 have hm:Mk (zz6 a0 a1):=trivial
 unfold zz6 at h
 refine za2 (za3 hG ?_)
 refine za2 (za3 hG ?_)
 obtain ⟨v1,hv1,h⟩:=zc9 h
 have hm:=mkP hm v1
 refine zs2 [] [] [] ((zJ5 a0.aF a1.aF).ok _ hv1) rfl rfl ?_
 obtain ⟨v2,hv2,h⟩:=zc9 h
 have hm:=mkP hm v2
 refine zbf5 [] [] hv2 (fun hc=>(zN7 a0.aQ a1.aQ).ok _ hc) rfl ?_
 exact gogo⟩
attribute [local irreducible] zz6
def zaU1 (j2:Unit):Option Bool :=
 some true
def zao7 (a0:aA) (g1:Int):Option (Int⊕(Unit⊕Bool)) :=
 (if (decide (g1 < (a0.aV.length:Int)))=true then
  gd (0≤g1∧g1 < (a0.aV.length:Int)) <|
  gd (zs9 a0.aB ((a0.aV.getD g1.toNat aT.zero).aK)=true→0≤g1∧g1 < (a0.aV.length:Int)) <|
  ((if (zs9 a0.aB ((a0.aV.getD g1.toNat aT.zero).aK))=true then zm5 a0.aR ((a0.aV.getD g1.toNat aT.zero).aN) else some aC.zero)).bind fun v4 =>
  (if ((!(zs9 a0.aB ((a0.aV.getD g1.toNat aT.zero).aK)))||(!(zl7 v4)))=true then
   some (.inr (.inr false))
  else
   some (.inl (i64.wrap (g1+1))))
 else
  some (.inr (.inl ())))
def zao8 (a0:aA) (j1:Unit):Option Bool :=
 (zc0 (zao7 a0) 0).bind (fun|.inl z=>zaU1 z|.inr z=>some z)
def zV6 (a0:aA) (g2:Int):Option (Int⊕(Unit⊕Bool)) :=
 (if (decide (g2 < (a0.aL.length:Int)))=true then
  gd (0≤g2∧g2 < (a0.aL.length:Int)) <|
  (zm5 a0.aR ((a0.aL.getD g2.toNat aT.zero).aN)).bind fun v5 =>
  ((if (!(((((zl7 v5||(!(zs9 a0.aB ((a0.aL.getD g2.toNat aT.zero).aK))))||(!(zs4 a0.aB ((a0.aL.getD g2.toNat aT.zero).aK) v5)))||decide ((a0.aL.getD g2.toNat aT.zero).aK=v5))||(!decide ((a0.aL.getD g2.toNat aT.zero).bG=0)))||(!decide ((a0.aL.getD g2.toNat aT.zero).bQ=0))))=true then zk1 a0.aL ((a0.aL.getD g2.toNat aT.zero).aN) else some 0)).bind fun v6 =>
  (if ((((((zl7 v5||(!(zs9 a0.aB ((a0.aL.getD g2.toNat aT.zero).aK))))||(!(zs4 a0.aB ((a0.aL.getD g2.toNat aT.zero).aK) v5)))||decide ((a0.aL.getD g2.toNat aT.zero).aK=v5))||(!decide ((a0.aL.getD g2.toNat aT.zero).bG=0)))||(!decide ((a0.aL.getD g2.toNat aT.zero).bQ=0)))||(!decide (v6=g2)))=true then
   some (.inr (.inr false))
  else
   some (.inl (i64.wrap (g2+1))))
 else
  some (.inr (.inl ())))
def zG2 (a0:aA):Option Bool :=
 (zj4 a0.aB).bind fun v1 =>
 ((if v1=true then zu7 a0.aB a0.aR else some false)).bind fun v2 =>
 ((if (!(((!v1)||(!v2))||decide (8 < (a0.aL.length:Int))))=true then zu0 a0.aV else some false)).bind fun v3 =>
 (if (((((((!v1)||(!v2))||decide (8 < (a0.aL.length:Int)))||(!v3))||decide (8 < i64.wrap ((a0.aR.length:Int)+(a0.aV.length:Int))))||decide (a0.gen < 0))||decide (1073741824 < a0.gen))=true then
  some false
 else
  (zc0 (zV6 a0) 0).bind (fun|.inl z=>zao8 a0 z|.inr z=>some z))
@[reducible,instance] def zdX0 a0 j1:=mkJ (zao8 a0 j1) 2 (@zaU1.eq_1) fun (j2:Unit)=>⟨[],[],0⟩
@[reducible,instance] def zdX1 (a0:aA) {T:Type} (x:T):=mkL x (@zao7.eq_1 a0) fun (g1:Int)=>⟨[(1,.ptr 0 0 0),(3,.ptr 1 0 0),(7,.int .i64 g1)],[(0,bx a0),(1,bx a0.aB)],2⟩
@[reducible,instance] def zdX2 (a0:aA) {T1:Type} (v1:T1) {T2:Type} (v2:T2) {T3:Type} (v3:T3):=mkJ (((zG2 a0,v1),v2),v3) 0 (@zao8.eq_1 a0) fun (j1:Unit)=>⟨[(1,.ptr 0 0 0),(3,.ptr 1 0 0)],[(0,bx a0),(1,bx a0.aB)],2⟩
@[reducible,instance] def zdX3 (a0:aA) {T:Type} (x:T):=mkL x (@zV6.eq_1 a0) fun (g2:Int)=>⟨[(1,.ptr 0 0 0),(3,.ptr 1 0 0),(4,.int .i64 g2)],[(0,bx a0),(1,bx a0.aB)],2⟩
instance zdd0 (a0:aA):OkP (zG2 a0) 232 [ga a0] (fun r=>.bool r):=ok1 (zG2.eq_1 a0) Tryz.f232 []
attribute [local irreducible] zG2
def zL4 (a0:List aI) (a1:aM):Option Int :=
 (zw3 a0).bind fun v1 =>
 (if (!v1)=true then
  some 2
 else
  (zm3 a0 a1.name).bind fun v2 =>
  (if (!v2.2)=true then
   some 10
  else
   (if (!(zs9 v2.1 a1.aK))=true then
    some 12
   else
    some 0)))
instance zcP8 (a0:List aI) (a1:aM):OkP (zL4 a0 a1) 202 [la a0,ga a1] (fun r=>.int .i64 r):=ok1 (zL4.eq_1 a0 a1) Tryz.f202 []
attribute [local irreducible] zL4
end
end Ab
end Go.Proofs.YtogpinppgncpmaaGreatDoor
