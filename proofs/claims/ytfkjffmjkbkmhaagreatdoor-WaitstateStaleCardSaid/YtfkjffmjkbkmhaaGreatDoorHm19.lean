import Derived.Test.YtfkjffmjkbkmhaaGreatDoorHm13
import Derived.Test.YtfkjffmjkbkmhaaGreatDoorHm16
import Derived.Test.YtfkjffmjkbkmhaaGreatDoorHm15
namespace Go.Proofs.YtfkjffmjkbkmhaaGreatDoor
namespace Ab
open IntKind (i64 u64 u8)
set_option linter.unusedSimpArgs false
set_option linter.defProp false
set_option linter.unusedVariables false
set_option maxRecDepth 100000
set_option maxHeartbeats 1000000
noncomputable section
attribute [local irreducible] zl7 zl8 zb2 za3 zd9 za8 zm2 zj6 zg1 zg2 zf8 zb1 zf5 zg6 zj1 ze3 za9 zj4 zi1 zh6 zg4 zf2 zc4 zi7 zb0 zf0 zl9 zh2 zm6 zh3 zi2 zk8 zn7 zm0 f_ref08_holds zc3 zk9 ze0 zm3 zf7 zh4 zf6 zb3 zl0 za0 ze7 zi5 ze8 zj3 zd7 zg5 zb4 zb5 zf1 zh7 zm8 zd3 zh9 zn6 zk3 zc9 zq5 za1 zi6 zg3 zd8 zn8 zc0 zd5 zf3 zp8 zo8 ze4 zk2 zb7 zh8 zd6 zp2 zd0 zb8 zs6 zj0 zn9 zj2 zp3 zl1 zh1 zq0 zl5 zu2 zg8 zb6 ze6 zk4 zi9 zf9 zj5 zp4 zg9 zi3 ze5 ze2 zq7 zt2 zi4 zl2 zs8 zt1 zs9 zm1 zt7 zu3 zc8 za6 zj9 zr0
def zax3 (j1:Unit):Option Bool :=
 some true
def zz9 (a0:aA) (g1:Int):Option (Int⊕(Unit⊕Bool)) :=
 (if (decide (g1 < (a0.aS.length:Int)))=true then
  gd (0≤g1∧g1 < (a0.aS.length:Int)) <|
  ((if (za4 a0.aB ((a0.aS.getD g1.toNat aT.zero).aN))=true then zn8 a0 ((a0.aS.getD g1.toNat aT.zero).aJ) else some aD.zero)).bind fun v2 =>
  (if ((!(za4 a0.aB ((a0.aS.getD g1.toNat aT.zero).aN)))||(!(zj7 v2)))=true then
   some (.inr (.inr false))
  else
   some (.inl (i64.wrap (g1+1))))
 else
  some (.inr (.inl ())))
def zo6 (a0:aA):Option Bool :=
 (zu3 a0.aS).bind fun v1 =>
 (if ((!v1)||decide (8 < i64.wrap ((a0.aQ.length:Int)+(a0.aS.length:Int))))=true then
  some false
 else
  (zb9 (zz9 a0) 0).bind (fun|.inl z=>zax3 z|.inr z=>some z))
@[reducible,instance] def zea9 a0 {T1:Type} (v1:T1):=mkJ (zo6 a0,v1) 0 (@zax3.eq_1) fun (j1:Unit)=>⟨[],[],0⟩
@[reducible,instance] def zeb0 (a0:aA) {T:Type} (x:T):=mkL x (@zz9.eq_1 a0) fun (g1:Int)=>⟨[(1,.ptr 0 0 0),(20,la a0.aS),(21,.int .i64 (a0.aS.length:Int)),(22,.int .i64 g1)],[(0,bx a0)],1⟩
instance zct5 (a0:aA):OkP (zo6 a0) 167 [ga a0] (fun r=>.bool r):=ok1 (zo6.eq_1 a0) Tryz.f167 []
attribute [local irreducible] zo6
def zl6 (a0:List aK):Option (List aK) :=
 gd (a0.length≤4294967296) <|
 (zc8 a0).bind fun v1 =>
 (za3 v1).bind fun v2 =>
 some v2.1
theorem zbo2 (a0:List aK) (r:(List aK)) (h:zl6 a0=some r):PFn C 51 [la a0] (la r):=by
 refine zY9 Tryz.f51 [] fun E hG hN hK=>?_
 unfold zl6 at h
 refine za2 (za5 hG ?_)
 refine za2 ?_
 obtain ⟨hb1,h⟩:=ze1 h
 refine za5 hG ?_
 refine za2 (za5 hG ?_)
 obtain ⟨v1,hv1,h⟩:=zc7 h
 have hl_v1:=zag8 a0 _ hv1
 refine zr6 [(0,0)] [] [0] (zag9 _ _ hv1) rfl rfl ?_
 refine za2 (za5 hG ?_)
 obtain ⟨v2,hv2,h⟩:=zc7 h
 refine zr6 [(0,0)] [] [0] ((zah0 v1).ok _ hv2) rfl rfl ?_
 refine zt4 ?_
 exact zJ4 h
instance zct6 (a0:List aK):OkP (zl6 a0) 51 [la a0] (fun r=>la r):=⟨zbo2 a0⟩
attribute [local irreducible] zl6
def zay9 (a0:aI) (a1:List aV) (j1:Unit):Option Bool :=
 (zh2 a1).bind fun v1 =>
 (zm1 a0 v1).bind fun v2 =>
 some v2
def zaa8 (a0:aI) (a1:List aV) (g1:Int):Option (Int⊕(Unit⊕Bool)) :=
 (if (decide (g1 < (a1.length:Int)))=true then
  gd (0≤g1∧g1 < (a1.length:Int)) <|
  gd (zo1 ((a1.getD g1.toNat aV.zero).aJ)=true→0≤g1∧g1 < (a1.length:Int)) <|
  gd (((!((!(zo1 ((a1.getD g1.toNat aV.zero).aJ)))||(!(zs7 a0 ((a1.getD g1.toNat aV.zero).aN)))))&&decide (0 < g1))=true→0≤i64.wrap (g1 - 1)∧i64.wrap (g1 - 1) < (a1.length:Int)) <|
  gd (((!((!(zo1 ((a1.getD g1.toNat aV.zero).aJ)))||(!(zs7 a0 ((a1.getD g1.toNat aV.zero).aN)))))&&decide (0 < g1))=true→0≤g1∧g1 < (a1.length:Int)) <|
  (if (((!(zo1 ((a1.getD g1.toNat aV.zero).aJ)))||(!(zs7 a0 ((a1.getD g1.toNat aV.zero).aN))))||(decide (0 < g1)&&decide (0≤zs1 ((a1.getD ((i64.wrap (g1 - 1)).toNat) aV.zero).aJ) ((a1.getD g1.toNat aV.zero).aJ))))=true then
   some (.inr (.inr false))
  else
   some (.inl (i64.wrap (g1+1))))
 else
  some (.inr (.inl ())))
def zt9 (a0:aI) (a1:List aV):Option Bool :=
 (if ((!(zG6 a0))||decide (8 < (a1.length:Int)))=true then
  some false
 else
  (zb9 (zaa8 a0 a1) 0).bind (fun|.inl z=>zay9 a0 a1 z|.inr z=>some z))
@[reducible,instance] def zdQ1 (a0:aI) (a1:List aV):=mkJ (zt9 a0 a1) 0 (@zay9.eq_1 a0 a1) fun (j1:Unit)=>⟨[(1,la a1),(2,.ptr 0 0 0)],[(0,bx a0)],1⟩
@[reducible,instance] def zdQ2 (a0:aI) (a1:List aV) {T:Type} (x:T):=mkL x (@zaa8.eq_1 a0 a1) fun (g1:Int)=>⟨[(1,la a1),(2,.ptr 0 0 0),(5,.int .i64 g1)],[(0,bx a0)],1⟩
instance zcX6 (a0:aI) (a1:List aV):OkP (zt9 a0 a1) 263 [ga a0,la a1] (fun r=>.bool r):=ok1 (zt9.eq_1 a0 a1) Tryz.f263 []
attribute [local irreducible] zt9
def zaa9 (a0:aP) (j1:Unit):Option (Nat⊕((List aM)×Bool)) :=
 gd (1≤4294967296) <|
 some (.inr ([a0.bF],true))
@[go_sem] def zcX7 (a0:aP) (j1:Unit):St:=⟨[(0,.own 0 0 0),(3,.ptr 1 0 0)],[(0,⟨false,3,aM.enc aM.zero,[].map aM.enc⟩),(1,bx a0)],2⟩
def zak8 (a0:aP) (g1:Int):Option (Int⊕(Unit⊕(Nat⊕((List aM)×Bool)))) :=
 (if (decide (g1 < 0))=true then
  gd (0≤g1∧g1 < (0:Int)) <|
  (if (decide (([].getD g1.toNat aM.zero)=a0.bF))=true then
   some (.inr (.inr (.inr ([],true))))
  else
   some (.inl (i64.wrap (g1+1))))
 else
  some (.inr (.inl ())))
@[go_sem] def zcX8 (a0:aP) (g1:Int):St:=⟨[(0,.own 0 0 0),(3,.ptr 1 0 0),(6,.int .i64 g1)],[(0,⟨false,3,aM.enc aM.zero,[].map aM.enc⟩),(1,bx a0)],2⟩
def zab0 (j2:(List aM)):Option (Nat⊕((List aM)×Bool)) :=
 some (.inr (j2,true))
@[go_sem] def zcX9  (j2:(List aM)):St:=⟨[(0,.own 0 0 j2.length)],[(0,sx j2)],1⟩
def zS2 (a0:aP) (g2:Int×(List aM)):Option ((Int×(List aM))⊕((List aM)⊕(Nat⊕((List aM)×Bool)))) :=
 (if (decide (g2.1 < (a0.bE.length:Int)))=true then
  gd (0≤g2.1∧g2.1 < (a0.bE.length:Int)) <|
  (zr0 (a0.bE.getD g2.1.toNat aP.zero) g2.2).bind fun v2=>match v2 with
  | .inl v2 =>
   some (.inr (.inr (.inl g2.2.length)))
  | .inr v2 =>
   (if (!v2.1)=true then
    some (.inr (.inr (.inl g2.2.length)))
   else
    some (.inl ((i64.wrap (g2.1+1)),v2.2)))
 else
  some (.inr (.inl g2.2)))
@[go_sem] def zcY0 (a0:aP) (g2:Int×(List aM)):St:=⟨[(0,.own 0 0 g2.2.length),(3,.ptr 1 0 0),(7,.int .i64 g2.1)],[(0,sx g2.2),(1,bx a0)],2⟩
def zI4 (a90:(aP→Option (Nat⊕((List aM)×Bool)))) (a0:aP):Option (Nat⊕((List aM)×Bool)) :=
 (if (decide ((a0.bE.length:Int)=0))=true then
  ((if (decide (a0.k=0))=true then zg9 a0.bF.name else some false)).bind fun v1 =>
  (if (((!decide (a0.k=0))||(!v1))||(!(zm4 a0.bF.aN)))=true then
   some (.inr ([],false))
  else
   (zb9 (zak8 a0) 0).bind (fun|.inl z=>zaa9 a0 z|.inr z=>some z))
 else
  (if ((decide (a0.k < 1)||decide ((a0.bE.length:Int) < a0.k))||(!decide (a0.bF={ aM.zero with  })))=true then
   some (.inr ([],false))
  else
   (zb9 (zS2 a0) (0,[])).bind (fun|.inl z=>zab0 z|.inr z=>some z)))
def zab1:Nat→(aP→Option (Nat⊕((List aM)×Bool)))
 | 0=>fun _=>none
 | n+1=>zI4 (zab1 n)
def zv1 (a0:aP):Option (Nat⊕((List aM)×Bool)):=zab1 (_root_.SizeOf.sizeOf a0+1) a0
theorem zbw4 (a90:(aP→Option (Nat⊕((List aM)×Bool)))) (hrc0:∀ (a0:aP) (r:Nat),a90 a0=some (.inl r)→MFn C 237 [.full ([].map aM.enc),ga a0] [] 0 (.tup [.own 0 0 r,.bool false]) [] 1) (hrc1:∀ (a0:aP) (r:(List aM)×Bool),a90 a0=some (.inr r)→MFn C 237 [.full ([].map aM.enc),ga a0] [] 0 (.tup [la r.1,.bool r.2]) [] 0) (a0:aP) (r:Nat) (h:zI4 a90 a0=some (.inl r)):MFn C 237 [.full ([].map aM.enc),ga a0] [] 0 (.tup [.own 0 0 r,.bool false]) [] 1:=by
 refine zax1 Tryz.f237 [] [.own 0 0 r,.bool false] fun E hG hN hK=>?_
 unfold zI4 at h
 refine g_gh (.own0 0 3 (aM.enc aM.zero)) ?_
 refine za2 (za5 hG ?_)
 refine za2 (za2 (za5 hG ?_))
 refine zl4 rfl hG h (fun _ h=>?_) (fun _ h=>?_)
 · refine za2 (za2 (za5 hG ?_))
   obtain ⟨v1,hv1,h⟩:=zc7 h
   refine zr9 (fun hg=>(zaJ0 a0.bF.name).ok _ (zaN2 hg hv1)) ?_
   refine zr9 (fun hg=>(zaZ2 a0.bF.aN).ok) ?_
   refine zl4 rfl hG h (fun _ h=>?_) (fun _ h=>?_)
   · refine za2 (za5 hG ?_)
     refine g_gh (.fz [0]) ?_
     refine zt4 ?_
     exact nomatch h
   refine zk1 ?_
   refine za2 (za2 (za5 hG ?_))
   refine zD0 (zcX7 a0) (fun v=>zaa9 a0 v=some (.inl r)) ?_ ?_
   · intro j1 h
     unfold zaa9 at h
     refine g_st ?_
     refine za2 ?_
     obtain ⟨hb1,h⟩:=ze1 h
     refine za5 hG ?_
     refine g_gh (.fz [2]) ?_
     refine zt4 ?_
     exact nomatch h
   refine zY8 (zcX8 a0) hK [(0,0),(1,1)] h (fun x_l1 h g1 y_l1 h_l1 hx_l1=>?_)
   unfold zak8 at h_l1
   refine g_st ?_
   refine za2 (za2 (za5 hG ?_))
   refine zl4 rfl hG h_l1 (fun _ h_l1=>?_) (fun _ h_l1=>?_)
   · refine zk1 ?_
     refine za2 (zC3 (za2 ?_))
     obtain ⟨hb2,h_l1⟩:=ze1 h_l1
     refine zaW1 zz1 hG ?_
     refine zl4 rfl hG h_l1 (fun _ h_l1=>?_) (fun _ h_l1=>?_)
     · refine za2 (za5 hG ?_)
       refine g_gh (.fz [0]) ?_
       refine zt4 ?_
       cases h_l1
       cases hx_l1 _ rfl
       exact nomatch h
     refine zk1 ?_
     refine za5 hG ?_
     exact zJ0 hK [(0,0),(1,1)] h_l1
   refine zG4 ?_
   cases h_l1
   cases hx_l1 _ rfl
   exact zA9 hK [(0,0),(1,1)] () (by exact h)
 refine zk1 ?_
 refine za2 (za2 (za5 hG ?_))
 refine zl4 rfl hG h (fun _ h=>?_) (fun _ h=>?_)
 · refine za2 (za5 hG ?_)
   refine g_gh (.fz [0]) ?_
   refine zt4 ?_
   exact nomatch h
 refine zk1 ?_
 refine za2 (za2 (za5 hG ?_))
 refine zD0 zcX9 (fun v=>zab0 v=some (.inl r)) ?_ ?_
 · intro j2 h
   unfold zab0 at h
   refine g_st ?_
   refine za2 (za5 hG ?_)
   refine g_gh (.fz [0]) ?_
   refine zt4 ?_
   exact nomatch h
 refine zY8 (zcY0 a0) hK [(0,0),(1,1)] h (fun x_l2 h g2 y_l2 h_l2 hx_l2=>?_)
 unfold zS2 at h_l2
 refine g_st ?_
 refine za2 (za2 (za5 hG ?_))
 refine zl4 rfl hG h_l2 (fun _ h_l2=>?_) (fun _ h_l2=>?_)
 · refine zk1 ?_
   refine za2 (zC3 (za2 ?_))
   obtain ⟨hb3,h_l2⟩:=ze1 h_l2
   refine za5 hG ?_
   obtain ⟨v2,hv2,h_l2⟩:=zc7 h_l2
   rcases v2 with v2|v2
   · dsimp only at h_l2
     refine zr6 [(0,0)] [(1,2)] [0,1] ((zaN8 (a0.bE.getD g2.1.toNat aP.zero) g2.2).ok _ hv2) rfl rfl ?_
     refine za2 (za2 (za5 hG ?_))
     refine zbh4 rfl hG ?_
     refine za2 (za5 hG ?_)
     refine zt4 ?_
     cases h_l2
     cases hx_l2 _ rfl
     exact zO9 [(0,0)] (zcd1 h)
   dsimp only at h_l2
   refine zr6 [(0,0)] [(1,2)] [0,1] ((zaN9 (a0.bE.getD g2.1.toNat aP.zero) g2.2).ok _ hv2) rfl rfl ?_
   refine za2 (za2 (za5 hG ?_))
   refine zl4 rfl hG h_l2 (fun _ h_l2=>?_) (fun _ h_l2=>?_)
   · refine za2 (za5 hG ?_)
     refine zt4 ?_
     cases h_l2
     cases hx_l2 _ rfl
     exact zO9 [(0,0)] (zcd1 h)
   refine zk1 ?_
   refine za5 hG ?_
   refine za5 hG ?_
   exact zJ0 hK [(0,2),(1,1)] h_l2
 refine zG4 ?_
 cases h_l2
 cases hx_l2 _ rfl
 exact zA9 hK [(0,0)] g2.2 (by exact h)
theorem zbw5 (a90:(aP→Option (Nat⊕((List aM)×Bool)))) (hrc0:∀ (a0:aP) (r:Nat),a90 a0=some (.inl r)→MFn C 237 [.full ([].map aM.enc),ga a0] [] 0 (.tup [.own 0 0 r,.bool false]) [] 1) (hrc1:∀ (a0:aP) (r:(List aM)×Bool),a90 a0=some (.inr r)→MFn C 237 [.full ([].map aM.enc),ga a0] [] 0 (.tup [la r.1,.bool r.2]) [] 0) (a0:aP) (r:(List aM)×Bool) (h:zI4 a90 a0=some (.inr r)):MFn C 237 [.full ([].map aM.enc),ga a0] [] 0 (.tup [la r.1,.bool r.2]) [] 0:=by
 refine zax1 Tryz.f237 [] [la r.1,.bool r.2] fun E hG hN hK=>?_
 unfold zI4 at h
 refine g_gh (.own0 0 3 (aM.enc aM.zero)) ?_
 refine za2 (za5 hG ?_)
 refine za2 (za2 (za5 hG ?_))
 refine zl4 rfl hG h (fun _ h=>?_) (fun _ h=>?_)
 · refine za2 (za2 (za5 hG ?_))
   obtain ⟨v1,hv1,h⟩:=zc7 h
   refine zr9 (fun hg=>(zaJ0 a0.bF.name).ok _ (zaN2 hg hv1)) ?_
   refine zr9 (fun hg=>(zaZ2 a0.bF.aN).ok) ?_
   refine zl4 rfl hG h (fun _ h=>?_) (fun _ h=>?_)
   · refine za2 (za5 hG ?_)
     refine g_gh (.fz [0]) ?_
     refine zt4 ?_
     exact zO9 [] (zbh5 h)
   refine zk1 ?_
   refine za2 (za2 (za5 hG ?_))
   refine zD0 (zcX7 a0) (fun v=>zaa9 a0 v=some (.inr r)) ?_ ?_
   · intro j1 h
     unfold zaa9 at h
     refine g_st ?_
     refine za2 ?_
     obtain ⟨hb1,h⟩:=ze1 h
     refine za5 hG ?_
     refine g_gh (.fz [2]) ?_
     refine zt4 ?_
     exact zO9 [] (zbh5 h)
   refine zY8 (zcX8 a0) hK [(0,0),(1,1)] h (fun x_l1 h g1 y_l1 h_l1 hx_l1=>?_)
   unfold zak8 at h_l1
   refine g_st ?_
   refine za2 (za2 (za5 hG ?_))
   refine zl4 rfl hG h_l1 (fun _ h_l1=>?_) (fun _ h_l1=>?_)
   · refine zk1 ?_
     refine za2 (zC3 (za2 ?_))
     obtain ⟨hb2,h_l1⟩:=ze1 h_l1
     refine zaW1 zz1 hG ?_
     refine zl4 rfl hG h_l1 (fun _ h_l1=>?_) (fun _ h_l1=>?_)
     · refine za2 (za5 hG ?_)
       refine g_gh (.fz [0]) ?_
       refine zt4 ?_
       cases h_l1
       cases hx_l1 _ rfl
       exact zO9 [] (zbh5 h)
     refine zk1 ?_
     refine za5 hG ?_
     exact zJ0 hK [(0,0),(1,1)] h_l1
   refine zG4 ?_
   cases h_l1
   cases hx_l1 _ rfl
   exact zA9 hK [(0,0),(1,1)] () (by exact h)
 refine zk1 ?_
 refine za2 (za2 (za5 hG ?_))
 refine zl4 rfl hG h (fun _ h=>?_) (fun _ h=>?_)
 · refine za2 (za5 hG ?_)
   refine g_gh (.fz [0]) ?_
   refine zt4 ?_
   exact zO9 [] (zbh5 h)
 refine zk1 ?_
 refine za2 (za2 (za5 hG ?_))
 refine zD0 zcX9 (fun v=>zab0 v=some (.inr r)) ?_ ?_
 · intro j2 h
   unfold zab0 at h
   refine g_st ?_
   refine za2 (za5 hG ?_)
   refine g_gh (.fz [0]) ?_
   refine zt4 ?_
   exact zO9 [] (zbh5 h)
 refine zY8 (zcY0 a0) hK [(0,0),(1,1)] h (fun x_l2 h g2 y_l2 h_l2 hx_l2=>?_)
 unfold zS2 at h_l2
 refine g_st ?_
 refine za2 (za2 (za5 hG ?_))
 refine zl4 rfl hG h_l2 (fun _ h_l2=>?_) (fun _ h_l2=>?_)
 · refine zk1 ?_
   refine za2 (zC3 (za2 ?_))
   obtain ⟨hb3,h_l2⟩:=ze1 h_l2
   refine za5 hG ?_
   obtain ⟨v2,hv2,h_l2⟩:=zc7 h_l2
   rcases v2 with v2|v2
   · dsimp only at h_l2
     refine zr6 [(0,0)] [(1,2)] [0,1] ((zaN8 (a0.bE.getD g2.1.toNat aP.zero) g2.2).ok _ hv2) rfl rfl ?_
     refine za2 (za2 (za5 hG ?_))
     refine zbh4 rfl hG ?_
     refine za2 (za5 hG ?_)
     refine zt4 ?_
     cases h_l2
     cases hx_l2 _ rfl
     exact nomatch h
   dsimp only at h_l2
   refine zr6 [(0,0)] [(1,2)] [0,1] ((zaN9 (a0.bE.getD g2.1.toNat aP.zero) g2.2).ok _ hv2) rfl rfl ?_
   refine za2 (za2 (za5 hG ?_))
   refine zl4 rfl hG h_l2 (fun _ h_l2=>?_) (fun _ h_l2=>?_)
   · refine za2 (za5 hG ?_)
     refine zt4 ?_
     cases h_l2
     cases hx_l2 _ rfl
     exact nomatch h
   refine zk1 ?_
   refine za5 hG ?_
   refine za5 hG ?_
   exact zJ0 hK [(0,2),(1,1)] h_l2
 refine zG4 ?_
 cases h_l2
 cases hx_l2 _ rfl
 exact zA9 hK [(0,0)] g2.2 (by exact h)
theorem zV3:∀ (n:Nat),(∀ (a0:aP) (r:Nat),zab1 n a0=some (.inl r)→MFn C 237 [.full ([].map aM.enc),ga a0] [] 0 (.tup [.own 0 0 r,.bool false]) [] 1)∧(∀ (a0:aP) (r:(List aM)×Bool),zab1 n a0=some (.inr r)→MFn C 237 [.full ([].map aM.enc),ga a0] [] 0 (.tup [la r.1,.bool r.2]) [] 0)
 | 0=>⟨(fun _ _ h=>nomatch h),(fun _ _ h=>nomatch h)⟩
 | n+1=>⟨zbw4 (zab1 n) (zV3 n).1 (zV3 n).2,zbw5 (zab1 n) (zV3 n).1 (zV3 n).2⟩
theorem zbw6 (a0:aP) (r:Nat) (h:zv1 a0=some (.inl r)):MFn C 237 [.full ([].map aM.enc),ga a0] [] 0 (.tup [.own 0 0 r,.bool false]) [] 1:=(zV3 _).1 a0 r h
theorem zbw7 (a0:aP) (r:(List aM)×Bool) (h:zv1 a0=some (.inr r)):MFn C 237 [.full ([].map aM.enc),ga a0] [] 0 (.tup [la r.1,.bool r.2]) [] 0:=(zV3 _).2 a0 r h
attribute [local irreducible] zv1
def zx1 (a0:aI) (a1 a2:aD):Option aD :=
 (if ((!(zt5 a0 a1))||(!(zt5 a0 a2)))=true then
  some ({ aD.zero with  })
 else
  (if (zq9 a0 a1 a2)=true then
   some a1
  else
   (if (zq9 a0 a2 a1)=true then
    some a2
   else
    (zu2 a1.mode a2.mode).bind fun v1 =>
    some ({ aD.zero with mode:=v1 }))))
instance zbT3 (a0:aI) (a1 a2:aD):OkP (zx1 a0 a1 a2) 200 [ga a0,ga a1,ga a2] (fun r=>ga r):=ok1 (zx1.eq_1 a0 a1 a2) Tryz.f200 []
attribute [local irreducible] zx1
def zD1 (a0:aA):Option (List aK) :=
 (zf0 a0.aQ).bind fun v1 =>
 (zs8 a0).bind fun v2 =>
 gd (v1.length+v2.length≤4294967296) <|
 (zl6 (v1++v2)).bind fun v3 =>
 some v3
instance zcY1 (a0:aA):OkP (zD1 a0) 83 [ga a0] (fun r=>la r):=ok1 (zD1.eq_1 a0) Tryz.f83 []
attribute [local irreducible] zD1
def zM3 (a0:aI) (a1:List aV) (a2:aK) (a3:aD):Option Bool :=
 (zt9 a0 a1).bind fun v1 =>
 ((if ((v1&&zo1 a2)&&zs7 a0 a3)=true then zq7 a1 a2 a3 else some [])).bind fun v2 =>
 ((if ((v1&&zo1 a2)&&zs7 a0 a3)=true then zt9 a0 v2 else some false)).bind fun v3 =>
 some (((v1&&zo1 a2)&&zs7 a0 a3)&&v3)
instance zdh3 (a0:aI) (a1:List aV) (a2:aK) (a3:aD):OkP (zM3 a0 a1 a2 a3) 266 [ga a0,la a1,ga a2,ga a3] (fun r=>.bool r):=ok1 (zM3.eq_1 a0 a1 a2 a3) Tryz.f266 []
attribute [local irreducible] zM3
def zK8 (v2:(List aM)×Bool) (j1:Unit):Option ((List aM)×Bool) :=
 some (v2.1,true)
@[go_sem] def zdt3 (v2:(List aM)×Bool) (j1:Unit):St:=⟨[(4,la v2.1)],[],0⟩
def zaz0 (g1:Int) (j2:Unit):Option (Int⊕(Unit⊕((List aM)×Bool))) :=
 some (.inl (i64.wrap (g1+1)))
@[go_sem] def zdt4 (v2:(List aM)×Bool) (g1:Int) (j2:Unit):St:=⟨[(4,la v2.1),(6,.int .i64 g1)],[],0⟩
def zS3 (v2:(List aM)×Bool) (g1 g2:Int):Option (Int⊕(Unit⊕((List aM)×Bool))) :=
 (if (decide (g2 < g1))=true then
  gd (0≤g1∧g1 < (v2.1.length:Int)) <|
  gd (0≤g2∧g2 < (v2.1.length:Int)) <|
  (if (((v2.1.getD g1.toNat aM.zero).name).toList == ((v2.1.getD g2.toNat aM.zero).name).toList)=true then
   some (.inr (.inr ([],false)))
  else
   some (.inl (i64.wrap (g2+1))))
 else
  some (.inr (.inl ())))
@[go_sem] def zdt5 (v2:(List aM)×Bool) (g1 g2:Int):St:=⟨[(4,la v2.1),(6,.int .i64 g1),(7,.int .i64 g2)],[],0⟩
def zK9 (v2:(List aM)×Bool) (g1:Int):Option (Int⊕(Unit⊕((List aM)×Bool))) :=
 (if (decide (g1 < (v2.1.length:Int)))=true then
  (zb9 (zS3 v2 g1) 0).bind (fun|.inl z=>zaz0 g1 z|.inr z=>some (.inr (.inr z)))
 else
  some (.inr (.inl ())))
@[go_sem] def zdt6 (v2:(List aM)×Bool) (g1:Int):St:=⟨[(4,la v2.1),(6,.int .i64 g1)],[],0⟩
def zj8 (a0:aP):Option ((List aM)×Bool) :=
 (zm8 a0).bind fun v1 =>
 (if (decide (v1=0))=true then
  some ([],false)
 else
  (zv1 a0).bind fun v2=>match v2 with
  | .inl v2 =>
   some ([],false)
  | .inr v2 =>
   (if ((!v2.2)||decide (8 < (v2.1.length:Int)))=true then
    some ([],false)
   else
    (zb9 (zK9 v2) 0).bind (fun|.inl z=>zK8 v2 z|.inr z=>some z)))
theorem zbK8 (a0:aP) (r:(List aM)×Bool) (h:zj8 a0=some r):PFn C 196 [ga a0] (.tup [la r.1,.bool r.2]):=by
 refine zY9 Tryz.f196 [] fun E hG hN hK=>?_
 unfold zj8 at h
 refine za2 (za5 hG ?_)
 refine za2 (za2 (za5 hG ?_))
 obtain ⟨v1,hv1,h⟩:=zc7 h
 refine zr9 (fun hg=>(zbK6 a0).ok _ hv1) ?_
 refine zl4 rfl hG h (fun _ h=>?_) (fun _ h=>?_)
 · refine za2 (za5 hG ?_)
   refine zt4 ?_
   exact zJ4 h
 refine zk1 ?_
 refine za2 (za5 hG ?_)
 obtain ⟨v2,hv2,h⟩:=zc7 h
 rcases v2 with v2|v2
 · dsimp only at h
   refine zr6 [] [(0,1)] [0] (zbw6 _ _ hv2) rfl rfl ?_
   refine za2 (za2 (za5 hG ?_))
   refine zbh4 rfl hG ?_
   refine za2 (za5 hG ?_)
   refine zt4 ?_
   exact zJ4 h
 dsimp only at h
 refine zr6 [] [] [] (zbw7 _ _ hv2) rfl rfl ?_
 refine za2 (za2 (za5 hG ?_))
 refine zl4 rfl hG h (fun _ h=>?_) (fun _ h=>?_)
 · refine za2 (za5 hG ?_)
   refine zt4 ?_
   exact zJ4 h
 refine zk1 ?_
 refine za2 (za2 (za5 hG ?_))
 refine zD0 (zdt3 v2) (fun v=>zK8 v2 v=some r) ?_ ?_
 · intro j1 h
   unfold zK8 at h
   refine g_st ?_
   refine za2 (za5 hG ?_)
   refine zt4 ?_
   exact zJ4 h
 refine zY8 (zdt6 v2) hK [] h (fun x_l1 h g1 y_l1 h_l1 hx_l1=>?_)
 unfold zK9 at h_l1
 refine g_st ?_
 refine za2 (za2 (za5 hG ?_))
 refine zl4 rfl hG h_l1 (fun _ h_l1=>?_) (fun _ h_l1=>?_)
 · refine zk1 ?_
   refine za2 (zC3 (za2 (za5 hG ?_)))
   refine zD0 (zdt4 v2 g1) (fun v=>zaz0 g1 v=some y_l1) ?_ ?_
   · intro j2 h_l1
     unfold zaz0 at h_l1
     refine g_st ?_
     refine za5 hG ?_
     exact zJ0 hK [] h_l1
   refine zY8 (zdt5 v2 g1) hK [] h_l1 (fun x_l2 h_l1 g2 y_l2 h_l2 hx_l2=>?_)
   unfold zS3 at h_l2
   refine g_st ?_
   refine za2 (za2 (za5 hG ?_))
   refine zl4 rfl hG h_l2 (fun _ h_l2=>?_) (fun _ h_l2=>?_)
   · refine zk1 ?_
     refine za2 (zC3 (za2 ?_))
     obtain ⟨hb1,h_l2⟩:=ze1 h_l2
     obtain ⟨hb2,h_l2⟩:=ze1 h_l2
     refine zaW1 zz1 hG ?_
     refine zl4 rfl hG h_l2 (fun _ h_l2=>?_) (fun _ h_l2=>?_)
     · refine za2 (za5 hG ?_)
       refine zt4 ?_
       obtain rfl:=dZ h_l2
       have hx:=hx_l2 _ rfl
       subst hx
       try dsimp only at h_l1
       cases h_l1
       cases hx_l1 _ rfl
       exact zJ4 h
     refine zk1 ?_
     refine za5 hG ?_
     exact zJ0 hK [] h_l2
   refine zG4 ?_
   obtain rfl:=dZ h_l2
   have hx:=hx_l2 _ rfl
   subst hx
   try dsimp only at h_l1
   exact zA9 hK [] () (by exact h_l1)
 refine zG4 ?_
 cases h_l1
 cases hx_l1 _ rfl
 exact zA9 hK [] () (by exact h)
instance zcQ9 (a0:aP):OkP (zj8 a0) 196 [ga a0] (fun r=>.tup [la r.1,.bool r.2]):=⟨zbK8 a0⟩
attribute [local irreducible] zj8
attribute [local irreducible] zs2 zf4 zr3 zt8 zp5 zd4 zq8 zo0 zh5 zd2 zi8 za7
def zo7 (a0:aP):Option Bool :=
 (zk3 a0).bind fun v1 =>
 (if (!decide (v1=0))=true then
  (zq8 a0 []).bind fun v2 =>
  some ((!decide (v1=0))&&v2.1)
 else
  some ((!decide (v1=0))&&false))
theorem zbd7 (a0:aP) (r:Bool) (h:zo7 a0=some r):PFn C 49 [ga a0] (.bool r):=by
 refine zY9 Tryz.f49 [(3,3)] fun E hG hN hK=>?_
 unfold zo7 at h
 refine za2 (za5 hG ?_)
 refine za2 (za5 hG ?_)
 refine g_gh (.ownb 1 0 3 (aM.enc aM.zero)) ?_
 refine za2 (za5 hG ?_)
 obtain ⟨v1,hv1,h⟩:=zc7 h
 refine zr9 (fun hg=>(zbw2 a0).ok _ hv1) ?_
 refine zcD3 h (fun hc h=>?_) (fun hc h=>?_)
 · obtain ⟨v2,hv2,h⟩:=zc7 h
   refine zcl6 hc [(0,1),(1,2)] [(2,3)] [0,1,2] ((zbd6 a0 []).ok _ hv2) rfl rfl ?_
   refine zt4 ?_
   exact zJ4 h
 refine zcl7 hc (.bool false) ?_
 refine zt4 ?_
 exact zJ4 h
instance zci2 (a0:aP):OkP (zo7 a0) 49 [ga a0] (fun r=>.bool r):=⟨zbd7 a0⟩
attribute [local irreducible] zo7
def zN4 (j2:bD×aP):Option (aP×bD) :=
 some (j2.2,j2.1)
@[go_sem] def zdt7  (j2:bD×aP):St:=⟨[(4,.ptr 1 0 0),(5,.ptr 2 0 0)],[(0,bx j2.1),(1,bx aP.zero),(2,⟨false,5,aP.enc aP.zero,[[.int .i64 j2.2.k,.str j2.2.bF.name,.int .i64 j2.2.bF.aN.mode,.int .i64 j2.2.bF.aN.aR,.own 3 0 j2.2.bE.length]]⟩),(3,sx j2.2.bE)],4⟩
def zac2 (a90:(Int→bD→Option (aP×bD))) (a0:Int) (g1:Int×bD×aP):Option ((Int×bD×aP)⊕(bD×aP)) :=
 (if (decide (0 < g1.1)&&decide (g1.2.1.bO.err=0))=true then
  (a90 (i64.wrap (a0+1)) g1.2.1).bind fun v5 =>
  gd (g1.2.2.bE.length+1≤4294967296) <|
  some (.inl ((i64.wrap (g1.1 - 1)),v5.2,(⟨g1.2.2.k,(⟨g1.2.2.bF.name,(⟨g1.2.2.bF.aN.mode,g1.2.2.bF.aN.aR⟩:aD)⟩:aM),(g1.2.2.bE++[v5.1])⟩:aP)))
 else
  some (.inr (g1.2.1,g1.2.2)))
@[go_sem] def zdt8 (a0:Int) (g1:Int×bD×aP):St:=⟨[(0,.ptr 0 0 0),(1,.int .i64 a0),(4,.ptr 1 0 0),(5,.ptr 2 0 0),(6,.int .i64 g1.1)],[(0,bx g1.2.1),(1,bx aP.zero),(2,⟨false,5,aP.enc aP.zero,[[.int .i64 g1.2.2.k,.str g1.2.2.bF.name,.int .i64 g1.2.2.bF.aN.mode,.int .i64 g1.2.2.bF.aN.aR,.own 3 0 g1.2.2.bE.length]]⟩),(3,sx g1.2.2.bE)],4⟩
def zC4 (a90:(Int→bD→Option (aP×bD))) (a0:Int) (j1:bD):Option (aP×bD) :=
 (zb8 j1).bind fun v1 =>
 (if (!decide (v1.2.bO.err=0))=true then
  some ((⟨v1.1,(⟨((⟨aP.zero.k,(⟨aP.zero.bF.name,(⟨aP.zero.bF.aN.mode,aP.zero.bF.aN.aR⟩:aD)⟩:aM),[]⟩:aP).bF).name,(⟨(((⟨aP.zero.k,(⟨aP.zero.bF.name,(⟨aP.zero.bF.aN.mode,aP.zero.bF.aN.aR⟩:aD)⟩:aM),[]⟩:aP).bF).aN).mode,(((⟨aP.zero.k,(⟨aP.zero.bF.name,(⟨aP.zero.bF.aN.mode,aP.zero.bF.aN.aR⟩:aD)⟩:aM),[]⟩:aP).bF).aN).aR⟩:aD)⟩:aM),(⟨aP.zero.k,(⟨aP.zero.bF.name,(⟨aP.zero.bF.aN.mode,aP.zero.bF.aN.aR⟩:aD)⟩:aM),[]⟩:aP).bE⟩:aP),v1.2)
 else
  (if (decide (v1.1=0))=true then
   (ze5 v1.2).bind fun v2 =>
   (zf4 v2.2).bind fun v3 =>
   some ((⟨v1.1,(⟨v2.1,(⟨v3.1.mode,v3.1.aR⟩:aD)⟩:aM),(⟨aP.zero.k,(⟨aP.zero.bF.name,(⟨aP.zero.bF.aN.mode,aP.zero.bF.aN.aR⟩:aD)⟩:aM),[]⟩:aP).bE⟩:aP),v3.2)
  else
   (zd0 24 v1.2).bind fun v4 =>
   (zb9 (zac2 a90 a0) (v4.1,v4.2,(⟨v1.1,(⟨((⟨aP.zero.k,(⟨aP.zero.bF.name,(⟨aP.zero.bF.aN.mode,aP.zero.bF.aN.aR⟩:aD)⟩:aM),[]⟩:aP).bF).name,(⟨(((⟨aP.zero.k,(⟨aP.zero.bF.name,(⟨aP.zero.bF.aN.mode,aP.zero.bF.aN.aR⟩:aD)⟩:aM),[]⟩:aP).bF).aN).mode,(((⟨aP.zero.k,(⟨aP.zero.bF.name,(⟨aP.zero.bF.aN.mode,aP.zero.bF.aN.aR⟩:aD)⟩:aM),[]⟩:aP).bF).aN).aR⟩:aD)⟩:aM),(⟨aP.zero.k,(⟨aP.zero.bF.name,(⟨aP.zero.bF.aN.mode,aP.zero.bF.aN.aR⟩:aD)⟩:aM),[]⟩:aP).bE⟩:aP))).bind (fun z=>zN4 z)))
@[go_sem] def zdt9 (a0:Int) (j1:bD):St:=⟨[(0,.ptr 0 0 0),(1,.int .i64 a0),(4,.ptr 1 0 0),(5,.ptr 2 0 0)],[(0,bx j1),(1,bx aP.zero),(2,⟨false,5,aP.enc aP.zero,[[.int .i64 ((⟨aP.zero.k,(⟨aP.zero.bF.name,(⟨aP.zero.bF.aN.mode,aP.zero.bF.aN.aR⟩:aD)⟩:aM),[]⟩:aP).k),.str (((⟨aP.zero.k,(⟨aP.zero.bF.name,(⟨aP.zero.bF.aN.mode,aP.zero.bF.aN.aR⟩:aD)⟩:aM),[]⟩:aP).bF).name),.int .i64 ((((⟨aP.zero.k,(⟨aP.zero.bF.name,(⟨aP.zero.bF.aN.mode,aP.zero.bF.aN.aR⟩:aD)⟩:aM),[]⟩:aP).bF).aN).mode),.int .i64 ((((⟨aP.zero.k,(⟨aP.zero.bF.name,(⟨aP.zero.bF.aN.mode,aP.zero.bF.aN.aR⟩:aD)⟩:aM),[]⟩:aP).bF).aN).aR),.own 3 0 (((⟨aP.zero.k,(⟨aP.zero.bF.name,(⟨aP.zero.bF.aN.mode,aP.zero.bF.aN.aR⟩:aD)⟩:aM),[]⟩:aP).bE).length)]]⟩),(3,sx ((⟨aP.zero.k,(⟨aP.zero.bF.name,(⟨aP.zero.bF.aN.mode,aP.zero.bF.aN.aR⟩:aD)⟩:aM),[]⟩:aP).bE))],4⟩
def zP4 (a90:(Int→bD→Option (aP×bD))) (a0:Int) (a1:bD):Option (aP×bD) :=
 (if (decide (a1.bO.err=0)&&decide (4 < a0))=true then
  zC4 a90 a0 ({ a1 with bO:={ a1.bO with err:=4 } })
 else
  zC4 a90 a0 a1)
def zF5:Nat→(Int→bD→Option (aP×bD))
 | 0=>fun _ _=>none
 | n+1=>zP4 (zF5 n)
def zr1 (a0:Int) (a1:bD):Option (aP×bD):=zF5 ((6 - a0).toNat+1) a0 a1
theorem zaE8 (a90:(Int→bD→Option (aP×bD))) (hrc:∀ (a0:Int) (a1:bD) (r:aP×bD),a90 a0 a1=some r→MFn C 44 [.ptr 0 0 0,.int .i64 a0] [(0,bx a1)] 1 (ga r.1) [(0,bx r.2)] 1) (a0:Int) (a1:bD) (r:aP×bD) (h:zP4 a90 a0 a1=some r):MFn C 44 [.ptr 0 0 0,.int .i64 a0] [(0,bx a1)] 1 (ga r.1) [(0,bx r.2)] 1:=by
 refine zax1 Tryz.f44 [(5,18)] [ga r.1] fun E hG hN hK=>?_
 unfold zP4 at h
 refine za2 (za5 hG ?_)
 refine za2 (za5 hG ?_)
 refine g_gh (.ownb 2 4 5 (aP.enc aP.zero)) ?_
 refine za2 (za2 (za5 hG ?_))
 refine zbh3 (zdt9 a0) (fun v=>zC4 a90 a0 v=some r) rfl hG h ?_ (fun _ h=>?_) (fun _ h=>?_)
 · intro j1 h
   unfold zC4 at h
   refine g_st ?_
   refine za2 (za5 hG ?_)
   obtain ⟨v1,hv1,h⟩:=zc7 h
   refine zr6 [(0,0)] [] [0] ((zy4 j1).ok _ hv1) rfl rfl ?_
   refine za2 (za2 (za5 hG ?_))
   refine zl4 rfl hG h (fun _ h=>?_) (fun _ h=>?_)
   · refine za2 (za5 hG ?_)
     refine g_gh (.fz [3]) ?_
     refine zt4 ?_
     exact zO9 [(0,0)] h
   refine zk1 ?_
   refine za2 (za2 (za5 hG ?_))
   refine zl4 rfl hG h (fun _ h=>?_) (fun _ h=>?_)
   · refine za2 (za5 hG ?_)
     obtain ⟨v2,hv2,h⟩:=zc7 h
     refine zr6 [(0,0)] [] [0] ((zaf9 v1.2).ok _ hv2) rfl rfl ?_
     refine za2 (za5 hG ?_)
     obtain ⟨v3,hv3,h⟩:=zc7 h
     refine zr6 [(0,0)] [] [0] ((zay7 v2.2).ok _ hv3) rfl rfl ?_
     refine za2 (za5 hG ?_)
     refine g_gh (.fz [3]) ?_
     refine zt4 ?_
     exact zO9 [(0,0)] h
   refine zk1 ?_
   refine za2 (za2 (za5 hG ?_))
   obtain ⟨v4,hv4,h⟩:=zc7 h
   refine zr6 [(0,0)] [] [0] ((zE0 24 v1.2).ok _ hv4) rfl rfl ?_
   refine zD0 zdt7 (fun v=>zN4 v=some r) ?_ ?_
   · intro j2 h
     unfold zN4 at h
     refine g_st ?_
     refine za2 (za5 hG ?_)
     refine g_gh (.fz [3]) ?_
     refine zt4 ?_
     exact zO9 [(0,0)] h
   refine zY8 (zdt8 a0) hK [(0,0),(1,1),(2,2),(3,3)] h (fun x_l1 h g1 y_l1 h_l1 hx_l1=>?_)
   unfold zac2 at h_l1
   refine g_st ?_
   refine za2 (za2 (za5 hG ?_))
   refine zl4 rfl hG h_l1 (fun _ h_l1=>?_) (fun _ h_l1=>?_)
   · refine zk1 ?_
     refine za2 (zC3 (zam5 zz1 hG ?_))
     obtain ⟨v5,hv5,h_l1⟩:=zc7 h_l1
     obtain ⟨hb1,h_l1⟩:=ze1 h_l1
     refine zbJ9 [(0,0)] [] [0] (hrc (i64.wrap (a0+1)) g1.2.1 _ hv5) rfl rfl ?_
     refine za5 hG ?_
     exact zJ0 hK [(0,0),(1,1),(2,2),(3,4)] h_l1
   refine zG4 ?_
   cases h_l1
   cases hx_l1 _ rfl
   exact zA9 hK [(0,0),(1,1),(2,2),(3,3)] (g1.2.1,g1.2.2) (by exact h)
 · refine za5 hG ?_
   exact zA9 hK [(0,0),(1,1),(2,2),(3,3)] ({ a1 with bO:={ a1.bO with err:=4 } }) (by exact h)
 refine zk1 ?_
 exact zA9 hK [(0,0),(1,1),(2,2),(3,3)] a1 (by exact h)
theorem zae1:∀ (n:Nat) (a0:Int) (a1:bD) (r:aP×bD),zF5 n a0 a1=some r→MFn C 44 [.ptr 0 0 0,.int .i64 a0] [(0,bx a1)] 1 (ga r.1) [(0,bx r.2)] 1
 | 0,_,_,_,h=>nomatch h
 | n+1,a0,a1,r,h=>zaE8 (zF5 n) (zae1 n) a0 a1 r h
instance zbD4 (a0:Int) (a1:bD):OkM (zr1 a0 a1) 44 [.ptr 0 0 0,.int .i64 a0] [(0,bx a1)] 1 (fun r=>ga r.1) (fun r=>[(0,bx r.2)]) 1:=⟨fun r h=>zae1 _ a0 a1 r h⟩
attribute [local irreducible] zr1
def zv6 (j1:Unit):Option Bool :=
 some true
def zv7 (a0 a1:List aA) (g1:Int):Option (Int⊕(Unit⊕Bool)) :=
 (if (decide (g1 < (a0.length:Int)))=true then
  gd (0≤g1∧g1 < (a0.length:Int)) <|
  gd (0≤g1∧g1 < (a1.length:Int)) <|
  (zi8 (a0.getD g1.toNat aA.zero) (a1.getD g1.toNat aA.zero)).bind fun v1 =>
  (if (!v1)=true then
   some (.inr (.inr false))
  else
   some (.inl (i64.wrap (g1+1))))
 else
  some (.inr (.inl ())))
def zc1 (a0 a1:List aA):Option Bool :=
 (if (!decide ((a0.length:Int)=(a1.length:Int)))=true then
  some false
 else
  (zb9 (zv7 a0 a1) 0).bind (fun|.inl z=>zv6 z|.inr z=>some z))
@[reducible,instance] def zdQ3 a0 a1:=mkJ (zc1 a0 a1) 0 (@zv6.eq_1) fun (j1:Unit)=>⟨[],[],0⟩
@[reducible,instance] def zdQ4 (a0 a1:List aA) {T:Type} (x:T):=mkL x (@zv7.eq_1 a0 a1) fun (g1:Int)=>⟨[(1,la a1),(2,.clo 23 []),(15,la a0),(16,.int .i64 (a0.length:Int)),(17,.int .i64 g1)],[],0⟩
instance zH0 (a0 a1:List aA):OkM (zc1 a0 a1) 33 [la a0,la a1,.clo 23 []] [] 0 (fun r=>.bool r) (fun r=>[]) 0:=okm (zc1.eq_1 a0 a1) (fun r=>[.bool r]) Tryz.f33 []
attribute [local irreducible] zc1
def zx5 (a0:aW) (a1:bG):Option (aW×Int) :=
 (zp5 a0).bind fun v1 =>
 (if (!v1)=true then
  some ({ aW.zero with  },2)
 else
  gd (a0.aH.length≤4294967296) <|
  gd (a0.aH.length+1≤4294967296) <|
  gd (a0.aY.length≤4294967296) <|
  (zp5 (⟨(a0.aH++[a1]),a0.aY⟩:aW)).bind fun v2 =>
  (if (!v2)=true then
   some ({ aW.zero with  },1)
  else
   some ((⟨(a0.aH++[a1]),a0.aY⟩:aW),0)))
instance zcR0 (a0:aW) (a1:bG):OkP (zx5 a0 a1) 252 [ga a0,ga a1] (fun r=>.tup [ga r.1,.int .i64 r.2]):=ok1 (zx5.eq_1 a0 a1) Tryz.f252 [(11,1),(18,1),(22,2)]
attribute [local irreducible] zx5
def zav5 (j1:Int) (j2:(List aT)):Option ((List aT)×Int×Int) :=
 some (j2,j1,0)
def zW4 (a0:List aT) (g1:Int×(List aT)):Option ((Int×(List aT))⊕(List aT)) :=
 (if (decide (g1.1 < (a0.length:Int)))=true then
  gd (0≤g1.1∧g1.1 < (a0.length:Int)) <|
  gd (g1.2.length+1≤4294967296) <|
  some (.inl ((i64.wrap (g1.1+1)),(g1.2++[{ (a0.getD g1.1.toNat aT.zero) with bR:=(i64.wrap ((a0.getD g1.1.toNat aT.zero).bR+1)) }])))
 else
  some (.inr g1.2))
def zW5 (a0:List aT) (a1:aT) (j1:Int):Option ((List aT)×Int×Int) :=
 gd (0≤0∧0≤j1∧j1≤(a0.length:Int)) <|
 gd ((a0.take j1.toNat).length≤4294967296) <|
 gd ((a0.take j1.toNat).length+1≤4294967296) <|
 (zb9 (zW4 a0) (j1,(a0.take j1.toNat++[a1]))).bind (fun z=>zav5 j1 z)
def zag1 (a0:List aT) (a1:aT) (g2:Int):Option (Int⊕Int) :=
 gd (decide (0 < g2)=true→0≤i64.wrap (g2 - 1)∧i64.wrap (g2 - 1) < (a0.length:Int)) <|
 gd ((decide (0 < g2)&&decide ((a0.getD ((i64.wrap (g2 - 1)).toNat) aT.zero).bC < a1.bC))=true→0≤i64.wrap (g2 - 1)∧i64.wrap (g2 - 1) < (a0.length:Int)) <|
 (if ((decide (0 < g2)&&decide ((a0.getD ((i64.wrap (g2 - 1)).toNat) aT.zero).bC < a1.bC))&&decide ((a0.getD ((i64.wrap (g2 - 1)).toNat) aT.zero).bR < 3))=true then
  some (.inl (i64.wrap (g2 - 1)))
 else
  some (.inr g2))
def zx6 (a0:List aT) (a1:aT):Option ((List aT)×Int×Int) :=
 (zt8 a0).bind fun v1 =>
 (if (!v1)=true then
  some ([],0,2)
 else
  (if ((!(zy1 a1))||(!decide (a1.bR=0)))=true then
   some ([],0,1)
  else
   (zj4 a0 a1.aJ).bind fun v2 =>
   (if (decide (0≤v2))=true then
    some ([],0,11)
   else
    (if (decide ((a0.length:Int)=8))=true then
     some ([],0,4)
    else
     (zb9 (zag1 a0 a1) (a0.length:Int)).bind (fun z=>zW5 a0 a1 z)))))
@[reducible,instance] def zdQ5 a0 a1 (j1:Int):=mkJ (zW5 a0 a1 j1) 2 (@zav5.eq_1 j1) fun (j2:(List aT))=>⟨[(7,.int .i64 j1),(8,.own 0 0 j2.length)],[(0,sx j2)],1⟩
@[reducible,instance] def zdQ6 (a0:List aT) a1 (j1:Int):=mkL (zW5 a0 a1 j1) (@zW4.eq_1 a0) fun (g1:Int×(List aT))=>⟨[(0,la a0),(7,.int .i64 j1),(8,.own 0 0 g1.2.length),(9,.int .i64 g1.1)],[(0,sx g1.2)],1⟩
@[reducible,instance] def zdQ7 (a0:List aT) (a1:aT) {T1:Type} (v1:T1) {T2:Type} (v2:T2):=mkJ ((zx6 a0 a1,v1),v2) 0 (@zW5.eq_1 a0 a1) fun (j1:Int)=>⟨[(0,la a0),(3,.ptr 0 0 0),(7,.int .i64 j1)],[(0,bx a1)],1⟩
@[reducible,instance] def zdQ8 (a0:List aT) (a1:aT) {T:Type} (x:T):=mkL x (@zag1.eq_1 a0 a1) fun (g2:Int)=>⟨[(0,la a0),(3,.ptr 0 0 0),(7,.int .i64 g2)],[(0,bx a1)],1⟩
instance zbD5 (a0:List aT) (a1:aT):OkP (zx6 a0 a1) 283 [la a0,ga a1] (fun r=>.tup [la r.1,.int .i64 r.2.1,.int .i64 r.2.2]):=ok1 (zx6.eq_1 a0 a1) Tryz.f283 [(56,1)]
attribute [local irreducible] zx6
end
end Ab
end Go.Proofs.YtfkjffmjkbkmhaaGreatDoor
