import Derived.Test.YtogpinppgncpmaaGreatDoorHm13
import Derived.Test.YtogpinppgncpmaaGreatDoorHm16
namespace Go.Proofs.YtogpinppgncpmaaGreatDoor
namespace Ab
open IntKind (i64 u64 u8)
set_option linter.unusedSimpArgs false
set_option linter.defProp false
set_option linter.unusedVariables false
set_option maxRecDepth 100000
set_option maxHeartbeats 1000000
noncomputable section
attribute [local irreducible] zb2 za4 zd4 za6 zh1 zm5 zm4 zh2 zk4 zi2 zd7 zg4 za7 zn9 zh3 zj7 ze3 za8 zg8 zi3 zg1 zl1 zj1 za9 zf9 ze4 zh8 ze5 zk7 zk0 zk1 zn8 zg9 zm3 f_ref08_holds zj9 zc5 zf8 zd0 zd9 ze6 zn2 zm9 zg7 ze7 zg0 zb3 za0 zf2 zj3 zl8 zh9 zf3 zh4 zo0 zn0 zk2 zb4 zd1 zd2 zd6 zg3 zd8 zc3 zo7 za1 zq1 zi0 zi5 zh5 zj5 zc1 zb0 ze9 zf4 zn1 zo8 zp1 ze8 zb8 zi6 zi4 zp7 zi7 zc6 ze0 zs0 zj6 zo2 zj8 zg5 zp8 zl2 zh0 zb5 zi8 zr5 zp9 zk3 zb9 zk8 zl4 zr3 zh7 zt3 zf1 zg2 zf0 zr9 zu3 zi9 zk9 ze2 zi1 za5 zm0 zt0 zr6 zt6 zc8 zc2 zj4 zr4
def zaA0 (j1:Unit):Option Bool :=
 some true
def zA6 (a0:aA) (g1:Int):Option (Int⊕(Unit⊕Bool)) :=
 (if (decide (g1 < (a0.aV.length:Int)))=true then
  gd (0≤g1∧g1 < (a0.aV.length:Int)) <|
  ((if (zb1 a0.aB ((a0.aV.getD g1.toNat aT.zero).aK))=true then zo0 a0 ((a0.aV.getD g1.toNat aT.zero).aN) else some aC.zero)).bind fun v2 =>
  (if ((!(zb1 a0.aB ((a0.aV.getD g1.toNat aT.zero).aK)))||(!(zk5 v2)))=true then
   some (.inr (.inr false))
  else
   some (.inl (i64.wrap (g1+1))))
 else
  some (.inr (.inl ())))
def zq6 (a0:aA):Option Bool :=
 (zt6 a0.aV).bind fun v1 =>
 (if ((!v1)||decide (8 < i64.wrap ((a0.aR.length:Int)+(a0.aV.length:Int))))=true then
  some false
 else
  (zc0 (zA6 a0) 0).bind (fun|.inl z=>zaA0 z|.inr z=>some z))
@[reducible,instance] def zeg2 a0 {T1:Type} (v1:T1):=mkJ (zq6 a0,v1) 0 (@zaA0.eq_1) fun (j1:Unit)=>⟨[],[],0⟩
@[reducible,instance] def zeg3 (a0:aA) {T:Type} (x:T):=mkL x (@zA6.eq_1 a0) fun (g1:Int)=>⟨[(1,.ptr 0 0 0),(20,la a0.aV),(21,.int .i64 (a0.aV.length:Int)),(22,.int .i64 g1)],[(0,bx a0)],1⟩
instance zcx8 (a0:aA):OkP (zq6 a0) 173 [ga a0] (fun r=>.bool r):=ok1 (zq6.eq_1 a0) Tryz.f173 []
attribute [local irreducible] zq6
def zm6 (a0:List aJ):Option (List aJ) :=
 gd (a0.length≤4294967296) <|
 (zc8 a0).bind fun v1 =>
 (za4 v1).bind fun v2 =>
 some v2.1
theorem zbr1 (a0:List aJ) (r:(List aJ)) (h:zm6 a0=some r):PFn C 53 [la a0] (la r):=by
 refine zad2 Tryz.f53 [] fun E hG hN hK=>?_
 unfold zm6 at h
 refine za2 (za3 hG ?_)
 refine za2 ?_
 obtain ⟨hb1,h⟩:=zd5 h
 refine za3 hG ?_
 refine za2 (za3 hG ?_)
 obtain ⟨v1,hv1,h⟩:=zc9 h
 have hl_v1:=zak8 a0 _ hv1
 refine zs2 [(0,0)] [] [0] (zak9 _ _ hv1) rfl rfl ?_
 refine za2 (za3 hG ?_)
 obtain ⟨v2,hv2,h⟩:=zc9 h
 refine zs2 [(0,0)] [] [0] ((zal1 v1).ok _ hv2) rfl rfl ?_
 refine zt2 ?_
 exact zI9 h
instance zcx9 (a0:List aJ):OkP (zm6 a0) 53 [la a0] (fun r=>la r):=⟨zbr1 a0⟩
attribute [local irreducible] zm6
def zaB1 (a0:aI) (a1:List aU) (j1:Unit):Option Bool :=
 (zh1 a1).bind fun v1 =>
 (zm0 a0 v1).bind fun v2 =>
 some v2
def zae4 (a0:aI) (a1:List aU) (g1:Int):Option (Int⊕(Unit⊕Bool)) :=
 (if (decide (g1 < (a1.length:Int)))=true then
  gd (0≤g1∧g1 < (a1.length:Int)) <|
  gd (zm2 ((a1.getD g1.toNat aU.zero).aN)=true→0≤g1∧g1 < (a1.length:Int)) <|
  gd (((!((!(zm2 ((a1.getD g1.toNat aU.zero).aN)))||(!(zs9 a0 ((a1.getD g1.toNat aU.zero).aK)))))&&decide (0 < g1))=true→0≤i64.wrap (g1 - 1)∧i64.wrap (g1 - 1) < (a1.length:Int)) <|
  gd (((!((!(zm2 ((a1.getD g1.toNat aU.zero).aN)))||(!(zs9 a0 ((a1.getD g1.toNat aU.zero).aK)))))&&decide (0 < g1))=true→0≤g1∧g1 < (a1.length:Int)) <|
  (if (((!(zm2 ((a1.getD g1.toNat aU.zero).aN)))||(!(zs9 a0 ((a1.getD g1.toNat aU.zero).aK))))||(decide (0 < g1)&&decide (0≤zu4 ((a1.getD ((i64.wrap (g1 - 1)).toNat) aU.zero).aN) ((a1.getD g1.toNat aU.zero).aN))))=true then
   some (.inr (.inr false))
  else
   some (.inl (i64.wrap (g1+1))))
 else
  some (.inr (.inl ())))
def zu7 (a0:aI) (a1:List aU):Option Bool :=
 (if ((!(zJ1 a0))||decide (8 < (a1.length:Int)))=true then
  some false
 else
  (zc0 (zae4 a0 a1) 0).bind (fun|.inl z=>zaB1 a0 a1 z|.inr z=>some z))
@[reducible,instance] def zdU8 (a0:aI) (a1:List aU):=mkJ (zu7 a0 a1) 0 (@zaB1.eq_1 a0 a1) fun (j1:Unit)=>⟨[(1,la a1),(2,.ptr 0 0 0)],[(0,bx a0)],1⟩
@[reducible,instance] def zdU9 (a0:aI) (a1:List aU) {T:Type} (x:T):=mkL x (@zae4.eq_1 a0 a1) fun (g1:Int)=>⟨[(1,la a1),(2,.ptr 0 0 0),(5,.int .i64 g1)],[(0,bx a0)],1⟩
instance zdc2 (a0:aI) (a1:List aU):OkP (zu7 a0 a1) 268 [ga a0,la a1] (fun r=>.bool r):=ok1 (zu7.eq_1 a0 a1) Tryz.f268 []
attribute [local irreducible] zu7
def zae5 (a0:aO) (j1:Unit):Option (Nat⊕((List aM)×Bool)) :=
 gd (1≤4294967296) <|
 some (.inr ([a0.bB],true))
@[go_sem] def zdc3 (a0:aO) (j1:Unit):St:=⟨[(0,.own 0 0 0),(3,.ptr 1 0 0)],[(0,⟨false,3,aM.enc aM.zero,[].map aM.enc⟩),(1,bx a0)],2⟩
def zao5 (a0:aO) (g1:Int):Option (Int⊕(Unit⊕(Nat⊕((List aM)×Bool)))) :=
 (if (decide (g1 < 0))=true then
  gd (0≤g1∧g1 < (0:Int)) <|
  (if (decide (([].getD g1.toNat aM.zero)=a0.bB))=true then
   some (.inr (.inr (.inr ([],true))))
  else
   some (.inl (i64.wrap (g1+1))))
 else
  some (.inr (.inl ())))
@[go_sem] def zdc4 (a0:aO) (g1:Int):St:=⟨[(0,.own 0 0 0),(3,.ptr 1 0 0),(6,.int .i64 g1)],[(0,⟨false,3,aM.enc aM.zero,[].map aM.enc⟩),(1,bx a0)],2⟩
def zae6 (j2:(List aM)):Option (Nat⊕((List aM)×Bool)) :=
 some (.inr (j2,true))
@[go_sem] def zdc5  (j2:(List aM)):St:=⟨[(0,.own 0 0 j2.length)],[(0,sx j2)],1⟩
def zV4 (a0:aO) (g2:Int×(List aM)):Option ((Int×(List aM))⊕((List aM)⊕(Nat⊕((List aM)×Bool)))) :=
 (if (decide (g2.1 < (a0.bA.length:Int)))=true then
  gd (0≤g2.1∧g2.1 < (a0.bA.length:Int)) <|
  (zr4 (a0.bA.getD g2.1.toNat aO.zero) g2.2).bind fun v2=>match v2 with
  | .inl v2 =>
   some (.inr (.inr (.inl g2.2.length)))
  | .inr v2 =>
   (if (!v2.1)=true then
    some (.inr (.inr (.inl g2.2.length)))
   else
    some (.inl ((i64.wrap (g2.1+1)),v2.2)))
 else
  some (.inr (.inl g2.2)))
@[go_sem] def zdc6 (a0:aO) (g2:Int×(List aM)):St:=⟨[(0,.own 0 0 g2.2.length),(3,.ptr 1 0 0),(7,.int .i64 g2.1)],[(0,sx g2.2),(1,bx a0)],2⟩
def zL3 (a90:(aO→Option (Nat⊕((List aM)×Bool)))) (a0:aO):Option (Nat⊕((List aM)×Bool)) :=
 (if (decide ((a0.bA.length:Int)=0))=true then
  ((if (decide (a0.k=0))=true then zh7 a0.bB.name else some false)).bind fun v1 =>
  (if (((!decide (a0.k=0))||(!v1))||(!(zp6 a0.bB.aK)))=true then
   some (.inr ([],false))
  else
   (zc0 (zao5 a0) 0).bind (fun|.inl z=>zae5 a0 z|.inr z=>some z))
 else
  (if ((decide (a0.k < 1)||decide ((a0.bA.length:Int) < a0.k))||(!decide (a0.bB={ aM.zero with  })))=true then
   some (.inr ([],false))
  else
   (zc0 (zV4 a0) (0,[])).bind (fun|.inl z=>zae6 z|.inr z=>some z)))
def zae7:Nat→(aO→Option (Nat⊕((List aM)×Bool)))
 | 0=>fun _=>none
 | n+1=>zL3 (zae7 n)
def zw2 (a0:aO):Option (Nat⊕((List aM)×Bool)):=zae7 (_root_.SizeOf.sizeOf a0+1) a0
theorem zbA6 (a90:(aO→Option (Nat⊕((List aM)×Bool)))) (hrc0:∀ (a0:aO) (r:Nat),a90 a0=some (.inl r)→MFn C 242 [.full ([].map aM.enc),ga a0] [] 0 (.tup [.own 0 0 r,.bool false]) [] 1) (hrc1:∀ (a0:aO) (r:(List aM)×Bool),a90 a0=some (.inr r)→MFn C 242 [.full ([].map aM.enc),ga a0] [] 0 (.tup [la r.1,.bool r.2]) [] 0) (a0:aO) (r:Nat) (h:zL3 a90 a0=some (.inl r)):MFn C 242 [.full ([].map aM.enc),ga a0] [] 0 (.tup [.own 0 0 r,.bool false]) [] 1:=by
 refine zaz8 Tryz.f242 [] [.own 0 0 r,.bool false] fun E hG hN hK=>?_
 unfold zL3 at h
 refine g_gh (.own0 0 3 (aM.enc aM.zero)) ?_
 refine za2 (za3 hG ?_)
 refine za2 (za2 (za3 hG ?_))
 refine zl0 rfl hG h (fun _ h=>?_) (fun _ h=>?_)
 · refine za2 (za2 (za3 hG ?_))
   obtain ⟨v1,hv1,h⟩:=zc9 h
   refine zq4 (fun hg=>(zaK7 a0.bB.name).ok _ (zaH9 hg hv1)) ?_
   refine zq4 (fun hg=>(zbb9 a0.bB.aK).ok) ?_
   refine zl0 rfl hG h (fun _ h=>?_) (fun _ h=>?_)
   · refine za2 (za3 hG ?_)
     refine g_gh (.fz [0]) ?_
     refine zt2 ?_
     exact nomatch h
   refine zj2 ?_
   refine za2 (za2 (za3 hG ?_))
   refine zB6 (zdc3 a0) (fun v=>zae5 a0 v=some (.inl r)) ?_ ?_
   · intro j1 h
     unfold zae5 at h
     refine g_st ?_
     refine za2 ?_
     obtain ⟨hb1,h⟩:=zd5 h
     refine za3 hG ?_
     refine g_gh (.fz [2]) ?_
     refine zt2 ?_
     exact nomatch h
   refine zY4 (zdc4 a0) hK [(0,0),(1,1)] h (fun x_l1 h g1 y_l1 h_l1 hx_l1=>?_)
   unfold zao5 at h_l1
   refine g_st ?_
   refine za2 (za2 (za3 hG ?_))
   refine zl0 rfl hG h_l1 (fun _ h_l1=>?_) (fun _ h_l1=>?_)
   · refine zj2 ?_
     refine za2 (zB5 (za2 ?_))
     obtain ⟨hb2,h_l1⟩:=zd5 h_l1
     refine zaX8 zw6 hG ?_
     refine zl0 rfl hG h_l1 (fun _ h_l1=>?_) (fun _ h_l1=>?_)
     · refine za2 (za3 hG ?_)
       refine g_gh (.fz [0]) ?_
       refine zt2 ?_
       cases h_l1
       cases hx_l1 _ rfl
       exact nomatch h
     refine zj2 ?_
     refine za3 hG ?_
     exact zF8 hK [(0,0),(1,1)] h_l1
   refine zH3 ?_
   cases h_l1
   cases hx_l1 _ rfl
   exact zy4 hK [(0,0),(1,1)] () (by exact h)
 refine zj2 ?_
 refine za2 (za2 (za3 hG ?_))
 refine zl0 rfl hG h (fun _ h=>?_) (fun _ h=>?_)
 · refine za2 (za3 hG ?_)
   refine g_gh (.fz [0]) ?_
   refine zt2 ?_
   exact nomatch h
 refine zj2 ?_
 refine za2 (za2 (za3 hG ?_))
 refine zB6 zdc5 (fun v=>zae6 v=some (.inl r)) ?_ ?_
 · intro j2 h
   unfold zae6 at h
   refine g_st ?_
   refine za2 (za3 hG ?_)
   refine g_gh (.fz [0]) ?_
   refine zt2 ?_
   exact nomatch h
 refine zY4 (zdc6 a0) hK [(0,0),(1,1)] h (fun x_l2 h g2 y_l2 h_l2 hx_l2=>?_)
 unfold zV4 at h_l2
 refine g_st ?_
 refine za2 (za2 (za3 hG ?_))
 refine zl0 rfl hG h_l2 (fun _ h_l2=>?_) (fun _ h_l2=>?_)
 · refine zj2 ?_
   refine za2 (zB5 (za2 ?_))
   obtain ⟨hb3,h_l2⟩:=zd5 h_l2
   refine za3 hG ?_
   obtain ⟨v2,hv2,h_l2⟩:=zc9 h_l2
   rcases v2 with v2|v2
   · dsimp only at h_l2
     refine zs2 [(0,0)] [(1,2)] [0,1] ((zaP7 (a0.bA.getD g2.1.toNat aO.zero) g2.2).ok _ hv2) rfl rfl ?_
     refine za2 (za2 (za3 hG ?_))
     refine zbj9 rfl hG ?_
     refine za2 (za3 hG ?_)
     refine zt2 ?_
     cases h_l2
     cases hx_l2 _ rfl
     exact zS4 [(0,0)] (zci0 h)
   dsimp only at h_l2
   refine zs2 [(0,0)] [(1,2)] [0,1] ((zaP8 (a0.bA.getD g2.1.toNat aO.zero) g2.2).ok _ hv2) rfl rfl ?_
   refine za2 (za2 (za3 hG ?_))
   refine zl0 rfl hG h_l2 (fun _ h_l2=>?_) (fun _ h_l2=>?_)
   · refine za2 (za3 hG ?_)
     refine zt2 ?_
     cases h_l2
     cases hx_l2 _ rfl
     exact zS4 [(0,0)] (zci0 h)
   refine zj2 ?_
   refine za3 hG ?_
   refine za3 hG ?_
   exact zF8 hK [(0,2),(1,1)] h_l2
 refine zH3 ?_
 cases h_l2
 cases hx_l2 _ rfl
 exact zy4 hK [(0,0)] g2.2 (by exact h)
theorem zbA7 (a90:(aO→Option (Nat⊕((List aM)×Bool)))) (hrc0:∀ (a0:aO) (r:Nat),a90 a0=some (.inl r)→MFn C 242 [.full ([].map aM.enc),ga a0] [] 0 (.tup [.own 0 0 r,.bool false]) [] 1) (hrc1:∀ (a0:aO) (r:(List aM)×Bool),a90 a0=some (.inr r)→MFn C 242 [.full ([].map aM.enc),ga a0] [] 0 (.tup [la r.1,.bool r.2]) [] 0) (a0:aO) (r:(List aM)×Bool) (h:zL3 a90 a0=some (.inr r)):MFn C 242 [.full ([].map aM.enc),ga a0] [] 0 (.tup [la r.1,.bool r.2]) [] 0:=by
 refine zaz8 Tryz.f242 [] [la r.1,.bool r.2] fun E hG hN hK=>?_
 unfold zL3 at h
 refine g_gh (.own0 0 3 (aM.enc aM.zero)) ?_
 refine za2 (za3 hG ?_)
 refine za2 (za2 (za3 hG ?_))
 refine zl0 rfl hG h (fun _ h=>?_) (fun _ h=>?_)
 · refine za2 (za2 (za3 hG ?_))
   obtain ⟨v1,hv1,h⟩:=zc9 h
   refine zq4 (fun hg=>(zaK7 a0.bB.name).ok _ (zaH9 hg hv1)) ?_
   refine zq4 (fun hg=>(zbb9 a0.bB.aK).ok) ?_
   refine zl0 rfl hG h (fun _ h=>?_) (fun _ h=>?_)
   · refine za2 (za3 hG ?_)
     refine g_gh (.fz [0]) ?_
     refine zt2 ?_
     exact zS4 [] (zbk0 h)
   refine zj2 ?_
   refine za2 (za2 (za3 hG ?_))
   refine zB6 (zdc3 a0) (fun v=>zae5 a0 v=some (.inr r)) ?_ ?_
   · intro j1 h
     unfold zae5 at h
     refine g_st ?_
     refine za2 ?_
     obtain ⟨hb1,h⟩:=zd5 h
     refine za3 hG ?_
     refine g_gh (.fz [2]) ?_
     refine zt2 ?_
     exact zS4 [] (zbk0 h)
   refine zY4 (zdc4 a0) hK [(0,0),(1,1)] h (fun x_l1 h g1 y_l1 h_l1 hx_l1=>?_)
   unfold zao5 at h_l1
   refine g_st ?_
   refine za2 (za2 (za3 hG ?_))
   refine zl0 rfl hG h_l1 (fun _ h_l1=>?_) (fun _ h_l1=>?_)
   · refine zj2 ?_
     refine za2 (zB5 (za2 ?_))
     obtain ⟨hb2,h_l1⟩:=zd5 h_l1
     refine zaX8 zw6 hG ?_
     refine zl0 rfl hG h_l1 (fun _ h_l1=>?_) (fun _ h_l1=>?_)
     · refine za2 (za3 hG ?_)
       refine g_gh (.fz [0]) ?_
       refine zt2 ?_
       cases h_l1
       cases hx_l1 _ rfl
       exact zS4 [] (zbk0 h)
     refine zj2 ?_
     refine za3 hG ?_
     exact zF8 hK [(0,0),(1,1)] h_l1
   refine zH3 ?_
   cases h_l1
   cases hx_l1 _ rfl
   exact zy4 hK [(0,0),(1,1)] () (by exact h)
 refine zj2 ?_
 refine za2 (za2 (za3 hG ?_))
 refine zl0 rfl hG h (fun _ h=>?_) (fun _ h=>?_)
 · refine za2 (za3 hG ?_)
   refine g_gh (.fz [0]) ?_
   refine zt2 ?_
   exact zS4 [] (zbk0 h)
 refine zj2 ?_
 refine za2 (za2 (za3 hG ?_))
 refine zB6 zdc5 (fun v=>zae6 v=some (.inr r)) ?_ ?_
 · intro j2 h
   unfold zae6 at h
   refine g_st ?_
   refine za2 (za3 hG ?_)
   refine g_gh (.fz [0]) ?_
   refine zt2 ?_
   exact zS4 [] (zbk0 h)
 refine zY4 (zdc6 a0) hK [(0,0),(1,1)] h (fun x_l2 h g2 y_l2 h_l2 hx_l2=>?_)
 unfold zV4 at h_l2
 refine g_st ?_
 refine za2 (za2 (za3 hG ?_))
 refine zl0 rfl hG h_l2 (fun _ h_l2=>?_) (fun _ h_l2=>?_)
 · refine zj2 ?_
   refine za2 (zB5 (za2 ?_))
   obtain ⟨hb3,h_l2⟩:=zd5 h_l2
   refine za3 hG ?_
   obtain ⟨v2,hv2,h_l2⟩:=zc9 h_l2
   rcases v2 with v2|v2
   · dsimp only at h_l2
     refine zs2 [(0,0)] [(1,2)] [0,1] ((zaP7 (a0.bA.getD g2.1.toNat aO.zero) g2.2).ok _ hv2) rfl rfl ?_
     refine za2 (za2 (za3 hG ?_))
     refine zbj9 rfl hG ?_
     refine za2 (za3 hG ?_)
     refine zt2 ?_
     cases h_l2
     cases hx_l2 _ rfl
     exact nomatch h
   dsimp only at h_l2
   refine zs2 [(0,0)] [(1,2)] [0,1] ((zaP8 (a0.bA.getD g2.1.toNat aO.zero) g2.2).ok _ hv2) rfl rfl ?_
   refine za2 (za2 (za3 hG ?_))
   refine zl0 rfl hG h_l2 (fun _ h_l2=>?_) (fun _ h_l2=>?_)
   · refine za2 (za3 hG ?_)
     refine zt2 ?_
     cases h_l2
     cases hx_l2 _ rfl
     exact nomatch h
   refine zj2 ?_
   refine za3 hG ?_
   refine za3 hG ?_
   exact zF8 hK [(0,2),(1,1)] h_l2
 refine zH3 ?_
 cases h_l2
 cases hx_l2 _ rfl
 exact zy4 hK [(0,0)] g2.2 (by exact h)
theorem zZ3:∀ (n:Nat),(∀ (a0:aO) (r:Nat),zae7 n a0=some (.inl r)→MFn C 242 [.full ([].map aM.enc),ga a0] [] 0 (.tup [.own 0 0 r,.bool false]) [] 1)∧(∀ (a0:aO) (r:(List aM)×Bool),zae7 n a0=some (.inr r)→MFn C 242 [.full ([].map aM.enc),ga a0] [] 0 (.tup [la r.1,.bool r.2]) [] 0)
 | 0=>⟨(fun _ _ h=>nomatch h),(fun _ _ h=>nomatch h)⟩
 | n+1=>⟨zbA6 (zae7 n) (zZ3 n).1 (zZ3 n).2,zbA7 (zae7 n) (zZ3 n).1 (zZ3 n).2⟩
theorem zbA8 (a0:aO) (r:Nat) (h:zw2 a0=some (.inl r)):MFn C 242 [.full ([].map aM.enc),ga a0] [] 0 (.tup [.own 0 0 r,.bool false]) [] 1:=(zZ3 _).1 a0 r h
theorem zbA9 (a0:aO) (r:(List aM)×Bool) (h:zw2 a0=some (.inr r)):MFn C 242 [.full ([].map aM.enc),ga a0] [] 0 (.tup [la r.1,.bool r.2]) [] 0:=(zZ3 _).2 a0 r h
attribute [local irreducible] zw2
attribute [local irreducible] zq7 zu0 zv1 zq8 zd3 zq5 zu1 zl6 ze1 zu5 zu2
def zaq8 (j1:Unit):Option Bool :=
 some true
def zz5 (a0:aA) (g1:Int):Option (Int⊕(Unit⊕Bool)) :=
 (if (decide (g1 < (a0.aL.length:Int)))=true then
  gd (0≤g1∧g1 < (a0.aL.length:Int)) <|
  (zo0 a0 ((a0.aL.getD g1.toNat aT.zero).aN)).bind fun v1 =>
  (zn2 a0.aL ((a0.aL.getD g1.toNat aT.zero).aN)).bind fun v2 =>
  (if ((!decide (v2=g1))||zk5 v1)=true then
   some (.inr (.inr false))
  else
   ((if (zb1 a0.aB ((a0.aL.getD g1.toNat aT.zero).aK))=true then zr6 a0.aB ((a0.aL.getD g1.toNat aT.zero).aK) v1 else some false)).bind fun v3 =>
   (if (((!(zb1 a0.aB ((a0.aL.getD g1.toNat aT.zero).aK)))||(!v3))||decide ((a0.aL.getD g1.toNat aT.zero).aK=v1))=true then
    some (.inr (.inr false))
   else
    (if ((!decide ((a0.aL.getD g1.toNat aT.zero).bG=0))||(!decide ((a0.aL.getD g1.toNat aT.zero).bQ=0)))=true then
     some (.inr (.inr false))
    else
     some (.inl (i64.wrap (g1+1))))))
 else
  some (.inr (.inl ())))
def zr7 (a0:aA):Option Bool :=
 (if (decide (8 < (a0.aL.length:Int)))=true then
  some false
 else
  (zc0 (zz5 a0) 0).bind (fun|.inl z=>zaq8 z|.inr z=>some z))
@[reducible,instance] def zeg4 a0:=mkJ (zr7 a0) 0 (@zaq8.eq_1) fun (j1:Unit)=>⟨[],[],0⟩
@[reducible,instance] def zeg5 (a0:aA) {T:Type} (x:T):=mkL x (@zz5.eq_1 a0) fun (g1:Int)=>⟨[(1,.ptr 0 0 0),(11,la a0.aL),(12,.int .i64 (a0.aL.length:Int)),(13,.int .i64 g1)],[(0,bx a0)],1⟩
instance zci8 (a0:aA):OkP (zr7 a0) 172 [ga a0] (fun r=>.bool r):=ok1 (zr7.eq_1 a0) Tryz.f172 []
attribute [local irreducible] zr7
def zae8 (j3:aY×aA):Option (aA×aY) :=
 some (j3.2,j3.1)
def zx5 (g1:Int×aY×aA):Option ((Int×aY×aA)⊕(aY×aA)) :=
 (if (decide (0 < g1.1)&&decide (g1.2.1.bN.err=0))=true then
  (ze2 g1.2.1).bind fun v9 =>
  (ze1 v9.2).bind fun v10 =>
  (zb9 v10.2).bind fun v11 =>
  (zb9 v11.2).bind fun v12 =>
  gd (g1.2.2.aV.length+1≤4294967296) <|
  some (.inl ((i64.wrap (g1.1 - 1)),v12.2,(⟨(⟨g1.2.2.aB.name,g1.2.2.aB.kind,g1.2.2.aB.aS,g1.2.2.aB.home⟩:aI),g1.2.2.aR,g1.2.2.aL,(g1.2.2.aV++[{ { { { aT.zero with aN:=v9.1 } with aK:=v10.1 } with bG:=v11.1 } with bQ:=v12.1 }]),g1.2.2.gen⟩:aA)))
 else
  some (.inr (g1.2.1,g1.2.2)))
def zD4 (j2:aY×aA):Option (aA×aY) :=
 (zc6 8 j2.1).bind fun v8 =>
 (zc0 zx5 (v8.1,v8.2,j2.2)).bind (fun z=>zae8 z)
def zx6 (g2:Int×aY×aA):Option ((Int×aY×aA)⊕(aY×aA)) :=
 (if (decide (0 < g2.1)&&decide (g2.2.1.bN.err=0))=true then
  (ze2 g2.2.1).bind fun v13 =>
  (ze1 v13.2).bind fun v14 =>
  gd (g2.2.2.aL.length+1≤4294967296) <|
  some (.inl ((i64.wrap (g2.1 - 1)),v14.2,(⟨(⟨g2.2.2.aB.name,g2.2.2.aB.kind,g2.2.2.aB.aS,g2.2.2.aB.home⟩:aI),g2.2.2.aR,(g2.2.2.aL++[{ aT.zero with aN:=v13.1,aK:=v14.1 }]),g2.2.2.aV,g2.2.2.gen⟩:aA)))
 else
  some (.inr (g2.2.1,g2.2.2)))
def zD5 (j1:aY×aA):Option (aA×aY) :=
 (zc6 8 j1.1).bind fun v7 =>
 (zc0 zx6 (v7.1,v7.2,j1.2)).bind (fun z=>zD4 z)
def zx7 (g3:Int×aY×aA):Option ((Int×aY×aA)⊕(aY×aA)) :=
 (if (decide (0 < g3.1)&&decide (g3.2.1.bN.err=0))=true then
  (ze2 g3.2.1).bind fun v15 =>
  (ze1 v15.2).bind fun v16 =>
  gd (g3.2.2.aR.length+1≤4294967296) <|
  some (.inl ((i64.wrap (g3.1 - 1)),v16.2,(⟨(⟨g3.2.2.aB.name,g3.2.2.aB.kind,g3.2.2.aB.aS,g3.2.2.aB.home⟩:aI),(g3.2.2.aR++[(⟨v15.1,v16.1⟩:aU)]),g3.2.2.aL,g3.2.2.aV,g3.2.2.gen⟩:aA)))
 else
  some (.inr (g3.2.1,g3.2.2)))
def zl5 (a0:aY):Option (aA×aY) :=
 (ze0 a0).bind fun v1 =>
 (zb9 v1.2).bind fun v2 =>
 (zb9 v2.2).bind fun v3 =>
 (zb9 v3.2).bind fun v4 =>
 (zb9 v4.2).bind fun v5 =>
 (zc6 8 v5.2).bind fun v6 =>
 (zc0 zx7 (v6.1,v6.2,(⟨(⟨v1.1,v2.1,v3.1,v4.1⟩:aI),[],[],[],v5.1⟩:aA))).bind (fun z=>zD5 z)
@[reducible,instance] def zdV0 (j2:aY×aA) {T1:Type} (v8:T1):=mkJ (zD4 j2,v8) 4 (@zae8.eq_1) fun (j3:aY×aA)=>⟨[(2,.ptr 1 0 0),(3,.ptr 2 0 0)],[(0,bx j3.1),(1,bx aA.zero),(2,⟨false,8,aA.enc aA.zero,[[.str j3.2.aB.name,.int .i64 j3.2.aB.kind,.int .i64 j3.2.aB.aS,.int .i64 j3.2.aB.home,.own 3 0 j3.2.aR.length,.own 4 0 j3.2.aL.length,.own 5 0 j3.2.aV.length,.int .i64 j3.2.gen]]⟩),(3,sx j3.2.aR),(4,sx j3.2.aL),(5,sx j3.2.aV)],6⟩
@[reducible,instance] def zdV1 {T:Type} (x:T):=mkL x (@zx5.eq_1) fun (g1:Int×aY×aA)=>⟨[(0,.ptr 0 0 0),(2,.ptr 1 0 0),(3,.ptr 2 0 0),(8,.int .i64 g1.1)],[(0,bx g1.2.1),(1,bx aA.zero),(2,⟨false,8,aA.enc aA.zero,[[.str g1.2.2.aB.name,.int .i64 g1.2.2.aB.kind,.int .i64 g1.2.2.aB.aS,.int .i64 g1.2.2.aB.home,.own 3 0 g1.2.2.aR.length,.own 4 0 g1.2.2.aL.length,.own 5 0 g1.2.2.aV.length,.int .i64 g1.2.2.gen]]⟩),(3,sx g1.2.2.aR),(4,sx g1.2.2.aL),(5,sx g1.2.2.aV)],6⟩
@[reducible,instance] def zdV2 (j1:aY×aA) {T1:Type} (v7:T1):=mkJ (zD5 j1,v7) 2 (@zD4.eq_1) fun (j2:aY×aA)=>⟨[(0,.ptr 0 0 0),(2,.ptr 1 0 0),(3,.ptr 2 0 0)],[(0,bx j2.1),(1,bx aA.zero),(2,⟨false,8,aA.enc aA.zero,[[.str j2.2.aB.name,.int .i64 j2.2.aB.kind,.int .i64 j2.2.aB.aS,.int .i64 j2.2.aB.home,.own 3 0 j2.2.aR.length,.own 4 0 j2.2.aL.length,.own 5 0 j2.2.aV.length,.int .i64 j2.2.gen]]⟩),(3,sx j2.2.aR),(4,sx j2.2.aL),(5,sx j2.2.aV)],6⟩
@[reducible,instance] def zdV3 {T:Type} (x:T):=mkL x (@zx6.eq_1) fun (g2:Int×aY×aA)=>⟨[(0,.ptr 0 0 0),(2,.ptr 1 0 0),(3,.ptr 2 0 0),(6,.int .i64 g2.1)],[(0,bx g2.2.1),(1,bx aA.zero),(2,⟨false,8,aA.enc aA.zero,[[.str g2.2.2.aB.name,.int .i64 g2.2.2.aB.kind,.int .i64 g2.2.2.aB.aS,.int .i64 g2.2.2.aB.home,.own 3 0 g2.2.2.aR.length,.own 4 0 g2.2.2.aL.length,.own 5 0 g2.2.2.aV.length,.int .i64 g2.2.2.gen]]⟩),(3,sx g2.2.2.aR),(4,sx g2.2.2.aL),(5,sx g2.2.2.aV)],6⟩
@[reducible,instance] def zdV4 (a0:aY) {T1:Type} (v1:T1) {T2:Type} (v2:T2) {T3:Type} (v3:T3) {T4:Type} (v4:T4) {T5:Type} (v5:T5) {T6:Type} (v6:T6):=mkJ ((((((zl5 a0,v1),v2),v3),v4),v5),v6) 0 (@zD5.eq_1) fun (j1:aY×aA)=>⟨[(0,.ptr 0 0 0),(2,.ptr 1 0 0),(3,.ptr 2 0 0)],[(0,bx j1.1),(1,bx aA.zero),(2,⟨false,8,aA.enc aA.zero,[[.str j1.2.aB.name,.int .i64 j1.2.aB.kind,.int .i64 j1.2.aB.aS,.int .i64 j1.2.aB.home,.own 3 0 j1.2.aR.length,.own 4 0 j1.2.aL.length,.own 5 0 j1.2.aV.length,.int .i64 j1.2.gen]]⟩),(3,sx j1.2.aR),(4,sx j1.2.aL),(5,sx j1.2.aV)],6⟩
@[reducible,instance] def zdV5 {T:Type} (x:T):=mkL x (@zx7.eq_1) fun (g3:Int×aY×aA)=>⟨[(0,.ptr 0 0 0),(2,.ptr 1 0 0),(3,.ptr 2 0 0),(4,.int .i64 g3.1)],[(0,bx g3.2.1),(1,bx aA.zero),(2,⟨false,8,aA.enc aA.zero,[[.str g3.2.2.aB.name,.int .i64 g3.2.2.aB.kind,.int .i64 g3.2.2.aB.aS,.int .i64 g3.2.2.aB.home,.own 3 0 g3.2.2.aR.length,.own 4 0 g3.2.2.aL.length,.own 5 0 g3.2.2.aV.length,.int .i64 g3.2.2.gen]]⟩),(3,sx g3.2.2.aR),(4,sx g3.2.2.aL),(5,sx g3.2.2.aV)],6⟩
instance zbF7 (a0:aY):OkM (zl5 a0) 41 [.ptr 0 0 0] [(0,bx a0)] 1 (fun r=>ga r.1) (fun r=>[(0,bx r.2)]) 1:=⟨fun r h=>by
 refine zaz8 Tryz.f41 [(3,114)] [ga r.1] fun E hG hN hK=>?_
 have hm:Mk (zl5 a0):=trivial
 unfold zl5 at h
 refine za2 (za3 hG ?_)
 refine za2 (za3 hG ?_)
 refine g_gh (.ownb 2 4 5 (aU.enc aU.zero)) ?_
 refine g_gh (.ownb 2 5 7 (aT.enc aT.zero)) ?_
 refine g_gh (.ownb 2 6 7 (aT.enc aT.zero)) ?_
 refine za2 (za3 hG ?_)
 obtain ⟨v1,hv1,h⟩:=zc9 h
 have hm:=mkP hm v1
 refine zs2 [(0,0)] [] [0] ((zaj6 a0).ok _ hv1) rfl rfl ?_
 refine za2 (za3 hG ?_)
 obtain ⟨v2,hv2,h⟩:=zc9 h
 have hm:=mkP hm v2
 refine zs2 [(0,0)] [] [0] ((zy5 v1.2).ok _ hv2) rfl rfl ?_
 refine za2 (za3 hG ?_)
 obtain ⟨v3,hv3,h⟩:=zc9 h
 have hm:=mkP hm v3
 refine zs2 [(0,0)] [] [0] ((zy5 v2.2).ok _ hv3) rfl rfl ?_
 refine za2 (za3 hG ?_)
 obtain ⟨v4,hv4,h⟩:=zc9 h
 have hm:=mkP hm v4
 refine zs2 [(0,0)] [] [0] ((zy5 v3.2).ok _ hv4) rfl rfl ?_
 refine za2 (za3 hG ?_)
 obtain ⟨v5,hv5,h⟩:=zc9 h
 have hm:=mkP hm v5
 refine zs2 [(0,0)] [] [0] ((zy5 v4.2).ok _ hv5) rfl rfl ?_
 refine za2 (za2 (za3 hG ?_))
 obtain ⟨v6,hv6,h⟩:=zc9 h
 have hm:=mkP hm v6
 refine zs2 [(0,0)] [] [0] ((zG8 8 v5.2).ok _ hv6) rfl rfl ?_
 refine zax0 hm h (fun j1 hm h=>?_) ?_
 · try refine g_st ?_
   refine za2 (za2 (za3 hG ?_))
   obtain ⟨v7,hv7,h⟩:=zc9 h
   have hm:=mkP hm v7
   refine zs2 [(0,0)] [] [0] ((zG8 8 j1.1).ok _ hv7) rfl rfl ?_
   refine zax0 hm h (fun j2 hm h=>?_) ?_
   · try refine g_st ?_
     refine za2 (za2 (za3 hG ?_))
     obtain ⟨v8,hv8,h⟩:=zc9 h
     have hm:=mkP hm v8
     refine zs2 [(0,0)] [] [0] ((zG8 8 j2.1).ok _ hv8) rfl rfl ?_
     refine zax0 hm h (fun j3 hm h=>?_) ?_
     · try refine g_st ?_
       refine za2 (za3 hG ?_)
       refine g_gh (.fz [3,4,5]) ?_
       exact gogo
     exact gogo
   exact gogo
 exact gogo⟩
attribute [local irreducible] zl5
def zK9 (a0:List aI) (j1:bJ×bL):Option (bL×bJ) :=
 (zu2 a0 j1.1).bind fun v3 =>
 some ({ j1.2 with bO:=v3.1 },v3.2)
@[go_sem] def zdx1 (a0:List aI) (j1:bJ×bL):St:=⟨[(0,.ptr 0 0 0),(1,la a0),(4,.ptr 1 0 0),(5,.ptr 2 0 0)],[(0,bx j1.1),(1,bx bL.zero),(2,bx j1.2)],3⟩
def zv6 (a0:List aI) (a1:bJ):Option (bL×bJ) :=
 (zb8 8 a1).bind fun v1 =>
 (zb8 5 v1.2).bind fun v2 =>
 (if (decide (v2.1=1))=true then
  (zb8 20 v2.2).bind fun v4 =>
  zK9 a0 (v4.2,{ { bL.zero with bG:=v1.1 } with limit:=(i64.wrap (1+v4.1)) })
 else
  zK9 a0 (v2.2,{ bL.zero with bG:=v1.1 }))
theorem zbr2 (a0:List aI) (a1:bJ) (r:bL×bJ) (h:zv6 a0 a1=some r):MFn C 156 [.ptr 0 0 0,la a0] [(0,bx a1)] 1 (ga r.1) [(0,bx r.2)] 1:=by
 refine zaz8 Tryz.f156 [] [ga r.1] fun E hG hN hK=>?_
 unfold zv6 at h
 refine za2 (za3 hG ?_)
 refine za2 (za3 hG ?_)
 obtain ⟨v1,hv1,h⟩:=zc9 h
 refine zs2 [(0,0)] [] [0] ((zr0 8 a1).ok _ hv1) rfl rfl ?_
 refine za2 (za2 (za3 hG ?_))
 obtain ⟨v2,hv2,h⟩:=zc9 h
 refine zs2 [(0,0)] [] [0] ((zr0 5 v1.2).ok _ hv2) rfl rfl ?_
 refine zaP1 (zdx1 a0) (fun v=>zK9 a0 v=some r) rfl hG h ?_ (fun _ h=>?_) (fun _ h=>?_)
 · intro j1 h
   unfold zK9 at h
   refine g_st ?_
   refine za2 (za3 hG ?_)
   obtain ⟨v3,hv3,h⟩:=zc9 h
   refine zs2 [(0,0)] [] [0] ((zbH7 a0 j1.1).ok _ hv3) rfl rfl ?_
   refine za2 (za3 hG ?_)
   refine zt2 ?_
   exact zS4 [(0,0)] h
 · refine za3 hG ?_
   obtain ⟨v4,hv4,h⟩:=zc9 h
   refine zs2 [(0,0)] [] [0] ((zr0 20 v2.2).ok _ hv4) rfl rfl ?_
   exact zy4 hK [(0,0),(1,1),(2,2)] (v4.2,{ { bL.zero with bG:=v1.1 } with limit:=(i64.wrap (1+v4.1)) }) (by exact h)
 refine zj2 ?_
 exact zy4 hK [(0,0),(1,1),(2,2)] (v2.2,{ bL.zero with bG:=v1.1 }) (by exact h)
instance zcB1 (a0:List aI) (a1:bJ):OkM (zv6 a0 a1) 156 [.ptr 0 0 0,la a0] [(0,bx a1)] 1 (fun r=>ga r.1) (fun r=>[(0,bx r.2)]) 1:=⟨zbr2 a0 a1⟩
attribute [local irreducible] zv6
def zaB2 (j1:(List aJ)):Option (List aJ) :=
 (zj6 j1).bind fun v1 =>
 some v1
def zae9 (a0:List aA) (g1:Int×(List aJ)):Option ((Int×(List aJ))⊕(List aJ)) :=
 (if (decide (g1.1 < (a0.length:Int)))=true then
  gd (0≤g1.1∧g1.1 < (a0.length:Int)) <|
  (zv1 (a0.getD g1.1.toNat aA.zero)).bind fun v2 =>
  gd (g1.2.length+v2.length≤4294967296) <|
  some (.inl ((i64.wrap (g1.1+1)),(g1.2++v2)))
 else
  some (.inr g1.2))
def zy3 (a0:List aA):Option (List aJ) :=
 (zc0 (zae9 a0) (0,[])).bind (fun z=>zaB2 z)
@[reducible,instance] def zdV6 a0:=mkJ (zy3 a0) 0 (@zaB2.eq_1) fun (j1:(List aJ))=>⟨[(3,.own 0 0 j1.length)],[(0,sx j1)],1⟩
@[reducible,instance] def zdV7 (a0:List aA) {T:Type} (x:T):=mkL x (@zae9.eq_1 a0) fun (g1:Int×(List aJ))=>⟨[(0,la a0),(3,.own 0 0 g1.2.length),(4,.int .i64 g1.1)],[(0,sx g1.2)],1⟩
instance zdc7 (a0:List aA):OkP (zy3 a0) 89 [la a0] (fun r=>la r):=ok1 (zy3.eq_1 a0) Tryz.f89 [(3,1)]
attribute [local irreducible] zy3
def zB9 (a0:aX) (a1:bK):Option (aX×Int) :=
 (zq8 a0).bind fun v1 =>
 (if (!v1)=true then
  some ({ aX.zero with  },2)
 else
  gd (a0.aP.length≤4294967296) <|
  gd (a0.aP.length+1≤4294967296) <|
  gd (a0.bD.length≤4294967296) <|
  (zq8 (⟨(a0.aP++[a1]),a0.bD⟩:aX)).bind fun v2 =>
  (if (!v2)=true then
   some ({ aX.zero with  },1)
  else
   some ((⟨(a0.aP++[a1]),a0.bD⟩:aX),0)))
instance zcV4 (a0:aX) (a1:bK):OkP (zB9 a0 a1) 257 [ga a0,ga a1] (fun r=>.tup [ga r.1,.int .i64 r.2]):=ok1 (zB9.eq_1 a0 a1) Tryz.f257 [(11,1),(18,1),(22,2)]
attribute [local irreducible] zB9
end
end Ab
end Go.Proofs.YtogpinppgncpmaaGreatDoor
