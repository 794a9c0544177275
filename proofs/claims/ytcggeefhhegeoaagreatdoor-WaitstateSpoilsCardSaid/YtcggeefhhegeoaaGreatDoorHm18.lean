import Derived.Test.YtcggeefhhegeoaaGreatDoorHm10
import Derived.Test.YtcggeefhhegeoaaGreatDoorHm16
namespace Go.Proofs.YtcggeefhhegeoaaGreatDoor
namespace Ab
open IntKind (i64 u64 u8)
set_option linter.unusedSimpArgs false
set_option linter.unusedVariables false
set_option linter.defProp false
set_option maxRecDepth 100000
set_option maxHeartbeats 1000000
noncomputable section
attribute [local irreducible] zk1 za4 zd6 za7 zg5 zj4 zl7 zg2 zl8 zg1 zd7 zk9 ze5 zi3 ze3 zi6 za8 za0 ze9 zl0 zn1 zi9 zi2 zg9 zh2 zg6 zc8 zf0 zh3 zg3 zf1 zb0 zb1 zh4 zj0 zf2 zo5 f_ref08_holds zk2 zc6 zn7 zn8 zn3 ze6 zf6 zm4 zn9 zh5 zl1 zm7 zd5 zj5 ze7 zf7 zo8 zo0 zb3 zc4 zi1 zj7 zp6 zq4 zl5 zb7 zn4 zd9 zj2 zp8 zh7 za6 za1 zb8 zi0 zf8 zo1 zj8 ze1 ze4 zd8 zj9 zf9 zr5 zi7 zd3 zp7 zi8 zq1 zb6 zk0 zg8 zj3 zg4 zo4 zm9 zf5 zq9 zi5 zg7 zr7 zt0 zu8 zh1 zu4 zf3 zk7 zb9 za9 zl2 zr6 zm0 ze8 zt1 zc7 zo9 zh8 zh9 zi4 zd4 zc5 zk8 zq8 zt5 zt9 zw6 zf4 zo6 zc3 zc1 zn5 zs8 zu3 zd1 za3 zl9 zt6 zq5 zm5 zk3 zm2 zu2 zj1 zq2 zv5
def zav0 (a0:aH) (j1:(List aC)):Option Bool :=
 (zk8 a0 j1).bind fun v1 =>
 some v1
def zY2 (a0:aH) (a1:List aY) (g1:Int×(List aC)):Option ((Int×(List aC))⊕((List aC)⊕Bool)) :=
 (if (decide (g1.1 < (a1.length:Int)))=true then
  gd (0≤g1.1∧g1.1 < (a1.length:Int)) <|
  (if ((!(zb2 ((a1.getD g1.1.toNat aY.zero).aP)))||(!(zb4 a0 ((a1.getD g1.1.toNat aY.zero).aK))))=true then
   some (.inr (.inr false))
  else
   gd (decide (0 < g1.1)=true→0≤i64.wrap (g1.1 - 1)∧i64.wrap (g1.1 - 1) < (a1.length:Int)) <|
   ((if (decide (0 < g1.1))=true then zd8 ((a1.getD ((i64.wrap (g1.1 - 1)).toNat) aY.zero).aP) ((a1.getD g1.1.toNat aY.zero).aP) else some 0)).bind fun v2 =>
   (if (decide (0 < g1.1)&&decide (0≤v2))=true then
    some (.inr (.inr false))
   else
    gd (g1.2.length+1≤4294967296) <|
    some (.inl ((i64.wrap (g1.1+1)),(g1.2++[(a1.getD g1.1.toNat aY.zero).aK])))))
 else
  some (.inr (.inl g1.2)))
def zr9 (a0:aH) (a1:List aY):Option Bool :=
 (if ((!(zh0 a0))||decide (8 < (a1.length:Int)))=true then
  some false
 else
  (zc0 (zY2 a0 a1) (0,[])).bind (fun|.inl z=>zav0 a0 z|.inr z=>some z))
@[reducible,instance] def zem3 (a0:aH) a1:=mkJ (zr9 a0 a1) 0 (@zav0.eq_1 a0) fun (j1:(List aC))=>⟨[(2,.ptr 0 0 0),(5,.own 1 0 j1.length)],[(0,bx a0),(1,sx j1)],2⟩
@[reducible,instance] def zem4 (a0:aH) (a1:List aY) {T:Type} (x:T):=mkL x (@zY2.eq_1 a0 a1) fun (g1:Int×(List aC))=>⟨[(1,la a1),(2,.ptr 0 0 0),(5,.own 1 0 g1.2.length),(16,la a1),(17,.int .i64 (a1.length:Int)),(18,.int .i64 g1.1)],[(0,bx a0),(1,sx g1.2)],2⟩
instance zcR2 (a0:aH) (a1:List aY):OkP (zr9 a0 a1) 174 [ga a0,la a1] (fun r=>.bool r):=ok1 (zr9.eq_1 a0 a1) Tryz.f174 [(5,1)]
attribute [local irreducible] zr9
def zr2 (a0:List bN) (a1:aJ):Option Int :=
 (zc1 a0 a1).bind fun v1 =>
 some v1.1
instance zbs1 (a0:List bN) (a1:aJ):OkP (zr2 a0 a1) 44 [la a0,ga a1] (fun r=>.int .i64 r):=ok1 (zr2.eq_1 a0 a1) Tryz.f44 []
attribute [local irreducible] zr2
def zaV7 (j1:Unit):Option Bool :=
 some true
def zap8 (a0:List aH) (g1:Int):Option (Int⊕(Unit⊕Bool)) :=
 (if (decide (g1 < (a0.length:Int)))=true then
  gd (0≤g1∧g1 < (a0.length:Int)) <|
  (zj1 (a0.getD g1.toNat aH.zero)).bind fun v1 =>
  gd ((v1&&decide (0 < g1))=true→0≤i64.wrap (g1 - 1)∧i64.wrap (g1 - 1) < (a0.length:Int)) <|
  gd ((v1&&decide (0 < g1))=true→0≤g1∧g1 < (a0.length:Int)) <|
  (if ((!v1)||(decide (0 < g1)&&(!Op.bytesLess ((a0.getD ((i64.wrap (g1 - 1)).toNat) aH.zero).name).toList ((a0.getD g1.toNat aH.zero).name).toList)))=true then
   some (.inr (.inr false))
  else
   some (.inl (i64.wrap (g1+1))))
 else
  some (.inr (.inl ())))
def zv6 (a0:List aH):Option Bool :=
 (if (decide (8 < (a0.length:Int)))=true then
  some false
 else
  (zc0 (zap8 a0) 0).bind (fun|.inl z=>zaV7 z|.inr z=>some z))
@[reducible,instance] def zdY6 a0:=mkJ (zv6 a0) 0 (@zaV7.eq_1) fun (j1:Unit)=>⟨[],[],0⟩
@[reducible,instance] def zdY7 (a0:List aH) {T:Type} (x:T):=mkL x (@zap8.eq_1 a0) fun (g1:Int)=>⟨[(0,la a0),(3,.int .i64 g1)],[],0⟩
instance zdf1 (a0:List aH):OkP (zv6 a0) 163 [la a0] (fun r=>.bool r):=ok1 (zv6.eq_1 a0) Tryz.f163 []
attribute [local irreducible] zv6
def zag2 (a0:aN) (j1:Unit):Option (Nat⊕((List aM)×Bool)) :=
 gd (1≤4294967296) <|
 some (.inr ([a0.bF],true))
@[go_sem] def zdf2 (a0:aN) (j1:Unit):St:=⟨[(0,.own 0 0 0),(3,.ptr 1 0 0)],[(0,⟨false,3,aM.enc aM.zero,[].map aM.enc⟩),(1,bx a0)],2⟩
def zap9 (a0:aN) (g1:Int):Option (Int⊕(Unit⊕(Nat⊕((List aM)×Bool)))) :=
 (if (decide (g1 < 0))=true then
  gd (0≤g1∧g1 < (0:Int)) <|
  (if (decide (([].getD g1.toNat aM.zero)=a0.bF))=true then
   some (.inr (.inr (.inr ([],true))))
  else
   some (.inl (i64.wrap (g1+1))))
 else
  some (.inr (.inl ())))
@[go_sem] def zdf3 (a0:aN) (g1:Int):St:=⟨[(0,.own 0 0 0),(3,.ptr 1 0 0),(6,.int .i64 g1)],[(0,⟨false,3,aM.enc aM.zero,[].map aM.enc⟩),(1,bx a0)],2⟩
def zag3 (j2:(List aM)):Option (Nat⊕((List aM)×Bool)) :=
 some (.inr (j2,true))
@[go_sem] def zdf4  (j2:(List aM)):St:=⟨[(0,.own 0 0 j2.length)],[(0,sx j2)],1⟩
def zW8 (a0:aN) (g2:Int×(List aM)):Option ((Int×(List aM))⊕((List aM)⊕(Nat⊕((List aM)×Bool)))) :=
 (if (decide (g2.1 < (a0.bE.length:Int)))=true then
  gd (0≤g2.1∧g2.1 < (a0.bE.length:Int)) <|
  (zq5 (a0.bE.getD g2.1.toNat aN.zero) g2.2).bind fun v2=>match v2 with
  | .inl v2 =>
   some (.inr (.inr (.inl g2.2.length)))
  | .inr v2 =>
   (if (!v2.1)=true then
    some (.inr (.inr (.inl g2.2.length)))
   else
    some (.inl ((i64.wrap (g2.1+1)),v2.2)))
 else
  some (.inr (.inl g2.2)))
@[go_sem] def zdf5 (a0:aN) (g2:Int×(List aM)):St:=⟨[(0,.own 0 0 g2.2.length),(3,.ptr 1 0 0),(7,.int .i64 g2.1)],[(0,sx g2.2),(1,bx a0)],2⟩
def zN2 (a90:(aN→Option (Nat⊕((List aM)×Bool)))) (a0:aN):Option (Nat⊕((List aM)×Bool)) :=
 (if (decide ((a0.bE.length:Int)=0))=true then
  ((if (decide (a0.k=0))=true then zh8 a0.bF.name else some false)).bind fun v1 =>
  (if (((!decide (a0.k=0))||(!v1))||(!(zs7 a0.bF.aK)))=true then
   some (.inr ([],false))
  else
   (zc0 (zap9 a0) 0).bind (fun|.inl z=>zag2 a0 z|.inr z=>some z))
 else
  (if ((decide (a0.k < 1)||decide ((a0.bE.length:Int) < a0.k))||(!decide (a0.bF={ aM.zero with  })))=true then
   some (.inr ([],false))
  else
   (zc0 (zW8 a0) (0,[])).bind (fun|.inl z=>zag3 z|.inr z=>some z)))
def zag4:Nat→(aN→Option (Nat⊕((List aM)×Bool)))
 | 0=>fun _=>none
 | n+1=>zN2 (zag4 n)
def zw2 (a0:aN):Option (Nat⊕((List aM)×Bool)):=zag4 (_root_.SizeOf.sizeOf a0+1) a0
theorem zbB6 (a90:(aN→Option (Nat⊕((List aM)×Bool)))) (hrc0:∀ (a0:aN) (r:Nat),a90 a0=some (.inl r)→MFn C 135 [.full ([].map aM.enc),ga a0] [] 0 (.tup [.own 0 0 r,.bool false]) [] 1) (hrc1:∀ (a0:aN) (r:(List aM)×Bool),a90 a0=some (.inr r)→MFn C 135 [.full ([].map aM.enc),ga a0] [] 0 (.tup [la r.1,.bool r.2]) [] 0) (a0:aN) (r:Nat) (h:zN2 a90 a0=some (.inl r)):MFn C 135 [.full ([].map aM.enc),ga a0] [] 0 (.tup [.own 0 0 r,.bool false]) [] 1:=by
 refine zay0 Tryz.f135 [] [.own 0 0 r,.bool false] fun E hG hN hK=>?_
 unfold zN2 at h
 refine g_gh (.own0 0 3 (aM.enc aM.zero)) ?_
 refine za2 (za5 hG ?_)
 refine za2 (za2 (za5 hG ?_))
 refine zp0 rfl hG h (fun _ h=>?_) (fun _ h=>?_)
 · refine za2 (za2 (za5 hG ?_))
   obtain ⟨v1,hv1,h⟩:=zc2 h
   refine zw4 (fun hg=>(zaM8 a0.bF.name).ok _ (zaU4 hg hv1)) ?_
   refine zw4 (fun hg=>(zbd4 a0.bF.aK).ok) ?_
   refine zp0 rfl hG h (fun _ h=>?_) (fun _ h=>?_)
   · refine za2 (za5 hG ?_)
     refine g_gh (.fz [0]) ?_
     refine zx8 ?_
     exact nomatch h
   refine zo3 ?_
   refine za2 (za2 (za5 hG ?_))
   refine zO2 (zdf2 a0) (fun v=>zag2 a0 v=some (.inl r)) ?_ ?_
   · intro j1 h
     unfold zag2 at h
     refine g_st ?_
     refine za2 ?_
     obtain ⟨hb1,h⟩:=zg0 h
     refine za5 hG ?_
     refine g_gh (.fz [2]) ?_
     refine zx8 ?_
     exact nomatch h
   refine zam4 (zdf3 a0) hK [(0,0),(1,1)] h (fun x_l1 h g1 y_l1 h_l1 hx_l1=>?_)
   unfold zap9 at h_l1
   refine g_st ?_
   refine za2 (za2 (za5 hG ?_))
   refine zp0 rfl hG h_l1 (fun _ h_l1=>?_) (fun _ h_l1=>?_)
   · refine zo3 ?_
     refine za2 (zK9 (za2 ?_))
     obtain ⟨hb2,h_l1⟩:=zg0 h_l1
     refine zbr4 zN6 hG ?_
     refine zp0 rfl hG h_l1 (fun _ h_l1=>?_) (fun _ h_l1=>?_)
     · refine za2 (za5 hG ?_)
       refine g_gh (.fz [0]) ?_
       refine zx8 ?_
       cases h_l1
       cases hx_l1 _ rfl
       exact nomatch h
     refine zo3 ?_
     refine za5 hG ?_
     exact zX7 hK [(0,0),(1,1)] h_l1
   refine zR8 ?_
   cases h_l1
   cases hx_l1 _ rfl
   exact zG8 hK [(0,0),(1,1)] () (by exact h)
 refine zo3 ?_
 refine za2 (za2 (za5 hG ?_))
 refine zp0 rfl hG h (fun _ h=>?_) (fun _ h=>?_)
 · refine za2 (za5 hG ?_)
   refine g_gh (.fz [0]) ?_
   refine zx8 ?_
   exact nomatch h
 refine zo3 ?_
 refine za2 (za2 (za5 hG ?_))
 refine zO2 zdf4 (fun v=>zag3 v=some (.inl r)) ?_ ?_
 · intro j2 h
   unfold zag3 at h
   refine g_st ?_
   refine za2 (za5 hG ?_)
   refine g_gh (.fz [0]) ?_
   refine zx8 ?_
   exact nomatch h
 refine zam4 (zdf5 a0) hK [(0,0),(1,1)] h (fun x_l2 h g2 y_l2 h_l2 hx_l2=>?_)
 unfold zW8 at h_l2
 refine g_st ?_
 refine za2 (za2 (za5 hG ?_))
 refine zp0 rfl hG h_l2 (fun _ h_l2=>?_) (fun _ h_l2=>?_)
 · refine zo3 ?_
   refine za2 (zK9 (za2 ?_))
   obtain ⟨hb3,h_l2⟩:=zg0 h_l2
   refine za5 hG ?_
   obtain ⟨v2,hv2,h_l2⟩:=zc2 h_l2
   rcases v2 with v2|v2
   · dsimp only at h_l2
     refine zs1 [(0,0)] [(1,2)] [0,1] ((zaR3 (a0.bE.getD g2.1.toNat aN.zero) g2.2).ok _ hv2) rfl rfl ?_
     refine za2 (za2 (za5 hG ?_))
     refine zbL9 rfl hG ?_
     refine za2 (za5 hG ?_)
     refine zx8 ?_
     cases h_l2
     cases hx_l2 _ rfl
     exact zP0 [(0,0)] (zck6 h)
   dsimp only at h_l2
   refine zs1 [(0,0)] [(1,2)] [0,1] ((zaR4 (a0.bE.getD g2.1.toNat aN.zero) g2.2).ok _ hv2) rfl rfl ?_
   refine za2 (za2 (za5 hG ?_))
   refine zp0 rfl hG h_l2 (fun _ h_l2=>?_) (fun _ h_l2=>?_)
   · refine za2 (za5 hG ?_)
     refine zx8 ?_
     cases h_l2
     cases hx_l2 _ rfl
     exact zP0 [(0,0)] (zck6 h)
   refine zo3 ?_
   refine za5 hG ?_
   refine za5 hG ?_
   exact zX7 hK [(0,2),(1,1)] h_l2
 refine zR8 ?_
 cases h_l2
 cases hx_l2 _ rfl
 exact zG8 hK [(0,0)] g2.2 (by exact h)
theorem zbB7 (a90:(aN→Option (Nat⊕((List aM)×Bool)))) (hrc0:∀ (a0:aN) (r:Nat),a90 a0=some (.inl r)→MFn C 135 [.full ([].map aM.enc),ga a0] [] 0 (.tup [.own 0 0 r,.bool false]) [] 1) (hrc1:∀ (a0:aN) (r:(List aM)×Bool),a90 a0=some (.inr r)→MFn C 135 [.full ([].map aM.enc),ga a0] [] 0 (.tup [la r.1,.bool r.2]) [] 0) (a0:aN) (r:(List aM)×Bool) (h:zN2 a90 a0=some (.inr r)):MFn C 135 [.full ([].map aM.enc),ga a0] [] 0 (.tup [la r.1,.bool r.2]) [] 0:=by
 refine zay0 Tryz.f135 [] [la r.1,.bool r.2] fun E hG hN hK=>?_
 unfold zN2 at h
 refine g_gh (.own0 0 3 (aM.enc aM.zero)) ?_
 refine za2 (za5 hG ?_)
 refine za2 (za2 (za5 hG ?_))
 refine zp0 rfl hG h (fun _ h=>?_) (fun _ h=>?_)
 · refine za2 (za2 (za5 hG ?_))
   obtain ⟨v1,hv1,h⟩:=zc2 h
   refine zw4 (fun hg=>(zaM8 a0.bF.name).ok _ (zaU4 hg hv1)) ?_
   refine zw4 (fun hg=>(zbd4 a0.bF.aK).ok) ?_
   refine zp0 rfl hG h (fun _ h=>?_) (fun _ h=>?_)
   · refine za2 (za5 hG ?_)
     refine g_gh (.fz [0]) ?_
     refine zx8 ?_
     exact zP0 [] (zbl3 h)
   refine zo3 ?_
   refine za2 (za2 (za5 hG ?_))
   refine zO2 (zdf2 a0) (fun v=>zag2 a0 v=some (.inr r)) ?_ ?_
   · intro j1 h
     unfold zag2 at h
     refine g_st ?_
     refine za2 ?_
     obtain ⟨hb1,h⟩:=zg0 h
     refine za5 hG ?_
     refine g_gh (.fz [2]) ?_
     refine zx8 ?_
     exact zP0 [] (zbl3 h)
   refine zam4 (zdf3 a0) hK [(0,0),(1,1)] h (fun x_l1 h g1 y_l1 h_l1 hx_l1=>?_)
   unfold zap9 at h_l1
   refine g_st ?_
   refine za2 (za2 (za5 hG ?_))
   refine zp0 rfl hG h_l1 (fun _ h_l1=>?_) (fun _ h_l1=>?_)
   · refine zo3 ?_
     refine za2 (zK9 (za2 ?_))
     obtain ⟨hb2,h_l1⟩:=zg0 h_l1
     refine zbr4 zN6 hG ?_
     refine zp0 rfl hG h_l1 (fun _ h_l1=>?_) (fun _ h_l1=>?_)
     · refine za2 (za5 hG ?_)
       refine g_gh (.fz [0]) ?_
       refine zx8 ?_
       cases h_l1
       cases hx_l1 _ rfl
       exact zP0 [] (zbl3 h)
     refine zo3 ?_
     refine za5 hG ?_
     exact zX7 hK [(0,0),(1,1)] h_l1
   refine zR8 ?_
   cases h_l1
   cases hx_l1 _ rfl
   exact zG8 hK [(0,0),(1,1)] () (by exact h)
 refine zo3 ?_
 refine za2 (za2 (za5 hG ?_))
 refine zp0 rfl hG h (fun _ h=>?_) (fun _ h=>?_)
 · refine za2 (za5 hG ?_)
   refine g_gh (.fz [0]) ?_
   refine zx8 ?_
   exact zP0 [] (zbl3 h)
 refine zo3 ?_
 refine za2 (za2 (za5 hG ?_))
 refine zO2 zdf4 (fun v=>zag3 v=some (.inr r)) ?_ ?_
 · intro j2 h
   unfold zag3 at h
   refine g_st ?_
   refine za2 (za5 hG ?_)
   refine g_gh (.fz [0]) ?_
   refine zx8 ?_
   exact zP0 [] (zbl3 h)
 refine zam4 (zdf5 a0) hK [(0,0),(1,1)] h (fun x_l2 h g2 y_l2 h_l2 hx_l2=>?_)
 unfold zW8 at h_l2
 refine g_st ?_
 refine za2 (za2 (za5 hG ?_))
 refine zp0 rfl hG h_l2 (fun _ h_l2=>?_) (fun _ h_l2=>?_)
 · refine zo3 ?_
   refine za2 (zK9 (za2 ?_))
   obtain ⟨hb3,h_l2⟩:=zg0 h_l2
   refine za5 hG ?_
   obtain ⟨v2,hv2,h_l2⟩:=zc2 h_l2
   rcases v2 with v2|v2
   · dsimp only at h_l2
     refine zs1 [(0,0)] [(1,2)] [0,1] ((zaR3 (a0.bE.getD g2.1.toNat aN.zero) g2.2).ok _ hv2) rfl rfl ?_
     refine za2 (za2 (za5 hG ?_))
     refine zbL9 rfl hG ?_
     refine za2 (za5 hG ?_)
     refine zx8 ?_
     cases h_l2
     cases hx_l2 _ rfl
     exact nomatch h
   dsimp only at h_l2
   refine zs1 [(0,0)] [(1,2)] [0,1] ((zaR4 (a0.bE.getD g2.1.toNat aN.zero) g2.2).ok _ hv2) rfl rfl ?_
   refine za2 (za2 (za5 hG ?_))
   refine zp0 rfl hG h_l2 (fun _ h_l2=>?_) (fun _ h_l2=>?_)
   · refine za2 (za5 hG ?_)
     refine zx8 ?_
     cases h_l2
     cases hx_l2 _ rfl
     exact nomatch h
   refine zo3 ?_
   refine za5 hG ?_
   refine za5 hG ?_
   exact zX7 hK [(0,2),(1,1)] h_l2
 refine zR8 ?_
 cases h_l2
 cases hx_l2 _ rfl
 exact zG8 hK [(0,0)] g2.2 (by exact h)
theorem zaa5:∀ (n:Nat),(∀ (a0:aN) (r:Nat),zag4 n a0=some (.inl r)→MFn C 135 [.full ([].map aM.enc),ga a0] [] 0 (.tup [.own 0 0 r,.bool false]) [] 1)∧(∀ (a0:aN) (r:(List aM)×Bool),zag4 n a0=some (.inr r)→MFn C 135 [.full ([].map aM.enc),ga a0] [] 0 (.tup [la r.1,.bool r.2]) [] 0)
 | 0=>⟨(fun _ _ h=>nomatch h),(fun _ _ h=>nomatch h)⟩
 | n+1=>⟨zbB6 (zag4 n) (zaa5 n).1 (zaa5 n).2,zbB7 (zag4 n) (zaa5 n).1 (zaa5 n).2⟩
theorem zbB8 (a0:aN) (r:Nat) (h:zw2 a0=some (.inl r)):MFn C 135 [.full ([].map aM.enc),ga a0] [] 0 (.tup [.own 0 0 r,.bool false]) [] 1:=(zaa5 _).1 a0 r h
theorem zbB9 (a0:aN) (r:(List aM)×Bool) (h:zw2 a0=some (.inr r)):MFn C 135 [.full ([].map aM.enc),ga a0] [] 0 (.tup [la r.1,.bool r.2]) [] 0:=(zaa5 _).2 a0 r h
attribute [local irreducible] zw2
def zaz8 (j1:Int) (j2:(List aX)):Option ((List aX)×Int×Int) :=
 some (j2,j1,0)
def zab6 (a0:List aX) (g1:Int×(List aX)):Option ((Int×(List aX))⊕(List aX)) :=
 (if (decide (g1.1 < (a0.length:Int)))=true then
  gd (0≤g1.1∧g1.1 < (a0.length:Int)) <|
  gd (g1.2.length+1≤4294967296) <|
  some (.inl ((i64.wrap (g1.1+1)),(g1.2++[{ (a0.getD g1.1.toNat aX.zero) with bR:=(i64.wrap ((a0.getD g1.1.toNat aX.zero).bR+1)) }])))
 else
  some (.inr g1.2))
def zab7 (a0:List aX) (a1:aX) (j1:Int):Option ((List aX)×Int×Int) :=
 gd (0≤0∧0≤j1∧j1≤(a0.length:Int)) <|
 gd ((a0.take j1.toNat).length≤4294967296) <|
 gd ((a0.take j1.toNat).length+1≤4294967296) <|
 (zc0 (zab6 a0) (j1,(a0.take j1.toNat++[a1]))).bind (fun z=>zaz8 j1 z)
def zal3 (a0:List aX) (a1:aX) (g2:Int):Option (Int⊕Int) :=
 gd (decide (0 < g2)=true→0≤i64.wrap (g2 - 1)∧i64.wrap (g2 - 1) < (a0.length:Int)) <|
 gd ((decide (0 < g2)&&decide ((a0.getD ((i64.wrap (g2 - 1)).toNat) aX.zero).bH < a1.bH))=true→0≤i64.wrap (g2 - 1)∧i64.wrap (g2 - 1) < (a0.length:Int)) <|
 (if ((decide (0 < g2)&&decide ((a0.getD ((i64.wrap (g2 - 1)).toNat) aX.zero).bH < a1.bH))&&decide ((a0.getD ((i64.wrap (g2 - 1)).toNat) aX.zero).bR < 3))=true then
  some (.inl (i64.wrap (g2 - 1)))
 else
  some (.inr g2))
def zu7 (a0:List aX) (a1:aX):Option ((List aX)×Int×Int) :=
 (zs8 a0).bind fun v1 =>
 (if (!v1)=true then
  some ([],0,2)
 else
  (if ((!(zB7 a1))||(!decide (a1.bR=0)))=true then
   some ([],0,1)
  else
   (zl0 a0 a1.aP).bind fun v2 =>
   (if (decide (0≤v2))=true then
    some ([],0,11)
   else
    (if (decide ((a0.length:Int)=8))=true then
     some ([],0,4)
    else
     (zc0 (zal3 a0 a1) (a0.length:Int)).bind (fun z=>zab7 a0 a1 z)))))
@[reducible,instance] def zdY8 a0 a1 (j1:Int):=mkJ (zab7 a0 a1 j1) 2 (@zaz8.eq_1 j1) fun (j2:(List aX))=>⟨[(7,.int .i64 j1),(8,.own 0 0 j2.length)],[(0,sx j2)],1⟩
@[reducible,instance] def zdY9 (a0:List aX) a1 (j1:Int):=mkL (zab7 a0 a1 j1) (@zab6.eq_1 a0) fun (g1:Int×(List aX))=>⟨[(0,la a0),(7,.int .i64 j1),(8,.own 0 0 g1.2.length),(9,.int .i64 g1.1)],[(0,sx g1.2)],1⟩
@[reducible,instance] def zdZ0 (a0:List aX) (a1:aX) {T1:Type} (v1:T1) {T2:Type} (v2:T2):=mkJ ((zu7 a0 a1,v1),v2) 0 (@zab7.eq_1 a0 a1) fun (j1:Int)=>⟨[(0,la a0),(3,.ptr 0 0 0),(7,.int .i64 j1)],[(0,bx a1)],1⟩
@[reducible,instance] def zdZ1 (a0:List aX) (a1:aX) {T:Type} (x:T):=mkL x (@zal3.eq_1 a0 a1) fun (g2:Int)=>⟨[(0,la a0),(3,.ptr 0 0 0),(7,.int .i64 g2)],[(0,bx a1)],1⟩
instance zbJ8 (a0:List aX) (a1:aX):OkP (zu7 a0 a1) 279 [la a0,ga a1] (fun r=>.tup [la r.1,.int .i64 r.2.1,.int .i64 r.2.2]):=ok1 (zu7.eq_1 a0 a1) Tryz.f279 [(56,1)]
attribute [local irreducible] zu7
def zz1 (a0:bA) (a1:Int):Option (bA×Int) :=
 (zq2 a0).bind fun v1 =>
 (if (!v1)=true then
  some ({ bA.zero with  },2)
 else
  (if (decide (a1 < 1)||decide (99 < a1))=true then
   some ({ bA.zero with  },1)
  else
   (zl7 a0.bG a1).bind fun v2 =>
   (if (decide (0≤v2))=true then
    some ({ bA.zero with  },11)
   else
    (if (decide ((a0.bG.length:Int)=4))=true then
     some ({ bA.zero with  },4)
    else
     gd (a0.aQ.length≤4294967296) <|
     gd (a0.bG.length≤4294967296) <|
     gd (a0.bG.length+1≤4294967296) <|
     some ((⟨a0.aQ,(a0.bG++[(⟨a1,(a0.aQ.length:Int)⟩:bU)])⟩:bA),0)))))
instance zdp1 (a0:bA) (a1:Int):OkP (zz1 a0 a1) 212 [ga a0,.int .i64 a1] (fun r=>.tup [ga r.1,.int .i64 r.2]):=ok1 (zz1.eq_1 a0 a1) Tryz.f212 [(28,1),(32,1),(43,2)]
attribute [local irreducible] zz1
def zy7 (j1:Unit):Option Bool :=
 some true
def zu1 (a0 a1:List aB) (g1:Int):Option (Int⊕(Unit⊕Bool)) :=
 (if (decide (g1 < (a0.length:Int)))=true then
  gd (0≤g1∧g1 < (a0.length:Int)) <|
  gd (0≤g1∧g1 < (a1.length:Int)) <|
  (zm2 (a0.getD g1.toNat aB.zero) (a1.getD g1.toNat aB.zero)).bind fun v1 =>
  (if (!v1)=true then
   some (.inr (.inr false))
  else
   some (.inl (i64.wrap (g1+1))))
 else
  some (.inr (.inl ())))
def zb5 (a0 a1:List aB):Option Bool :=
 (if (!decide ((a0.length:Int)=(a1.length:Int)))=true then
  some false
 else
  (zc0 (zu1 a0 a1) 0).bind (fun|.inl z=>zy7 z|.inr z=>some z))
@[reducible,instance] def zdZ2 a0 a1:=mkJ (zb5 a0 a1) 0 (@zy7.eq_1) fun (j1:Unit)=>⟨[],[],0⟩
@[reducible,instance] def zdZ3 (a0 a1:List aB) {T:Type} (x:T):=mkL x (@zu1.eq_1 a0 a1) fun (g1:Int)=>⟨[(1,la a1),(2,.clo 39 []),(15,la a0),(16,.int .i64 (a0.length:Int)),(17,.int .i64 g1)],[],0⟩
instance zL4 (a0 a1:List aB):OkM (zb5 a0 a1) 38 [la a0,la a1,.clo 39 []] [] 0 (fun r=>.bool r) (fun r=>[]) 0:=okm (zb5.eq_1 a0 a1) (fun r=>[.bool r]) Tryz.f38 []
attribute [local irreducible] zb5
def zN0 (a0:List aH) (j1:bP×bO):Option (bO×bP) :=
 (zu2 a0 j1.1).bind fun v3 =>
 some ({ j1.2 with bS:=v3.1 },v3.2)
@[go_sem] def zdA2 (a0:List aH) (j1:bP×bO):St:=⟨[(0,.ptr 0 0 0),(1,la a0),(4,.ptr 1 0 0),(5,.ptr 2 0 0)],[(0,bx j1.1),(1,bx bO.zero),(2,bx j1.2)],3⟩
def zu9 (a0:List aH) (a1:bP):Option (bO×bP) :=
 (zb8 8 a1).bind fun v1 =>
 (zb8 5 v1.2).bind fun v2 =>
 (if (decide (v2.1=1))=true then
  (zb8 20 v2.2).bind fun v4 =>
  zN0 a0 (v4.2,{ { bO.zero with bH:=v1.1 } with limit:=(i64.wrap (1+v4.1)) })
 else
  zN0 a0 (v2.2,{ bO.zero with bH:=v1.1 }))
theorem zbs2 (a0:List aH) (a1:bP) (r:bO×bP) (h:zu9 a0 a1=some r):MFn C 162 [.ptr 0 0 0,la a0] [(0,bx a1)] 1 (ga r.1) [(0,bx r.2)] 1:=by
 refine zay0 Tryz.f162 [] [ga r.1] fun E hG hN hK=>?_
 unfold zu9 at h
 refine za2 (za5 hG ?_)
 refine za2 (za5 hG ?_)
 obtain ⟨v1,hv1,h⟩:=zc2 h
 refine zs1 [(0,0)] [] [0] ((zv9 8 a1).ok _ hv1) rfl rfl ?_
 refine za2 (za2 (za5 hG ?_))
 obtain ⟨v2,hv2,h⟩:=zc2 h
 refine zs1 [(0,0)] [] [0] ((zv9 5 v1.2).ok _ hv2) rfl rfl ?_
 refine zaZ3 (zdA2 a0) (fun v=>zN0 a0 v=some r) rfl hG h ?_ (fun _ h=>?_) (fun _ h=>?_)
 · intro j1 h
   unfold zN0 at h
   refine g_st ?_
   refine za2 (za5 hG ?_)
   obtain ⟨v3,hv3,h⟩:=zc2 h
   refine zs1 [(0,0)] [] [0] ((zbJ7 a0 j1.1).ok _ hv3) rfl rfl ?_
   refine za2 (za5 hG ?_)
   refine zx8 ?_
   exact zP0 [(0,0)] h
 · refine za5 hG ?_
   obtain ⟨v4,hv4,h⟩:=zc2 h
   refine zs1 [(0,0)] [] [0] ((zv9 20 v2.2).ok _ hv4) rfl rfl ?_
   exact zG8 hK [(0,0),(1,1),(2,2)] (v4.2,{ { bO.zero with bH:=v1.1 } with limit:=(i64.wrap (1+v4.1)) }) (by exact h)
 refine zo3 ?_
 exact zG8 hK [(0,0),(1,1),(2,2)] (v2.2,{ bO.zero with bH:=v1.1 }) (by exact h)
instance zcD4 (a0:List aH) (a1:bP):OkM (zu9 a0 a1) 162 [.ptr 0 0 0,la a0] [(0,bx a1)] 1 (fun r=>ga r.1) (fun r=>[(0,bx r.2)]) 1:=⟨zbs2 a0 a1⟩
attribute [local irreducible] zu9
def zaC4 (j1:(List aJ)):Option (List aJ) :=
 (zh9 j1).bind fun v1 =>
 some v1
def zag5 (a0:List aB) (g1:Int×(List aJ)):Option ((Int×(List aJ))⊕(List aJ)) :=
 (if (decide (g1.1 < (a0.length:Int)))=true then
  gd (0≤g1.1∧g1.1 < (a0.length:Int)) <|
  (zt6 (a0.getD g1.1.toNat aB.zero)).bind fun v2 =>
  gd (g1.2.length+v2.length≤4294967296) <|
  some (.inl ((i64.wrap (g1.1+1)),(g1.2++v2)))
 else
  some (.inr g1.2))
def zw7 (a0:List aB):Option (List aJ) :=
 (zc0 (zag5 a0) (0,[])).bind (fun z=>zaC4 z)
@[reducible,instance] def zdZ4 a0:=mkJ (zw7 a0) 0 (@zaC4.eq_1) fun (j1:(List aJ))=>⟨[(3,.own 0 0 j1.length)],[(0,sx j1)],1⟩
@[reducible,instance] def zdZ5 (a0:List aB) {T:Type} (x:T):=mkL x (@zag5.eq_1 a0) fun (g1:Int×(List aJ))=>⟨[(0,la a0),(3,.own 0 0 g1.2.length),(4,.int .i64 g1.1)],[(0,sx g1.2)],1⟩
instance zdf6 (a0:List aB):OkP (zw7 a0) 42 [la a0] (fun r=>la r):=ok1 (zw7.eq_1 a0) Tryz.f42 [(3,1)]
attribute [local irreducible] zw7
def zB9 (a0:aH) (a1 a2:aC):Option aC :=
 (if ((!(zw1 a0 a1))||(!(zw1 a0 a2)))=true then
  some ({ aC.zero with  })
 else
  (if (zu6 a0 a1 a2)=true then
   some a1
  else
   (if (zu6 a0 a2 a1)=true then
    some a2
   else
    (zu8 a1.mode a2.mode).bind fun v1 =>
    some ({ aC.zero with mode:=v1 }))))
instance zca3 (a0:aH) (a1 a2:aC):OkP (zB9 a0 a1 a2) 202 [ga a0,ga a1,ga a2] (fun r=>ga r):=ok1 (zB9.eq_1 a0 a1 a2) Tryz.f202 []
attribute [local irreducible] zB9
def zaI8 (a0 j1:bA):Option (bA×Bool) :=
 (if (decide (((j1.aQ.length:Nat):Int)=(a0.aQ.length:Int)))=true then
  some ({ bA.zero with  },false)
 else
  some (j1,true))
def zaI9 (g1:Int×bA) (j2:bA):Option ((Int×bA)⊕bA) :=
 some (.inl ((i64.wrap (g1.1+1)),j2))
def zaj7 (a0:bA) (g1 g2:Int×bA):Option ((Int×bA)⊕bA) :=
 (if (decide (g2.1 < ((g2.2.bG.length:Nat):Int)))=true then
  gd (0≤g2.1∧g2.1 < (a0.bG.length:Int)) <|
  (if (decide (g1.1 < (a0.bG.getD g2.1.toNat bU.zero).at_))=true then
   gd (0≤g2.1∧g2.1 < ((g2.2.bG.length:Nat):Int)) <|
   gd (0≤g2.1∧g2.1 < ((g2.2.bG.length:Nat):Int)) <|
   some (.inl ((i64.wrap (g2.1+1)),(⟨g2.2.aQ,g2.2.bG.set g2.1.toNat ({ (g2.2.bG.getD g2.1.toNat bU.zero) with at_:=(i64.wrap ((g2.2.bG.getD g2.1.toNat bU.zero).at_ - 1)) })⟩:bA)))
  else
   some (.inl ((i64.wrap (g2.1+1)),g2.2)))
 else
  some (.inr g2.2))
def zaa6 (a0:bA) (a1:ByteArray) (g1:Int×bA):Option ((Int×bA)⊕bA) :=
 (if (decide (g1.1 < (a0.aQ.length:Int)))=true then
  gd (0≤g1.1∧g1.1 < (a0.aQ.length:Int)) <|
  (if (!(((a0.aQ.getD g1.1.toNat bM.zero).name).toList == a1.toList))=true then
   gd (0≤g1.1∧g1.1 < (a0.aQ.length:Int)) <|
   gd (g1.2.aQ.length+1≤4294967296) <|
   some (.inl ((i64.wrap (g1.1+1)),(⟨(g1.2.aQ++[(a0.aQ.getD g1.1.toNat bM.zero)]),g1.2.bG⟩:bA)))
  else
   (zc0 (zaj7 a0 g1) (0,g1.2)).bind (fun z=>zaI9 g1 z))
 else
  some (.inr g1.2))
def zA5 (a0:bA) (a1:ByteArray):Option (bA×Bool) :=
 (zq2 a0).bind fun v1 =>
 (if (!v1)=true then
  some ({ bA.zero with  },false)
 else
  gd (a0.bG.length≤4294967296) <|
  (zc0 (zaa6 a0 a1) (0,(⟨[],a0.bG⟩:bA))).bind (fun z=>zaI8 a0 z))
@[reducible,instance] def zdZ6 (a0:bA) (a1:ByteArray) {T1:Type} (v1:T1):=mkJ (zA5 a0 a1,v1) 0 (@zaI8.eq_1 a0) fun (j1:bA)=>⟨[(2,.ptr 0 0 0),(4,.ptr 1 0 0),(6,.ptr 2 0 0)],[(0,bx a0),(1,bx bA.zero),(2,⟨false,2,bA.enc bA.zero,[[.own 3 0 j1.aQ.length,.own 4 0 j1.bG.length]]⟩),(3,sx j1.aQ),(4,sx j1.bG)],5⟩
@[reducible,instance] def zdZ7 (a0:bA) (a1:ByteArray) (g1:Int×bA):=mkJ (zaa6 a0 a1 g1) 2 (@zaI9.eq_1 g1) fun (j2:bA)=>⟨[(1,.str a1),(2,.ptr 0 0 0),(4,.ptr 1 0 0),(6,.ptr 2 0 0),(7,.int .i64 g1.1)],[(0,bx a0),(1,bx bA.zero),(2,⟨false,2,bA.enc bA.zero,[[.own 3 0 j2.aQ.length,.own 4 0 j2.bG.length]]⟩),(3,sx j2.aQ),(4,sx j2.bG)],5⟩
@[reducible,instance] def zdZ8 (a0:bA) (a1:ByteArray) (g1:Int×bA):=mkL (zaa6 a0 a1 g1) (@zaj7.eq_1 a0 g1) fun (g2:Int×bA)=>⟨[(1,.str a1),(2,.ptr 0 0 0),(4,.ptr 1 0 0),(6,.ptr 2 0 0),(7,.int .i64 g1.1),(8,.int .i64 g2.1)],[(0,bx a0),(1,bx bA.zero),(2,⟨false,2,bA.enc bA.zero,[[.own 3 0 g2.2.aQ.length,.own 4 0 g2.2.bG.length]]⟩),(3,sx g2.2.aQ),(4,sx g2.2.bG)],5⟩
@[reducible,instance] def zdZ9 (a0:bA) (a1:ByteArray) {T:Type} (x:T):=mkL x (@zaa6.eq_1 a0 a1) fun (g1:Int×bA)=>⟨[(1,.str a1),(2,.ptr 0 0 0),(4,.ptr 1 0 0),(6,.ptr 2 0 0),(7,.int .i64 g1.1)],[(0,bx a0),(1,bx bA.zero),(2,⟨false,2,bA.enc bA.zero,[[.own 3 0 g1.2.aQ.length,.own 4 0 g1.2.bG.length]]⟩),(3,sx g1.2.aQ),(4,sx g1.2.bG)],5⟩
instance zdp2 (a0:bA) (a1:ByteArray):OkP (zA5 a0 a1) 254 [ga a0,.str a1] (fun r=>.tup [ga r.1,.bool r.2]):=⟨fun r h=>by
 refine zak7 Tryz.f254 [(13,1),(17,5),(6,5)] fun E hG hN hK=>?_
 have hm:Mk (zA5 a0 a1):=trivial
 unfold zA5 at h
 refine za2 (za5 hG ?_)
 refine za2 (za2 (za5 hG ?_))
 obtain ⟨v1,hv1,h⟩:=zc2 h
 have hm:=mkP hm v1
 refine zw4 (fun hg=>(zbh8 a0).ok _ hv1) ?_
 refine zp0 rfl hG h (fun _ h=>?_) (fun _ h=>?_)
 · exact gogo
 refine zo3 ?_
 refine za2 ?_
 obtain ⟨hb7,h⟩:=zg0 h
 refine za5 hG ?_
 refine g_gh (.ownb 4 0 5 (bM.enc bM.zero)) ?_
 exact gogo⟩
attribute [local irreducible] zA5
def zZ7 (j3:aO×aB):Option (aB×aO) :=
 some (j3.2,j3.1)
def zy4 (v8:Int×aO) (g1:Int×aO×aB):Option ((Int×aO×aB)⊕(aO×aB)) :=
 (if (decide (g1.1 < v8.1)&&decide (g1.2.1.e=0))=true then
  (ze8 g1.2.1).bind fun v9 =>
  (zf4 v9.2).bind fun v10 =>
  (zc5 v10.2).bind fun v11 =>
  (zc5 v11.2).bind fun v12 =>
  gd (g1.2.2.aV.length+1≤4294967296) <|
  some (.inl ((i64.wrap (g1.1+1)),v12.2,(⟨(⟨g1.2.2.aA.name,g1.2.2.aA.kind,g1.2.2.aA.aT,g1.2.2.aA.home⟩:aH),g1.2.2.aS,g1.2.2.aI,(g1.2.2.aV++[{ { { { aX.zero with aP:=v9.1 } with aK:=v10.1 } with bH:=v11.1 } with bR:=v12.1 }]),g1.2.2.gen⟩:aB)))
 else
  some (.inr (g1.2.1,g1.2.2)))
def zN8 (j2:aO×aB):Option (aB×aO) :=
 (zd4 8 j2.1).bind fun v8 =>
 (zc0 (zy4 v8) (0,v8.2,j2.2)).bind (fun z=>zZ7 z)
def zy5 (v7:Int×aO) (g2:Int×aO×aB):Option ((Int×aO×aB)⊕(aO×aB)) :=
 (if (decide (g2.1 < v7.1)&&decide (g2.2.1.e=0))=true then
  (ze8 g2.2.1).bind fun v13 =>
  (zf4 v13.2).bind fun v14 =>
  gd (g2.2.2.aI.length+1≤4294967296) <|
  some (.inl ((i64.wrap (g2.1+1)),v14.2,(⟨(⟨g2.2.2.aA.name,g2.2.2.aA.kind,g2.2.2.aA.aT,g2.2.2.aA.home⟩:aH),g2.2.2.aS,(g2.2.2.aI++[{ aX.zero with aP:=v13.1,aK:=v14.1 }]),g2.2.2.aV,g2.2.2.gen⟩:aB)))
 else
  some (.inr (g2.2.1,g2.2.2)))
def zN9 (j1:aO×aB):Option (aB×aO) :=
 (zd4 8 j1.1).bind fun v7 =>
 (zc0 (zy5 v7) (0,v7.2,j1.2)).bind (fun z=>zN8 z)
def zy6 (v6:Int×aO) (g3:Int×aO×aB):Option ((Int×aO×aB)⊕(aO×aB)) :=
 (if (decide (g3.1 < v6.1)&&decide (g3.2.1.e=0))=true then
  (ze8 g3.2.1).bind fun v15 =>
  (zf4 v15.2).bind fun v16 =>
  gd (g3.2.2.aS.length+1≤4294967296) <|
  some (.inl ((i64.wrap (g3.1+1)),v16.2,(⟨(⟨g3.2.2.aA.name,g3.2.2.aA.kind,g3.2.2.aA.aT,g3.2.2.aA.home⟩:aH),(g3.2.2.aS++[(⟨v15.1,v16.1⟩:aY)]),g3.2.2.aI,g3.2.2.aV,g3.2.2.gen⟩:aB)))
 else
  some (.inr (g3.2.1,g3.2.2)))
def zn6 (a0:aO):Option (aB×aO) :=
 (zf5 a0).bind fun v1 =>
 (zc5 v1.2).bind fun v2 =>
 (zc5 v2.2).bind fun v3 =>
 (zc5 v3.2).bind fun v4 =>
 (zc5 v4.2).bind fun v5 =>
 (zd4 8 v5.2).bind fun v6 =>
 (zc0 (zy6 v6) (0,v6.2,(⟨(⟨v1.1,v2.1,v3.1,v4.1⟩:aH),[],[],[],v5.1⟩:aB))).bind (fun z=>zN9 z)
@[reducible,instance] def zea0 (j2:aO×aB) {T1:Type} (v8:T1):=mkJ (zN8 j2,v8) 4 (@zZ7.eq_1) fun (j3:aO×aB)=>⟨[(2,.ptr 1 0 0),(3,.ptr 2 0 0)],[(0,bx j3.1),(1,bx aB.zero),(2,⟨false,8,aB.enc aB.zero,[[.str j3.2.aA.name,.int .i64 j3.2.aA.kind,.int .i64 j3.2.aA.aT,.int .i64 j3.2.aA.home,.own 3 0 j3.2.aS.length,.own 4 0 j3.2.aI.length,.own 5 0 j3.2.aV.length,.int .i64 j3.2.gen]]⟩),(3,sx j3.2.aS),(4,sx j3.2.aI),(5,sx j3.2.aV)],6⟩
@[reducible,instance] def zea1 (v8:Int×aO) {T:Type} (x:T):=mkL x (@zy4.eq_1 v8) fun (g1:Int×aO×aB)=>⟨[(0,.ptr 0 0 0),(2,.ptr 1 0 0),(3,.ptr 2 0 0),(4,.int .i64 v8.1),(9,.int .i64 g1.1)],[(0,bx g1.2.1),(1,bx aB.zero),(2,⟨false,8,aB.enc aB.zero,[[.str g1.2.2.aA.name,.int .i64 g1.2.2.aA.kind,.int .i64 g1.2.2.aA.aT,.int .i64 g1.2.2.aA.home,.own 3 0 g1.2.2.aS.length,.own 4 0 g1.2.2.aI.length,.own 5 0 g1.2.2.aV.length,.int .i64 g1.2.2.gen]]⟩),(3,sx g1.2.2.aS),(4,sx g1.2.2.aI),(5,sx g1.2.2.aV)],6⟩
@[reducible,instance] def zea2 (j1:aO×aB) {T1:Type} (v7:T1):=mkJ (zN9 j1,v7) 2 (@zN8.eq_1) fun (j2:aO×aB)=>⟨[(0,.ptr 0 0 0),(2,.ptr 1 0 0),(3,.ptr 2 0 0)],[(0,bx j2.1),(1,bx aB.zero),(2,⟨false,8,aB.enc aB.zero,[[.str j2.2.aA.name,.int .i64 j2.2.aA.kind,.int .i64 j2.2.aA.aT,.int .i64 j2.2.aA.home,.own 3 0 j2.2.aS.length,.own 4 0 j2.2.aI.length,.own 5 0 j2.2.aV.length,.int .i64 j2.2.gen]]⟩),(3,sx j2.2.aS),(4,sx j2.2.aI),(5,sx j2.2.aV)],6⟩
@[reducible,instance] def zea3 (v7:Int×aO) {T:Type} (x:T):=mkL x (@zy5.eq_1 v7) fun (g2:Int×aO×aB)=>⟨[(0,.ptr 0 0 0),(2,.ptr 1 0 0),(3,.ptr 2 0 0),(4,.int .i64 v7.1),(7,.int .i64 g2.1)],[(0,bx g2.2.1),(1,bx aB.zero),(2,⟨false,8,aB.enc aB.zero,[[.str g2.2.2.aA.name,.int .i64 g2.2.2.aA.kind,.int .i64 g2.2.2.aA.aT,.int .i64 g2.2.2.aA.home,.own 3 0 g2.2.2.aS.length,.own 4 0 g2.2.2.aI.length,.own 5 0 g2.2.2.aV.length,.int .i64 g2.2.2.gen]]⟩),(3,sx g2.2.2.aS),(4,sx g2.2.2.aI),(5,sx g2.2.2.aV)],6⟩
@[reducible,instance] def zea4 (a0:aO) {T1:Type} (v1:T1) {T2:Type} (v2:T2) {T3:Type} (v3:T3) {T4:Type} (v4:T4) {T5:Type} (v5:T5) {T6:Type} (v6:T6):=mkJ ((((((zn6 a0,v1),v2),v3),v4),v5),v6) 0 (@zN9.eq_1) fun (j1:aO×aB)=>⟨[(0,.ptr 0 0 0),(2,.ptr 1 0 0),(3,.ptr 2 0 0)],[(0,bx j1.1),(1,bx aB.zero),(2,⟨false,8,aB.enc aB.zero,[[.str j1.2.aA.name,.int .i64 j1.2.aA.kind,.int .i64 j1.2.aA.aT,.int .i64 j1.2.aA.home,.own 3 0 j1.2.aS.length,.own 4 0 j1.2.aI.length,.own 5 0 j1.2.aV.length,.int .i64 j1.2.gen]]⟩),(3,sx j1.2.aS),(4,sx j1.2.aI),(5,sx j1.2.aV)],6⟩
@[reducible,instance] def zea5 (v6:Int×aO) {T:Type} (x:T):=mkL x (@zy6.eq_1 v6) fun (g3:Int×aO×aB)=>⟨[(0,.ptr 0 0 0),(2,.ptr 1 0 0),(3,.ptr 2 0 0),(4,.int .i64 v6.1),(5,.int .i64 g3.1)],[(0,bx g3.2.1),(1,bx aB.zero),(2,⟨false,8,aB.enc aB.zero,[[.str g3.2.2.aA.name,.int .i64 g3.2.2.aA.kind,.int .i64 g3.2.2.aA.aT,.int .i64 g3.2.2.aA.home,.own 3 0 g3.2.2.aS.length,.own 4 0 g3.2.2.aI.length,.own 5 0 g3.2.2.aV.length,.int .i64 g3.2.2.gen]]⟩),(3,sx g3.2.2.aS),(4,sx g3.2.2.aI),(5,sx g3.2.2.aV)],6⟩
instance zca4 (a0:aO):OkM (zn6 a0) 59 [.ptr 0 0 0] [(0,bx a0)] 1 (fun r=>ga r.1) (fun r=>[(0,bx r.2)]) 1:=⟨fun r h=>by
 refine zay0 Tryz.f59 [(3,114)] [ga r.1] fun E hG hN hK=>?_
 have hm:Mk (zn6 a0):=trivial
 unfold zn6 at h
 refine za2 (za5 hG ?_)
 refine za2 (za5 hG ?_)
 refine g_gh (.ownb 2 4 5 (aY.enc aY.zero)) ?_
 refine g_gh (.ownb 2 5 7 (aX.enc aX.zero)) ?_
 refine g_gh (.ownb 2 6 7 (aX.enc aX.zero)) ?_
 refine za2 (za5 hG ?_)
 obtain ⟨v1,hv1,h⟩:=zc2 h
 have hm:=mkP hm v1
 refine zs1 [(0,0)] [] [0] ((zaw4 a0).ok _ hv1) rfl rfl ?_
 refine za2 (za5 hG ?_)
 obtain ⟨v2,hv2,h⟩:=zc2 h
 have hm:=mkP hm v2
 refine zs1 [(0,0)] [] [0] ((zI0 v1.2).ok _ hv2) rfl rfl ?_
 refine za2 (za5 hG ?_)
 obtain ⟨v3,hv3,h⟩:=zc2 h
 have hm:=mkP hm v3
 refine zs1 [(0,0)] [] [0] ((zI0 v2.2).ok _ hv3) rfl rfl ?_
 refine za2 (za5 hG ?_)
 obtain ⟨v4,hv4,h⟩:=zc2 h
 have hm:=mkP hm v4
 refine zs1 [(0,0)] [] [0] ((zI0 v3.2).ok _ hv4) rfl rfl ?_
 refine za2 (za5 hG ?_)
 obtain ⟨v5,hv5,h⟩:=zc2 h
 have hm:=mkP hm v5
 refine zs1 [(0,0)] [] [0] ((zI0 v4.2).ok _ hv5) rfl rfl ?_
 refine za2 (za5 hG ?_)
 obtain ⟨v6,hv6,h⟩:=zc2 h
 have hm:=mkP hm v6
 refine zs1 [(0,0)] [] [0] ((zQ7 8 v5.2).ok _ hv6) rfl rfl ?_
 refine za2 (za2 (za5 hG ?_))
 refine zaj4 hm h (fun j1 hm h=>?_) ?_
 · try refine g_st ?_
   refine za2 (za5 hG ?_)
   obtain ⟨v7,hv7,h⟩:=zc2 h
   have hm:=mkP hm v7
   refine zs1 [(0,0)] [] [0] ((zQ7 8 j1.1).ok _ hv7) rfl rfl ?_
   refine za2 (za2 (za5 hG ?_))
   refine zaj4 hm h (fun j2 hm h=>?_) ?_
   · try refine g_st ?_
     refine za2 (za5 hG ?_)
     obtain ⟨v8,hv8,h⟩:=zc2 h
     have hm:=mkP hm v8
     refine zs1 [(0,0)] [] [0] ((zQ7 8 j2.1).ok _ hv8) rfl rfl ?_
     refine za2 (za2 (za5 hG ?_))
     refine zaj4 hm h (fun j3 hm h=>?_) ?_
     · try refine g_st ?_
       refine za2 (za5 hG ?_)
       refine g_gh (.fz [3,4,5]) ?_
       exact gogo
     exact gogo
   exact gogo
 exact gogo⟩
attribute [local irreducible] zn6
end
end Ab
end Go.Proofs.YtcggeefhhegeoaaGreatDoor
