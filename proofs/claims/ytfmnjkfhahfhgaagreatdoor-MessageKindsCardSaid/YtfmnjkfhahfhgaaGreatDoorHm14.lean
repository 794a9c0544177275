import Derived.Test.YtfmnjkfhahfhgaaGreatDoorHm13
import Derived.Test.YtfmnjkfhahfhgaaGreatDoorHm16
import Derived.Test.YtfmnjkfhahfhgaaGreatDoorHm9
import Derived.Test.YtfmnjkfhahfhgaaGreatDoorHm10
namespace Go.Proofs.YtfmnjkfhahfhgaaGreatDoor
namespace Ab
set_option linter.defProp false
open IntKind (i64 u64 u8)
set_option linter.unusedSimpArgs false
set_option linter.unusedVariables false
set_option maxRecDepth 100000
set_option maxHeartbeats 1000000
noncomputable section
variable {T T1 T2 T3 T4 T5 T6 : Type} (x : T) (v1 : T1) (v2 : T2) (v3 : T3) (v4 : T4) (v5 : T5) (v6 : T6)
def Sv(j1:Unit):Option Bool:=some true
def Sw(O U:List aA)(H:Int):Option (Int⊕(Unit⊕Bool)):=(if decide (H<O.length)then gd (0<=H/\H<O.length)<|gd (0<=H/\H<U.length)<|(I5 (O.getD H.toNat aA.zero) (U.getD H.toNat aA.zero)).bind λ v1=>(if !v1 then some (.inr (.inr false))else some (.inl (i64.wrap (H+1))))else some (.inr (.inl ())))
def Dc(H O:List aA):Option Bool:=(if !decide ((H.length:Int)=(O.length:Int))then some false else(lS (Sw H O) 0).bind (λ|.inl z=>Sv z|.inr z=>some z))
@[reducible,instance]def bH9 a0 a1:=mkJ (Dc a0 a1) 0 (@Sv.eq_1) λ j1=>⟨[],[],0⟩
@[reducible,instance]def bHa (H O:List aA):=mkL x (@Sw.eq_1 H O) λ U=>⟨[(1,la O),(2,.clo 81 []),(15,la H),(16,.int i64 H.length),(17,.int i64 U)],[],0⟩
instance zO6(H O:List aA):OkM (Dc H O) 80 [la H,la O,.clo 81 []] [] 0 .bool (λ r=>[]) 0:=okm (Dc.eq_1 H O) (λ r=>[.bool r]) Tryz.f80 []
def Dd(H:List aH)(j1:bK×bO):Option (bO×bK):=(AS H j1.1).bind λ v3=>some ({j1.2 with bU:=v3.1},v3.2)
@[go_sem] def bHb(H:List aH)(j1:bK×bO):St:=⟨[(0,.ptr 0 0 0),(1,la H),(4,.ptr 1 0 0),(5,.ptr 2 0 0)],[(0,bx j1.1),(1,bx bO.zero),(2,bx j1.2)],3⟩
def AY(H:List aH)(O:bK):Option (bO×bK):=(nI 8 O).bind λ v1=>(nI 5 v1.2).bind λ v2=>(if decide (v2.1=1)then(nI 20 v2.2).bind λ v4=>Dd H (v4.2,{{bO.zero with bD:=v1.1}with limit:=(i64.wrap (1+v4.1))})else Dd H (v2.2,{bO.zero with bD:=v1.1}))
def bHc(H:List aH)(O:bK)(r:bO×bK)(h:AY H O=some r):MFn C 87 [.ptr 0 0 0,la H] [(0,bx O)] 1 (ga r.1) [(0,bx r.2)] 1:=by
 refine oR Tryz.f87 [] [ga r.1] λ E hG Y hK=>?_;unfold AY at h;refine lQ (lR hG ?_);refine lQ (lR hG ?_);obtain⟨v1,U,h⟩:=lT h;refine mH [(0,0)] [] [0] ((pY 8 O).ok _ U) rfl rfl ?_;refine lQ (lQ (lR hG ?_));obtain⟨v2,hv2,h⟩:=lT h;refine mH [(0,0)] [] [0] ((pY 5 v1.2).ok _ hv2) rfl rfl ?_;refine rB (bHb H) (λ v=>Dd H v=some r) rfl hG h ?_ (λ _ h=>?_) (λ _ h=>?_)
 · intro j1 h
   unfold Dd at h;refine g_st ?_;refine lQ (lR hG ?_);obtain⟨v3,hv3,h⟩:=lT h;refine mH [(0,0)] [] [0] ((bF8 H j1.1).ok _ hv3) rfl rfl ?_;refine lQ (lR hG ?_);refine lX ?_;exact mQ [(0,0)] h
 · refine lR hG ?_
   obtain⟨v4,hv4,h⟩:=lT h;refine mH [(0,0)] [] [0] ((pY 20 v2.2).ok _ hv4) rfl rfl ?_;exact mM hK [(0,0),(1,1),(2,2)] (v4.2,{{bO.zero with bD:=v1.1}with limit:=(i64.wrap (1+v4.1))}) (by exact h)
 refine lW ?_;exact mM hK [(0,0),(1,1),(2,2)] (v2.2,{bO.zero with bD:=v1.1}) (by exact h)
instance bHd(H:List aH)(O:bK):OkM (AY H O) 87 [.ptr 0 0 0,la H] [(0,bx O)] 1 (λ r=>ga r.1) (λ r=>[(0,bx r.2)]) 1:=⟨bHc H O⟩
def Sx(j1:Unit):Option Bool:=some true
def Jh(O:List aH)(H:Int):Option (Int⊕(Unit⊕Bool)):=(if decide (H<O.length)then gd (0<=H/\H<O.length)<|(AX (O.getD H.toNat aH.zero)).bind λ v1=>gd ((v1&&decide (0<H))=true->0<=i64.wrap (H-1)/\i64.wrap (H-1)<(O.length:Int))<|gd ((v1&&decide (0<H))=true->0<=H/\H<O.length)<|(if (!v1)||(decide (0<H)&&(!Op.bytesLess ((O.getD (i64.wrap (H-1)).toNat aH.zero).name).toList ((O.getD H.toNat aH.zero).name).toList))then some (.inr (.inr false))else some (.inl (i64.wrap (H+1))))else some (.inr (.inl ())))
def p5(H:List aH):Option Bool:=(if decide (8<(H.length:Int))then some false else(lS (Jh H) 0).bind (λ|.inl z=>Sx z|.inr z=>some z))
@[reducible,instance]def bHg a0:=mkJ (p5 a0) 0 (@Sx.eq_1) λ j1=>⟨[],[],0⟩
@[reducible,instance]def bHh (H:List aH):=mkL x (@Jh.eq_1 H) λ O=>⟨[(0,la H),(3,.int i64 O)],[],0⟩
instance bHi(H:List aH):OkP (p5 H) 131 [la H] .bool:=ok1 (p5.eq_1 H) Tryz.f131 []
def FV(H:aR)(j1:Unit):Option (Nat⊕((List aO)×Bool)):=gd (1<=4294967296)<|some (.inr ([H.bA],true))
@[go_sem] def Sy(H:aR)(j1:Unit):St:=⟨[(0,.own 0 0 0),(3,.ptr 1 0 0)],[(0,⟨false,3,aO.enc aO.zero,[].map aO.enc⟩),(1,bx H)],2⟩
def Ji(O:aR)(H:Int):Option (Int⊕(Unit⊕(Nat⊕((List aO)×Bool)))):=(if decide (H<0)then gd (0<=H/\H<(0:Int))<|(if decide (([].getD H.toNat aO.zero)=O.bA)then some (.inr (.inr (.inr ([],true))))else some (.inl (i64.wrap (H+1))))else some (.inr (.inl ())))
@[go_sem] def Sz(H:aR)(O:Int):St:=⟨[(0,.own 0 0 0),(3,.ptr 1 0 0),(6,.int i64 O)],[(0,⟨false,3,aO.enc aO.zero,[].map aO.enc⟩),(1,bx H)],2⟩
def FW(H:(List aO)):Option (Nat⊕((List aO)×Bool)):=some (.inr (H,true))
@[go_sem] def SA(H:(List aO)):St:=⟨[(0,.own 0 0 H.length)],[(0,sx H)],1⟩
def De(O:aR)(H:Int×(List aO)):Option ((Int×(List aO))⊕((List aO)⊕(Nat⊕((List aO)×Bool)))):=(if decide (H.1<O.bG.length)then gd (0<=H.1/\H.1<O.bG.length)<|(o8 (O.bG.getD H.1.toNat aR.zero) H.2).bind λ v2=>match v2 with | .inl v2=>some (.inr (.inr (.inl H.2.length))) | .inr v2=>(if !v2.1 then some (.inr (.inr (.inl H.2.length)))else some (.inl (i64.wrap (H.1+1),v2.2)))else some (.inr (.inl H.2)))
@[go_sem] def SB(O:aR)(H:Int×(List aO)):St:=⟨[(0,.own 0 0 H.2.length),(3,.ptr 1 0 0),(7,.int i64 H.1)],[(0,sx H.2),(1,bx O)],2⟩
def p6(O:(aR->Option (Nat⊕((List aO)×Bool))))(H:aR):Option (Nat⊕((List aO)×Bool)):=(if decide ((H.bG.length:Int)=0)then(if decide (H.k=0)then uI H.bA.name else some false).bind λ v1=>(if ((!decide (H.k=0))||(!v1))||(!(pH H.bA.aJ))then some (.inr ([],false))else(lS (Ji H) 0).bind (λ|.inl z=>FV H z|.inr z=>some z))else(if (decide (H.k<1)||decide ((H.bG.length:Int)<H.k))||(!decide (H.bA={aO.zero with}))then some (.inr ([],false))else(lS (De H) (0,[])).bind (λ|.inl z=>FW z|.inr z=>some z)))
def Df:Nat->(aR->Option (Nat⊕((List aO)×Bool)))
 |0=>λ _=>none
 |n+1=>p6 (Df n)
def AZ(H:aR):Option (Nat⊕((List aO)×Bool)):=Df (_root_.SizeOf.sizeOf H+1) H
def bHs(F:(aR->Option (Nat⊕((List aO)×Bool))))(x0:∀(U:aR) (r:Nat),F U=some (.inl r)->MFn C 216 [.full ([].map aO.enc),ga U] [] 0 (.tup [.own 0 0 r,.bool false]) [] 1)(y0:∀(U:aR) (r:(List aO)×Bool),F U=some (.inr r)->MFn C 216 [.full ([].map aO.enc),ga U] [] 0 (.tup [la r.1,.bool r.2]) [] 0)(U:aR)(r:Nat)(h:p6 F U=some (.inl r)):MFn C 216 [.full ([].map aO.enc),ga U] [] 0 (.tup [.own 0 0 r,.bool false]) [] 1:=by
 refine oR Tryz.f216 [] [.own 0 0 r,.bool false] λ E hG hN hK=>?_;unfold p6 at h;refine g_gh (.own0 0 3 (aO.enc aO.zero)) ?_;refine lQ (lR hG ?_);refine lQ (lQ (lR hG ?_));refine lU rfl hG h (λ _ h=>?_) (λ _ h=>?_)
 · refine lQ (lQ (lR hG ?_))
   obtain⟨v1,h0,h⟩:=lT h;refine mW (λ hg=>(Sa U.bA.name).ok _ (tB hg h0)) ?_;refine mW (λ hg=>(RP U.bA.aJ).ok) ?_;refine lU rfl hG h (λ _ h=>?_) (λ _ h=>?_)
   · refine lQ (lR hG ?_)
     refine g_gh (.fz [0]) ?_;refine lX ?_;exact nomatch h
   refine lW ?_;refine lQ (lQ (lR hG ?_));refine pL (Sy U) (λ v=>FV U v=some (.inl r)) ?_ ?_
   · intro j1 h
     unfold FV at h;refine g_st ?_;refine lQ ?_;obtain⟨q0,h⟩:=lZ h;refine lR hG ?_;refine g_gh (.fz [2]) ?_;refine lX ?_;exact nomatch h
   refine pX (Sz U) hK [(0,0),(1,1)] h (λ z0 h g1 u0 O B=>?_);unfold Ji at O;refine g_st ?_;refine lQ (lQ (lR hG ?_));refine lU rfl hG O (λ _ O=>?_) (λ _ O=>?_)
   · refine lW ?_
     refine lQ (nV (lQ ?_));obtain⟨r0,O⟩:=lZ O;refine yC oB hG ?_;refine lU rfl hG O (λ _ O=>?_) (λ _ O=>?_)
     · refine lQ (lR hG ?_)
       refine g_gh (.fz [0]) ?_;refine lX ?_;cases O;cases B _ rfl;exact nomatch h
     refine lW ?_;refine lR hG ?_;exact oL hK [(0,0),(1,1)] O
   refine nX ?_;cases O;cases B _ rfl;exact mM hK [(0,0),(1,1)] () (by exact h)
 refine lW ?_;refine lQ (lQ (lR hG ?_));refine lU rfl hG h (λ _ h=>?_) (λ _ h=>?_)
 · refine lQ (lR hG ?_)
   refine g_gh (.fz [0]) ?_;refine lX ?_;exact nomatch h
 refine lW ?_;refine lQ (lQ (lR hG ?_));refine pL SA (λ v=>FW v=some (.inl r)) ?_ ?_
 · intro j2 h
   unfold FW at h;refine g_st ?_;refine lQ (lR hG ?_);refine g_gh (.fz [0]) ?_;refine lX ?_;exact nomatch h
 refine pX (SB U) hK [(0,0),(1,1)] h (λ v0 h M p0 H Y=>?_);unfold De at H;refine g_st ?_;refine lQ (lQ (lR hG ?_));refine lU rfl hG H (λ _ H=>?_) (λ _ H=>?_)
 · refine lW ?_
   refine lQ (nV (lQ ?_));obtain⟨s0,H⟩:=lZ H;refine lR hG ?_;obtain⟨v2,hv2,H⟩:=lT H;rcases v2 with v2|v2
   · dsimp only at H
     refine mH [(0,0)] [(1,2)] [0,1] ((So (U.bG.getD M.1.toNat aR.zero) M.2).ok _ hv2) rfl rfl ?_;refine lQ (lQ (lR hG ?_));refine Ag rfl hG ?_;refine lQ (lR hG ?_);refine lX ?_;cases H;cases Y _ rfl;exact mQ [(0,0)] (LX h)
   dsimp only at H;refine mH [(0,0)] [(1,2)] [0,1] ((Sp (U.bG.getD M.1.toNat aR.zero) M.2).ok _ hv2) rfl rfl ?_;refine lQ (lQ (lR hG ?_));refine lU rfl hG H (λ _ H=>?_) (λ _ H=>?_)
   · refine lQ (lR hG ?_)
     refine lX ?_;cases H;cases Y _ rfl;exact mQ [(0,0)] (LX h)
   refine lW ?_;refine lR hG ?_;refine lR hG ?_;exact oL hK [(0,2),(1,1)] H
 refine nX ?_;cases H;cases Y _ rfl;exact mM hK [(0,0)] M.2 (by exact h)
def bHt(F:(aR->Option (Nat⊕((List aO)×Bool))))(x0:∀(U:aR) (r:Nat),F U=some (.inl r)->MFn C 216 [.full ([].map aO.enc),ga U] [] 0 (.tup [.own 0 0 r,.bool false]) [] 1)(y0:∀(U:aR) (r:(List aO)×Bool),F U=some (.inr r)->MFn C 216 [.full ([].map aO.enc),ga U] [] 0 (.tup [la r.1,.bool r.2]) [] 0)(U:aR)(r:(List aO)×Bool)(h:p6 F U=some (.inr r)):MFn C 216 [.full ([].map aO.enc),ga U] [] 0 (.tup [la r.1,.bool r.2]) [] 0:=by
 refine oR Tryz.f216 [] [la r.1,.bool r.2] λ E hG hN hK=>?_;unfold p6 at h;refine g_gh (.own0 0 3 (aO.enc aO.zero)) ?_;refine lQ (lR hG ?_);refine lQ (lQ (lR hG ?_));refine lU rfl hG h (λ _ h=>?_) (λ _ h=>?_)
 · refine lQ (lQ (lR hG ?_))
   obtain⟨v1,h0,h⟩:=lT h;refine mW (λ hg=>(Sa U.bA.name).ok _ (tB hg h0)) ?_;refine mW (λ hg=>(RP U.bA.aJ).ok) ?_;refine lU rfl hG h (λ _ h=>?_) (λ _ h=>?_)
   · refine lQ (lR hG ?_)
     refine g_gh (.fz [0]) ?_;refine lX ?_;exact mQ [] (Cn h)
   refine lW ?_;refine lQ (lQ (lR hG ?_));refine pL (Sy U) (λ v=>FV U v=some (.inr r)) ?_ ?_
   · intro j1 h
     unfold FV at h;refine g_st ?_;refine lQ ?_;obtain⟨q0,h⟩:=lZ h;refine lR hG ?_;refine g_gh (.fz [2]) ?_;refine lX ?_;exact mQ [] (Cn h)
   refine pX (Sz U) hK [(0,0),(1,1)] h (λ z0 h g1 u0 O B=>?_);unfold Ji at O;refine g_st ?_;refine lQ (lQ (lR hG ?_));refine lU rfl hG O (λ _ O=>?_) (λ _ O=>?_)
   · refine lW ?_
     refine lQ (nV (lQ ?_));obtain⟨r0,O⟩:=lZ O;refine yC oB hG ?_;refine lU rfl hG O (λ _ O=>?_) (λ _ O=>?_)
     · refine lQ (lR hG ?_)
       refine g_gh (.fz [0]) ?_;refine lX ?_;cases O;cases B _ rfl;exact mQ [] (Cn h)
     refine lW ?_;refine lR hG ?_;exact oL hK [(0,0),(1,1)] O
   refine nX ?_;cases O;cases B _ rfl;exact mM hK [(0,0),(1,1)] () (by exact h)
 refine lW ?_;refine lQ (lQ (lR hG ?_));refine lU rfl hG h (λ _ h=>?_) (λ _ h=>?_)
 · refine lQ (lR hG ?_)
   refine g_gh (.fz [0]) ?_;refine lX ?_;exact mQ [] (Cn h)
 refine lW ?_;refine lQ (lQ (lR hG ?_));refine pL SA (λ v=>FW v=some (.inr r)) ?_ ?_
 · intro j2 h
   unfold FW at h;refine g_st ?_;refine lQ (lR hG ?_);refine g_gh (.fz [0]) ?_;refine lX ?_;exact mQ [] (Cn h)
 refine pX (SB U) hK [(0,0),(1,1)] h (λ v0 h M p0 H Y=>?_);unfold De at H;refine g_st ?_;refine lQ (lQ (lR hG ?_));refine lU rfl hG H (λ _ H=>?_) (λ _ H=>?_)
 · refine lW ?_
   refine lQ (nV (lQ ?_));obtain⟨s0,H⟩:=lZ H;refine lR hG ?_;obtain⟨v2,hv2,H⟩:=lT H;rcases v2 with v2|v2
   · dsimp only at H
     refine mH [(0,0)] [(1,2)] [0,1] ((So (U.bG.getD M.1.toNat aR.zero) M.2).ok _ hv2) rfl rfl ?_;refine lQ (lQ (lR hG ?_));refine Ag rfl hG ?_;refine lQ (lR hG ?_);refine lX ?_;cases H;cases Y _ rfl;exact nomatch h
   dsimp only at H;refine mH [(0,0)] [(1,2)] [0,1] ((Sp (U.bG.getD M.1.toNat aR.zero) M.2).ok _ hv2) rfl rfl ?_;refine lQ (lQ (lR hG ?_));refine lU rfl hG H (λ _ H=>?_) (λ _ H=>?_)
   · refine lQ (lR hG ?_)
     refine lX ?_;cases H;cases Y _ rfl;exact nomatch h
   refine lW ?_;refine lR hG ?_;refine lR hG ?_;exact oL hK [(0,2),(1,1)] H
 refine nX ?_;cases H;cases Y _ rfl;exact mM hK [(0,0)] M.2 (by exact h)
def Dg:∀(n:Nat),(∀(H:aR) (r:Nat),Df n H=some (.inl r)->MFn C 216 [.full ([].map aO.enc),ga H] [] 0 (.tup [.own 0 0 r,.bool false]) [] 1)/\(∀(H:aR) (r:(List aO)×Bool),Df n H=some (.inr r)->MFn C 216 [.full ([].map aO.enc),ga H] [] 0 (.tup [la r.1,.bool r.2]) [] 0)
 |0=>⟨(λ _ _ h=>nomatch h),(λ _ _ h=>nomatch h)⟩
 |n+1=>⟨bHs (Df n) (Dg n).1 (Dg n).2,bHt (Df n) (Dg n).1 (Dg n).2⟩
def bHv(H:aR)(r:Nat)(h:AZ H=some (.inl r)):MFn C 216 [.full ([].map aO.enc),ga H] [] 0 (.tup [.own 0 0 r,.bool false]) [] 1:=(Dg _).1 H r h
def bHw(H:aR)(r:(List aO)×Bool)(h:AZ H=some (.inr r)):MFn C 216 [.full ([].map aO.enc),ga H] [] 0 (.tup [la r.1,.bool r.2]) [] 0:=(Dg _).2 H r h
def Dh(H:aZ)(O:Int):Option (aZ×Int):=(tO H).bind λ v1=>(if !v1 then some ({aZ.zero with},2)else(if decide (O<1)||decide (99<O)then some ({aZ.zero with},1)else(yL H.bH O).bind λ v2=>(if decide (0<=v2)then some ({aZ.zero with},11)else(if decide ((H.bH.length:Int)=4)then some ({aZ.zero with},4)else gd (H.aP.length<=4294967296)<|gd (H.bH.length<=4294967296)<|gd (H.bH.length+1<=4294967296)<|some ((⟨H.aP,H.bH++[(⟨O,(H.aP.length:Int)⟩:bV)]⟩:aZ),0)))))
instance bHx(H:aZ)(O:Int):OkP (Dh H O) 193 [ga H,.int i64 O] (λ r=>.tup [ga r.1,.int i64 r.2]):=ok1 (Dh.eq_1 H O) Tryz.f193 [(28,1),(32,1),(43,2)]
def My(j1:(List aO)):Option (Bool×(List aO)):=some (true,j1)
@[go_sem] def bHz(j1:(List aO)):St:=⟨[],[(0,⟨false,1,[A.sl ([].map aO.enc)],[[.own 2 0 j1.length]]⟩),(2,sx j1)],3⟩
def FX(O:(aR->List aO->Option (Bool×(List aO))))(U:aR)(H:Int×(List aO)):Option ((Int×(List aO))⊕((List aO)⊕(Bool×(List aO)))):=(if decide (H.1<U.bG.length)then gd (0<=H.1/\H.1<U.bG.length)<|(O (U.bG.getD H.1.toNat aR.zero) H.2).bind λ v3=>(if !v3.1 then some (.inr (.inr (false,v3.2)))else some (.inl (i64.wrap (H.1+1),v3.2)))else some (.inr (.inl H.2)))
@[go_sem] def bI0(O:aR)(H:Int×(List aO)):St:=⟨[(1,.ptr 0 0 0),(44,la O.bG),(45,.int i64 O.bG.length),(46,.int i64 H.1)],[(0,⟨false,1,[A.sl ([].map aO.enc)],[[.own 2 0 H.2.length]]⟩),(2,sx H.2)],3⟩
def FY(U:(aR->List aO->Option (Bool×(List aO))))(H:aR)(O:List aO):Option (Bool×(List aO)):=(if decide ((H.bG.length:Int)=0)then(if decide (H.k=0)then AO H.bA else some false).bind λ v1=>(if decide (H.k=0)&&v1 then(Aj H.bA O).bind λ v2=>some ((decide (H.k=0)&&v1)&&decide (v2.1=0),v2.2)else some ((decide (H.k=0)&&v1)&&decide (0=0),O))else(if (decide (H.k<1)||decide ((H.bG.length:Int)<H.k))||(!decide (H.bA={aO.zero with}))then some (false,O)else(lS (FX U H) (0,O)).bind (λ|.inl z=>My z|.inr z=>some z)))
def wW:Nat->(aR->List aO->Option (Bool×(List aO)))
 |0=>λ _ _=>none
 |n+1=>FY (wW n)
def Jj(H:aR)(O:List aO):Option (Bool×(List aO)):=wW (_root_.SizeOf.sizeOf H+1) H O
def bI1(B:(aR->List aO->Option (Bool×(List aO))))(hrc:∀(U:aR) (Y:List aO) (r:Bool×(List aO)),B U Y=some r->MFn C 222 [ga U,.ptr 0 0 0] [(0,⟨false,1,[A.sl ([].map aO.enc)],[[.own 1 0 Y.length]]⟩),(1,sx Y)] 2 (.bool r.1) [(0,⟨false,1,[A.sl ([].map aO.enc)],[[.own 2 0 r.2.length]]⟩),(2,sx r.2)] 3)(U:aR)(Y:List aO)(r:Bool×(List aO))(h:FY B U Y=some r):MFn C 222 [ga U,.ptr 0 0 0] [(0,⟨false,1,[A.sl ([].map aO.enc)],[[.own 1 0 Y.length]]⟩),(1,sx Y)] 2 (.bool r.1) [(0,⟨false,1,[A.sl ([].map aO.enc)],[[.own 2 0 r.2.length]]⟩),(2,sx r.2)] 3:=by
 refine oR Tryz.f222 [] [.bool r.1] λ E hG hN hK=>?_;unfold FY at h;refine lQ (lR hG ?_);refine lQ (lQ (lR hG ?_));refine lU rfl hG h (λ _ h=>?_) (λ _ h=>?_)
 · refine lQ (lR hG ?_)
   obtain⟨v1,F,h⟩:=lT h;refine mW (λ hg=>(bDy U.bA).ok _ (tB hg F)) ?_;refine QN h (λ M h=>?_) (λ M h=>?_)
   · obtain⟨v2,hv2,h⟩:=lT h
     refine QO M [(0,0),(1,1)] [(2,3)] [0,1,2] ((Zx U.bA Y).ok _ hv2) rfl rfl ?_;refine lX ?_;exact mQ [(0,0),(2,3)] h
   refine QQ M (.int i64 0) ?_;refine lX ?_;exact mQ [(0,0),(2,1)] h
 refine lW ?_;refine lQ (lQ (lR hG ?_));refine lU rfl hG h (λ _ h=>?_) (λ _ h=>?_)
 · refine lQ (lR hG ?_)
   refine lX ?_;exact mQ [(0,0),(2,1)] h
 refine lW ?_;refine lQ (lQ (lR hG ?_));refine pL bHz (λ v=>My v=some r) ?_ ?_
 · intro j1 h
   unfold My at h;refine g_st ?_;refine lQ (lR hG ?_);refine lX ?_;exact mQ [(0,0),(2,2)] h
 refine pX (bI0 U) hK [(0,0),(2,1)] h (λ h0 h g1 x0 H O=>?_);unfold FX at H;refine g_st ?_;refine lQ (lR hG ?_);refine lQ ?_;refine lU rfl hG H (λ _ H=>?_) (λ _ H=>?_)
 · refine lW ?_
   refine lQ (nV (lQ ?_));obtain⟨y0,H⟩:=lZ H;refine lR hG ?_;refine lQ (lR hG ?_);obtain⟨v3,hv3,H⟩:=lT H;refine mH [(0,0),(1,2)] [(2,4)] [0,1,2] (hrc (U.bG.getD g1.1.toNat aR.zero) g1.2 _ hv3) rfl rfl ?_;refine lU rfl hG H (λ _ H=>?_) (λ _ H=>?_)
   · refine lQ (lR hG ?_)
     refine lX ?_;cases H;cases O _ rfl;exact mQ [(0,0),(2,4)] h
   refine lW ?_;refine lR hG ?_;exact oL hK [(0,0),(2,4)] H
 refine nX ?_;cases H;cases O _ rfl;exact mM hK [(0,0),(2,2)] g1.2 (by exact h)
def SC:∀(n:Nat) (O:aR) (H:List aO) (r:Bool×(List aO)),wW n O H=some r->MFn C 222 [ga O,.ptr 0 0 0] [(0,⟨false,1,[A.sl ([].map aO.enc)],[[.own 1 0 H.length]]⟩),(1,sx H)] 2 (.bool r.1) [(0,⟨false,1,[A.sl ([].map aO.enc)],[[.own 2 0 r.2.length]]⟩),(2,sx r.2)] 3
 |0,_,_,_,h=>nomatch h
 |n+1,O,H,r,h=>bI1 (wW n) (SC n) O H r h
instance bI3(O:aR)(H:List aO):OkM (Jj O H) 222 [ga O,.ptr 0 0 0] [(0,⟨false,1,[A.sl ([].map aO.enc)],[[.own 1 0 H.length]]⟩),(1,sx H)] 2 (λ r=>.bool r.1) (λ r=>[(0,⟨false,1,[A.sl ([].map aO.enc)],[[.own 2 0 r.2.length]]⟩),(2,sx r.2)]) 3:=⟨λ r h=>SC _ O H r h⟩
def Mz(j1:(List aK)):Option (List aK):=some j1
def FZ(v1:(List aV))(H:Int×(List aK)):Option ((Int×(List aK))⊕(List aK)):=(if decide (H.1<v1.length)then gd (0<=H.1/\H.1<v1.length)<|gd (H.2.length+1<=4294967296)<|some (.inl (i64.wrap (H.1+1),H.2++[(v1.getD H.1.toNat aV.zero).aL]))else some (.inr H.2))
def A0(H:aA):Option (List aK):=(CX H).bind λ v1=>(lS (FZ v1) (0,[])).bind (λ z=>Mz z)
@[reducible,instance]def bI6 a0:=mkJ (A0 a0,v1) 0 (@Mz.eq_1) λ j1=>⟨[(3,.own 0 0 j1.length)],[(0,sx j1)],1⟩
@[reducible,instance]def bI7 (v1:(List aV)):=mkL x (@FZ.eq_1 v1) λ H=>⟨[(3,.own 0 0 H.2.length),(7,la v1),(8,.int i64 v1.length),(9,.int i64 H.1)],[(0,sx H.2)],1⟩
instance bI8(H:aA):OkP (A0 H) 276 [ga H] la:=ok1 (A0.eq_1 H) Tryz.f276 [(3,1)]
def MA(j1:(List Int)):Option (List Int):=some j1
def F0(O:aQ)(H:Int×(List Int)):Option ((Int×(List Int))⊕(List Int)):=(if decide (H.1<O.lower.length)then gd (0<=H.1/\H.1<O.lower.length)<|(AF H.2 (O.lower.getD H.1.toNat aO.zero).name).bind λ U=>(oX U (u64.wrap ((O.lower.getD H.1.toNat aO.zero).aJ).mode)).bind λ Y=>(oX Y (u64.wrap ((O.lower.getD H.1.toNat aO.zero).aJ).aT)).bind λ B=>some (.inl (i64.wrap (H.1+1),B))else some (.inr H.2))
def A1(O:List Int)(H:aQ):Option (List Int):=(CA O).bind λ v1=>(yQ H).bind λ v2=>(if !v2 then some v1 else(n7 v1 H.aL).bind λ v3=>(oX v3 (u64.wrap (i64.wrap (H.label+1)))).bind λ v4=>(oX v4 (u64.wrap H.cost)).bind λ v5=>(oX v5 (u64.wrap (H.lower.length:Int))).bind λ v6=>(lS (F0 H) (0,v6)).bind (λ z=>MA z))
@[reducible,instance]def bIa a0 a1:=mkJ ((((((A1 a0 a1,v1),v2),v3),v4),v5),v6) 0 (@MA.eq_1) λ j1=>⟨[(0,.own 0 0 j1.length)],[(0,⟨false,1,[A.int u8 0],j1.map (eI u8)⟩)],1⟩
@[reducible,instance]def bIb (H:aQ):=mkL x (@F0.eq_1 H) λ O=>⟨[(0,.own 0 0 O.2.length),(35,la H.lower),(36,.int i64 H.lower.length),(37,.int i64 O.1)],[(0,⟨false,1,[A.int u8 0],O.2.map (eI u8)⟩)],1⟩
instance bIc(H:List Int)(O:aQ):OkM (A1 H O) 105 [.sl (H.map (eI u8)),ga O] [] 0 (λ r=>.own 0 0 r.length) (λ r=>[(0,⟨false,1,[A.int u8 0],r.map (eI u8)⟩)]) 1:=okm (A1.eq_1 H O) (λ r=>[.own 0 0 r.length]) Tryz.f105 [(4,1),(16,1),(44,1)]
def Jk(H:aU):Option (aO×aU):=(if !decide (H.err=0)then some ({aO.zero with},H)else(CS H.b).bind λ v1=>(if !decide (v1.2.2=0)then some ({aO.zero with},{H with err:=v1.2.2})else gd (0<=v1.2.1/\v1.2.1<=(H.b.length:Int)/\(H.b.length:Int)<=(H.b.length:Int))<|(yS ({H with b:=(H.b.drop v1.2.1.toNat)})).bind λ v2=>(yS v2.2).bind λ v3=>some ((⟨v1.1,(⟨v2.1,v3.1⟩:aC)⟩:aO),v3.2)))
instance bId(H:aU):OkM (Jk H) 72 [.ptr 0 0 0] [(0,bx H)] 1 (λ r=>ga r.1) (λ r=>[(0,bx r.2)]) 1:=okm (Jk.eq_1 H) (λ r=>[ga r.1]) Tryz.f72 []
def A2(H:bE):Option (aC×bE):=(tK H).bind λ v1=>(tK v1.2).bind λ v2=>some ((⟨v1.1,v2.1⟩:aC),v2.2)
instance bIe(H:bE):OkM (A2 H) 219 [.ptr 0 0 0] [(0,bx H)] 1 (λ r=>ga r.1) (λ r=>[(0,bx r.2)]) 1:=okm (A2.eq_1 H) (λ r=>[ga r.1]) Tryz.f219 []
def SD(j1:Unit):Option Bool:=some true
def MB(H:Int×Int)(O:Unit):Option ((Int×Int)⊕(Unit⊕Bool)):=some (.inl (H.1,i64.wrap (H.2+1)))
def Di(H:List aC)(O:Int×Int)(U:Int):Option (Int⊕(Unit⊕Bool)):=(if decide (U<O.2)then gd (0<=O.2/\O.2<H.length)<|gd ((!(nP (H.getD O.2.toNat aC.zero)))=true->0<=U/\U<H.length)<|gd (((!(nP (H.getD O.2.toNat aC.zero)))&&(!(nP (H.getD U.toNat aC.zero))))=true->0<=O.2/\O.2<H.length)<|gd (((!(nP (H.getD O.2.toNat aC.zero)))&&(!(nP (H.getD U.toNat aC.zero))))=true->0<=U/\U<H.length)<|(if ((!(nP (H.getD O.2.toNat aC.zero)))&&(!(nP (H.getD U.toNat aC.zero))))&&(!(CJ (H.getD O.2.toNat aC.zero).mode (H.getD U.toNat aC.zero).mode))then some (.inr (.inr false))else some (.inl (i64.wrap (U+1))))else some (.inr (.inl ())))
def A3(U:aH)(O:List aC)(H:Int×Int):Option ((Int×Int)⊕(Unit⊕Bool)):=(if decide (H.2<O.length)then gd (0<=H.2/\H.2<O.length)<|(if !(tM U (O.getD H.2.toNat aC.zero))then some (.inr (.inr false))else(if decide (U.kind=2)then gd (0<=H.2/\H.2<O.length)<|(if decide (U.aT<i64.wrap (H.1+(O.getD H.2.toNat aC.zero).aT))then some (.inr (.inr false))else some (.inl (i64.wrap (H.1+(O.getD H.2.toNat aC.zero).aT),i64.wrap (H.2+1))))else(lS (Di O H) 0).bind (λ|.inl z=>MB H z|.inr z=>some (.inr (.inr z)))))else some (.inr (.inl ())))
def A4(H:aH)(O:List aC):Option Bool:=(if !(yI H)then some false else(lS (A3 H O) (0,0)).bind (λ|.inl z=>SD z|.inr z=>some z))
@[reducible,instance]def bIh a0 a1:=mkJ (A4 a0 a1) 0 (@SD.eq_1) λ j1=>⟨[],[],0⟩
@[reducible,instance]def bIi (O:aH) (U:List aC) (H:Int×Int):=mkJ (A3 O U H) 2 (@MB.eq_1 H) λ Y=>⟨[(1,la U),(2,.ptr 0 0 0),(5,.int i64 H.1),(6,.int i64 H.2)],[(0,bx O)],1⟩
@[reducible,instance]def bIj (U:aH) (O:List aC) (H:Int×Int):=mkL (A3 U O H) (@Di.eq_1 O H) λ Y=>⟨[(1,la O),(2,.ptr 0 0 0),(5,.int i64 H.1),(6,.int i64 H.2),(7,.int i64 Y)],[(0,bx U)],1⟩
@[reducible,instance]def bIk (H:aH) (O:List aC):=mkL x (@A3.eq_1 H O) λ U=>⟨[(1,la O),(2,.ptr 0 0 0),(5,.int i64 U.1),(6,.int i64 U.2)],[(0,bx H)],1⟩
instance bIl(H:aH)(O:List aC):OkP (A4 H O) 265 [ga H,la O] .bool:=ok1 (A4.eq_1 H O) Tryz.f265 []
end
end Ab
end Go.Proofs.YtfmnjkfhahfhgaaGreatDoor
