import Derived.Test.YtfmnjkfhahfhgaaGreatDoorHm13
import Derived.Test.YtfmnjkfhahfhgaaGreatDoorHm16
import Derived.Test.YtfmnjkfhahfhgaaGreatDoorHm9
import Derived.Test.YtfmnjkfhahfhgaaGreatDoorHm10
namespace Go.Proofs.YtfmnjkfhahfhgaaGreatDoor
namespace Ab
set_option linter.defProp false
open IntKind (i64 u64 u8)
set_option linter.unusedSimpArgs false
set_option linter.unusedVariables false
set_option maxRecDepth 100000
set_option maxHeartbeats 1000000
noncomputable section
variable {T T1 T2 T3 T4 T5 T6 : Type} (x : T) (v1 : T1) (v2 : T2) (v3 : T3) (v4 : T4) (v5 : T5) (v6 : T6)
def Tz(j1:Unit):Option Bool:=some true
def TA(O U:List aA)(H:Int):Option (Int⊕(Unit⊕Bool)):=(if decide (H<O.length)then gd (0<=H/\H<O.length)<|gd (0<=H/\H<U.length)<|(J9 (O.getD H.toNat aA.zero) (U.getD H.toNat aA.zero)).bind λ v1=>(if !v1 then some (.inr (.inr false))else some (.inl (i64.wrap (H+1))))else some (.inr (.inl ())))
def D0(H O:List aA):Option Bool:=(if !decide ((H.length:Int)=(O.length:Int))then some false else(lY (TA H O) 0).bind (λ|.inl z=>Tz z|.inr z=>some z))
@[reducible,instance]def bHj a0 a1:=mkJ (D0 a0 a1) 0 (@Tz.eq_1) λ j1=>⟨[],[],0⟩
@[reducible,instance]def bHk (H O:List aA):=mkL x (@TA.eq_1 H O) λ U=>⟨[(1,la O),(2,.clo 81 []),(15,la H),(16,.int i64 H.length),(17,.int i64 U)],[],0⟩
instance zR2(H O:List aA):OkM (D0 H O) 80 [la H,la O,.clo 81 []] [] 0 .bool (λ r=>[]) 0:=okm (D0.eq_1 H O) (λ r=>[.bool r]) Tryz.f80 []
def D1(H:List aI)(j1:bK×bO):Option (bO×bK):=(BA H j1.1).bind λ v3=>some ({j1.2 with bU:=v3.1},v3.2)
@[go_sem] def bHl(H:List aI)(j1:bK×bO):St:=⟨[(0,.ptr 0 0 0),(1,la H),(4,.ptr 1 0 0),(5,.ptr 2 0 0)],[(0,bx j1.1),(1,bx bO.zero),(2,bx j1.2)],3⟩
def BF(H:List aI)(O:bK):Option (bO×bK):=(nQ 8 O).bind λ v1=>(nQ 5 v1.2).bind λ v2=>(if decide (v2.1=1)then(nQ 20 v2.2).bind λ v4=>D1 H (v4.2,{{bO.zero with bC:=v1.1}with limit:=(i64.wrap (1+v4.1))})else D1 H (v2.2,{bO.zero with bC:=v1.1}))
def bHm(H:List aI)(O:bK)(r:bO×bK)(h:BF H O=some r):MFn C 87 [.ptr 0 0 0,la H] [(0,bx O)] 1 (ga r.1) [(0,bx r.2)] 1:=by
 refine oZ Tryz.f87 [] [ga r.1] λ E hG Y hK=>?_;unfold BF at h;refine lW (lX hG ?_);refine lW (lX hG ?_);obtain⟨v1,U,h⟩:=lZ h;refine mO [(0,0)] [] [0] ((qI 8 O).ok _ U) rfl rfl ?_;refine lW (lW (lX hG ?_));obtain⟨v2,hv2,h⟩:=lZ h;refine mO [(0,0)] [] [0] ((qI 5 v1.2).ok _ hv2) rfl rfl ?_;refine rN (bHl H) (λ v=>D1 H v=some r) rfl hG h ?_ (λ _ h=>?_) (λ _ h=>?_)
 · intro j1 h
   unfold D1 at h;refine g_st ?_;refine lW (lX hG ?_);obtain⟨v3,hv3,h⟩:=lZ h;refine mO [(0,0)] [] [0] ((bFh H j1.1).ok _ hv3) rfl rfl ?_;refine lW (lX hG ?_);refine mG ?_;exact mW [(0,0)] h
 · refine lX hG ?_
   obtain⟨v4,hv4,h⟩:=lZ h;refine mO [(0,0)] [] [0] ((qI 20 v2.2).ok _ hv4) rfl rfl ?_;exact mT hK [(0,0),(1,1),(2,2)] (v4.2,{{bO.zero with bC:=v1.1}with limit:=(i64.wrap (1+v4.1))}) (by exact h)
 refine mE ?_;exact mT hK [(0,0),(1,1),(2,2)] (v2.2,{bO.zero with bC:=v1.1}) (by exact h)
instance bHn(H:List aI)(O:bK):OkM (BF H O) 87 [.ptr 0 0 0,la H] [(0,bx O)] 1 (λ r=>ga r.1) (λ r=>[(0,bx r.2)]) 1:=⟨bHm H O⟩
def TB(j1:Unit):Option Bool:=some true
def Kj(O:List aI)(H:Int):Option (Int⊕(Unit⊕Bool)):=(if decide (H<O.length)then gd (0<=H/\H<O.length)<|(BE (O.getD H.toNat aI.zero)).bind λ v1=>gd ((v1&&decide (0<H))=true->0<=i64.wrap (H-1)/\i64.wrap (H-1)<(O.length:Int))<|gd ((v1&&decide (0<H))=true->0<=H/\H<O.length)<|(if (!v1)||(decide (0<H)&&(!Op.bytesLess ((O.getD (i64.wrap (H-1)).toNat aI.zero).name).toList ((O.getD H.toNat aI.zero).name).toList))then some (.inr (.inr false))else some (.inl (i64.wrap (H+1))))else some (.inr (.inl ())))
def Aa(H:List aI):Option Bool:=(if decide (8<(H.length:Int))then some false else(lY (Kj H) 0).bind (λ|.inl z=>TB z|.inr z=>some z))
@[reducible,instance]def bHq a0:=mkJ (Aa a0) 0 (@TB.eq_1) λ j1=>⟨[],[],0⟩
@[reducible,instance]def bHr (H:List aI):=mkL x (@Kj.eq_1 H) λ O=>⟨[(0,la H),(3,.int i64 O)],[],0⟩
instance bHs(H:List aI):OkP (Aa H) 131 [la H] .bool:=ok1 (Aa.eq_1 H) Tryz.f131 []
def GK(H:aS)(j1:Unit):Option (Nat⊕((List aO)×Bool)):=gd (1<=4294967296)<|some (.inr ([H.aZ],true))
@[go_sem] def TD(H:aS)(j1:Unit):St:=⟨[(0,.own 0 0 0),(3,.ptr 1 0 0)],[(0,⟨false,3,aO.enc aO.zero,[].map aO.enc⟩),(1,bx H)],2⟩
def Kk(O:aS)(H:Int):Option (Int⊕(Unit⊕(Nat⊕((List aO)×Bool)))):=(if decide (H<0)then gd (0<=H/\H<(0:Int))<|(if decide (([].getD H.toNat aO.zero)=O.aZ)then some (.inr (.inr (.inr ([],true))))else some (.inl (i64.wrap (H+1))))else some (.inr (.inl ())))
@[go_sem] def TE(H:aS)(O:Int):St:=⟨[(0,.own 0 0 0),(3,.ptr 1 0 0),(6,.int i64 O)],[(0,⟨false,3,aO.enc aO.zero,[].map aO.enc⟩),(1,bx H)],2⟩
def GL(H:(List aO)):Option (Nat⊕((List aO)×Bool)):=some (.inr (H,true))
@[go_sem] def TF(H:(List aO)):St:=⟨[(0,.own 0 0 H.length)],[(0,sx H)],1⟩
def D2(O:aS)(H:Int×(List aO)):Option ((Int×(List aO))⊕((List aO)⊕(Nat⊕((List aO)×Bool)))):=(if decide (H.1<O.bG.length)then gd (0<=H.1/\H.1<O.bG.length)<|(z6 (O.bG.getD H.1.toNat aS.zero) H.2).bind λ v2=>match v2 with | .inl v2=>some (.inr (.inr (.inl H.2.length))) | .inr v2=>(if !v2.1 then some (.inr (.inr (.inl H.2.length)))else some (.inl (i64.wrap (H.1+1),v2.2)))else some (.inr (.inl H.2)))
@[go_sem] def TG(O:aS)(H:Int×(List aO)):St:=⟨[(0,.own 0 0 H.2.length),(3,.ptr 1 0 0),(7,.int i64 H.1)],[(0,sx H.2),(1,bx O)],2⟩
def Ac(O:(aS->Option (Nat⊕((List aO)×Bool))))(H:aS):Option (Nat⊕((List aO)×Bool)):=(if decide ((H.bG.length:Int)=0)then(if decide (H.k=0)then vH H.aZ.name else some false).bind λ v1=>(if ((!decide (H.k=0))||(!v1))||(!(pR H.aZ.aJ))then some (.inr ([],false))else(lY (Kk H) 0).bind (λ|.inl z=>GK H z|.inr z=>some z))else(if (decide (H.k<1)||decide ((H.bG.length:Int)<H.k))||(!decide (H.aZ={aO.zero with}))then some (.inr ([],false))else(lY (D2 H) (0,[])).bind (λ|.inl z=>GL z|.inr z=>some z)))
def D3:Nat->(aS->Option (Nat⊕((List aO)×Bool)))
 |0=>λ _=>none
 |n+1=>Ac (D3 n)
def BG(H:aS):Option (Nat⊕((List aO)×Bool)):=D3 (_root_.SizeOf.sizeOf H+1) H
def bI2(F:(aS->Option (Nat⊕((List aO)×Bool))))(x0:∀(U:aS) (r:Nat),F U=some (.inl r)->MFn C 216 [.full ([].map aO.enc),ga U] [] 0 (.tup [.own 0 0 r,.bool false]) [] 1)(y0:∀(U:aS) (r:(List aO)×Bool),F U=some (.inr r)->MFn C 216 [.full ([].map aO.enc),ga U] [] 0 (.tup [la r.1,.bool r.2]) [] 0)(U:aS)(r:Nat)(h:Ac F U=some (.inl r)):MFn C 216 [.full ([].map aO.enc),ga U] [] 0 (.tup [.own 0 0 r,.bool false]) [] 1:=by
 refine oZ Tryz.f216 [] [.own 0 0 r,.bool false] λ E hG hN hK=>?_;unfold Ac at h;refine g_gh (.own0 0 3 (aO.enc aO.zero)) ?_;refine lW (lX hG ?_);refine lW (lW (lX hG ?_));refine mA rfl hG h (λ _ h=>?_) (λ _ h=>?_)
 · refine lW (lW (lX hG ?_))
   obtain⟨v1,h0,h⟩:=lZ h;refine nC (λ hg=>(Tf U.aZ.name).ok _ (uB hg h0)) ?_;refine nC (λ hg=>(SX U.aZ.aJ).ok) ?_;refine mA rfl hG h (λ _ h=>?_) (λ _ h=>?_)
   · refine lW (lX hG ?_)
     refine g_gh (.fz [0]) ?_;refine mG ?_;exact nomatch h
   refine mE ?_;refine lW (lW (lX hG ?_));refine pU (TD U) (λ v=>GK U v=some (.inl r)) ?_ ?_
   · intro j1 h
     unfold GK at h;refine g_st ?_;refine lW ?_;obtain⟨q0,h⟩:=mH h;refine lX hG ?_;refine g_gh (.fz [2]) ?_;refine mG ?_;exact nomatch h
   refine qH (TE U) hK [(0,0),(1,1)] h (λ z0 h g1 u0 O B=>?_);unfold Kk at O;refine g_st ?_;refine lW (lW (lX hG ?_));refine mA rfl hG O (λ _ O=>?_) (λ _ O=>?_)
   · refine mE ?_
     refine lW (oG (lW ?_));obtain⟨r0,O⟩:=mH O;refine zO oL hG ?_;refine mA rfl hG O (λ _ O=>?_) (λ _ O=>?_)
     · refine lW (lX hG ?_)
       refine g_gh (.fz [0]) ?_;refine mG ?_;cases O;cases B _ rfl;exact nomatch h
     refine mE ?_;refine lX hG ?_;exact oU hK [(0,0),(1,1)] O
   refine oI ?_;cases O;cases B _ rfl;exact mT hK [(0,0),(1,1)] () (by exact h)
 refine mE ?_;refine lW (lW (lX hG ?_));refine mA rfl hG h (λ _ h=>?_) (λ _ h=>?_)
 · refine lW (lX hG ?_)
   refine g_gh (.fz [0]) ?_;refine mG ?_;exact nomatch h
 refine mE ?_;refine lW (lW (lX hG ?_));refine pU TF (λ v=>GL v=some (.inl r)) ?_ ?_
 · intro j2 h
   unfold GL at h;refine g_st ?_;refine lW (lX hG ?_);refine g_gh (.fz [0]) ?_;refine mG ?_;exact nomatch h
 refine qH (TG U) hK [(0,0),(1,1)] h (λ v0 h M p0 H Y=>?_);unfold D2 at H;refine g_st ?_;refine lW (lW (lX hG ?_));refine mA rfl hG H (λ _ H=>?_) (λ _ H=>?_)
 · refine mE ?_
   refine lW (oG (lW ?_));obtain⟨s0,H⟩:=mH H;refine lX hG ?_;obtain⟨v2,hv2,H⟩:=lZ H;rcases v2 with v2|v2
   · dsimp only at H
     refine mO [(0,0)] [(1,2)] [0,1] ((Tt (U.bG.getD M.1.toNat aS.zero) M.2).ok _ hv2) rfl rfl ?_;refine lW (lW (lX hG ?_));refine AY rfl hG ?_;refine lW (lX hG ?_);refine mG ?_;cases H;cases Y _ rfl;exact mW [(0,0)] (M4 h)
   dsimp only at H;refine mO [(0,0)] [(1,2)] [0,1] ((Tu (U.bG.getD M.1.toNat aS.zero) M.2).ok _ hv2) rfl rfl ?_;refine lW (lW (lX hG ?_));refine mA rfl hG H (λ _ H=>?_) (λ _ H=>?_)
   · refine lW (lX hG ?_)
     refine mG ?_;cases H;cases Y _ rfl;exact mW [(0,0)] (M4 h)
   refine mE ?_;refine lX hG ?_;refine lX hG ?_;exact oU hK [(0,2),(1,1)] H
 refine oI ?_;cases H;cases Y _ rfl;exact mT hK [(0,0)] M.2 (by exact h)
def bI3(F:(aS->Option (Nat⊕((List aO)×Bool))))(x0:∀(U:aS) (r:Nat),F U=some (.inl r)->MFn C 216 [.full ([].map aO.enc),ga U] [] 0 (.tup [.own 0 0 r,.bool false]) [] 1)(y0:∀(U:aS) (r:(List aO)×Bool),F U=some (.inr r)->MFn C 216 [.full ([].map aO.enc),ga U] [] 0 (.tup [la r.1,.bool r.2]) [] 0)(U:aS)(r:(List aO)×Bool)(h:Ac F U=some (.inr r)):MFn C 216 [.full ([].map aO.enc),ga U] [] 0 (.tup [la r.1,.bool r.2]) [] 0:=by
 refine oZ Tryz.f216 [] [la r.1,.bool r.2] λ E hG hN hK=>?_;unfold Ac at h;refine g_gh (.own0 0 3 (aO.enc aO.zero)) ?_;refine lW (lX hG ?_);refine lW (lW (lX hG ?_));refine mA rfl hG h (λ _ h=>?_) (λ _ h=>?_)
 · refine lW (lW (lX hG ?_))
   obtain⟨v1,h0,h⟩:=lZ h;refine nC (λ hg=>(Tf U.aZ.name).ok _ (uB hg h0)) ?_;refine nC (λ hg=>(SX U.aZ.aJ).ok) ?_;refine mA rfl hG h (λ _ h=>?_) (λ _ h=>?_)
   · refine lW (lX hG ?_)
     refine g_gh (.fz [0]) ?_;refine mG ?_;exact mW [] (Df h)
   refine mE ?_;refine lW (lW (lX hG ?_));refine pU (TD U) (λ v=>GK U v=some (.inr r)) ?_ ?_
   · intro j1 h
     unfold GK at h;refine g_st ?_;refine lW ?_;obtain⟨q0,h⟩:=mH h;refine lX hG ?_;refine g_gh (.fz [2]) ?_;refine mG ?_;exact mW [] (Df h)
   refine qH (TE U) hK [(0,0),(1,1)] h (λ z0 h g1 u0 O B=>?_);unfold Kk at O;refine g_st ?_;refine lW (lW (lX hG ?_));refine mA rfl hG O (λ _ O=>?_) (λ _ O=>?_)
   · refine mE ?_
     refine lW (oG (lW ?_));obtain⟨r0,O⟩:=mH O;refine zO oL hG ?_;refine mA rfl hG O (λ _ O=>?_) (λ _ O=>?_)
     · refine lW (lX hG ?_)
       refine g_gh (.fz [0]) ?_;refine mG ?_;cases O;cases B _ rfl;exact mW [] (Df h)
     refine mE ?_;refine lX hG ?_;exact oU hK [(0,0),(1,1)] O
   refine oI ?_;cases O;cases B _ rfl;exact mT hK [(0,0),(1,1)] () (by exact h)
 refine mE ?_;refine lW (lW (lX hG ?_));refine mA rfl hG h (λ _ h=>?_) (λ _ h=>?_)
 · refine lW (lX hG ?_)
   refine g_gh (.fz [0]) ?_;refine mG ?_;exact mW [] (Df h)
 refine mE ?_;refine lW (lW (lX hG ?_));refine pU TF (λ v=>GL v=some (.inr r)) ?_ ?_
 · intro j2 h
   unfold GL at h;refine g_st ?_;refine lW (lX hG ?_);refine g_gh (.fz [0]) ?_;refine mG ?_;exact mW [] (Df h)
 refine qH (TG U) hK [(0,0),(1,1)] h (λ v0 h M p0 H Y=>?_);unfold D2 at H;refine g_st ?_;refine lW (lW (lX hG ?_));refine mA rfl hG H (λ _ H=>?_) (λ _ H=>?_)
 · refine mE ?_
   refine lW (oG (lW ?_));obtain⟨s0,H⟩:=mH H;refine lX hG ?_;obtain⟨v2,hv2,H⟩:=lZ H;rcases v2 with v2|v2
   · dsimp only at H
     refine mO [(0,0)] [(1,2)] [0,1] ((Tt (U.bG.getD M.1.toNat aS.zero) M.2).ok _ hv2) rfl rfl ?_;refine lW (lW (lX hG ?_));refine AY rfl hG ?_;refine lW (lX hG ?_);refine mG ?_;cases H;cases Y _ rfl;exact nomatch h
   dsimp only at H;refine mO [(0,0)] [(1,2)] [0,1] ((Tu (U.bG.getD M.1.toNat aS.zero) M.2).ok _ hv2) rfl rfl ?_;refine lW (lW (lX hG ?_));refine mA rfl hG H (λ _ H=>?_) (λ _ H=>?_)
   · refine lW (lX hG ?_)
     refine mG ?_;cases H;cases Y _ rfl;exact nomatch h
   refine mE ?_;refine lX hG ?_;refine lX hG ?_;exact oU hK [(0,2),(1,1)] H
 refine oI ?_;cases H;cases Y _ rfl;exact mT hK [(0,0)] M.2 (by exact h)
def D4:∀(n:Nat),(∀(H:aS) (r:Nat),D3 n H=some (.inl r)->MFn C 216 [.full ([].map aO.enc),ga H] [] 0 (.tup [.own 0 0 r,.bool false]) [] 1)/\(∀(H:aS) (r:(List aO)×Bool),D3 n H=some (.inr r)->MFn C 216 [.full ([].map aO.enc),ga H] [] 0 (.tup [la r.1,.bool r.2]) [] 0)
 |0=>⟨(λ _ _ h=>nomatch h),(λ _ _ h=>nomatch h)⟩
 |n+1=>⟨bI2 (D3 n) (D4 n).1 (D4 n).2,bI3 (D3 n) (D4 n).1 (D4 n).2⟩
def bI5(H:aS)(r:Nat)(h:BG H=some (.inl r)):MFn C 216 [.full ([].map aO.enc),ga H] [] 0 (.tup [.own 0 0 r,.bool false]) [] 1:=(D4 _).1 H r h
def bI6(H:aS)(r:(List aO)×Bool)(h:BG H=some (.inr r)):MFn C 216 [.full ([].map aO.enc),ga H] [] 0 (.tup [la r.1,.bool r.2]) [] 0:=(D4 _).2 H r h
def D5(H:bA)(O:Int):Option (bA×Int):=(uN H).bind λ v1=>(if !v1 then some ({bA.zero with},2)else(if decide (O<1)||decide (99<O)then some ({bA.zero with},1)else(zX H.bH O).bind λ v2=>(if decide (0<=v2)then some ({bA.zero with},11)else(if decide ((H.bH.length:Int)=4)then some ({bA.zero with},4)else gd (H.aQ.length<=4294967296)<|gd (H.bH.length<=4294967296)<|gd (H.bH.length+1<=4294967296)<|some ((⟨H.aQ,H.bH++[(⟨O,(H.aQ.length:Int)⟩:bW)]⟩:bA),0)))))
instance bI7(H:bA)(O:Int):OkP (D5 H O) 193 [ga H,.int i64 O] (λ r=>.tup [ga r.1,.int i64 r.2]):=ok1 (D5.eq_1 H O) Tryz.f193 [(28,1),(32,1),(43,2)]
def ND(j1:(List aO)):Option (Bool×(List aO)):=some (true,j1)
@[go_sem] def bI9(j1:(List aO)):St:=⟨[],[(0,⟨false,1,[A.sl ([].map aO.enc)],[[.own 2 0 j1.length]]⟩),(2,sx j1)],3⟩
def GM(O:(aS->List aO->Option (Bool×(List aO))))(U:aS)(H:Int×(List aO)):Option ((Int×(List aO))⊕((List aO)⊕(Bool×(List aO)))):=(if decide (H.1<U.bG.length)then gd (0<=H.1/\H.1<U.bG.length)<|(O (U.bG.getD H.1.toNat aS.zero) H.2).bind λ v3=>(if !v3.1 then some (.inr (.inr (false,v3.2)))else some (.inl (i64.wrap (H.1+1),v3.2)))else some (.inr (.inl H.2)))
@[go_sem] def bIa(O:aS)(H:Int×(List aO)):St:=⟨[(1,.ptr 0 0 0),(44,la O.bG),(45,.int i64 O.bG.length),(46,.int i64 H.1)],[(0,⟨false,1,[A.sl ([].map aO.enc)],[[.own 2 0 H.2.length]]⟩),(2,sx H.2)],3⟩
def GN(U:(aS->List aO->Option (Bool×(List aO))))(H:aS)(O:List aO):Option (Bool×(List aO)):=(if decide ((H.bG.length:Int)=0)then(if decide (H.k=0)then Bx H.aZ else some false).bind λ v1=>(if decide (H.k=0)&&v1 then(A1 H.aZ O).bind λ v2=>some ((decide (H.k=0)&&v1)&&decide (v2.1=0),v2.2)else some ((decide (H.k=0)&&v1)&&decide (0=0),O))else(if (decide (H.k<1)||decide ((H.bG.length:Int)<H.k))||(!decide (H.aZ={aO.zero with}))then some (false,O)else(lY (GM U H) (0,O)).bind (λ|.inl z=>ND z|.inr z=>some z)))
def yA:Nat->(aS->List aO->Option (Bool×(List aO)))
 |0=>λ _ _=>none
 |n+1=>GN (yA n)
def Kl(H:aS)(O:List aO):Option (Bool×(List aO)):=yA (_root_.SizeOf.sizeOf H+1) H O
def bIb(B:(aS->List aO->Option (Bool×(List aO))))(hrc:∀(U:aS) (Y:List aO) (r:Bool×(List aO)),B U Y=some r->MFn C 222 [ga U,.ptr 0 0 0] [(0,⟨false,1,[A.sl ([].map aO.enc)],[[.own 1 0 Y.length]]⟩),(1,sx Y)] 2 (.bool r.1) [(0,⟨false,1,[A.sl ([].map aO.enc)],[[.own 2 0 r.2.length]]⟩),(2,sx r.2)] 3)(U:aS)(Y:List aO)(r:Bool×(List aO))(h:GN B U Y=some r):MFn C 222 [ga U,.ptr 0 0 0] [(0,⟨false,1,[A.sl ([].map aO.enc)],[[.own 1 0 Y.length]]⟩),(1,sx Y)] 2 (.bool r.1) [(0,⟨false,1,[A.sl ([].map aO.enc)],[[.own 2 0 r.2.length]]⟩),(2,sx r.2)] 3:=by
 refine oZ Tryz.f222 [] [.bool r.1] λ E hG hN hK=>?_;unfold GN at h;refine lW (lX hG ?_);refine lW (lW (lX hG ?_));refine mA rfl hG h (λ _ h=>?_) (λ _ h=>?_)
 · refine lW (lX hG ?_)
   obtain⟨v1,F,h⟩:=lZ h;refine nC (λ hg=>(bE5 U.aZ).ok _ (uB hg F)) ?_;refine RT h (λ M h=>?_) (λ M h=>?_)
   · obtain⟨v2,hv2,h⟩:=lZ h
     refine RU M [(0,0),(1,1)] [(2,3)] [0,1,2] ((aRr U.aZ Y).ok _ hv2) rfl rfl ?_;refine mG ?_;exact mW [(0,0),(2,3)] h
   refine RW M (.int i64 0) ?_;refine mG ?_;exact mW [(0,0),(2,1)] h
 refine mE ?_;refine lW (lW (lX hG ?_));refine mA rfl hG h (λ _ h=>?_) (λ _ h=>?_)
 · refine lW (lX hG ?_)
   refine mG ?_;exact mW [(0,0),(2,1)] h
 refine mE ?_;refine lW (lW (lX hG ?_));refine pU bI9 (λ v=>ND v=some r) ?_ ?_
 · intro j1 h
   unfold ND at h;refine g_st ?_;refine lW (lX hG ?_);refine mG ?_;exact mW [(0,0),(2,2)] h
 refine qH (bIa U) hK [(0,0),(2,1)] h (λ h0 h g1 x0 H O=>?_);unfold GM at H;refine g_st ?_;refine lW (lX hG ?_);refine lW ?_;refine mA rfl hG H (λ _ H=>?_) (λ _ H=>?_)
 · refine mE ?_
   refine lW (oG (lW ?_));obtain⟨y0,H⟩:=mH H;refine lX hG ?_;refine lW (lX hG ?_);obtain⟨v3,hv3,H⟩:=lZ H;refine mO [(0,0),(1,2)] [(2,4)] [0,1,2] (hrc (U.bG.getD g1.1.toNat aS.zero) g1.2 _ hv3) rfl rfl ?_;refine mA rfl hG H (λ _ H=>?_) (λ _ H=>?_)
   · refine lW (lX hG ?_)
     refine mG ?_;cases H;cases O _ rfl;exact mW [(0,0),(2,4)] h
   refine mE ?_;refine lX hG ?_;exact oU hK [(0,0),(2,4)] H
 refine oI ?_;cases H;cases O _ rfl;exact mT hK [(0,0),(2,2)] g1.2 (by exact h)
def TH:∀(n:Nat) (O:aS) (H:List aO) (r:Bool×(List aO)),yA n O H=some r->MFn C 222 [ga O,.ptr 0 0 0] [(0,⟨false,1,[A.sl ([].map aO.enc)],[[.own 1 0 H.length]]⟩),(1,sx H)] 2 (.bool r.1) [(0,⟨false,1,[A.sl ([].map aO.enc)],[[.own 2 0 r.2.length]]⟩),(2,sx r.2)] 3
 |0,_,_,_,h=>nomatch h
 |n+1,O,H,r,h=>bIb (yA n) (TH n) O H r h
instance bId(O:aS)(H:List aO):OkM (Kl O H) 222 [ga O,.ptr 0 0 0] [(0,⟨false,1,[A.sl ([].map aO.enc)],[[.own 1 0 H.length]]⟩),(1,sx H)] 2 (λ r=>.bool r.1) (λ r=>[(0,⟨false,1,[A.sl ([].map aO.enc)],[[.own 2 0 r.2.length]]⟩),(2,sx r.2)]) 3:=⟨λ r h=>TH _ O H r h⟩
def NE(j1:(List aK)):Option (List aK):=some j1
def GO(v1:(List aV))(H:Int×(List aK)):Option ((Int×(List aK))⊕(List aK)):=(if decide (H.1<v1.length)then gd (0<=H.1/\H.1<v1.length)<|gd (H.2.length+1<=4294967296)<|some (.inl (i64.wrap (H.1+1),H.2++[(v1.getD H.1.toNat aV.zero).aM]))else some (.inr H.2))
def BH(H:aA):Option (List aK):=(DL H).bind λ v1=>(lY (GO v1) (0,[])).bind (λ z=>NE z)
@[reducible,instance]def bIg a0:=mkJ (BH a0,v1) 0 (@NE.eq_1) λ j1=>⟨[(3,.own 0 0 j1.length)],[(0,sx j1)],1⟩
@[reducible,instance]def bIh (v1:(List aV)):=mkL x (@GO.eq_1 v1) λ H=>⟨[(3,.own 0 0 H.2.length),(7,la v1),(8,.int i64 v1.length),(9,.int i64 H.1)],[(0,sx H.2)],1⟩
instance bIi(H:aA):OkP (BH H) 276 [ga H] la:=ok1 (BH.eq_1 H) Tryz.f276 [(3,1)]
def NF(j1:(List Int)):Option (List Int):=some j1
def GP(O:aP)(H:Int×(List Int)):Option ((Int×(List Int))⊕(List Int)):=(if decide (H.1<O.lower.length)then gd (0<=H.1/\H.1<O.lower.length)<|(Bn H.2 (O.lower.getD H.1.toNat aO.zero).name).bind λ U=>(pH U (u64.wrap ((O.lower.getD H.1.toNat aO.zero).aJ).mode)).bind λ Y=>(pH Y (u64.wrap ((O.lower.getD H.1.toNat aO.zero).aJ).aU)).bind λ B=>some (.inl (i64.wrap (H.1+1),B))else some (.inr H.2))
def BI(O:List Int)(H:aP):Option (List Int):=(Dq O).bind λ v1=>(a8 H).bind λ v2=>(if !v2 then some v1 else(y5 v1 H.aM).bind λ v3=>(pH v3 (u64.wrap (i64.wrap (H.label+1)))).bind λ v4=>(pH v4 (u64.wrap H.cost)).bind λ v5=>(pH v5 (u64.wrap (H.lower.length:Int))).bind λ v6=>(lY (GP H) (0,v6)).bind (λ z=>NF z))
@[reducible,instance]def bIl a0 a1:=mkJ ((((((BI a0 a1,v1),v2),v3),v4),v5),v6) 0 (@NF.eq_1) λ j1=>⟨[(0,.own 0 0 j1.length)],[(0,⟨false,1,[A.int u8 0],j1.map (eI u8)⟩)],1⟩
@[reducible,instance]def bIm (H:aP):=mkL x (@GP.eq_1 H) λ O=>⟨[(0,.own 0 0 O.2.length),(35,la H.lower),(36,.int i64 H.lower.length),(37,.int i64 O.1)],[(0,⟨false,1,[A.int u8 0],O.2.map (eI u8)⟩)],1⟩
instance bIn(H:List Int)(O:aP):OkM (BI H O) 105 [.sl (H.map (eI u8)),ga O] [] 0 (λ r=>.own 0 0 r.length) (λ r=>[(0,⟨false,1,[A.int u8 0],r.map (eI u8)⟩)]) 1:=okm (BI.eq_1 H O) (λ r=>[.own 0 0 r.length]) Tryz.f105 [(4,1),(16,1),(44,1)]
def Ad(H:aR):Option (aO×aR):=(if !decide (H.err=0)then some ({aO.zero with},H)else(wI H.b).bind λ v1=>(if !decide (v1.2.2=0)then some ({aO.zero with},{H with err:=v1.2.2})else gd (0<=v1.2.1/\v1.2.1<=(H.b.length:Int)/\(H.b.length:Int)<=(H.b.length:Int))<|(sS ({H with b:=(H.b.drop v1.2.1.toNat)})).bind λ v2=>(sS v2.2).bind λ v3=>some ((⟨v1.1,(⟨v2.1,v3.1⟩:aC)⟩:aO),v3.2)))
instance bIo(H:aR):OkM (Ad H) 72 [.ptr 0 0 0] [(0,bx H)] 1 (λ r=>ga r.1) (λ r=>[(0,bx r.2)]) 1:=okm (Ad.eq_1 H) (λ r=>[ga r.1]) Tryz.f72 []
def d6(H:bE):Option (aC×bE):=(tA H).bind λ v1=>(tA v1.2).bind λ v2=>some ((⟨v1.1,v2.1⟩:aC),v2.2)
instance bIp(H:bE):OkM (d6 H) 219 [.ptr 0 0 0] [(0,bx H)] 1 (λ r=>ga r.1) (λ r=>[(0,bx r.2)]) 1:=okm (d6.eq_1 H) (λ r=>[ga r.1]) Tryz.f219 []
def TJ(j1:Unit):Option Bool:=some true
def NG(H:Int×Int)(O:Unit):Option ((Int×Int)⊕(Unit⊕Bool)):=some (.inl (H.1,i64.wrap (H.2+1)))
def D6(H:List aC)(O:Int×Int)(U:Int):Option (Int⊕(Unit⊕Bool)):=(if decide (U<O.2)then gd (0<=O.2/\O.2<H.length)<|gd ((!(nX (H.getD O.2.toNat aC.zero)))=true->0<=U/\U<H.length)<|gd (((!(nX (H.getD O.2.toNat aC.zero)))&&(!(nX (H.getD U.toNat aC.zero))))=true->0<=O.2/\O.2<H.length)<|gd (((!(nX (H.getD O.2.toNat aC.zero)))&&(!(nX (H.getD U.toNat aC.zero))))=true->0<=U/\U<H.length)<|(if ((!(nX (H.getD O.2.toNat aC.zero)))&&(!(nX (H.getD U.toNat aC.zero))))&&(!(Dy (H.getD O.2.toNat aC.zero).mode (H.getD U.toNat aC.zero).mode))then some (.inr (.inr false))else some (.inl (i64.wrap (U+1))))else some (.inr (.inl ())))
def BJ(U:aI)(O:List aC)(H:Int×Int):Option ((Int×Int)⊕(Unit⊕Bool)):=(if decide (H.2<O.length)then gd (0<=H.2/\H.2<O.length)<|(if !(uL U (O.getD H.2.toNat aC.zero))then some (.inr (.inr false))else(if decide (U.kind=2)then gd (0<=H.2/\H.2<O.length)<|(if decide (U.aU<i64.wrap (H.1+(O.getD H.2.toNat aC.zero).aU))then some (.inr (.inr false))else some (.inl (i64.wrap (H.1+(O.getD H.2.toNat aC.zero).aU),i64.wrap (H.2+1))))else(lY (D6 O H) 0).bind (λ|.inl z=>NG H z|.inr z=>some (.inr (.inr z)))))else some (.inr (.inl ())))
def BK(H:aI)(O:List aC):Option Bool:=(if !(zU H)then some false else(lY (BJ H O) (0,0)).bind (λ|.inl z=>TJ z|.inr z=>some z))
@[reducible,instance]def bIs a0 a1:=mkJ (BK a0 a1) 0 (@TJ.eq_1) λ j1=>⟨[],[],0⟩
@[reducible,instance]def bIt (O:aI) (U:List aC) (H:Int×Int):=mkJ (BJ O U H) 2 (@NG.eq_1 H) λ Y=>⟨[(1,la U),(2,.ptr 0 0 0),(5,.int i64 H.1),(6,.int i64 H.2)],[(0,bx O)],1⟩
@[reducible,instance]def bIu (U:aI) (O:List aC) (H:Int×Int):=mkL (BJ U O H) (@D6.eq_1 O H) λ Y=>⟨[(1,la O),(2,.ptr 0 0 0),(5,.int i64 H.1),(6,.int i64 H.2),(7,.int i64 Y)],[(0,bx U)],1⟩
@[reducible,instance]def bIv (H:aI) (O:List aC):=mkL x (@BJ.eq_1 H O) λ U=>⟨[(1,la O),(2,.ptr 0 0 0),(5,.int i64 U.1),(6,.int i64 U.2)],[(0,bx H)],1⟩
instance bIw(H:aI)(O:List aC):OkP (BK H O) 265 [ga H,la O] .bool:=ok1 (BK.eq_1 H O) Tryz.f265 []
end
end Ab
end Go.Proofs.YtfmnjkfhahfhgaaGreatDoor
