import Derived.Test.YtfmnjkfhahfhgaaGreatDoorHm14
import Derived.Test.YtfmnjkfhahfhgaaGreatDoorHm16
import Derived.Test.YtfmnjkfhahfhgaaGreatDoorHm18
namespace Go.Proofs.YtfmnjkfhahfhgaaGreatDoor
namespace Ab
set_option linter.defProp false
open IntKind (i64 u64 u8)
set_option linter.unusedSimpArgs false
set_option linter.unusedVariables false
set_option maxRecDepth 100000
set_option maxHeartbeats 1000000
noncomputable section
variable {T T1 : Type} (x : T) (v1 : T1)
def SN(j1:Unit):Option Bool:=some true
def Do(H:aA)(O:Int):Option (Int⊕(Unit⊕Bool)):=(if decide (O<H.aN.length)then gd (0<=O/\O<H.aN.length)<|(AE H (H.aN.getD O.toNat aV.zero).aL).bind λ v1=>(yG H.aN (H.aN.getD O.toNat aV.zero).aL).bind λ v2=>(if (!decide (v2=O))||oG v1 then some (.inr (.inr false))else(if mE H.aB ((H.aN.getD O.toNat aV.zero).aJ)then C6 H.aB (H.aN.getD O.toNat aV.zero).aJ v1 else some false).bind λ v3=>(if ((!(mE H.aB (H.aN.getD O.toNat aV.zero).aJ))||(!v3))||decide ((H.aN.getD O.toNat aV.zero).aJ=v1)then some (.inr (.inr false))else(if (!decide ((H.aN.getD O.toNat aV.zero).bD=0))||(!decide ((H.aN.getD O.toNat aV.zero).bS=0))then some (.inr (.inr false))else some (.inl (i64.wrap (O+1))))))else some (.inr (.inl ())))
def Bc(H:aA):Option Bool:=(if decide (8<(H.aN.length:Int))then some false else(lS (Do H) 0).bind (λ|.inl z=>SN z|.inr z=>some z))
@[reducible,instance]def bKk a0:=mkJ (Bc a0) 0 (@SN.eq_1) λ j1=>⟨[],[],0⟩
@[reducible,instance]def bKl (H:aA):=mkL x (@Do.eq_1 H) λ O=>⟨[(1,.ptr 0 0 0),(11,la H.aN),(12,.int i64 H.aN.length),(13,.int i64 O)],[(0,bx H)],1⟩
instance bKm(H:aA):OkP (Bc H) 270 [ga H] .bool:=ok1 (Bc.eq_1 H) Tryz.f270 []
def zB(H:List aK):Option (List aK):=gd (H.length<=4294967296)<|(Da H).bind λ v1=>(j9 v1).bind λ v2=>some v2.1
def bKn(O:List aK)(r:(List aK))(h:zB O=some r):PFn C 225 [la O] (la r):=by refine oC Tryz.f225 [] λ E hG B hK=>?_;unfold zB at h;refine lQ (lR hG ?_);refine lQ ?_;obtain⟨Y,h⟩:=lZ h;refine lR hG ?_;refine lQ (lR hG ?_);obtain⟨v1,H,h⟩:=lT h;have U:=bGu O _ H;refine mH [(0,0)] [] [0] (bGv _ _ H) rfl rfl ?_;refine lQ (lR hG ?_);obtain⟨v2,hv2,h⟩:=lT h;refine mH [(0,0)] [] [0] ((ZD v1).ok _ hv2) rfl rfl ?_;refine lX ?_;exact nF h
instance bKo(H:List aK):OkP (zB H) 225 [la H] la:=⟨bKn H⟩
def MO(H:aH)(O:List aX)(j1:Unit):Option Bool:=(An O).bind λ v1=>(A4 H v1).bind λ v2=>some v2
def F7(U:aH)(O:List aX)(H:Int):Option (Int⊕(Unit⊕Bool)):=(if decide (H<O.length)then gd (0<=H/\H<O.length)<|gd (oU (O.getD H.toNat aX.zero).aL=true->0<=H/\H<O.length)<|gd (((!((!(oU (O.getD H.toNat aX.zero).aL))||(!(qF U (O.getD H.toNat aX.zero).aJ))))&&decide (0<H))=true->0<=i64.wrap (H-1)/\i64.wrap (H-1)<(O.length:Int))<|gd (((!((!(oU (O.getD H.toNat aX.zero).aL))||(!(qF U (O.getD H.toNat aX.zero).aJ))))&&decide (0<H))=true->0<=H/\H<O.length)<|(if ((!(oU (O.getD H.toNat aX.zero).aL))||(!(qF U (O.getD H.toNat aX.zero).aJ)))||(decide (0<H)&&decide (0<=uH (O.getD (i64.wrap (H-1)).toNat aX.zero).aL (O.getD H.toNat aX.zero).aL))then some (.inr (.inr false))else some (.inl (i64.wrap (H+1))))else some (.inr (.inl ())))
def zC(H:aH)(O:List aX):Option Bool:=(if (!(yI H))||decide (8<(O.length:Int))then some false else(lS (F7 H O) 0).bind (λ|.inl z=>MO H O z|.inr z=>some z))
@[reducible,instance]def bKr (H:aH) (O:List aX):=mkJ (zC H O) 0 (@MO.eq_1 H O) λ j1=>⟨[(1,la O),(2,.ptr 0 0 0)],[(0,bx H)],1⟩
@[reducible,instance]def bKs (H:aH) (O:List aX):=mkL x (@F7.eq_1 H O) λ U=>⟨[(1,la O),(2,.ptr 0 0 0),(5,.int i64 U)],[(0,bx H)],1⟩
instance bKt(H:aH)(O:List aX):OkP (zC H O) 246 [ga H,la O] .bool:=ok1 (zC.eq_1 H O) Tryz.f246 []
def MP(H j1:aZ):Option (aZ×Bool):=(if decide (((j1.aP.length:Nat):Int)=(H.aP.length:Int))then some ({aZ.zero with},false)else some (j1,true))
def MQ(H:Int×aZ)(O:aZ):Option ((Int×aZ)⊕aZ):=some (.inl (i64.wrap (H.1+1),O))
def F8(O:aZ)(U H:Int×aZ):Option ((Int×aZ)⊕aZ):=(if decide (H.1<((H.2.bH.length:Nat):Int))then gd (0<=H.1/\H.1<O.bH.length)<|(if decide (U.1<(O.bH.getD H.1.toNat bV.zero).at_)then gd (0<=H.1/\H.1<((H.2.bH.length:Nat):Int))<|gd (0<=H.1/\H.1<((H.2.bH.length:Nat):Int))<|some (.inl (i64.wrap (H.1+1),(⟨H.2.aP,H.2.bH.set H.1.toNat ({(H.2.bH.getD H.1.toNat bV.zero)with at_:=(i64.wrap ((H.2.bH.getD H.1.toNat bV.zero).at_-1))})⟩:aZ)))else some (.inl (i64.wrap (H.1+1),H.2)))else some (.inr H.2))
def Dp(O:aZ)(U:ByteArray)(H:Int×aZ):Option ((Int×aZ)⊕aZ):=(if decide (H.1<O.aP.length)then gd (0<=H.1/\H.1<O.aP.length)<|(if !(((O.aP.getD H.1.toNat bM.zero).name).toList==U.toList)then gd (0<=H.1/\H.1<O.aP.length)<|gd (H.2.aP.length+1<=4294967296)<|some (.inl (i64.wrap (H.1+1),(⟨H.2.aP++[O.aP.getD H.1.toNat bM.zero],H.2.bH⟩:aZ)))else(lS (F8 O H) (0,H.2)).bind (λ z=>MQ H z))else some (.inr H.2))
def p8(H:aZ)(O:ByteArray):Option (aZ×Bool):=(tO H).bind λ v1=>(if !v1 then some ({aZ.zero with},false)else gd (H.bH.length<=4294967296)<|(lS (Dp H O) (0,(⟨[],H.bH⟩:aZ))).bind (λ z=>MP H z))
@[reducible,instance]def bKy (H:aZ) (O:ByteArray):=mkJ (p8 H O,v1) 0 (@MP.eq_1 H) λ j1=>⟨[(2,.ptr 0 0 0),(4,.ptr 1 0 0),(6,.ptr 2 0 0)],[(0,bx H),(1,bx aZ.zero),(2,⟨false,2,aZ.enc aZ.zero,[[.own 3 0 j1.aP.length,.own 4 0 j1.bH.length]]⟩),(3,sx j1.aP),(4,sx j1.bH)],5⟩
@[reducible,instance]def bKz (U:aZ) (Y:ByteArray) (O:Int×aZ):=mkJ (Dp U Y O) 2 (@MQ.eq_1 O) λ H=>⟨[(1,.str Y),(2,.ptr 0 0 0),(4,.ptr 1 0 0),(6,.ptr 2 0 0),(7,.int i64 O.1)],[(0,bx U),(1,bx aZ.zero),(2,⟨false,2,aZ.enc aZ.zero,[[.own 3 0 H.aP.length,.own 4 0 H.bH.length]]⟩),(3,sx H.aP),(4,sx H.bH)],5⟩
@[reducible,instance]def bL0 (O:aZ) (Y:ByteArray) (U:Int×aZ):=mkL (Dp O Y U) (@F8.eq_1 O U) λ H=>⟨[(1,.str Y),(2,.ptr 0 0 0),(4,.ptr 1 0 0),(6,.ptr 2 0 0),(7,.int i64 U.1),(8,.int i64 H.1)],[(0,bx O),(1,bx aZ.zero),(2,⟨false,2,aZ.enc aZ.zero,[[.own 3 0 H.2.aP.length,.own 4 0 H.2.bH.length]]⟩),(3,sx H.2.aP),(4,sx H.2.bH)],5⟩
@[reducible,instance]def bL1 (O:aZ) (U:ByteArray):=mkL x (@Dp.eq_1 O U) λ H=>⟨[(1,.str U),(2,.ptr 0 0 0),(4,.ptr 1 0 0),(6,.ptr 2 0 0),(7,.int i64 H.1)],[(0,bx O),(1,bx aZ.zero),(2,⟨false,2,aZ.enc aZ.zero,[[.own 3 0 H.2.aP.length,.own 4 0 H.2.bH.length]]⟩),(3,sx H.2.aP),(4,sx H.2.bH)],5⟩
instance bL2(H:aZ)(O:ByteArray):OkP (p8 H O) 237 [ga H,.str O] (λ r=>.tup [ga r.1,.bool r.2]):=⟨λ r h=>by
 refine oC Tryz.f237 [(13,1),(17,5),(6,5)] λ E hG B hK=>?_;have hm:Mk (p8 H O):=trivial;unfold p8 at h;refine lQ (lR hG ?_);refine lQ (lQ (lR hG ?_));obtain⟨v1,U,h⟩:=lT h;have hm:=mkP hm v1;refine mW (λ hg=>(Sl H).ok _ U) ?_;refine lU rfl hG h (λ _ h=>?_) (λ _ h=>?_)
 .exact gogo
 refine lW ?_;refine lQ ?_;obtain⟨Y,h⟩:=lZ h;refine lR hG ?_;refine g_gh (.ownb 4 0 5 (bM.enc bM.zero)) ?_;exact gogo⟩
def MR(H:aZ)(j1:Int×Int)(O:(List aO)):Option (aZ×(List aO)×Int):=some ((⟨H.aP.take j1.1.toNat,H.bH.take j1.2.toNat⟩:aZ),O,0)
@[go_sem] def bL4(H:aZ)(j1:Int×Int)(O:(List aO)):St:=⟨[(4,.ptr 0 0 0),(10,.ptr 1 0 0),(11,.own 2 0 O.length)],[(0,bx aZ.zero),(1,⟨false,2,aZ.enc aZ.zero,[[.own 3 0 ((⟨(H.aP.take j1.1.toNat),H.bH.take j1.2.toNat⟩:aZ).aP).length,.own 4 0 ((⟨(H.aP.take j1.1.toNat),H.bH.take j1.2.toNat⟩:aZ).bH).length]]⟩),(2,sx O),(3,sx (⟨(H.aP.take j1.1.toNat),H.bH.take j1.2.toNat⟩:aZ).aP),(4,sx (⟨(H.aP.take j1.1.toNat),H.bH.take j1.2.toNat⟩:aZ).bH)],5⟩
def F9(O:aZ)(j1:Int×Int)(v2:(List ByteArray))(H:Int×(List aO)):Option ((Int×(List aO))⊕(List aO)):=(if decide (H.1<v2.length)then gd (0<=H.1/\H.1<v2.length)<|gd (0<=H.1/\H.1<v2.length)<|(sP (⟨O.aP.take j1.1.toNat,O.bH.take j1.2.toNat⟩:aZ).aP (v2.getD H.1.toNat ⟨#[]⟩)).bind λ v3=>gd (H.2.length+1<=4294967296)<|some (.inl (i64.wrap (H.1+1),H.2++[(⟨v2.getD H.1.toNat ⟨#[]⟩,v3⟩:aO)]))else some (.inr H.2))
@[go_sem] def bL6(H:aZ)(j1:Int×Int)(v2:(List ByteArray))(O:Int×(List aO)):St:=⟨[(4,.ptr 0 0 0),(10,.ptr 1 0 0),(11,.own 2 0 O.2.length),(12,.sl (v2.map eS)),(13,.int i64 O.1)],[(0,bx aZ.zero),(1,⟨false,2,aZ.enc aZ.zero,[[.own 3 0 ((⟨(H.aP.take j1.1.toNat),H.bH.take j1.2.toNat⟩:aZ).aP).length,.own 4 0 ((⟨(H.aP.take j1.1.toNat),H.bH.take j1.2.toNat⟩:aZ).bH).length]]⟩),(2,sx O.2),(3,sx (⟨(H.aP.take j1.1.toNat),H.bH.take j1.2.toNat⟩:aZ).aP),(4,sx (⟨(H.aP.take j1.1.toNat),H.bH.take j1.2.toNat⟩:aZ).bH)],5⟩
def Dq(H:aZ)(j1:Int×Int):Option (aZ×(List aO)×Int):=gd (0<=0/\0<=j1.1/\j1.1<=H.aP.length)<|gd ((H.aP.take j1.1.toNat).length<=4294967296)<|gd (0<=0/\0<=j1.2/\j1.2<=H.bH.length)<|gd ((H.bH.take j1.2.toNat).length<=4294967296)<|gd (0<=j1.1/\j1.1<=(H.aP.length:Int)/\(H.aP.length:Int)<=(H.aP.length:Int))<|(wP (H.aP.drop j1.1.toNat)).bind λ v2=>(lS (F9 H j1 v2) (0,[])).bind (λ z=>MR H j1 z)
@[go_sem] def bL8(H:aZ)(j1:Int×Int):St:=⟨[(2,.ptr 0 0 0),(4,.ptr 1 0 0),(7,.int i64 j1.1),(8,.int i64 j1.2)],[(0,bx H),(1,bx aZ.zero)],2⟩
def zD(H:aZ)(O:Int):Option (aZ×(List aO)×Int):=(tO H).bind λ v1=>(if !v1 then some ({aZ.zero with},[],2)else(if !decide (O=0)then(yL H.bH O).bind λ v4=>(if decide (v4<0)then some ({aZ.zero with},[],10)else gd (0<=v4/\v4<H.bH.length)<|Dq H ((H.bH.getD v4.toNat bV.zero).at_,i64.wrap (v4+1)))else Dq H (0,0)))
def SO(O:aZ)(Y:Int)(r:aZ×(List aO)×Int)(h:zD O Y=some r):PFn C 100 [ga O,.int i64 Y] (.tup [ga r.1,la r.2.1,.int i64 r.2.2]):=by
 refine oC Tryz.f100 [(35,1),(41,1),(47,2),(11,1)] λ E hG hN hK=>?_;unfold zD at h;refine lQ (lR hG ?_);refine lQ (lQ (lR hG ?_));obtain⟨v1,B,h⟩:=lT h;refine mW (λ hg=>(Sl O).ok _ B) ?_;refine lU rfl hG h (λ _ h=>?_) (λ _ h=>?_)
 · refine lQ (lR hG ?_)
   refine lX ?_;exact nF h
 refine lW ?_;refine lQ (lR hG ?_);refine lQ (lQ (lR hG ?_));refine rB (bL8 O) (λ v=>Dq O v=some r) rfl hG h ?_ (λ _ h=>?_) (λ _ h=>?_)
 · intro j1 h
   unfold Dq at h;refine g_st ?_;refine lQ ?_;obtain⟨x0,h⟩:=lZ h;obtain⟨y0,h⟩:=lZ h;obtain⟨z0,h⟩:=lZ h;obtain⟨u0,h⟩:=lZ h;refine pT oB hG ?_;refine lQ (lR hG ?_);refine lQ ?_;obtain⟨v0,h⟩:=lZ h;refine lR hG ?_;obtain⟨v2,hv2,h⟩:=lT h;refine mW (λ hg=>(Z8 (O.aP.drop j1.1.toNat)).ok _ hv2) ?_;refine lQ (lQ (lR hG ?_));refine pL (bL4 O j1) (λ v=>MR O j1 v=some r) ?_ ?_
   · intro j2 h
     unfold MR at h;refine g_st ?_;refine lQ (lR hG ?_);refine lX ?_;exact nF h
   refine pX (bL6 O j1 v2) hK [(0,1),(1,6),(2,7),(3,3),(4,5)] h (λ F h M h0 H U=>?_);unfold F9 at H;refine g_st ?_;refine lQ (lQ (lR hG ?_));refine lU rfl hG H (λ _ H=>?_) (λ _ H=>?_)
   · refine lW ?_
     refine lQ (nV ?_);obtain⟨p0,H⟩:=lZ H;obtain⟨q0,H⟩:=lZ H;refine pT oB hG ?_;obtain⟨v3,hv3,H⟩:=lT H;obtain⟨r0,H⟩:=lZ H;refine rN (λ hg=>(ZH (⟨(O.aP.take j1.1.toNat),O.bH.take j1.2.toNat⟩:aZ).aP (v2.getD M.1.toNat ⟨#[]⟩)).ok _ hv3) ?_;refine lR hG ?_;exact oL hK [(0,0),(1,1),(2,5),(3,3),(4,4)] H
   refine nX ?_;cases H;cases U _ rfl;exact mM hK [(0,0),(1,1),(2,2),(3,3),(4,4)] M.2 (by exact h)
 · refine lQ (lR hG ?_)
   obtain⟨v4,hv4,h⟩:=lT h;refine mW (λ hg=>(Z9 O.bH Y).ok _ hv4) ?_;refine lQ (lQ (lR hG ?_));refine lU rfl hG h (λ _ h=>?_) (λ _ h=>?_)
   · refine lQ (lR hG ?_)
     refine lX ?_;exact nF h
   refine lW ?_;obtain⟨s0,h⟩:=lZ h;refine lR hG ?_;exact mM hK [(0,0),(1,1)] ((O.bH.getD v4.toNat bV.zero).at_,i64.wrap (v4+1)) (by exact h)
 refine lW ?_;exact mM hK [(0,0),(1,1)] (0,0) (by exact h)
instance bLa(H:aZ)(O:Int):OkP (zD H O) 100 [ga H,.int i64 O] (λ r=>.tup [ga r.1,la r.2.1,.int i64 r.2.2]):=⟨SO H O⟩
def SP(j1:(List aK)):Option (List aK):=(FL j1).bind λ v1=>some v1
def SQ(O:List aA)(H:Int×(List aK)):Option ((Int×(List aK))⊕(List aK)):=(if decide (H.1<O.length)then gd (0<=H.1/\H.1<O.length)<|(AT (O.getD H.1.toNat aA.zero)).bind λ v2=>gd (H.2.length+v2.length<=4294967296)<|some (.inl (i64.wrap (H.1+1),H.2++v2))else some (.inr H.2))
def Dr(H:List aA):Option (List aK):=(lS (SQ H) (0,[])).bind (λ z=>SP z)
@[reducible,instance]def bLd a0:=mkJ (Dr a0) 0 (@SP.eq_1) λ j1=>⟨[(3,.own 0 0 j1.length)],[(0,sx j1)],1⟩
@[reducible,instance]def bLe (O:List aA):=mkL x (@SQ.eq_1 O) λ H=>⟨[(0,la O),(3,.own 0 0 H.2.length),(4,.int i64 H.1)],[(0,sx H.2)],1⟩
instance bLf(H:List aA):OkM (Dr H) 91 [la H] [] 0 (λ r=>.own 0 0 r.length) (λ r=>[(0,sx r)]) 1:=okm (Dr.eq_1 H) (λ r=>[.own 0 0 r.length]) Tryz.f91 [(2,1),(3,1),(19,1)]
def Ds(H:aA):Option Bool:=(C0 H.aB).bind λ v1=>(if v1 then yY H.aB H.aS else some false).bind λ v2=>(if v1&&v2 then Bc H else some false).bind λ v3=>(if (v1&&v2)&&v3 then A9 H else some false).bind λ v4=>some (((((v1&&v2)&&v3)&&v4)&&decide (0<=H.gen))&&decide (H.gen<=1073741824))
instance bLg(H:aA):OkP (Ds H) 251 [ga H] .bool:=ok1 (Ds.eq_1 H) Tryz.f251 []
def SR(j1:(List aA)):Option ((List aA)×Int):=some (j1,0)
def Jp(O:List aH)(H:Int×(List aA)):Option ((Int×(List aA))⊕(List aA)):=(if decide (H.1<O.length)then gd (0<=H.1/\H.1<O.length)<|gd (H.2.length+1<=4294967296)<|some (.inl (i64.wrap (H.1+1),H.2++[{aA.zero with aB:=(O.getD H.1.toNat aH.zero)}]))else some (.inr H.2))
def Bd(H:List aH):Option ((List aA)×Int):=(p5 H).bind λ v1=>(if !v1 then some ([],1)else(lS (Jp H) (0,[])).bind (λ z=>SR z))
@[reducible,instance]def bLj a0:=mkJ (Bd a0,v1) 0 (@SR.eq_1) λ j1=>⟨[(4,.own 0 0 j1.length)],[(0,sx j1)],1⟩
@[reducible,instance]def bLk (O:List aH):=mkL x (@Jp.eq_1 O) λ H=>⟨[(0,la O),(4,.own 0 0 H.2.length),(5,.int i64 H.1)],[(0,sx H.2)],1⟩
instance bLl(H:List aH):OkP (Bd H) 88 [la H] (λ r=>.tup [la r.1,.int i64 r.2]):=ok1 (Bd.eq_1 H) Tryz.f88 [(4,1)]
def SS(v1 v2:aC)(v3:aC×Bool)(j1:Unit):Option Bool:=some (decide (v2=v1)&&(!v3.2))
def ST(v1 v2:aC)(v3:aC×Bool)(v4:aC)(H:Unit):Option (Int⊕(Unit⊕Bool)):=some (.inr (.inr (decide (v2=v1)&&decide (v3.1=v4))))
def Dt(O:aA)(U:aG)(H:Int):Option (Int⊕(Unit⊕Bool)):=(if decide (H<O.aW.length)then gd (0<=H/\H<O.aW.length)<|gd (decide ((O.aW.getD H.toNat aV.zero).aL=U.aL)=true->0<=H/\H<O.aW.length)<|(if decide ((O.aW.getD H.toNat aV.zero).aL=U.aL)&&(!decide ((O.aW.getD H.toNat aV.zero).bD=U.bJ.bD))then some (.inr (.inr false))else some (.inl (i64.wrap (H+1))))else some (.inr (.inl ())))
def Du(U:aA)(Y:aG)(O:List aO)(v1 v2:aC)(v3:aC×Bool)(H:Int):Option (Int⊕(Unit⊕Bool)):=(if decide (H<O.length)then gd (0<=H/\H<O.length)<|(if (!(((O.getD H.toNat aO.zero).name).toList==U.aB.name.toList))||rJ U.aB v1 ((O.getD H.toNat aO.zero).aJ)then some (.inl (i64.wrap (H+1)))else(A5 U.aB v1 (O.getD H.toNat aO.zero).aJ).bind λ v4=>(if !v3.2 then some (.inr (.inr (decide (v2=v4))))else(lS (Dt U Y) 0).bind (λ|.inl z=>ST v1 v2 v3 v4 z|.inr z=>some (.inr (.inr z)))))else some (.inr (.inl ())))
def Be(H:aA)(O:aG)(U:List aO):Option Bool:=(sP O.bF.aP H.aB.name).bind λ v1=>(rI H O.aL).bind λ v2=>(tH H O.aL).bind λ v3=>(lS (Du H O U v1 v2 v3) 0).bind (λ|.inl z=>SS v1 v2 v3 z|.inr z=>some z)
@[reducible,instance]def bLq a0 a1 a2 (v1 v2:aC) (v3:aC×Bool):=mkJ (((Be a0 a1 a2,v1),v2),v3) 0 (@SS.eq_1 v1 v2 v3) λ j1=>⟨[(7,.ptr 0 0 0),(8,.ptr 1 0 0),(10,.bool v3.2)],[(0,bx v1),(1,bx v2)],2⟩
@[reducible,instance]def bLr a0 a1 a2 (v1 v2:aC) (v3:aC×Bool) g1 (v4:aC):=mkJ (Du a0 a1 a2 v1 v2 v3 g1,v4) 2 (@ST.eq_1 v1 v2 v3 v4) λ H=>⟨[(7,.ptr 0 0 0),(8,.ptr 1 0 0),(9,.ptr 2 0 0),(13,.ptr 3 0 0)],[(0,bx v1),(1,bx v2),(2,bx v3.1),(3,bx v4)],4⟩
@[reducible,instance]def bLs (H:aA) (O:aG) a2 (v1 v2:aC) (v3:aC×Bool) g1 (v4:aC):=mkL (Du H O a2 v1 v2 v3 g1,v4) (@Dt.eq_1 H O) λ U=>⟨[(3,.ptr 0 0 0),(4,.ptr 1 0 0),(7,.ptr 2 0 0),(8,.ptr 3 0 0),(9,.ptr 4 0 0),(13,.ptr 5 0 0),(14,.int i64 U)],[(0,bx H),(1,bx O),(2,bx v1),(3,bx v2),(4,bx v3.1),(5,bx v4)],6⟩
@[reducible,instance]def bLt (H:aA) (O:aG) (U:List aO) (v1 v2:aC) (v3:aC×Bool):=mkL x (@Du.eq_1 H O U v1 v2 v3) λ Y=>⟨[(2,la U),(3,.ptr 0 0 0),(4,.ptr 1 0 0),(7,.ptr 2 0 0),(8,.ptr 3 0 0),(9,.ptr 4 0 0),(10,.bool v3.2),(11,.int i64 Y)],[(0,bx H),(1,bx O),(2,bx v1),(3,bx v2),(4,bx v3.1)],5⟩
instance bLu(H:aA)(O:aG)(U:List aO):OkP (Be H O U) 147 [ga H,ga O,la U] .bool:=ok1 (Be.eq_1 H O U) Tryz.f147 []
def Dv(H O:aM)(j1:Unit):Option Bool:=(if (((!decide (H.kind=O.kind))||(!decide (H.aL=O.aL)))||(!decide (H.bA=O.bA)))||(!decide (H.done=O.done))then some false else(AJ H.options O.options).bind λ v2=>(if v2 then A6 H.state O.state else some false).bind λ v3=>some (v2&&v3))
@[go_sem] def bLv(H O:aM)(j1:Unit):St:=⟨[(2,.ptr 0 0 0),(3,.ptr 1 0 0)],[(0,bx H),(1,bx O)],2⟩
def Jq(O U:aM)(H:Int×bN)(Y:Unit):Option (Unit⊕(Unit⊕Bool)):=(oF (H.2).of).bind λ v4=>(oF (H.2).of).bind λ v5=>(if !decide (nB O v4=nB U v5)then some (.inr (.inr false))else some (.inl ()))
@[go_sem] def bLx(H O:aM)(v1:(List (Int×bN)))(s0:List Nat)(U:Unit):St:=⟨[(2,.ptr 0 0 0),(3,.ptr 1 0 0),(8,.it 2)],[(0,bx H),(1,bx O),(2,⟨false,0,[],[.mp 3,.int i64 v1.length]::s0.map iE⟩),(3,⟨false,0,[A.int u8 0,A.bool true],v1.map (mI u8 bN.enc)⟩)],4⟩
def Bf(H O:aM):Option Bool:=(yJ).bind λ v1=>rngO v1 (0,bN.zero) (Jq H O) (λ U:Unit=>(.inl ())) () (λ|.inl z=>Dv H O z|.inr z=>some z)
def bLy(Y B:aM)(r:Bool)(h:Bf Y B=some r):PFn C 14 [ga Y,ga B] (.bool r):=by
 refine oC Tryz.f14 [(9,80),(11,80),(15,1),(20,1)] λ E hG hN hK=>?_;unfold Bf at h;refine lQ (lR hG ?_);refine lQ (lQ (lR hG ?_));obtain⟨v1,x0,h⟩:=lT h;refine mH [] [(0,2)] [0] ((Fq).ok _ x0) rfl rfl ?_;refine pL (bLv Y B) (λ v=>Dv Y B v=some r) ?_ ?_
 · intro j1 h
   unfold Dv at h;refine g_st ?_;refine lQ (lQ (lR hG ?_));refine lU rfl hG h (λ _ h=>?_) (λ _ h=>?_)
   · refine lQ (lR hG ?_)
     refine lX ?_;exact nF h
   refine lW ?_;refine lQ (lR hG ?_);obtain⟨v2,hv2,h⟩:=lT h;refine mH [] [] [] ((zM2 Y.options B.options).ok _ hv2) rfl rfl ?_;obtain⟨v3,hv3,h⟩:=lT h;refine mW (λ hg=>(bJa Y.state B.state).ok _ (tB hg hv3)) ?_;refine lX ?_;exact nF h
 refine QK (bLx Y B v1) hK [(0,0),(1,1),(2,3),(3,2)] h (λ s0 g1 O=>?_);refine g_st ?_;refine lQ (lR hG ?_);refine⟨λ u0 y0 h0=>?_,λ F=>?_⟩
 · obtain⟨z0,H,U,M⟩:=QH O y0 h0
   unfold Jq at H
   try refine g_st ?_
   refine lQ ?_;refine Ag rfl hG ?_;refine lW ?_;refine nV (lQ (lR hG ?_));refine lQ (pT oB hG ?_);obtain⟨v4,hv4,H⟩:=lT H;refine uC [(0,0)] [] [0] (Ah _ _ _ hv4) rfl rfl ?_ (ho:=by first|exact⟨by trivial,sO hv4⟩|exact sO hv4);obtain⟨v5,hv5,H⟩:=lT H;refine uC [(0,1)] [] [0] (Ah _ _ _ hv5) rfl rfl ?_ (ho:=by first|exact⟨by trivial,sO hv5⟩|exact sO hv5);refine lU rfl hG H (λ _ H=>?_) (λ _ H=>?_)
   · refine lQ (lR hG ?_)
     refine lX ?_;obtain rfl:=dW H;have h:=M _ rfl
     try dsimp only at h
     exact nF h
   refine lW ?_;exact QL hK [(0,0),(1,1),(2,2),(3,3)] H U
 try refine g_st ?_
 refine lQ ?_;refine H3 rfl hG ?_;refine nX ?_;have h:=QI O F
 try dsimp only at h
 exact mM hK [(0,0),(1,1)] () (by exact h)
instance bLz(H O:aM):OkP (Bf H O) 14 [ga H,ga O] .bool:=⟨bLy H O⟩
def Ga(H:List aH):Option (bC×Int):=(Bd H).bind λ v1=>(if !decide (v1.2=0)then some ({bC.zero with},v1.2)else some ({bC.zero with aF:=v1.1},0))
instance bM1(H:List aH):OkP (Ga H) 44 [la H] (λ r=>.tup [ga r.1,.int i64 r.2]):=ok1 (Ga.eq_1 H) Tryz.f44 []
def Dw(H:aA):Option (List aK):=(Ak H.aS).bind λ v1=>(A0 H).bind λ v2=>gd (v1.length+v2.length<=4294967296)<|(zB (v1++v2)).bind λ v3=>some v3
instance bM2(H:aA):OkP (Dw H) 257 [ga H] la:=ok1 (Dw.eq_1 H) Tryz.f257 []
def SU(j1:aU×(List aQ)):Option ((List aQ)×aU):=some (j1.2,j1.1)
def SV(v1:Int×aU)(H:Int×aU×(List aQ)):Option ((Int×aU×(List aQ))⊕((aU×(List aQ))⊕((List aQ)×aU))):=(if decide (H.1<v1.1)then(Dj H.2.1.b).bind λ v2=>(if !decide (v2.2.2=0)then some (.inr (.inr ([],{H.2.1 with err:=v2.2.2})))else gd (0<=v2.2.1/\v2.2.1<=(H.2.1.b.length:Int)/\(H.2.1.b.length:Int)<=(H.2.1.b.length:Int))<|gd (H.2.2.length+1<=4294967296)<|some (.inl (i64.wrap (H.1+1),{H.2.1 with b:=(H.2.1.b.drop v2.2.1.toNat)},H.2.2++[v2.1])))else some (.inr (.inl (H.2.1,H.2.2))))
def Dx(H:aU):Option ((List aQ)×aU):=(m8 40 4 H).bind λ v1=>(lS (SV v1) (0,v1.2,[])).bind (λ|.inl z=>SU z|.inr z=>some z)
@[reducible,instance]def bM5 (H:aU):=mkJ (Dx H,v1) 0 (@SU.eq_1) λ j1=>⟨[(4,.own 1 0 j1.2.length)],[(0,bx j1.1),(1,sx j1.2)],2⟩
@[reducible,instance]def bM6 (v1:Int×aU):=mkL x (@SV.eq_1 v1) λ H=>⟨[(0,.ptr 0 0 0),(4,.own 1 0 H.2.2.length),(10,.int i64 v1.1),(11,.int i64 H.1)],[(0,bx H.2.1),(1,sx H.2.2)],2⟩
instance bM7(H:aU):OkM (Dx H) 75 [.ptr 0 0 0] [(0,bx H)] 1 (λ r=>la r.1) (λ r=>[(0,bx r.2)]) 1:=⟨λ r h=>by
 refine oR Tryz.f75 [(4,1)] [la r.1] λ E hG U hK=>?_;have hm:Mk (Dx H):=trivial;unfold Dx at h;refine lQ (lR hG ?_);refine lQ (lR hG ?_);obtain⟨v1,O,h⟩:=lT h;have hm:=mkP hm v1;refine mH [(0,0)] [] [0] ((RK 40 4 H).ok _ O) rfl rfl ?_;refine lQ (lR hG ?_);refine lQ (lQ (lR hG ?_));refine wL hm h (λ j1 hm h=>?_) ?_
 · try refine g_st ?_
   refine lQ (lR hG ?_);refine g_gh (.fz [1]) ?_;exact gogo
 exact gogo⟩
def Dy (H:List aH) (B:bK):Option (bP×bK):=(nI 16 B).bind λ v1=>(nI 6 v1.2).bind λ v2=>(m9 v2.1).bind λ v3=>(if decide (v1.1=0)then(nI 9 v2.2).bind λ v4=>some ({{{bP.zero with aL:=v3}with kind:=1}with n:=(i64.wrap (1+v4.1))},v4.2)else(if decide (v1.1<9)then(AY H v2.2).bind λ v5=>some ({{{bP.zero with aL:=v3}with kind:=2}with bJ:=v5.1},v5.2)else(if decide (v1.1=9)then some ({{bP.zero with aL:=v3}with kind:=3},v2.2)else(if decide (v1.1=10)then(nI (H.length:Int) v2.2).bind λ v6=>gd (0<=v6.1/\v6.1<H.length)<|some ({{{bP.zero with aL:=v3}with kind:=4}with name:=(H.getD v6.1.toNat aH.zero).name},v6.2)else(if decide (v1.1=11)then(nI 4 v2.2).bind λ O=>some ({{{bP.zero with aL:=v3}with kind:=5}with n:=(i64.wrap (1+O.1))},O.2)else(if decide (v1.1=12)then(nI 5 v2.2).bind λ U=>some ({{{bP.zero with aL:=v3}with kind:=6}with n:=U.1},U.2)else(if decide (v1.1=13)then some ({{bP.zero with aL:=v3}with kind:=7},v2.2)else(if decide (v1.1=14)then some ({{bP.zero with aL:=v3}with kind:=8},v2.2)else(nI 12 v2.2).bind λ Y=>some ({{{bP.zero with aL:=v3}with kind:=9}with n:=Y.1},Y.2)))))))))
instance bM8(H:List aH)(O:bK):OkM (Dy H O) 42 [.ptr 0 0 0,la H] [(0,bx O)] 1 (λ r=>ga r.1) (λ r=>[(0,bx r.2)]) 1:=okm (Dy.eq_1 H O) (λ r=>[ga r.1]) Tryz.f42 []
def Dz(H:aH)(Y:List aX)(O:aK)(U:aC):Option Bool:=(zC H Y).bind λ v1=>(if (v1&&oU O)&&qF H U then wV Y O U else some []).bind λ v2=>(if (v1&&oU O)&&qF H U then zC H v2 else some false).bind λ v3=>some (((v1&&oU O)&&qF H U)&&v3)
instance bM9(H:aH)(O:List aX)(U:aK)(Y:aC):OkP (Dz H O U Y) 249 [ga H,la O,ga U,ga Y] .bool:=ok1 (Dz.eq_1 H O U Y) Tryz.f249 []
def DA(H:aH)(O:List aX)(U:aK)(Y:aC):Option Bool:=(Dk H O U Y).bind λ v1=>(if v1 then AH O U Y else some []).bind λ v2=>(if v1 then yY H v2 else some false).bind λ v3=>some (v1&&v3)
instance bMa(H:aH)(O:List aX)(U:aK)(Y:aC):OkP (DA H O U Y) 253 [ga H,la O,ga U,ga Y] .bool:=ok1 (DA.eq_1 H O U Y) Tryz.f253 []
def SW(v1:(List aH)×bK)(H:(List bP)):Option ((List aH)×(List bP)):=some (v1.1,H)
def Jr(v1:(List aH)×bK)(H:bK×(List bP)):Option ((bK×(List bP))⊕(List bP)):=(Fe H.1).bind λ v2=>(if v2.1 then(Dy v1.1 v2.2).bind λ v3=>gd (H.2.length+1<=4294967296)<|some (.inl (v3.2,H.2++[v3.1]))else some (.inr H.2))
def Js(v1:(List aH)×bK)(j1:bK×(List bP)):Option ((List aH)×(List bP)):=(lS (Jr v1) (j1.1,j1.2)).bind (λ z=>SW v1 z)
def Jt(H:Int×bK×(List bP)):Option ((Int×bK×(List bP))⊕(bK×(List bP))):=(if decide (H.1<4)then(m9 H.1).bind λ v4=>(nI 9 H.2.1).bind λ v5=>gd (H.2.2.length+1<=4294967296)<|some (.inl (i64.wrap (H.1+1),v5.2,H.2.2++[{bP.zero with kind:=1,aL:=v4,n:=(i64.wrap (1+v5.1))}]))else some (.inr (H.2.1,H.2.2)))
def zF(H:List Int):Option ((List aH)×(List bP)):=(o4 ({bK.zero with l:=H})).bind λ v1=>(lS Jt (0,v1.2,[])).bind (λ z=>Js v1 z)
@[reducible,instance]def bMf (v1:(List aH)×bK) j1:=mkJ (Js v1 j1) 2 (@SW.eq_1 v1) λ H=>⟨[(5,la v1.1),(6,.own 0 0 H.length)],[(0,sx H)],1⟩
@[reducible,instance]def bMg (v1:(List aH)×bK):=mkL x (@Jr.eq_1 v1) λ H=>⟨[(4,.ptr 0 0 0),(5,la v1.1),(6,.own 1 0 H.2.length)],[(0,bx H.1),(1,sx H.2)],2⟩
@[reducible,instance]def bMh a0 (v1:(List aH)×bK):=mkJ (zF a0,v1) 0 (@Js.eq_1 v1) λ j1=>⟨[(4,.ptr 0 0 0),(5,la v1.1),(6,.own 1 0 j1.2.length)],[(0,bx j1.1),(1,sx j1.2)],2⟩
@[reducible,instance]def bMi a0 (v1:(List aH)×bK):=mkL (zF a0,v1) (@Jt.eq_1) λ H=>⟨[(4,.ptr 0 0 0),(5,la v1.1),(6,.own 1 0 H.2.2.length),(7,.int i64 H.1)],[(0,bx H.2.1),(1,sx H.2.2)],2⟩
instance bMj(H:List Int):OkP (zF H) 16 [.sl (H.map (eI i64))] (λ r=>.tup [la r.1,la r.2]):=ok1 (zF.eq_1 H) Tryz.f16 [(6,1)]
def p9(H:aR):Option Bool:=(qG H).bind λ v1=>some v1.2
instance bMk(H:aR):OkP (p9 H) 111 [ga H] .bool:=ok1 (p9.eq_1 H) Tryz.f111 []
end
end Ab
end Go.Proofs.YtfmnjkfhahfhgaaGreatDoor
