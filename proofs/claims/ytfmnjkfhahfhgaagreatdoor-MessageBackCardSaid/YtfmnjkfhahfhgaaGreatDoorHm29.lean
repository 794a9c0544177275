import Derived.Test.YtfmnjkfhahfhgaaGreatDoorHm27
import Derived.Test.YtfmnjkfhahfhgaaGreatDoorHm26
namespace Go.Proofs.YtfmnjkfhahfhgaaGreatDoor
namespace Ab
set_option linter.defProp false
open IntKind (i64 u64 u8)
set_option linter.unusedSimpArgs false
set_option linter.unusedVariables false
set_option maxRecDepth 100000
set_option maxHeartbeats 1000000
noncomputable section
variable {T T1 T2 T3 T4 T5 T6 : Type} (x : T) (v1 : T1) (v2 : T2) (v3 : T3) (v4 : T4) (v5 : T5) (v6 : T6)
attribute [local irreducible] A1 A2 uF FZ wF wG sR xO A3 s8 xP zP Dk t6 A4 sE F2 A5 zR Dl A6 xQ tN A7 F5 t8 pQ sZ u6 zS Js pH u7 F9 Ba vD vF Bb Do w7 Gd zV Bc JA Dq Dr Ds zW xR zX JD x3 f_ref08_holds zZ xS x6 Be Dv Dw Bf sF x9 y3 uG Gn qO Bg a7 Dx Bh JL Bi Dz uH Bj DA wH DC rC nQ Bk DF rY Gq DG xT Bm Bn wI rO Gr Nr Bp Bq a8 JU wJ tA xU Gu Br DL sS Bs JY b5 Bv DM uJ b6 y5 uK Bw J3 vH y6 y7 DO Bx wK y8 b9 xY By DQ GA Bz d4 J9 BA y9 Kc Kl BH BI Ad d6 BK DU BB uN z6 d5 wN z7 DY BD z8 xZ DZ BE D0 BF Aa BG D5 BQ Af e8 Ea BR BS d7 Ae GU yB BM d9 BT f5 g9 Ag i4 Ee D8 BN qQ i6 Es i7 Eg BU BV Ek yC Em Eo B3 vJ Al Ep i5 Ah BX Ai Aj
def yE(H:aA):Option Bool:=(i6 H).bind λ v1=>(if v1 then B3 H else some false).bind λ v2=>some (v1&&v2)
instance bOy(H:aA):OkP (yE H) 161 [ga H] .bool:=ok1 (yE.eq_1 H) Tryz.f161 []
attribute [local irreducible] yE
def T0(j1:Unit):Option Bool:=some true
def KJ(O:List aA)(H:Int):Option (Int⊕(Unit⊕Bool)):=(if decide (H<O.length)then gd (0<=H/\H<O.length)<|(yE (O.getD H.toNat aA.zero)).bind λ v1=>gd ((v1&&decide (0<H))=true->0<=i64.wrap (H-1)/\i64.wrap (H-1)<(O.length:Int))<|gd ((v1&&decide (0<H))=true->0<=H/\H<O.length)<|(if (!v1)||(decide (0<H)&&(!Op.bytesLess (((O.getD (i64.wrap (H-1)).toNat aA.zero).aB).name).toList (((O.getD H.toNat aA.zero).aB).name).toList))then some (.inr (.inr false))else some (.inl (i64.wrap (H+1))))else some (.inr (.inl ())))
def Am(H:List aA):Option Bool:=(if decide (8<(H.length:Int))then some false else(lY (KJ H) 0).bind (λ|.inl z=>T0 z|.inr z=>some z))
@[reducible,instance]def bP1 a0:=mkJ (Am a0) 0 (@T0.eq_1) λ j1=>⟨[],[],0⟩
@[reducible,instance]def bP2 (H:List aA):=mkL x (@KJ.eq_1 H) λ O=>⟨[(0,la H),(3,.int i64 O)],[],0⟩
instance bP3(H:List aA):OkP (Am H) 110 [la H] .bool:=ok1 (Am.eq_1 H) Tryz.f110 []
attribute [local irreducible] Am
def yF(H:List aA):Option Bool:=(Am H).bind λ v1=>(if v1 then e8 H else some []).bind λ v2=>some (v1&&decide ((v2.length:Int)<=8))
instance bP4(H:List aA):OkP (yF H) 90 [la H] .bool:=ok1 (yF.eq_1 H) Tryz.f90 []
attribute [local irreducible] yF
def vK(H:bO):Option Bool:=(Ah H.bU).bind λ v1=>some ((((v1&&decide (0<=H.bC))&&decide (H.bC<=7))&&decide (0<=H.limit))&&decide (H.limit<=1000))
instance bP5(H:bO):OkP (vK H) 99 [ga H] .bool:=ok1 (vK.eq_1 H) Tryz.f99 []
attribute [local irreducible] vK
def T7(j1:(List Bool)):Option (List Bool):=some j1
def KK(O:List aA)(U:aK)(v1:(List aO))(H:Int×(List Bool)):Option ((Int×(List Bool))⊕(List Bool)):=(if decide (H.1<v1.length)then gd (0<=H.1/\H.1<v1.length)<|(sR O (v1.getD H.1.toNat aO.zero).name).bind λ v2=>(if decide (0<=v2)then gd (0<=v2/\v2<O.length)<|gd (0<=v2/\v2<O.length)<|(rY (O.getD v2.toNat aA.zero) U).bind λ v3=>gd (0<=H.1/\H.1<v1.length)<|gd (0<=H.1/\H.1<((H.2.length:Nat):Int))<|some (.inl (i64.wrap (H.1+1),H.2.set H.1.toNat (rZ (O.getD v2.toNat aA.zero).aB v3 (v1.getD H.1.toNat aO.zero).aJ)))else some (.inl (i64.wrap (H.1+1),H.2)))else some (.inr H.2))
def i9(H:List aA)(O:aK)(U:aS):Option (List Bool):=(vJ U).bind λ v1=>gd (0<=(v1.length:Int)/\(v1.length:Int)<=(v1.length:Int)/\(v1.length:Int)<=4294967296)<|(lY (KK H O v1) (0,List.replicate (v1.length:Int).toNat false)).bind (λ z=>T7 z)
@[reducible,instance]def bP8 a0 a1 a2:=mkJ (i9 a0 a1 a2,v1) 0 (@T7.eq_1) λ j1=>⟨[(8,.own 0 0 j1.length)],[(0,⟨false,1,[A.bool false],j1.map eB⟩)],1⟩
@[reducible,instance]def bP9 (O:List aA) (U:aK) (v1:(List aO)):=mkL x (@KK.eq_1 O U v1) λ H=>⟨[(0,la O),(4,.ptr 0 0 0),(7,la v1),(8,.own 1 0 H.2.length),(9,.int i64 H.1)],[(0,bx U),(1,⟨false,1,[A.bool false],H.2.map eB⟩)],2⟩
instance bPa(H:List aA)(O:aK)(U:aS):OkP (i9 H O U) 145 [la H,ga O,ga U] (λ r=>.sl (r.map eB)):=ok1 (i9.eq_1 H O U) Tryz.f145 []
attribute [local irreducible] i9
def T8(H:Unit):Option Bool:=some true
def Et(O:bD)(B:aG)(U:(List aO))(H:Int):Option (Int⊕(Unit⊕Bool)):=(if decide (H<O.aF.length)then gd (0<=H/\H<O.aF.length)<|(BV (O.aF.getD H.toNat aA.zero) B U).bind λ Y=>(if !Y then some (.inr (.inr false))else some (.inl (i64.wrap (H+1))))else some (.inr (.inl ())))
def Hi(O:bD)(H:aG)(v2:(List aO))(j1:Unit):Option Bool:=(if !H.bI then(DF H.bJ ({bO.zero with})).bind λ v3=>(if v3&&decide (H.since=0)then Bv O.aF H.aM else some []).bind λ v4=>(if v3&&decide (H.since=0)then xO v2 v4 else some false).bind λ v5=>(if (v3&&decide (H.since=0))&&v5 then By O.aF H.aM else some []).bind λ v6=>some (((v3&&decide (H.since=0))&&v5)&&decide ((v6.length:Int)=0))else(vK H.bJ).bind λ U=>(if U then x3 O.aF else some []).bind λ M=>(if U then Ai M H.bJ.bU else some 0).bind λ Y=>(if !(((((!U)||(!decide (Y=0)))||decide (H.since<0))||decide (O.now<H.since))||((!decide (H.bJ.limit=0))&&decide (i64.wrap (H.since+H.bJ.limit)<=O.now)))then i9 O.aF H.aM H.bJ.bU else some []).bind λ B=>(if !(((((!U)||(!decide (Y=0)))||decide (H.since<0))||decide (O.now<H.since))||((!decide (H.bJ.limit=0))&&decide (i64.wrap (H.since+H.bJ.limit)<=O.now)))then Aj H.bJ.bU B else some false).bind λ v11=>(if (((((!U)||(!decide (Y=0)))||decide (H.since<0))||decide (O.now<H.since))||((!decide (H.bJ.limit=0))&&decide (i64.wrap (H.since+H.bJ.limit)<=O.now)))||v11 then some false else(vJ H.bJ.bU).bind λ F=>(lY (Et O H F) 0).bind (λ|.inl z=>T8 z|.inr z=>some z)))
def Eu(U:bD)(v2:(List aO))(O:Int):Option (Int⊕(Unit⊕Bool)):=(if decide (O<v2.length)then gd (0<=O/\O<v2.length)<|(sR U.aF (v2.getD O.toNat aO.zero).name).bind λ H=>gd ((!(decide (H<0)))=true->0<=H/\H<U.aF.length)<|gd ((!(decide (H<0)))=true->0<=O/\O<v2.length)<|(if decide (H<0)||(!(qP (U.aF.getD H.toNat aA.zero).aB (v2.getD O.toNat aO.zero).aJ))then some (.inr (.inr false))else some (.inl (i64.wrap (O+1))))else some (.inr (.inl ())))
def An(O:bD)(H:aG):Option Bool:=(if !(((!(pC H.aM))||decide (H.cost<1))||decide (1000<H.cost))then uN H.bF else some false).bind λ v1=>(if (((((!(pC H.aM))||decide (H.cost<1))||decide (1000<H.cost))||(!v1))||decide (H.gen<0))||decide (1073741824<H.gen)then some false else(Bi H.bF).bind λ v2=>(lY (Eu O v2) 0).bind (λ|.inl z=>Hi O H v2 z|.inr z=>some z))
@[reducible,instance]def bPd a0 a1 v2 j1:=mkJ ((((((Hi a0 a1 v2 j1,v1),v2),v3),v4),v5),v6) 2 (@T8.eq_1) λ H=>⟨[],[],0⟩
@[reducible,instance]def bPe (O:bD) (U:aG) (H:(List aO)):=mkL x (@Et.eq_1 O U H) λ Y=>⟨[(2,.ptr 0 0 0),(3,.ptr 1 0 0),(9,la H),(10,.int i64 Y)],[(0,bx O),(1,bx U)],2⟩
@[reducible,instance]def bPf (H:bD) (O:aG) (v2:(List aO)):=mkJ ((An H O,v1),v2) 0 (@Hi.eq_1 H O v2) λ j1=>⟨[(2,.ptr 0 0 0),(3,.ptr 1 0 0),(5,la v2)],[(0,bx H),(1,bx O)],2⟩
@[reducible,instance]def bPg (H:bD) (O:aG) (v2:(List aO)):=mkL ((An H O,v1),v2) (@Eu.eq_1 H v2) λ U=>⟨[(2,.ptr 0 0 0),(3,.ptr 1 0 0),(5,la v2),(6,.int i64 U)],[(0,bx H),(1,bx O)],2⟩
instance bPh(H:bD)(O:aG):OkP (An H O) 93 [ga H,ga O] .bool:=ok1 (An.eq_1 H O) Tryz.f93 []
attribute [local irreducible] An
def T9(H:Unit):Option Bool:=some true
def Ev(O:bD)(H:Int):Option (Int⊕(Unit⊕Bool)):=(if decide (H<O.aD.length)then gd (0<=H/\H<O.aD.length)<|(An O (O.aD.getD H.toNat aG.zero)).bind λ v3=>gd ((v3&&decide (0<H))=true->0<=i64.wrap (H-1)/\i64.wrap (H-1)<(O.aD.length:Int))<|gd ((v3&&decide (0<H))=true->0<=H/\H<O.aD.length)<|(if (!v3)||(decide (0<H)&&decide (0<=vG (O.aD.getD (i64.wrap (H-1)).toNat aG.zero).aM (O.aD.getD H.toNat aG.zero).aM))then some (.inr (.inr false))else some (.inl (i64.wrap (H+1))))else some (.inr (.inl ())))
def Hj(H:bD)(j1:Unit):Option Bool:=(lY (Ev H) 0).bind (λ|.inl z=>T9 z|.inr z=>some z)
def Ew(O:bD)(v2:(List aK))(H:Int):Option (Int⊕(Unit⊕Bool)):=(if decide (H<v2.length)then gd (0<=H/\H<v2.length)<|(xQ O.aD (v2.getD H.toNat aK.zero)).bind λ v4=>(if decide (v4<0)then some (.inr (.inr false))else some (.inl (i64.wrap (H+1))))else some (.inr (.inl ())))
def Ao(H:bD):Option Bool:=(if !(decide (H.now<0)||decide (1073741824<H.now))then yF H.aF else some false).bind λ v1=>(if ((decide (H.now<0)||decide (1073741824<H.now))||(!v1))||decide (8<(H.aD.length:Int))then some false else(e8 H.aF).bind λ v2=>(lY (Ew H v2) 0).bind (λ|.inl z=>Hj H z|.inr z=>some z))
@[reducible,instance]def bPm a0 j1:=mkJ (Hj a0 j1) 2 (@T9.eq_1) λ H=>⟨[],[],0⟩
@[reducible,instance]def bPn (H:bD):=mkL x (@Ev.eq_1 H) λ O=>⟨[(1,.ptr 0 0 0),(5,.int i64 O)],[(0,bx H)],1⟩
@[reducible,instance]def bPo (H:bD):=mkJ ((Ao H,v1),v2) 0 (@Hj.eq_1 H) λ j1=>⟨[(1,.ptr 0 0 0)],[(0,bx H)],1⟩
@[reducible,instance]def bPp (H:bD) (v2:(List aK)):=mkL x (@Ew.eq_1 H v2) λ O=>⟨[(1,.ptr 0 0 0),(3,la v2),(4,.int i64 O)],[(0,bx H)],1⟩
instance Ua(H:bD):OkP (Ao H) 46 [ga H] .bool:=ok1 (Ao.eq_1 H) Tryz.f46 []
attribute [local irreducible] Ao
def Ub(j1:aA×(List aX)):Option (aA×(List aX)):=some (j1.1,j1.2)
def Hk(H:aA×(List aX))(v4:aV×Bool)(O:aA):Option ((aA×(List aX))⊕(aA×(List aX))):=(xY O.aT v4.1.aM v4.1.aJ).bind λ v5=>gd (H.2.length+1<=4294967296)<|some (.inl ({O with aT:=v5},H.2++[(⟨v4.1.aM,v4.1.aJ⟩:aX)]))
def Ex(H:aA×(List aX)):Option ((aA×(List aX))⊕(aA×(List aX))):=(B3 H.1).bind λ v3=>(if !v3 then(Dl H.1).bind λ v4=>(if decide (0<(H.1.aN.length:Int))then gd (0<=1/\1<=(H.1.aN.length:Int)/\(H.1.aN.length:Int)<=(H.1.aN.length:Int))<|Hk H v4 ({H.1 with aN:=(H.1.aN.drop 1)})else gd (0<=1/\1<=(H.1.aW.length:Int)/\(H.1.aW.length:Int)<=(H.1.aW.length:Int))<|Hk H v4 ({H.1 with aW:=(H.1.aW.drop 1)}))else some (.inr (H.1,H.2)))
def B4(H:aA):Option (aA×(List aX)):=(i6 H).bind λ v1=>(if !v1 then some ({aA.zero with},[])else(zZ H).bind λ v2=>(lY Ex (v2,[])).bind (λ z=>Ub z))
@[reducible,instance]def bPt a0:=mkJ ((B4 a0,v1),v2) 0 (@Ub.eq_1) λ j1=>⟨[(1,.ptr 0 0 0),(2,.ptr 1 0 0),(4,.own 2 0 j1.2.length)],[(0,bx j1.1),(1,bx aA.zero),(2,sx j1.2)],3⟩
@[reducible,instance]def bPu (H:aA×(List aX)) (v4:aV×Bool):=mkJ ((Ex H,v1),v4) 999 (@Hk.eq_1 H v4) λ O=>⟨[(1,.ptr 0 0 0),(2,.ptr 1 0 0),(4,.own 2 0 H.2.length),(5,.ptr 3 0 0)],[(0,bx O),(1,bx aA.zero),(2,sx H.2),(3,bx v4.1)],4⟩
@[reducible,instance]def bPv:=mkL x (@Ex.eq_1) λ H=>⟨[(1,.ptr 0 0 0),(2,.ptr 1 0 0),(4,.own 2 0 H.2.length)],[(0,bx H.1),(1,bx aA.zero),(2,sx H.2)],3⟩
instance bPw(H:aA):OkP (B4 H) 245 [ga H] (λ r=>.tup [ga r.1,la r.2]):=ok1 (B4.eq_1 H) Tryz.f245 [(4,1)]
attribute [local irreducible] B4
def yG(H:aA):Option (aA×(List aX)×Int):=(B4 H).bind λ v1=>some ({v1.1 with gen:=(oW H.gen)},v1.2,0)
instance Uc(H:aA):OkP (yG H) 211 [ga H] (λ r=>.tup [ga r.1,la r.2.1,.int i64 r.2.2]):=ok1 (yG.eq_1 H) Tryz.f211 []
attribute [local irreducible] yG
def Ey(H:aA)(O:aK):Option (aA×(List aX)×Int):=(yE H).bind λ v1=>(if !v1 then some ({aA.zero with},[],2)else(uG H O).bind λ v2=>(if !v2.2 then some ({aA.zero with},[],10)else(zZ H).bind λ v3=>(xP v3.aN O).bind λ v4=>(xP ({v3 with aN:=v4.1}).aW O).bind λ v5=>(yG ({{v3 with aN:=v4.1}with aW:=v5.1})).bind λ v6=>some (v6.1,v6.2.1,v6.2.2)))
instance bPy(H:aA)(O:aK):OkP (Ey H O) 280 [ga H,ga O] (λ r=>.tup [ga r.1,la r.2.1,.int i64 r.2.2]):=ok1 (Ey.eq_1 H O) Tryz.f280 []
attribute [local irreducible] Ey
def Ez(H:List aA)(U:aK)(O:ByteArray):Option ((List aA)×(List bL)×Int):=(yF H).bind λ v1=>(if !v1 then some ([],[],2)else(sR H O).bind λ v2=>(if decide (v2<0)then some ([],[],10)else gd (0<=v2/\v2<H.length)<|(Ey (H.getD v2.toNat aA.zero) U).bind λ v3=>(if !decide (v3.2.2=0)then some ([],[],v3.2.2)else(xS H v2 v3.1).bind λ v4=>(vD O v3.2.1).bind λ v5=>some (v4,v5,0))))
instance bPz(H:List aA)(O:aK)(U:ByteArray):OkP (Ez H O U) 263 [la H,ga O,.str U] (λ r=>.tup [la r.1,la r.2.1,.int i64 r.2.2]):=ok1 (Ez.eq_1 H O U) Tryz.f263 []
attribute [local irreducible] Ez
def EA(H:aA)(O:aK)(U:aC):Option (aA×(List aX)×Int):=(yE H).bind λ v1=>(if !v1 then some ({aA.zero with},[],2)else(rY H O).bind λ v2=>(if nX v2 then some ({aA.zero with},[],10)else(uG H O).bind λ v3=>(if v3.2 then some ({aA.zero with},[],14)else(if !(rZ H.aB v2 U)then some ({aA.zero with},[],12)else(zZ H).bind λ v4=>(if decide (v2=U)then some (v4,[],0)else(xY v4.aT O U).bind λ v5=>(yG ({v4 with aT:=v5})).bind λ v6=>some (v6.1,v6.2.1,v6.2.2))))))
instance bQ0(H:aA)(O:aK)(U:aC):OkP (EA H O U) 264 [ga H,ga O,ga U] (λ r=>.tup [ga r.1,la r.2.1,.int i64 r.2.2]):=ok1 (EA.eq_1 H O U) Tryz.f264 []
attribute [local irreducible] EA
def EB(H:List aA)(O:aO)(v2:Int)(v4:aA×(List aX)×Int)(j1:(List bL)):Option ((List aA)×(List bL)×Int):=(xS H v2 v4.1).bind λ v5=>(vD O.name v4.2.1).bind λ v6=>gd (j1.length+v6.length<=4294967296)<|some (v5,j1++v6,0)
@[go_sem] def bQ2(H:List aA)(O:aO)(v2:Int)(v4:aA×(List aX)×Int)(j1:(List bL)):St:=⟨[(0,la H),(5,.ptr 0 0 0),(9,.int i64 v2),(11,.ptr 1 0 0),(12,la v4.2.1),(14,.own 2 0 j1.length)],[(0,bx O),(1,bx v4.1),(2,sx j1)],3⟩
def j5(H:List aA)(U:aK)(O:aO):Option ((List aA)×(List bL)×Int):=(yF H).bind λ v1=>(if !v1 then some ([],[],2)else(sR H O.name).bind λ v2=>(if decide (v2<0)then some ([],[],10)else gd (0<=v2/\v2<H.length)<|(rY (H.getD v2.toNat aA.zero) U).bind λ v3=>gd (0<=v2/\v2<H.length)<|(EA (H.getD v2.toNat aA.zero) U O.aJ).bind λ v4=>(if !decide (v4.2.2=0)then some ([],[],v4.2.2)else(if !decide (v3=O.aJ)then gd (1<=4294967296)<|EB H O v2 v4 [(⟨3,U,O.name,O.aJ⟩:bL)] else EB H O v2 v4 []))))
def Ud(H:List aA)(U:aK)(O:aO)(r:(List aA)×(List bL)×Int)(h:j5 H U O=some r):PFn C 236 [la H,ga U,ga O] (.tup [la r.1,la r.2.1,.int i64 r.2.2]):=by
 refine oN Tryz.f236 [(14,1)] λ E hG hN hK=>?_;unfold j5 at h;refine lW (lX hG ?_);refine lW (lW (lX hG ?_));obtain⟨v1,Y,h⟩:=lZ h;refine nC (λ hg=>(bP4 H).ok _ Y) ?_;refine mA rfl hG h (λ _ h=>?_) (λ _ h=>?_)
 · refine lW (lX hG ?_)
   refine mG ?_;exact nM h
 refine mE ?_;refine lW (lX hG ?_);obtain⟨v2,hv2,h⟩:=lZ h;refine nC (λ hg=>(Sk H O.name).ok _ hv2) ?_;refine lW (lW (lX hG ?_));refine mA rfl hG h (λ _ h=>?_) (λ _ h=>?_)
 · refine lW (lX hG ?_)
   refine mG ?_;exact nM h
 refine mE ?_;refine lW ?_;obtain⟨F,h⟩:=mH h;refine qD oL hG ?_;obtain⟨v3,hv3,h⟩:=lZ h;refine sD (λ hg=>(Nq (H.getD v2.toNat aA.zero) U).ok _ hv3) ?_;refine lW ?_;obtain⟨M,h⟩:=mH h;refine qD oL hG ?_;obtain⟨v4,hv4,h⟩:=lZ h;refine sD (λ hg=>(bQ0 (H.getD v2.toNat aA.zero) U O.aJ).ok _ hv4) ?_;refine lW (lW (lX hG ?_));refine mA rfl hG h (λ _ h=>?_) (λ _ h=>?_)
 · refine lW (lX hG ?_)
   refine mG ?_;exact nM h
 refine mE ?_;refine lW (lX hG ?_);refine lW (lW (lX hG ?_));refine rN (bQ2 H O v2 v4) (λ v=>EB H O v2 v4 v=some r) rfl hG h ?_ (λ _ h=>?_) (λ _ h=>?_)
 · intro j1 h
   unfold EB at h;refine g_st ?_;refine lW (qD oL hG ?_);obtain⟨v5,hv5,h⟩:=lZ h;refine sD (λ hg=>(aYx H v2 v4.1).ok _ hv5) ?_;obtain⟨v6,B,h⟩:=lZ h;obtain⟨h0,h⟩:=mH h;refine sD (λ hg=>(aWa O.name v4.2.1).ok _ B) ?_;refine mG ?_;exact nM h
 · obtain⟨x0,h⟩:=mH h
   refine lX hG ?_;exact mT hK [(0,1),(1,3),(2,5)] [(⟨3,U,O.name,O.aJ⟩:bL)] (by exact h)
 refine mE ?_;exact mT hK [(0,1),(1,3),(2,4)] [] (by exact h)
instance bQ4(H:List aA)(O:aK)(U:aO):OkP (j5 H O U) 236 [la H,ga O,ga U] (λ r=>.tup [la r.1,la r.2.1,.int i64 r.2.2]):=⟨Ud H O U⟩
attribute [local irreducible] j5
def Ue(H:bB)(j1:Unit):Option (Int×Int×(List aA)×(List aG)×(List bL)):=some ((-1),H.c.now,H.c.aF,H.c.aD,H.ev)
def KL(H:bB)(O:Int):Option (Int⊕(Unit⊕(Int×Int×(List aA)×(List aG)×(List bL)))):=(if decide (O<((H.c.aD.length:Nat):Int))then gd (0<=O/\O<((H.c.aD.length:Nat):Int))<|(if (H.c.aD.getD O.toNat aG.zero).bI then i9 H.c.aF (H.c.aD.getD O.toNat aG.zero).aM (((H.c.aD.getD O.toNat aG.zero).bJ).bU)else some []).bind λ v1=>(if (H.c.aD.getD O.toNat aG.zero).bI then Aj ((H.c.aD.getD O.toNat aG.zero).bJ).bU v1 else some false).bind λ v2=>(if (H.c.aD.getD O.toNat aG.zero).bI&&v2 then some (.inr (.inr (O,H.c.now,H.c.aF,H.c.aD,H.ev)))else some (.inl (i64.wrap (O+1))))else some (.inr (.inl ())))
def yH(H:bB):Option (Int×Int×(List aA)×(List aG)×(List bL)):=(lY (KL H) 0).bind (λ|.inl z=>Ue H z|.inr z=>some z)
@[reducible,instance]def bQ6 (H:bB):=mkJ (yH H) 0 (@Ue.eq_1 H) λ j1=>⟨[],[(0,⟨false,4,bB.enc bB.zero,[[.int i64 H.c.now,la H.c.aF,.own 1 0 H.c.aD.length,.own 2 0 H.ev.length]]⟩),(1,sx H.c.aD),(2,sx H.ev)],3⟩
@[reducible,instance]def bQ7 (H:bB):=mkL x (@KL.eq_1 H) λ O=>⟨[(0,.ptr 0 0 0),(3,.int i64 O)],[(0,⟨false,4,bB.enc bB.zero,[[.int i64 H.c.now,la H.c.aF,.own 1 0 H.c.aD.length,.own 2 0 H.ev.length]]⟩),(1,sx H.c.aD),(2,sx H.ev)],3⟩
instance bQ8(H:bB):OkM (yH H) 233 [.ptr 0 0 0] [(0,⟨false,4,bB.enc bB.zero,[[.int i64 H.c.now,la H.c.aF,.own 1 0 H.c.aD.length,.own 2 0 H.ev.length]]⟩),(1,sx H.c.aD),(2,sx H.ev)] 3 (λ r=>.int i64 r.1) (λ r=>[(0,⟨false,4,bB.enc bB.zero,[[.int i64 r.2.1,la r.2.2.1,.own 1 0 r.2.2.2.1.length,.own 2 0 r.2.2.2.2.length]]⟩),(1,sx r.2.2.2.1),(2,sx r.2.2.2.2)]) 3:=okm (yH.eq_1 H) (λ r=>[.int i64 r.1]) Tryz.f233 []
attribute [local irreducible] yH
def j6 (O:aA) (H:aK) (U:aC) (Y:Int):Option (aA×(List aX)×Int):=(yE O).bind λ v1=>(if !v1 then some ({aA.zero with},[],2)else(if ((!(pC H))||decide (Y<0))||decide (7<Y)then some ({aA.zero with},[],1)else(if !(qP O.aB U)then some ({aA.zero with},[],12)else(uG O H).bind λ v2=>(if v2.2 then some ({aA.zero with},[],14)else(Do O).bind λ v3=>(rY v3 H).bind λ v4=>(if rZ v3.aB v4 U then some (v3,[],0)else(if !(nX v4)then(BM v3.aB v4 U).bind λ v5=>gd (v3.aN.length+1<=4294967296)<|(yG (⟨(⟨v3.aB.name,v3.aB.kind,v3.aB.aU,v3.aB.home⟩:aI),v3.aT,v3.aN++[{aV.zero with aM:=H,aJ:=v5}],v3.aW,v3.gen⟩:aA)).bind λ v6=>some (v6.1,v6.2.1,v6.2.2)else(if decide (8<=i64.wrap ((v3.aT.length:Int)+(v3.aW.length:Int)))then some ({aA.zero with},[],4)else(BR v3.aW ({aV.zero with aM:=H,aJ:=U,bC:=Y})).bind λ B=>(if !decide (B.2.2=0)then some ({aA.zero with},[],B.2.2)else(yG (⟨(⟨v3.aB.name,v3.aB.kind,v3.aB.aU,v3.aB.home⟩:aI),v3.aT,v3.aN,B.1,v3.gen⟩:aA)).bind λ F=>some (F.1,F.2.1,F.2.2)))))))))
instance bQ9(M:aA)(U:aK)(Y:aC)(a3:Int):OkP (j6 M U Y a3) 260 [ga M,ga U,ga Y,.int i64 a3] (λ r=>.tup [ga r.1,la r.2.1,.int i64 r.2.2]):=⟨λ r h=>by
 refine oN Tryz.f260 [(48,1)] λ E hG hN hK=>?_;have hm:Mk (j6 M U Y a3):=trivial;unfold j6 at h;refine lW (lX hG ?_);refine lW (lW (lX hG ?_));obtain⟨v1,h0,h⟩:=lZ h;have hm:=mkP hm v1;refine nC (λ hg=>(bOy M).ok _ h0) ?_;refine mA rfl hG h (λ _ h=>?_) (λ _ h=>?_)
 .exact gogo
 refine mE ?_;refine lW (lW (lX hG ?_));refine nC (λ hg=>(aVv U).ok) ?_;refine mA rfl hG h (λ _ h=>?_) (λ _ h=>?_)
 .exact gogo
 refine mE ?_;refine lW (lW (lX hG ?_));refine nC (λ hg=>(bAp M.aB Y).ok) ?_;refine mA rfl hG h (λ _ h=>?_) (λ _ h=>?_)
 .exact gogo
 refine mE ?_;refine lW (lW (lX hG ?_));obtain⟨v2,hv2,h⟩:=lZ h;have hm:=mkP hm v2;refine nC (λ hg=>(aZm M U).ok _ hv2) ?_;refine lW (lX hG ?_);refine mA rfl hG h (λ _ h=>?_) (λ _ h=>?_)
 .exact gogo
 refine mE ?_;refine lW (lX hG ?_);obtain⟨v3,hv3,h⟩:=lZ h;have hm:=mkP hm v3;refine mO [] [(0,5),(1,6),(2,7)] [0,1,2] (aWd _ _ hv3) rfl rfl ?_;refine g_gh (.fz [5,7]) ?_;refine lW (lX hG ?_);obtain⟨v4,hv4,h⟩:=lZ h;have hm:=mkP hm v4;refine nC (λ hg=>(Nq v3 U).ok _ hv4) ?_;refine lW (lW (lX hG ?_));refine nC (λ hg=>(bFy v3.aB v4 Y).ok) ?_;refine mA rfl hG h (λ _ h=>?_) (λ _ h=>?_)
 .exact gogo
 refine mE ?_;refine lW (lW (lX hG ?_));refine nC (λ hg=>(aVw v4).ok) ?_;refine mA rfl hG h (λ _ h=>?_) (λ _ h=>?_)
 · refine lW (qD oL hG ?_)
   obtain⟨v5,hv5,h⟩:=lZ h;have hm:=mkP hm v5;obtain⟨u0,h⟩:=mH h;refine sD (λ hg=>(bJe v3.aB v4 Y).ok _ hv5) ?_;refine lW (lX hG ?_);obtain⟨v6,x0,h⟩:=lZ h;have hm:=mkP hm v6;have H:=(Uc (⟨(⟨v3.aB.name,v3.aB.kind,v3.aB.aU,v3.aB.home⟩:aI),v3.aT,(v3.aN++[{aV.zero with aM:=U,aJ:=v5}]),v3.aW,v3.gen⟩:aA)).ok _ x0;have B:∀x:aA,aA.enc x=[A.str x.aB.name,A.int i64 x.aB.kind,A.int i64 x.aB.aU,A.int i64 x.aB.home,A.sl (x.aT.map aX.enc),A.sl (x.aN.map aV.enc),A.sl (x.aW.map aV.enc),A.int i64 x.gen]:=λ x=>rfl
   try dsimp only[ga,la,En.e]at H
   rw[B]at H;dsimp only at H;refine nC (λ hg=>by exact H) ?_;exact gogo
 refine mE ?_;refine lW (lW (lX hG ?_));refine mA rfl hG h (λ _ h=>?_) (λ _ h=>?_)
 .exact gogo
 refine mE ?_;refine lW (lX hG ?_);obtain⟨v7,y0,h⟩:=lZ h;have hm:=mkP hm v7;refine nC (λ hg=>(bKh v3.aW ({aV.zero with aM:=U,aJ:=Y,bC:=a3})).ok _ y0) ?_;refine lW (lW (lX hG ?_));refine mA rfl hG h (λ _ h=>?_) (λ _ h=>?_)
 .exact gogo
 refine mE ?_;refine lW (lX hG ?_);refine lW (lX hG ?_);obtain⟨v8,z0,h⟩:=lZ h;have hm:=mkP hm v8;have O:=(Uc (⟨(⟨v3.aB.name,v3.aB.kind,v3.aB.aU,v3.aB.home⟩:aI),v3.aT,v3.aN,v7.1,v3.gen⟩:aA)).ok _ z0;have F:∀x:aA,aA.enc x=[A.str x.aB.name,A.int i64 x.aB.kind,A.int i64 x.aB.aU,A.int i64 x.aB.home,A.sl (x.aT.map aX.enc),A.sl (x.aN.map aV.enc),A.sl (x.aW.map aV.enc),A.int i64 x.gen]:=λ x=>rfl
 try dsimp only[ga,la,En.e]at O
 rw[F]at O;dsimp only at O;refine nC (λ hg=>by exact O) ?_;exact gogo⟩
attribute [local irreducible] j6
def EC(H:List aA)(U:aK)(O:aO)(Y:Int):Option ((List aA)×(List bL)×Int):=(yF H).bind λ v1=>(if !v1 then some ([],[],2)else(sR H O.name).bind λ v2=>(if decide (v2<0)then some ([],[],10)else(e8 H).bind λ v3=>(if decide ((v3.length:Int)=8)then zW v3 U else some false).bind λ v4=>(if decide ((v3.length:Int)=8)&&(!v4)then some ([],[],4)else gd (0<=v2/\v2<H.length)<|(j6 (H.getD v2.toNat aA.zero) U O.aJ Y).bind λ v5=>(if !decide (v5.2.2=0)then some ([],[],v5.2.2)else(xS H v2 v5.1).bind λ v6=>(vD O.name v5.2.1).bind λ B=>some (v6,B,0)))))
instance bQa(H:List aA)(O:aK)(U:aO)(Y:Int):OkP (EC H O U Y) 228 [la H,ga O,ga U,.int i64 Y] (λ r=>.tup [la r.1,la r.2.1,.int i64 r.2.2]):=ok1 (EC.eq_1 H O U Y) Tryz.f228 []
attribute [local irreducible] EC
def B5(O:aA)(H:aK):Option (aA×(List aX)×Int):=(yE O).bind λ v1=>(if !v1 then some ({aA.zero with},[],2)else(y7 O H).bind λ v2=>(if !v2 then some ({aA.zero with},[],10)else(zZ O).bind λ v3=>(xY v3.aT H ({aC.zero with})).bind λ v4=>(xP ({v3 with aT:=v4}).aN H).bind λ v5=>(xP ({{v3 with aT:=v4}with aN:=v5.1}).aW H).bind λ v6=>(yG ({{{v3 with aT:=v4}with aN:=v5.1}with aW:=v6.1})).bind λ U=>some (U.1,U.2.1,U.2.2)))
instance bQb(H:aA)(O:aK):OkP (B5 H O) 151 [ga H,ga O] (λ r=>.tup [ga r.1,la r.2.1,.int i64 r.2.2]):=ok1 (B5.eq_1 H O) Tryz.f151 []
attribute [local irreducible] B5
def Uf(j1:(List aA)×(List bL)):Option ((List aA)×(List bL)):=some (j1.1,j1.2)
def Hl(U:aK)(H:Int×(List aA)×(List bL))(O:(List bL)):Option ((Int×(List aA)×(List bL))⊕((List aA)×(List bL))):=gd (0<=H.1/\H.1<((H.2.1.length:Nat):Int))<|(B5 (H.2.1.getD H.1.toNat aA.zero) U).bind λ v4=>gd (0<=H.1/\H.1<((H.2.1.length:Nat):Int))<|(vD v4.1.aB.name v4.2.1).bind λ v5=>gd (O.length+v5.length<=4294967296)<|some (.inl (i64.wrap (H.1+1),H.2.1.set H.1.toNat v4.1,O++v5))
def Hm(O:aK)(H:Int×(List aA)×(List bL)):Option ((Int×(List aA)×(List bL))⊕((List aA)×(List bL))):=(if decide (H.1<((H.2.1.length:Nat):Int))then gd (0<=H.1/\H.1<((H.2.1.length:Nat):Int))<|(y7 (H.2.1.getD H.1.toNat aA.zero) O).bind λ v2=>(if !v2 then some (.inl (i64.wrap (H.1+1),H.2.1,H.2.2))else gd (0<=H.1/\H.1<((H.2.1.length:Nat):Int))<|(rY (H.2.1.getD H.1.toNat aA.zero) O).bind λ v3=>(if !(nX v3)then gd (0<=H.1/\H.1<((H.2.1.length:Nat):Int))<|gd (H.2.2.length+1<=4294967296)<|Hl O H (H.2.2++[{bL.zero with kind:=3,aM:=O,name:=((H.2.1.getD H.1.toNat aA.zero).aB).name}])else Hl O H H.2.2))else some (.inr (H.2.1,H.2.2)))
def B6(H:List aA)(O:aK):Option ((List aA)×(List bL)):=(yF H).bind λ v1=>(if !v1 then some ([],[])else gd (H.length<=4294967296)<|(lY (Hm O) (0,H,[])).bind (λ z=>Uf z))
@[reducible,instance]def bQf a0 a1:=mkJ (B6 a0 a1,v1) 0 (@Uf.eq_1) λ j1=>⟨[(6,.own 0 0 j1.1.length),(7,.own 1 0 j1.2.length)],[(0,sx j1.1),(1,sx j1.2)],2⟩
@[reducible,instance]def bQg (O:aK) (H:Int×(List aA)×(List bL)):=mkJ ((Hm O H,v1),v2) 999 (@Hl.eq_1 O H) λ U=>⟨[(3,.ptr 0 0 0),(6,.own 1 0 H.2.1.length),(7,.own 2 0 U.length),(8,.int i64 H.1)],[(0,bx O),(1,sx H.2.1),(2,sx U)],3⟩
@[reducible,instance]def bQh (O:aK):=mkL x (@Hm.eq_1 O) λ H=>⟨[(3,.ptr 0 0 0),(6,.own 1 0 H.2.1.length),(7,.own 2 0 H.2.2.length),(8,.int i64 H.1)],[(0,bx O),(1,sx H.2.1),(2,sx H.2.2)],3⟩
instance bQi(H:List aA)(O:aK):OkP (B6 H O) 238 [la H,ga O] (λ r=>.tup [la r.1,la r.2]):=ok1 (B6.eq_1 H O) Tryz.f238 [(15,1),(7,1)]
attribute [local irreducible] B6
def NX(H:aH)(j1:Unit):Option Bool:=(i7 H).bind λ v2=>some (decide ((v2.length:Int)<=8))
def KM(O:aH)(H:Int):Option (Int⊕(Unit⊕Bool)):=(if decide (H<O.aY.length)then gd (0<=H/\H<O.aY.length)<|(if pC ((O.aY.getD H.toNat bQ.zero).aM)then Ah ((O.aY.getD H.toNat bQ.zero).bU)else some false).bind λ v3=>gd (((!((((!(pC (O.aY.getD H.toNat bQ.zero).aM))||(!v3))||decide ((O.aY.getD H.toNat bQ.zero).gen<0))||decide (1073741824<(O.aY.getD H.toNat bQ.zero).gen)))&&decide (0<H))=true->0<=i64.wrap (H-1)/\i64.wrap (H-1)<(O.aY.length:Int))<|(if ((((!(pC (O.aY.getD H.toNat bQ.zero).aM))||(!v3))||decide ((O.aY.getD H.toNat bQ.zero).gen<0))||decide (1073741824<(O.aY.getD H.toNat bQ.zero).gen))||(decide (0<H)&&decide (0<=vG (O.aY.getD (i64.wrap (H-1)).toNat bQ.zero).aM (O.aY.getD H.toNat bQ.zero).aM))then some (.inr (.inr false))else some (.inl (i64.wrap (H+1))))else some (.inr (.inl ())))
def vL(H:aH):Option Bool:=(Am H.aF).bind λ v1=>(if (!v1)||decide (8<(H.aY.length:Int))then some false else(lY (KM H) 0).bind (λ|.inl z=>NX H z|.inr z=>some z))
@[reducible,instance]def bQl (H:aH):=mkJ (vL H,v1) 0 (@NX.eq_1 H) λ j1=>⟨[(1,.ptr 0 0 0)],[(0,bx H)],1⟩
@[reducible,instance]def bQm (H:aH):=mkL x (@KM.eq_1 H) λ O=>⟨[(1,.ptr 0 0 0),(3,.int i64 O)],[(0,bx H)],1⟩
instance bQn(H:aH):OkP (vL H) 56 [ga H] .bool:=ok1 (vL.eq_1 H) Tryz.f56 []
attribute [local irreducible] vL
def Ug(j1:(List Bool)):Option (List Bool):=some j1
def Hn(O:aH)(U:aK)(v3:(List aO))(H:Int×(List Bool)):Option ((Int×(List Bool))⊕(List Bool)):=(if decide (H.1<v3.length)then gd (0<=H.1/\H.1<v3.length)<|(DM O U (v3.getD H.1.toNat aO.zero).name).bind λ v4=>gd (0<=H.1/\H.1<((H.2.length:Nat):Int))<|some (.inl (i64.wrap (H.1+1),H.2.set H.1.toNat (!v4)))else some (.inr H.2))
def B7(H:aH)(O:aK):Option (List Bool):=(zP H O).bind λ v1=>(if v1.2 then vL H else some false).bind λ v2=>(if (!v1.2)||(!v2)then some [] else(vJ v1.1.bU).bind λ v3=>gd (0<=(v3.length:Int)/\(v3.length:Int)<=(v3.length:Int)/\(v3.length:Int)<=4294967296)<|(lY (Hn H O v3) (0,List.replicate (v3.length:Int).toNat false)).bind (λ z=>Ug z))
@[reducible,instance]def bQq a0 a1:=mkJ (((B7 a0 a1,v1),v2),v3) 0 (@Ug.eq_1) λ j1=>⟨[(8,.own 0 0 j1.length)],[(0,⟨false,1,[A.bool false],j1.map eB⟩)],1⟩
@[reducible,instance]def bQr (O:aH) (U:aK) (v3:(List aO)):=mkL x (@Hn.eq_1 O U v3) λ H=>⟨[(2,.ptr 0 0 0),(3,.ptr 1 0 0),(7,la v3),(8,.own 2 0 H.2.length),(9,.int i64 H.1)],[(0,bx O),(1,bx U),(2,⟨false,1,[A.bool false],H.2.map eB⟩)],3⟩
instance bQs(H:aH)(O:aK):OkP (B7 H O) 207 [ga H,ga O] (λ r=>.sl (r.map eB)):=ok1 (B7.eq_1 H O) Tryz.f207 []
attribute [local irreducible] B7
def Uh(H:aH):Option aH:=some H
def ED(O:aH)(U:aK)(H:Int×aH):Option ((Int×aH)⊕aH):=(if decide (H.1<O.aY.length)then gd (0<=H.1/\H.1<O.aY.length)<|(if !decide ((O.aY.getD H.1.toNat bQ.zero).aM=U)then gd (0<=H.1/\H.1<O.aY.length)<|gd (H.2.aY.length+1<=4294967296)<|some (.inl (i64.wrap (H.1+1),(⟨H.2.aF,H.2.aY++[O.aY.getD H.1.toNat bQ.zero]⟩:aH)))else some (.inl (i64.wrap (H.1+1),H.2)))else some (.inr H.2))
def KN(H:aH)(O:aK)(j1:aH):Option aH:=(lY (ED H O) (0,j1)).bind (λ z=>Uh z)
def EE(O:aH)(U:aK)(H:Int×aH):Option ((Int×aH)⊕aH):=(if decide (H.1<O.aF.length)then gd (0<=H.1/\H.1<O.aF.length)<|(y7 (O.aF.getD H.1.toNat aA.zero) U).bind λ v1=>(if v1 then(B5 (O.aF.getD H.1.toNat aA.zero) U).bind λ v2=>gd (H.2.aF.length+1<=4294967296)<|some (.inl (i64.wrap (H.1+1),(⟨H.2.aF++[{v2.1 with gen:=(O.aF.getD H.1.toNat aA.zero).gen}],H.2.aY⟩:aH)))else gd (H.2.aF.length+1<=4294967296)<|some (.inl (i64.wrap (H.1+1),(⟨H.2.aF++[O.aF.getD H.1.toNat aA.zero],H.2.aY⟩:aH))))else some (.inr H.2))
def Ap(H:aH)(O:aK):Option aH:=(lY (EE H O) (0,(⟨[],[]⟩:aH))).bind (λ z=>KN H O z)
@[reducible,instance]def bQv (O:aH) (U:aK) (j1:aH):=mkJ (KN O U j1) 2 (@Uh.eq_1) λ H=>⟨[(4,.ptr 0 0 0),(5,.ptr 1 0 0)],[(0,bx aH.zero),(1,⟨false,2,aH.enc aH.zero,[[.own 2 0 H.aF.length,.own 3 0 H.aY.length]]⟩),(2,sx H.aF),(3,sx H.aY)],4⟩
@[reducible,instance]def bQw (O:aH) (U:aK):=mkL x (@ED.eq_1 O U) λ H=>⟨[(2,.ptr 0 0 0),(3,.ptr 1 0 0),(4,.ptr 2 0 0),(5,.ptr 3 0 0),(11,.int i64 H.1)],[(0,bx O),(1,bx U),(2,bx aH.zero),(3,⟨false,2,aH.enc aH.zero,[[.own 4 0 H.2.aF.length,.own 5 0 H.2.aY.length]]⟩),(4,sx H.2.aF),(5,sx H.2.aY)],6⟩
@[reducible,instance]def bQx (H:aH) (O:aK):=mkJ (Ap H O) 0 (@KN.eq_1 H O) λ j1=>⟨[(2,.ptr 0 0 0),(3,.ptr 1 0 0),(4,.ptr 2 0 0),(5,.ptr 3 0 0)],[(0,bx H),(1,bx O),(2,bx aH.zero),(3,⟨false,2,aH.enc aH.zero,[[.own 4 0 j1.aF.length,.own 5 0 j1.aY.length]]⟩),(4,sx j1.aF),(5,sx j1.aY)],6⟩
@[reducible,instance]def bQy (O:aH) (U:aK):=mkL x (@EE.eq_1 O U) λ H=>⟨[(2,.ptr 0 0 0),(3,.ptr 1 0 0),(4,.ptr 2 0 0),(5,.ptr 3 0 0),(6,.int i64 H.1)],[(0,bx O),(1,bx U),(2,bx aH.zero),(3,⟨false,2,aH.enc aH.zero,[[.own 4 0 H.2.aF.length,.own 5 0 H.2.aY.length]]⟩),(4,sx H.2.aF),(5,sx H.2.aY)],6⟩
instance bQz(H:aH)(O:aK):OkP (Ap H O) 96 [ga H,ga O] ga:=⟨λ r h=>by
 refine oN Tryz.f96 [(5,5)] λ E hG U hK=>?_;have hm:Mk (Ap H O):=trivial;unfold Ap at h;refine lW (lX hG ?_);refine lW (lX hG ?_);refine g_gh (.ownb 3 0 8 (aA.enc aA.zero)) ?_;refine g_gh (.ownb 3 1 9 (bQ.enc bQ.zero)) ?_;exact gogo⟩
attribute [local irreducible] Ap
def Ui(H:aP):Option aP:=some H
def Ho(U:bA)(O:(List ByteArray))(H:Int×aP):Option ((Int×aP)⊕aP):=(if decide (H.1<O.length)then gd (0<=H.1/\H.1<O.length)<|(tN U.aQ (O.getD H.1.toNat ⟨#[]⟩)).bind λ v1=>gd (H.2.lower.length+1<=4294967296)<|some (.inl (i64.wrap (H.1+1),(⟨(⟨H.2.aM.site,H.2.aM.inc,H.2.aM.num⟩:aK),H.2.label,H.2.cost,H.2.lower++[(⟨O.getD H.1.toNat ⟨#[]⟩,v1⟩:aO)]⟩:aP)))else some (.inr H.2))
def EF(H:aG)(O:bA)(U:Int)(Y:(List ByteArray)):Option aP:=(lY (Ho O Y) (0,(⟨(⟨H.aM.site,H.aM.inc,H.aM.num⟩:aK),U,i64.wrap (H.cost*i64.wrap (i64.wrap ((H.bF.aQ.length:Int)-(O.aQ.length:Int))+1)),[]⟩:aP))).bind (λ z=>Ui z)
def Uj(H:aG)(O:bA)(U:Int)(Y:(List ByteArray)):Option aP:=EF H O U Y
def Hp(v2:(List aO))(H:(List ByteArray)×Int):Option (((List ByteArray)×Int)⊕(List ByteArray)):=(if decide (H.2<v2.length)then gd (0<=H.2/\H.2<v2.length)<|(x6 H.1 (v2.getD H.2.toNat aO.zero).name).bind λ v3=>some (.inl (v3,i64.wrap (H.2+1)))else some (.inr H.1))
def EG(H:aG)(O:bA)(U:Int)(j1:(List ByteArray)):Option aP:=(if H.bI then(vJ H.bJ.bU).bind λ v2=>(lY (Hp v2) (j1,0)).bind (λ z=>Uj H O U z)else EF H O U j1)
def Hq(O:aG)(U:bA)(H:(List ByteArray)×Int):Option (((List ByteArray)×Int)⊕(List ByteArray)):=(if decide (H.2<((O.bF.aQ.drop (U.aQ.length:Int).toNat).length:Int))then gd (0<=H.2/\H.2<((O.bF.aQ.drop (U.aQ.length:Int).toNat).length:Int))<|(x6 H.1 ((O.bF.aQ.drop (U.aQ.length:Int).toNat).getD H.2.toNat bN.zero).name).bind λ v4=>some (.inl (v4,i64.wrap (H.2+1)))else some (.inr H.1))
def wO(H:aG)(O:bA)(U:Int):Option aP:=gd (0<=(O.aQ.length:Int)/\(O.aQ.length:Int)<=(H.bF.aQ.length:Int)/\(H.bF.aQ.length:Int)<=(H.bF.aQ.length:Int))<|(lY (Hq H O) ([],0)).bind (λ z=>EG H O U z)
@[reducible,instance]def bR6 (O:aG) (U:bA) (Y:Int) (B:(List ByteArray)):=mkJ (EF O U Y B) 4 (@Ui.eq_1) λ H=>⟨[(6,.ptr 0 0 0),(12,.ptr 1 0 0)],[(0,bx aP.zero),(1,⟨false,6,aP.enc aP.zero,[[.int i64 H.aM.site,.int i64 H.aM.inc,.int i64 H.aM.num,.int i64 H.label,.int i64 H.cost,.own 2 0 H.lower.length]]⟩),(2,sx H.lower)],3⟩
@[reducible,instance]def bR7 (U:bA) (O:(List ByteArray)):=mkL x (@Ho.eq_1 U O) λ H=>⟨[(4,.ptr 0 0 0),(6,.ptr 1 0 0),(12,.ptr 2 0 0),(64,.sl (O.map eS)),(65,.int i64 O.length),(66,.int i64 H.1)],[(0,bx U),(1,bx aP.zero),(2,⟨false,6,aP.enc aP.zero,[[.int i64 H.2.aM.site,.int i64 H.2.aM.inc,.int i64 H.2.aM.num,.int i64 H.2.label,.int i64 H.2.cost,.own 3 0 H.2.lower.length]]⟩),(3,sx H.2.lower)],4⟩
@[reducible,instance]def bR8 (H:aG) (O:bA) (U:Int) (j1:(List ByteArray)):=mkJ (EG H O U j1) 999 (@EF.eq_1 H O U) λ Y=>⟨[(2,.int i64 U),(3,.ptr 0 0 0),(4,.ptr 1 0 0),(6,.ptr 2 0 0),(7,.sl (Y.map eS))],[(0,bx H),(1,bx O),(2,bx aP.zero)],3⟩
@[reducible,instance]def bR9 (H:aG) (O:bA) (U:Int) (j1:(List ByteArray)):=mkJ (EG H O U j1,v1) 2 (@Uj.eq_1 H O U) λ Y=>⟨[(2,.int i64 U),(3,.ptr 0 0 0),(4,.ptr 1 0 0),(6,.ptr 2 0 0),(7,.sl (Y.map eS))],[(0,bx H),(1,bx O),(2,bx aP.zero)],3⟩
@[reducible,instance]def bRa (H:aG) (O:bA) (U:Int) (j1:(List ByteArray)) (v2:(List aO)):=mkL (EG H O U j1,v2) (@Hp.eq_1 v2) λ Y=>⟨[(2,.int i64 U),(3,.ptr 0 0 0),(4,.ptr 1 0 0),(6,.ptr 2 0 0),(7,.sl (Y.1.map eS)),(37,la v2),(38,.int i64 v2.length),(39,.int i64 Y.2)],[(0,bx H),(1,bx O),(2,bx aP.zero)],3⟩
@[reducible,instance]def bRb (H:aG) (O:bA) (U:Int):=mkJ (wO H O U) 0 (@EG.eq_1 H O U) λ j1=>⟨[(2,.int i64 U),(3,.ptr 0 0 0),(4,.ptr 1 0 0),(6,.ptr 2 0 0),(7,.sl (j1.map eS))],[(0,bx H),(1,bx O),(2,bx aP.zero)],3⟩
@[reducible,instance]def bRc (H:aG) (O:bA) (U:Int):=mkL (wO H O U) (@Hq.eq_1 H O) λ Y=>⟨[(2,.int i64 U),(3,.ptr 0 0 0),(4,.ptr 1 0 0),(6,.ptr 2 0 0),(7,.sl (Y.1.map eS)),(21,la (H.bF.aQ.drop (O.aQ.length:Int).toNat)),(22,.int i64 ((H.bF.aQ.drop (O.aQ.length:Int).toNat).length:Int)),(23,.int i64 Y.2)],[(0,bx H),(1,bx O),(2,bx aP.zero)],3⟩
instance bRd(H:aG)(O:bA)(U:Int):OkP (wO H O U) 101 [ga H,ga O,.int i64 U] ga:=⟨λ r h=>by
 refine oN Tryz.f101 [(63,34),(12,34)] λ E hG B hK=>?_;have hm:Mk (wO H O U):=trivial;unfold wO at h;refine lW (lX hG ?_);refine lW (lX hG ?_);refine lW (lW ?_);obtain⟨Y,h⟩:=mH h;refine lX hG ?_;refine xN hm h (λ j1 hm h=>?_) ?_
 · try refine g_st ?_
   refine lW (lW (lX hG ?_));refine R2 hm rfl hG h (λ F hm h=>?_) (λ _ h=>?_) (λ _ h=>?_)
   · try refine g_st ?_
     refine lW (lX hG ?_);refine g_gh (.ownb 3 5 3 (aO.enc aO.zero)) ?_;exact gogo
   .exact gogo
   exact gogo
 exact gogo⟩
attribute [local irreducible] wO
def Uk(j1:(List aP))(v3:aP)(H:Unit):Option (List aP):=some (j1++[v3])
def KO(j1:(List aP))(v3:aP)(H:Int):Option (Int⊕(Unit⊕(List aP))):=(if decide (H<((j1.length+1:Nat):Int))then gd (0<=H/\H<(((j1++[v3]).length:Nat):Int))<|(d5 ((j1++[v3]).getD H.toNat aP.zero)).bind λ v4=>(if !v4 then some (.inr (.inr []))else some (.inl (i64.wrap (H+1))))else some (.inr (.inl ())))
def EH(H:aG)(j1:(List aP)):Option (List aP):=(wO H ({bA.zero with}) (-1)).bind λ v3=>gd (j1.length+1<=4294967296)<|(lY (KO j1 v3) 0).bind (λ|.inl z=>Uk j1 v3 z|.inr z=>some z)
def Hr(O:aG)(H:Int×(List aP)):Option ((Int×(List aP))⊕((List aP)⊕(List aP))):=(if decide (0<=H.1)then gd (0<=H.1/\H.1<O.bF.bH.length)<|(i4 O.bF (O.bF.bH.getD H.1.toNat bW.zero).label).bind λ v5=>(if !decide (v5.2.2=0)then some (.inr (.inr []))else gd (0<=H.1/\H.1<O.bF.bH.length)<|(wO O v5.1 (O.bF.bH.getD H.1.toNat bW.zero).label).bind λ v6=>gd (H.2.length+1<=4294967296)<|some (.inl (i64.wrap (H.1-1),H.2++[v6])))else some (.inr (.inl H.2)))
def B8(H:aG):Option (List aP):=(if !(((!(pC H.aM))||decide (H.cost<1))||decide (1000<H.cost))then uN H.bF else some false).bind λ v1=>(if (!((((!(pC H.aM))||decide (H.cost<1))||decide (1000<H.cost))||(!v1)))&&H.bI then vK H.bJ else some false).bind λ v2=>(if ((((!(pC H.aM))||decide (H.cost<1))||decide (1000<H.cost))||(!v1))||(H.bI&&(!v2))then some [] else(lY (Hr H) (i64.wrap ((H.bF.bH.length:Int)-1),[])).bind (λ|.inl z=>EH H z|.inr z=>some z))
@[reducible,instance]def bRh a0 (j1:(List aP)) (v3:aP):=mkJ (EH a0 j1,v3) 2 (@Uk.eq_1 j1 v3) λ H=>⟨[(3,.own 0 0 (j1++[v3]).length)],[(0,sx (j1++[v3]))],1⟩
@[reducible,instance]def bRi (j1:(List aP)) (v3:aP):=mkL x (@KO.eq_1 j1 v3) λ H=>⟨[(3,.own 0 0 (j1++[v3]).length),(84,.own 0 0 (j1++[v3]).length),(85,.int i64 ((j1.length+1:Nat):Int)),(86,.int i64 H)],[(0,sx (j1++[v3]))],1⟩
@[reducible,instance]def bRj (H:aG):=mkJ ((B8 H,v1),v2) 0 (@EH.eq_1 H) λ j1=>⟨[(1,.ptr 0 0 0),(3,.own 1 0 j1.length)],[(0,bx H),(1,sx j1)],2⟩
@[reducible,instance]def bRk (O:aG):=mkL x (@Hr.eq_1 O) λ H=>⟨[(1,.ptr 0 0 0),(3,.own 1 0 H.2.length),(4,.int i64 H.1)],[(0,bx O),(1,sx H.2)],2⟩
instance bRl(H:aG):OkP (B8 H) 48 [ga H] la:=ok1 (B8.eq_1 H) Tryz.f48 [(3,1)]
attribute [local irreducible] B8
def Ul(j1:Unit):Option Bool:=some true
def KP(O:aL)(H:Int):Option (Int⊕(Unit⊕Bool)):=(if decide (H<O.options.length)then gd (0<=H/\H<O.options.length)<|(d5 (O.options.getD H.toNat aP.zero)).bind λ v3=>(if !v3 then some (.inr (.inr false))else some (.inl (i64.wrap (H+1))))else some (.inr (.inl ())))
def yI (H:aL) (O:Int):Option Bool:=(if decide (O=80)then some (pC H.aM)else(if decide (O=71)then some (Gm H.gen)else(if decide (O=65)then(vH H.aZ.name).bind λ v1=>some (v1&&(((nX H.aZ.aJ&&(!decide (H.kind=1)))&&(!decide (H.kind=4)))||pR H.aZ.aJ))else(if decide (O=89)then some (decide (0<=H.bC)&&decide (H.bC<=7))else(if decide (O=83)then some (decide (0<=H.site)&&decide (H.site<4))else(if decide (O=73)then some (decide (1<=H.inc)&&decide (H.inc<=99))else(if decide (O=82)then some (Gm H.round)else(if decide (O=69)then some (Gm H.epoch)else(if decide (O=76)then some (decide (H.label=(-1))||(decide (1<=H.label)&&decide (H.label<=99)))else(if decide (O=87)then(vL H.state).bind λ v2=>some ((v2&&((!decide (H.kind=7))||decide ((H.state.aF.length:Int)=0)))&&((!decide (H.kind=9))||decide ((H.state.aY.length:Int)=0)))else(if decide (O=79)then(if decide (40<(H.options.length:Int))then some false else(lY (KP H) 0).bind (λ|.inl z=>Ul z|.inr z=>some z))else some true)))))))))))
@[reducible,instance]def bRo a0 a1:=mkJ (yI a0 a1) 1 (@Ul.eq_1) λ j1=>⟨[],[],0⟩
@[reducible,instance]def bRp (H:aL):=mkL x (@KP.eq_1 H) λ O=>⟨[(139,la H.options),(140,.int i64 H.options.length),(141,.int i64 O)],[],0⟩
instance bRq(H:aL)(O:Int):OkP (yI H O) 27 [ga H,.int u8 O] .bool:=ok1 (yI.eq_1 H O) Tryz.f27 []
attribute [local irreducible] yI
def NY(H:(List Int)):Option ((List Int)×Int):=some (H,0)
def Hs(O:aH)(H:(List Int)×Int):Option (((List Int)×Int)⊕(List Int)):=(if decide (H.2<O.aY.length)then gd (0<=H.2/\H.2<O.aY.length)<|(a7 H.1 (O.aY.getD H.2.toNat bQ.zero).aM).bind λ v4=>gd (0<=H.2/\H.2<O.aY.length)<|(qO v4 (O.aY.getD H.2.toNat bQ.zero).gen).bind λ v5=>gd (0<=H.2/\H.2<O.aY.length)<|(Kc v5 (O.aY.getD H.2.toNat bQ.zero).bU).bind λ v6=>some (.inl (v6,i64.wrap (H.2+1)))else some (.inr H.1))
def KQ(H:aH)(j1:(List Int)):Option ((List Int)×Int):=(qO j1 (H.aY.length:Int)).bind λ v3=>(lY (Hs H) (v3,0)).bind (λ z=>NY z)
def NZ(H:(List Int)×Int)(O:(List Int)):Option (((List Int)×Int)⊕(List Int)):=some (.inl (O,i64.wrap (H.2+1)))
def Ht(O:aH)(U H:(List Int)×Int):Option (((List Int)×Int)⊕(List Int)):=(if decide (H.2<(((O.aF.getD U.2.toNat aA.zero).aW).length:Int))then gd (0<=H.2/\H.2<(((O.aF.getD U.2.toNat aA.zero).aW).length:Int))<|(a7 H.1 (((O.aF.getD U.2.toNat aA.zero).aW).getD H.2.toNat aV.zero).aM).bind λ Y=>(b6 Y (((O.aF.getD U.2.toNat aA.zero).aW).getD H.2.toNat aV.zero).aJ).bind λ B=>(qO B (((O.aF.getD U.2.toNat aA.zero).aW).getD H.2.toNat aV.zero).bC).bind λ F=>(qO F (((O.aF.getD U.2.toNat aA.zero).aW).getD H.2.toNat aV.zero).bS).bind λ M=>some (.inl (M,i64.wrap (H.2+1)))else some (.inr H.1))
def KR(U:aH)(H:(List Int)×Int)(Y:(List Int)):Option (((List Int)×Int)⊕(List Int)):=(qO Y (((U.aF.getD H.2.toNat aA.zero).aW).length:Int)).bind λ O=>(lY (Ht U H) (O,0)).bind (λ z=>NZ H z)
def Hu(O:aH)(U H:(List Int)×Int):Option (((List Int)×Int)⊕(List Int)):=(if decide (H.2<(((O.aF.getD U.2.toNat aA.zero).aN).length:Int))then gd (0<=H.2/\H.2<(((O.aF.getD U.2.toNat aA.zero).aN).length:Int))<|(a7 H.1 (((O.aF.getD U.2.toNat aA.zero).aN).getD H.2.toNat aV.zero).aM).bind λ Y=>gd (0<=H.2/\H.2<(((O.aF.getD U.2.toNat aA.zero).aN).length:Int))<|(b6 Y (((O.aF.getD U.2.toNat aA.zero).aN).getD H.2.toNat aV.zero).aJ).bind λ B=>some (.inl (B,i64.wrap (H.2+1)))else some (.inr H.1))
def KS(H:aH)(O:(List Int)×Int)(Y:(List Int)):Option (((List Int)×Int)⊕(List Int)):=(qO Y (((H.aF.getD O.2.toNat aA.zero).aN).length:Int)).bind λ U=>(lY (Hu H O) (U,0)).bind (λ z=>KR H O z)
def Hv(O:aH)(U H:(List Int)×Int):Option (((List Int)×Int)⊕(List Int)):=(if decide (H.2<(((O.aF.getD U.2.toNat aA.zero).aT).length:Int))then gd (0<=H.2/\H.2<(((O.aF.getD U.2.toNat aA.zero).aT).length:Int))<|(a7 H.1 (((O.aF.getD U.2.toNat aA.zero).aT).getD H.2.toNat aX.zero).aM).bind λ Y=>gd (0<=H.2/\H.2<(((O.aF.getD U.2.toNat aA.zero).aT).length:Int))<|(b6 Y (((O.aF.getD U.2.toNat aA.zero).aT).getD H.2.toNat aX.zero).aJ).bind λ B=>some (.inl (B,i64.wrap (H.2+1)))else some (.inr H.1))
def EI(O:aH)(H:(List Int)×Int):Option (((List Int)×Int)⊕(List Int)):=(if decide (H.2<O.aF.length)then gd (0<=H.2/\H.2<O.aF.length)<|(Bg H.1 ((O.aF.getD H.2.toNat aA.zero).aB).name).bind λ F=>(qO F ((O.aF.getD H.2.toNat aA.zero).aB).kind).bind λ M=>(qO M ((O.aF.getD H.2.toNat aA.zero).aB).aU).bind λ v9=>(qO v9 ((O.aF.getD H.2.toNat aA.zero).aB).home).bind λ U=>(qO U (O.aF.getD H.2.toNat aA.zero).gen).bind λ Y=>(qO Y (((O.aF.getD H.2.toNat aA.zero).aT).length:Int)).bind λ B=>(lY (Hv O H) (B,0)).bind (λ z=>KS O H z)else some (.inr H.1))
def B9(H:aH):Option ((List Int)×Int):=(vL H).bind λ v1=>(if !v1 then some ([],2)else(qO [] (H.aF.length:Int)).bind λ v2=>(lY (EI H) (v2,0)).bind (λ z=>KQ H z))
@[reducible,instance]def bS1 a0 j1:=mkJ (KQ a0 j1,v1) 8 (@NY.eq_1) λ H=>⟨[(4,.sl (H.map (eI u8)))],[],0⟩
@[reducible,instance]def bS2 (H:aH):=mkL x (@Hs.eq_1 H) λ O=>⟨[(1,.ptr 0 0 0),(4,.sl (O.1.map (eI u8))),(12,.int i64 O.2)],[(0,bx H)],1⟩
@[reducible,instance]def bS3 (H:aH):=mkJ ((B9 H,v1),v2) 0 (@KQ.eq_1 H) λ j1=>⟨[(1,.ptr 0 0 0),(4,.sl (j1.map (eI u8)))],[(0,bx H)],1⟩
@[reducible,instance]def bS4 (O:aH) (H:(List Int)×Int) j4:=mkJ (KR O H j4,v1) 6 (@NZ.eq_1 H) λ U=>⟨[(1,.ptr 0 0 0),(4,.sl (U.map (eI u8))),(5,.int i64 H.2)],[(0,bx O)],1⟩
@[reducible,instance]def bS5 (H:aH) (O:(List Int)×Int):=mkL x (@Ht.eq_1 H O) λ U=>⟨[(1,.ptr 0 0 0),(4,.sl (U.1.map (eI u8))),(5,.int i64 O.2),(6,.ptr 1 0 0),(10,.int i64 U.2)],[(0,bx H),(1,bx (H.aF.getD O.2.toNat aA.zero))],2⟩
@[reducible,instance]def bS6 (H:aH) (O:(List Int)×Int) j3:=mkJ (KS H O j3,v1) 4 (@KR.eq_1 H O) λ U=>⟨[(1,.ptr 0 0 0),(4,.sl (U.map (eI u8))),(5,.int i64 O.2),(6,.ptr 1 0 0)],[(0,bx H),(1,bx (H.aF.getD O.2.toNat aA.zero))],2⟩
@[reducible,instance]def bS7 (H:aH) (O:(List Int)×Int):=mkL x (@Hu.eq_1 H O) λ U=>⟨[(1,.ptr 0 0 0),(4,.sl (U.1.map (eI u8))),(5,.int i64 O.2),(6,.ptr 1 0 0),(9,.int i64 U.2)],[(0,bx H),(1,bx (H.aF.getD O.2.toNat aA.zero))],2⟩
@[reducible,instance]def bS8 (H:aH) (O:(List Int)×Int):=mkJ ((((((EI H O,v1),v2),v3),v4),v5),v6) 2 (@KS.eq_1 H O) λ U=>⟨[(1,.ptr 0 0 0),(4,.sl (U.map (eI u8))),(5,.int i64 O.2),(6,.ptr 1 0 0)],[(0,bx H),(1,bx (H.aF.getD O.2.toNat aA.zero))],2⟩
@[reducible,instance]def bS9 (H:aH) (O:(List Int)×Int):=mkL x (@Hv.eq_1 H O) λ U=>⟨[(1,.ptr 0 0 0),(4,.sl (U.1.map (eI u8))),(5,.int i64 O.2),(6,.ptr 1 0 0),(8,.int i64 U.2)],[(0,bx H),(1,bx (H.aF.getD O.2.toNat aA.zero))],2⟩
@[reducible,instance]def bSa (H:aH):=mkL x (@EI.eq_1 H) λ O=>⟨[(1,.ptr 0 0 0),(4,.sl (O.1.map (eI u8))),(5,.int i64 O.2)],[(0,bx H)],1⟩
instance bSb(H:aH):OkP (B9 H) 61 [ga H] (λ r=>.tup [.sl (r.1.map (eI u8)),.int i64 r.2]):=ok1 (B9.eq_1 H) Tryz.f61 []
attribute [local irreducible] B9
end
end Ab
end Go.Proofs.YtfmnjkfhahfhgaaGreatDoor
