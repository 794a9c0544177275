import Derived.Test.YtfmnjkfhahfhgaaGreatDoorHm27
import Derived.Test.YtfmnjkfhahfhgaaGreatDoorHm26
namespace Go.Proofs.YtfmnjkfhahfhgaaGreatDoor
namespace Ab
set_option linter.defProp false
open IntKind (i64 u64 u8)
set_option linter.unusedSimpArgs false
set_option linter.unusedVariables false
set_option maxRecDepth 100000
set_option maxHeartbeats 1000000
noncomputable section
variable {T T1 T2 T3 T4 T5 T6 : Type} (x : T) (v1 : T1) (v2 : T2) (v3 : T3) (v4 : T4) (v5 : T5) (v6 : T6)
attribute [local irreducible] Aj Ak tG Fa uD vF rY wM Al j8 wN yD Cr j9 Am uE Fe An yF Cu Ao wO sP Ap Fh l5 pG sF l6 yG Io oX Ir Fl As uF uG At Cy l8 Fp yJ Au Ix CA CB CC yK wP yL IA m3 f_ref08_holds yN wQ m4 Aw CF CG Ax m8 CH m9 tH Fy qE Ay yO CI Az IH AA CK tI AB CL vG CN qR nI AC CQ rI FA CR wR AE AF CS yP FB Mm AG AH yQ IQ yR tK IT FE AI CX yS AJ IV yT AM CY tL yU n7 AN FJ IZ uI n8 n9 C0 AO vH o4 yW wV AP C2 FL AQ AR I5 AS o5 I8 Jj A0 A1 Jk A2 A4 C6 AT tO o8 yX vK o9 Da AV Jf Jg Db AX Dc AY p5 AZ Dh A9 Dm zA Dn Ba Bb yY p7 MF Dj A5 yZ Bc zB zC p8 zD Dr Dk A6 qG zG DC zH Ds Bd Be Dw Dx Dy Dz Bl uK q8 DA zF p9 Bg q5 q6
def wY(H:aA):Option Bool:=(zG H).bind λ v1=>(if v1 then Bl H else some false).bind λ v2=>some (v1&&v2)
instance bOy(H:aA):OkP (wY H) 161 [ga H] .bool:=ok1 (wY.eq_1 H) Tryz.f161 []
attribute [local irreducible] wY
def S4(j1:Unit):Option Bool:=some true
def JF(O:List aA)(H:Int):Option (Int⊕(Unit⊕Bool)):=(if decide (H<O.length)then gd (0<=H/\H<O.length)<|(wY (O.getD H.toNat aA.zero)).bind λ v1=>gd ((v1&&decide (0<H))=true->0<=i64.wrap (H-1)/\i64.wrap (H-1)<(O.length:Int))<|gd ((v1&&decide (0<H))=true->0<=H/\H<O.length)<|(if (!v1)||(decide (0<H)&&(!Op.bytesLess (((O.getD (i64.wrap (H-1)).toNat aA.zero).aB).name).toList (((O.getD H.toNat aA.zero).aB).name).toList))then some (.inr (.inr false))else some (.inl (i64.wrap (H+1))))else some (.inr (.inl ())))
def q9(H:List aA):Option Bool:=(if decide (8<(H.length:Int))then some false else(lS (JF H) 0).bind (λ|.inl z=>S4 z|.inr z=>some z))
@[reducible,instance]def bP1 a0:=mkJ (q9 a0) 0 (@S4.eq_1) λ j1=>⟨[],[],0⟩
@[reducible,instance]def bP2 (H:List aA):=mkL x (@JF.eq_1 H) λ O=>⟨[(0,la H),(3,.int i64 O)],[],0⟩
instance bP3(H:List aA):OkP (q9 H) 110 [la H] .bool:=ok1 (q9.eq_1 H) Tryz.f110 []
attribute [local irreducible] q9
def wZ(H:List aA):Option Bool:=(q9 H).bind λ v1=>(if v1 then zA H else some []).bind λ v2=>some (v1&&decide ((v2.length:Int)<=8))
instance bP4(H:List aA):OkP (wZ H) 90 [la H] .bool:=ok1 (wZ.eq_1 H) Tryz.f90 []
attribute [local irreducible] wZ
def uL(H:bO):Option Bool:=(p9 H.bU).bind λ v1=>some ((((v1&&decide (0<=H.bD))&&decide (H.bD<=7))&&decide (0<=H.limit))&&decide (H.limit<=1000))
instance bP5(H:bO):OkP (uL H) 99 [ga H] .bool:=ok1 (uL.eq_1 H) Tryz.f99 []
attribute [local irreducible] uL
def S5(j1:(List Bool)):Option (List Bool):=some j1
def JG(O:List aA)(U:aK)(v1:(List aO))(H:Int×(List Bool)):Option ((Int×(List Bool))⊕(List Bool)):=(if decide (H.1<v1.length)then gd (0<=H.1/\H.1<v1.length)<|(rY O (v1.getD H.1.toNat aO.zero).name).bind λ v2=>(if decide (0<=v2)then gd (0<=v2/\v2<O.length)<|gd (0<=v2/\v2<O.length)<|(rI (O.getD v2.toNat aA.zero) U).bind λ v3=>gd (0<=H.1/\H.1<v1.length)<|gd (0<=H.1/\H.1<((H.2.length:Nat):Int))<|some (.inl (i64.wrap (H.1+1),H.2.set H.1.toNat (rJ (O.getD v2.toNat aA.zero).aB v3 (v1.getD H.1.toNat aO.zero).aJ)))else some (.inl (i64.wrap (H.1+1),H.2)))else some (.inr H.2))
def zJ(H:List aA)(O:aK)(U:aR):Option (List Bool):=(uK U).bind λ v1=>gd (0<=(v1.length:Int)/\(v1.length:Int)<=(v1.length:Int)/\(v1.length:Int)<=4294967296)<|(lS (JG H O v1) (0,List.replicate (v1.length:Int).toNat false)).bind (λ z=>S5 z)
@[reducible,instance]def bP8 a0 a1 a2:=mkJ (zJ a0 a1 a2,v1) 0 (@S5.eq_1) λ j1=>⟨[(8,.own 0 0 j1.length)],[(0,⟨false,1,[A.bool false],j1.map eB⟩)],1⟩
@[reducible,instance]def bP9 (O:List aA) (U:aK) (v1:(List aO)):=mkL x (@JG.eq_1 O U v1) λ H=>⟨[(0,la O),(4,.ptr 0 0 0),(7,la v1),(8,.own 1 0 H.2.length),(9,.int i64 H.1)],[(0,bx U),(1,⟨false,1,[A.bool false],H.2.map eB⟩)],2⟩
instance bPa(H:List aA)(O:aK)(U:aR):OkP (zJ H O U) 145 [la H,ga O,ga U] (λ r=>.sl (r.map eB)):=ok1 (zJ.eq_1 H O U) Tryz.f145 []
attribute [local irreducible] zJ
def S6(H:Unit):Option Bool:=some true
def DD(O:bC)(B:aG)(U:(List aO))(H:Int):Option (Int⊕(Unit⊕Bool)):=(if decide (H<O.aF.length)then gd (0<=H/\H<O.aF.length)<|(Be (O.aF.getD H.toNat aA.zero) B U).bind λ Y=>(if !Y then some (.inr (.inr false))else some (.inl (i64.wrap (H+1))))else some (.inr (.inl ())))
def Gm(O:bC)(H:aG)(v2:(List aO))(j1:Unit):Option Bool:=(if !H.bI then(CQ H.bJ ({bO.zero with})).bind λ v3=>(if v3&&decide (H.since=0)then AM O.aF H.aL else some []).bind λ v4=>(if v3&&decide (H.since=0)then wM v2 v4 else some false).bind λ v5=>(if (v3&&decide (H.since=0))&&v5 then AP O.aF H.aL else some []).bind λ v6=>some (((v3&&decide (H.since=0))&&v5)&&decide ((v6.length:Int)=0))else(uL H.bJ).bind λ U=>(if U then m3 O.aF else some []).bind λ M=>(if U then q5 M H.bJ.bU else some 0).bind λ Y=>(if !(((((!U)||(!decide (Y=0)))||decide (H.since<0))||decide (O.now<H.since))||((!decide (H.bJ.limit=0))&&decide (i64.wrap (H.since+H.bJ.limit)<=O.now)))then zJ O.aF H.aL H.bJ.bU else some []).bind λ B=>(if !(((((!U)||(!decide (Y=0)))||decide (H.since<0))||decide (O.now<H.since))||((!decide (H.bJ.limit=0))&&decide (i64.wrap (H.since+H.bJ.limit)<=O.now)))then q6 H.bJ.bU B else some false).bind λ v11=>(if (((((!U)||(!decide (Y=0)))||decide (H.since<0))||decide (O.now<H.since))||((!decide (H.bJ.limit=0))&&decide (i64.wrap (H.since+H.bJ.limit)<=O.now)))||v11 then some false else(uK H.bJ.bU).bind λ F=>(lS (DD O H F) 0).bind (λ|.inl z=>S6 z|.inr z=>some z)))
def DE(U:bC)(v2:(List aO))(O:Int):Option (Int⊕(Unit⊕Bool)):=(if decide (O<v2.length)then gd (0<=O/\O<v2.length)<|(rY U.aF (v2.getD O.toNat aO.zero).name).bind λ H=>gd ((!(decide (H<0)))=true->0<=H/\H<U.aF.length)<|gd ((!(decide (H<0)))=true->0<=O/\O<v2.length)<|(if decide (H<0)||(!(qF (U.aF.getD H.toNat aA.zero).aB (v2.getD O.toNat aO.zero).aJ))then some (.inr (.inr false))else some (.inl (i64.wrap (O+1))))else some (.inr (.inl ())))
def r7(O:bC)(H:aG):Option Bool:=(if !(((!(oU H.aL))||decide (H.cost<1))||decide (1000<H.cost))then tO H.bF else some false).bind λ v1=>(if (((((!(oU H.aL))||decide (H.cost<1))||decide (1000<H.cost))||(!v1))||decide (H.gen<0))||decide (1073741824<H.gen)then some false else(AA H.bF).bind λ v2=>(lS (DE O v2) 0).bind (λ|.inl z=>Gm O H v2 z|.inr z=>some z))
@[reducible,instance]def bPd a0 a1 v2 j1:=mkJ ((((((Gm a0 a1 v2 j1,v1),v2),v3),v4),v5),v6) 2 (@S6.eq_1) λ H=>⟨[],[],0⟩
@[reducible,instance]def bPe (O:bC) (U:aG) (H:(List aO)):=mkL x (@DD.eq_1 O U H) λ Y=>⟨[(2,.ptr 0 0 0),(3,.ptr 1 0 0),(9,la H),(10,.int i64 Y)],[(0,bx O),(1,bx U)],2⟩
@[reducible,instance]def bPf (H:bC) (O:aG) (v2:(List aO)):=mkJ ((r7 H O,v1),v2) 0 (@Gm.eq_1 H O v2) λ j1=>⟨[(2,.ptr 0 0 0),(3,.ptr 1 0 0),(5,la v2)],[(0,bx H),(1,bx O)],2⟩
@[reducible,instance]def bPg (H:bC) (O:aG) (v2:(List aO)):=mkL ((r7 H O,v1),v2) (@DE.eq_1 H v2) λ U=>⟨[(2,.ptr 0 0 0),(3,.ptr 1 0 0),(5,la v2),(6,.int i64 U)],[(0,bx H),(1,bx O)],2⟩
instance bPh(H:bC)(O:aG):OkP (r7 H O) 93 [ga H,ga O] .bool:=ok1 (r7.eq_1 H O) Tryz.f93 []
attribute [local irreducible] r7
def S7(H:Unit):Option Bool:=some true
def DF(O:bC)(H:Int):Option (Int⊕(Unit⊕Bool)):=(if decide (H<O.aD.length)then gd (0<=H/\H<O.aD.length)<|(r7 O (O.aD.getD H.toNat aG.zero)).bind λ v3=>gd ((v3&&decide (0<H))=true->0<=i64.wrap (H-1)/\i64.wrap (H-1)<(O.aD.length:Int))<|gd ((v3&&decide (0<H))=true->0<=H/\H<O.aD.length)<|(if (!v3)||(decide (0<H)&&decide (0<=uH (O.aD.getD (i64.wrap (H-1)).toNat aG.zero).aL (O.aD.getD H.toNat aG.zero).aL))then some (.inr (.inr false))else some (.inl (i64.wrap (H+1))))else some (.inr (.inl ())))
def Gn(H:bC)(j1:Unit):Option Bool:=(lS (DF H) 0).bind (λ|.inl z=>S7 z|.inr z=>some z)
def DG(O:bC)(v2:(List aK))(H:Int):Option (Int⊕(Unit⊕Bool)):=(if decide (H<v2.length)then gd (0<=H/\H<v2.length)<|(wO O.aD (v2.getD H.toNat aK.zero)).bind λ v4=>(if decide (v4<0)then some (.inr (.inr false))else some (.inl (i64.wrap (H+1))))else some (.inr (.inl ())))
def r8(H:bC):Option Bool:=(if !(decide (H.now<0)||decide (1073741824<H.now))then wZ H.aF else some false).bind λ v1=>(if ((decide (H.now<0)||decide (1073741824<H.now))||(!v1))||decide (8<(H.aD.length:Int))then some false else(zA H.aF).bind λ v2=>(lS (DG H v2) 0).bind (λ|.inl z=>Gn H z|.inr z=>some z))
@[reducible,instance]def bPm a0 j1:=mkJ (Gn a0 j1) 2 (@S7.eq_1) λ H=>⟨[],[],0⟩
@[reducible,instance]def bPn (H:bC):=mkL x (@DF.eq_1 H) λ O=>⟨[(1,.ptr 0 0 0),(5,.int i64 O)],[(0,bx H)],1⟩
@[reducible,instance]def bPo (H:bC):=mkJ ((r8 H,v1),v2) 0 (@Gn.eq_1 H) λ j1=>⟨[(1,.ptr 0 0 0)],[(0,bx H)],1⟩
@[reducible,instance]def bPp (H:bC) (v2:(List aK)):=mkL x (@DG.eq_1 H v2) λ O=>⟨[(1,.ptr 0 0 0),(3,la v2),(4,.int i64 O)],[(0,bx H)],1⟩
instance S8(H:bC):OkP (r8 H) 46 [ga H] .bool:=ok1 (r8.eq_1 H) Tryz.f46 []
attribute [local irreducible] r8
def S9(j1:aA×(List aX)):Option (aA×(List aX)):=some (j1.1,j1.2)
def Gp(H:aA×(List aX))(v4:aV×Bool)(O:aA):Option ((aA×(List aX))⊕(aA×(List aX))):=(wV O.aS v4.1.aL v4.1.aJ).bind λ v5=>gd (H.2.length+1<=4294967296)<|some (.inl ({O with aS:=v5},H.2++[(⟨v4.1.aL,v4.1.aJ⟩:aX)]))
def DH(H:aA×(List aX)):Option ((aA×(List aX))⊕(aA×(List aX))):=(Bl H.1).bind λ v3=>(if !v3 then(Cu H.1).bind λ v4=>(if decide (0<(H.1.aN.length:Int))then gd (0<=1/\1<=(H.1.aN.length:Int)/\(H.1.aN.length:Int)<=(H.1.aN.length:Int))<|Gp H v4 ({H.1 with aN:=(H.1.aN.drop 1)})else gd (0<=1/\1<=(H.1.aW.length:Int)/\(H.1.aW.length:Int)<=(H.1.aW.length:Int))<|Gp H v4 ({H.1 with aW:=(H.1.aW.drop 1)}))else some (.inr (H.1,H.2)))
def Bm(H:aA):Option (aA×(List aX)):=(zG H).bind λ v1=>(if !v1 then some ({aA.zero with},[])else(yN H).bind λ v2=>(lS DH (v2,[])).bind (λ z=>S9 z))
@[reducible,instance]def bPt a0:=mkJ ((Bm a0,v1),v2) 0 (@S9.eq_1) λ j1=>⟨[(1,.ptr 0 0 0),(2,.ptr 1 0 0),(4,.own 2 0 j1.2.length)],[(0,bx j1.1),(1,bx aA.zero),(2,sx j1.2)],3⟩
@[reducible,instance]def bPu (H:aA×(List aX)) (v4:aV×Bool):=mkJ ((DH H,v1),v4) 999 (@Gp.eq_1 H v4) λ O=>⟨[(1,.ptr 0 0 0),(2,.ptr 1 0 0),(4,.own 2 0 H.2.length),(5,.ptr 3 0 0)],[(0,bx O),(1,bx aA.zero),(2,sx H.2),(3,bx v4.1)],4⟩
@[reducible,instance]def bPv:=mkL x (@DH.eq_1) λ H=>⟨[(1,.ptr 0 0 0),(2,.ptr 1 0 0),(4,.own 2 0 H.2.length)],[(0,bx H.1),(1,bx aA.zero),(2,sx H.2)],3⟩
instance bPw(H:aA):OkP (Bm H) 245 [ga H] (λ r=>.tup [ga r.1,la r.2]):=ok1 (Bm.eq_1 H) Tryz.f245 [(4,1)]
attribute [local irreducible] Bm
def xA(H:aA):Option (aA×(List aX)×Int):=(Bm H).bind λ v1=>some ({v1.1 with gen:=(oO H.gen)},v1.2,0)
instance Ta(H:aA):OkP (xA H) 211 [ga H] (λ r=>.tup [ga r.1,la r.2.1,.int i64 r.2.2]):=ok1 (xA.eq_1 H) Tryz.f211 []
attribute [local irreducible] xA
def DI(H:aA)(O:aK):Option (aA×(List aX)×Int):=(wY H).bind λ v1=>(if !v1 then some ({aA.zero with},[],2)else(tH H O).bind λ v2=>(if !v2.2 then some ({aA.zero with},[],10)else(yN H).bind λ v3=>(wN v3.aN O).bind λ v4=>(wN ({v3 with aN:=v4.1}).aW O).bind λ v5=>(xA ({{v3 with aN:=v4.1}with aW:=v5.1})).bind λ v6=>some (v6.1,v6.2.1,v6.2.2)))
instance bPy(H:aA)(O:aK):OkP (DI H O) 280 [ga H,ga O] (λ r=>.tup [ga r.1,la r.2.1,.int i64 r.2.2]):=ok1 (DI.eq_1 H O) Tryz.f280 []
attribute [local irreducible] DI
def DJ(H:List aA)(U:aK)(O:ByteArray):Option ((List aA)×(List bL)×Int):=(wZ H).bind λ v1=>(if !v1 then some ([],[],2)else(rY H O).bind λ v2=>(if decide (v2<0)then some ([],[],10)else gd (0<=v2/\v2<H.length)<|(DI (H.getD v2.toNat aA.zero) U).bind λ v3=>(if !decide (v3.2.2=0)then some ([],[],v3.2.2)else(wQ H v2 v3.1).bind λ v4=>(uF O v3.2.1).bind λ v5=>some (v4,v5,0))))
instance bPz(H:List aA)(O:aK)(U:ByteArray):OkP (DJ H O U) 263 [la H,ga O,.str U] (λ r=>.tup [la r.1,la r.2.1,.int i64 r.2.2]):=ok1 (DJ.eq_1 H O U) Tryz.f263 []
attribute [local irreducible] DJ
def DK(H:aA)(O:aK)(U:aC):Option (aA×(List aX)×Int):=(wY H).bind λ v1=>(if !v1 then some ({aA.zero with},[],2)else(rI H O).bind λ v2=>(if nP v2 then some ({aA.zero with},[],10)else(tH H O).bind λ v3=>(if v3.2 then some ({aA.zero with},[],14)else(if !(rJ H.aB v2 U)then some ({aA.zero with},[],12)else(yN H).bind λ v4=>(if decide (v2=U)then some (v4,[],0)else(wV v4.aS O U).bind λ v5=>(xA ({v4 with aS:=v5})).bind λ v6=>some (v6.1,v6.2.1,v6.2.2))))))
instance bQ0(H:aA)(O:aK)(U:aC):OkP (DK H O U) 264 [ga H,ga O,ga U] (λ r=>.tup [ga r.1,la r.2.1,.int i64 r.2.2]):=ok1 (DK.eq_1 H O U) Tryz.f264 []
attribute [local irreducible] DK
def DL(H:List aA)(O:aO)(v2:Int)(v4:aA×(List aX)×Int)(j1:(List bL)):Option ((List aA)×(List bL)×Int):=(wQ H v2 v4.1).bind λ v5=>(uF O.name v4.2.1).bind λ v6=>gd (j1.length+v6.length<=4294967296)<|some (v5,j1++v6,0)
@[go_sem] def bQ2(H:List aA)(O:aO)(v2:Int)(v4:aA×(List aX)×Int)(j1:(List bL)):St:=⟨[(0,la H),(5,.ptr 0 0 0),(9,.int i64 v2),(11,.ptr 1 0 0),(12,la v4.2.1),(14,.own 2 0 j1.length)],[(0,bx O),(1,bx v4.1),(2,sx j1)],3⟩
def zK(H:List aA)(U:aK)(O:aO):Option ((List aA)×(List bL)×Int):=(wZ H).bind λ v1=>(if !v1 then some ([],[],2)else(rY H O.name).bind λ v2=>(if decide (v2<0)then some ([],[],10)else gd (0<=v2/\v2<H.length)<|(rI (H.getD v2.toNat aA.zero) U).bind λ v3=>gd (0<=v2/\v2<H.length)<|(DK (H.getD v2.toNat aA.zero) U O.aJ).bind λ v4=>(if !decide (v4.2.2=0)then some ([],[],v4.2.2)else(if !decide (v3=O.aJ)then gd (1<=4294967296)<|DL H O v2 v4 [(⟨3,U,O.name,O.aJ⟩:bL)] else DL H O v2 v4 []))))
def Tb(H:List aA)(U:aK)(O:aO)(r:(List aA)×(List bL)×Int)(h:zK H U O=some r):PFn C 236 [la H,ga U,ga O] (.tup [la r.1,la r.2.1,.int i64 r.2.2]):=by
 refine oC Tryz.f236 [(14,1)] λ E hG hN hK=>?_;unfold zK at h;refine lQ (lR hG ?_);refine lQ (lQ (lR hG ?_));obtain⟨v1,Y,h⟩:=lT h;refine mW (λ hg=>(bP4 H).ok _ Y) ?_;refine lU rfl hG h (λ _ h=>?_) (λ _ h=>?_)
 · refine lQ (lR hG ?_)
   refine lX ?_;exact nF h
 refine lW ?_;refine lQ (lR hG ?_);obtain⟨v2,hv2,h⟩:=lT h;refine mW (λ hg=>(Rd H O.name).ok _ hv2) ?_;refine lQ (lQ (lR hG ?_));refine lU rfl hG h (λ _ h=>?_) (λ _ h=>?_)
 · refine lQ (lR hG ?_)
   refine lX ?_;exact nF h
 refine lW ?_;refine lQ ?_;obtain⟨F,h⟩:=lZ h;refine pT oB hG ?_;obtain⟨v3,hv3,h⟩:=lT h;refine rN (λ hg=>(Mj (H.getD v2.toNat aA.zero) U).ok _ hv3) ?_;refine lQ ?_;obtain⟨M,h⟩:=lZ h;refine pT oB hG ?_;obtain⟨v4,hv4,h⟩:=lT h;refine rN (λ hg=>(bQ0 (H.getD v2.toNat aA.zero) U O.aJ).ok _ hv4) ?_;refine lQ (lQ (lR hG ?_));refine lU rfl hG h (λ _ h=>?_) (λ _ h=>?_)
 · refine lQ (lR hG ?_)
   refine lX ?_;exact nF h
 refine lW ?_;refine lQ (lR hG ?_);refine lQ (lQ (lR hG ?_));refine rB (bQ2 H O v2 v4) (λ v=>DL H O v2 v4 v=some r) rfl hG h ?_ (λ _ h=>?_) (λ _ h=>?_)
 · intro j1 h
   unfold DL at h;refine g_st ?_;refine lQ (pT oB hG ?_);obtain⟨v5,hv5,h⟩:=lT h;refine rN (λ hg=>(aYt H v2 v4.1).ok _ hv5) ?_;obtain⟨v6,B,h⟩:=lT h;obtain⟨h0,h⟩:=lZ h;refine rN (λ hg=>(ZT O.name v4.2.1).ok _ B) ?_;refine lX ?_;exact nF h
 · obtain⟨x0,h⟩:=lZ h
   refine lR hG ?_;exact mM hK [(0,1),(1,3),(2,5)] [(⟨3,U,O.name,O.aJ⟩:bL)] (by exact h)
 refine lW ?_;exact mM hK [(0,1),(1,3),(2,4)] [] (by exact h)
instance bQ4(H:List aA)(O:aK)(U:aO):OkP (zK H O U) 236 [la H,ga O,ga U] (λ r=>.tup [la r.1,la r.2.1,.int i64 r.2.2]):=⟨Tb H O U⟩
attribute [local irreducible] zK
def Tc(H:bB)(j1:Unit):Option (Int×Int×(List aA)×(List aG)×(List bL)):=some ((-1),H.c.now,H.c.aF,H.c.aD,H.ev)
def JH(H:bB)(O:Int):Option (Int⊕(Unit⊕(Int×Int×(List aA)×(List aG)×(List bL)))):=(if decide (O<((H.c.aD.length:Nat):Int))then gd (0<=O/\O<((H.c.aD.length:Nat):Int))<|(if (H.c.aD.getD O.toNat aG.zero).bI then zJ H.c.aF (H.c.aD.getD O.toNat aG.zero).aL (((H.c.aD.getD O.toNat aG.zero).bJ).bU)else some []).bind λ v1=>(if (H.c.aD.getD O.toNat aG.zero).bI then q6 ((H.c.aD.getD O.toNat aG.zero).bJ).bU v1 else some false).bind λ v2=>(if (H.c.aD.getD O.toNat aG.zero).bI&&v2 then some (.inr (.inr (O,H.c.now,H.c.aF,H.c.aD,H.ev)))else some (.inl (i64.wrap (O+1))))else some (.inr (.inl ())))
def xB(H:bB):Option (Int×Int×(List aA)×(List aG)×(List bL)):=(lS (JH H) 0).bind (λ|.inl z=>Tc H z|.inr z=>some z)
@[reducible,instance]def bQ6 (H:bB):=mkJ (xB H) 0 (@Tc.eq_1 H) λ j1=>⟨[],[(0,⟨false,4,bB.enc bB.zero,[[.int i64 H.c.now,la H.c.aF,.own 1 0 H.c.aD.length,.own 2 0 H.ev.length]]⟩),(1,sx H.c.aD),(2,sx H.ev)],3⟩
@[reducible,instance]def bQ7 (H:bB):=mkL x (@JH.eq_1 H) λ O=>⟨[(0,.ptr 0 0 0),(3,.int i64 O)],[(0,⟨false,4,bB.enc bB.zero,[[.int i64 H.c.now,la H.c.aF,.own 1 0 H.c.aD.length,.own 2 0 H.ev.length]]⟩),(1,sx H.c.aD),(2,sx H.ev)],3⟩
instance bQ8(H:bB):OkM (xB H) 233 [.ptr 0 0 0] [(0,⟨false,4,bB.enc bB.zero,[[.int i64 H.c.now,la H.c.aF,.own 1 0 H.c.aD.length,.own 2 0 H.ev.length]]⟩),(1,sx H.c.aD),(2,sx H.ev)] 3 (λ r=>.int i64 r.1) (λ r=>[(0,⟨false,4,bB.enc bB.zero,[[.int i64 r.2.1,la r.2.2.1,.own 1 0 r.2.2.2.1.length,.own 2 0 r.2.2.2.2.length]]⟩),(1,sx r.2.2.2.1),(2,sx r.2.2.2.2)]) 3:=okm (xB.eq_1 H) (λ r=>[.int i64 r.1]) Tryz.f233 []
attribute [local irreducible] xB
def zL (O:aA) (H:aK) (U:aC) (Y:Int):Option (aA×(List aX)×Int):=(wY O).bind λ v1=>(if !v1 then some ({aA.zero with},[],2)else(if ((!(oU H))||decide (Y<0))||decide (7<Y)then some ({aA.zero with},[],1)else(if !(qF O.aB U)then some ({aA.zero with},[],12)else(tH O H).bind λ v2=>(if v2.2 then some ({aA.zero with},[],14)else(Cy O).bind λ v3=>(rI v3 H).bind λ v4=>(if rJ v3.aB v4 U then some (v3,[],0)else(if !(nP v4)then(A5 v3.aB v4 U).bind λ v5=>gd (v3.aN.length+1<=4294967296)<|(xA (⟨(⟨v3.aB.name,v3.aB.kind,v3.aB.aT,v3.aB.home⟩:aH),v3.aS,v3.aN++[{aV.zero with aL:=H,aJ:=v5}],v3.aW,v3.gen⟩:aA)).bind λ v6=>some (v6.1,v6.2.1,v6.2.2)else(if decide (8<=i64.wrap ((v3.aS.length:Int)+(v3.aW.length:Int)))then some ({aA.zero with},[],4)else(Ba v3.aW ({aV.zero with aL:=H,aJ:=U,bD:=Y})).bind λ B=>(if !decide (B.2.2=0)then some ({aA.zero with},[],B.2.2)else(xA (⟨(⟨v3.aB.name,v3.aB.kind,v3.aB.aT,v3.aB.home⟩:aH),v3.aS,v3.aN,B.1,v3.gen⟩:aA)).bind λ F=>some (F.1,F.2.1,F.2.2)))))))))
instance bQ9(M:aA)(U:aK)(Y:aC)(a3:Int):OkP (zL M U Y a3) 260 [ga M,ga U,ga Y,.int i64 a3] (λ r=>.tup [ga r.1,la r.2.1,.int i64 r.2.2]):=⟨λ r h=>by
 refine oC Tryz.f260 [(48,1)] λ E hG hN hK=>?_;have hm:Mk (zL M U Y a3):=trivial;unfold zL at h;refine lQ (lR hG ?_);refine lQ (lQ (lR hG ?_));obtain⟨v1,h0,h⟩:=lT h;have hm:=mkP hm v1;refine mW (λ hg=>(bOy M).ok _ h0) ?_;refine lU rfl hG h (λ _ h=>?_) (λ _ h=>?_)
 .exact gogo
 refine lW ?_;refine lQ (lQ (lR hG ?_));refine mW (λ hg=>(ZR U).ok) ?_;refine lU rfl hG h (λ _ h=>?_) (λ _ h=>?_)
 .exact gogo
 refine lW ?_;refine lQ (lQ (lR hG ?_));refine mW (λ hg=>(bAl M.aB Y).ok) ?_;refine lU rfl hG h (λ _ h=>?_) (λ _ h=>?_)
 .exact gogo
 refine lW ?_;refine lQ (lQ (lR hG ?_));obtain⟨v2,hv2,h⟩:=lT h;have hm:=mkP hm v2;refine mW (λ hg=>(aZi M U).ok _ hv2) ?_;refine lQ (lR hG ?_);refine lU rfl hG h (λ _ h=>?_) (λ _ h=>?_)
 .exact gogo
 refine lW ?_;refine lQ (lR hG ?_);obtain⟨v3,hv3,h⟩:=lT h;have hm:=mkP hm v3;refine mH [] [(0,5),(1,6),(2,7)] [0,1,2] (ZV _ _ hv3) rfl rfl ?_;refine g_gh (.fz [5,7]) ?_;refine lQ (lR hG ?_);obtain⟨v4,hv4,h⟩:=lT h;have hm:=mkP hm v4;refine mW (λ hg=>(Mj v3 U).ok _ hv4) ?_;refine lQ (lQ (lR hG ?_));refine mW (λ hg=>(bFp v3.aB v4 Y).ok) ?_;refine lU rfl hG h (λ _ h=>?_) (λ _ h=>?_)
 .exact gogo
 refine lW ?_;refine lQ (lQ (lR hG ?_));refine mW (λ hg=>(ZS v4).ok) ?_;refine lU rfl hG h (λ _ h=>?_) (λ _ h=>?_)
 · refine lQ (pT oB hG ?_)
   obtain⟨v5,hv5,h⟩:=lT h;have hm:=mkP hm v5;obtain⟨u0,h⟩:=lZ h;refine rN (λ hg=>(bJ7 v3.aB v4 Y).ok _ hv5) ?_;refine lQ (lR hG ?_);obtain⟨v6,x0,h⟩:=lT h;have hm:=mkP hm v6;have H:=(Ta (⟨(⟨v3.aB.name,v3.aB.kind,v3.aB.aT,v3.aB.home⟩:aH),v3.aS,(v3.aN++[{aV.zero with aL:=U,aJ:=v5}]),v3.aW,v3.gen⟩:aA)).ok _ x0;have B:∀x:aA,aA.enc x=[A.str x.aB.name,A.int i64 x.aB.kind,A.int i64 x.aB.aT,A.int i64 x.aB.home,A.sl (x.aS.map aX.enc),A.sl (x.aN.map aV.enc),A.sl (x.aW.map aV.enc),A.int i64 x.gen]:=λ x=>rfl
   try dsimp only[ga,la,En.e]at H
   rw[B]at H;dsimp only at H;refine mW (λ hg=>by exact H) ?_;exact gogo
 refine lW ?_;refine lQ (lQ (lR hG ?_));refine lU rfl hG h (λ _ h=>?_) (λ _ h=>?_)
 .exact gogo
 refine lW ?_;refine lQ (lR hG ?_);obtain⟨v7,y0,h⟩:=lT h;have hm:=mkP hm v7;refine mW (λ hg=>(bKd v3.aW ({aV.zero with aL:=U,aJ:=Y,bD:=a3})).ok _ y0) ?_;refine lQ (lQ (lR hG ?_));refine lU rfl hG h (λ _ h=>?_) (λ _ h=>?_)
 .exact gogo
 refine lW ?_;refine lQ (lR hG ?_);refine lQ (lR hG ?_);obtain⟨v8,z0,h⟩:=lT h;have hm:=mkP hm v8;have O:=(Ta (⟨(⟨v3.aB.name,v3.aB.kind,v3.aB.aT,v3.aB.home⟩:aH),v3.aS,v3.aN,v7.1,v3.gen⟩:aA)).ok _ z0;have F:∀x:aA,aA.enc x=[A.str x.aB.name,A.int i64 x.aB.kind,A.int i64 x.aB.aT,A.int i64 x.aB.home,A.sl (x.aS.map aX.enc),A.sl (x.aN.map aV.enc),A.sl (x.aW.map aV.enc),A.int i64 x.gen]:=λ x=>rfl
 try dsimp only[ga,la,En.e]at O
 rw[F]at O;dsimp only at O;refine mW (λ hg=>by exact O) ?_;exact gogo⟩
attribute [local irreducible] zL
def DM(H:List aA)(U:aK)(O:aO)(Y:Int):Option ((List aA)×(List bL)×Int):=(wZ H).bind λ v1=>(if !v1 then some ([],[],2)else(rY H O.name).bind λ v2=>(if decide (v2<0)then some ([],[],10)else(zA H).bind λ v3=>(if decide ((v3.length:Int)=8)then yK v3 U else some false).bind λ v4=>(if decide ((v3.length:Int)=8)&&(!v4)then some ([],[],4)else gd (0<=v2/\v2<H.length)<|(zL (H.getD v2.toNat aA.zero) U O.aJ Y).bind λ v5=>(if !decide (v5.2.2=0)then some ([],[],v5.2.2)else(wQ H v2 v5.1).bind λ v6=>(uF O.name v5.2.1).bind λ B=>some (v6,B,0)))))
instance bQa(H:List aA)(O:aK)(U:aO)(Y:Int):OkP (DM H O U Y) 228 [la H,ga O,ga U,.int i64 Y] (λ r=>.tup [la r.1,la r.2.1,.int i64 r.2.2]):=ok1 (DM.eq_1 H O U Y) Tryz.f228 []
attribute [local irreducible] DM
def Bn(O:aA)(H:aK):Option (aA×(List aX)×Int):=(wY O).bind λ v1=>(if !v1 then some ({aA.zero with},[],2)else(n9 O H).bind λ v2=>(if !v2 then some ({aA.zero with},[],10)else(yN O).bind λ v3=>(wV v3.aS H ({aC.zero with})).bind λ v4=>(wN ({v3 with aS:=v4}).aN H).bind λ v5=>(wN ({{v3 with aS:=v4}with aN:=v5.1}).aW H).bind λ v6=>(xA ({{{v3 with aS:=v4}with aN:=v5.1}with aW:=v6.1})).bind λ U=>some (U.1,U.2.1,U.2.2)))
instance bQb(H:aA)(O:aK):OkP (Bn H O) 151 [ga H,ga O] (λ r=>.tup [ga r.1,la r.2.1,.int i64 r.2.2]):=ok1 (Bn.eq_1 H O) Tryz.f151 []
attribute [local irreducible] Bn
def Td(j1:(List aA)×(List bL)):Option ((List aA)×(List bL)):=some (j1.1,j1.2)
def Gq(U:aK)(H:Int×(List aA)×(List bL))(O:(List bL)):Option ((Int×(List aA)×(List bL))⊕((List aA)×(List bL))):=gd (0<=H.1/\H.1<((H.2.1.length:Nat):Int))<|(Bn (H.2.1.getD H.1.toNat aA.zero) U).bind λ v4=>gd (0<=H.1/\H.1<((H.2.1.length:Nat):Int))<|(uF v4.1.aB.name v4.2.1).bind λ v5=>gd (O.length+v5.length<=4294967296)<|some (.inl (i64.wrap (H.1+1),H.2.1.set H.1.toNat v4.1,O++v5))
def Gr(O:aK)(H:Int×(List aA)×(List bL)):Option ((Int×(List aA)×(List bL))⊕((List aA)×(List bL))):=(if decide (H.1<((H.2.1.length:Nat):Int))then gd (0<=H.1/\H.1<((H.2.1.length:Nat):Int))<|(n9 (H.2.1.getD H.1.toNat aA.zero) O).bind λ v2=>(if !v2 then some (.inl (i64.wrap (H.1+1),H.2.1,H.2.2))else gd (0<=H.1/\H.1<((H.2.1.length:Nat):Int))<|(rI (H.2.1.getD H.1.toNat aA.zero) O).bind λ v3=>(if !(nP v3)then gd (0<=H.1/\H.1<((H.2.1.length:Nat):Int))<|gd (H.2.2.length+1<=4294967296)<|Gq O H (H.2.2++[{bL.zero with kind:=3,aL:=O,name:=((H.2.1.getD H.1.toNat aA.zero).aB).name}])else Gq O H H.2.2))else some (.inr (H.2.1,H.2.2)))
def Bo(H:List aA)(O:aK):Option ((List aA)×(List bL)):=(wZ H).bind λ v1=>(if !v1 then some ([],[])else gd (H.length<=4294967296)<|(lS (Gr O) (0,H,[])).bind (λ z=>Td z))
@[reducible,instance]def bQf a0 a1:=mkJ (Bo a0 a1,v1) 0 (@Td.eq_1) λ j1=>⟨[(6,.own 0 0 j1.1.length),(7,.own 1 0 j1.2.length)],[(0,sx j1.1),(1,sx j1.2)],2⟩
@[reducible,instance]def bQg (O:aK) (H:Int×(List aA)×(List bL)):=mkJ ((Gr O H,v1),v2) 999 (@Gq.eq_1 O H) λ U=>⟨[(3,.ptr 0 0 0),(6,.own 1 0 H.2.1.length),(7,.own 2 0 U.length),(8,.int i64 H.1)],[(0,bx O),(1,sx H.2.1),(2,sx U)],3⟩
@[reducible,instance]def bQh (O:aK):=mkL x (@Gr.eq_1 O) λ H=>⟨[(3,.ptr 0 0 0),(6,.own 1 0 H.2.1.length),(7,.own 2 0 H.2.2.length),(8,.int i64 H.1)],[(0,bx O),(1,sx H.2.1),(2,sx H.2.2)],3⟩
instance bQi(H:List aA)(O:aK):OkP (Bo H O) 238 [la H,ga O] (λ r=>.tup [la r.1,la r.2]):=ok1 (Bo.eq_1 H O) Tryz.f238 [(15,1),(7,1)]
attribute [local irreducible] Bo
def M0(H:aI)(j1:Unit):Option Bool:=(zH H).bind λ v2=>some (decide ((v2.length:Int)<=8))
def JI(O:aI)(H:Int):Option (Int⊕(Unit⊕Bool)):=(if decide (H<O.aY.length)then gd (0<=H/\H<O.aY.length)<|(if oU ((O.aY.getD H.toNat bQ.zero).aL)then p9 ((O.aY.getD H.toNat bQ.zero).bU)else some false).bind λ v3=>gd (((!((((!(oU (O.aY.getD H.toNat bQ.zero).aL))||(!v3))||decide ((O.aY.getD H.toNat bQ.zero).gen<0))||decide (1073741824<(O.aY.getD H.toNat bQ.zero).gen)))&&decide (0<H))=true->0<=i64.wrap (H-1)/\i64.wrap (H-1)<(O.aY.length:Int))<|(if ((((!(oU (O.aY.getD H.toNat bQ.zero).aL))||(!v3))||decide ((O.aY.getD H.toNat bQ.zero).gen<0))||decide (1073741824<(O.aY.getD H.toNat bQ.zero).gen))||(decide (0<H)&&decide (0<=uH (O.aY.getD (i64.wrap (H-1)).toNat bQ.zero).aL (O.aY.getD H.toNat bQ.zero).aL))then some (.inr (.inr false))else some (.inl (i64.wrap (H+1))))else some (.inr (.inl ())))
def uM(H:aI):Option Bool:=(q9 H.aF).bind λ v1=>(if (!v1)||decide (8<(H.aY.length:Int))then some false else(lS (JI H) 0).bind (λ|.inl z=>M0 H z|.inr z=>some z))
@[reducible,instance]def bQl (H:aI):=mkJ (uM H,v1) 0 (@M0.eq_1 H) λ j1=>⟨[(1,.ptr 0 0 0)],[(0,bx H)],1⟩
@[reducible,instance]def bQm (H:aI):=mkL x (@JI.eq_1 H) λ O=>⟨[(1,.ptr 0 0 0),(3,.int i64 O)],[(0,bx H)],1⟩
instance bQn(H:aI):OkP (uM H) 56 [ga H] .bool:=ok1 (uM.eq_1 H) Tryz.f56 []
attribute [local irreducible] uM
def Te(j1:(List Bool)):Option (List Bool):=some j1
def Gs(O:aI)(U:aK)(v3:(List aO))(H:Int×(List Bool)):Option ((Int×(List Bool))⊕(List Bool)):=(if decide (H.1<v3.length)then gd (0<=H.1/\H.1<v3.length)<|(CY O U (v3.getD H.1.toNat aO.zero).name).bind λ v4=>gd (0<=H.1/\H.1<((H.2.length:Nat):Int))<|some (.inl (i64.wrap (H.1+1),H.2.set H.1.toNat (!v4)))else some (.inr H.2))
def Bp(H:aI)(O:aK):Option (List Bool):=(yD H O).bind λ v1=>(if v1.2 then uM H else some false).bind λ v2=>(if (!v1.2)||(!v2)then some [] else(uK v1.1.bU).bind λ v3=>gd (0<=(v3.length:Int)/\(v3.length:Int)<=(v3.length:Int)/\(v3.length:Int)<=4294967296)<|(lS (Gs H O v3) (0,List.replicate (v3.length:Int).toNat false)).bind (λ z=>Te z))
@[reducible,instance]def bQq a0 a1:=mkJ (((Bp a0 a1,v1),v2),v3) 0 (@Te.eq_1) λ j1=>⟨[(8,.own 0 0 j1.length)],[(0,⟨false,1,[A.bool false],j1.map eB⟩)],1⟩
@[reducible,instance]def bQr (O:aI) (U:aK) (v3:(List aO)):=mkL x (@Gs.eq_1 O U v3) λ H=>⟨[(2,.ptr 0 0 0),(3,.ptr 1 0 0),(7,la v3),(8,.own 2 0 H.2.length),(9,.int i64 H.1)],[(0,bx O),(1,bx U),(2,⟨false,1,[A.bool false],H.2.map eB⟩)],3⟩
instance bQs(H:aI)(O:aK):OkP (Bp H O) 207 [ga H,ga O] (λ r=>.sl (r.map eB)):=ok1 (Bp.eq_1 H O) Tryz.f207 []
attribute [local irreducible] Bp
def Tf(H:aI):Option aI:=some H
def DN(O:aI)(U:aK)(H:Int×aI):Option ((Int×aI)⊕aI):=(if decide (H.1<O.aY.length)then gd (0<=H.1/\H.1<O.aY.length)<|(if !decide ((O.aY.getD H.1.toNat bQ.zero).aL=U)then gd (0<=H.1/\H.1<O.aY.length)<|gd (H.2.aY.length+1<=4294967296)<|some (.inl (i64.wrap (H.1+1),(⟨H.2.aF,H.2.aY++[O.aY.getD H.1.toNat bQ.zero]⟩:aI)))else some (.inl (i64.wrap (H.1+1),H.2)))else some (.inr H.2))
def JJ(H:aI)(O:aK)(j1:aI):Option aI:=(lS (DN H O) (0,j1)).bind (λ z=>Tf z)
def DO(O:aI)(U:aK)(H:Int×aI):Option ((Int×aI)⊕aI):=(if decide (H.1<O.aF.length)then gd (0<=H.1/\H.1<O.aF.length)<|(n9 (O.aF.getD H.1.toNat aA.zero) U).bind λ v1=>(if v1 then(Bn (O.aF.getD H.1.toNat aA.zero) U).bind λ v2=>gd (H.2.aF.length+1<=4294967296)<|some (.inl (i64.wrap (H.1+1),(⟨H.2.aF++[{v2.1 with gen:=(O.aF.getD H.1.toNat aA.zero).gen}],H.2.aY⟩:aI)))else gd (H.2.aF.length+1<=4294967296)<|some (.inl (i64.wrap (H.1+1),(⟨H.2.aF++[O.aF.getD H.1.toNat aA.zero],H.2.aY⟩:aI))))else some (.inr H.2))
def r9(H:aI)(O:aK):Option aI:=(lS (DO H O) (0,(⟨[],[]⟩:aI))).bind (λ z=>JJ H O z)
@[reducible,instance]def bQv (O:aI) (U:aK) (j1:aI):=mkJ (JJ O U j1) 2 (@Tf.eq_1) λ H=>⟨[(4,.ptr 0 0 0),(5,.ptr 1 0 0)],[(0,bx aI.zero),(1,⟨false,2,aI.enc aI.zero,[[.own 2 0 H.aF.length,.own 3 0 H.aY.length]]⟩),(2,sx H.aF),(3,sx H.aY)],4⟩
@[reducible,instance]def bQw (O:aI) (U:aK):=mkL x (@DN.eq_1 O U) λ H=>⟨[(2,.ptr 0 0 0),(3,.ptr 1 0 0),(4,.ptr 2 0 0),(5,.ptr 3 0 0),(11,.int i64 H.1)],[(0,bx O),(1,bx U),(2,bx aI.zero),(3,⟨false,2,aI.enc aI.zero,[[.own 4 0 H.2.aF.length,.own 5 0 H.2.aY.length]]⟩),(4,sx H.2.aF),(5,sx H.2.aY)],6⟩
@[reducible,instance]def bQx (H:aI) (O:aK):=mkJ (r9 H O) 0 (@JJ.eq_1 H O) λ j1=>⟨[(2,.ptr 0 0 0),(3,.ptr 1 0 0),(4,.ptr 2 0 0),(5,.ptr 3 0 0)],[(0,bx H),(1,bx O),(2,bx aI.zero),(3,⟨false,2,aI.enc aI.zero,[[.own 4 0 j1.aF.length,.own 5 0 j1.aY.length]]⟩),(4,sx j1.aF),(5,sx j1.aY)],6⟩
@[reducible,instance]def bQy (O:aI) (U:aK):=mkL x (@DO.eq_1 O U) λ H=>⟨[(2,.ptr 0 0 0),(3,.ptr 1 0 0),(4,.ptr 2 0 0),(5,.ptr 3 0 0),(6,.int i64 H.1)],[(0,bx O),(1,bx U),(2,bx aI.zero),(3,⟨false,2,aI.enc aI.zero,[[.own 4 0 H.2.aF.length,.own 5 0 H.2.aY.length]]⟩),(4,sx H.2.aF),(5,sx H.2.aY)],6⟩
instance bQz(H:aI)(O:aK):OkP (r9 H O) 96 [ga H,ga O] ga:=⟨λ r h=>by
 refine oC Tryz.f96 [(5,5)] λ E hG U hK=>?_;have hm:Mk (r9 H O):=trivial;unfold r9 at h;refine lQ (lR hG ?_);refine lQ (lR hG ?_);refine g_gh (.ownb 3 0 8 (aA.enc aA.zero)) ?_;refine g_gh (.ownb 3 1 9 (bQ.enc bQ.zero)) ?_;exact gogo⟩
attribute [local irreducible] r9
def Tg(H:aQ):Option aQ:=some H
def Gt(U:aZ)(O:(List ByteArray))(H:Int×aQ):Option ((Int×aQ)⊕aQ):=(if decide (H.1<O.length)then gd (0<=H.1/\H.1<O.length)<|(sP U.aP (O.getD H.1.toNat ⟨#[]⟩)).bind λ v1=>gd (H.2.lower.length+1<=4294967296)<|some (.inl (i64.wrap (H.1+1),(⟨(⟨H.2.aL.site,H.2.aL.inc,H.2.aL.num⟩:aK),H.2.label,H.2.cost,H.2.lower++[(⟨O.getD H.1.toNat ⟨#[]⟩,v1⟩:aO)]⟩:aQ)))else some (.inr H.2))
def DP(H:aG)(O:aZ)(U:Int)(Y:(List ByteArray)):Option aQ:=(lS (Gt O Y) (0,(⟨(⟨H.aL.site,H.aL.inc,H.aL.num⟩:aK),U,i64.wrap (H.cost*i64.wrap (i64.wrap ((H.bF.aP.length:Int)-(O.aP.length:Int))+1)),[]⟩:aQ))).bind (λ z=>Tg z)
def Th(H:aG)(O:aZ)(U:Int)(Y:(List ByteArray)):Option aQ:=DP H O U Y
def Gu(v2:(List aO))(H:(List ByteArray)×Int):Option (((List ByteArray)×Int)⊕(List ByteArray)):=(if decide (H.2<v2.length)then gd (0<=H.2/\H.2<v2.length)<|(m4 H.1 (v2.getD H.2.toNat aO.zero).name).bind λ v3=>some (.inl (v3,i64.wrap (H.2+1)))else some (.inr H.1))
def DQ(H:aG)(O:aZ)(U:Int)(j1:(List ByteArray)):Option aQ:=(if H.bI then(uK H.bJ.bU).bind λ v2=>(lS (Gu v2) (j1,0)).bind (λ z=>Th H O U z)else DP H O U j1)
def Gv(O:aG)(U:aZ)(H:(List ByteArray)×Int):Option (((List ByteArray)×Int)⊕(List ByteArray)):=(if decide (H.2<((O.bF.aP.drop (U.aP.length:Int).toNat).length:Int))then gd (0<=H.2/\H.2<((O.bF.aP.drop (U.aP.length:Int).toNat).length:Int))<|(m4 H.1 ((O.bF.aP.drop (U.aP.length:Int).toNat).getD H.2.toNat bM.zero).name).bind λ v4=>some (.inl (v4,i64.wrap (H.2+1)))else some (.inr H.1))
def vL(H:aG)(O:aZ)(U:Int):Option aQ:=gd (0<=(O.aP.length:Int)/\(O.aP.length:Int)<=(H.bF.aP.length:Int)/\(H.bF.aP.length:Int)<=(H.bF.aP.length:Int))<|(lS (Gv H O) ([],0)).bind (λ z=>DQ H O U z)
@[reducible,instance]def bR5 (O:aG) (U:aZ) (Y:Int) (B:(List ByteArray)):=mkJ (DP O U Y B) 4 (@Tg.eq_1) λ H=>⟨[(6,.ptr 0 0 0),(12,.ptr 1 0 0)],[(0,bx aQ.zero),(1,⟨false,6,aQ.enc aQ.zero,[[.int i64 H.aL.site,.int i64 H.aL.inc,.int i64 H.aL.num,.int i64 H.label,.int i64 H.cost,.own 2 0 H.lower.length]]⟩),(2,sx H.lower)],3⟩
@[reducible,instance]def bR6 (U:aZ) (O:(List ByteArray)):=mkL x (@Gt.eq_1 U O) λ H=>⟨[(4,.ptr 0 0 0),(6,.ptr 1 0 0),(12,.ptr 2 0 0),(64,.sl (O.map eS)),(65,.int i64 O.length),(66,.int i64 H.1)],[(0,bx U),(1,bx aQ.zero),(2,⟨false,6,aQ.enc aQ.zero,[[.int i64 H.2.aL.site,.int i64 H.2.aL.inc,.int i64 H.2.aL.num,.int i64 H.2.label,.int i64 H.2.cost,.own 3 0 H.2.lower.length]]⟩),(3,sx H.2.lower)],4⟩
@[reducible,instance]def bR7 (H:aG) (O:aZ) (U:Int) (j1:(List ByteArray)):=mkJ (DQ H O U j1) 999 (@DP.eq_1 H O U) λ Y=>⟨[(2,.int i64 U),(3,.ptr 0 0 0),(4,.ptr 1 0 0),(6,.ptr 2 0 0),(7,.sl (Y.map eS))],[(0,bx H),(1,bx O),(2,bx aQ.zero)],3⟩
@[reducible,instance]def bR8 (H:aG) (O:aZ) (U:Int) (j1:(List ByteArray)):=mkJ (DQ H O U j1,v1) 2 (@Th.eq_1 H O U) λ Y=>⟨[(2,.int i64 U),(3,.ptr 0 0 0),(4,.ptr 1 0 0),(6,.ptr 2 0 0),(7,.sl (Y.map eS))],[(0,bx H),(1,bx O),(2,bx aQ.zero)],3⟩
@[reducible,instance]def bR9 (H:aG) (O:aZ) (U:Int) (j1:(List ByteArray)) (v2:(List aO)):=mkL (DQ H O U j1,v2) (@Gu.eq_1 v2) λ Y=>⟨[(2,.int i64 U),(3,.ptr 0 0 0),(4,.ptr 1 0 0),(6,.ptr 2 0 0),(7,.sl (Y.1.map eS)),(37,la v2),(38,.int i64 v2.length),(39,.int i64 Y.2)],[(0,bx H),(1,bx O),(2,bx aQ.zero)],3⟩
@[reducible,instance]def bRa (H:aG) (O:aZ) (U:Int):=mkJ (vL H O U) 0 (@DQ.eq_1 H O U) λ j1=>⟨[(2,.int i64 U),(3,.ptr 0 0 0),(4,.ptr 1 0 0),(6,.ptr 2 0 0),(7,.sl (j1.map eS))],[(0,bx H),(1,bx O),(2,bx aQ.zero)],3⟩
@[reducible,instance]def bRb (H:aG) (O:aZ) (U:Int):=mkL (vL H O U) (@Gv.eq_1 H O) λ Y=>⟨[(2,.int i64 U),(3,.ptr 0 0 0),(4,.ptr 1 0 0),(6,.ptr 2 0 0),(7,.sl (Y.1.map eS)),(21,la (H.bF.aP.drop (O.aP.length:Int).toNat)),(22,.int i64 ((H.bF.aP.drop (O.aP.length:Int).toNat).length:Int)),(23,.int i64 Y.2)],[(0,bx H),(1,bx O),(2,bx aQ.zero)],3⟩
instance bRc(H:aG)(O:aZ)(U:Int):OkP (vL H O U) 101 [ga H,ga O,.int i64 U] ga:=⟨λ r h=>by
 refine oC Tryz.f101 [(63,34),(12,34)] λ E hG B hK=>?_;have hm:Mk (vL H O U):=trivial;unfold vL at h;refine lQ (lR hG ?_);refine lQ (lR hG ?_);refine lQ (lQ ?_);obtain⟨Y,h⟩:=lZ h;refine lR hG ?_;refine wL hm h (λ j1 hm h=>?_) ?_
 · try refine g_st ?_
   refine lQ (lQ (lR hG ?_));refine QV hm rfl hG h (λ F hm h=>?_) (λ _ h=>?_) (λ _ h=>?_)
   · try refine g_st ?_
     refine lQ (lR hG ?_);refine g_gh (.ownb 3 5 3 (aO.enc aO.zero)) ?_;exact gogo
   .exact gogo
   exact gogo
 exact gogo⟩
attribute [local irreducible] vL
def Ti(j1:(List aQ))(v3:aQ)(H:Unit):Option (List aQ):=some (j1++[v3])
def JK(j1:(List aQ))(v3:aQ)(H:Int):Option (Int⊕(Unit⊕(List aQ))):=(if decide (H<((j1.length+1:Nat):Int))then gd (0<=H/\H<(((j1++[v3]).length:Nat):Int))<|(yX ((j1++[v3]).getD H.toNat aQ.zero)).bind λ v4=>(if !v4 then some (.inr (.inr []))else some (.inl (i64.wrap (H+1))))else some (.inr (.inl ())))
def DR(H:aG)(j1:(List aQ)):Option (List aQ):=(vL H ({aZ.zero with}) (-1)).bind λ v3=>gd (j1.length+1<=4294967296)<|(lS (JK j1 v3) 0).bind (λ|.inl z=>Ti j1 v3 z|.inr z=>some z)
def Gw(O:aG)(H:Int×(List aQ)):Option ((Int×(List aQ))⊕((List aQ)⊕(List aQ))):=(if decide (0<=H.1)then gd (0<=H.1/\H.1<O.bF.bH.length)<|(zD O.bF (O.bF.bH.getD H.1.toNat bV.zero).label).bind λ v5=>(if !decide (v5.2.2=0)then some (.inr (.inr []))else gd (0<=H.1/\H.1<O.bF.bH.length)<|(vL O v5.1 (O.bF.bH.getD H.1.toNat bV.zero).label).bind λ v6=>gd (H.2.length+1<=4294967296)<|some (.inl (i64.wrap (H.1-1),H.2++[v6])))else some (.inr (.inl H.2)))
def Bq(H:aG):Option (List aQ):=(if !(((!(oU H.aL))||decide (H.cost<1))||decide (1000<H.cost))then tO H.bF else some false).bind λ v1=>(if (!((((!(oU H.aL))||decide (H.cost<1))||decide (1000<H.cost))||(!v1)))&&H.bI then uL H.bJ else some false).bind λ v2=>(if ((((!(oU H.aL))||decide (H.cost<1))||decide (1000<H.cost))||(!v1))||(H.bI&&(!v2))then some [] else(lS (Gw H) (i64.wrap ((H.bF.bH.length:Int)-1),[])).bind (λ|.inl z=>DR H z|.inr z=>some z))
@[reducible,instance]def bRg a0 (j1:(List aQ)) (v3:aQ):=mkJ (DR a0 j1,v3) 2 (@Ti.eq_1 j1 v3) λ H=>⟨[(3,.own 0 0 (j1++[v3]).length)],[(0,sx (j1++[v3]))],1⟩
@[reducible,instance]def bRh (j1:(List aQ)) (v3:aQ):=mkL x (@JK.eq_1 j1 v3) λ H=>⟨[(3,.own 0 0 (j1++[v3]).length),(84,.own 0 0 (j1++[v3]).length),(85,.int i64 ((j1.length+1:Nat):Int)),(86,.int i64 H)],[(0,sx (j1++[v3]))],1⟩
@[reducible,instance]def bRi (H:aG):=mkJ ((Bq H,v1),v2) 0 (@DR.eq_1 H) λ j1=>⟨[(1,.ptr 0 0 0),(3,.own 1 0 j1.length)],[(0,bx H),(1,sx j1)],2⟩
@[reducible,instance]def bRj (O:aG):=mkL x (@Gw.eq_1 O) λ H=>⟨[(1,.ptr 0 0 0),(3,.own 1 0 H.2.length),(4,.int i64 H.1)],[(0,bx O),(1,sx H.2)],2⟩
instance bRk(H:aG):OkP (Bq H) 48 [ga H] la:=ok1 (Bq.eq_1 H) Tryz.f48 [(3,1)]
attribute [local irreducible] Bq
def Tj(j1:Unit):Option Bool:=some true
def JL(O:aM)(H:Int):Option (Int⊕(Unit⊕Bool)):=(if decide (H<O.options.length)then gd (0<=H/\H<O.options.length)<|(yX (O.options.getD H.toNat aQ.zero)).bind λ v3=>(if !v3 then some (.inr (.inr false))else some (.inl (i64.wrap (H+1))))else some (.inr (.inl ())))
def xC (H:aM) (O:Int):Option Bool:=(if decide (O=80)then some (oU H.aL)else(if decide (O=71)then some (Fx H.gen)else(if decide (O=65)then(uI H.bA.name).bind λ v1=>some (v1&&(((nP H.bA.aJ&&(!decide (H.kind=1)))&&(!decide (H.kind=4)))||pH H.bA.aJ))else(if decide (O=89)then some (decide (0<=H.bD)&&decide (H.bD<=7))else(if decide (O=83)then some (decide (0<=H.site)&&decide (H.site<4))else(if decide (O=73)then some (decide (1<=H.inc)&&decide (H.inc<=99))else(if decide (O=82)then some (Fx H.round)else(if decide (O=69)then some (Fx H.epoch)else(if decide (O=76)then some (decide (H.label=(-1))||(decide (1<=H.label)&&decide (H.label<=99)))else(if decide (O=87)then(uM H.state).bind λ v2=>some ((v2&&((!decide (H.kind=7))||decide ((H.state.aF.length:Int)=0)))&&((!decide (H.kind=9))||decide ((H.state.aY.length:Int)=0)))else(if decide (O=79)then(if decide (40<(H.options.length:Int))then some false else(lS (JL H) 0).bind (λ|.inl z=>Tj z|.inr z=>some z))else some true)))))))))))
@[reducible,instance]def bRn a0 a1:=mkJ (xC a0 a1) 1 (@Tj.eq_1) λ j1=>⟨[],[],0⟩
@[reducible,instance]def bRo (H:aM):=mkL x (@JL.eq_1 H) λ O=>⟨[(139,la H.options),(140,.int i64 H.options.length),(141,.int i64 O)],[],0⟩
instance bRp(H:aM)(O:Int):OkP (xC H O) 27 [ga H,.int u8 O] .bool:=ok1 (xC.eq_1 H O) Tryz.f27 []
attribute [local irreducible] xC
def M1(H:(List Int)):Option ((List Int)×Int):=some (H,0)
def Gx(O:aI)(H:(List Int)×Int):Option (((List Int)×Int)⊕(List Int)):=(if decide (H.2<O.aY.length)then gd (0<=H.2/\H.2<O.aY.length)<|(yO H.1 (O.aY.getD H.2.toNat bQ.zero).aL).bind λ v4=>gd (0<=H.2/\H.2<O.aY.length)<|(qE v4 (O.aY.getD H.2.toNat bQ.zero).gen).bind λ v5=>gd (0<=H.2/\H.2<O.aY.length)<|(I8 v5 (O.aY.getD H.2.toNat bQ.zero).bU).bind λ v6=>some (.inl (v6,i64.wrap (H.2+1)))else some (.inr H.1))
def JM(H:aI)(j1:(List Int)):Option ((List Int)×Int):=(qE j1 (H.aY.length:Int)).bind λ v3=>(lS (Gx H) (v3,0)).bind (λ z=>M1 z)
def M2(H:(List Int)×Int)(O:(List Int)):Option (((List Int)×Int)⊕(List Int)):=some (.inl (O,i64.wrap (H.2+1)))
def Gy(O:aI)(U H:(List Int)×Int):Option (((List Int)×Int)⊕(List Int)):=(if decide (H.2<(((O.aF.getD U.2.toNat aA.zero).aW).length:Int))then gd (0<=H.2/\H.2<(((O.aF.getD U.2.toNat aA.zero).aW).length:Int))<|(yO H.1 (((O.aF.getD U.2.toNat aA.zero).aW).getD H.2.toNat aV.zero).aL).bind λ Y=>(yU Y (((O.aF.getD U.2.toNat aA.zero).aW).getD H.2.toNat aV.zero).aJ).bind λ B=>(qE B (((O.aF.getD U.2.toNat aA.zero).aW).getD H.2.toNat aV.zero).bD).bind λ F=>(qE F (((O.aF.getD U.2.toNat aA.zero).aW).getD H.2.toNat aV.zero).bS).bind λ M=>some (.inl (M,i64.wrap (H.2+1)))else some (.inr H.1))
def JN(U:aI)(H:(List Int)×Int)(Y:(List Int)):Option (((List Int)×Int)⊕(List Int)):=(qE Y (((U.aF.getD H.2.toNat aA.zero).aW).length:Int)).bind λ O=>(lS (Gy U H) (O,0)).bind (λ z=>M2 H z)
def Gz(O:aI)(U H:(List Int)×Int):Option (((List Int)×Int)⊕(List Int)):=(if decide (H.2<(((O.aF.getD U.2.toNat aA.zero).aN).length:Int))then gd (0<=H.2/\H.2<(((O.aF.getD U.2.toNat aA.zero).aN).length:Int))<|(yO H.1 (((O.aF.getD U.2.toNat aA.zero).aN).getD H.2.toNat aV.zero).aL).bind λ Y=>gd (0<=H.2/\H.2<(((O.aF.getD U.2.toNat aA.zero).aN).length:Int))<|(yU Y (((O.aF.getD U.2.toNat aA.zero).aN).getD H.2.toNat aV.zero).aJ).bind λ B=>some (.inl (B,i64.wrap (H.2+1)))else some (.inr H.1))
def JO(H:aI)(O:(List Int)×Int)(Y:(List Int)):Option (((List Int)×Int)⊕(List Int)):=(qE Y (((H.aF.getD O.2.toNat aA.zero).aN).length:Int)).bind λ U=>(lS (Gz H O) (U,0)).bind (λ z=>JN H O z)
def GA(O:aI)(U H:(List Int)×Int):Option (((List Int)×Int)⊕(List Int)):=(if decide (H.2<(((O.aF.getD U.2.toNat aA.zero).aS).length:Int))then gd (0<=H.2/\H.2<(((O.aF.getD U.2.toNat aA.zero).aS).length:Int))<|(yO H.1 (((O.aF.getD U.2.toNat aA.zero).aS).getD H.2.toNat aX.zero).aL).bind λ Y=>gd (0<=H.2/\H.2<(((O.aF.getD U.2.toNat aA.zero).aS).length:Int))<|(yU Y (((O.aF.getD U.2.toNat aA.zero).aS).getD H.2.toNat aX.zero).aJ).bind λ B=>some (.inl (B,i64.wrap (H.2+1)))else some (.inr H.1))
def DS(O:aI)(H:(List Int)×Int):Option (((List Int)×Int)⊕(List Int)):=(if decide (H.2<O.aF.length)then gd (0<=H.2/\H.2<O.aF.length)<|(Ay H.1 ((O.aF.getD H.2.toNat aA.zero).aB).name).bind λ F=>(qE F ((O.aF.getD H.2.toNat aA.zero).aB).kind).bind λ M=>(qE M ((O.aF.getD H.2.toNat aA.zero).aB).aT).bind λ v9=>(qE v9 ((O.aF.getD H.2.toNat aA.zero).aB).home).bind λ U=>(qE U (O.aF.getD H.2.toNat aA.zero).gen).bind λ Y=>(qE Y (((O.aF.getD H.2.toNat aA.zero).aS).length:Int)).bind λ B=>(lS (GA O H) (B,0)).bind (λ z=>JO O H z)else some (.inr H.1))
def Br(H:aI):Option ((List Int)×Int):=(uM H).bind λ v1=>(if !v1 then some ([],2)else(qE [] (H.aF.length:Int)).bind λ v2=>(lS (DS H) (v2,0)).bind (λ z=>JM H z))
@[reducible,instance]def bRz a0 j1:=mkJ (JM a0 j1,v1) 8 (@M1.eq_1) λ H=>⟨[(4,.sl (H.map (eI u8)))],[],0⟩
@[reducible,instance]def bS0 (H:aI):=mkL x (@Gx.eq_1 H) λ O=>⟨[(1,.ptr 0 0 0),(4,.sl (O.1.map (eI u8))),(12,.int i64 O.2)],[(0,bx H)],1⟩
@[reducible,instance]def bS1 (H:aI):=mkJ ((Br H,v1),v2) 0 (@JM.eq_1 H) λ j1=>⟨[(1,.ptr 0 0 0),(4,.sl (j1.map (eI u8)))],[(0,bx H)],1⟩
@[reducible,instance]def bS2 (O:aI) (H:(List Int)×Int) j4:=mkJ (JN O H j4,v1) 6 (@M2.eq_1 H) λ U=>⟨[(1,.ptr 0 0 0),(4,.sl (U.map (eI u8))),(5,.int i64 H.2)],[(0,bx O)],1⟩
@[reducible,instance]def bS3 (H:aI) (O:(List Int)×Int):=mkL x (@Gy.eq_1 H O) λ U=>⟨[(1,.ptr 0 0 0),(4,.sl (U.1.map (eI u8))),(5,.int i64 O.2),(6,.ptr 1 0 0),(10,.int i64 U.2)],[(0,bx H),(1,bx (H.aF.getD O.2.toNat aA.zero))],2⟩
@[reducible,instance]def bS4 (H:aI) (O:(List Int)×Int) j3:=mkJ (JO H O j3,v1) 4 (@JN.eq_1 H O) λ U=>⟨[(1,.ptr 0 0 0),(4,.sl (U.map (eI u8))),(5,.int i64 O.2),(6,.ptr 1 0 0)],[(0,bx H),(1,bx (H.aF.getD O.2.toNat aA.zero))],2⟩
@[reducible,instance]def bS5 (H:aI) (O:(List Int)×Int):=mkL x (@Gz.eq_1 H O) λ U=>⟨[(1,.ptr 0 0 0),(4,.sl (U.1.map (eI u8))),(5,.int i64 O.2),(6,.ptr 1 0 0),(9,.int i64 U.2)],[(0,bx H),(1,bx (H.aF.getD O.2.toNat aA.zero))],2⟩
@[reducible,instance]def bS6 (H:aI) (O:(List Int)×Int):=mkJ ((((((DS H O,v1),v2),v3),v4),v5),v6) 2 (@JO.eq_1 H O) λ U=>⟨[(1,.ptr 0 0 0),(4,.sl (U.map (eI u8))),(5,.int i64 O.2),(6,.ptr 1 0 0)],[(0,bx H),(1,bx (H.aF.getD O.2.toNat aA.zero))],2⟩
@[reducible,instance]def bS7 (H:aI) (O:(List Int)×Int):=mkL x (@GA.eq_1 H O) λ U=>⟨[(1,.ptr 0 0 0),(4,.sl (U.1.map (eI u8))),(5,.int i64 O.2),(6,.ptr 1 0 0),(8,.int i64 U.2)],[(0,bx H),(1,bx (H.aF.getD O.2.toNat aA.zero))],2⟩
@[reducible,instance]def bS8 (H:aI):=mkL x (@DS.eq_1 H) λ O=>⟨[(1,.ptr 0 0 0),(4,.sl (O.1.map (eI u8))),(5,.int i64 O.2)],[(0,bx H)],1⟩
instance bS9(H:aI):OkP (Br H) 61 [ga H] (λ r=>.tup [.sl (r.1.map (eI u8)),.int i64 r.2]):=ok1 (Br.eq_1 H) Tryz.f61 []
attribute [local irreducible] Br
end
end Ab
end Go.Proofs.YtfmnjkfhahfhgaaGreatDoor
