import Derived.Test.YtfmnjkfhahfhgaaGreatDoorHm5
import Derived.Test.YtfmnjkfhahfhgaaGreatDoorHm9
namespace Go.Proofs.YtfmnjkfhahfhgaaGreatDoor
namespace Ab
set_option linter.defProp false
open IntKind (i64 u64 u8)
set_option linter.unusedSimpArgs false
set_option linter.unusedVariables false
set_option maxRecDepth 100000
set_option maxHeartbeats 1000000
noncomputable section
variable {T T1 : Type} (x : T) (v1 : T1)
def oY(H:aV):Bool:=(((((mL H.aL&&(mE ({aH.zero with kind:=1,aT:=1}) H.aJ||mE ({aH.zero with kind:=2,aT:=8}) H.aJ))&&decide (0<=H.bD))&&decide (H.bD<=7))&&decide (0<=H.bS))&&decide (H.bS<=3))
def bBz(H:aV):PFn C 304 [ga H] (.bool (oY H)):=by generalize h:oY H=r;refine oC Tryz.f304 [] λ E hG O hK=>?_;have hm:Mk (oY H):=trivial;unfold oY at h;exact gogo
instance bC0(H:aV):OkT 304 [.agg (aV.enc H)] (.bool (oY H)):=⟨bBz H⟩
def CX(H:aA):Option (List aV):=(Ax [H.aN,H.aW]).bind λ v1=>some v1
instance bC1(H:aA):OkP (CX H) 289 [ga H] la:=ok1 (CX.eq_1 H) Tryz.f289 []
def yS(H:aU):Option (Int×aU):=(m8 1073741824 16 H).bind λ v1=>some (v1.1,v1.2)
instance bC2(H:aU):OkM (yS H) 32 [.ptr 0 0 0] [(0,bx H)] 1 (λ r=>.int i64 r.1) (λ r=>[(0,bx r.2)]) 1:=okm (yS.eq_1 H) (λ r=>[.int i64 r.1]) Tryz.f32 []
def RW(j1:Unit):Option Bool:=some true
def RY(O U:List aQ)(H:Int):Option (Int⊕(Unit⊕Bool)):=(if decide (H<O.length)then gd (0<=H/\H<O.length)<|gd (0<=H/\H<U.length)<|(IH (O.getD H.toNat aQ.zero) (U.getD H.toNat aQ.zero)).bind λ v1=>(if !v1 then some (.inr (.inr false))else some (.inl (i64.wrap (H+1))))else some (.inr (.inl ())))
def AJ(H O:List aQ):Option Bool:=(if !decide ((H.length:Int)=(O.length:Int))then some false else(lS (RY H O) 0).bind (λ|.inl z=>RW z|.inr z=>some z))
@[reducible,instance]def bC3 a0 a1:=mkJ (AJ a0 a1) 0 (@RW.eq_1) λ j1=>⟨[],[],0⟩
@[reducible,instance]def bC4 (H O:List aQ):=mkL x (@RY.eq_1 H O) λ U=>⟨[(1,la O),(2,.clo 37 []),(15,la H),(16,.int i64 H.length),(17,.int i64 U)],[],0⟩
instance zM2(H O:List aQ):OkM (AJ H O) 36 [la H,la O,.clo 37 []] [] 0 .bool (λ r=>[]) 0:=okm (AJ.eq_1 H O) (λ r=>[.bool r]) Tryz.f36 []
def Mo(j1:bK×aR):Option (aR×bK):=some (j1.2,j1.1)
@[go_sem] def bC6(j1:bK×aR):St:=⟨[(6,.ptr 1 0 0),(8,.ptr 2 0 0)],[(0,bx j1.1),(1,bx aR.zero),(2,⟨false,5,aR.enc aR.zero,[[.int i64 j1.2.k,.str j1.2.bA.name,.int i64 j1.2.bA.aJ.mode,.int i64 j1.2.bA.aJ.aT,.own 3 0 j1.2.bG.length]]⟩),(3,sx j1.2.bG)],4⟩
def IU(O:(List aO->Int->bK->Option (aR×bK)))(U:List aO)(Y:Int)(v3:Int×bK)(H:Int×bK×aR):Option ((Int×bK×aR)⊕(bK×aR)):=(if decide (H.1<i64.wrap (1+v3.1))then(O U (i64.wrap (Y-1)) H.2.1).bind λ v5=>gd (H.2.2.bG.length+1<=4294967296)<|some (.inl (i64.wrap (H.1+1),v5.2,(⟨H.2.2.k,(⟨H.2.2.bA.name,(⟨H.2.2.bA.aJ.mode,H.2.2.bA.aJ.aT⟩:aC)⟩:aO),H.2.2.bG++[v5.1]⟩:aR)))else some (.inr (H.2.1,H.2.2)))
@[go_sem] def bC8(O:List aO)(U:Int)(v3:Int×bK)(H:Int×bK×aR):St:=⟨[(0,.ptr 0 0 0),(1,la O),(2,.int i64 U),(6,.ptr 1 0 0),(7,.int i64 (i64.wrap (1+v3.1))),(8,.ptr 2 0 0),(9,.int i64 H.1)],[(0,bx H.2.1),(1,bx aR.zero),(2,⟨false,5,aR.enc aR.zero,[[.int i64 H.2.2.k,.str H.2.2.bA.name,.int i64 H.2.2.bA.aJ.mode,.int i64 H.2.2.bA.aJ.aT,.own 3 0 H.2.2.bG.length]]⟩),(3,sx H.2.2.bG)],4⟩
def FF(O:(List aO->Int->bK->Option (aR×bK)))(H:List aO)(U:Int)(Y:bK):Option (aR×bK):=(if !(decide (U=0))then nI 4 Y else some (0,Y)).bind λ v1=>(if decide (U=0)||decide (v1.1=0)then(nI (H.length:Int) v1.2).bind λ v2=>gd (0<=v2.1/\v2.1<H.length)<|some ({aR.zero with bA:=(H.getD v2.1.toNat aO.zero)},v2.2)else(nI 3 v1.2).bind λ v3=>(nI (i64.wrap (1+v3.1)) v3.2).bind λ v4=>(lS (IU O H U v3) (0,v4.2,(⟨i64.wrap (1+v4.1),(⟨aO.zero.name,(⟨aO.zero.aJ.mode,aO.zero.aJ.aT⟩:aC)⟩:aO),[]⟩:aR))).bind (λ z=>Mo z))
def AK:Nat->(List aO->Int->bK->Option (aR×bK))
 |0=>λ _ _ _=>none
 |n+1=>FF (AK n)
def IV(O:List aO)(H:Int)(U:bK):Option (aR×bK):=AK (H.toNat+1) O H U
def bCa(F:(List aO->Int->bK->Option (aR×bK)))(hrc:∀(O:List aO) (U:Int) (B:bK) (r:aR×bK),F O U B=some r->MFn C 184 [.ptr 0 0 0,la O,.int i64 U] [(0,bx B)] 1 (ga r.1) [(0,bx r.2)] 1)(O:List aO)(U:Int)(B:bK)(r:aR×bK)(h:FF F O U B=some r):MFn C 184 [.ptr 0 0 0,la O,.int i64 U] [(0,bx B)] 1 (ga r.1) [(0,bx r.2)] 1:=by
 refine oR Tryz.f184 [(32,18),(8,18)] [ga r.1] λ E hG hN hK=>?_;unfold FF at h;refine lQ (lR hG ?_);refine lQ (lQ (lR hG ?_));obtain⟨v1,M,h⟩:=lT h;refine E7 [(0,0)] [0] M (λ hc=>(pY 4 B).ok _ hc) rfl ?_;refine lU rfl hG h (λ _ h=>?_) (λ _ h=>?_)
 · refine lQ (lR hG ?_)
   obtain⟨v2,hv2,h⟩:=lT h;obtain⟨y0,h⟩:=lZ h;refine mH [(0,0)] [] [0] ((pY (O.length:Int) v1.2).ok _ hv2) rfl rfl ?_;refine lX ?_;exact mQ [(0,0)] h
 refine lW ?_;refine lQ (lR hG ?_);obtain⟨v3,hv3,h⟩:=lT h;refine mH [(0,0)] [] [0] ((pY 3 v1.2).ok _ hv3) rfl rfl ?_;refine lQ (lR hG ?_);obtain⟨v4,hv4,h⟩:=lT h;refine mH [(0,0)] [] [0] ((pY (i64.wrap (1+v3.1)) v3.2).ok _ hv4) rfl rfl ?_;refine g_gh (.ownb 2 4 5 (aR.enc aR.zero)) ?_;refine lQ (lQ (lR hG ?_));refine pL bC6 (λ v=>Mo v=some r) ?_ ?_
 · intro j1 h
   unfold Mo at h;refine g_st ?_;refine lQ (lR hG ?_);refine g_gh (.fz [3]) ?_;refine lX ?_;exact mQ [(0,0)] h
 refine pX (bC8 O U v3) hK [(0,0),(1,1),(2,2),(3,3)] h (λ h0 h g1 x0 H Y=>?_);unfold IU at H;refine g_st ?_;refine lQ (lQ (lR hG ?_));refine lU rfl hG H (λ _ H=>?_) (λ _ H=>?_)
 · refine lW ?_
   refine lQ (nV (pT oB hG ?_));obtain⟨v5,hv5,H⟩:=lT H;obtain⟨z0,H⟩:=lZ H;refine uC [(0,0)] [] [0] (hrc O (i64.wrap (U-1)) g1.2.1 _ hv5) rfl rfl ?_;refine lR hG ?_;exact oL hK [(0,0),(1,1),(2,2),(3,4)] H
 refine nX ?_;cases H;cases Y _ rfl;exact mM hK [(0,0),(1,1),(2,2),(3,3)] (g1.2.1,g1.2.2) (by exact h)
def RZ:∀(n:Nat) (H:List aO) (O:Int) (U:bK) (r:aR×bK),AK n H O U=some r->MFn C 184 [.ptr 0 0 0,la H,.int i64 O] [(0,bx U)] 1 (ga r.1) [(0,bx r.2)] 1
 |0,_,_,_,_,h=>nomatch h
 |n+1,H,O,U,r,h=>bCa (AK n) (RZ n) H O U r h
instance bCc(H:List aO)(O:Int)(U:bK):OkM (IV H O U) 184 [.ptr 0 0 0,la H,.int i64 O] [(0,bx U)] 1 (λ r=>ga r.1) (λ r=>[(0,bx r.2)]) 1:=⟨λ r h=>RZ _ H O U r h⟩
def R0(j1:(List aK)):Option (List aK):=some j1
def Mp(H:Int×(List aK))(O:(List aK)):Option ((Int×(List aK))⊕(List aK)):=some (.inl (i64.wrap (H.1+1),O))
def FG(H:Int×(List aK)):Option ((Int×(List aK))⊕(List aK)):=gd (decide (0<H.1)=true->0<=i64.wrap (H.1-1)/\i64.wrap (H.1-1)<((H.2.length:Nat):Int))<|gd (decide (0<H.1)=true->0<=H.1/\H.1<((H.2.length:Nat):Int))<|(if decide (0<H.1)&&decide (0<uH (H.2.getD (i64.wrap (H.1-1)).toNat aK.zero) (H.2.getD H.1.toNat aK.zero))then gd (0<=i64.wrap (H.1-1)/\i64.wrap (H.1-1)<((H.2.length:Nat):Int))<|gd (0<=H.1/\H.1<((H.2.length:Nat):Int))<|gd (0<=i64.wrap (H.1-1)/\i64.wrap (H.1-1)<((H.2.length:Nat):Int))<|gd (0<=H.1/\H.1<((H.2.length:Nat):Int))<|some (.inl (i64.wrap (H.1-1),(H.2.set (i64.wrap (H.1-1)).toNat (H.2.getD H.1.toNat aK.zero)).set H.1.toNat (H.2.getD (i64.wrap (H.1-1)).toNat aK.zero)))else some (.inr H.2))
def AL(O:List aK)(H:Int×(List aK)):Option ((Int×(List aK))⊕(List aK)):=(if decide (H.1<O.length)then gd (0<=H.1/\H.1<O.length)<|(yK H.2 (O.getD H.1.toNat aK.zero)).bind λ v1=>(if v1 then some (.inl (i64.wrap (H.1+1),H.2))else gd (0<=H.1/\H.1<O.length)<|gd (H.2.length+1<=4294967296)<|(lS FG (((H.2.length:Nat):Int),H.2++[O.getD H.1.toNat aK.zero])).bind (λ z=>Mp H z))else some (.inr H.2))
def yT(H:List aK):Option (List aK):=(lS (AL H) (0,[])).bind (λ z=>R0 z)
@[reducible,instance]def bCf a0:=mkJ (yT a0) 0 (@R0.eq_1) λ j1=>⟨[(3,.own 0 0 j1.length)],[(0,sx j1)],1⟩
@[reducible,instance]def bCg (O:List aK) (H:Int×(List aK)):=mkJ (AL O H,v1) 2 (@Mp.eq_1 H) λ U=>⟨[(0,la O),(3,.own 0 0 U.length),(4,.int i64 H.1)],[(0,sx U)],1⟩
@[reducible,instance]def bCh (O:List aK) (U:Int×(List aK)):=mkL (AL O U,v1) (@FG.eq_1) λ H=>⟨[(0,la O),(3,.own 0 0 H.2.length),(4,.int i64 U.1),(5,.int i64 H.1)],[(0,sx H.2)],1⟩
@[reducible,instance]def bCi (O:List aK):=mkL x (@AL.eq_1 O) λ H=>⟨[(0,la O),(3,.own 0 0 H.2.length),(4,.int i64 H.1)],[(0,sx H.2)],1⟩
instance bCj(H:List aK):OkP (yT H) 135 [la H] la:=ok1 (yT.eq_1 H) Tryz.f135 [(3,1)]
def R1(j1:(List aO)):Option (List aO):=some j1
def IW(O:List aA)(U:aK)(H:Int×(List aO)):Option ((Int×(List aO))⊕(List aO)):=(if decide (H.1<O.length)then gd (0<=H.1/\H.1<O.length)<|(rI (O.getD H.1.toNat aA.zero) U).bind λ v1=>(if !(nP v1)then gd (0<=H.1/\H.1<O.length)<|gd (H.2.length+1<=4294967296)<|some (.inl (i64.wrap (H.1+1),H.2++[(⟨((O.getD H.1.toNat aA.zero).aB).name,v1⟩:aO)]))else some (.inl (i64.wrap (H.1+1),H.2)))else some (.inr H.2))
def AM(H:List aA)(O:aK):Option (List aO):=(lS (IW H O) (0,[])).bind (λ z=>R1 z)
@[reducible,instance]def bCm a0 a1:=mkJ (AM a0 a1) 0 (@R1.eq_1) λ j1=>⟨[(5,.own 0 0 j1.length)],[(0,sx j1)],1⟩
@[reducible,instance]def bCn (O:List aA) (U:aK):=mkL x (@IW.eq_1 O U) λ H=>⟨[(0,la O),(3,.ptr 0 0 0),(5,.own 1 0 H.2.length),(6,.int i64 H.1)],[(0,bx U),(1,sx H.2)],2⟩
instance bCo(H:List aA)(O:aK):OkP (AM H O) 140 [la H,ga O] la:=ok1 (AM.eq_1 H O) Tryz.f140 [(5,1)]
def CY(H:aI)(O:aK)(U:ByteArray):Option Bool:=(rY H.aF U).bind λ v1=>(if decide (v1<0)then some false else gd (0<=v1/\v1<H.aF.length)<|(tH (H.aF.getD v1.toNat aA.zero) O).bind λ v2=>some v2.2)
instance bCp(H:aI)(O:aK)(U:ByteArray):OkP (CY H O U) 244 [ga H,ga O,.str U] .bool:=ok1 (CY.eq_1 H O U) Tryz.f244 []
def IX(j1:Unit):Option Bool:=some true
def FH(O U:List aQ)(H:Int):Option (Int⊕(Unit⊕Bool)):=(if decide (H<O.length)then gd (0<=H/\H<O.length)<|gd (0<=H/\H<U.length)<|(Fy (O.getD H.toNat aQ.zero) (U.getD H.toNat aQ.zero)).bind λ v1=>(if !v1 then some (.inr (.inr false))else some (.inl (i64.wrap (H+1))))else some (.inr (.inl ())))
def tL(H O:List aQ):Option Bool:=(if !decide ((H.length:Int)=(O.length:Int))then some false else(lS (FH H O) 0).bind (λ|.inl z=>IX z|.inr z=>some z))
@[reducible,instance]def bCr a0 a1:=mkJ (tL a0 a1) 0 (@IX.eq_1) λ j1=>⟨[],[],0⟩
@[reducible,instance]def bCs (H O:List aQ):=mkL x (@FH.eq_1 H O) λ U=>⟨[(0,la H),(1,la O),(5,.int i64 U)],[],0⟩
instance bCt(H O:List aQ):OkP (tL H O) 35 [la H,la O] .bool:=ok1 (tL.eq_1 H O) Tryz.f35 []
def yU(O:List Int)(H:aC):Option (List Int):=(qE O H.mode).bind λ v1=>(qE v1 H.aT).bind λ v2=>some v2
instance bCu(H:List Int)(O:aC):OkP (yU H O) 113 [.sl (H.map (eI u8)),ga O] (λ r=>.sl (r.map (eI u8))):=ok1 (yU.eq_1 H O) Tryz.f113 []
end
end Ab
end Go.Proofs.YtfmnjkfhahfhgaaGreatDoor
