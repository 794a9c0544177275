import Derived.Test.YtfmnjkfhahfhgaaGreatDoorHm5
import Derived.Test.YtfmnjkfhahfhgaaGreatDoorHm9
namespace Go.Proofs.YtfmnjkfhahfhgaaGreatDoor
namespace Ab
set_option linter.defProp false
open IntKind (i64 u64 u8)
set_option linter.unusedSimpArgs false
set_option linter.unusedVariables false
set_option maxRecDepth 100000
set_option maxHeartbeats 1000000
noncomputable section
variable {T T1 : Type} (x : T) (v1 : T1)
def pI(H:aV):Bool:=(((((mP H.aM&&(mM ({aI.zero with kind:=1,aU:=1}) H.aJ||mM ({aI.zero with kind:=2,aU:=8}) H.aJ))&&decide (0<=H.bC))&&decide (H.bC<=7))&&decide (0<=H.bS))&&decide (H.bS<=3))
def bC4(H:aV):PFn C 304 [ga H] (.bool (pI H)):=by generalize h:pI H=r;refine oN Tryz.f304 [] λ E hG O hK=>?_;have hm:Mk (pI H):=trivial;unfold pI at h;exact gogo
instance bC5(H:aV):OkT 304 [.agg (aV.enc H)] (.bool (pI H)):=⟨bC4 H⟩
def DL(H:aA):Option (List aV):=(Bf [H.aN,H.aW]).bind λ v1=>some v1
instance bC6(H:aA):OkP (DL H) 289 [ga H] la:=ok1 (DL.eq_1 H) Tryz.f289 []
def sS(H:aR):Option (Int×aR):=(sF 1073741824 16 H).bind λ v1=>some (v1.1,v1.2)
instance bC7(H:aR):OkM (sS H) 32 [.ptr 0 0 0] [(0,bx H)] 1 (λ r=>.int i64 r.1) (λ r=>[(0,bx r.2)]) 1:=okm (sS.eq_1 H) (λ r=>[.int i64 r.1]) Tryz.f32 []
def S4(j1:Unit):Option Bool:=some true
def S5(O U:List aP)(H:Int):Option (Int⊕(Unit⊕Bool)):=(if decide (H<O.length)then gd (0<=H/\H<O.length)<|gd (0<=H/\H<U.length)<|(JL (O.getD H.toNat aP.zero) (U.getD H.toNat aP.zero)).bind λ v1=>(if !v1 then some (.inr (.inr false))else some (.inl (i64.wrap (H+1))))else some (.inr (.inl ())))
def Bs(H O:List aP):Option Bool:=(if !decide ((H.length:Int)=(O.length:Int))then some false else(lY (S5 H O) 0).bind (λ|.inl z=>S4 z|.inr z=>some z))
@[reducible,instance]def bC8 a0 a1:=mkJ (Bs a0 a1) 0 (@S4.eq_1) λ j1=>⟨[],[],0⟩
@[reducible,instance]def bC9 (H O:List aP):=mkL x (@S5.eq_1 H O) λ U=>⟨[(1,la O),(2,.clo 37 []),(15,la H),(16,.int i64 H.length),(17,.int i64 U)],[],0⟩
instance zO9(H O:List aP):OkM (Bs H O) 36 [la H,la O,.clo 37 []] [] 0 .bool (λ r=>[]) 0:=okm (Bs.eq_1 H O) (λ r=>[.bool r]) Tryz.f36 []
def Nt(j1:bK×aS):Option (aS×bK):=some (j1.2,j1.1)
@[go_sem] def bCb(j1:bK×aS):St:=⟨[(6,.ptr 1 0 0),(8,.ptr 2 0 0)],[(0,bx j1.1),(1,bx aS.zero),(2,⟨false,5,aS.enc aS.zero,[[.int i64 j1.2.k,.str j1.2.aZ.name,.int i64 j1.2.aZ.aJ.mode,.int i64 j1.2.aZ.aJ.aU,.own 3 0 j1.2.bG.length]]⟩),(3,sx j1.2.bG)],4⟩
def JX(O:(List aO->Int->bK->Option (aS×bK)))(U:List aO)(Y:Int)(v3:Int×bK)(H:Int×bK×aS):Option ((Int×bK×aS)⊕(bK×aS)):=(if decide (H.1<i64.wrap (1+v3.1))then(O U (i64.wrap (Y-1)) H.2.1).bind λ v5=>gd (H.2.2.bG.length+1<=4294967296)<|some (.inl (i64.wrap (H.1+1),v5.2,(⟨H.2.2.k,(⟨H.2.2.aZ.name,(⟨H.2.2.aZ.aJ.mode,H.2.2.aZ.aJ.aU⟩:aC)⟩:aO),H.2.2.bG++[v5.1]⟩:aS)))else some (.inr (H.2.1,H.2.2)))
@[go_sem] def bCd(O:List aO)(U:Int)(v3:Int×bK)(H:Int×bK×aS):St:=⟨[(0,.ptr 0 0 0),(1,la O),(2,.int i64 U),(6,.ptr 1 0 0),(7,.int i64 (i64.wrap (1+v3.1))),(8,.ptr 2 0 0),(9,.int i64 H.1)],[(0,bx H.2.1),(1,bx aS.zero),(2,⟨false,5,aS.enc aS.zero,[[.int i64 H.2.2.k,.str H.2.2.aZ.name,.int i64 H.2.2.aZ.aJ.mode,.int i64 H.2.2.aZ.aJ.aU,.own 3 0 H.2.2.bG.length]]⟩),(3,sx H.2.2.bG)],4⟩
def Gv(O:(List aO->Int->bK->Option (aS×bK)))(H:List aO)(U:Int)(Y:bK):Option (aS×bK):=(if !(decide (U=0))then nQ 4 Y else some (0,Y)).bind λ v1=>(if decide (U=0)||decide (v1.1=0)then(nQ (H.length:Int) v1.2).bind λ v2=>gd (0<=v2.1/\v2.1<H.length)<|some ({aS.zero with aZ:=(H.getD v2.1.toNat aO.zero)},v2.2)else(nQ 3 v1.2).bind λ v3=>(nQ (i64.wrap (1+v3.1)) v3.2).bind λ v4=>(lY (JX O H U v3) (0,v4.2,(⟨i64.wrap (1+v4.1),(⟨aO.zero.name,(⟨aO.zero.aJ.mode,aO.zero.aJ.aU⟩:aC)⟩:aO),[]⟩:aS))).bind (λ z=>Nt z))
def Bt:Nat->(List aO->Int->bK->Option (aS×bK))
 |0=>λ _ _ _=>none
 |n+1=>Gv (Bt n)
def JY(O:List aO)(H:Int)(U:bK):Option (aS×bK):=Bt (H.toNat+1) O H U
def bCg(F:(List aO->Int->bK->Option (aS×bK)))(hrc:∀(O:List aO) (U:Int) (B:bK) (r:aS×bK),F O U B=some r->MFn C 184 [.ptr 0 0 0,la O,.int i64 U] [(0,bx B)] 1 (ga r.1) [(0,bx r.2)] 1)(O:List aO)(U:Int)(B:bK)(r:aS×bK)(h:Gv F O U B=some r):MFn C 184 [.ptr 0 0 0,la O,.int i64 U] [(0,bx B)] 1 (ga r.1) [(0,bx r.2)] 1:=by
 refine oZ Tryz.f184 [(32,18),(8,18)] [ga r.1] λ E hG hN hK=>?_;unfold Gv at h;refine lW (lX hG ?_);refine lW (lW (lX hG ?_));obtain⟨v1,M,h⟩:=lZ h;refine FW [(0,0)] [0] M (λ hc=>(qI 4 B).ok _ hc) rfl ?_;refine mA rfl hG h (λ _ h=>?_) (λ _ h=>?_)
 · refine lW (lX hG ?_)
   obtain⟨v2,hv2,h⟩:=lZ h;obtain⟨y0,h⟩:=mH h;refine mO [(0,0)] [] [0] ((qI (O.length:Int) v1.2).ok _ hv2) rfl rfl ?_;refine mG ?_;exact mW [(0,0)] h
 refine mE ?_;refine lW (lX hG ?_);obtain⟨v3,hv3,h⟩:=lZ h;refine mO [(0,0)] [] [0] ((qI 3 v1.2).ok _ hv3) rfl rfl ?_;refine lW (lX hG ?_);obtain⟨v4,hv4,h⟩:=lZ h;refine mO [(0,0)] [] [0] ((qI (i64.wrap (1+v3.1)) v3.2).ok _ hv4) rfl rfl ?_;refine g_gh (.ownb 2 4 5 (aS.enc aS.zero)) ?_;refine lW (lW (lX hG ?_));refine pU bCb (λ v=>Nt v=some r) ?_ ?_
 · intro j1 h
   unfold Nt at h;refine g_st ?_;refine lW (lX hG ?_);refine g_gh (.fz [3]) ?_;refine mG ?_;exact mW [(0,0)] h
 refine qH (bCd O U v3) hK [(0,0),(1,1),(2,2),(3,3)] h (λ h0 h g1 x0 H Y=>?_);unfold JX at H;refine g_st ?_;refine lW (lW (lX hG ?_));refine mA rfl hG H (λ _ H=>?_) (λ _ H=>?_)
 · refine mE ?_
   refine lW (oG (qD oL hG ?_));obtain⟨v5,hv5,H⟩:=lZ H;obtain⟨z0,H⟩:=mH H;refine vC [(0,0)] [] [0] (hrc O (i64.wrap (U-1)) g1.2.1 _ hv5) rfl rfl ?_;refine lX hG ?_;exact oU hK [(0,0),(1,1),(2,2),(3,4)] H
 refine oI ?_;cases H;cases Y _ rfl;exact mT hK [(0,0),(1,1),(2,2),(3,3)] (g1.2.1,g1.2.2) (by exact h)
def S6:∀(n:Nat) (H:List aO) (O:Int) (U:bK) (r:aS×bK),Bt n H O U=some r->MFn C 184 [.ptr 0 0 0,la H,.int i64 O] [(0,bx U)] 1 (ga r.1) [(0,bx r.2)] 1
 |0,_,_,_,_,h=>nomatch h
 |n+1,H,O,U,r,h=>bCg (Bt n) (S6 n) H O U r h
instance bCi(H:List aO)(O:Int)(U:bK):OkM (JY H O U) 184 [.ptr 0 0 0,la H,.int i64 O] [(0,bx U)] 1 (λ r=>ga r.1) (λ r=>[(0,bx r.2)]) 1:=⟨λ r h=>S6 _ H O U r h⟩
def S7(j1:(List aK)):Option (List aK):=some j1
def Nu(H:Int×(List aK))(O:(List aK)):Option ((Int×(List aK))⊕(List aK)):=some (.inl (i64.wrap (H.1+1),O))
def Gw(H:Int×(List aK)):Option ((Int×(List aK))⊕(List aK)):=gd (decide (0<H.1)=true->0<=i64.wrap (H.1-1)/\i64.wrap (H.1-1)<((H.2.length:Nat):Int))<|gd (decide (0<H.1)=true->0<=H.1/\H.1<((H.2.length:Nat):Int))<|(if decide (0<H.1)&&decide (0<vG (H.2.getD (i64.wrap (H.1-1)).toNat aK.zero) (H.2.getD H.1.toNat aK.zero))then gd (0<=i64.wrap (H.1-1)/\i64.wrap (H.1-1)<((H.2.length:Nat):Int))<|gd (0<=H.1/\H.1<((H.2.length:Nat):Int))<|gd (0<=i64.wrap (H.1-1)/\i64.wrap (H.1-1)<((H.2.length:Nat):Int))<|gd (0<=H.1/\H.1<((H.2.length:Nat):Int))<|some (.inl (i64.wrap (H.1-1),(H.2.set (i64.wrap (H.1-1)).toNat (H.2.getD H.1.toNat aK.zero)).set H.1.toNat (H.2.getD (i64.wrap (H.1-1)).toNat aK.zero)))else some (.inr H.2))
def Bu(O:List aK)(H:Int×(List aK)):Option ((Int×(List aK))⊕(List aK)):=(if decide (H.1<O.length)then gd (0<=H.1/\H.1<O.length)<|(zW H.2 (O.getD H.1.toNat aK.zero)).bind λ v1=>(if v1 then some (.inl (i64.wrap (H.1+1),H.2))else gd (0<=H.1/\H.1<O.length)<|gd (H.2.length+1<=4294967296)<|(lY Gw (((H.2.length:Nat):Int),H.2++[O.getD H.1.toNat aK.zero])).bind (λ z=>Nu H z))else some (.inr H.2))
def b5(H:List aK):Option (List aK):=(lY (Bu H) (0,[])).bind (λ z=>S7 z)
@[reducible,instance]def bCl a0:=mkJ (b5 a0) 0 (@S7.eq_1) λ j1=>⟨[(3,.own 0 0 j1.length)],[(0,sx j1)],1⟩
@[reducible,instance]def bCm (O:List aK) (H:Int×(List aK)):=mkJ (Bu O H,v1) 2 (@Nu.eq_1 H) λ U=>⟨[(0,la O),(3,.own 0 0 U.length),(4,.int i64 H.1)],[(0,sx U)],1⟩
@[reducible,instance]def bCn (O:List aK) (U:Int×(List aK)):=mkL (Bu O U,v1) (@Gw.eq_1) λ H=>⟨[(0,la O),(3,.own 0 0 H.2.length),(4,.int i64 U.1),(5,.int i64 H.1)],[(0,sx H.2)],1⟩
@[reducible,instance]def bCo (O:List aK):=mkL x (@Bu.eq_1 O) λ H=>⟨[(0,la O),(3,.own 0 0 H.2.length),(4,.int i64 H.1)],[(0,sx H.2)],1⟩
instance bCp(H:List aK):OkP (b5 H) 135 [la H] la:=ok1 (b5.eq_1 H) Tryz.f135 [(3,1)]
def S8(j1:(List aO)):Option (List aO):=some j1
def JZ(O:List aA)(U:aK)(H:Int×(List aO)):Option ((Int×(List aO))⊕(List aO)):=(if decide (H.1<O.length)then gd (0<=H.1/\H.1<O.length)<|(rY (O.getD H.1.toNat aA.zero) U).bind λ v1=>(if !(nX v1)then gd (0<=H.1/\H.1<O.length)<|gd (H.2.length+1<=4294967296)<|some (.inl (i64.wrap (H.1+1),H.2++[(⟨((O.getD H.1.toNat aA.zero).aB).name,v1⟩:aO)]))else some (.inl (i64.wrap (H.1+1),H.2)))else some (.inr H.2))
def Bv(H:List aA)(O:aK):Option (List aO):=(lY (JZ H O) (0,[])).bind (λ z=>S8 z)
@[reducible,instance]def bCs a0 a1:=mkJ (Bv a0 a1) 0 (@S8.eq_1) λ j1=>⟨[(5,.own 0 0 j1.length)],[(0,sx j1)],1⟩
@[reducible,instance]def bCt (O:List aA) (U:aK):=mkL x (@JZ.eq_1 O U) λ H=>⟨[(0,la O),(3,.ptr 0 0 0),(5,.own 1 0 H.2.length),(6,.int i64 H.1)],[(0,bx U),(1,sx H.2)],2⟩
instance bCu(H:List aA)(O:aK):OkP (Bv H O) 140 [la H,ga O] la:=ok1 (Bv.eq_1 H O) Tryz.f140 [(5,1)]
def DM(H:aH)(O:aK)(U:ByteArray):Option Bool:=(sR H.aF U).bind λ v1=>(if decide (v1<0)then some false else gd (0<=v1/\v1<H.aF.length)<|(uG (H.aF.getD v1.toNat aA.zero) O).bind λ v2=>some v2.2)
instance bCv(H:aH)(O:aK)(U:ByteArray):OkP (DM H O U) 244 [ga H,ga O,.str U] .bool:=ok1 (DM.eq_1 H O U) Tryz.f244 []
def J0(j1:Unit):Option Bool:=some true
def Gx(O U:List aP)(H:Int):Option (Int⊕(Unit⊕Bool)):=(if decide (H<O.length)then gd (0<=H/\H<O.length)<|gd (0<=H/\H<U.length)<|(Gn (O.getD H.toNat aP.zero) (U.getD H.toNat aP.zero)).bind λ v1=>(if !v1 then some (.inr (.inr false))else some (.inl (i64.wrap (H+1))))else some (.inr (.inl ())))
def uJ(H O:List aP):Option Bool:=(if !decide ((H.length:Int)=(O.length:Int))then some false else(lY (Gx H O) 0).bind (λ|.inl z=>J0 z|.inr z=>some z))
@[reducible,instance]def bCy a0 a1:=mkJ (uJ a0 a1) 0 (@J0.eq_1) λ j1=>⟨[],[],0⟩
@[reducible,instance]def bCz (H O:List aP):=mkL x (@Gx.eq_1 H O) λ U=>⟨[(0,la H),(1,la O),(5,.int i64 U)],[],0⟩
instance bD0(H O:List aP):OkP (uJ H O) 35 [la H,la O] .bool:=ok1 (uJ.eq_1 H O) Tryz.f35 []
def b6(O:List Int)(H:aC):Option (List Int):=(qO O H.mode).bind λ v1=>(qO v1 H.aU).bind λ v2=>some v2
instance bD1(H:List Int)(O:aC):OkP (b6 H O) 113 [.sl (H.map (eI u8)),ga O] (λ r=>.sl (r.map (eI u8))):=ok1 (b6.eq_1 H O) Tryz.f113 []
end
end Ab
end Go.Proofs.YtfmnjkfhahfhgaaGreatDoor
