import Derived.Test.YtfmnjkfhahfhgaaGreatDoorAuto
namespace Go.Proofs.YtfmnjkfhahfhgaaGreatDoor
namespace Ab
set_option linter.defProp false
open IntKind (i64 u64 u8)
set_option linter.unusedSimpArgs false
set_option linter.unusedVariables false
set_option maxRecDepth 100000
set_option maxHeartbeats 1000000
noncomputable section
variable {T : Type} (x : T)
def Fc(H:Int):Bool:=(decide (1<=H)&&decide (H<=15))
instance Rg(H:Int):OkT 30 [.int i64 H] (.bool (Fc H)):=ok2 .bool (Fc.eq_1 H) Tryz.f30 []
def qQ(H:Int):Bool:=(decide (1<=H)&&decide (H<=5))
instance aT4(H:Int):OkT 179 [.int i64 H] (.bool (qQ H)):=ok2 .bool (qQ.eq_1 H) Tryz.f179 []
def oG(H:aC):Bool:=(decide (H={aC.zero with}))
instance ZC(H:aC):OkT 286 [.agg (aC.enc H)] (.bool (oG H)):=ok2 .bool (oG.eq_1 H) Tryz.f286 []
def Cr(H:aA):Option (aV×Bool):=(if decide (0<(H.aN.length:Int))then gd (0<=0/\0<(H.aN.length:Int))<|some (H.aN.getD 0 aV.zero,true)else(if decide (0<(H.aW.length:Int))then gd (0<=0/\0<(H.aW.length:Int))<|some (H.aW.getD 0 aV.zero,true)else some ({aV.zero with},false)))
instance aT6(H:aA):OkP (Cr H) 252 [ga H] (λ r=>.tup [ga r.1,.bool r.2]):=ok1 (Cr.eq_1 H) Tryz.f252 []
def Rh(H:List aK)(j1:Unit):Option ((List aK)×(List aK)):=some (H,H)
def L5(H:Int×(List aK)):Option (Int⊕(Unit⊕((List aK)×(List aK)))):=gd (0<=H.1/\H.1<=((H.2.length:Nat):Int)/\((H.2.length:Nat):Int)<=((H.2.length:Nat):Int))<|gd (0<=0/\0<=H.1/\H.1<=((H.2.length:Nat):Int))<|some (.inr (.inr (((H.2.take H.1.toNat++List.replicate (H.2.length-H.1.toNat) aK.zero++H.2.drop (H.1.toNat+(H.2.length-H.1.toNat))).drop 0).take H.1.toNat,H.2.take H.1.toNat++List.replicate (H.2.length-H.1.toNat) aK.zero++H.2.drop (H.1.toNat+(H.2.length-H.1.toNat)))))
def Ic(U:List aK)(O:Int)(H:Int×Int×(List aK)):Option ((Int×Int×(List aK))⊕(Int×(List aK))):=(if decide (H.2.1<(((U.length-O.toNat):Nat):Int))then gd (0<=H.2.1/\H.2.1<(((U.length-O.toNat):Nat):Int)/\O.toNat+(U.length-O.toNat)<=H.2.2.length)<|gd (0<=i64.wrap (H.2.1-1)/\i64.wrap (H.2.1-1)<(((U.length-O.toNat):Nat):Int)/\O.toNat+(U.length-O.toNat)<=H.2.2.length)<|(if !decide (H.2.2.getD (O.toNat+H.2.1.toNat) aK.zero=H.2.2.getD (O.toNat+(i64.wrap (H.2.1-1)).toNat) aK.zero)then gd (0<=H.2.1/\H.2.1<(((U.length-O.toNat):Nat):Int)/\O.toNat+(U.length-O.toNat)<=H.2.2.length)<|gd (0<=H.1/\H.1<((H.2.2.length:Nat):Int))<|some (.inl (i64.wrap (H.1+1),i64.wrap (H.2.1+1),H.2.2.set H.1.toNat (H.2.2.getD (O.toNat+H.2.1.toNat) aK.zero)))else some (.inl (H.1,i64.wrap (H.2.1+1),H.2.2)))else some (.inr (H.1,H.2.2)))
def Fd(O:List aK)(H:Int):Option (Int⊕(Unit⊕((List aK)×(List aK)))):=(if decide (H<((O.length:Nat):Int))then gd (0<=H/\H<((O.length:Nat):Int))<|gd (0<=i64.wrap (H-1)/\i64.wrap (H-1)<((O.length:Nat):Int))<|(if decide (O.getD H.toNat aK.zero=O.getD (i64.wrap (H-1)).toNat aK.zero)then gd (0<=H/\H<=((O.length:Nat):Int)/\((O.length:Nat):Int)<=((O.length:Nat):Int))<|(lS (Ic O H) (H,1,O)).bind (λ z=>L5 z)else some (.inl (i64.wrap (H+1))))else some (.inr (.inl ())))
def j9(H:List aK):Option ((List aK)×(List aK)):=(if decide (((H.length:Nat):Int)<2)then some (H,H)else(lS (Fd H) 1).bind (λ|.inl z=>Rh H z|.inr z=>some z))
@[reducible,instance]def aT7 (H:List aK):=mkJ (j9 H) 0 (@Rh.eq_1 H) λ j1=>⟨[(0,.own 0 0 H.length)],[(0,sx H)],1⟩
@[reducible,instance]def aT8 (O:List aK) (U:Int):=mkJ (Fd O U) 2 (@L5.eq_1) λ H=>⟨[(0,.own 0 0 H.2.length),(3,.int i64 H.1)],[(0,sx H.2)],1⟩
@[reducible,instance]def aT9 (U:List aK) (O:Int):=mkL x (@Ic.eq_1 U O) λ H=>⟨[(0,.own 0 0 H.2.2.length),(3,.int i64 H.1),(4,.own 0 O.toNat (U.length-O.toNat)),(5,.int i64 H.2.1)],[(0,sx H.2.2)],1⟩
@[reducible,instance]def aTa (H:List aK):=mkL x (@Fd.eq_1 H) λ O=>⟨[(0,.own 0 0 H.length),(3,.int i64 O)],[(0,sx H)],1⟩
instance ZD(H:List aK):OkM (j9 H) 259 [.own 0 0 H.length] [(0,sx H)] 1 (λ r=>la r.1) (λ r=>[(0,⟨true,3,aK.enc aK.zero,r.2.map aK.enc⟩)]) 1:=⟨λ r h=>by
 refine oR Tryz.f259 [] [la r.1] λ E hG M hK=>?_;have hm:Mk (j9 H):=trivial;unfold j9 at h;refine lQ (lR hG ?_);refine lQ (lQ (lR hG ?_));refine lU rfl hG h (λ _ h=>?_) (λ _ h=>?_)
 · refine lQ (lR hG ?_)
   refine g_gh (.fz [0]) ?_;exact gogo
 refine lW ?_;refine lQ (lQ (lR hG ?_));refine wL hm h (λ j1 hm h=>?_) ?_
 · try refine g_st ?_
   refine lQ (lR hG ?_);refine g_gh (.fz [0]) ?_;exact gogo
 refine QX hm hK [(0,0)] h (λ g1 y hm kx h=>?_)
 try refine g_st ?_
 refine lQ (lQ (lR hG ?_));refine lU rfl hG h (λ _ h=>?_) (λ _ h=>?_)
 · refine lW ?_
   refine lQ (nV (lQ ?_));obtain⟨O,h⟩:=lZ h;obtain⟨U,h⟩:=lZ h;refine yC oB hG ?_;refine lU rfl hG h (λ _ h=>?_) (λ _ h=>?_)
   · refine lQ ?_
     obtain⟨Y,h⟩:=lZ h;refine lR hG ?_;refine lQ (lQ (lR hG ?_));refine wL hm h (λ j2 hm h=>?_) ?_
     · try refine g_st ?_
       refine lQ ?_;obtain⟨B,h⟩:=lZ h;refine lR hG ?_;refine lQ ?_;obtain⟨F,h⟩:=lZ h;refine lR hG ?_;refine g_gh (.fz [0]) ?_;exact gogo
     exact gogo
   exact gogo
 exact gogo⟩
def Ie(O:Int)(H:aM)(U:Bool):Option aM:=(if U then some ({H with state:={aI.zero with}})else(if decide (O=79)then some ({H with options:=[]})else some H))
@[go_sem] def ZE(H:Int)(O:aM)(U:Bool):St:=⟨[(0,.ptr 0 0 0),(4,.int u8 H),(23,.bool U)],[(0,bx O)],1⟩
def Ig(H:Int)(O:aM)(j1:Bool):Option aM:=(if j1 then some ({O with bA:={aO.zero with}})else(if decide (H=68)then some ({O with done:=false})else(if decide (H=78)then Ie H O (decide (H=78))else Ie H O (decide (H=76)))))
@[go_sem] def ZF(H:Int)(O:aM)(j1:Bool):St:=⟨[(0,.ptr 0 0 0),(4,.int u8 H),(11,.bool j1)],[(0,bx O)],1⟩
def Am(H:Int)(O:aM):Option aM:=(if decide (H=80)then some ({O with aL:={aK.zero with}})else(if decide (H=65)then Ig H O (decide (H=65))else Ig H O (decide (H=97))))
def ZG(H:Int)(O r:aM)(h:Am H O=some r):MFn C 85 [.ptr 0 0 0,.int u8 H] [(0,bx O)] 1 (.tup []) [(0,bx r)] 1:=by
 refine oR Tryz.f85 [] [] λ E hG U hK=>?_;unfold Am at h;refine lQ (lR hG ?_);refine nV (lQ (lR hG ?_));refine lU rfl hG h (λ _ h=>?_) (λ _ h=>?_)
 · refine lR hG ?_
   exact mQ [(0,0)] h
 refine lQ (lQ (lR hG ?_));refine rB (ZF H O) (λ v=>Ig H O v=some r) rfl hG h ?_ (λ _ h=>?_) (λ _ h=>?_)
 · intro j1 h
   unfold Ig at h;refine g_st ?_;refine lU rfl hG h (λ _ h=>?_) (λ _ h=>?_)
   · refine lR hG ?_
     exact mQ [(0,0)] h
   refine lQ (lR hG ?_);refine lU rfl hG h (λ _ h=>?_) (λ _ h=>?_)
   · refine lR hG ?_
     exact mQ [(0,0)] h
   refine lQ (lQ (lR hG ?_));refine rB (ZE H O) (λ v=>Ie H O v=some r) rfl hG h ?_ (λ _ h=>?_) (λ _ h=>?_)
   · intro Y h
     unfold Ie at h;refine g_st ?_;refine lU rfl hG h (λ _ h=>?_) (λ _ h=>?_)
     · refine lR hG ?_
       exact mQ [(0,0)] h
     refine lQ (lR hG ?_);refine lU rfl hG h (λ _ h=>?_) (λ _ h=>?_)
     · refine lR hG ?_
       exact mQ [(0,0)] h
     refine lW ?_;exact mQ [(0,0)] h
   · refine lW ?_
     exact mM hK [(0,0)] (decide (H=78)) (by exact h)
   refine lR hG ?_;exact mM hK [(0,0)] (decide (H=76)) (by exact h)
 · refine lW ?_
   exact mM hK [(0,0)] (decide (H=65)) (by exact h)
 refine lR hG ?_;exact mM hK [(0,0)] (decide (H=97)) (by exact h)
def Ri(j1:Unit):Option (Int×Int×Int):=some (0,0,6)
def Ct(O:List Int)(H:Int×Int):Option ((Int×Int)⊕(Unit⊕(Int×Int×Int))):=(if decide (H.2<10)then(if decide ((O.length:Int)<=H.2)then some (.inr (.inr (0,0,5)))else gd (0<=H.2/\H.2<O.length)<|(if decide (H.2=9)&&decide (1<O.getD H.2.toNat 0)then some (.inr (.inr (0,0,6)))else gd (0<=i64.wrap (7*H.2))<|(if !decide (nS .and u8 (O.getD H.2.toNat 0) 128=0)then some (.inl (nS .or u64 H.1 (u64.wrap (u64.wrap (nS .and u8 (O.getD H.2.toNat 0) 127)*2^(Nat.min (i64.wrap (7*H.2)).toNat u64.bits))),i64.wrap (H.2+1)))else(if decide (O.getD H.2.toNat 0=0)&&decide (0<H.2)then some (.inr (.inr (0,0,6)))else some (.inr (.inr (nS .or u64 H.1 (u64.wrap (u64.wrap (nS .and u8 (O.getD H.2.toNat 0) 127)*2^(Nat.min (i64.wrap (7*H.2)).toNat u64.bits))),i64.wrap (H.2+1),0)))))))else some (.inr (.inl ())))
def uE(H:List Int):Option (Int×Int×Int):=(lS (Ct H) (0,0)).bind (λ|.inl z=>Ri z|.inr z=>some z)
@[reducible,instance]def aTh a0:=mkJ (uE a0) 0 (@Ri.eq_1) λ j1=>⟨[],[],0⟩
@[reducible,instance]def aTi (H:List Int):=mkL x (@Ct.eq_1 H) λ O=>⟨[(0,.sl (H.map (eI u8))),(5,.int u64 O.1),(8,.int i64 O.2)],[],0⟩
instance aTj(H:List Int):OkP (uE H) 63 [.sl (H.map (eI u8))] (λ r=>.tup [.int u64 r.1,.int i64 r.2.1,.int i64 r.2.2]):=ok1 (uE.eq_1 H) Tryz.f63 []
def Fe(H:bK):Option (Bool×bK):=some (decide (H.at_<(H.l.length:Int)),H)
instance aTk(H:bK):OkM (Fe H) 41 [.ptr 0 0 0] [(0,bx H)] 1 (λ r=>.bool r.1) (λ r=>[(0,bx r.2)]) 1:=okm (Fe.eq_1 H) (λ r=>[.bool r.1]) Tryz.f41 []
def yE(H O:Int):Int:=(if decide (H<O)then(-1)else(if decide (O<H)then 1 else 0))
instance aTl(H O:Int):OkT 148 [.int i64 H,.int i64 O] (.int i64 (yE H O)):=ok2 (λ r=>.int i64 r) (yE.eq_1 H O) Tryz.f148 []
def L6(j1:(List aC)):Option (List aC):=some j1
def Ff(O:List aX)(H:Int×(List aC)):Option ((Int×(List aC))⊕(List aC)):=(if decide (H.1<O.length)then gd (0<=H.1/\H.1<O.length)<|gd (H.2.length+1<=4294967296)<|some (.inl (i64.wrap (H.1+1),H.2++[(O.getD H.1.toNat aX.zero).aJ]))else some (.inr H.2))
def An(H:List aX):Option (List aC):=(lS (Ff H) (0,[])).bind (λ z=>L6 z)
@[reducible,instance]def aTo a0:=mkJ (An a0) 0 (@L6.eq_1) λ j1=>⟨[(3,.own 0 0 j1.length)],[(0,sx j1)],1⟩
@[reducible,instance]def aTp (O:List aX):=mkL x (@Ff.eq_1 O) λ H=>⟨[(0,la O),(3,.own 0 0 H.2.length),(4,.int i64 H.1)],[(0,sx H.2)],1⟩
instance aTq(H:List aX):OkP (An H) 266 [la H] la:=ok1 (An.eq_1 H) Tryz.f266 [(3,1)]
def Rj(j1:Unit):Option aC:=some ({aC.zero with})
def Ih(O:List aX)(U:aK)(H:Int):Option (Int⊕(Unit⊕aC)):=(if decide (H<O.length)then gd (0<=H/\H<O.length)<|(if decide ((O.getD H.toNat aX.zero).aL=U)then gd (0<=H/\H<O.length)<|some (.inr (.inr (O.getD H.toNat aX.zero).aJ))else some (.inl (i64.wrap (H+1))))else some (.inr (.inl ())))
def yF(H:List aX)(O:aK):Option aC:=(lS (Ih H O) 0).bind (λ|.inl z=>Rj z|.inr z=>some z)
@[reducible,instance]def aTt a0 a1:=mkJ (yF a0 a1) 0 (@Rj.eq_1) λ j1=>⟨[(4,.ptr 0 0 0)],[(0,bx aC.zero)],1⟩
@[reducible,instance]def aTu (H:List aX) (O:aK):=mkL x (@Ih.eq_1 H O) λ U=>⟨[(0,la H),(3,.ptr 0 0 0),(4,.ptr 1 0 0),(5,.int i64 U)],[(0,bx O),(1,bx aC.zero)],2⟩
instance aTv(H:List aX)(O:aK):OkP (yF H O) 239 [la H,ga O] ga:=ok1 (yF.eq_1 H O) Tryz.f239 []
def Cu(H:aA):Option (aV×Bool):=(if decide (0<(H.aN.length:Int))then gd (0<=0/\0<(H.aN.length:Int))<|some (H.aN.getD 0 aV.zero,true)else(if decide (0<(H.aW.length:Int))then gd (0<=0/\0<(H.aW.length:Int))<|some (H.aW.getD 0 aV.zero,true)else some ({aV.zero with},false)))
instance aTw(H:aA):OkP (Cu H) 248 [ga H] (λ r=>.tup [ga r.1,.bool r.2]):=ok1 (Cu.eq_1 H) Tryz.f248 []
def Rk(j1:(List aK)):Option (List aK):=some j1
def Ii(O:List aX)(H:Int×(List aK)):Option ((Int×(List aK))⊕(List aK)):=(if decide (H.1<O.length)then gd (0<=H.1/\H.1<O.length)<|gd (H.2.length+1<=4294967296)<|some (.inl (i64.wrap (H.1+1),H.2++[(O.getD H.1.toNat aX.zero).aL]))else some (.inr H.2))
def Ao(H:List aX):Option (List aK):=(lS (Ii H) (0,[])).bind (λ z=>Rk z)
@[reducible,instance]def aTz a0:=mkJ (Ao a0) 0 (@Rk.eq_1) λ j1=>⟨[(3,.own 0 0 j1.length)],[(0,sx j1)],1⟩
@[reducible,instance]def aU0 (O:List aX):=mkL x (@Ii.eq_1 O) λ H=>⟨[(0,la O),(3,.own 0 0 H.2.length),(4,.int i64 H.1)],[(0,sx H.2)],1⟩
instance aU1(H:List aX):OkM (Ao H) 196 [la H] [] 0 (λ r=>.own 0 0 r.length) (λ r=>[(0,sx r)]) 1:=okm (Ao.eq_1 H) (λ r=>[.own 0 0 r.length]) Tryz.f196 [(2,1),(3,1)]
def Rl(j1:Unit):Option Int:=some (-1)
def Ij(O:List aG)(U:aK)(H:Int):Option (Int⊕(Unit⊕Int)):=(if decide (H<O.length)then gd (0<=H/\H<O.length)<|(if decide ((O.getD H.toNat aG.zero).aL=U)then some (.inr (.inr H))else some (.inl (i64.wrap (H+1))))else some (.inr (.inl ())))
def wO(H:List aG)(O:aK):Option Int:=(lS (Ij H O) 0).bind (λ|.inl z=>Rl z|.inr z=>some z)
@[reducible,instance]def aU4 a0 a1:=mkJ (wO a0 a1) 0 (@Rl.eq_1) λ j1=>⟨[],[],0⟩
@[reducible,instance]def aU5 (H:List aG) (O:aK):=mkL x (@Ij.eq_1 H O) λ U=>⟨[(0,la H),(3,.ptr 0 0 0),(5,.int i64 U)],[(0,bx O)],1⟩
instance aU6(H:List aG)(O:aK):OkP (wO H O) 92 [la H,ga O] (λ r=>.int i64 r):=ok1 (wO.eq_1 H O) Tryz.f92 []
def Rm(j1:aC):Option aC:=some j1
def Ik(O:List bM)(U:ByteArray)(H:Int×aC):Option ((Int×aC)⊕aC):=(if decide (H.1<O.length)then gd (0<=H.1/\H.1<O.length)<|(if ((O.getD H.1.toNat bM.zero).name).toList==U.toList then gd (0<=H.1/\H.1<O.length)<|some (.inl (i64.wrap (H.1+1),(O.getD H.1.toNat bM.zero).after))else some (.inl (i64.wrap (H.1+1),H.2)))else some (.inr H.2))
def sP(H:List bM)(O:ByteArray):Option aC:=(lS (Ik H O) (0,aC.zero)).bind (λ z=>Rm z)
@[reducible,instance]def aU9 a0 a1:=mkJ (sP a0 a1) 0 (@Rm.eq_1) λ j1=>⟨[(4,.ptr 0 0 0),(5,.ptr 1 0 0)],[(0,bx aC.zero),(1,bx j1)],2⟩
@[reducible,instance]def aUa (H:List bM) (O:ByteArray):=mkL x (@Ik.eq_1 H O) λ U=>⟨[(0,la H),(1,.str O),(4,.ptr 0 0 0),(5,.ptr 1 0 0),(6,.int i64 U.1)],[(0,bx aC.zero),(1,bx U.2)],2⟩
instance ZH(H:List bM)(O:ByteArray):OkP (sP H O) 152 [la H,.str O] ga:=ok1 (sP.eq_1 H O) Tryz.f152 []
def L7(j1:Unit):Option Bool:=some true
def Fg(O:(aR->aR->Option Bool))(U Y:aR)(H:Int):Option (Int⊕(Unit⊕Bool)):=(if decide (H<U.bG.length)then gd (0<=H/\H<U.bG.length)<|gd (0<=H/\H<Y.bG.length)<|(O (U.bG.getD H.toNat aR.zero) (Y.bG.getD H.toNat aR.zero)).bind λ v1=>(if !v1 then some (.inr (.inr false))else some (.inl (i64.wrap (H+1))))else some (.inr (.inl ())))
def k9(U:(aR->aR->Option Bool))(H O:aR):Option Bool:=(if ((!decide (H.k=O.k))||(!decide (H.bA=O.bA)))||(!decide ((H.bG.length:Int)=(O.bG.length:Int)))then some false else(lS (Fg U H O) 0).bind (λ|.inl z=>L7 z|.inr z=>some z))
def Cv:Nat->(aR->aR->Option Bool)
 |0=>λ _ _=>none
 |n+1=>k9 (Cv n)
def Ap(H O:aR):Option Bool:=Cv (_root_.SizeOf.sizeOf H+1) H O
@[reducible,instance]def aUd (H:(aR->aR->Option Bool)) (O U:aR):=mkJ (k9 H O U) 0 (@L7.eq_1) λ j1=>⟨[],[],0⟩
@[reducible,instance]def aUe (H:(aR->aR->Option Bool)) (O U:aR):=mkL x (@Fg.eq_1 H O U) λ Y=>⟨[(2,.ptr 0 0 0),(3,.ptr 1 0 0),(5,.int i64 Y)],[(0,bx O),(1,bx U)],2⟩
abbrev Il(g:(aR->aR->Option Bool)):Prop:=∀(H:aR) (O:aR),OkP (g H O) 120 [.agg (aR.enc H),.agg (aR.enc O)] (λ r=>.bool r)
theorem ZI(H:(aR->aR->Option Bool))(hrc:Il H):Il (k9 H):=λ O U=>ok1 (k9.eq_1 H O U) Tryz.f120 []
theorem ZJ:∀n,Il (Cv n):=j6 (λ _ _=>⟨λ _ h=>nomatch h⟩) λ n=>ZI _
instance aUi:Il Ap:=λ H O=>ZJ _ H O
def Fh(H:bC):Option bC:=gd (H.aF.length<=4294967296)<|gd (H.aD.length<=4294967296)<|some H
def ZK(H r:bC)(h:Fh H=some r):MFn C 132 [ga H] [] 0 (.agg [.int i64 r.now,.own 0 0 r.aF.length,.own 1 0 r.aD.length]) [(0,sx r.aF),(1,sx r.aD)] 2:=by refine oR Tryz.f132 [(3,1),(8,1)] [.agg [.int i64 r.now,.own 0 0 r.aF.length,.own 1 0 r.aD.length]] λ E hG Y hK=>?_;unfold Fh at h;refine lQ (lR hG ?_);refine lQ ?_;obtain⟨O,h⟩:=lZ h;refine lR hG ?_;refine lQ ?_;obtain⟨U,h⟩:=lZ h;refine lR hG ?_;refine lQ (lR hG ?_);refine lX ?_;exact mQ [(0,3),(1,5)] h
def Rn(H:bB)(j1:Int):Option (Int×Int×(List aA)×(List aG)×(List bL)):=some (j1,H.c.now,H.c.aF,H.c.aD,H.ev)
def Im(O:bB)(H:Int×Int×Int):Option ((Int×Int×Int)⊕Int):=(if decide (H.2.2<((O.c.aD.length:Nat):Int))then gd (0<=H.2.2/\H.2.2<((O.c.aD.length:Nat):Int))<|(if (((O.c.aD.getD H.2.2.toNat aG.zero).bI&&(!decide (((O.c.aD.getD H.2.2.toNat aG.zero).bJ).limit=0)))&&decide (i64.wrap ((O.c.aD.getD H.2.2.toNat aG.zero).since+((O.c.aD.getD H.2.2.toNat aG.zero).bJ).limit)<=O.c.now))&&(decide (H.1<0)||decide (i64.wrap ((O.c.aD.getD H.2.2.toNat aG.zero).since+((O.c.aD.getD H.2.2.toNat aG.zero).bJ).limit)<H.2.1))then some (.inl (H.2.2,i64.wrap ((O.c.aD.getD H.2.2.toNat aG.zero).since+((O.c.aD.getD H.2.2.toNat aG.zero).bJ).limit),i64.wrap (H.2.2+1)))else some (.inl (H.1,H.2.1,i64.wrap (H.2.2+1))))else some (.inr H.1))
def l5(H:bB):Option (Int×Int×(List aA)×(List aG)×(List bL)):=(lS (Im H) ((-1),0,0)).bind (λ z=>Rn H z)
@[reducible,instance]def aUl (H:bB):=mkJ (l5 H) 0 (@Rn.eq_1 H) λ j1=>⟨[(3,.int i64 j1)],[(0,⟨false,4,bB.enc bB.zero,[[.int i64 H.c.now,la H.c.aF,.own 1 0 H.c.aD.length,.own 2 0 H.ev.length]]⟩),(1,sx H.c.aD),(2,sx H.ev)],3⟩
@[reducible,instance]def aUm (H:bB):=mkL x (@Im.eq_1 H) λ O=>⟨[(0,.ptr 0 0 0),(3,.int i64 O.1),(4,.int i64 O.2.1),(5,.int i64 O.2.2)],[(0,⟨false,4,bB.enc bB.zero,[[.int i64 H.c.now,la H.c.aF,.own 1 0 H.c.aD.length,.own 2 0 H.ev.length]]⟩),(1,sx H.c.aD),(2,sx H.ev)],3⟩
instance aUn(H:bB):OkM (l5 H) 226 [.ptr 0 0 0] [(0,⟨false,4,bB.enc bB.zero,[[.int i64 H.c.now,la H.c.aF,.own 1 0 H.c.aD.length,.own 2 0 H.ev.length]]⟩),(1,sx H.c.aD),(2,sx H.ev)] 3 (λ r=>.int i64 r.1) (λ r=>[(0,⟨false,4,bB.enc bB.zero,[[.int i64 r.2.1,la r.2.2.1,.own 1 0 r.2.2.2.1.length,.own 2 0 r.2.2.2.2.length]]⟩),(1,sx r.2.2.2.1),(2,sx r.2.2.2.2)]) 3:=okm (l5.eq_1 H) (λ r=>[.int i64 r.1]) Tryz.f226 []
def Ro(j1:Int×(List Int)):Option (List Int):=gd (j1.2.length+1<=4294967296)<|some (j1.2++[u8.wrap j1.1])
def Rp(H:Int×(List Int)):Option ((Int×(List Int))⊕(Int×(List Int))):=(if decide (128<=H.1)then gd (H.2.length+1<=4294967296)<|some (.inl (H.1.fdiv (2^7),H.2++[nS .or u8 (u8.wrap (nS .and u64 H.1 127)) 128]))else some (.inr (H.1,H.2)))
def pG(H:List Int)(O:Int):Option (List Int):=gd (H.length<=4294967296)<|(lS Rp (O,H)).bind (λ z=>Ro z)
@[reducible,instance]def aUq a0 a1:=mkJ (pG a0 a1) 0 (@Ro.eq_1) λ j1=>⟨[(1,.int u64 j1.1),(5,.own 0 0 j1.2.length)],[(0,⟨false,1,[A.int u8 0],j1.2.map (eI u8)⟩)],1⟩
@[reducible,instance]def aUr:=mkL x (@Rp.eq_1) λ H=>⟨[(1,.int u64 H.1),(5,.own 0 0 H.2.length)],[(0,⟨false,1,[A.int u8 0],H.2.map (eI u8)⟩)],1⟩
instance ZL(H:List Int)(O:Int):OkM (pG H O) 58 [.sl (H.map (eI u8)),.int u64 O] [] 0 (λ r=>.own 0 0 r.length) (λ r=>[(0,⟨false,1,[A.int u8 0],r.map (eI u8)⟩)]) 1:=okm (pG.eq_1 H O) (λ r=>[.own 0 0 r.length]) Tryz.f58 [(4,1),(6,1)]
def Fi(j1:Int×(List Int)):Option (List Int):=gd (j1.2.length+1<=4294967296)<|some (j1.2++[u8.wrap j1.1])
def sE(H:Int×(List Int)):Option ((Int×(List Int))⊕(Int×(List Int))):=(if decide (128<=H.1)then gd (H.2.length+1<=4294967296)<|some (.inl (H.1.fdiv (2^7),H.2++[nS .or u8 (u8.wrap (nS .and u64 H.1 127)) 128]))else some (.inr (H.1,H.2)))
def sF(H:List Int)(O:Int):Option (List Int):=gd (H.length<=4294967296)<|(lS sE (O,H)).bind (λ z=>Fi z)
@[reducible,instance]def aUu a0 a1:=mkJ (sF a0 a1) 0 (@Fi.eq_1) λ j1=>⟨[(1,.int u64 j1.1),(5,.own 0 0 j1.2.length)],[(0,⟨false,1,[A.int u8 0],j1.2.map (eI u8)⟩)],1⟩
@[reducible,instance]def aUv:=mkL x (@sE.eq_1) λ H=>⟨[(1,.int u64 H.1),(5,.own 0 0 H.2.length)],[(0,⟨false,1,[A.int u8 0],H.2.map (eI u8)⟩)],1⟩
instance aUw(H:List Int)(O:Int):OkP (sF H O) 58 [.sl (H.map (eI u8)),.int u64 O] (λ r=>.sl (r.map (eI u8))):=ok1 (sF.eq_1 H O) Tryz.f58 [(6,1)]
end
end Ab
end Go.Proofs.YtfmnjkfhahfhgaaGreatDoor
