import Derived.Test.YtfmnjkfhahfhgaaGreatDoorAuto
namespace Go.Proofs.YtfmnjkfhahfhgaaGreatDoor
namespace Ab
set_option linter.defProp false
open IntKind (i64 u64 u8)
set_option linter.unusedSimpArgs false
set_option linter.unusedVariables false
set_option maxRecDepth 100000
set_option maxHeartbeats 1000000
noncomputable section
variable {T : Type} (x : T)
def Dj(H:Int):Bool:=(decide (1<=H)&&decide (H<=15))
instance Sn(H:Int):OkT 30 [.int i64 H] (.bool (Dj H)):=ok2 .bool (Dj.eq_1 H) Tryz.f30 []
def rB(H:Int):Bool:=(decide (1<=H)&&decide (H<=5))
instance aT7(H:Int):OkT 179 [.int i64 H] (.bool (rB H)):=ok2 .bool (rB.eq_1 H) Tryz.f179 []
def oQ(H:aC):Bool:=(decide (H={aC.zero with}))
instance aT8(H:aC):OkT 286 [.agg (aC.enc H)] (.bool (oQ H)):=ok2 .bool (oQ.eq_1 H) Tryz.f286 []
def Dk(H:aA):Option (aV×Bool):=(if decide (0<(H.aN.length:Int))then gd (0<=0/\0<(H.aN.length:Int))<|some (H.aN.getD 0 aV.zero,true)else(if decide (0<(H.aW.length:Int))then gd (0<=0/\0<(H.aW.length:Int))<|some (H.aW.getD 0 aV.zero,true)else some ({aV.zero with},false)))
instance aT9(H:aA):OkP (Dk H) 252 [ga H] (λ r=>.tup [ga r.1,.bool r.2]):=ok1 (Dk.eq_1 H) Tryz.f252 []
def So(H:List aK)(j1:Unit):Option ((List aK)×(List aK)):=some (H,H)
def Nc(H:Int×(List aK)):Option (Int⊕(Unit⊕((List aK)×(List aK)))):=gd (0<=H.1/\H.1<=((H.2.length:Nat):Int)/\((H.2.length:Nat):Int)<=((H.2.length:Nat):Int))<|gd (0<=0/\0<=H.1/\H.1<=((H.2.length:Nat):Int))<|some (.inr (.inr (((H.2.take H.1.toNat++List.replicate (H.2.length-H.1.toNat) aK.zero++H.2.drop (H.1.toNat+(H.2.length-H.1.toNat))).drop 0).take H.1.toNat,H.2.take H.1.toNat++List.replicate (H.2.length-H.1.toNat) aK.zero++H.2.drop (H.1.toNat+(H.2.length-H.1.toNat)))))
def Jh(U:List aK)(O:Int)(H:Int×Int×(List aK)):Option ((Int×Int×(List aK))⊕(Int×(List aK))):=(if decide (H.2.1<(((U.length-O.toNat):Nat):Int))then gd (0<=H.2.1/\H.2.1<(((U.length-O.toNat):Nat):Int)/\O.toNat+(U.length-O.toNat)<=H.2.2.length)<|gd (0<=i64.wrap (H.2.1-1)/\i64.wrap (H.2.1-1)<(((U.length-O.toNat):Nat):Int)/\O.toNat+(U.length-O.toNat)<=H.2.2.length)<|(if !decide (H.2.2.getD (O.toNat+H.2.1.toNat) aK.zero=H.2.2.getD (O.toNat+(i64.wrap (H.2.1-1)).toNat) aK.zero)then gd (0<=H.2.1/\H.2.1<(((U.length-O.toNat):Nat):Int)/\O.toNat+(U.length-O.toNat)<=H.2.2.length)<|gd (0<=H.1/\H.1<((H.2.2.length:Nat):Int))<|some (.inl (i64.wrap (H.1+1),i64.wrap (H.2.1+1),H.2.2.set H.1.toNat (H.2.2.getD (O.toNat+H.2.1.toNat) aK.zero)))else some (.inl (H.1,i64.wrap (H.2.1+1),H.2.2)))else some (.inr (H.1,H.2.2)))
def F1(O:List aK)(H:Int):Option (Int⊕(Unit⊕((List aK)×(List aK)))):=(if decide (H<((O.length:Nat):Int))then gd (0<=H/\H<((O.length:Nat):Int))<|gd (0<=i64.wrap (H-1)/\i64.wrap (H-1)<((O.length:Nat):Int))<|(if decide (O.getD H.toNat aK.zero=O.getD (i64.wrap (H-1)).toNat aK.zero)then gd (0<=H/\H<=((O.length:Nat):Int)/\((O.length:Nat):Int)<=((O.length:Nat):Int))<|(lY (Jh O H) (H,1,O)).bind (λ z=>Nc z)else some (.inl (i64.wrap (H+1))))else some (.inr (.inl ())))
def t6(H:List aK):Option ((List aK)×(List aK)):=(if decide (((H.length:Nat):Int)<2)then some (H,H)else(lY (F1 H) 1).bind (λ|.inl z=>So H z|.inr z=>some z))
@[reducible,instance]def aTa (H:List aK):=mkJ (t6 H) 0 (@So.eq_1 H) λ j1=>⟨[(0,.own 0 0 H.length)],[(0,sx H)],1⟩
@[reducible,instance]def aTb (O:List aK) (U:Int):=mkJ (F1 O U) 2 (@Nc.eq_1) λ H=>⟨[(0,.own 0 0 H.2.length),(3,.int i64 H.1)],[(0,sx H.2)],1⟩
@[reducible,instance]def aTc (U:List aK) (O:Int):=mkL x (@Jh.eq_1 U O) λ H=>⟨[(0,.own 0 0 H.2.2.length),(3,.int i64 H.1),(4,.own 0 O.toNat (U.length-O.toNat)),(5,.int i64 H.2.1)],[(0,sx H.2.2)],1⟩
@[reducible,instance]def aTd (H:List aK):=mkL x (@F1.eq_1 H) λ O=>⟨[(0,.own 0 0 H.length),(3,.int i64 O)],[(0,sx H)],1⟩
instance aTe(H:List aK):OkM (t6 H) 259 [.own 0 0 H.length] [(0,sx H)] 1 (λ r=>la r.1) (λ r=>[(0,⟨true,3,aK.enc aK.zero,r.2.map aK.enc⟩)]) 1:=⟨λ r h=>by
 refine oZ Tryz.f259 [] [la r.1] λ E hG M hK=>?_;have hm:Mk (t6 H):=trivial;unfold t6 at h;refine lW (lX hG ?_);refine lW (lW (lX hG ?_));refine mA rfl hG h (λ _ h=>?_) (λ _ h=>?_)
 · refine lW (lX hG ?_)
   refine g_gh (.fz [0]) ?_;exact gogo
 refine mE ?_;refine lW (lW (lX hG ?_));refine xN hm h (λ j1 hm h=>?_) ?_
 · try refine g_st ?_
   refine lW (lX hG ?_);refine g_gh (.fz [0]) ?_;exact gogo
 refine R4 hm hK [(0,0)] h (λ g1 y hm kx h=>?_)
 try refine g_st ?_
 refine lW (lW (lX hG ?_));refine mA rfl hG h (λ _ h=>?_) (λ _ h=>?_)
 · refine mE ?_
   refine lW (oG (lW ?_));obtain⟨O,h⟩:=mH h;obtain⟨U,h⟩:=mH h;refine zO oL hG ?_;refine mA rfl hG h (λ _ h=>?_) (λ _ h=>?_)
   · refine lW ?_
     obtain⟨Y,h⟩:=mH h;refine lX hG ?_;refine lW (lW (lX hG ?_));refine xN hm h (λ j2 hm h=>?_) ?_
     · try refine g_st ?_
       refine lW ?_;obtain⟨B,h⟩:=mH h;refine lX hG ?_;refine lW ?_;obtain⟨F,h⟩:=mH h;refine lX hG ?_;refine g_gh (.fz [0]) ?_;exact gogo
     exact gogo
   exact gogo
 exact gogo⟩
def Ji(O:Int)(H:aL)(U:Bool):Option aL:=(if U then some ({H with state:={aH.zero with}})else(if decide (O=79)then some ({H with options:=[]})else some H))
@[go_sem] def aTf(H:Int)(O:aL)(U:Bool):St:=⟨[(0,.ptr 0 0 0),(4,.int u8 H),(23,.bool U)],[(0,bx O)],1⟩
def Jj(H:Int)(O:aL)(j1:Bool):Option aL:=(if j1 then some ({O with aZ:={aO.zero with}})else(if decide (H=68)then some ({O with done:=false})else(if decide (H=78)then Ji H O (decide (H=78))else Ji H O (decide (H=76)))))
@[go_sem] def aTg(H:Int)(O:aL)(j1:Bool):St:=⟨[(0,.ptr 0 0 0),(4,.int u8 H),(11,.bool j1)],[(0,bx O)],1⟩
def A4(H:Int)(O:aL):Option aL:=(if decide (H=80)then some ({O with aM:={aK.zero with}})else(if decide (H=65)then Jj H O (decide (H=65))else Jj H O (decide (H=97))))
def aTh(H:Int)(O r:aL)(h:A4 H O=some r):MFn C 85 [.ptr 0 0 0,.int u8 H] [(0,bx O)] 1 (.tup []) [(0,bx r)] 1:=by
 refine oZ Tryz.f85 [] [] λ E hG U hK=>?_;unfold A4 at h;refine lW (lX hG ?_);refine oG (lW (lX hG ?_));refine mA rfl hG h (λ _ h=>?_) (λ _ h=>?_)
 · refine lX hG ?_
   exact mW [(0,0)] h
 refine lW (lW (lX hG ?_));refine rN (aTg H O) (λ v=>Jj H O v=some r) rfl hG h ?_ (λ _ h=>?_) (λ _ h=>?_)
 · intro j1 h
   unfold Jj at h;refine g_st ?_;refine mA rfl hG h (λ _ h=>?_) (λ _ h=>?_)
   · refine lX hG ?_
     exact mW [(0,0)] h
   refine lW (lX hG ?_);refine mA rfl hG h (λ _ h=>?_) (λ _ h=>?_)
   · refine lX hG ?_
     exact mW [(0,0)] h
   refine lW (lW (lX hG ?_));refine rN (aTf H O) (λ v=>Ji H O v=some r) rfl hG h ?_ (λ _ h=>?_) (λ _ h=>?_)
   · intro Y h
     unfold Ji at h;refine g_st ?_;refine mA rfl hG h (λ _ h=>?_) (λ _ h=>?_)
     · refine lX hG ?_
       exact mW [(0,0)] h
     refine lW (lX hG ?_);refine mA rfl hG h (λ _ h=>?_) (λ _ h=>?_)
     · refine lX hG ?_
       exact mW [(0,0)] h
     refine mE ?_;exact mW [(0,0)] h
   · refine mE ?_
     exact mT hK [(0,0)] (decide (H=78)) (by exact h)
   refine lX hG ?_;exact mT hK [(0,0)] (decide (H=76)) (by exact h)
 · refine mE ?_
   exact mT hK [(0,0)] (decide (H=65)) (by exact h)
 refine lX hG ?_;exact mT hK [(0,0)] (decide (H=97)) (by exact h)
def Nd(j1:Unit):Option (Int×Int×Int):=some (0,0,6)
def rW(O:List Int)(H:Int×Int):Option ((Int×Int)⊕(Unit⊕(Int×Int×Int))):=(if decide (H.2<10)then(if decide ((O.length:Int)<=H.2)then some (.inr (.inr (0,0,5)))else gd (0<=H.2/\H.2<O.length)<|(if decide (H.2=9)&&decide (1<O.getD H.2.toNat 0)then some (.inr (.inr (0,0,6)))else gd (0<=i64.wrap (7*H.2))<|(if !decide (oD .and u8 (O.getD H.2.toNat 0) 128=0)then some (.inl (oD .or u64 H.1 (u64.wrap (u64.wrap (oD .and u8 (O.getD H.2.toNat 0) 127)*2^(Nat.min (i64.wrap (7*H.2)).toNat u64.bits))),i64.wrap (H.2+1)))else(if decide (O.getD H.2.toNat 0=0)&&decide (0<H.2)then some (.inr (.inr (0,0,6)))else some (.inr (.inr (oD .or u64 H.1 (u64.wrap (u64.wrap (oD .and u8 (O.getD H.2.toNat 0) 127)*2^(Nat.min (i64.wrap (7*H.2)).toNat u64.bits))),i64.wrap (H.2+1),0)))))))else some (.inr (.inl ())))
def sE(H:List Int):Option (Int×Int×Int):=(lY (rW H) (0,0)).bind (λ|.inl z=>Nd z|.inr z=>some z)
@[reducible,instance]def aTj a0:=mkJ (sE a0) 0 (@Nd.eq_1) λ j1=>⟨[],[],0⟩
@[reducible,instance]def aTk (H:List Int):=mkL x (@rW.eq_1 H) λ O=>⟨[(0,.sl (H.map (eI u8))),(5,.int u64 O.1),(8,.int i64 O.2)],[],0⟩
instance aTl(H:List Int):OkP (sE H) 63 [.sl (H.map (eI u8))] (λ r=>.tup [.int u64 r.1,.int i64 r.2.1,.int i64 r.2.2]):=ok1 (sE.eq_1 H) Tryz.f63 []
def F2(H:bK):Option (Bool×bK):=some (decide (H.at_<(H.l.length:Int)),H)
instance aTm(H:bK):OkM (F2 H) 41 [.ptr 0 0 0] [(0,bx H)] 1 (λ r=>.bool r.1) (λ r=>[(0,bx r.2)]) 1:=okm (F2.eq_1 H) (λ r=>[.bool r.1]) Tryz.f41 []
def zQ(H O:Int):Int:=(if decide (H<O)then(-1)else(if decide (O<H)then 1 else 0))
instance aTn(H O:Int):OkT 148 [.int i64 H,.int i64 O] (.int i64 (zQ H O)):=ok2 (λ r=>.int i64 r) (zQ.eq_1 H O) Tryz.f148 []
def Nf(j1:(List aC)):Option (List aC):=some j1
def F3(O:List aX)(H:Int×(List aC)):Option ((Int×(List aC))⊕(List aC)):=(if decide (H.1<O.length)then gd (0<=H.1/\H.1<O.length)<|gd (H.2.length+1<=4294967296)<|some (.inl (i64.wrap (H.1+1),H.2++[(O.getD H.1.toNat aX.zero).aJ]))else some (.inr H.2))
def A5(H:List aX):Option (List aC):=(lY (F3 H) (0,[])).bind (λ z=>Nf z)
@[reducible,instance]def aTq a0:=mkJ (A5 a0) 0 (@Nf.eq_1) λ j1=>⟨[(3,.own 0 0 j1.length)],[(0,sx j1)],1⟩
@[reducible,instance]def aTr (O:List aX):=mkL x (@F3.eq_1 O) λ H=>⟨[(0,la O),(3,.own 0 0 H.2.length),(4,.int i64 H.1)],[(0,sx H.2)],1⟩
instance aTs(H:List aX):OkP (A5 H) 266 [la H] la:=ok1 (A5.eq_1 H) Tryz.f266 [(3,1)]
def Sp(j1:Unit):Option aC:=some ({aC.zero with})
def Jk(O:List aX)(U:aK)(H:Int):Option (Int⊕(Unit⊕aC)):=(if decide (H<O.length)then gd (0<=H/\H<O.length)<|(if decide ((O.getD H.toNat aX.zero).aM=U)then gd (0<=H/\H<O.length)<|some (.inr (.inr (O.getD H.toNat aX.zero).aJ))else some (.inl (i64.wrap (H+1))))else some (.inr (.inl ())))
def zR(H:List aX)(O:aK):Option aC:=(lY (Jk H O) 0).bind (λ|.inl z=>Sp z|.inr z=>some z)
@[reducible,instance]def aTv a0 a1:=mkJ (zR a0 a1) 0 (@Sp.eq_1) λ j1=>⟨[(4,.ptr 0 0 0)],[(0,bx aC.zero)],1⟩
@[reducible,instance]def aTw (H:List aX) (O:aK):=mkL x (@Jk.eq_1 H O) λ U=>⟨[(0,la H),(3,.ptr 0 0 0),(4,.ptr 1 0 0),(5,.int i64 U)],[(0,bx O),(1,bx aC.zero)],2⟩
instance aTx(H:List aX)(O:aK):OkP (zR H O) 239 [la H,ga O] ga:=ok1 (zR.eq_1 H O) Tryz.f239 []
def Dl(H:aA):Option (aV×Bool):=(if decide (0<(H.aN.length:Int))then gd (0<=0/\0<(H.aN.length:Int))<|some (H.aN.getD 0 aV.zero,true)else(if decide (0<(H.aW.length:Int))then gd (0<=0/\0<(H.aW.length:Int))<|some (H.aW.getD 0 aV.zero,true)else some ({aV.zero with},false)))
instance aTy(H:aA):OkP (Dl H) 248 [ga H] (λ r=>.tup [ga r.1,.bool r.2]):=ok1 (Dl.eq_1 H) Tryz.f248 []
def Sq(j1:(List aK)):Option (List aK):=some j1
def Jl(O:List aX)(H:Int×(List aK)):Option ((Int×(List aK))⊕(List aK)):=(if decide (H.1<O.length)then gd (0<=H.1/\H.1<O.length)<|gd (H.2.length+1<=4294967296)<|some (.inl (i64.wrap (H.1+1),H.2++[(O.getD H.1.toNat aX.zero).aM]))else some (.inr H.2))
def A6(H:List aX):Option (List aK):=(lY (Jl H) (0,[])).bind (λ z=>Sq z)
@[reducible,instance]def aU1 a0:=mkJ (A6 a0) 0 (@Sq.eq_1) λ j1=>⟨[(3,.own 0 0 j1.length)],[(0,sx j1)],1⟩
@[reducible,instance]def aU2 (O:List aX):=mkL x (@Jl.eq_1 O) λ H=>⟨[(0,la O),(3,.own 0 0 H.2.length),(4,.int i64 H.1)],[(0,sx H.2)],1⟩
instance aU3(H:List aX):OkM (A6 H) 196 [la H] [] 0 (λ r=>.own 0 0 r.length) (λ r=>[(0,sx r)]) 1:=okm (A6.eq_1 H) (λ r=>[.own 0 0 r.length]) Tryz.f196 [(2,1),(3,1)]
def Sr(j1:Unit):Option Int:=some (-1)
def Jn(O:List aG)(U:aK)(H:Int):Option (Int⊕(Unit⊕Int)):=(if decide (H<O.length)then gd (0<=H/\H<O.length)<|(if decide ((O.getD H.toNat aG.zero).aM=U)then some (.inr (.inr H))else some (.inl (i64.wrap (H+1))))else some (.inr (.inl ())))
def xQ(H:List aG)(O:aK):Option Int:=(lY (Jn H O) 0).bind (λ|.inl z=>Sr z|.inr z=>some z)
@[reducible,instance]def aU6 a0 a1:=mkJ (xQ a0 a1) 0 (@Sr.eq_1) λ j1=>⟨[],[],0⟩
@[reducible,instance]def aU7 (H:List aG) (O:aK):=mkL x (@Jn.eq_1 H O) λ U=>⟨[(0,la H),(3,.ptr 0 0 0),(5,.int i64 U)],[(0,bx O)],1⟩
instance aU8(H:List aG)(O:aK):OkP (xQ H O) 92 [la H,ga O] (λ r=>.int i64 r):=ok1 (xQ.eq_1 H O) Tryz.f92 []
def Ss(j1:aC):Option aC:=some j1
def Jo(O:List bN)(U:ByteArray)(H:Int×aC):Option ((Int×aC)⊕aC):=(if decide (H.1<O.length)then gd (0<=H.1/\H.1<O.length)<|(if ((O.getD H.1.toNat bN.zero).name).toList==U.toList then gd (0<=H.1/\H.1<O.length)<|some (.inl (i64.wrap (H.1+1),(O.getD H.1.toNat bN.zero).after))else some (.inl (i64.wrap (H.1+1),H.2)))else some (.inr H.2))
def tN(H:List bN)(O:ByteArray):Option aC:=(lY (Jo H O) (0,aC.zero)).bind (λ z=>Ss z)
@[reducible,instance]def aUb a0 a1:=mkJ (tN a0 a1) 0 (@Ss.eq_1) λ j1=>⟨[(4,.ptr 0 0 0),(5,.ptr 1 0 0)],[(0,bx aC.zero),(1,bx j1)],2⟩
@[reducible,instance]def aUc (H:List bN) (O:ByteArray):=mkL x (@Jo.eq_1 H O) λ U=>⟨[(0,la H),(1,.str O),(4,.ptr 0 0 0),(5,.ptr 1 0 0),(6,.int i64 U.1)],[(0,bx aC.zero),(1,bx U.2)],2⟩
instance aUd(H:List bN)(O:ByteArray):OkP (tN H O) 152 [la H,.str O] ga:=ok1 (tN.eq_1 H O) Tryz.f152 []
def Ng(j1:Unit):Option Bool:=some true
def F4(O:(aS->aS->Option Bool))(U Y:aS)(H:Int):Option (Int⊕(Unit⊕Bool)):=(if decide (H<U.bG.length)then gd (0<=H/\H<U.bG.length)<|gd (0<=H/\H<Y.bG.length)<|(O (U.bG.getD H.toNat aS.zero) (Y.bG.getD H.toNat aS.zero)).bind λ v1=>(if !v1 then some (.inr (.inr false))else some (.inl (i64.wrap (H+1))))else some (.inr (.inl ())))
def t7(U:(aS->aS->Option Bool))(H O:aS):Option Bool:=(if ((!decide (H.k=O.k))||(!decide (H.aZ=O.aZ)))||(!decide ((H.bG.length:Int)=(O.bG.length:Int)))then some false else(lY (F4 U H O) 0).bind (λ|.inl z=>Ng z|.inr z=>some z))
def Dm:Nat->(aS->aS->Option Bool)
 |0=>λ _ _=>none
 |n+1=>t7 (Dm n)
def A7(H O:aS):Option Bool:=Dm (_root_.SizeOf.sizeOf H+1) H O
@[reducible,instance]def aUg (H:(aS->aS->Option Bool)) (O U:aS):=mkJ (t7 H O U) 0 (@Ng.eq_1) λ j1=>⟨[],[],0⟩
@[reducible,instance]def aUh (H:(aS->aS->Option Bool)) (O U:aS):=mkL x (@F4.eq_1 H O U) λ Y=>⟨[(2,.ptr 0 0 0),(3,.ptr 1 0 0),(5,.int i64 Y)],[(0,bx O),(1,bx U)],2⟩
abbrev Jp(g:(aS->aS->Option Bool)):Prop:=∀(H:aS) (O:aS),OkP (g H O) 120 [.agg (aS.enc H),.agg (aS.enc O)] (λ r=>.bool r)
theorem aUj(H:(aS->aS->Option Bool))(hrc:Jp H):Jp (t7 H):=λ O U=>ok1 (t7.eq_1 H O U) Tryz.f120 []
theorem aUk:∀n,Jp (Dm n):=s6 (λ _ _=>⟨λ _ h=>nomatch h⟩) λ n=>aUj _
instance aUl:Jp A7:=λ H O=>aUk _ H O
def F5(H:bD):Option bD:=gd (H.aF.length<=4294967296)<|gd (H.aD.length<=4294967296)<|some H
def aUm(H r:bD)(h:F5 H=some r):MFn C 132 [ga H] [] 0 (.agg [.int i64 r.now,.own 0 0 r.aF.length,.own 1 0 r.aD.length]) [(0,sx r.aF),(1,sx r.aD)] 2:=by refine oZ Tryz.f132 [(3,1),(8,1)] [.agg [.int i64 r.now,.own 0 0 r.aF.length,.own 1 0 r.aD.length]] λ E hG Y hK=>?_;unfold F5 at h;refine lW (lX hG ?_);refine lW ?_;obtain⟨O,h⟩:=mH h;refine lX hG ?_;refine lW ?_;obtain⟨U,h⟩:=mH h;refine lX hG ?_;refine lW (lX hG ?_);refine mG ?_;exact mW [(0,3),(1,5)] h
def Su(H:bB)(j1:Int):Option (Int×Int×(List aA)×(List aG)×(List bL)):=some (j1,H.c.now,H.c.aF,H.c.aD,H.ev)
def Jq(O:bB)(H:Int×Int×Int):Option ((Int×Int×Int)⊕Int):=(if decide (H.2.2<((O.c.aD.length:Nat):Int))then gd (0<=H.2.2/\H.2.2<((O.c.aD.length:Nat):Int))<|(if (((O.c.aD.getD H.2.2.toNat aG.zero).bI&&(!decide (((O.c.aD.getD H.2.2.toNat aG.zero).bJ).limit=0)))&&decide (i64.wrap ((O.c.aD.getD H.2.2.toNat aG.zero).since+((O.c.aD.getD H.2.2.toNat aG.zero).bJ).limit)<=O.c.now))&&(decide (H.1<0)||decide (i64.wrap ((O.c.aD.getD H.2.2.toNat aG.zero).since+((O.c.aD.getD H.2.2.toNat aG.zero).bJ).limit)<H.2.1))then some (.inl (H.2.2,i64.wrap ((O.c.aD.getD H.2.2.toNat aG.zero).since+((O.c.aD.getD H.2.2.toNat aG.zero).bJ).limit),i64.wrap (H.2.2+1)))else some (.inl (H.1,H.2.1,i64.wrap (H.2.2+1))))else some (.inr H.1))
def t8(H:bB):Option (Int×Int×(List aA)×(List aG)×(List bL)):=(lY (Jq H) ((-1),0,0)).bind (λ z=>Su H z)
@[reducible,instance]def aUo (H:bB):=mkJ (t8 H) 0 (@Su.eq_1 H) λ j1=>⟨[(3,.int i64 j1)],[(0,⟨false,4,bB.enc bB.zero,[[.int i64 H.c.now,la H.c.aF,.own 1 0 H.c.aD.length,.own 2 0 H.ev.length]]⟩),(1,sx H.c.aD),(2,sx H.ev)],3⟩
@[reducible,instance]def aUp (H:bB):=mkL x (@Jq.eq_1 H) λ O=>⟨[(0,.ptr 0 0 0),(3,.int i64 O.1),(4,.int i64 O.2.1),(5,.int i64 O.2.2)],[(0,⟨false,4,bB.enc bB.zero,[[.int i64 H.c.now,la H.c.aF,.own 1 0 H.c.aD.length,.own 2 0 H.ev.length]]⟩),(1,sx H.c.aD),(2,sx H.ev)],3⟩
instance aUq(H:bB):OkM (t8 H) 226 [.ptr 0 0 0] [(0,⟨false,4,bB.enc bB.zero,[[.int i64 H.c.now,la H.c.aF,.own 1 0 H.c.aD.length,.own 2 0 H.ev.length]]⟩),(1,sx H.c.aD),(2,sx H.ev)] 3 (λ r=>.int i64 r.1) (λ r=>[(0,⟨false,4,bB.enc bB.zero,[[.int i64 r.2.1,la r.2.2.1,.own 1 0 r.2.2.2.1.length,.own 2 0 r.2.2.2.2.length]]⟩),(1,sx r.2.2.2.1),(2,sx r.2.2.2.2)]) 3:=okm (t8.eq_1 H) (λ r=>[.int i64 r.1]) Tryz.f226 []
def Sv(j1:Int×(List Int)):Option (List Int):=gd (j1.2.length+1<=4294967296)<|some (j1.2++[u8.wrap j1.1])
def Sw(H:Int×(List Int)):Option ((Int×(List Int))⊕(Int×(List Int))):=(if decide (128<=H.1)then gd (H.2.length+1<=4294967296)<|some (.inl (H.1.fdiv (2^7),H.2++[oD .or u8 (u8.wrap (oD .and u64 H.1 127)) 128]))else some (.inr (H.1,H.2)))
def pQ(H:List Int)(O:Int):Option (List Int):=gd (H.length<=4294967296)<|(lY Sw (O,H)).bind (λ z=>Sv z)
@[reducible,instance]def aUt a0 a1:=mkJ (pQ a0 a1) 0 (@Sv.eq_1) λ j1=>⟨[(1,.int u64 j1.1),(5,.own 0 0 j1.2.length)],[(0,⟨false,1,[A.int u8 0],j1.2.map (eI u8)⟩)],1⟩
@[reducible,instance]def aUu:=mkL x (@Sw.eq_1) λ H=>⟨[(1,.int u64 H.1),(5,.own 0 0 H.2.length)],[(0,⟨false,1,[A.int u8 0],H.2.map (eI u8)⟩)],1⟩
instance aUv(H:List Int)(O:Int):OkM (pQ H O) 58 [.sl (H.map (eI u8)),.int u64 O] [] 0 (λ r=>.own 0 0 r.length) (λ r=>[(0,⟨false,1,[A.int u8 0],r.map (eI u8)⟩)]) 1:=okm (pQ.eq_1 H O) (λ r=>[.own 0 0 r.length]) Tryz.f58 [(4,1),(6,1)]
def F6(j1:Int×(List Int)):Option (List Int):=gd (j1.2.length+1<=4294967296)<|some (j1.2++[u8.wrap j1.1])
def sY(H:Int×(List Int)):Option ((Int×(List Int))⊕(Int×(List Int))):=(if decide (128<=H.1)then gd (H.2.length+1<=4294967296)<|some (.inl (H.1.fdiv (2^7),H.2++[oD .or u8 (u8.wrap (oD .and u64 H.1 127)) 128]))else some (.inr (H.1,H.2)))
def sZ(H:List Int)(O:Int):Option (List Int):=gd (H.length<=4294967296)<|(lY sY (O,H)).bind (λ z=>F6 z)
@[reducible,instance]def aUx a0 a1:=mkJ (sZ a0 a1) 0 (@F6.eq_1) λ j1=>⟨[(1,.int u64 j1.1),(5,.own 0 0 j1.2.length)],[(0,⟨false,1,[A.int u8 0],j1.2.map (eI u8)⟩)],1⟩
@[reducible,instance]def aUy:=mkL x (@sY.eq_1) λ H=>⟨[(1,.int u64 H.1),(5,.own 0 0 H.2.length)],[(0,⟨false,1,[A.int u8 0],H.2.map (eI u8)⟩)],1⟩
instance aUz(H:List Int)(O:Int):OkP (sZ H O) 58 [.sl (H.map (eI u8)),.int u64 O] (λ r=>.sl (r.map (eI u8))):=ok1 (sZ.eq_1 H O) Tryz.f58 [(6,1)]
end
end Ab
end Go.Proofs.YtfmnjkfhahfhgaaGreatDoor
