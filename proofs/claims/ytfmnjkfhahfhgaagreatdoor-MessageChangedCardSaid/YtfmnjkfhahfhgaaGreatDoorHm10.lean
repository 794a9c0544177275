import Derived.Test.YtfmnjkfhahfhgaaGreatDoorAuto
import Derived.Test.YtfmnjkfhahfhgaaGreatDoorHand
import Derived.Test.YtfmnjkfhahfhgaaGreatDoorHm3
namespace Go.Proofs.YtfmnjkfhahfhgaaGreatDoor
namespace Ab
open Tryz
set_option linter.all false
open IntKind (i64 u64 u8)
set_option maxRecDepth 100000
set_option maxHeartbeats 1000000
noncomputable section
variable {T T1 T2 : Type} (x : T) (v1 : T1) (v2 : T2)
def l6:Option (List (Int×bL)):=some (Av 66 (⟨70,(-1),99,1⟩:bL) (Av 73 ({bL.zero with of:=69,low:=1,high:=99}) (Av 83 ({bL.zero with of:=68,high:=3}) (Av 89 ({bL.zero with of:=67,high:=7}) (Av 69 ({bL.zero with of:=66,high:=1073741824}) (Av 82 ({bL.zero with of:=65,high:=1073741824}) (Av 71 ({bL.zero with of:=64,high:=1073741824}) ([]:List (Int×bL)))))))))
instance Hl:OkM l6 31 [] [] 0 (λ r=>.mp 0) (λ r=>[(0,⟨false,0,[A.int u8 0,A.bool true],r.map (mI u8 bL.enc)⟩)]) 1:=okm l6.eq_1 (λ r=>[.mp 0]) f31 []
def KC(j1:Unit):Option Int:=some 0
def sE(O U:Arr Int 3)(H:Int):Option (Int⊕(Unit⊕Int)):=(if decide (H<3)then gd (0<=H/\H<3)<|gd (0<=H/\H<3)<|(if decide (Arr.get O H.toNat 0<Arr.get U H.toNat 0)then some (.inr (.inr (-1)))else gd (0<=H/\H<3)<|(if decide (Arr.get U H.toNat 0<Arr.get O H.toNat 0)then some (.inr (.inr 1))else some (.inl (i64.wrap (H+1)))))else some (.inr (.inl ())))
def Cf(H O:Arr Int 3):Option Int:=(mF (sE H O) 0).bind (λ|.inl z=>KC z|.inr z=>some z)
abbrev aX1 a0 a1:=mkJ (Cf a0 a1) 0 (@KC.eq_1) λ j1=>⟨[],[],0⟩
abbrev aX2 (H O:Arr Int 3):=mkL x (@sE.eq_1 H O) λ U=>⟨[(3,.ptr 0 0 0),(7,.agg (Arr.enc (eI i64) H)),(8,.int i64 U)],[(0,⟨false,3,Arr.enc (eI i64) (Arr.rep 3 0),[Arr.enc (eI i64) O]⟩)],1⟩
attribute[instance]aX1 aX2
instance aX3(H O:Arr Int 3):OkP (Cf H O) 223 [.agg (Arr.enc (eI i64) H),.agg (Arr.enc (eI i64) O)] (λ r=>.int i64 r):=ok1 (Cf.eq_1 H O) f223 []
def KD(H:Int):Option (List aV):=gd (0<=H/\H<=4294967296) (some [])
def aX4:Lays8.n4 C.P ⟨λ|4=>312|n=>n,λ|22=>145|25=>179|n=>n,λ n=>n⟩ where
 mixed:=oS
 f4:=⟨f312.name,by decide,func312.trans (dZ some (by kernel_rfl))⟩
 t0:=underlying0
 a0:=isAgg0
 z0:=sizeOf0
 v0:=zeroValue0
 t3:=underlying3
 a3:=isAgg3
 z3:=sizeOf3
 v3:=zeroValue3
 t4:=underlying4
 a4:=isAgg4
 z4:=sizeOf4
 v4:=zeroValue4
 t9:=underlying9
 a9:=isAgg9
 z9:=sizeOf9
 v9:=zeroValue9
 t20:=underlying20
 a20:=isAgg20
 z20:=sizeOf20
 v20:=zeroValue20
 t22:=underlying145
 a22:=isAgg145
 z22:=sizeOf145
 v22:=zeroValue145
def aX5(H:Int)(r:List aV)(h:KD H=some r):MFn C 312 [.full [],.int i64 H] [] 0 (.own 0 0 r.length) [(0,sx r)] 1:=by obtain⟨⟨O,U⟩,h⟩:=mM h;obtain rfl:=dH h;exact aWz aX4 (by kernel_rfl) rfl _ H O U
def Eu(H:List Int):Option (List Int):=gd (H.length<=4294967296)<|some H
def aX6(O:List Int)(r:(List Int))(h:Eu O=some r):MFn C 160 [.sl (O.map (eI u8))] [] 0 (.own 0 0 r.length) [(0,⟨false,1,[A.int u8 0],r.map (eI u8)⟩)] 1:=by
 refine pF f160 [(2,1),(2,1),(5,1)] [.own 0 0 r.length] λ E hG Y hK=>?_;unfold Eu at h;refine zq ?_;refine mD (zq ?_);intro b H;cases b
 · try refine g_st ?_
   refine J9 rfl hG ?_;refine mN ?_;refine mD ?_;obtain⟨U,h⟩:=mM h;refine mE hG ?_;refine mO ?_;exact nD [(0,2)] h
 have ha:O=[]:=kG.1 (H rfl);subst ha
 replace h:some []=some r:=by simpa [gd]using h
 try refine g_st ?_
 refine BZ rfl hG ?_;refine zq ?_;refine mO ?_;exact nD [(0,1)] h
instance aX7(H:List Int):OkM (Eu H) 160 [.sl (H.map (eI u8))] [] 0 (λ r=>.own 0 0 r.length) (λ r=>[(0,⟨false,1,[A.int u8 0],r.map (eI u8)⟩)]) 1:=⟨aX6 H⟩
def TJ(j1:Unit):Option Bool:=some true
def KE(O U:List aV)(H:Int):Option (Int⊕(Unit⊕Bool)):=(if decide (H<O.length)then gd (0<=H/\H<O.length)<|gd (0<=H/\H<U.length)<|(if !decide (O.getD H.toNat aV.zero=U.getD H.toNat aV.zero)then some (.inr (.inr false))else some (.inl (i64.wrap (H+1))))else some (.inr (.inl ())))
def AI(H O:List aV):Option Bool:=(if !decide ((H.length:Int)=(O.length:Int))then some false else(mF (KE H O) 0).bind (λ|.inl z=>TJ z|.inr z=>some z))
abbrev aX9 a0 a1:=mkJ (AI a0 a1) 0 (@TJ.eq_1) λ j1=>⟨[],[],0⟩
abbrev aXa (H O:List aV):=mkL x (@KE.eq_1 H O) λ U=>⟨[(0,la H),(1,la O),(12,.int i64 H.length),(13,.int i64 U)],[],0⟩
attribute[instance]aX9 aXa
instance aXb(H O:List aV):OkP (AI H O) 123 [la H,la O] .bool:=ok1 (AI.eq_1 H O) f123 []
def Hm(H O:aV):Bool:=(decide ({H with bS:=0}={O with bS:=0}))
instance aXc(H O:aV):OkT 175 [.agg (aV.enc H),.agg (aV.enc O)] (.bool (Hm H O)):=ok2 .bool (Hm.eq_1 H O) f175 []
def TL(j1:Unit):Option Bool:=some true
def Hn(O:(aR->aR->Option Bool))(U Y:List aR)(H:Int):Option (Int⊕(Unit⊕Bool)):=(if decide (H<U.length)then gd (0<=H/\H<U.length)<|gd (0<=H/\H<Y.length)<|(O (U.getD H.toNat aR.zero) (Y.getD H.toNat aR.zero)).bind λ v1=>(if !v1 then some (.inr (.inr false))else some (.inl (i64.wrap (H+1))))else some (.inr (.inl ())))
def Cg(H:(aR->aR->Option Bool))(O U:List aR):Option Bool:=(if !decide ((O.length:Int)=(U.length:Int))then some false else(mF (Hn H O U) 0).bind (λ|.inl z=>TL z|.inr z=>some z))
abbrev aXd (H:(aR->aR->Option Bool)) (O U:List aR):=mkJ (Cg H O U) 0 (@TL.eq_1) λ j1=>⟨[],[],0⟩
abbrev aXe (H:(aR->aR->Option Bool)) (O U:List aR):=mkL x (@Hn.eq_1 H O U) λ Y=>⟨[(1,la U),(2,.clo 124 []),(15,la O),(16,.int i64 O.length),(17,.int i64 Y)],[],0⟩
attribute[instance]aXd aXe
def zW3(H:(aR->aR->Option Bool))(hrc:∀(O:aR) (U:aR) (r:Bool),H O U=some r->PFn C 124 [ga O,ga U] (.bool r))(O U:List aR)(r:Bool)(h:Cg H O U=some r):MFn C 176 [la O,la U,.clo 124 []] [] 0 (.bool r) [] 0:=by refine pF f176 [] [.bool r] λ E hG Y hK=>?_;have hm:Mk (Cg H O U):=trivial;unfold Cg at h;exact gogo
def AJ(H:Int):Bool:=(decide (97<=H)&&decide (H<=122))
instance aXf(H:Int):OkT 106 [.int u8 H] (.bool (AJ H)):=ok2 .bool (AJ.eq_1 H) f106 []
def Oi(j1:Unit):Option Bool:=some false
def Ho(O:List aK)(U:aK)(H:Int):Option (Int⊕(Unit⊕Bool)):=(if decide (H<O.length)then gd (0<=H/\H<O.length)<|(if decide (O.getD H.toNat aK.zero=U)then some (.inr (.inr true))else some (.inl (i64.wrap (H+1))))else some (.inr (.inl ())))
def l7(H:List aK)(O:aK):Option Bool:=(mF (Ho H O) 0).bind (λ|.inl z=>Oi z|.inr z=>some z)
abbrev aXi a0 a1:=mkJ (l7 a0 a1) 0 (@Oi.eq_1) λ j1=>⟨[],[],0⟩
abbrev aXj (H:List aK) (O:aK):=mkL x (@Ho.eq_1 H O) λ U=>⟨[(0,la H),(3,.ptr 0 0 0),(5,.int i64 U)],[(0,bx O)],1⟩
attribute[instance]aXi aXj
instance aXk(H:List aK)(O:aK):OkP (l7 H O) 198 [la H,ga O] .bool:=ok1 (l7.eq_1 H O) f198 []
def TM(j1:(List ByteArray)):Option (List ByteArray):=some j1
def Oj(H:Int×(List ByteArray))(O:(List ByteArray)):Option ((Int×(List ByteArray))⊕(List ByteArray)):=some (.inl (i64.wrap (H.1+1),O))
def Hp(H:Int×(List ByteArray)):Option ((Int×(List ByteArray))⊕(List ByteArray)):=gd (decide (0<H.1)=true->0<=H.1/\H.1<((H.2.length:Nat):Int))<|gd (decide (0<H.1)=true->0<=i64.wrap (H.1-1)/\i64.wrap (H.1-1)<((H.2.length:Nat):Int))<|(if decide (0<H.1)&&Op.bytesLess (H.2.getD H.1.toNat ⟨#[]⟩).toList (H.2.getD (i64.wrap (H.1-1)).toNat ⟨#[]⟩).toList then gd (0<=H.1/\H.1<((H.2.length:Nat):Int))<|gd (0<=i64.wrap (H.1-1)/\i64.wrap (H.1-1)<((H.2.length:Nat):Int))<|gd (0<=H.1/\H.1<((H.2.length:Nat):Int))<|gd (0<=i64.wrap (H.1-1)/\i64.wrap (H.1-1)<((H.2.length:Nat):Int))<|some (.inl (i64.wrap (H.1-1),(H.2.set H.1.toNat (H.2.getD (i64.wrap (H.1-1)).toNat ⟨#[]⟩)).set (i64.wrap (H.1-1)).toNat (H.2.getD H.1.toNat ⟨#[]⟩)))else some (.inr H.2))
def Hq(O:List bO)(H:Int×(List ByteArray))(U:Bool):Option ((Int×(List ByteArray))⊕(List ByteArray)):=(if U then some (.inl (i64.wrap (H.1+1),H.2))else gd (0<=H.1/\H.1<O.length)<|gd (H.2.length+1<=4294967296)<|(mF Hp (i64.wrap (((H.2.length+1:Nat):Int)-1),H.2++[(O.getD H.1.toNat bO.zero).name])).bind (λ z=>Oj H z))
def Hr(U:List bO)(O:Int×(List ByteArray))(H:Bool×Int):Option ((Bool×Int)⊕Bool):=(if decide (H.2<((O.2.length:Nat):Int))then gd ((!H.1)=true->0<=H.2/\H.2<((O.2.length:Nat):Int))<|gd ((!H.1)=true->0<=O.1/\O.1<U.length)<|some (.inl (H.1||((O.2.getD H.2.toNat ⟨#[]⟩).toList==((U.getD O.1.toNat bO.zero).name).toList),i64.wrap (H.2+1)))else some (.inr H.1))
def Hs(O:List bO)(H:Int×(List ByteArray)):Option ((Int×(List ByteArray))⊕(List ByteArray)):=(if decide (H.1<O.length)then(mF (Hr O H) (false,0)).bind (λ z=>Hq O H z)else some (.inr H.2))
def yO(H:List bO):Option (List ByteArray):=(mF (Hs H) (0,[])).bind (λ z=>TM z)
abbrev aXr a0:=mkJ (yO a0) 0 (@TM.eq_1) λ j1=>⟨[(3,.own 0 0 j1.length)],[(0,⟨false,1,[A.str ⟨#[]⟩],j1.map eS⟩)],1⟩
abbrev aXs (O:List bO) (H:Int×(List ByteArray)) j2:=mkJ (Hq O H j2) 4 (@Oj.eq_1 H) λ U=>⟨[(0,la O),(3,.own 0 0 U.length),(4,.int i64 H.1)],[(0,⟨false,1,[A.str ⟨#[]⟩],U.map eS⟩)],1⟩
abbrev aXt (O:List bO) (U:Int×(List ByteArray)) j2:=mkL (Hq O U j2) (@Hp.eq_1) λ H=>⟨[(0,la O),(3,.own 0 0 H.2.length),(4,.int i64 U.1),(7,.int i64 H.1)],[(0,⟨false,1,[A.str ⟨#[]⟩],H.2.map eS⟩)],1⟩
abbrev aXu (O:List bO) (H:Int×(List ByteArray)):=mkJ (Hs O H) 2 (@Hq.eq_1 O H) λ U=>⟨[(0,la O),(3,.own 0 0 H.2.length),(4,.int i64 H.1),(5,.bool U)],[(0,⟨false,1,[A.str ⟨#[]⟩],H.2.map eS⟩)],1⟩
abbrev aXv (O:List bO) (H:Int×(List ByteArray)):=mkL x (@Hr.eq_1 O H) λ U=>⟨[(0,la O),(3,.own 0 0 H.2.length),(4,.int i64 H.1),(5,.bool U.1),(6,.int i64 U.2)],[(0,⟨false,1,[A.str ⟨#[]⟩],H.2.map eS⟩)],1⟩
abbrev aXw (O:List bO):=mkL x (@Hs.eq_1 O) λ H=>⟨[(0,la O),(3,.own 0 0 H.2.length),(4,.int i64 H.1)],[(0,⟨false,1,[A.str ⟨#[]⟩],H.2.map eS⟩)],1⟩
attribute[instance]aXr aXs aXt aXu aXv aXw
instance aXx(H:List bO):OkP (yO H) 154 [la H] (λ r=>.sl (r.map eS)):=ok1 (yO.eq_1 H) f154 [(3,1)]
def TN(j1:Unit):Option Int:=some (-1)
def KF(O:List bV)(U H:Int):Option (Int⊕(Unit⊕Int)):=(if decide (H<O.length)then gd (0<=H/\H<O.length)<|(if decide ((O.getD H.toNat bV.zero).label=U)then some (.inr (.inr H))else some (.inl (i64.wrap (H+1))))else some (.inr (.inl ())))
def l8(H:List bV)(O:Int):Option Int:=(mF (KF H O) 0).bind (λ|.inl z=>TN z|.inr z=>some z)
abbrev aY0 a0 a1:=mkJ (l8 a0 a1) 0 (@TN.eq_1) λ j1=>⟨[],[],0⟩
abbrev aY1 (H:List bV) (O:Int):=mkL x (@KF.eq_1 H O) λ U=>⟨[(0,la H),(1,.int i64 O),(5,.int i64 U)],[],0⟩
attribute[instance]aY0 aY1
instance aY2(H:List bV)(O:Int):OkP (l8 H O) 155 [la H,.int i64 O] (λ r=>.int i64 r):=ok1 (l8.eq_1 H O) f155 []
def TO(j1:Int×Int):Option (Int×Int):=some (j1.1,i64.wrap (j1.2+1))
def KG(H:Int×Int×Int)(v1:Int×Int)(O:Int):Option ((Int×Int×Int)⊕((Int×Int)⊕(Int×Int))):=(if decide (24<i64.wrap (H.1+v1.1))then some (.inr (.inr (25,0)))else some (.inl (i64.wrap (H.1+v1.1),O,i64.wrap (H.2.2+1))))
def Ev(O:(aR->Int->Option (Int×Int)))(U:aR)(Y:Int)(H:Int×Int×Int):Option ((Int×Int×Int)⊕((Int×Int)⊕(Int×Int))):=(if decide (H.2.2<U.bG.length)then gd (0<=H.2.2/\H.2.2<U.bG.length)<|(O (U.bG.getD H.2.2.toNat aR.zero) (i64.wrap (Y+1))).bind λ v1=>(if decide (H.2.1<v1.2)then KG H v1 v1.2 else KG H v1 H.2.1)else some (.inr (.inl (H.1,H.2.1))))
def Ew(H:(aR->Int->Option (Int×Int)))(O:aR)(U:Int):Option (Int×Int):=(if decide (4<U)||decide (24<(O.bG.length:Int))then some (25,0)else(mF (Ev H O U) (1,0,0)).bind (λ|.inl z=>TO z|.inr z=>some z))
def l9:Nat->(aR->Int->Option (Int×Int))
 |0=>λ _ _=>none
 |n+1=>Ew (l9 n)
def KH(H:aR)(O:Int):Option (Int×Int):=l9 (_root_.SizeOf.sizeOf H+1) H O
abbrev aY7 (H:(aR->Int->Option (Int×Int))) (O:aR) (U:Int):=mkJ (Ew H O U) 0 (@TO.eq_1) λ j1=>⟨[(6,.int i64 j1.1),(7,.int i64 j1.2)],[],0⟩
abbrev aY8 (O:(aR->Int->Option (Int×Int))) (U:aR) (Y:Int) (H:Int×Int×Int) (v1:Int×Int):=mkJ (Ev O U Y H,v1) 999 (@KG.eq_1 H v1) λ B=>⟨[(1,.int i64 Y),(2,.ptr 0 0 0),(6,.int i64 (i64.wrap (H.1+v1.1))),(7,.int i64 B),(8,.int i64 H.2.2)],[(0,bx U)],1⟩
abbrev aY9 (H:(aR->Int->Option (Int×Int))) (U:aR) (Y:Int):=mkL x (@Ev.eq_1 H U Y) λ O=>⟨[(1,.int i64 Y),(2,.ptr 0 0 0),(6,.int i64 O.1),(7,.int i64 O.2.1),(8,.int i64 O.2.2)],[(0,bx U)],1⟩
attribute[instance]aY7 aY8 aY9
abbrev KI(g:(aR->Int->Option (Int×Int))):Prop:=∀(H:aR) (O:Int),OkP (g H O) 250 [.agg (aR.enc H),.int i64 O] (λ r=>.tup [.int i64 r.1,.int i64 r.2])
theorem aYb(H:(aR->Int->Option (Int×Int)))(hrc:KI H):KI (Ew H):=λ O U=>ok1 (Ew.eq_1 H O U) f250 []
theorem aYc:∀n,KI (l9 n):=Ay (λ _ _=>⟨λ _ h=>nomatch h⟩) λ n=>aYb _
instance aYd:KI KH:=λ H O=>aYc _ H O
def TP(j1:(List aJ)):Option (List aJ):=some j1
def KJ(O:List aA)(H:Int×(List aJ)):Option ((Int×(List aJ))⊕(List aJ)):=(if decide (H.1<O.length)then gd (0<=H.1/\H.1<O.length)<|gd (H.2.length+1<=4294967296)<|some (.inl (i64.wrap (H.1+1),H.2++[(O.getD H.1.toNat aA.zero).aB]))else some (.inr H.2))
def AK(H:List aA):Option (List aJ):=(mF (KJ H) (0,[])).bind (λ z=>TP z)
abbrev aYg a0:=mkJ (AK a0) 0 (@TP.eq_1) λ j1=>⟨[(3,.own 0 0 j1.length)],[(0,sx j1)],1⟩
abbrev aYh (O:List aA):=mkL x (@KJ.eq_1 O) λ H=>⟨[(0,la O),(3,.own 0 0 H.2.length),(4,.int i64 H.1)],[(0,sx H.2)],1⟩
attribute[instance]aYg aYh
instance aYi(H:List aA):OkP (AK H) 143 [la H] la:=ok1 (AK.eq_1 H) f143 [(3,1)]
def Ok(j1:Unit):Option Bool:=some false
def Ht(Y:aR)(U:List aO)(O:List Bool)(H:Int):Option (Int⊕(Unit⊕Bool)):=(if decide (H<U.length)then gd (0<=H/\H<U.length)<|(if decide (U.getD H.toNat aO.zero=Y.aZ)then gd (decide (H<O.length)=true->0<=H/\H<O.length)<|some (.inr (.inr (decide (H<O.length)&&O.getD H.toNat false)))else some (.inl (i64.wrap (H+1))))else some (.inr (.inl ())))
def TQ(H:aR)(O:Int):Option Bool:=some (decide (H.k<=O))
def KK(O:(aR->List aO->List Bool->Option Bool))(U:aR)(Y:List aO)(B:List Bool)(H:Int×Int):Option ((Int×Int)⊕Int):=(if decide (H.2<U.bG.length)then gd (0<=H.2/\H.2<U.bG.length)<|(O (U.bG.getD H.2.toNat aR.zero) Y B).bind λ v1=>(if v1 then some (.inl (i64.wrap (H.1+1),i64.wrap (H.2+1)))else some (.inl (H.1,i64.wrap (H.2+1))))else some (.inr H.1))
def Ch(O:(aR->List aO->List Bool->Option Bool))(H:aR)(U:List aO)(Y:List Bool):Option Bool:=(if decide (H.k=0)then(mF (Ht H U Y) 0).bind (λ|.inl z=>Ok z|.inr z=>some z)else(mF (KK O H U Y) (0,0)).bind (λ z=>TQ H z))
def fr_ref08_holds:Nat->(aR->List aO->List Bool->Option Bool)
 |0=>λ _ _ _=>none
 |n+1=>Ch (fr_ref08_holds n)
def f_ref08_holds(H:aR)(O:List aO)(U:List Bool):Option Bool:=fr_ref08_holds (_root_.SizeOf.sizeOf H+1) H O U
abbrev aYo (H:(aR->List aO->List Bool->Option Bool)) (O:aR) (U:List aO) (Y:List Bool):=mkJ (Ch H O U Y) 0 (@Ok.eq_1) λ j1=>⟨[],[],0⟩
abbrev aYp (H:aR) (O:List aO) (U:List Bool):=mkL x (@Ht.eq_1 H O U) λ Y=>⟨[(1,la O),(2,.sl (U.map eB)),(3,.ptr 0 0 0),(7,.int i64 Y)],[(0,bx H)],1⟩
abbrev aYq (H:(aR->List aO->List Bool->Option Bool)) (O:aR) (U:List aO) (Y:List Bool):=mkJ (Ch H O U Y) 2 (@TQ.eq_1 O) λ B=>⟨[(3,.ptr 0 0 0),(8,.int i64 B)],[(0,bx O)],1⟩
abbrev aYr (H:(aR->List aO->List Bool->Option Bool)) (O:aR) (U:List aO) (Y:List Bool):=mkL x (@KK.eq_1 H O U Y) λ B=>⟨[(1,la U),(2,.sl (Y.map eB)),(3,.ptr 0 0 0),(8,.int i64 B.1),(9,.int i64 B.2)],[(0,bx O)],1⟩
attribute[instance]aYo aYp aYq aYr
abbrev KL(g:(aR->List aO->List Bool->Option Bool)):Prop:=∀(H:aR) (O:List aO) (U:List Bool),OkP (g H O U) 203 [.agg (aR.enc H),.sl (O.map aO.enc),.sl (U.map eB)] (λ r=>.bool r)
theorem aYt(H:(aR->List aO->List Bool->Option Bool))(hrc:KL H):KL (Ch H):=λ O U Y=>ok1 (Ch.eq_1 H O U Y) f203 []
theorem aYu:∀n,KL (fr_ref08_holds n):=Ay (λ _ _ _=>⟨λ _ h=>nomatch h⟩) λ n=>aYt _
instance aYv:KL f_ref08_holds:=λ H O U=>aYu _ H O U
def m4(H:aA):Option aA:=gd (H.aS.length<=4294967296)<|gd (H.aN.length<=4294967296)<|gd (H.aW.length<=4294967296)<|some H
instance aYw(H:aA):OkP (m4 H) 208 [ga H] ga:=ok1 (m4.eq_1 H) f208 [(3,1),(8,1),(13,1)]
def yP(H:List aA)(O:Int)(U:aA):Option (List aA):=gd (H.length<=4294967296)<|gd (0<=O/\O<((H.length:Nat):Int))<|some (H.set O.toNat U)
instance aYx(H:List aA)(O:Int)(U:aA):OkP (yP H O U) 261 [la H,.int i64 O,ga U] la:=ok1 (yP.eq_1 H O U) f261 [(8,1)]
def Ol(H:List ByteArray)(O:ByteArray)(j1:Int):Option (List ByteArray):=gd (decide (j1<H.length)=true->0<=j1/\j1<H.length)<|(if decide (j1<H.length)&&((H.getD j1.toNat ⟨#[]⟩).toList==O.toList)then some H else gd (0<=0/\0<=j1/\j1<=H.length)<|gd ((H.take j1.toNat).length<=4294967296)<|gd ((H.take j1.toNat).length+1<=4294967296)<|gd (0<=j1/\j1<=(H.length:Int)/\(H.length:Int)<=(H.length:Int))<|gd ((H.take j1.toNat).length+1+(H.drop j1.toNat).length<=4294967296)<|some ((H.take j1.toNat++[O])++H.drop j1.toNat))
def KM(O:List ByteArray)(U:ByteArray)(H:Int):Option (Int⊕Int):=gd (decide (H<O.length)=true->0<=H/\H<O.length)<|(if decide (H<O.length)&&Op.bytesLess (O.getD H.toNat ⟨#[]⟩).toList U.toList then some (.inl (i64.wrap (H+1)))else some (.inr H))
def AL(H:List ByteArray)(O:ByteArray):Option (List ByteArray):=(mF (KM H O) 0).bind (λ z=>Ol H O z)
abbrev aZ0 (H:List ByteArray) (O:ByteArray):=mkJ (AL H O) 0 (@Ol.eq_1 H O) λ j1=>⟨[(0,.sl (H.map eS)),(1,.str O),(5,.int i64 j1)],[],0⟩
abbrev aZ1 (H:List ByteArray) (O:ByteArray):=mkL x (@KM.eq_1 H O) λ U=>⟨[(0,.sl (H.map eS)),(1,.str O),(5,.int i64 U)],[],0⟩
attribute[instance]aZ0 aZ1
instance aZ2(H:List ByteArray)(O:ByteArray):OkP (AL H O) 156 [.sl (H.map eS),.str O] (λ r=>.sl (r.map eS)):=ok1 (AL.eq_1 H O) f156 []
def TR(j1:Unit):Option Bool:=some true
def TS(O U:List bA)(H:Int):Option (Int⊕(Unit⊕Bool)):=(if decide (H<O.length)then gd (0<=H/\H<O.length)<|gd (0<=H/\H<U.length)<|(if !decide (O.getD H.toNat bA.zero=U.getD H.toNat bA.zero)then some (.inr (.inr false))else some (.inl (i64.wrap (H+1))))else some (.inr (.inl ())))
def Ci(H O:List bA):Option Bool:=(if !decide ((H.length:Int)=(O.length:Int))then some false else(mF (TS H O) 0).bind (λ|.inl z=>TR z|.inr z=>some z))
abbrev aZ5 a0 a1:=mkJ (Ci a0 a1) 0 (@TR.eq_1) λ j1=>⟨[],[],0⟩
abbrev aZ6 (H O:List bA):=mkL x (@TS.eq_1 H O) λ U=>⟨[(0,la H),(1,la O),(5,.int i64 U)],[],0⟩
attribute[instance]aZ5 aZ6
instance aZ7(H O:List bA):OkP (Ci H O) 171 [la H,la O] .bool:=ok1 (Ci.eq_1 H O) f171 []
def Hu(H:Int):Bool:=(decide (0<=H)&&decide (H<=1073741824))
instance aZ9(H:Int):OkT 52 [.int i64 H] (.bool (Hu H)):=ok2 .bool (Hu.eq_1 H) f52 []
def Ex(O H:Int):Option Bool:=gd ((rI O&&rI H)=true->0<=H/\H<6)<|some ((rI O&&rI H)&&Arr.get (N7 O) H.toNat false)
instance aZa(H O:Int):OkP (Ex H O) 303 [.int i64 H,.int i64 O] .bool:=ok1 (Ex.eq_1 H O) f303 []
def Ey(H:aR):Option Int:=(Ku H 1 0).bind λ v1=>some v1.1
instance aZb(H:aR):OkP (Ey H) 221 [ga H] (λ r=>.int i64 r):=ok1 (Ey.eq_1 H) f221 []
def On(H:(List aV)):Option (List aV):=some H
@[go_sem] def aZc(H:(List aV)):St:=⟨[(6,.own 0 0 H.length)],[(0,sx H)],1⟩
def AM(O:List (List aV))(H:Int×(List aV)):Option ((Int×(List aV))⊕(List aV)):=(if decide (H.1<O.length)then gd (0<=H.1/\H.1<O.length)<|gd (H.2.length+(O.getD H.1.toNat []).length<=4294967296)<|some (.inl (i64.wrap (H.1+1),H.2++O.getD H.1.toNat []))else some (.inr H.2))
@[go_sem] def aZd(O:List (List aV))(H:Int×(List aV)):St:=⟨[(6,.own 0 0 H.2.length),(25,.sl (O.map (eL aV.enc))),(26,.int i64 O.length),(27,.int i64 H.1)],[(0,sx H.2)],1⟩
def KN(H:List (List aV))(j1:Int):Option (List aV):=(KD j1).bind λ v1=>(mF (AM H) (0,v1)).bind (λ z=>On z)
@[go_sem] def aZe(H:List (List aV))(j1:Int):St:=⟨[(0,.sl (H.map (eL aV.enc))),(3,.int i64 j1)],[],0⟩
def AN(O:List (List aV))(H:Int×Int):Option ((Int×Int)⊕Int):=(if decide (H.2<O.length)then gd (0<=H.2/\H.2<O.length)<|(if decide (i64.wrap (H.1+((O.getD H.2.toNat []).length:Int))<0)then none else some (.inl (i64.wrap (H.1+((O.getD H.2.toNat []).length:Int)),i64.wrap (H.2+1))))else some (.inr H.1))
@[go_sem] def aZf(H:List (List aV))(O:Int×Int):St:=⟨[(0,.sl (H.map (eL aV.enc))),(3,.int i64 O.1),(9,.sl (H.map (eL aV.enc))),(10,.int i64 H.length),(11,.int i64 O.2)],[],0⟩
def Cj(H:List (List aV)):Option (List aV):=(mF (AN H) (0,0)).bind (λ z=>KN H z)
def aZg(B:List (List aV))(r:(List aV))(h:Cj B=some r):PFn C 305 [.sl (B.map (eL aV.enc))] (la r):=by
 refine oT f305 [] λ E hG hN hK=>?_;unfold Cj at h;refine zq ?_;refine zq ?_;refine mD (zq ?_);refine qA (aZe B) (λ v=>KN B v=some r) ?_ ?_
 · intro j1 h
   unfold KN at h;refine g_st ?_;refine zq ?_;obtain⟨v1,F,h⟩:=mG h;refine mU [] [(0,0)] [0] (aX5 _ _ F) rfl rfl ?_;refine mD (zq ?_);refine qA aZc (λ v=>On v=some r) ?_ ?_
   · intro j2 h
     unfold On at h;refine g_st ?_;refine zq ?_;refine mO ?_;exact nU h
   refine qO (aZd B) hK [(0,0)] h (λ M h g1 h0 O U=>?_);unfold AM at O;refine g_st ?_;refine zq ?_;refine mD ?_;refine mJ rfl hG O (λ _ O=>?_) (λ _ O=>?_)
   · refine mN ?_
     refine mD (oM (mD ?_));obtain⟨z0,O⟩:=mM O;refine mE hG ?_;obtain⟨u0,O⟩:=mM O;refine mE hG ?_;refine mE hG ?_;exact pA hK [(0,1)] O
   refine oO ?_;cases O;cases U _ rfl;exact nA hK [(0,0)] g1.2 (by exact h)
 refine qO (aZf B) hK [] h (λ x0 h g2 y0 H Y=>?_);unfold AN at H;refine g_st ?_;refine zq ?_;refine mD ?_;refine mJ rfl hG H (λ _ H=>?_) (λ _ H=>?_)
 · refine mN ?_
   refine mD (oM (mD ?_));obtain⟨p0,H⟩:=mM H;refine mE hG ?_;refine zq ?_;refine zq ?_;refine mJ rfl hG H (λ _ H=>?_) (λ _ H=>?_)
   .exact aPw H
   refine mN ?_;refine mE hG ?_;exact pA hK [] H
 refine oO ?_;cases H;cases Y _ rfl;exact nA hK [] g2.1 (by exact h)
instance aZh(H:List (List aV)):OkP (Cj H) 305 [.sl (H.map (eL aV.enc))] la:=⟨aZg H⟩
def tY(O U:Int)(H:aT):Option (Int×aT):=(if !decide (H.err=0)then some (0,H)else(sL H.b).bind λ v1=>(if !decide (v1.2.2=0)then some (0,{H with err:=v1.2.2})else gd (0<=v1.2.1/\v1.2.1<=(H.b.length:Int)/\(H.b.length:Int)<=(H.b.length:Int))<|(if decide (O<v1.1)then some (0,{{H with b:=(H.b.drop v1.2.1.toNat)}with err:=U})else some (i64.wrap v1.1,{H with b:=(H.b.drop v1.2.1.toNat)}))))
instance TU(H O:Int)(U:aT):OkM (tY H O U) 29 [.ptr 0 0 0,.int u64 H,.int i64 O] [(0,bx U)] 1 (λ r=>.int i64 r.1) (λ r=>[(0,bx r.2)]) 1:=okm (tY.eq_1 H O U) (λ r=>[.int i64 r.1]) f29 []
def AO(H:aX)(v1:Int×Int×Int)(j1:Int):Option (Int×aX):=(if !decide (j1=0)then some (0,{H with bC:={H.bC with err:=j1}})else gd (0<=v1.2.1/\v1.2.1<=(H.bC.rest.length:Int)/\(H.bC.rest.length:Int)<=(H.bC.rest.length:Int))<|some (i64.wrap v1.1,{H with bC:={H.bC with rest:=(H.bC.rest.drop v1.2.1.toNat)}}))
def vU(O U:Int)(H:aX):Option (Int×aX):=(if !decide (H.bC.err=0)then some (0,H)else(sL H.bC.rest).bind λ v1=>(if decide (v1.2.2=0)&&decide (u64.wrap O<v1.1)then AO H v1 U else AO H v1 v1.2.2))
@[reducible,instance]def aZj a0 a1 (H:aX) (v1:Int×Int×Int):=mkJ (vU a0 a1 H,v1) 999 (@AO.eq_1 H v1) λ j1=>⟨[(0,.ptr 0 0 0),(7,.int u64 v1.1),(8,.int i64 v1.2.1),(9,.int i64 j1)],[(0,bx H)],1⟩
instance aZk(H O:Int)(U:aX):OkM (vU H O U) 217 [.ptr 0 0 0,.int i64 H,.int i64 O] [(0,bx U)] 1 (λ r=>.int i64 r.1) (λ r=>[(0,bx r.2)]) 1:=okm (vU.eq_1 H O U) (λ r=>[.int i64 r.1]) f217 []
def AP(H:Int):Option aK:=(vR H 8).bind λ v1=>some (⟨v1.tmod 4,1,i64.wrap (1+i64.wrap (v1.tdiv 4))⟩:aK)
instance aZl(H:Int):OkP (AP H) 18 [.int i64 H] ga:=ok1 (AP.eq_1 H) f18 []
def uR(H:aA)(O:aK):Option (aC×Bool):=(wX H.aN O).bind λ v1=>(if decide (0<=v1)then gd (0<=v1/\v1<H.aN.length)<|some ((H.aN.getD v1.toNat aV.zero).aI,true)else(wX H.aW O).bind λ v2=>(if decide (0<=v2)then gd (0<=v2/\v2<H.aW.length)<|some ((H.aW.getD v2.toNat aV.zero).aI,true)else some ({aC.zero with},false)))
instance aZm(H:aA)(O:aK):OkP (uR H O) 201 [ga H,ga O] (λ r=>.tup [ga r.1,.bool r.2]):=ok1 (uR.eq_1 H O) f201 []
def Hv(H O:aP):Option Bool:=(if (decide (H.aM=O.aM)&&decide (H.label=O.label))&&decide (H.cost=O.cost)then yL H.lower O.lower else some false).bind λ v1=>some (((decide (H.aM=O.aM)&&decide (H.label=O.label))&&decide (H.cost=O.cost))&&v1)
instance aZn(H O:aP):OkP (Hv H O) 78 [ga H,ga O] .bool:=ok1 (Hv.eq_1 H O) f78 []
def qV(H:List Int)(O:Int):Option (List Int):=(tL H (u64.wrap O)).bind λ v1=>some v1
instance aZo(H:List Int)(O:Int):OkP (qV H O) 112 [.sl (H.map (eI u8)),.int i64 O] (λ r=>.sl (r.map (eI u8))):=ok1 (qV.eq_1 H O) f112 [(8,1)]
def Ck(O:List Int)(H:ByteArray):Option (List Int):=(pW O (u64.wrap (H.size:Int))).bind λ v1=>gd (v1.length+H.toList.length<=4294967296)<|some (v1++(H.toList.map λ b=>(b.toNat:Int)))
instance aZp(H:List Int)(O:ByteArray):OkP (Ck H O) 60 [.sl (H.map (eI u8)),.str O] (λ r=>.sl (r.map (eI u8))):=ok1 (Ck.eq_1 H O) f60 []
def m6(O:List Int)(H:aK):Option (List Int):=(if !(pJ H)then gd (O.length<=4294967296)<|some O else(tL O (u64.wrap H.site)).bind λ v1=>(tL v1 (u64.wrap H.inc)).bind λ v2=>(tL v2 (u64.wrap H.num)).bind λ v3=>some v3)
instance aZq(H:List Int)(O:aK):OkP (m6 H O) 59 [.sl (H.map (eI u8)),ga O] (λ r=>.sl (r.map (eI u8))):=ok1 (m6.eq_1 H O) f59 [(8,1),(15,1),(19,1),(23,1)]
def mV(H:aK):Bool:=((j5 H.site 0 3&&j5 H.inc 1 99)&&j5 H.num 1 999)
instance aZr(H:aK):OkT 125 [.agg (aK.enc H)] (.bool (mV H)):=ok2 .bool (mV.eq_1 H) f125 []
def Ez(H O:Int):Option Bool:=gd ((rI H&&rI O)=true->0<=i64.wrap (H-1)/\i64.wrap (H-1)<5)<|gd ((rI H&&rI O)=true->0<=i64.wrap (O-1)/\i64.wrap (O-1)<5)<|some ((rI H&&rI O)&&Arr.get (Arr.get Ka (i64.wrap (H-1)).toNat (Arr.rep 5 false)) (i64.wrap (O-1)).toNat false)
instance aZs(H O:Int):OkP (Ez H O) 301 [.int i64 H,.int i64 O] .bool:=ok1 (Ez.eq_1 H O) f301 []
def Cl(O:List Int)(H:ByteArray):Option (List Int):=(pN O (u64.wrap (H.size:Int))).bind λ v1=>gd (v1.length+H.toList.length<=4294967296)<|some (v1++(H.toList.map λ b=>(b.toNat:Int)))
instance aZt(H:List Int)(O:ByteArray):OkP (Cl H O) 103 [.sl (H.map (eI u8)),.str O] (λ r=>.sl (r.map (eI u8))):=ok1 (Cl.eq_1 H O) f103 []
def Cm(H O:aP):Option Bool:=(if (decide (H.aM=O.aM)&&decide (H.label=O.label))&&decide (H.cost=O.cost)then Cc H.lower O.lower else some false).bind λ v1=>some (((decide (H.aM=O.aM)&&decide (H.label=O.label))&&decide (H.cost=O.cost))&&v1)
instance aZu(H O:aP):OkP (Cm H O) 37 [ga H,ga O] .bool:=ok1 (Cm.eq_1 H O) f37 []
def EA(H O:Int):Bool:=(if (((!(sX H))||(!(sX O)))||decide (H=5))||decide (O=5)then false else((decide (H=1)||decide (O=1))||(decide (H=O)&&(!decide (H=4)))))
instance aZv(H O:Int):OkT 281 [.int i64 H,.int i64 O] (.bool (EA H O)):=ok2 .bool (EA.eq_1 H O) f281 []
def AQ(H O:Int):Bool:=(if (!(sX H))||(!(sX O))then false else(((decide (H=O)||decide (H=5))||decide (O=1))||(decide (H=4)&&(!decide (O=5)))))
instance aZw(H O:Int):OkT 212 [.int i64 H,.int i64 O] (.bool (AQ H O)):=ok2 .bool (AQ.eq_1 H O) f212 []
def TV(j1:(List aO)):Option (List aO):=some j1
def KO(O:bB)(v1:(List ByteArray))(H:Int×(List aO)):Option ((Int×(List aO))⊕(List aO)):=(if decide (H.1<v1.length)then gd (0<=H.1/\H.1<v1.length)<|(tX O.aQ (v1.getD H.1.toNat ⟨#[]⟩)).bind λ v2=>(if !decide (v2={aC.zero with})then gd (0<=H.1/\H.1<v1.length)<|gd (H.2.length+1<=4294967296)<|some (.inl (i64.wrap (H.1+1),H.2++[(⟨v1.getD H.1.toNat ⟨#[]⟩,v2⟩:aO)]))else some (.inl (i64.wrap (H.1+1),H.2)))else some (.inr H.2))
def Cn(H:bB):Option (List aO):=(yO H.aQ).bind λ v1=>(mF (KO H v1) (0,[])).bind (λ z=>TV z)
abbrev aZz a0:=mkJ (Cn a0,v1) 0 (@TV.eq_1) λ j1=>⟨[(3,.own 0 0 j1.length)],[(0,sx j1)],1⟩
abbrev bA0 (O:bB) (v1:(List ByteArray)):=mkL x (@KO.eq_1 O v1) λ H=>⟨[(1,.ptr 0 0 0),(3,.own 1 0 H.2.length),(4,.sl (v1.map eS)),(5,.int i64 H.1)],[(0,bx O),(1,sx H.2)],2⟩
attribute[instance]aZz bA0
instance bA1(H:bB):OkP (Cn H) 136 [ga H] la:=ok1 (Cn.eq_1 H) f136 [(3,1)]
def EB(H:aR):Option Int:=(KH H 1).bind λ v1=>(if decide (24<v1.1)then some 0 else some v1.1)
instance bA2(H:aR):OkP (EB H) 215 [ga H] (λ r=>.int i64 r):=ok1 (EB.eq_1 H) f215 []
def uS(O:Int)(H:bD):Option (Int×(List aA)×(List aG)×(List bN)):=gd (0<=O/\O<((H.c.aD.length:Nat):Int))<|gd (0<=O/\O<((H.c.aD.length:Nat):Int))<|some (H.c.now,H.c.aF,H.c.aD.set O.toNat ({(H.c.aD.getD O.toNat aG.zero)with gen:=(pC (H.c.aD.getD O.toNat aG.zero).gen)}),H.ev)
instance bA3(O:Int)(H:bD):OkM (uS O H) 190 [.ptr 0 0 0,.int i64 O] [(0,⟨false,4,bD.enc bD.zero,[[.int i64 H.c.now,la H.c.aF,.own 1 0 H.c.aD.length,.own 2 0 H.ev.length]]⟩),(1,sx H.c.aD),(2,sx H.ev)] 3 (λ r=>.tup []) (λ r=>[(0,⟨false,4,bD.enc bD.zero,[[.int i64 r.1,la r.2.1,.own 1 0 r.2.2.1.length,.own 2 0 r.2.2.2.length]]⟩),(1,sx r.2.2.1),(2,sx r.2.2.2)]) 3:=okm (uS.eq_1 O H) (λ r=>[]) f190 []
def TW(j1:aL):Option aL:=some j1
def Hw (O:aL) (H:Int×aL):Option ((Int×aL)⊕aL):=(if decide (H.1<(((nF O.kind).toList.map λ b=>(b.toNat:Int)).length:Int))then gd (0<=H.1/\H.1<(((nF O.kind).toList.map λ b=>(b.toNat:Int)).length:Int))<|(if decide (((nF O.kind).toList.map λ b=>(b.toNat:Int)).getD H.1.toNat 0=80)then some (.inl (i64.wrap (H.1+1),{H.2 with aM:=O.aM}))else(if decide (((nF O.kind).toList.map λ b=>(b.toNat:Int)).getD H.1.toNat 0=71)then some (.inl (i64.wrap (H.1+1),{H.2 with gen:=O.gen}))else(if decide (((nF O.kind).toList.map λ b=>(b.toNat:Int)).getD H.1.toNat 0=65)then some (.inl (i64.wrap (H.1+1),{H.2 with aZ:=O.aZ}))else(if decide (((nF O.kind).toList.map λ b=>(b.toNat:Int)).getD H.1.toNat 0=89)then some (.inl (i64.wrap (H.1+1),{H.2 with bE:=O.bE}))else(if decide (((nF O.kind).toList.map λ b=>(b.toNat:Int)).getD H.1.toNat 0=68)then some (.inl (i64.wrap (H.1+1),{H.2 with done:=O.done}))else(if decide (((nF O.kind).toList.map λ b=>(b.toNat:Int)).getD H.1.toNat 0=83)then some (.inl (i64.wrap (H.1+1),{H.2 with site:=O.site}))else(if decide (((nF O.kind).toList.map λ b=>(b.toNat:Int)).getD H.1.toNat 0=73)then some (.inl (i64.wrap (H.1+1),{H.2 with inc:=O.inc}))else(if decide (((nF O.kind).toList.map λ b=>(b.toNat:Int)).getD H.1.toNat 0=82)then some (.inl (i64.wrap (H.1+1),{H.2 with round:=O.round}))else(if decide (((nF O.kind).toList.map λ b=>(b.toNat:Int)).getD H.1.toNat 0=69)then some (.inl (i64.wrap (H.1+1),{H.2 with epoch:=O.epoch}))else(if decide (((nF O.kind).toList.map λ b=>(b.toNat:Int)).getD H.1.toNat 0=76)then some (.inl (i64.wrap (H.1+1),{H.2 with label:=O.label}))else(if decide (((nF O.kind).toList.map λ b=>(b.toNat:Int)).getD H.1.toNat 0=87)then some (.inl (i64.wrap (H.1+1),{H.2 with state:=O.state}))else(if decide (((nF O.kind).toList.map λ b=>(b.toNat:Int)).getD H.1.toNat 0=79)then some (.inl (i64.wrap (H.1+1),{H.2 with options:=O.options}))else some (.inl (i64.wrap (H.1+1),H.2))))))))))))))else some (.inr H.2))
def Co(H:aL):Option aL:=gd ((nF H.kind).size<=4294967296)<|(mF (Hw H) (0,{aL.zero with kind:=H.kind})).bind (λ z=>TW z)
abbrev bA6 a0:=mkJ (Co a0) 0 (@TW.eq_1) λ j1=>⟨[(2,.ptr 0 0 0),(3,.ptr 1 0 0)],[(0,bx aL.zero),(1,bx j1)],2⟩
abbrev bA7 (H:aL):=mkL x (@Hw.eq_1 H) λ O=>⟨[(1,.ptr 0 0 0),(2,.ptr 1 0 0),(3,.ptr 2 0 0),(12,.sl (((nF H.kind).toList.map λ b=>(b.toNat:Int)).map (eI u8))),(13,.int i64 (((nF H.kind).toList.map λ b=>(b.toNat:Int)).length:Int)),(14,.int i64 O.1)],[(0,bx H),(1,bx aL.zero),(2,bx O.2)],3⟩
attribute[instance]bA6 bA7
instance bA8(H:aL):OkP (Co H) 26 [ga H] ga:=ok1 (Co.eq_1 H) f26 []
def EC(H O:aA):Option Bool:=(if decide (H.aB=O.aB)&&decide (H.gen=O.gen)then Ci H.aS O.aS else some false).bind λ v1=>(if (decide (H.aB=O.aB)&&decide (H.gen=O.gen))&&v1 then AH H.aN O.aN else some false).bind λ v2=>(if ((decide (H.aB=O.aB)&&decide (H.gen=O.gen))&&v1)&&v2 then AH H.aW O.aW else some false).bind λ v3=>some ((((decide (H.aB=O.aB)&&decide (H.gen=O.gen))&&v1)&&v2)&&v3)
instance bA9(H O:aA):OkP (EC H O) 119 [ga H,ga O] .bool:=ok1 (EC.eq_1 H O) f119 []
def TX(j1:Unit):Option Bool:=some true
def ED(O:ByteArray)(H:Int):Option (Int⊕(Unit⊕Bool)):=(if decide (H<(O.size:Int))then gd (0<=H/\H<(O.size:Int))<|(if (!(decide (97<=((O.toList.getD H.toNat 0).toNat:Int))&&decide (((O.toList.getD H.toNat 0).toNat:Int)<=122)))&&(decide (H=0)||(!(((decide (48<=((O.toList.getD H.toNat 0).toNat:Int))&&decide (((O.toList.getD H.toNat 0).toNat:Int)<=57))||decide (((O.toList.getD H.toNat 0).toNat:Int)=95))||decide (((O.toList.getD H.toNat 0).toNat:Int)=45))))then some (.inr (.inr false))else some (.inl (i64.wrap (H+1))))else some (.inr (.inl ())))
def wY(H:ByteArray):Option Bool:=(if (decide ((H.size:Int)<1)||decide (12<(H.size:Int)))||Ej H then some false else(mF (ED H) 0).bind (λ|.inl z=>TX z|.inr z=>some z))
abbrev bAb a0:=mkJ (wY a0) 0 (@TX.eq_1) λ j1=>⟨[],[],0⟩
abbrev bAc (H:ByteArray):=mkL x (@ED.eq_1 H) λ O=>⟨[(0,.str H),(20,.int i64 (H.size:Int)),(21,.int i64 O)],[],0⟩
attribute[instance]bAb bAc
instance bAd(H:ByteArray):OkP (wY H) 126 [.str H] .bool:=ok1 (wY.eq_1 H) f126 []
def KP(H:aL)(j1:Unit):Option Bool:=(if ((!decide ((H.state.aF.length:Int)=0))||(!decide ((H.state.aY.length:Int)=0)))||(!decide ((H.options.length:Int)=0))then some false else some (((decide (H.kind=0)&&decide (H.aM={aK.zero with}))&&decide (H.aZ={aO.zero with}))&&(!H.done)))
@[go_sem] def bAf(H:aL)(j1:Unit):St:=⟨[(1,.ptr 0 0 0)],[(0,bx H)],1⟩
def KQ(H:aL)(O:Int×bL)(U:Unit):Option (Unit⊕(Unit⊕Bool)):=(oP (O.2).of).bind λ v2=>(if !decide (nQ H v2=0)then some (.inr (.inr false))else some (.inl ()))
@[go_sem] def bAh(H:aL)(v1:(List (Int×bL)))(s0:List Nat)(O:Unit):St:=⟨[(1,.ptr 0 0 0),(6,.it 1)],[(0,bx H),(1,⟨false,0,[],[.mp 2,.int i64 v1.length]::s0.map iE⟩),(2,⟨false,0,[A.int u8 0,A.bool true],v1.map (mI u8 bL.enc)⟩)],3⟩
def EE(H:aL):Option Bool:=(l6).bind λ v1=>rngO v1 (0,bL.zero) (KQ H) (λ O:Unit=>(.inl ())) () (λ|.inl z=>KP H z|.inr z=>some z)
def bAi(F:aL)(r:Bool)(h:EE F=some r):PFn C 86 [ga F] (.bool r):=by
 refine oT f86 [(7,80),(9,80),(13,1)] λ E hG hN hK=>?_;unfold EE at h;refine zq ?_;refine mD (zq ?_);obtain⟨v1,h0,h⟩:=mG h;refine mU [] [(0,1)] [0] ((Hl).ok _ h0) rfl rfl ?_;refine qA (bAf F) (λ v=>KP F v=some r) ?_ ?_
 · intro j1 h
   unfold KP at h;refine g_st ?_;refine mD (zq ?_);refine mJ rfl hG h (λ _ h=>?_) (λ _ h=>?_)
   · refine zq ?_
     refine mO ?_;exact nU h
   refine mN ?_;refine zq ?_;refine mO ?_;exact nU h
 refine ST (bAh F v1) hK [(0,0),(1,2),(2,1)] h (λ s0 g1 O=>?_);refine g_st ?_;refine zq ?_;refine⟨λ z0 x0 M=>?_,λ Y=>?_⟩
 · obtain⟨y0,H,U,B⟩:=SQ O x0 M
   unfold KQ at H
   try refine g_st ?_
   refine mD ?_;refine BZ rfl hG ?_;refine mN ?_;refine oM (zq ?_);refine zq ?_;obtain⟨v2,hv2,H⟩:=mG H;refine mU [(0,0)] [] [0] (B0 _ _ _ hv2) rfl rfl ?_ (ho:=by first|exact⟨by trivial,tW hv2⟩|exact tW hv2);refine mJ rfl hG H (λ _ H=>?_) (λ _ H=>?_)
   · refine zq ?_
     refine mO ?_;obtain rfl:=dH H;have h:=B _ rfl
     try dsimp only at h
     exact nU h
   refine mN ?_;exact SU hK [(0,0),(1,1),(2,2)] H U
 try refine g_st ?_
 refine mD ?_;refine J9 rfl hG ?_;refine oO ?_;have h:=SR O Y
 try dsimp only at h
 exact nA hK [(0,0)] () (by exact h)
def TY(j1:(List Int)):Option (List Int):=some j1
def EF(O:List Int)(H:(List Int)×Int):Option (((List Int)×Int)⊕(List Int)):=(if decide (H.2<O.length)then gd (0<=H.2/\H.2<O.length)<|(uQ H.1 (u64.wrap (O.getD H.2.toNat 0))).bind λ v1=>some (.inl (v1,i64.wrap (H.2+1)))else some (.inr H.1))
def rJ(H O:List Int):Option (List Int):=(mF (EF O) (H,0)).bind (λ z=>TY z)
abbrev bAk a0 a1:=mkJ (rJ a0 a1) 0 (@TY.eq_1) λ j1=>⟨[(0,.sl (j1.map (eI u8)))],[],0⟩
abbrev bAl (H:List Int):=mkL x (@EF.eq_1 H) λ O=>⟨[(0,.sl (O.1.map (eI u8))),(7,.sl (H.map (eI i64))),(8,.int i64 H.length),(9,.int i64 O.2)],[],0⟩
attribute[instance]bAk bAl
instance bAm(H O:List Int):OkP (rJ H O) 157 [.sl (H.map (eI u8)),.sl (O.map (eI i64))] (λ r=>.sl (r.map (eI u8))):=ok1 (rJ.eq_1 H O) f157 [(16,1)]
def nY(O:Int)(H:bM):Option (Int×bM):=(if decide ((H.l.length:Int)<=H.at_)then some (0,H)else gd (0<=i64.wrap (({H with at_:=(i64.wrap (H.at_+1))}).at_-1)/\i64.wrap (({H with at_:=(i64.wrap (H.at_+1))}).at_-1)<((({H with at_:=(i64.wrap (H.at_+1))}).l).length:Int))<|(vR ((({H with at_:=(i64.wrap (H.at_+1))}).l).getD (i64.wrap (({H with at_:=(i64.wrap (H.at_+1))}).at_-1)).toNat 0) O).bind λ v1=>some (v1,{H with at_:=(i64.wrap (H.at_+1))}))
instance qP(H:Int)(O:bM):OkM (nY H O) 17 [.ptr 0 0 0,.int i64 H] [(0,bx O)] 1 (λ r=>.int i64 r.1) (λ r=>[(0,bx r.2)]) 1:=okm (nY.eq_1 H O) (λ r=>[.int i64 r.1]) f17 []
def EG:List Int:=[5,5,3,4,2,1,3,5]
def Cp(H:Int):Option Int:=(vR H (EG.length:Int)).bind λ v1=>gd (0<=v1/\v1<EG.length)<|some (EG.getD v1.toNat 0)
instance bAo(H:Int):OkP (Cp H) 43 [.int i64 H] (λ r=>.int i64 r):=⟨λ r h=>by
 refine oT f43 [] λ E hG O hK=>?_;have hm:Mk (Cp H):=trivial;unfold Cp at h;refine zq ?_;refine zq ?_;refine g_gh (.cast 3 (.full (EG.map (eI i64)))) ?_;exact gogo⟩
def qW(O:aJ)(H:aC):Bool:=(if !(l5 O)then false else(if decide (O.kind=1)then(sX H.mode&&decide (H.aU=0))else((decide (H.mode=0)&&decide (1<=H.aU))&&decide (H.aU<=O.aU))))
instance bAp(H:aJ)(O:aC):OkT 138 [.agg (aJ.enc H),.agg (aC.enc O)] (.bool (qW H O)):=ok2 .bool (qW.eq_1 H O) f138 []
def pX(H:aC):Bool:=((sX H.mode&&decide (H.aU=0))||((decide (H.mode=0)&&decide (1<=H.aU))&&decide (H.aU<=8)))
instance TZ(H:aC):OkT 55 [.agg (aC.enc H)] (.bool (pX H)):=ok2 .bool (pX.eq_1 H) f55 []
def EH(H O:bP):Option Bool:=(B9 H.bU O.bU).bind λ v1=>some ((v1&&decide (H.bE=O.bE))&&decide (H.limit=O.limit))
instance bAr(H O:bP):OkP (EH H O) 139 [ga H,ga O] .bool:=ok1 (EH.eq_1 H O) f139 []
def sF(H:aA)(O:aK):Option aC:=(j8 H.aS O).bind λ v1=>some v1
instance Oo(H:aA)(O:aK):OkP (sF H O) 200 [ga H,ga O] ga:=ok1 (sF.eq_1 H O) f200 []
def Hx(H O:bR):Option Bool:=(if decide (H.aM=O.aM)&&decide (H.gen=O.gen)then B9 H.bU O.bU else some false).bind λ v1=>some ((decide (H.aM=O.aM)&&decide (H.gen=O.gen))&&v1)
instance bAt(H O:bR):OkP (Hx H O) 77 [ga H,ga O] .bool:=ok1 (Hx.eq_1 H O) f77 []
def EI(O:List Int)(H:ByteArray):Option (List Int):=(pW O (u64.wrap (H.size:Int))).bind λ v1=>gd (v1.length+H.toList.length<=4294967296)<|some (v1++(H.toList.map λ b=>(b.toNat:Int)))
instance bAu(H:List Int)(O:ByteArray):OkM (EI H O) 60 [.sl (H.map (eI u8)),.str O] [] 0 (λ r=>.own 0 0 r.length) (λ r=>[(0,⟨false,1,[A.int u8 0],r.map (eI u8)⟩)]) 1:=okm (EI.eq_1 H O) (λ r=>[.own 0 0 r.length]) f60 [(4,1)]
def Cq(H:aC):Bool:=(if !decide (H.mode=0)then(rI H.mode&&decide (H.aU=0))else(decide (1<=H.aU)&&decide (H.aU<=8)))
instance bAw(H:aC):OkT 127 [.agg (aC.enc H)] (.bool (Cq H)):=ok2 .bool (Cq.eq_1 H) f127 []
def mS(O:aJ)(H:aC):Bool:=(if !(oI O)then false else(if decide (O.kind=1)then(rI H.mode&&decide (H.aU=0))else((decide (H.mode=0)&&decide (1<=H.aU))&&decide (H.aU<=O.aU))))
instance bAx(H:aJ)(O:aC):OkT 274 [.agg (aJ.enc H),.agg (aC.enc O)] (.bool (mS H O)):=ok2 .bool (mS.eq_1 H O) f274 []
def yQ(H O:aK):Option Int:=(Cf (⟨[H.site,H.inc,H.num],rfl⟩:Arr Int 3) (⟨[O.site,O.inc,O.num],rfl⟩:Arr Int 3)).bind λ v1=>some v1
instance T0(H O:aK):OkP (yQ H O) 182 [ga H,ga O] (λ r=>.int i64 r):=ok1 (yQ.eq_1 H O) f182 []
def Cr(H:aA)(O:aK):Option aC:=(AE H.aS O).bind λ v1=>some v1
instance bAz(H:aA)(O:aK):OkP (Cr H O) 284 [ga H,ga O] ga:=ok1 (Cr.eq_1 H O) f284 []
def Ct(O:List Int)(H:ByteArray):Option (List Int):=(pN O (u64.wrap (H.size:Int))).bind λ v1=>gd (v1.length+H.toList.length<=4294967296)<|some (v1++(H.toList.map λ b=>(b.toNat:Int)))
instance bB0(H:List Int)(O:ByteArray):OkM (Ct H O) 103 [.sl (H.map (eI u8)),.str O] [] 0 (λ r=>.own 0 0 r.length) (λ r=>[(0,⟨false,1,[A.int u8 0],r.map (eI u8)⟩)]) 1:=okm (Ct.eq_1 H O) (λ r=>[.own 0 0 r.length]) f103 [(4,1)]
def vV(H:List Int):Option (ByteArray×Int×Int):=(sL H).bind λ v1=>(if !decide (v1.2.2=0)then some ((⟨#[]⟩:ByteArray),0,v1.2.2)else(if decide (1024<v1.1)then some ((⟨#[]⟩:ByteArray),0,3)else(if decide (i64.wrap ((H.length:Int)-v1.2.1)<i64.wrap v1.1)then some ((⟨#[]⟩:ByteArray),0,5)else gd (0<=v1.2.1/\v1.2.1<=i64.wrap (v1.2.1+i64.wrap v1.1)/\i64.wrap (v1.2.1+i64.wrap v1.1)<=(H.length:Int))<|some (pI ((H.take (i64.wrap (v1.2.1+i64.wrap v1.1)).toNat).drop v1.2.1.toNat),i64.wrap (v1.2.1+i64.wrap v1.1),0))))
instance bB1(H:List Int):OkP (vV H) 116 [.sl (H.map (eI u8))] (λ r=>.tup [.str r.1,.int i64 r.2.1,.int i64 r.2.2]):=ok1 (vV.eq_1 H) f116 []
def EJ(H:bW)(v1:Int×Int×Int)(j1:Int):Option (Int×bW):=(if !decide (j1=0)then some (0,{H with err:=j1})else some (i64.wrap v1.1,{H with at_:=(i64.wrap (H.at_+v1.2.1))}))
def sM(O U:Int)(H:bW):Option (Int×bW):=(if !decide (H.err=0)then some (0,H)else gd (0<=H.at_/\H.at_<=(H.all.length:Int)/\(H.all.length:Int)<=(H.all.length:Int))<|(sL (H.all.drop H.at_.toNat)).bind λ v1=>(if decide (v1.2.2=0)&&decide (u64.wrap O<v1.1)then EJ H v1 U else EJ H v1 v1.2.2))
@[reducible,instance]def bB2 a0 a1 (H:bW) (v1:Int×Int×Int):=mkJ (sM a0 a1 H,v1) 999 (@EJ.eq_1 H v1) λ j1=>⟨[(0,.ptr 0 0 0),(7,.int u64 v1.1),(8,.int i64 v1.2.1),(9,.int i64 j1)],[(0,bx H)],1⟩
instance bB3(H O:Int)(U:bW):OkM (sM H O U) 169 [.ptr 0 0 0,.int i64 H,.int i64 O] [(0,bx U)] 1 (λ r=>.int i64 r.1) (λ r=>[(0,bx r.2)]) 1:=okm (sM.eq_1 H O U) (λ r=>[.int i64 r.1]) f169 []
def T7(j1:Unit):Option Bool:=some true
def Hy(O U:List aV)(H:Int):Option (Int⊕(Unit⊕Bool)):=(if decide (H<O.length)then gd (0<=H/\H<O.length)<|gd (0<=H/\H<U.length)<|(if !(Hm (O.getD H.toNat aV.zero) (U.getD H.toNat aV.zero))then some (.inr (.inr false))else some (.inl (i64.wrap (H+1))))else some (.inr (.inl ())))
def Cu(H O:List aV):Option Bool:=(if !decide ((H.length:Int)=(O.length:Int))then some false else(mF (Hy H O) 0).bind (λ|.inl z=>T7 z|.inr z=>some z))
abbrev bB4 a0 a1:=mkJ (Cu a0 a1) 0 (@T7.eq_1) λ j1=>⟨[],[],0⟩
abbrev bB5 (H O:List aV):=mkL x (@Hy.eq_1 H O) λ U=>⟨[(1,la O),(2,.clo 175 []),(15,la H),(16,.int i64 H.length),(17,.int i64 U)],[],0⟩
attribute[instance]bB4 bB5
instance zW5(H O:List aV):OkM (Cu H O) 174 [la H,la O,.clo 175 []] [] 0 .bool (λ r=>[]) 0:=okm (Cu.eq_1 H O) (λ r=>[.bool r]) f174 []
def EK(U:(aR->aR->Option Bool))(H O:aR):Option Bool:=(if decide (H.k=O.k)&&decide (H.aZ=O.aZ)then Cg U H.bG O.bG else some false).bind λ v1=>some ((decide (H.k=O.k)&&decide (H.aZ=O.aZ))&&v1)
def AR:Nat->(aR->aR->Option Bool)
 |0=>λ _ _=>none
 |n+1=>EK (AR n)
def KR(H O:aR):Option Bool:=AR (_root_.SizeOf.sizeOf H+1) H O
def bB6(H:(aR->aR->Option Bool))(hrc:∀(O:aR) (U:aR) (r:Bool),H O U=some r->PFn C 124 [ga O,ga U] (.bool r))(O U:aR)(r:Bool)(h:EK H O U=some r):PFn C 124 [ga O,ga U] (.bool r):=by refine oT f124 [] λ E hG F hK=>?_;have hm:Mk (EK H O U):=trivial;unfold EK at h;refine zq ?_;refine zq ?_;obtain⟨v1,Y,h⟩:=mG h;have hm:=mkP hm v1;refine G5 [] [] Y (λ B=>zW3 H hrc O.bG U.bG _ B) rfl ?_;exact gogo
def T8:∀(n:Nat) (H:aR) (O:aR) (r:Bool),AR n H O=some r->PFn C 124 [ga H,ga O] (.bool r)
 |0,_,_,_,h=>nomatch h
 |n+1,H,O,r,h=>bB6 (AR n) (T8 n) H O r h
instance bB8(H O:aR):OkP (KR H O) 124 [ga H,ga O] .bool:=⟨λ r h=>T8 _ H O r h⟩
def uT(H:Int):Bool:=(((AJ H||(decide (48<=H)&&decide (H<=57)))||decide (H=95))||decide (H=45))
instance bB9(H:Int):OkT 108 [.int u8 H] (.bool (uT H)):=ok2 .bool (uT.eq_1 H) f108 []
def vW(H O:aK):Int:=(if !decide (j7 H.site O.site=0)then(j7 H.site O.site)else(if !decide (j7 H.inc O.inc=0)then(j7 H.inc O.inc)else(j7 H.num O.num)))
instance bBa(H O:aK):OkT 94 [.agg (aK.enc H),.agg (aK.enc O)] (.int i64 (vW H O)):=ok2 (λ r=>.int i64 r) (vW.eq_1 H O) f94 []
def Cv(O:List Int)(H:aK):Option (List Int):=(if !(pJ H)then gd (O.length<=4294967296)<|some O else(tL O (u64.wrap H.site)).bind λ v1=>(tL v1 (u64.wrap H.inc)).bind λ v2=>(pW v2 (u64.wrap H.num)).bind λ v3=>some v3)
instance bBb(H:List Int)(O:aK):OkM (Cv H O) 59 [.sl (H.map (eI u8)),ga O] [] 0 (λ r=>.own 0 0 r.length) (λ r=>[(0,⟨false,1,[A.int u8 0],r.map (eI u8)⟩)]) 1:=okm (Cv.eq_1 H O) (λ r=>[.own 0 0 r.length]) f59 [(4,1),(8,1),(15,1),(19,1)]
def KS(O:aK)(H:aC)(j1:Int×(List bA)):Option (List bA):=(if oW H then some j1.2 else(if decide (j1.1<0)then gd (j1.2.length+1<=4294967296)<|gd (0<=i64.wrap (((j1.2.length:Nat):Int)+1)/\i64.wrap (((j1.2.length:Nat):Int)+1)<=((j1.2.length+1:Nat):Int)/\((j1.2.length+1:Nat):Int)<=((j1.2.length+1:Nat):Int))<|gd (0<=((j1.2.length:Nat):Int)/\((j1.2.length:Nat):Int)<=((j1.2.length+1:Nat):Int)/\((j1.2.length+1:Nat):Int)<=((j1.2.length+1:Nat):Int))<|gd (0<=((j1.2.length:Nat):Int)/\((j1.2.length:Nat):Int)<((j1.2.length+1:Nat):Int))<|some (((j1.2++[{bA.zero with}]).take (i64.wrap (((j1.2.length:Nat):Int)+1)).toNat++(((j1.2++[{bA.zero with}]).drop ((j1.2.length:Nat):Int).toNat).take (j1.2.length+1-((j1.2.length:Nat):Int).toNat)).take (j1.2.length+1-(i64.wrap (((j1.2.length:Nat):Int)+1)).toNat)++(j1.2++[{bA.zero with}]).drop ((i64.wrap (((j1.2.length:Nat):Int)+1)).toNat+min (((j1.2++[{bA.zero with}]).drop ((j1.2.length:Nat):Int).toNat).take (j1.2.length+1-((j1.2.length:Nat):Int).toNat)).length (j1.2.length+1-(i64.wrap (((j1.2.length:Nat):Int)+1)).toNat))).set ((j1.2.length:Nat):Int).toNat (⟨O,H⟩:bA))else gd (j1.2.length+1<=4294967296)<|gd (0<=i64.wrap (j1.1+1)/\i64.wrap (j1.1+1)<=((j1.2.length+1:Nat):Int)/\((j1.2.length+1:Nat):Int)<=((j1.2.length+1:Nat):Int))<|gd (0<=j1.1/\j1.1<=((j1.2.length+1:Nat):Int)/\((j1.2.length+1:Nat):Int)<=((j1.2.length+1:Nat):Int))<|gd (0<=j1.1/\j1.1<((j1.2.length+1:Nat):Int))<|some (((j1.2++[{bA.zero with}]).take (i64.wrap (j1.1+1)).toNat++(((j1.2++[{bA.zero with}]).drop j1.1.toNat).take (j1.2.length+1-j1.1.toNat)).take (j1.2.length+1-(i64.wrap (j1.1+1)).toNat)++(j1.2++[{bA.zero with}]).drop ((i64.wrap (j1.1+1)).toNat+min (((j1.2++[{bA.zero with}]).drop j1.1.toNat).take (j1.2.length+1-j1.1.toNat)).length (j1.2.length+1-(i64.wrap (j1.1+1)).toNat))).set j1.1.toNat (⟨O,H⟩:bA))))
@[go_sem] def bBd(H:aK)(O:aC)(j1:Int×(List bA)):St:=⟨[(4,.ptr 0 0 0),(5,.ptr 1 0 0),(7,.own 2 0 j1.2.length),(8,.int i64 j1.1)],[(0,bx H),(1,bx O),(2,sx j1.2)],3⟩
def EL(O:List bA)(U:aK)(H:Int×Int×(List bA)):Option ((Int×Int×(List bA))⊕(Int×(List bA))):=(if decide (H.2.1<O.length)then gd (0<=H.2.1/\H.2.1<O.length)<|(if decide ((O.getD H.2.1.toNat bA.zero).aM=U)then some (.inl (H.1,i64.wrap (H.2.1+1),H.2.2))else(if decide (H.1<0)then yQ (O.getD H.2.1.toNat bA.zero).aM U else some 0).bind λ v1=>(if decide (H.1<0)&&decide (0<v1)then gd (H.2.2.length+1<=4294967296)<|some (.inl (((H.2.2.length:Nat):Int),i64.wrap (H.2.1+1),H.2.2++[O.getD H.2.1.toNat bA.zero]))else gd (H.2.2.length+1<=4294967296)<|some (.inl (H.1,i64.wrap (H.2.1+1),H.2.2++[O.getD H.2.1.toNat bA.zero]))))else some (.inr (H.1,H.2.2)))
@[go_sem] def bBf(O:List bA)(U:aK)(Y:aC)(H:Int×Int×(List bA)):St:=⟨[(4,.ptr 0 0 0),(5,.ptr 1 0 0),(7,.own 2 0 H.2.2.length),(8,.int i64 H.1),(15,la O),(16,.int i64 O.length),(17,.int i64 H.2.1)],[(0,bx U),(1,bx Y),(2,sx H.2.2)],3⟩
def Cw(H:List bA)(O:aK)(U:aC):Option (List bA):=gd (0<=0/\0<=i64.wrap ((H.length:Int)+1)/\i64.wrap ((H.length:Int)+1)<=4294967296)<|(mF (EL H O) ((-1),0,List.replicate 0 bA.zero)).bind (λ z=>KS O U z)
def bBg(B:List bA)(U:aK)(Y:aC)(r:(List bA))(h:Cw B U Y=some r):PFn C 273 [la B,ga U,ga Y] (la r):=by
 refine oT f273 [] λ E hG hN hK=>?_;unfold Cw at h;refine zq ?_;refine mD ?_;obtain⟨h0,h⟩:=mM h;refine mE hG ?_;refine zq ?_;refine mD (zq ?_);refine qA (bBd U Y) (λ v=>KS U Y v=some r) ?_ ?_
 · intro j1 h
   unfold KS at h;refine g_st ?_;refine mD (zq ?_);refine nK (λ hg=>(aT9 Y).ok) ?_;refine mJ rfl hG h (λ _ h=>?_) (λ _ h=>?_)
   · refine zq ?_
     refine mO ?_;exact nU h
   refine mN ?_;refine mD (zq ?_);refine mJ rfl hG h (λ _ h=>?_) (λ _ h=>?_)
   · refine mE hG ?_
     refine mD ?_;obtain⟨p0,h⟩:=mM h;refine mE hG ?_;refine mD ?_;obtain⟨q0,h⟩:=mM h;obtain⟨r0,h⟩:=mM h;refine qJ oS hG ?_;refine mD ?_;obtain⟨s0,h⟩:=mM h;refine mE hG ?_;refine zq ?_;refine mO ?_;exact nU h
   refine mN ?_;refine mD ?_;obtain⟨t0,h⟩:=mM h;refine mE hG ?_;refine mD ?_;obtain⟨c0,h⟩:=mM h;obtain⟨d0,h⟩:=mM h;refine qJ oS hG ?_;refine mD ?_;obtain⟨e0,h⟩:=mM h;refine mE hG ?_;refine zq ?_;refine mO ?_;exact nU h
 refine qO (bBf B U Y) hK [(0,0),(1,1),(2,2)] h (λ x0 h F y0 H O=>?_);unfold EL at H;refine g_st ?_;refine zq ?_;refine mD ?_;refine mJ rfl hG H (λ _ H=>?_) (λ _ H=>?_)
 · refine mN ?_
   refine mD (oM (mD ?_));obtain⟨z0,H⟩:=mM H;refine mE hG ?_;refine mD (zq ?_);refine mJ rfl hG H (λ _ H=>?_) (λ _ H=>?_)
   · refine oO ?_
     refine mE hG ?_;exact pA hK [(0,0),(1,1),(2,2)] H
   refine mN ?_;refine mD (zq ?_);obtain⟨v1,M,H⟩:=mG H;refine nK (λ hg=>(T0 (B.getD F.2.1.toNat bA.zero).aM U).ok _ (uM hg M)) ?_;refine mJ rfl hG H (λ _ H=>?_) (λ _ H=>?_)
   · refine mE hG ?_
     obtain⟨f0,H⟩:=mM H;refine mE hG ?_;refine mE hG ?_;exact pA hK [(0,0),(1,1),(2,4)] H
   refine mN ?_;obtain⟨u0,H⟩:=mM H;refine mE hG ?_;refine mE hG ?_;exact pA hK [(0,0),(1,1),(2,4)] H
 refine oO ?_;cases H;cases O _ rfl;exact nA hK [(0,0),(1,1),(2,2)] (F.1,F.2.2) (by exact h)
instance bBh(H:List bA)(O:aK)(U:aC):OkP (Cw H O U) 273 [la H,ga O,ga U] la:=⟨bBg H O U⟩
def T9(j1:Unit):Option Bool:=some true
def KT(O:aP)(H:Int):Option (Int⊕(Unit⊕Bool)):=(if decide (H<O.lower.length)then gd (0<=H/\H<O.lower.length)<|(wY (O.lower.getD H.toNat aO.zero).name).bind λ v1=>gd ((v1&&decide (0<H))=true->0<=i64.wrap (H-1)/\i64.wrap (H-1)<(O.lower.length:Int))<|(if (!v1)||(decide (0<H)&&(!Op.bytesLess ((O.lower.getD (i64.wrap (H-1)).toNat aO.zero).name).toList ((O.lower.getD H.toNat aO.zero).name).toList))then some (.inr (.inr false))else(if (!decide ((O.lower.getD H.toNat aO.zero).aI={aC.zero with}))&&(!(Cq (O.lower.getD H.toNat aO.zero).aI))then some (.inr (.inr false))else some (.inl (i64.wrap (H+1)))))else some (.inr (.inl ())))
def m7(H:aP):Option Bool:=(if (!(mV H.aM))||((!decide (H.label=(-1)))&&(decide (H.label<1)||decide (99<H.label)))then some false else(if (decide (H.cost<1)||decide (1073741824<H.cost))||decide (8<(H.lower.length:Int))then some false else(mF (KT H) 0).bind (λ|.inl z=>T9 z|.inr z=>some z)))
abbrev bBk a0:=mkJ (m7 a0) 0 (@T9.eq_1) λ j1=>⟨[],[],0⟩
abbrev bBl (H:aP):=mkL x (@KT.eq_1 H) λ O=>⟨[(1,.ptr 0 0 0),(39,la H.lower),(40,.int i64 H.lower.length),(41,.int i64 O)],[(0,bx H)],1⟩
attribute[instance]bBk bBl
instance bBm(H:aP):OkP (m7 H) 129 [ga H] .bool:=ok1 (m7.eq_1 H) f129 []
def Ua(j1:(List Int)):Option (List Int):=some j1
def Hz(O:(List Int->aR->Option (List Int)))(U:aR)(H:(List Int)×Int):Option (((List Int)×Int)⊕(List Int)):=(if decide (H.2<U.bG.length)then gd (0<=H.2/\H.2<U.bG.length)<|(O H.1 (U.bG.getD H.2.toNat aR.zero)).bind λ v5=>some (.inl (v5,i64.wrap (H.2+1)))else some (.inr H.1))
def EM(O:(List Int->aR->Option (List Int)))(U:List Int)(H:aR):Option (List Int):=(rJ U [H.k]).bind λ v1=>(if decide (H.k=0)then(Cl v1 H.aZ.name).bind λ v2=>(rJ v2 [H.aZ.aI.mode,H.aZ.aI.aU]).bind λ v3=>some v3 else(rJ v1 [(H.bG.length:Int)]).bind λ v4=>(mF (Hz O H) (v4,0)).bind (λ z=>Ua z))
def EN:Nat->(List Int->aR->Option (List Int))
 |0=>λ _ _=>none
 |n+1=>EM (EN n)
def KU(O:List Int)(H:aR):Option (List Int):=EN (_root_.SizeOf.sizeOf H+1) O H
abbrev bBo (H:(List Int->aR->Option (List Int))) (O:List Int) (U:aR):=mkJ ((EM H O U,v1),v2) 0 (@Ua.eq_1) λ j1=>⟨[(0,.sl (j1.map (eI u8)))],[],0⟩
abbrev bBp (H:(List Int->aR->Option (List Int))) (O:aR):=mkL x (@Hz.eq_1 H O) λ U=>⟨[(0,.sl (U.1.map (eI u8))),(37,la O.bG),(38,.int i64 O.bG.length),(39,.int i64 U.2)],[],0⟩
attribute[instance]bBo bBp
abbrev KV(g:(List Int->aR->Option (List Int))):Prop:=∀(H:List Int) (O:aR),OkP (g H O) 159 [.sl (H.map (eI u8)),.agg (aR.enc O)] (λ r=>.sl (r.map (eI u8)))
theorem bBr(H:(List Int->aR->Option (List Int)))(hrc:KV H):KV (EM H):=λ O U=>ok1 (EM.eq_1 H O U) f159 []
theorem bBs:∀n,KV (EN n):=Ay (λ _ _=>⟨λ _ h=>nomatch h⟩) λ n=>bBr _
instance bBt:KV KU:=λ H O=>bBs _ H O
def sZ(H:Int)(O:aX):Option (Int×aX):=(vU H 4 O).bind λ v1=>some (v1.1,v1.2)
instance KW(H:Int)(O:aX):OkM (sZ H O) 163 [.ptr 0 0 0,.int i64 H] [(0,bx O)] 1 (λ r=>.int i64 r.1) (λ r=>[(0,bx r.2)]) 1:=okm (sZ.eq_1 H O) (λ r=>[.int i64 r.1]) f163 []
def rX(H:aX):Option (Int×aX):=(vU 1073741824 16 H).bind λ v1=>some (v1.1,v1.2)
instance HA(H:aX):OkM (rX H) 166 [.ptr 0 0 0] [(0,bx H)] 1 (λ r=>.int i64 r.1) (λ r=>[(0,bx r.2)]) 1:=okm (rX.eq_1 H) (λ r=>[.int i64 r.1]) f166 []
def m8(H:bW):Option (ByteArray×bW):=(if !decide (H.err=0)then some ((⟨#[]⟩:ByteArray),H)else gd (0<=H.at_/\H.at_<=(H.all.length:Int)/\(H.all.length:Int)<=(H.all.length:Int))<|(vV (H.all.drop H.at_.toNat)).bind λ v1=>some (v1.1,{{H with at_:=(i64.wrap (H.at_+v1.2.1))}with err:=v1.2.2}))
instance bBu(H:bW):OkM (m8 H) 170 [.ptr 0 0 0] [(0,bx H)] 1 (λ r=>.str r.1) (λ r=>[(0,bx r.2)]) 1:=okm (m8.eq_1 H) (λ r=>[.str r.1]) f170 []
def Cy(H O:aA):Option Bool:=(if decide (H.aB=O.aB)then B4 H.aS O.aS else some false).bind λ v1=>(if decide (H.aB=O.aB)&&v1 then AI H.aN O.aN else some false).bind λ v2=>(if (decide (H.aB=O.aB)&&v1)&&v2 then Cu H.aW O.aW else some false).bind λ v3=>some (((decide (H.aB=O.aB)&&v1)&&v2)&&v3)
instance bBv(H O:aA):OkP (Cy H O) 122 [ga H,ga O] .bool:=⟨λ r h=>by
 refine oT f122 [] λ E hG B hK=>?_;have hm:Mk (Cy H O):=trivial;unfold Cy at h;refine zq ?_;refine zq ?_;obtain⟨v1,U,h⟩:=mG h;have hm:=mkP hm v1;refine nK (λ hg=>(aS8 H.aS O.aS).ok _ (uM hg U)) ?_;obtain⟨v2,hv2,h⟩:=mG h;have hm:=mkP hm v2;refine nK (λ hg=>(aXb H.aN O.aN).ok _ (uM hg hv2)) ?_;obtain⟨v3,hv3,h⟩:=mG h;have hm:=mkP hm v3;refine G5 [] [] hv3 (λ Y=>(zW5 H.aW O.aW).ok _ Y) rfl ?_;exact gogo⟩
def yR(H:aV):Bool:=(((((pJ H.aM&&pX H.aI)&&decide (0<=H.bE))&&decide (H.bE<=7))&&decide (0<=H.bS))&&decide (H.bS<=3))
instance bBw(H:aV):OkT 267 [.agg (aV.enc H)] (.bool (yR H)):=ok2 .bool (yR.eq_1 H) f267 []
def Oq(j1:Unit):Option Bool:=some true
def EO(O U:List aA)(H:Int):Option (Int⊕(Unit⊕Bool)):=(if decide (H<O.length)then gd (0<=H/\H<O.length)<|gd (0<=H/\H<U.length)<|(EC (O.getD H.toNat aA.zero) (U.getD H.toNat aA.zero)).bind λ v1=>(if !v1 then some (.inr (.inr false))else some (.inl (i64.wrap (H+1))))else some (.inr (.inl ())))
def Cz(H O:List aA):Option Bool:=(if !decide ((H.length:Int)=(O.length:Int))then some false else(mF (EO H O) 0).bind (λ|.inl z=>Oq z|.inr z=>some z))
abbrev bBz a0 a1:=mkJ (Cz a0 a1) 0 (@Oq.eq_1) λ j1=>⟨[],[],0⟩
abbrev bC0 (H O:List aA):=mkL x (@EO.eq_1 H O) λ U=>⟨[(0,la H),(1,la O),(5,.int i64 U)],[],0⟩
attribute[instance]bBz bC0
instance bC1(H O:List aA):OkP (Cz H O) 76 [la H,la O] .bool:=ok1 (Cz.eq_1 H O) f76 []
def pO(H:aV):Bool:=(((((mV H.aM&&(mS ({aJ.zero with kind:=1,aU:=1}) H.aI||mS ({aJ.zero with kind:=2,aU:=8}) H.aI))&&decide (0<=H.bE))&&decide (H.bE<=7))&&decide (0<=H.bS))&&decide (H.bS<=3))
def bC2(H:aV):PFn C 304 [ga H] (.bool (pO H)):=by generalize h:pO H=r;refine oT f304 [] λ E hG O hK=>?_;have hm:Mk (pO H):=trivial;unfold pO at h;exact gogo
instance bC3(H:aV):OkT 304 [.agg (aV.enc H)] (.bool (pO H)):=⟨bC2 H⟩
def EP(H:aA):Option (List aV):=(Cj [H.aN,H.aW]).bind λ v1=>some v1
instance bC4(H:aA):OkP (EP H) 289 [ga H] la:=ok1 (EP.eq_1 H) f289 []
def tA(H:aT):Option (Int×aT):=(tY 1073741824 16 H).bind λ v1=>some (v1.1,v1.2)
instance bC5(H:aT):OkM (tA H) 32 [.ptr 0 0 0] [(0,bx H)] 1 (λ r=>.int i64 r.1) (λ r=>[(0,bx r.2)]) 1:=okm (tA.eq_1 H) (λ r=>[.int i64 r.1]) f32 []
def Ub(j1:Unit):Option Bool:=some true
def HB(O U:List aP)(H:Int):Option (Int⊕(Unit⊕Bool)):=(if decide (H<O.length)then gd (0<=H/\H<O.length)<|gd (0<=H/\H<U.length)<|(Cm (O.getD H.toNat aP.zero) (U.getD H.toNat aP.zero)).bind λ v1=>(if !v1 then some (.inr (.inr false))else some (.inl (i64.wrap (H+1))))else some (.inr (.inl ())))
def m9(H O:List aP):Option Bool:=(if !decide ((H.length:Int)=(O.length:Int))then some false else(mF (HB H O) 0).bind (λ|.inl z=>Ub z|.inr z=>some z))
abbrev bC6 a0 a1:=mkJ (m9 a0 a1) 0 (@Ub.eq_1) λ j1=>⟨[],[],0⟩
abbrev bC7 (H O:List aP):=mkL x (@HB.eq_1 H O) λ U=>⟨[(1,la O),(2,.clo 37 []),(15,la H),(16,.int i64 H.length),(17,.int i64 U)],[],0⟩
attribute[instance]bC6 bC7
instance zQ0(H O:List aP):OkM (m9 H O) 36 [la H,la O,.clo 37 []] [] 0 .bool (λ r=>[]) 0:=okm (m9.eq_1 H O) (λ r=>[.bool r]) f36 []
def Ot(j1:bM×aR):Option (aR×bM):=some (j1.2,j1.1)
@[go_sem] def bC9(j1:bM×aR):St:=⟨[(6,.ptr 1 0 0),(8,.ptr 2 0 0)],[(0,bx j1.1),(1,bx aR.zero),(2,⟨false,5,aR.enc aR.zero,[[.int i64 j1.2.k,.str j1.2.aZ.name,.int i64 j1.2.aZ.aI.mode,.int i64 j1.2.aZ.aI.aU,.own 3 0 j1.2.bG.length]]⟩),(3,sx j1.2.bG)],4⟩
def KX(O:(List aO->Int->bM->Option (aR×bM)))(U:List aO)(Y:Int)(v3:Int×bM)(H:Int×bM×aR):Option ((Int×bM×aR)⊕(bM×aR)):=(if decide (H.1<i64.wrap (1+v3.1))then(O U (i64.wrap (Y-1)) H.2.1).bind λ v5=>gd (H.2.2.bG.length+1<=4294967296)<|some (.inl (i64.wrap (H.1+1),v5.2,(⟨H.2.2.k,(⟨H.2.2.aZ.name,(⟨H.2.2.aZ.aI.mode,H.2.2.aZ.aI.aU⟩:aC)⟩:aO),H.2.2.bG++[v5.1]⟩:aR)))else some (.inr (H.2.1,H.2.2)))
@[go_sem] def bCb(O:List aO)(U:Int)(v3:Int×bM)(H:Int×bM×aR):St:=⟨[(0,.ptr 0 0 0),(1,la O),(2,.int i64 U),(6,.ptr 1 0 0),(7,.int i64 (i64.wrap (1+v3.1))),(8,.ptr 2 0 0),(9,.int i64 H.1)],[(0,bx H.2.1),(1,bx aR.zero),(2,⟨false,5,aR.enc aR.zero,[[.int i64 H.2.2.k,.str H.2.2.aZ.name,.int i64 H.2.2.aZ.aI.mode,.int i64 H.2.2.aZ.aI.aU,.own 3 0 H.2.2.bG.length]]⟩),(3,sx H.2.2.bG)],4⟩
def HC(O:(List aO->Int->bM->Option (aR×bM)))(H:List aO)(U:Int)(Y:bM):Option (aR×bM):=(if !(decide (U=0))then nY 4 Y else some (0,Y)).bind λ v1=>(if decide (U=0)||decide (v1.1=0)then(nY (H.length:Int) v1.2).bind λ v2=>gd (0<=v2.1/\v2.1<H.length)<|some ({aR.zero with aZ:=(H.getD v2.1.toNat aO.zero)},v2.2)else(nY 3 v1.2).bind λ v3=>(nY (i64.wrap (1+v3.1)) v3.2).bind λ v4=>(mF (KX O H U v3) (0,v4.2,(⟨i64.wrap (1+v4.1),(⟨aO.zero.name,(⟨aO.zero.aI.mode,aO.zero.aI.aU⟩:aC)⟩:aO),[]⟩:aR))).bind (λ z=>Ot z))
def CA:Nat->(List aO->Int->bM->Option (aR×bM))
 |0=>λ _ _ _=>none
 |n+1=>HC (CA n)
def KY(O:List aO)(H:Int)(U:bM):Option (aR×bM):=CA (H.toNat+1) O H U
def bCe(F:(List aO->Int->bM->Option (aR×bM)))(hrc:∀(O:List aO) (U:Int) (B:bM) (r:aR×bM),F O U B=some r->MFn C 184 [.ptr 0 0 0,la O,.int i64 U] [(0,bx B)] 1 (ga r.1) [(0,bx r.2)] 1)(O:List aO)(U:Int)(B:bM)(r:aR×bM)(h:HC F O U B=some r):MFn C 184 [.ptr 0 0 0,la O,.int i64 U] [(0,bx B)] 1 (ga r.1) [(0,bx r.2)] 1:=by
 refine pF f184 [(32,18),(8,18)] [ga r.1] λ E hG hN hK=>?_;unfold HC at h;refine zq ?_;refine mD (zq ?_);obtain⟨v1,M,h⟩:=mG h;refine G5 [(0,0)] [0] M (λ hc=>(qP 4 B).ok _ hc) rfl ?_;refine mJ rfl hG h (λ _ h=>?_) (λ _ h=>?_)
 · refine zq ?_
   obtain⟨v2,hv2,h⟩:=mG h;obtain⟨y0,h⟩:=mM h;refine mU [(0,0)] [] [0] ((qP (O.length:Int) v1.2).ok _ hv2) rfl rfl ?_;refine mO ?_;exact nD [(0,0)] h
 refine mN ?_;refine zq ?_;obtain⟨v3,hv3,h⟩:=mG h;refine mU [(0,0)] [] [0] ((qP 3 v1.2).ok _ hv3) rfl rfl ?_;refine zq ?_;obtain⟨v4,hv4,h⟩:=mG h;refine mU [(0,0)] [] [0] ((qP (i64.wrap (1+v3.1)) v3.2).ok _ hv4) rfl rfl ?_;refine g_gh (.ownb 2 4 5 (aR.enc aR.zero)) ?_;refine mD (zq ?_);refine qA bC9 (λ v=>Ot v=some r) ?_ ?_
 · intro j1 h
   unfold Ot at h;refine g_st ?_;refine zq ?_;refine g_gh (.fz [3]) ?_;refine mO ?_;exact nD [(0,0)] h
 refine qO (bCb O U v3) hK [(0,0),(1,1),(2,2),(3,3)] h (λ h0 h g1 x0 H Y=>?_);unfold KX at H;refine g_st ?_;refine mD (zq ?_);refine mJ rfl hG H (λ _ H=>?_) (λ _ H=>?_)
 · refine mN ?_
   refine mD (oM (qJ oS hG ?_));obtain⟨v5,hv5,H⟩:=mG H;obtain⟨z0,H⟩:=mM H;refine vQ [(0,0)] [] [0] (hrc O (i64.wrap (U-1)) g1.2.1 _ hv5) rfl rfl ?_;refine mE hG ?_;exact pA hK [(0,0),(1,1),(2,2),(3,4)] H
 refine oO ?_;cases H;cases Y _ rfl;exact nA hK [(0,0),(1,1),(2,2),(3,3)] (g1.2.1,g1.2.2) (by exact h)
def Uc:∀(n:Nat) (H:List aO) (O:Int) (U:bM) (r:aR×bM),CA n H O U=some r->MFn C 184 [.ptr 0 0 0,la H,.int i64 O] [(0,bx U)] 1 (ga r.1) [(0,bx r.2)] 1
 |0,_,_,_,_,h=>nomatch h
 |n+1,H,O,U,r,h=>bCe (CA n) (Uc n) H O U r h
instance bCg(H:List aO)(O:Int)(U:bM):OkM (KY H O U) 184 [.ptr 0 0 0,la H,.int i64 O] [(0,bx U)] 1 (λ r=>ga r.1) (λ r=>[(0,bx r.2)]) 1:=⟨λ r h=>Uc _ H O U r h⟩
def Ud(j1:(List aK)):Option (List aK):=some j1
def Ou(H:Int×(List aK))(O:(List aK)):Option ((Int×(List aK))⊕(List aK)):=some (.inl (i64.wrap (H.1+1),O))
def HD(H:Int×(List aK)):Option ((Int×(List aK))⊕(List aK)):=gd (decide (0<H.1)=true->0<=i64.wrap (H.1-1)/\i64.wrap (H.1-1)<((H.2.length:Nat):Int))<|gd (decide (0<H.1)=true->0<=H.1/\H.1<((H.2.length:Nat):Int))<|(if decide (0<H.1)&&decide (0<vW (H.2.getD (i64.wrap (H.1-1)).toNat aK.zero) (H.2.getD H.1.toNat aK.zero))then gd (0<=i64.wrap (H.1-1)/\i64.wrap (H.1-1)<((H.2.length:Nat):Int))<|gd (0<=H.1/\H.1<((H.2.length:Nat):Int))<|gd (0<=i64.wrap (H.1-1)/\i64.wrap (H.1-1)<((H.2.length:Nat):Int))<|gd (0<=H.1/\H.1<((H.2.length:Nat):Int))<|some (.inl (i64.wrap (H.1-1),(H.2.set (i64.wrap (H.1-1)).toNat (H.2.getD H.1.toNat aK.zero)).set H.1.toNat (H.2.getD (i64.wrap (H.1-1)).toNat aK.zero)))else some (.inr H.2))
def CB(O:List aK)(H:Int×(List aK)):Option ((Int×(List aK))⊕(List aK)):=(if decide (H.1<O.length)then gd (0<=H.1/\H.1<O.length)<|(l7 H.2 (O.getD H.1.toNat aK.zero)).bind λ v1=>(if v1 then some (.inl (i64.wrap (H.1+1),H.2))else gd (0<=H.1/\H.1<O.length)<|gd (H.2.length+1<=4294967296)<|(mF HD (((H.2.length:Nat):Int),H.2++[O.getD H.1.toNat aK.zero])).bind (λ z=>Ou H z))else some (.inr H.2))
def n5(H:List aK):Option (List aK):=(mF (CB H) (0,[])).bind (λ z=>Ud z)
abbrev bCj a0:=mkJ (n5 a0) 0 (@Ud.eq_1) λ j1=>⟨[(3,.own 0 0 j1.length)],[(0,sx j1)],1⟩
abbrev bCk (O:List aK) (H:Int×(List aK)):=mkJ (CB O H,v1) 2 (@Ou.eq_1 H) λ U=>⟨[(0,la O),(3,.own 0 0 U.length),(4,.int i64 H.1)],[(0,sx U)],1⟩
abbrev bCl (O:List aK) (U:Int×(List aK)):=mkL (CB O U,v1) (@HD.eq_1) λ H=>⟨[(0,la O),(3,.own 0 0 H.2.length),(4,.int i64 U.1),(5,.int i64 H.1)],[(0,sx H.2)],1⟩
abbrev bCm (O:List aK):=mkL x (@CB.eq_1 O) λ H=>⟨[(0,la O),(3,.own 0 0 H.2.length),(4,.int i64 H.1)],[(0,sx H.2)],1⟩
attribute[instance]bCj bCk bCl bCm
instance bCn(H:List aK):OkP (n5 H) 135 [la H] la:=ok1 (n5.eq_1 H) f135 [(3,1)]
def Ue(j1:(List aO)):Option (List aO):=some j1
def KZ(O:List aA)(U:aK)(H:Int×(List aO)):Option ((Int×(List aO))⊕(List aO)):=(if decide (H.1<O.length)then gd (0<=H.1/\H.1<O.length)<|(sF (O.getD H.1.toNat aA.zero) U).bind λ v1=>(if !(oG v1)then gd (0<=H.1/\H.1<O.length)<|gd (H.2.length+1<=4294967296)<|some (.inl (i64.wrap (H.1+1),H.2++[(⟨((O.getD H.1.toNat aA.zero).aB).name,v1⟩:aO)]))else some (.inl (i64.wrap (H.1+1),H.2)))else some (.inr H.2))
def CC(H:List aA)(O:aK):Option (List aO):=(mF (KZ H O) (0,[])).bind (λ z=>Ue z)
abbrev bCq a0 a1:=mkJ (CC a0 a1) 0 (@Ue.eq_1) λ j1=>⟨[(5,.own 0 0 j1.length)],[(0,sx j1)],1⟩
abbrev bCr (O:List aA) (U:aK):=mkL x (@KZ.eq_1 O U) λ H=>⟨[(0,la O),(3,.ptr 0 0 0),(5,.own 1 0 H.2.length),(6,.int i64 H.1)],[(0,bx U),(1,sx H.2)],2⟩
attribute[instance]bCq bCr
instance bCs(H:List aA)(O:aK):OkP (CC H O) 140 [la H,ga O] la:=ok1 (CC.eq_1 H O) f140 [(5,1)]
def EQ(H:aH)(O:aK)(U:ByteArray):Option Bool:=(sY H.aF U).bind λ v1=>(if decide (v1<0)then some false else gd (0<=v1/\v1<H.aF.length)<|(uR (H.aF.getD v1.toNat aA.zero) O).bind λ v2=>some v2.2)
instance bCt(H:aH)(O:aK)(U:ByteArray):OkP (EQ H O U) 244 [ga H,ga O,.str U] .bool:=ok1 (EQ.eq_1 H O U) f244 []
def K0(j1:Unit):Option Bool:=some true
def HE(O U:List aP)(H:Int):Option (Int⊕(Unit⊕Bool)):=(if decide (H<O.length)then gd (0<=H/\H<O.length)<|gd (0<=H/\H<U.length)<|(Hv (O.getD H.toNat aP.zero) (U.getD H.toNat aP.zero)).bind λ v1=>(if !v1 then some (.inr (.inr false))else some (.inl (i64.wrap (H+1))))else some (.inr (.inl ())))
def uU(H O:List aP):Option Bool:=(if !decide ((H.length:Int)=(O.length:Int))then some false else(mF (HE H O) 0).bind (λ|.inl z=>K0 z|.inr z=>some z))
abbrev bCw a0 a1:=mkJ (uU a0 a1) 0 (@K0.eq_1) λ j1=>⟨[],[],0⟩
abbrev bCx (H O:List aP):=mkL x (@HE.eq_1 H O) λ U=>⟨[(0,la H),(1,la O),(5,.int i64 U)],[],0⟩
attribute[instance]bCw bCx
instance bCy(H O:List aP):OkP (uU H O) 35 [la H,la O] .bool:=ok1 (uU.eq_1 H O) f35 []
def n7(O:List Int)(H:aC):Option (List Int):=(qV O H.mode).bind λ v1=>(qV v1 H.aU).bind λ v2=>some v2
instance bCz(H:List Int)(O:aC):OkP (n7 H O) 113 [.sl (H.map (eI u8)),ga O] (λ r=>.sl (r.map (eI u8))):=ok1 (n7.eq_1 H O) f113 []
end
end Ab
end Go.Proofs.YtfmnjkfhahfhgaaGreatDoor
