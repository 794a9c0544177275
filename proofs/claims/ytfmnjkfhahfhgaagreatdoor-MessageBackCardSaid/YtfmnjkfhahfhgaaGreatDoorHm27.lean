import Derived.Test.YtfmnjkfhahfhgaaGreatDoorHm14
import Derived.Test.YtfmnjkfhahfhgaaGreatDoorHm16
import Derived.Test.YtfmnjkfhahfhgaaGreatDoorHm18
namespace Go.Proofs.YtfmnjkfhahfhgaaGreatDoor
namespace Ab
set_option linter.defProp false
open IntKind (i64 u64 u8)
set_option linter.unusedSimpArgs false
set_option linter.unusedVariables false
set_option maxRecDepth 100000
set_option maxHeartbeats 1000000
noncomputable section
variable {T T1 : Type} (x : T) (v1 : T1)
def TO(j1:Unit):Option Bool:=some true
def Eb(H:aA)(O:Int):Option (Int⊕(Unit⊕Bool)):=(if decide (O<H.aN.length)then gd (0<=O/\O<H.aN.length)<|(Bm H (H.aN.getD O.toNat aV.zero).aM).bind λ v1=>(zS H.aN (H.aN.getD O.toNat aV.zero).aM).bind λ v2=>(if (!decide (v2=O))||oQ v1 then some (.inr (.inr false))else(if mM H.aB ((H.aN.getD O.toNat aV.zero).aJ)then DU H.aB (H.aN.getD O.toNat aV.zero).aJ v1 else some false).bind λ v3=>(if ((!(mM H.aB (H.aN.getD O.toNat aV.zero).aJ))||(!v3))||decide ((H.aN.getD O.toNat aV.zero).aJ=v1)then some (.inr (.inr false))else(if (!decide ((H.aN.getD O.toNat aV.zero).bC=0))||(!decide ((H.aN.getD O.toNat aV.zero).bS=0))then some (.inr (.inr false))else some (.inl (i64.wrap (O+1))))))else some (.inr (.inl ())))
def BT(H:aA):Option Bool:=(if decide (8<(H.aN.length:Int))then some false else(lY (Eb H) 0).bind (λ|.inl z=>TO z|.inr z=>some z))
@[reducible,instance]def bKo a0:=mkJ (BT a0) 0 (@TO.eq_1) λ j1=>⟨[],[],0⟩
@[reducible,instance]def bKp (H:aA):=mkL x (@Eb.eq_1 H) λ O=>⟨[(1,.ptr 0 0 0),(11,la H.aN),(12,.int i64 H.aN.length),(13,.int i64 O)],[(0,bx H)],1⟩
instance bKq(H:aA):OkP (BT H) 270 [ga H] .bool:=ok1 (BT.eq_1 H) Tryz.f270 []
def f5(H:List aK):Option (List aK):=gd (H.length<=4294967296)<|(DY H).bind λ v1=>(t6 v1).bind λ v2=>some v2.1
def bKr(O:List aK)(r:(List aK))(h:f5 O=some r):PFn C 225 [la O] (la r):=by refine oN Tryz.f225 [] λ E hG B hK=>?_;unfold f5 at h;refine lW (lX hG ?_);refine lW ?_;obtain⟨Y,h⟩:=mH h;refine lX hG ?_;refine lW (lX hG ?_);obtain⟨v1,H,h⟩:=lZ h;have U:=bH4 O _ H;refine mO [(0,0)] [] [0] (bH5 _ _ H) rfl rfl ?_;refine lW (lX hG ?_);obtain⟨v2,hv2,h⟩:=lZ h;refine mO [(0,0)] [] [0] ((aTe v1).ok _ hv2) rfl rfl ?_;refine mG ?_;exact nM h
instance bKs(H:List aK):OkP (f5 H) 225 [la H] la:=⟨bKr H⟩
def NM(H:aI)(O:List aX)(j1:Unit):Option Bool:=(A5 O).bind λ v1=>(BK H v1).bind λ v2=>some v2
def G3(U:aI)(O:List aX)(H:Int):Option (Int⊕(Unit⊕Bool)):=(if decide (H<O.length)then gd (0<=H/\H<O.length)<|gd (pC (O.getD H.toNat aX.zero).aM=true->0<=H/\H<O.length)<|gd (((!((!(pC (O.getD H.toNat aX.zero).aM))||(!(qP U (O.getD H.toNat aX.zero).aJ))))&&decide (0<H))=true->0<=i64.wrap (H-1)/\i64.wrap (H-1)<(O.length:Int))<|gd (((!((!(pC (O.getD H.toNat aX.zero).aM))||(!(qP U (O.getD H.toNat aX.zero).aJ))))&&decide (0<H))=true->0<=H/\H<O.length)<|(if ((!(pC (O.getD H.toNat aX.zero).aM))||(!(qP U (O.getD H.toNat aX.zero).aJ)))||(decide (0<H)&&decide (0<=vG (O.getD (i64.wrap (H-1)).toNat aX.zero).aM (O.getD H.toNat aX.zero).aM))then some (.inr (.inr false))else some (.inl (i64.wrap (H+1))))else some (.inr (.inl ())))
def g9(H:aI)(O:List aX):Option Bool:=(if (!(zU H))||decide (8<(O.length:Int))then some false else(lY (G3 H O) 0).bind (λ|.inl z=>NM H O z|.inr z=>some z))
@[reducible,instance]def bKv (H:aI) (O:List aX):=mkJ (g9 H O) 0 (@NM.eq_1 H O) λ j1=>⟨[(1,la O),(2,.ptr 0 0 0)],[(0,bx H)],1⟩
@[reducible,instance]def bKw (H:aI) (O:List aX):=mkL x (@G3.eq_1 H O) λ U=>⟨[(1,la O),(2,.ptr 0 0 0),(5,.int i64 U)],[(0,bx H)],1⟩
instance bKx(H:aI)(O:List aX):OkP (g9 H O) 246 [ga H,la O] .bool:=ok1 (g9.eq_1 H O) Tryz.f246 []
def NN(H j1:bA):Option (bA×Bool):=(if decide (((j1.aQ.length:Nat):Int)=(H.aQ.length:Int))then some ({bA.zero with},false)else some (j1,true))
def NO(H:Int×bA)(O:bA):Option ((Int×bA)⊕bA):=some (.inl (i64.wrap (H.1+1),O))
def G4(O:bA)(U H:Int×bA):Option ((Int×bA)⊕bA):=(if decide (H.1<((H.2.bH.length:Nat):Int))then gd (0<=H.1/\H.1<O.bH.length)<|(if decide (U.1<(O.bH.getD H.1.toNat bW.zero).at_)then gd (0<=H.1/\H.1<((H.2.bH.length:Nat):Int))<|gd (0<=H.1/\H.1<((H.2.bH.length:Nat):Int))<|some (.inl (i64.wrap (H.1+1),(⟨H.2.aQ,H.2.bH.set H.1.toNat ({(H.2.bH.getD H.1.toNat bW.zero)with at_:=(i64.wrap ((H.2.bH.getD H.1.toNat bW.zero).at_-1))})⟩:bA)))else some (.inl (i64.wrap (H.1+1),H.2)))else some (.inr H.2))
def Ec(O:bA)(U:ByteArray)(H:Int×bA):Option ((Int×bA)⊕bA):=(if decide (H.1<O.aQ.length)then gd (0<=H.1/\H.1<O.aQ.length)<|(if !(((O.aQ.getD H.1.toNat bN.zero).name).toList==U.toList)then gd (0<=H.1/\H.1<O.aQ.length)<|gd (H.2.aQ.length+1<=4294967296)<|some (.inl (i64.wrap (H.1+1),(⟨H.2.aQ++[O.aQ.getD H.1.toNat bN.zero],H.2.bH⟩:bA)))else(lY (G4 O H) (0,H.2)).bind (λ z=>NO H z))else some (.inr H.2))
def Ag(H:bA)(O:ByteArray):Option (bA×Bool):=(uN H).bind λ v1=>(if !v1 then some ({bA.zero with},false)else gd (H.bH.length<=4294967296)<|(lY (Ec H O) (0,(⟨[],H.bH⟩:bA))).bind (λ z=>NN H z))
@[reducible,instance]def bL2 (H:bA) (O:ByteArray):=mkJ (Ag H O,v1) 0 (@NN.eq_1 H) λ j1=>⟨[(2,.ptr 0 0 0),(4,.ptr 1 0 0),(6,.ptr 2 0 0)],[(0,bx H),(1,bx bA.zero),(2,⟨false,2,bA.enc bA.zero,[[.own 3 0 j1.aQ.length,.own 4 0 j1.bH.length]]⟩),(3,sx j1.aQ),(4,sx j1.bH)],5⟩
@[reducible,instance]def bL3 (U:bA) (Y:ByteArray) (O:Int×bA):=mkJ (Ec U Y O) 2 (@NO.eq_1 O) λ H=>⟨[(1,.str Y),(2,.ptr 0 0 0),(4,.ptr 1 0 0),(6,.ptr 2 0 0),(7,.int i64 O.1)],[(0,bx U),(1,bx bA.zero),(2,⟨false,2,bA.enc bA.zero,[[.own 3 0 H.aQ.length,.own 4 0 H.bH.length]]⟩),(3,sx H.aQ),(4,sx H.bH)],5⟩
@[reducible,instance]def bL4 (O:bA) (Y:ByteArray) (U:Int×bA):=mkL (Ec O Y U) (@G4.eq_1 O U) λ H=>⟨[(1,.str Y),(2,.ptr 0 0 0),(4,.ptr 1 0 0),(6,.ptr 2 0 0),(7,.int i64 U.1),(8,.int i64 H.1)],[(0,bx O),(1,bx bA.zero),(2,⟨false,2,bA.enc bA.zero,[[.own 3 0 H.2.aQ.length,.own 4 0 H.2.bH.length]]⟩),(3,sx H.2.aQ),(4,sx H.2.bH)],5⟩
@[reducible,instance]def bL5 (O:bA) (U:ByteArray):=mkL x (@Ec.eq_1 O U) λ H=>⟨[(1,.str U),(2,.ptr 0 0 0),(4,.ptr 1 0 0),(6,.ptr 2 0 0),(7,.int i64 H.1)],[(0,bx O),(1,bx bA.zero),(2,⟨false,2,bA.enc bA.zero,[[.own 3 0 H.2.aQ.length,.own 4 0 H.2.bH.length]]⟩),(3,sx H.2.aQ),(4,sx H.2.bH)],5⟩
instance bL6(H:bA)(O:ByteArray):OkP (Ag H O) 237 [ga H,.str O] (λ r=>.tup [ga r.1,.bool r.2]):=⟨λ r h=>by
 refine oN Tryz.f237 [(13,1),(17,5),(6,5)] λ E hG B hK=>?_;have hm:Mk (Ag H O):=trivial;unfold Ag at h;refine lW (lX hG ?_);refine lW (lW (lX hG ?_));obtain⟨v1,U,h⟩:=lZ h;have hm:=mkP hm v1;refine nC (λ hg=>(Tq H).ok _ U) ?_;refine mA rfl hG h (λ _ h=>?_) (λ _ h=>?_)
 .exact gogo
 refine mE ?_;refine lW ?_;obtain⟨Y,h⟩:=mH h;refine lX hG ?_;refine g_gh (.ownb 4 0 5 (bN.enc bN.zero)) ?_;exact gogo⟩
def NP(H:bA)(j1:Int×Int)(O:(List aO)):Option (bA×(List aO)×Int):=some ((⟨H.aQ.take j1.1.toNat,H.bH.take j1.2.toNat⟩:bA),O,0)
@[go_sem] def bL8(H:bA)(j1:Int×Int)(O:(List aO)):St:=⟨[(4,.ptr 0 0 0),(10,.ptr 1 0 0),(11,.own 2 0 O.length)],[(0,bx bA.zero),(1,⟨false,2,bA.enc bA.zero,[[.own 3 0 ((⟨(H.aQ.take j1.1.toNat),H.bH.take j1.2.toNat⟩:bA).aQ).length,.own 4 0 ((⟨(H.aQ.take j1.1.toNat),H.bH.take j1.2.toNat⟩:bA).bH).length]]⟩),(2,sx O),(3,sx (⟨(H.aQ.take j1.1.toNat),H.bH.take j1.2.toNat⟩:bA).aQ),(4,sx (⟨(H.aQ.take j1.1.toNat),H.bH.take j1.2.toNat⟩:bA).bH)],5⟩
def G5(O:bA)(j1:Int×Int)(v2:(List ByteArray))(H:Int×(List aO)):Option ((Int×(List aO))⊕(List aO)):=(if decide (H.1<v2.length)then gd (0<=H.1/\H.1<v2.length)<|gd (0<=H.1/\H.1<v2.length)<|(tN (⟨O.aQ.take j1.1.toNat,O.bH.take j1.2.toNat⟩:bA).aQ (v2.getD H.1.toNat ⟨#[]⟩)).bind λ v3=>gd (H.2.length+1<=4294967296)<|some (.inl (i64.wrap (H.1+1),H.2++[(⟨v2.getD H.1.toNat ⟨#[]⟩,v3⟩:aO)]))else some (.inr H.2))
@[go_sem] def bLa(H:bA)(j1:Int×Int)(v2:(List ByteArray))(O:Int×(List aO)):St:=⟨[(4,.ptr 0 0 0),(10,.ptr 1 0 0),(11,.own 2 0 O.2.length),(12,.sl (v2.map eS)),(13,.int i64 O.1)],[(0,bx bA.zero),(1,⟨false,2,bA.enc bA.zero,[[.own 3 0 ((⟨(H.aQ.take j1.1.toNat),H.bH.take j1.2.toNat⟩:bA).aQ).length,.own 4 0 ((⟨(H.aQ.take j1.1.toNat),H.bH.take j1.2.toNat⟩:bA).bH).length]]⟩),(2,sx O.2),(3,sx (⟨(H.aQ.take j1.1.toNat),H.bH.take j1.2.toNat⟩:bA).aQ),(4,sx (⟨(H.aQ.take j1.1.toNat),H.bH.take j1.2.toNat⟩:bA).bH)],5⟩
def Ed(H:bA)(j1:Int×Int):Option (bA×(List aO)×Int):=gd (0<=0/\0<=j1.1/\j1.1<=H.aQ.length)<|gd ((H.aQ.take j1.1.toNat).length<=4294967296)<|gd (0<=0/\0<=j1.2/\j1.2<=H.bH.length)<|gd ((H.bH.take j1.2.toNat).length<=4294967296)<|gd (0<=j1.1/\j1.1<=(H.aQ.length:Int)/\(H.aQ.length:Int)<=(H.aQ.length:Int))<|(xR (H.aQ.drop j1.1.toNat)).bind λ v2=>(lY (G5 H j1 v2) (0,[])).bind (λ z=>NP H j1 z)
@[go_sem] def bLc(H:bA)(j1:Int×Int):St:=⟨[(2,.ptr 0 0 0),(4,.ptr 1 0 0),(7,.int i64 j1.1),(8,.int i64 j1.2)],[(0,bx H),(1,bx bA.zero)],2⟩
def i4(H:bA)(O:Int):Option (bA×(List aO)×Int):=(uN H).bind λ v1=>(if !v1 then some ({bA.zero with},[],2)else(if !decide (O=0)then(zX H.bH O).bind λ v4=>(if decide (v4<0)then some ({bA.zero with},[],10)else gd (0<=v4/\v4<H.bH.length)<|Ed H ((H.bH.getD v4.toNat bW.zero).at_,i64.wrap (v4+1)))else Ed H (0,0)))
def TP(O:bA)(Y:Int)(r:bA×(List aO)×Int)(h:i4 O Y=some r):PFn C 100 [ga O,.int i64 Y] (.tup [ga r.1,la r.2.1,.int i64 r.2.2]):=by
 refine oN Tryz.f100 [(35,1),(41,1),(47,2),(11,1)] λ E hG hN hK=>?_;unfold i4 at h;refine lW (lX hG ?_);refine lW (lW (lX hG ?_));obtain⟨v1,B,h⟩:=lZ h;refine nC (λ hg=>(Tq O).ok _ B) ?_;refine mA rfl hG h (λ _ h=>?_) (λ _ h=>?_)
 · refine lW (lX hG ?_)
   refine mG ?_;exact nM h
 refine mE ?_;refine lW (lX hG ?_);refine lW (lW (lX hG ?_));refine rN (bLc O) (λ v=>Ed O v=some r) rfl hG h ?_ (λ _ h=>?_) (λ _ h=>?_)
 · intro j1 h
   unfold Ed at h;refine g_st ?_;refine lW ?_;obtain⟨x0,h⟩:=mH h;obtain⟨y0,h⟩:=mH h;obtain⟨z0,h⟩:=mH h;obtain⟨u0,h⟩:=mH h;refine qD oL hG ?_;refine lW (lX hG ?_);refine lW ?_;obtain⟨v0,h⟩:=mH h;refine lX hG ?_;obtain⟨v2,hv2,h⟩:=lZ h;refine nC (λ hg=>(aXx (O.aQ.drop j1.1.toNat)).ok _ hv2) ?_;refine lW (lW (lX hG ?_));refine pU (bL8 O j1) (λ v=>NP O j1 v=some r) ?_ ?_
   · intro j2 h
     unfold NP at h;refine g_st ?_;refine lW (lX hG ?_);refine mG ?_;exact nM h
   refine qH (bLa O j1 v2) hK [(0,1),(1,6),(2,7),(3,3),(4,5)] h (λ F h M h0 H U=>?_);unfold G5 at H;refine g_st ?_;refine lW (lW (lX hG ?_));refine mA rfl hG H (λ _ H=>?_) (λ _ H=>?_)
   · refine mE ?_
     refine lW (oG ?_);obtain⟨p0,H⟩:=mH H;obtain⟨q0,H⟩:=mH H;refine qD oL hG ?_;obtain⟨v3,hv3,H⟩:=lZ H;obtain⟨r0,H⟩:=mH H;refine sD (λ hg=>(aUd (⟨(O.aQ.take j1.1.toNat),O.bH.take j1.2.toNat⟩:bA).aQ (v2.getD M.1.toNat ⟨#[]⟩)).ok _ hv3) ?_;refine lX hG ?_;exact oU hK [(0,0),(1,1),(2,5),(3,3),(4,4)] H
   refine oI ?_;cases H;cases U _ rfl;exact mT hK [(0,0),(1,1),(2,2),(3,3),(4,4)] M.2 (by exact h)
 · refine lW (lX hG ?_)
   obtain⟨v4,hv4,h⟩:=lZ h;refine nC (λ hg=>(aY2 O.bH Y).ok _ hv4) ?_;refine lW (lW (lX hG ?_));refine mA rfl hG h (λ _ h=>?_) (λ _ h=>?_)
   · refine lW (lX hG ?_)
     refine mG ?_;exact nM h
   refine mE ?_;obtain⟨s0,h⟩:=mH h;refine lX hG ?_;exact mT hK [(0,0),(1,1)] ((O.bH.getD v4.toNat bW.zero).at_,i64.wrap (v4+1)) (by exact h)
 refine mE ?_;exact mT hK [(0,0),(1,1)] (0,0) (by exact h)
instance bLe(H:bA)(O:Int):OkP (i4 H O) 100 [ga H,.int i64 O] (λ r=>.tup [ga r.1,la r.2.1,.int i64 r.2.2]):=⟨TP H O⟩
def TQ(j1:(List aK)):Option (List aK):=(GA j1).bind λ v1=>some v1
def TR(O:List aA)(H:Int×(List aK)):Option ((Int×(List aK))⊕(List aK)):=(if decide (H.1<O.length)then gd (0<=H.1/\H.1<O.length)<|(BB (O.getD H.1.toNat aA.zero)).bind λ v2=>gd (H.2.length+v2.length<=4294967296)<|some (.inl (i64.wrap (H.1+1),H.2++v2))else some (.inr H.2))
def Ee(H:List aA):Option (List aK):=(lY (TR H) (0,[])).bind (λ z=>TQ z)
@[reducible,instance]def bLh a0:=mkJ (Ee a0) 0 (@TQ.eq_1) λ j1=>⟨[(3,.own 0 0 j1.length)],[(0,sx j1)],1⟩
@[reducible,instance]def bLi (O:List aA):=mkL x (@TR.eq_1 O) λ H=>⟨[(0,la O),(3,.own 0 0 H.2.length),(4,.int i64 H.1)],[(0,sx H.2)],1⟩
instance bLj(H:List aA):OkM (Ee H) 91 [la H] [] 0 (λ r=>.own 0 0 r.length) (λ r=>[(0,sx r)]) 1:=okm (Ee.eq_1 H) (λ r=>[.own 0 0 r.length]) Tryz.f91 [(2,1),(3,1),(19,1)]
def Eg(H:aA):Option Bool:=(DO H.aB).bind λ v1=>(if v1 then d7 H.aB H.aT else some false).bind λ v2=>(if v1&&v2 then BT H else some false).bind λ v3=>(if (v1&&v2)&&v3 then BQ H else some false).bind λ v4=>some (((((v1&&v2)&&v3)&&v4)&&decide (0<=H.gen))&&decide (H.gen<=1073741824))
instance bLk(H:aA):OkP (Eg H) 251 [ga H] .bool:=ok1 (Eg.eq_1 H) Tryz.f251 []
def TS(j1:(List aA)):Option ((List aA)×Int):=some (j1,0)
def Kr(O:List aI)(H:Int×(List aA)):Option ((Int×(List aA))⊕(List aA)):=(if decide (H.1<O.length)then gd (0<=H.1/\H.1<O.length)<|gd (H.2.length+1<=4294967296)<|some (.inl (i64.wrap (H.1+1),H.2++[{aA.zero with aB:=(O.getD H.1.toNat aI.zero)}]))else some (.inr H.2))
def BU(H:List aI):Option ((List aA)×Int):=(Aa H).bind λ v1=>(if !v1 then some ([],1)else(lY (Kr H) (0,[])).bind (λ z=>TS z))
@[reducible,instance]def bLn a0:=mkJ (BU a0,v1) 0 (@TS.eq_1) λ j1=>⟨[(4,.own 0 0 j1.length)],[(0,sx j1)],1⟩
@[reducible,instance]def bLo (O:List aI):=mkL x (@Kr.eq_1 O) λ H=>⟨[(0,la O),(4,.own 0 0 H.2.length),(5,.int i64 H.1)],[(0,sx H.2)],1⟩
instance bLp(H:List aI):OkP (BU H) 88 [la H] (λ r=>.tup [la r.1,.int i64 r.2]):=ok1 (BU.eq_1 H) Tryz.f88 [(4,1)]
def TT(v1 v2:aC)(v3:aC×Bool)(j1:Unit):Option Bool:=some (decide (v2=v1)&&(!v3.2))
def TU(v1 v2:aC)(v3:aC×Bool)(v4:aC)(H:Unit):Option (Int⊕(Unit⊕Bool)):=some (.inr (.inr (decide (v2=v1)&&decide (v3.1=v4))))
def Eh(O:aA)(U:aG)(H:Int):Option (Int⊕(Unit⊕Bool)):=(if decide (H<O.aW.length)then gd (0<=H/\H<O.aW.length)<|gd (decide ((O.aW.getD H.toNat aV.zero).aM=U.aM)=true->0<=H/\H<O.aW.length)<|(if decide ((O.aW.getD H.toNat aV.zero).aM=U.aM)&&(!decide ((O.aW.getD H.toNat aV.zero).bC=U.bJ.bC))then some (.inr (.inr false))else some (.inl (i64.wrap (H+1))))else some (.inr (.inl ())))
def Ei(U:aA)(Y:aG)(O:List aO)(v1 v2:aC)(v3:aC×Bool)(H:Int):Option (Int⊕(Unit⊕Bool)):=(if decide (H<O.length)then gd (0<=H/\H<O.length)<|(if (!(((O.getD H.toNat aO.zero).name).toList==U.aB.name.toList))||rZ U.aB v1 ((O.getD H.toNat aO.zero).aJ)then some (.inl (i64.wrap (H+1)))else(BM U.aB v1 (O.getD H.toNat aO.zero).aJ).bind λ v4=>(if !v3.2 then some (.inr (.inr (decide (v2=v4))))else(lY (Eh U Y) 0).bind (λ|.inl z=>TU v1 v2 v3 v4 z|.inr z=>some (.inr (.inr z)))))else some (.inr (.inl ())))
def BV(H:aA)(O:aG)(U:List aO):Option Bool:=(tN O.bF.aQ H.aB.name).bind λ v1=>(rY H O.aM).bind λ v2=>(uG H O.aM).bind λ v3=>(lY (Ei H O U v1 v2 v3) 0).bind (λ|.inl z=>TT v1 v2 v3 z|.inr z=>some z)
@[reducible,instance]def bLu a0 a1 a2 (v1 v2:aC) (v3:aC×Bool):=mkJ (((BV a0 a1 a2,v1),v2),v3) 0 (@TT.eq_1 v1 v2 v3) λ j1=>⟨[(7,.ptr 0 0 0),(8,.ptr 1 0 0),(10,.bool v3.2)],[(0,bx v1),(1,bx v2)],2⟩
@[reducible,instance]def bLv a0 a1 a2 (v1 v2:aC) (v3:aC×Bool) g1 (v4:aC):=mkJ (Ei a0 a1 a2 v1 v2 v3 g1,v4) 2 (@TU.eq_1 v1 v2 v3 v4) λ H=>⟨[(7,.ptr 0 0 0),(8,.ptr 1 0 0),(9,.ptr 2 0 0),(13,.ptr 3 0 0)],[(0,bx v1),(1,bx v2),(2,bx v3.1),(3,bx v4)],4⟩
@[reducible,instance]def bLw (H:aA) (O:aG) a2 (v1 v2:aC) (v3:aC×Bool) g1 (v4:aC):=mkL (Ei H O a2 v1 v2 v3 g1,v4) (@Eh.eq_1 H O) λ U=>⟨[(3,.ptr 0 0 0),(4,.ptr 1 0 0),(7,.ptr 2 0 0),(8,.ptr 3 0 0),(9,.ptr 4 0 0),(13,.ptr 5 0 0),(14,.int i64 U)],[(0,bx H),(1,bx O),(2,bx v1),(3,bx v2),(4,bx v3.1),(5,bx v4)],6⟩
@[reducible,instance]def bLx (H:aA) (O:aG) (U:List aO) (v1 v2:aC) (v3:aC×Bool):=mkL x (@Ei.eq_1 H O U v1 v2 v3) λ Y=>⟨[(2,la U),(3,.ptr 0 0 0),(4,.ptr 1 0 0),(7,.ptr 2 0 0),(8,.ptr 3 0 0),(9,.ptr 4 0 0),(10,.bool v3.2),(11,.int i64 Y)],[(0,bx H),(1,bx O),(2,bx v1),(3,bx v2),(4,bx v3.1)],5⟩
instance bLy(H:aA)(O:aG)(U:List aO):OkP (BV H O U) 147 [ga H,ga O,la U] .bool:=ok1 (BV.eq_1 H O U) Tryz.f147 []
def Ej(H O:aL)(j1:Unit):Option Bool:=(if (((!decide (H.kind=O.kind))||(!decide (H.aM=O.aM)))||(!decide (H.aZ=O.aZ)))||(!decide (H.done=O.done))then some false else(Bs H.options O.options).bind λ v2=>(if v2 then BN H.state O.state else some false).bind λ v3=>some (v2&&v3))
@[go_sem] def bLz(H O:aL)(j1:Unit):St:=⟨[(2,.ptr 0 0 0),(3,.ptr 1 0 0)],[(0,bx H),(1,bx O)],2⟩
def Ks(O U:aL)(H:Int×bM)(Y:Unit):Option (Unit⊕(Unit⊕Bool)):=(oM (H.2).of).bind λ v4=>(oM (H.2).of).bind λ v5=>(if !decide (nI O v4=nI U v5)then some (.inr (.inr false))else some (.inl ()))
@[go_sem] def bM1(H O:aL)(v1:(List (Int×bM)))(s0:List Nat)(U:Unit):St:=⟨[(2,.ptr 0 0 0),(3,.ptr 1 0 0),(8,.it 2)],[(0,bx H),(1,bx O),(2,⟨false,0,[],[.mp 3,.int i64 v1.length]::s0.map iE⟩),(3,⟨false,0,[A.int u8 0,A.bool true],v1.map (mI u8 bM.enc)⟩)],4⟩
def BW(H O:aL):Option Bool:=(zV).bind λ v1=>rngO v1 (0,bM.zero) (Ks H O) (λ U:Unit=>(.inl ())) () (λ|.inl z=>Ej H O z|.inr z=>some z)
def bM2(Y B:aL)(r:Bool)(h:BW Y B=some r):PFn C 14 [ga Y,ga B] (.bool r):=by
 refine oN Tryz.f14 [(9,80),(11,80),(15,1),(20,1)] λ E hG hN hK=>?_;unfold BW at h;refine lW (lX hG ?_);refine lW (lW (lX hG ?_));obtain⟨v1,x0,h⟩:=lZ h;refine mO [] [(0,2)] [0] ((Ge).ok _ x0) rfl rfl ?_;refine pU (bLz Y B) (λ v=>Ej Y B v=some r) ?_ ?_
 · intro j1 h
   unfold Ej at h;refine g_st ?_;refine lW (lW (lX hG ?_));refine mA rfl hG h (λ _ h=>?_) (λ _ h=>?_)
   · refine lW (lX hG ?_)
     refine mG ?_;exact nM h
   refine mE ?_;refine lW (lX hG ?_);obtain⟨v2,hv2,h⟩:=lZ h;refine mO [] [] [] ((zO9 Y.options B.options).ok _ hv2) rfl rfl ?_;obtain⟨v3,hv3,h⟩:=lZ h;refine nC (λ hg=>(bJh Y.state B.state).ok _ (uB hg hv3)) ?_;refine mG ?_;exact nM h
 refine RQ (bM1 Y B v1) hK [(0,0),(1,1),(2,3),(3,2)] h (λ s0 g1 O=>?_);refine g_st ?_;refine lW (lX hG ?_);refine⟨λ u0 y0 h0=>?_,λ F=>?_⟩
 · obtain⟨z0,H,U,M⟩:=RN O y0 h0
   unfold Ks at H
   try refine g_st ?_
   refine lW ?_;refine AY rfl hG ?_;refine mE ?_;refine oG (lW (lX hG ?_));refine lW (qD oL hG ?_);obtain⟨v4,hv4,H⟩:=lZ H;refine vC [(0,0)] [] [0] (AZ _ _ _ hv4) rfl rfl ?_ (ho:=by first|exact⟨by trivial,tM hv4⟩|exact tM hv4);obtain⟨v5,hv5,H⟩:=lZ H;refine vC [(0,1)] [] [0] (AZ _ _ _ hv5) rfl rfl ?_ (ho:=by first|exact⟨by trivial,tM hv5⟩|exact tM hv5);refine mA rfl hG H (λ _ H=>?_) (λ _ H=>?_)
   · refine lW (lX hG ?_)
     refine mG ?_;obtain rfl:=dY H;have h:=M _ rfl
     try dsimp only at h
     exact nM h
   refine mE ?_;exact RR hK [(0,0),(1,1),(2,2),(3,3)] H U
 try refine g_st ?_
 refine lW ?_;refine I8 rfl hG ?_;refine oI ?_;have h:=RO O F
 try dsimp only at h
 exact mT hK [(0,0),(1,1)] () (by exact h)
instance bM3(H O:aL):OkP (BW H O) 14 [ga H,ga O] .bool:=⟨bM2 H O⟩
def G6(H:List aI):Option (bD×Int):=(BU H).bind λ v1=>(if !decide (v1.2=0)then some ({bD.zero with},v1.2)else some ({bD.zero with aF:=v1.1},0))
instance bM5(H:List aI):OkP (G6 H) 44 [la H] (λ r=>.tup [ga r.1,.int i64 r.2]):=ok1 (G6.eq_1 H) Tryz.f44 []
def Ek(H:aA):Option (List aK):=(A2 H.aT).bind λ v1=>(BH H).bind λ v2=>gd (v1.length+v2.length<=4294967296)<|(f5 (v1++v2)).bind λ v3=>some v3
instance bM6(H:aA):OkP (Ek H) 257 [ga H] la:=ok1 (Ek.eq_1 H) Tryz.f257 []
def Kt(j1:aR×(List aP)):Option ((List aP)×aR):=some (j1.2,j1.1)
def pZ(v1:Int×aR)(H:Int×aR×(List aP)):Option ((Int×aR×(List aP))⊕((aR×(List aP))⊕((List aP)×aR))):=(if decide (H.1<v1.1)then(yB H.2.1.b).bind λ v2=>(if !decide (v2.2.2=0)then some (.inr (.inr ([],{H.2.1 with err:=v2.2.2})))else gd (0<=v2.2.1/\v2.2.1<=(H.2.1.b.length:Int)/\(H.2.1.b.length:Int)<=(H.2.1.b.length:Int))<|gd (H.2.2.length+1<=4294967296)<|some (.inl (i64.wrap (H.1+1),{H.2.1 with b:=(H.2.1.b.drop v2.2.1.toNat)},H.2.2++[v2.1])))else some (.inr (.inl (H.2.1,H.2.2))))
def yC(H:aR):Option ((List aP)×aR):=(sF 40 4 H).bind λ v1=>(lY (pZ v1) (0,v1.2,[])).bind (λ|.inl z=>Kt z|.inr z=>some z)
@[reducible,instance]def bM7 (H:aR):=mkJ (yC H,v1) 0 (@Kt.eq_1) λ j1=>⟨[(4,.own 1 0 j1.2.length)],[(0,bx j1.1),(1,sx j1.2)],2⟩
@[reducible,instance]def bM8 (v1:Int×aR):=mkL x (@pZ.eq_1 v1) λ H=>⟨[(0,.ptr 0 0 0),(4,.own 1 0 H.2.2.length),(10,.int i64 v1.1),(11,.int i64 H.1)],[(0,bx H.2.1),(1,sx H.2.2)],2⟩
instance bM9(H:aR):OkM (yC H) 75 [.ptr 0 0 0] [(0,bx H)] 1 (λ r=>la r.1) (λ r=>[(0,bx r.2)]) 1:=⟨λ r h=>by
 refine oZ Tryz.f75 [(4,1)] [la r.1] λ E hG U hK=>?_;have hm:Mk (yC H):=trivial;unfold yC at h;refine lW (lX hG ?_);refine lW (lX hG ?_);obtain⟨v1,O,h⟩:=lZ h;have hm:=mkP hm v1;refine mO [(0,0)] [] [0] ((SS 40 4 H).ok _ O) rfl rfl ?_;refine lW (lX hG ?_);refine lW (lW (lX hG ?_));refine xN hm h (λ j1 hm h=>?_) ?_
 · try refine g_st ?_
   refine lW (lX hG ?_);refine g_gh (.fz [1]) ?_;exact gogo
 exact gogo⟩
def Em (H:List aI) (B:bK):Option (bP×bK):=(nQ 16 B).bind λ v1=>(nQ 6 v1.2).bind λ v2=>(y3 v2.1).bind λ v3=>(if decide (v1.1=0)then(nQ 9 v2.2).bind λ v4=>some ({{{bP.zero with aM:=v3}with kind:=1}with n:=(i64.wrap (1+v4.1))},v4.2)else(if decide (v1.1<9)then(BF H v2.2).bind λ v5=>some ({{{bP.zero with aM:=v3}with kind:=2}with bJ:=v5.1},v5.2)else(if decide (v1.1=9)then some ({{bP.zero with aM:=v3}with kind:=3},v2.2)else(if decide (v1.1=10)then(nQ (H.length:Int) v2.2).bind λ v6=>gd (0<=v6.1/\v6.1<H.length)<|some ({{{bP.zero with aM:=v3}with kind:=4}with name:=(H.getD v6.1.toNat aI.zero).name},v6.2)else(if decide (v1.1=11)then(nQ 4 v2.2).bind λ O=>some ({{{bP.zero with aM:=v3}with kind:=5}with n:=(i64.wrap (1+O.1))},O.2)else(if decide (v1.1=12)then(nQ 5 v2.2).bind λ U=>some ({{{bP.zero with aM:=v3}with kind:=6}with n:=U.1},U.2)else(if decide (v1.1=13)then some ({{bP.zero with aM:=v3}with kind:=7},v2.2)else(if decide (v1.1=14)then some ({{bP.zero with aM:=v3}with kind:=8},v2.2)else(nQ 12 v2.2).bind λ Y=>some ({{{bP.zero with aM:=v3}with kind:=9}with n:=Y.1},Y.2)))))))))
instance bMa(H:List aI)(O:bK):OkM (Em H O) 42 [.ptr 0 0 0,la H] [(0,bx O)] 1 (λ r=>ga r.1) (λ r=>[(0,bx r.2)]) 1:=okm (Em.eq_1 H O) (λ r=>[ga r.1]) Tryz.f42 []
def Eo(H:aI)(Y:List aX)(O:aK)(U:aC):Option Bool:=(g9 H Y).bind λ v1=>(if (v1&&pC O)&&qP H U then xY Y O U else some []).bind λ v2=>(if (v1&&pC O)&&qP H U then g9 H v2 else some false).bind λ v3=>some (((v1&&pC O)&&qP H U)&&v3)
instance bMb(H:aI)(O:List aX)(U:aK)(Y:aC):OkP (Eo H O U Y) 249 [ga H,la O,ga U,ga Y] .bool:=ok1 (Eo.eq_1 H O U Y) Tryz.f249 []
def Ep(H:aI)(O:List aX)(U:aK)(Y:aC):Option Bool:=(D8 H O U Y).bind λ v1=>(if v1 then Bq O U Y else some []).bind λ v2=>(if v1 then d7 H v2 else some false).bind λ v3=>some (v1&&v3)
instance bMc(H:aI)(O:List aX)(U:aK)(Y:aC):OkP (Ep H O U Y) 253 [ga H,la O,ga U,ga Y] .bool:=ok1 (Ep.eq_1 H O U Y) Tryz.f253 []
def TV(v1:(List aI)×bK)(H:(List bP)):Option ((List aI)×(List bP)):=some (v1.1,H)
def Ku(v1:(List aI)×bK)(H:bK×(List bP)):Option ((bK×(List bP))⊕(List bP)):=(F2 H.1).bind λ v2=>(if v2.1 then(Em v1.1 v2.2).bind λ v3=>gd (H.2.length+1<=4294967296)<|some (.inl (v3.2,H.2++[v3.1]))else some (.inr H.2))
def Kv(v1:(List aI)×bK)(j1:bK×(List bP)):Option ((List aI)×(List bP)):=(lY (Ku v1) (j1.1,j1.2)).bind (λ z=>TV v1 z)
def Kw(H:Int×bK×(List bP)):Option ((Int×bK×(List bP))⊕(bK×(List bP))):=(if decide (H.1<4)then(y3 H.1).bind λ v4=>(nQ 9 H.2.1).bind λ v5=>gd (H.2.2.length+1<=4294967296)<|some (.inl (i64.wrap (H.1+1),v5.2,H.2.2++[{bP.zero with kind:=1,aM:=v4,n:=(i64.wrap (1+v5.1))}]))else some (.inr (H.2.1,H.2.2)))
def i5(H:List Int):Option ((List aI)×(List bP)):=(y8 ({bK.zero with l:=H})).bind λ v1=>(lY Kw (0,v1.2,[])).bind (λ z=>Kv v1 z)
@[reducible,instance]def bMh (v1:(List aI)×bK) j1:=mkJ (Kv v1 j1) 2 (@TV.eq_1 v1) λ H=>⟨[(5,la v1.1),(6,.own 0 0 H.length)],[(0,sx H)],1⟩
@[reducible,instance]def bMi (v1:(List aI)×bK):=mkL x (@Ku.eq_1 v1) λ H=>⟨[(4,.ptr 0 0 0),(5,la v1.1),(6,.own 1 0 H.2.length)],[(0,bx H.1),(1,sx H.2)],2⟩
@[reducible,instance]def bMj a0 (v1:(List aI)×bK):=mkJ (i5 a0,v1) 0 (@Kv.eq_1 v1) λ j1=>⟨[(4,.ptr 0 0 0),(5,la v1.1),(6,.own 1 0 j1.2.length)],[(0,bx j1.1),(1,sx j1.2)],2⟩
@[reducible,instance]def bMk a0 (v1:(List aI)×bK):=mkL (i5 a0,v1) (@Kw.eq_1) λ H=>⟨[(4,.ptr 0 0 0),(5,la v1.1),(6,.own 1 0 H.2.2.length),(7,.int i64 H.1)],[(0,bx H.2.1),(1,sx H.2.2)],2⟩
instance bMl(H:List Int):OkP (i5 H) 16 [.sl (H.map (eI i64))] (λ r=>.tup [la r.1,la r.2]):=ok1 (i5.eq_1 H) Tryz.f16 [(6,1)]
def Ah(H:aS):Option Bool:=(qQ H).bind λ v1=>some v1.2
instance bMm(H:aS):OkP (Ah H) 111 [ga H] .bool:=ok1 (Ah.eq_1 H) Tryz.f111 []
end
end Ab
end Go.Proofs.YtfmnjkfhahfhgaaGreatDoor
