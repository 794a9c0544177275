import Derived.Test.YtfmnjkfhahfhgaaGreatDoorHm27
import Derived.Test.YtfmnjkfhahfhgaaGreatDoorHm26
import Derived.Test.YtfmnjkfhahfhgaaGreatDoorHm34
namespace Go.Proofs.YtfmnjkfhahfhgaaGreatDoor
namespace Ab
set_option linter.defProp false
open IntKind (i64 u64 u8)
set_option linter.unusedSimpArgs false
set_option linter.unusedVariables false
set_option maxRecDepth 100000
set_option maxHeartbeats 1000000
noncomputable section
variable {T T1 T2 T3 T4 T5 : Type} (x : T) (v1 : T1) (v2 : T2) (v3 : T3) (v4 : T4) (v5 : T5)
def zP(H:aM):Option Bool:=(DV H).bind λ v1=>(if v1 then Bk H else some []).bind λ v2=>some (v1&&decide ((v2.length:Int)<=4064))
instance bTm(H:aM):OkP (zP H) 15 [ga H] .bool:=ok1 (zP.eq_1 H) Tryz.f15 []
def JW(H:aM):Option ((List Int)×Int):=(zP H).bind λ v1=>(if !v1 then some ([],2)else(Bk H).bind λ v2=>some (v2,0))
instance bTo(H:aM):OkP (JW H) 9 [ga H] (λ r=>.tup [.sl (r.1.map (eI u8)),.int i64 r.2]):=ok1 (JW.eq_1 H) Tryz.f9 []
def JX(j1:aU×aM):Option (aM×Int):=(if !decide ((j1.1.b.length:Int)=0)then some ({aM.zero with},6)else(zP j1.2).bind λ v3=>(if !v3 then some ({aM.zero with},2)else some (j1.2,0)))
@[go_sem] def bTq(j1:aU×aM):St:=⟨[(2,.ptr 0 0 0),(4,.ptr 1 0 0),(5,.ptr 2 0 0)],[(0,bx aM.zero),(1,bx j1.1),(2,bx j1.2)],3⟩
def JY(O:Int×aU×aM)(H:aU×aM):Option ((Int×aU×aM)⊕((aU×aM)⊕(aM×Int))):=(if !decide (H.1.err=0)then some (.inr (.inr ({aM.zero with},H.1.err)))else some (.inl (i64.wrap (O.1+1),H.1,H.2)))
@[go_sem] def bTs(v1:Int×aU)(v2:(List (Int×bN)))(O:Int×aU×aM)(H:aU×aM):St:=⟨[(2,.ptr 0 0 0),(4,.ptr 1 0 0),(5,.ptr 2 0 0),(6,.mp 3),(37,.int i64 ((Arr.get mZ v1.1.toNat ⟨#[]⟩).size:Int)),(38,.int i64 O.1)],[(0,bx aM.zero),(1,bx H.1),(2,bx H.2),(3,⟨false,0,[A.int u8 0,A.bool true],v2.map (mI u8 bN.enc)⟩)],4⟩
def zQ(v1:Int×aU)(v2:(List (Int×bN)))(H:Int×aU×aM):Option ((Int×aU×aM)⊕((aU×aM)⊕(aM×Int))):=(if decide (H.1<((Arr.get mZ v1.1.toNat ⟨#[]⟩).size:Int))then gd (0<=H.2.2.kind/\H.2.2.kind<16)<|gd (0<=H.1/\H.1<((Arr.get mZ H.2.2.kind.toNat ⟨#[]⟩).size:Int))<|(if(oK (((Arr.get mZ H.2.2.kind.toNat ⟨#[]⟩).toList.getD H.1.toNat 0).toNat:Int) v2).isSome=true then(oF ((oK (((Arr.get mZ H.2.2.kind.toNat ⟨#[]⟩).toList.getD H.1.toNat 0).toNat:Int) v2).getD bN.zero).of).bind λ v4=>(yS H.2.1).bind λ v5=>JY H (v5.2,tF H.2.2 v4 (i64.wrap (v5.1-((oK (((Arr.get mZ H.2.2.kind.toNat ⟨#[]⟩).toList.getD H.1.toNat 0).toNat:Int) v2).getD bN.zero).plus)))else(M8 (((Arr.get mZ H.2.2.kind.toNat ⟨#[]⟩).toList.getD H.1.toNat 0).toNat:Int) H.2.1 H.2.2).bind λ v6=>JY H (v6.1,v6.2))else some (.inr (.inl (H.2.1,H.2.2))))
@[go_sem] def bTt(v1:Int×aU)(v2:(List (Int×bN)))(H:Int×aU×aM):St:=⟨[(2,.ptr 0 0 0),(4,.ptr 1 0 0),(5,.ptr 2 0 0),(6,.mp 3),(37,.int i64 ((Arr.get mZ v1.1.toNat ⟨#[]⟩).size:Int)),(38,.int i64 H.1)],[(0,bx aM.zero),(1,bx H.2.1),(2,bx H.2.2),(3,⟨false,0,[A.int u8 0,A.bool true],v2.map (mI u8 bN.enc)⟩)],4⟩
def DW(H:List Int):Option (aM×Int):=(m8 15 6 ({aU.zero with b:=H})).bind λ v1=>(if !decide (v1.2.err=0)then some ({aM.zero with},v1.2.err)else(if !(Fc v1.1)then some ({aM.zero with},6)else(yJ).bind λ v2=>gd (0<=v1.1/\v1.1<16)<|(lS (zQ v1 v2) (0,v1.2,{aM.zero with kind:=v1.1})).bind (λ|.inl z=>JX z|.inr z=>some z)))
def bTu(B:List Int)(r:aM×Int)(h:DW B=some r):PFn C 11 [.sl (B.map (eI u8))] (.tup [ga r.1,.int i64 r.2]):=by
 refine oC Tryz.f11 [(56,1)] λ E hG hN hK=>?_;unfold DW at h;refine lQ (lR hG ?_);refine lQ (lR hG ?_);refine lQ (lR hG ?_);obtain⟨v1,F,h⟩:=lT h;refine mH [(0,1)] [] [0] ((RK 15 6 ({aU.zero with b:=B})).ok _ F) rfl rfl ?_;refine lQ (lQ (lR hG ?_));refine lU rfl hG h (λ _ h=>?_) (λ _ h=>?_)
 · refine lQ (pT oB hG ?_)
   refine lX ?_;exact nF h
 refine lW ?_;refine lQ (lQ (lR hG ?_));refine mW (λ hg=>(Rg v1.1).ok) ?_;refine lU rfl hG h (λ _ h=>?_) (λ _ h=>?_)
 · refine lQ (lR hG ?_)
   refine lX ?_;exact nF h
 refine lW ?_;refine lQ (lR hG ?_);obtain⟨v2,hv2,h⟩:=lT h;refine mH [] [(0,3)] [0] ((Fq).ok _ hv2) rfl rfl ?_;refine lQ (lQ ?_);obtain⟨x0,h⟩:=lZ h;refine lR hG ?_;refine pL bTq (λ v=>JX v=some r) ?_ ?_
 · intro j1 h
   unfold JX at h;refine g_st ?_;refine lQ (lQ (lR hG ?_));refine lU rfl hG h (λ _ h=>?_) (λ _ h=>?_)
   · refine lQ (lR hG ?_)
     refine lX ?_;exact nF h
   refine lW ?_;refine lQ (lQ (lR hG ?_));obtain⟨v3,hv3,h⟩:=lT h;refine mW (λ hg=>(bTm j1.2).ok _ hv3) ?_;refine lU rfl hG h (λ _ h=>?_) (λ _ h=>?_)
   · refine lQ (lR hG ?_)
     refine lX ?_;exact nF h
   refine lW ?_;refine lQ (lR hG ?_);refine lX ?_;exact nF h
 refine pX (bTt v1 v2) hK [(0,0),(1,1),(2,2),(3,3)] h (λ h0 h U Y H O=>?_);unfold zQ at H;refine g_st ?_;refine lQ (lR hG ?_);refine lQ ?_;refine lU rfl hG H (λ _ H=>?_) (λ _ H=>?_)
 · refine lW ?_
   refine lQ (nV (lQ (lR hG ?_)));refine lQ ?_;obtain⟨y0,H⟩:=lZ H;obtain⟨z0,H⟩:=lZ H;refine lR hG ?_;refine lQ (lQ (lR hG ?_));refine lQ (lR hG ?_);refine rB (bTs v1 v2 U) (λ v=>JY U v=some Y) rfl hG H ?_ (λ _ H=>?_) (λ _ H=>?_)
   · intro j2 H
     unfold JY at H;refine g_st ?_;refine lQ (lR hG ?_);refine lU rfl hG H (λ _ H=>?_) (λ _ H=>?_)
     · refine lQ (pT oB hG ?_)
       refine lX ?_;cases H;cases O _ rfl;exact nF h
     refine lW ?_;refine lR hG ?_;exact oL hK [(0,0),(1,1),(2,2),(3,3)] H
   · refine pT oB hG ?_
     obtain⟨v4,hv4,H⟩:=lT H;refine uC [(0,2)] [] [0] (Ah _ _ _ hv4) rfl rfl ?_ (ho:=by first|exact⟨by trivial,sO hv4⟩|exact sO hv4);obtain⟨v5,hv5,H⟩:=lT H;refine uC [(0,1)] [] [0] ((bC2 U.2.1).ok _ hv5) rfl rfl ?_;exact mM hK [(0,0),(1,1),(2,2),(3,3)] (v5.2,tF U.2.2 v4 (i64.wrap (v5.1-((oK (((Arr.get mZ U.2.2.kind.toNat ⟨#[]⟩).toList.getD U.1.toNat 0).toNat:Int) v2).getD bN.zero).plus))) (by exact H)
   refine lR hG ?_;obtain⟨v6,M,H⟩:=lT H;refine mH [(0,1),(1,2)] [] [0,1] (bTl _ _ _ _ M) rfl rfl ?_;exact mM hK [(0,0),(1,1),(2,2),(3,3)] (v6.1,v6.2) (by exact H)
 refine nX ?_;cases H;cases O _ rfl;exact mM hK [(0,0),(1,1),(2,2)] (U.2.1,U.2.2) (by exact h)
instance bTv(H:List Int):OkP (DW H) 11 [.sl (H.map (eI u8))] (λ r=>.tup [ga r.1,.int i64 r.2]):=⟨bTu H⟩
def DX:Option Bool:=(JW ({aM.zero with kind:=11,aL:=(⟨0,1,2⟩:aK),round:=1,done:=true})).bind λ v1=>(DW [5,2,5]).bind λ v2=>(if (decide (v1.2=0)&&((uX v1.1).toList==(⟨#[11,1,0,1,2,1]⟩:ByteArray).toList))&&decide (v2.2=0)then Bf v2.1 ({aM.zero with kind:=5,inc:=5,site:=2})else some false).bind λ v3=>(if ((decide (v1.2=0)&&((uX v1.1).toList==(⟨#[11,1,0,1,2,1]⟩:ByteArray).toList))&&decide (v2.2=0))&&v3 then zP ({aM.zero with})else some false).bind λ v4=>some ((((decide (v1.2=0)&&((uX v1.1).toList==(⟨#[11,1,0,1,2,1]⟩:ByteArray).toList))&&decide (v2.2=0))&&v3)&&(!v4))
instance bTx:OkP DX 7 [] .bool:=ok1 DX.eq_1 Tryz.f7 []
def Tp(j1:bB):Option (Int×bB):=some (0,j1)
def JZ(H:Int×bB):Option ((Int×bB)⊕bB):=(if decide (0<=H.1)then gd (0<=H.1/\H.1<((H.2.c.aD.length:Nat):Int))<|(j8 4 (H.2.c.aD.getD H.1.toNat aG.zero).aL H.2).bind λ v2=>(zM H.1 (⟨(⟨v2.1,v2.2.1,v2.2.2.1⟩:bC),v2.2.2.2⟩:bB)).bind λ v3=>(tI H.1 v3).bind λ v4=>(rO (⟨(⟨v4.1,v4.2.1,v4.2.2.1⟩:bC),v4.2.2.2⟩:bB)).bind λ v5=>(l5 v5).bind λ v6=>some (.inl (v6.1,(⟨(⟨v6.2.1,v6.2.2.1,v6.2.2.2.1⟩:bC),v6.2.2.2.2⟩:bB)))else some (.inr H.2))
def DY(O:Int)(H:bB):Option (Int×bB):=(if decide (O<0)||decide (1000<O)then some (1,H)else(if decide (i64.wrap (1073741824-O)<H.c.now)then some (16,H)else(l5 (⟨(⟨i64.wrap (H.c.now+O),H.c.aF,H.c.aD⟩:bC),H.ev⟩:bB)).bind λ v1=>(lS JZ (v1.1,(⟨(⟨v1.2.1,v1.2.2.1,v1.2.2.2.1⟩:bC),v1.2.2.2.2⟩:bB))).bind (λ z=>Tp z)))
@[reducible,instance]def bTz a0 a1:=mkJ (DY a0 a1,v1) 0 (@Tp.eq_1) λ j1=>⟨[],[(0,⟨false,4,bB.enc bB.zero,[[.int i64 j1.c.now,la j1.c.aF,.own 3 0 j1.c.aD.length,.own 4 0 j1.ev.length]]⟩),(3,sx j1.c.aD),(4,sx j1.ev)],5⟩
@[reducible,instance]def bU0:=mkL x (@JZ.eq_1) λ H=>⟨[(0,.ptr 0 0 0),(5,.int i64 H.1)],[(0,⟨false,4,bB.enc bB.zero,[[.int i64 H.2.c.now,la H.2.c.aF,.own 3 0 H.2.c.aD.length,.own 4 0 H.2.ev.length]]⟩),(3,sx H.2.c.aD),(4,sx H.2.ev)],5⟩
instance bU1(O:Int)(H:bB):OkM (DY O H) 187 [.ptr 0 0 0,.int i64 O] [(0,⟨false,4,bB.enc bB.zero,[[.int i64 H.c.now,la H.c.aF,.own 1 0 H.c.aD.length,.own 2 0 H.ev.length]]⟩),(1,sx H.c.aD),(2,sx H.ev)] 3 (λ r=>.int i64 r.1) (λ r=>[(0,⟨false,4,bB.enc bB.zero,[[.int i64 r.2.c.now,la r.2.c.aF,.own 3 0 r.2.c.aD.length,.own 4 0 r.2.ev.length]]⟩),(3,sx r.2.c.aD),(4,sx r.2.ev)]) 5:=okm (DY.eq_1 O H) (λ r=>[.int i64 r.1]) Tryz.f187 []
def M9(j1:bB):Option (Int×bB):=(rO j1).bind λ v6=>some (0,v6)
def GG(U:Int)(B:bO)(v5:(List aO))(H:Int×bB):Option ((Int×bB)⊕bB):=(if decide (H.1<v5.length)then gd (0<=U/\U<((H.2.c.aD.length:Nat):Int))<|gd (0<=H.1/\H.1<v5.length)<|(DM H.2.c.aF (H.2.c.aD.getD U.toNat aG.zero).aL (v5.getD H.1.toNat aO.zero) B.bD).bind λ Y=>(uG Y.1 Y.2.1 H.2).bind λ O=>some (.inl (i64.wrap (H.1+1),(⟨(⟨O.1,O.2.1,O.2.2.1⟩:bC),O.2.2.2⟩:bB)))else some (.inr H.2))
def DZ(H:Int)(U:bO)(O:bB):Option (Int×bB):=gd (0<=H/\H<((O.c.aD.length:Nat):Int))<|(if(O.c.aD.getD H.toNat aG.zero).bI=true then some (14,O)else(uL U).bind λ v1=>(if !v1 then some (1,O)else(m3 O.c.aF).bind λ v2=>(q5 v2 U.bU).bind λ v3=>(if !decide (v3=0)then some (v3,O)else gd (0<=H/\H<((O.c.aD.length:Nat):Int))<|gd (0<=H/\H<((O.c.aD.length:Nat):Int))<|gd (0<=H/\H<((O.c.aD.length:Nat):Int))<|(tI H (⟨(⟨O.c.now,O.c.aF,((O.c.aD.set H.toNat ({(O.c.aD.getD H.toNat aG.zero)with bI:=true})).set H.toNat ({((O.c.aD.set H.toNat ({(O.c.aD.getD H.toNat aG.zero)with bI:=true})).getD H.toNat aG.zero)with bJ:=U})).set H.toNat ({(((O.c.aD.set H.toNat ({(O.c.aD.getD H.toNat aG.zero)with bI:=true})).set H.toNat ({((O.c.aD.set H.toNat ({(O.c.aD.getD H.toNat aG.zero)with bI:=true})).getD H.toNat aG.zero)with bJ:=U})).getD H.toNat aG.zero)with since:=O.c.now})⟩:bC),O.ev⟩:bB)).bind λ v4=>(uK U.bU).bind λ v5=>(lS (GG H U v5) (0,(⟨(⟨v4.1,v4.2.1,v4.2.2.1⟩:bC),v4.2.2.2⟩:bB))).bind (λ z=>M9 z))))
@[reducible,instance]def bU3 a0 a1 a2:=mkJ (((((DZ a0 a1 a2,v1),v2),v3),v4),v5) 0 (@M9.eq_1) λ j1=>⟨[(0,.ptr 0 0 0)],[(0,⟨false,4,bB.enc bB.zero,[[.int i64 j1.c.now,la j1.c.aF,.own 3 0 j1.c.aD.length,.own 4 0 j1.ev.length]]⟩),(3,sx j1.c.aD),(4,sx j1.ev)],5⟩
@[reducible,instance]def bU4 (O:Int) (U:bO) (v5:(List aO)):=mkL x (@GG.eq_1 O U v5) λ H=>⟨[(0,.ptr 0 0 0),(1,.int i64 O),(5,.ptr 3 0 0),(8,la v5),(9,.int i64 H.1)],[(0,⟨false,4,bB.enc bB.zero,[[.int i64 H.2.c.now,la H.2.c.aF,.own 4 0 H.2.c.aD.length,.own 5 0 H.2.ev.length]]⟩),(3,bx U),(4,sx H.2.c.aD),(5,sx H.2.ev)],6⟩
instance bU5(O:Int)(U:bO)(H:bB):OkM (DZ O U H) 188 [.ptr 0 0 0,.int i64 O,ga U] [(0,⟨false,4,bB.enc bB.zero,[[.int i64 H.c.now,la H.c.aF,.own 1 0 H.c.aD.length,.own 2 0 H.ev.length]]⟩),(1,sx H.c.aD),(2,sx H.ev)] 3 (λ r=>.int i64 r.1) (λ r=>[(0,⟨false,4,bB.enc bB.zero,[[.int i64 r.2.c.now,la r.2.c.aF,.own 3 0 r.2.c.aD.length,.own 4 0 r.2.ev.length]]⟩),(3,sx r.2.c.aD),(4,sx r.2.ev)]) 5:=okm (DZ.eq_1 O U H) (λ r=>[.int i64 r.1]) Tryz.f188 []
def GH(H:Int)(U:ByteArray)(O:bB):Option (Int×bB):=gd (0<=H/\H<((O.c.aD.length:Nat):Int))<|(if(O.c.aD.getD H.toNat aG.zero).bI=true then some (14,O)else gd (0<=H/\H<((O.c.aD.length:Nat):Int))<|(sP ((O.c.aD.getD H.toNat aG.zero).bF).aP U).bind λ v1=>(if decide (v1={aC.zero with})then some (10,O)else gd (0<=H/\H<((O.c.aD.length:Nat):Int))<|(zK O.c.aF (O.c.aD.getD H.toNat aG.zero).aL ({aO.zero with name:=U})).bind λ v2=>(uG v2.1 v2.2.1 O).bind λ v3=>gd (0<=H/\H<((v3.2.2.1.length:Nat):Int))<|(p8 (v3.2.2.1.getD H.toNat aG.zero).bF U).bind λ v4=>gd (0<=H/\H<((v3.2.2.1.length:Nat):Int))<|(tI H (⟨(⟨v3.1,v3.2.1,v3.2.2.1.set H.toNat ({(v3.2.2.1.getD H.toNat aG.zero)with bF:=v4.1})⟩:bC),v3.2.2.2⟩:bB)).bind λ v5=>(rO (⟨(⟨v5.1,v5.2.1,v5.2.2.1⟩:bC),v5.2.2.2⟩:bB)).bind λ v6=>some (0,v6)))
instance bU6(O:Int)(U:ByteArray)(H:bB):OkM (GH O U H) 192 [.ptr 0 0 0,.int i64 O,.str U] [(0,⟨false,4,bB.enc bB.zero,[[.int i64 H.c.now,la H.c.aF,.own 1 0 H.c.aD.length,.own 2 0 H.ev.length]]⟩),(1,sx H.c.aD),(2,sx H.ev)] 3 (λ r=>.int i64 r.1) (λ r=>[(0,⟨false,4,bB.enc bB.zero,[[.int i64 r.2.c.now,la r.2.c.aF,.own 3 0 r.2.c.aD.length,.own 4 0 r.2.ev.length]]⟩),(3,sx r.2.c.aD),(4,sx r.2.ev)]) 5:=okm (GH.eq_1 O U H) (λ r=>[.int i64 r.1]) Tryz.f192 []
def J0(H:Int)(O:bB):Option (Int×bB):=(tI H O).bind λ v2=>(rO (⟨(⟨v2.1,v2.2.1,v2.2.2.1⟩:bC),v2.2.2.2⟩:bB)).bind λ v3=>some (0,v3)
@[go_sem] def bU7(O:Int)(H:bB):St:=⟨[(0,.ptr 0 0 0),(1,.int i64 O)],[(0,⟨false,4,bB.enc bB.zero,[[.int i64 H.c.now,la H.c.aF,.own 3 0 H.c.aD.length,.own 4 0 H.ev.length]]⟩),(3,sx H.c.aD),(4,sx H.ev)],5⟩
def GI(U:Int)(v1:aZ×(List aO)×Int)(j1:bB)(H:Int×bB):Option ((Int×bB)⊕bB):=(if decide (H.1<v1.2.1.length)then gd (0<=H.1/\H.1<v1.2.1.length)<|(rY H.2.c.aF (v1.2.1.getD H.1.toNat aO.zero).name).bind λ v4=>gd (0<=v4/\v4<H.2.c.aF.length)<|(rI (H.2.c.aF.getD v4.toNat aA.zero) (j1.c.aD.getD U.toNat aG.zero).aL).bind λ v5=>gd (0<=H.1/\H.1<v1.2.1.length)<|(if !decide (v5=(v1.2.1.getD H.1.toNat aO.zero).aJ)then gd (0<=H.1/\H.1<v1.2.1.length)<|(zK H.2.c.aF (j1.c.aD.getD U.toNat aG.zero).aL (v1.2.1.getD H.1.toNat aO.zero)).bind λ v6=>(uG v6.1 v6.2.1 H.2).bind λ O=>some (.inl (i64.wrap (H.1+1),(⟨(⟨O.1,O.2.1,O.2.2.1⟩:bC),O.2.2.2⟩:bB)))else some (.inl (i64.wrap (H.1+1),H.2)))else some (.inr H.2))
@[go_sem] def bU8(O:Int)(v1:aZ×(List aO)×Int)(j1:bB)(H:Int×bB):St:=⟨[(0,.ptr 0 0 0),(1,.int i64 O),(8,la v1.2.1),(10,.ptr 3 0 0),(11,.int i64 H.1)],[(0,⟨false,4,bB.enc bB.zero,[[.int i64 H.2.c.now,la H.2.c.aF,.own 4 0 H.2.c.aD.length,.own 5 0 H.2.ev.length]]⟩),(3,bx (j1.c.aD.getD O.toNat aG.zero).aL),(4,sx H.2.c.aD),(5,sx H.2.ev)],6⟩
def D0(H:Int)(v1:aZ×(List aO)×Int)(j1:bB):Option (Int×bB):=gd (0<=H/\H<((j1.c.aD.length:Nat):Int))<|gd (0<=H/\H<((j1.c.aD.length:Nat):Int))<|(lS (GI H v1 j1) (0,(⟨(⟨j1.c.now,j1.c.aF,j1.c.aD.set H.toNat ({(j1.c.aD.getD H.toNat aG.zero)with bF:=v1.1})⟩:bC),j1.ev⟩:bB))).bind (λ z=>J0 H z)
@[go_sem] def bU9(H:Int)(v1:aZ×(List aO)×Int)(j1:bB):St:=⟨[(0,.ptr 0 0 0),(1,.int i64 H),(7,.ptr 3 0 0),(8,la v1.2.1)],[(0,⟨false,4,bB.enc bB.zero,[[.int i64 j1.c.now,la j1.c.aF,.own 4 0 j1.c.aD.length,.own 5 0 j1.ev.length]]⟩),(3,bx v1.1),(4,sx j1.c.aD),(5,sx j1.ev)],6⟩
def D1(H U:Int)(O:bB):Option (Int×bB):=gd (0<=H/\H<((O.c.aD.length:Nat):Int))<|(zD (O.c.aD.getD H.toNat aG.zero).bF U).bind λ v1=>(if !decide (v1.2.2=0)then some (v1.2.2,O)else gd (0<=H/\H<((O.c.aD.length:Nat):Int))<|(if(O.c.aD.getD H.toNat aG.zero).bI=true then(zM H O).bind λ Y=>D0 H v1 Y else D0 H v1 O))
def bUa(O a1:Int)(U:bB)(r:Int×bB)(h:D1 O a1 U=some r):MFn C 194 [.ptr 0 0 0,.int i64 O,.int i64 a1] [(0,⟨false,4,bB.enc bB.zero,[[.int i64 U.c.now,la U.c.aF,.own 1 0 U.c.aD.length,.own 2 0 U.ev.length]]⟩),(1,sx U.c.aD),(2,sx U.ev)] 3 (.int i64 r.1) [(0,⟨false,4,bB.enc bB.zero,[[.int i64 r.2.c.now,la r.2.c.aF,.own 3 0 r.2.c.aD.length,.own 4 0 r.2.ev.length]]⟩),(3,sx r.2.c.aD),(4,sx r.2.ev)] 5:=by
 refine oR Tryz.f194 [] [.int i64 r.1] λ E hG hN hK=>?_;unfold D1 at h;refine lQ (lR hG ?_);refine lQ ?_;obtain⟨u0,h⟩:=lZ h;refine lR hG ?_;obtain⟨v1,F,h⟩:=lT h;refine mW (λ hg=>SO _ _ _ F) ?_;refine lQ (lQ (lR hG ?_));refine lU rfl hG h (λ _ h=>?_) (λ _ h=>?_)
 · refine lQ (lR hG ?_)
   refine lX ?_;exact mQ [(0,0),(3,1),(4,2)] h
 refine lW ?_;refine lQ (lQ ?_);obtain⟨v0,h⟩:=lZ h;refine lR hG ?_;refine rB (bU9 O v1) (λ v=>D0 O v1 v=some r) rfl hG h ?_ (λ _ h=>?_) (λ _ h=>?_)
 · intro j1 h
   unfold D0 at h;refine g_st ?_;refine lQ ?_;obtain⟨p0,h⟩:=lZ h;refine lR hG ?_;refine lQ ?_;obtain⟨q0,h⟩:=lZ h;refine pT oB hG ?_;refine lQ (lQ (lR hG ?_));refine pL (bU7 O) (λ v=>J0 O v=some r) ?_ ?_
   · intro j2 h
     unfold J0 at h;refine g_st ?_;refine lQ (lR hG ?_);obtain⟨v2,hv2,h⟩:=lT h;refine mH [(0,0),(1,3),(2,4)] [] [0,1,2] ((aZz O j2).ok _ hv2) rfl rfl ?_;refine lQ (lR hG ?_);obtain⟨v3,hv3,h⟩:=lT h;refine mH [(0,0),(1,3),(2,4)] [(3,5),(4,6)] [0,1,2,3,4] ((bSm (⟨(⟨v2.1,v2.2.1,v2.2.2.1⟩:bC),v2.2.2.2⟩:bB)).ok _ hv3) rfl rfl ?_;refine lQ (lR hG ?_);refine lX ?_;exact mQ [(0,0),(3,5),(4,6)] h
   refine pX (bU8 O v1 j1) hK [(0,0),(3,6),(4,4),(5,5)] h (λ y0 h B z0 H Y=>?_);unfold GI at H;refine g_st ?_;refine lQ (lQ (lR hG ?_));refine lU rfl hG H (λ _ H=>?_) (λ _ H=>?_)
   · refine lW ?_
     refine lQ (nV (lQ ?_));obtain⟨r0,H⟩:=lZ H;refine yC oB hG ?_;obtain⟨v4,hv4,H⟩:=lT H;obtain⟨s0,H⟩:=lZ H;refine vC (λ hg=>(Rd B.2.c.aF (v1.2.1.getD B.1.toNat aO.zero).name).ok _ hv4) ?_;obtain⟨v5,hv5,H⟩:=lT H;obtain⟨t0,H⟩:=lZ H;refine vC (λ hg=>(Mj (B.2.c.aF.getD v4.toNat aA.zero) (j1.c.aD.getD O.toNat aG.zero).aL).ok _ hv5) ?_;refine lU rfl hG H (λ _ H=>?_) (λ _ H=>?_)
     · refine lQ ?_
       obtain⟨c0,H⟩:=lZ H;refine yC oB hG ?_;obtain⟨v6,M,H⟩:=lT H;refine vC (λ hg=>Tb _ _ _ _ M) ?_;refine lR hG ?_;obtain⟨v7,h0,H⟩:=lT H;refine mH [(0,0),(1,4),(2,5)] [(3,6)] [0,1,2,3] ((ZU v6.1 v6.2.1 B.2).ok _ h0) rfl rfl ?_;refine lR hG ?_;exact oL hK [(0,0),(3,3),(4,4),(5,6)] H
     refine lW ?_;refine lR hG ?_;exact oL hK [(0,0),(3,3),(4,4),(5,5)] H
   refine nX ?_;cases H;cases Y _ rfl;exact mM hK [(0,0),(3,4),(4,5)] B.2 (by exact h)
 · refine lR hG ?_
   obtain⟨v8,x0,h⟩:=lT h;refine mH [(0,0),(1,1),(2,2)] [(3,4),(4,5)] [0,1,2,3,4] ((bSf O U).ok _ x0) rfl rfl ?_;exact mM hK [(0,0),(3,3),(4,4),(5,5)] v8 (by exact h)
 refine lW ?_;exact mM hK [(0,0),(3,3),(4,1),(5,2)] U (by exact h)
instance bUb(O U:Int)(H:bB):OkM (D1 O U H) 194 [.ptr 0 0 0,.int i64 O,.int i64 U] [(0,⟨false,4,bB.enc bB.zero,[[.int i64 H.c.now,la H.c.aF,.own 1 0 H.c.aD.length,.own 2 0 H.ev.length]]⟩),(1,sx H.c.aD),(2,sx H.ev)] 3 (λ r=>.int i64 r.1) (λ r=>[(0,⟨false,4,bB.enc bB.zero,[[.int i64 r.2.c.now,la r.2.c.aF,.own 3 0 r.2.c.aD.length,.own 4 0 r.2.ev.length]]⟩),(3,sx r.2.c.aD),(4,sx r.2.ev)]) 5:=⟨bUa O U H⟩
def D2(H:Int)(O:bB):Option bB:=gd (0<=H/\H<((O.c.aD.length:Nat):Int))<|(Bo O.c.aF (O.c.aD.getD H.toNat aG.zero).aL).bind λ v1=>(uG v1.1 v1.2 O).bind λ v2=>gd (0<=0/\0<=H/\H<=((v2.2.2.1.length:Nat):Int)/\H=H)<|gd (0<=i64.wrap (H+1)/\i64.wrap (H+1)<=((v2.2.2.1.length:Nat):Int)/\((v2.2.2.1.length:Nat):Int)<=((v2.2.2.1.length:Nat):Int))<|gd (H.toNat+((v2.2.2.1.drop (i64.wrap (H+1)).toNat).take (v2.2.2.1.length-(i64.wrap (H+1)).toNat)).length<=4294967296/\H.toNat<=v2.2.2.1.length)<|(j8 5 (O.c.aD.getD H.toNat aG.zero).aL (⟨(⟨v2.1,v2.2.1,v2.2.2.1.take H.toNat++(v2.2.2.1.drop (i64.wrap (H+1)).toNat).take (v2.2.2.1.length-(i64.wrap (H+1)).toNat)⟩:bC),v2.2.2.2⟩:bB)).bind λ v3=>(rO (⟨(⟨v3.1,v3.2.1,v3.2.2.1⟩:bC),v3.2.2.2⟩:bB)).bind λ v4=>some v4
instance bUc(O:Int)(H:bB):OkM (D2 O H) 195 [.ptr 0 0 0,.int i64 O] [(0,⟨false,4,bB.enc bB.zero,[[.int i64 H.c.now,la H.c.aF,.own 1 0 H.c.aD.length,.own 2 0 H.ev.length]]⟩),(1,sx H.c.aD),(2,sx H.ev)] 3 (λ r=>.tup []) (λ r=>[(0,⟨false,4,bB.enc bB.zero,[[.int i64 r.c.now,la r.c.aF,.own 3 0 r.c.aD.length,.own 4 0 r.ev.length]]⟩),(3,sx r.c.aD),(4,sx r.ev)]) 5:=okm (D2.eq_1 O H) (λ r=>[]) Tryz.f195 [(42,1)]
def D3 (O:bP) (H:bB):Option (Int×bB):=(if decide (O.kind<1)||decide (9<O.kind)then some (1,H)else(if decide (O.kind=1)then(n8 O.aL O.n H).bind λ v1=>some (v1.1,v1.2)else(if decide (O.kind=9)then(DY O.n H).bind λ v2=>some (v2.1,v2.2)else(wO H.c.aD O.aL).bind λ v3=>(if decide (v3<0)then some (10,H)else gd (0<=v3/\v3<((H.c.aD.length:Nat):Int))<|(if decide (O.kind=2)then(DZ v3 O.bJ H).bind λ v4=>some (v4.1,v4.2)else(if decide (O.kind=3)then(if !(H.c.aD.getD v3.toNat aG.zero).bI then some (14,H)else(zM v3 H).bind λ v5=>(tI v3 v5).bind λ v6=>(rO (⟨(⟨v6.1,v6.2.1,v6.2.2.1⟩:bC),v6.2.2.2⟩:bB)).bind λ v7=>some (0,v7))else(if decide (O.kind=4)then(GH v3 O.name H).bind λ v8=>some (v8.1,v8.2)else(if decide (O.kind=5)then(if(H.c.aD.getD v3.toNat aG.zero).bI=true then some (14,H)else gd (0<=v3/\v3<((H.c.aD.length:Nat):Int))<|(Dh (H.c.aD.getD v3.toNat aG.zero).bF O.n).bind λ B=>(if !decide (B.2=0)then some (B.2,H)else gd (0<=v3/\v3<((H.c.aD.length:Nat):Int))<|(tI v3 (⟨(⟨H.c.now,H.c.aF,H.c.aD.set v3.toNat ({(H.c.aD.getD v3.toNat aG.zero)with bF:=B.1})⟩:bC),H.ev⟩:bB)).bind λ U=>some (0,(⟨(⟨U.1,U.2.1,U.2.2.1⟩:bC),U.2.2.2⟩:bB))))else(if decide (O.kind=6)then(D1 v3 O.n H).bind λ Y=>some (Y.1,Y.2)else(if decide (O.kind=8)then(if(H.c.aD.getD v3.toNat aG.zero).bI=true then some (14,H)else(D2 v3 H).bind λ F=>some (0,F))else(if decide (O.kind=7)then(D2 v3 H).bind λ M=>some (0,M)else some (0,H))))))))))))
instance bUd(O:bP)(H:bB):OkM (D3 O H) 133 [.ptr 0 0 0,ga O] [(0,⟨false,4,bB.enc bB.zero,[[.int i64 H.c.now,la H.c.aF,.own 1 0 H.c.aD.length,.own 2 0 H.ev.length]]⟩),(1,sx H.c.aD),(2,sx H.ev)] 3 (λ r=>.int i64 r.1) (λ r=>[(0,⟨false,4,bB.enc bB.zero,[[.int i64 r.2.c.now,la r.2.c.aF,.own 3 0 r.2.c.aD.length,.own 4 0 r.2.ev.length]]⟩),(3,sx r.2.c.aD),(4,sx r.2.ev)]) 5:=okm (D3.eq_1 O H) (λ r=>[.int i64 r.1]) Tryz.f133 []
def D4(H:bC)(O:bP):Option (bC×(List bL)×Int):=(r8 H).bind λ v1=>(if !v1 then some ({bC.zero with},[],2)else(Fh H).bind λ v2=>(D3 O (⟨(⟨v2.now,v2.aF,v2.aD⟩:bC),[]⟩:bB)).bind λ v3=>(if !decide (v3.1=0)then some ({bC.zero with},[],v3.1)else some (v3.2.c,v3.2.ev,0)))
instance bUf(H:bC)(O:bP):OkP (D4 H O) 89 [ga H,ga O] (λ r=>.tup [ga r.1,la r.2.1,.int i64 r.2.2]):=⟨λ r h=>by
 refine oC Tryz.f89 [(15,14)] λ E hG Y hK=>?_;have hm:Mk (D4 H O):=trivial;unfold D4 at h;refine lQ (lR hG ?_);refine lQ (lQ (lR hG ?_));obtain⟨v1,U,h⟩:=lT h;have hm:=mkP hm v1;refine mW (λ hg=>(S8 H).ok _ U) ?_;refine lU rfl hG h (λ _ h=>?_) (λ _ h=>?_)
 .exact gogo
 refine lW ?_;refine lQ (lR hG ?_);obtain⟨v2,hv2,h⟩:=lT h;have hm:=mkP hm v2;refine mH [] [(0,3),(1,4)] [0,1] (ZK _ _ hv2) rfl rfl ?_;refine g_gh (.fz [3]) ?_;refine g_gh (.ownb 5 3 7 (bL.enc bL.zero)) ?_;exact gogo⟩
def Tq(j1:bC):Option bC:=some j1
def J1(O:List bP)(H:Int×bC):Option ((Int×bC)⊕bC):=(if decide (H.1<O.length)then gd (0<=H.1/\H.1<O.length)<|(D4 H.2 (O.getD H.1.toNat bP.zero)).bind λ v1=>(if decide (v1.2.2=0)then some (.inl (i64.wrap (H.1+1),v1.1))else some (.inl (i64.wrap (H.1+1),H.2)))else some (.inr H.2))
def D5(H:bC)(O:List bP):Option bC:=(lS (J1 O) (0,H)).bind (λ z=>Tq z)
@[reducible,instance]def bUj a0 a1:=mkJ (D5 a0 a1) 0 (@Tq.eq_1) λ j1=>⟨[(2,.ptr 0 0 0),(4,.ptr 1 0 0)],[(0,bx j1),(1,bx bC.zero)],2⟩
@[reducible,instance]def bUk (H:List bP):=mkL x (@J1.eq_1 H) λ O=>⟨[(1,la H),(2,.ptr 0 0 0),(4,.ptr 1 0 0),(5,.int i64 O.1)],[(0,bx O.2),(1,bx bC.zero)],2⟩
instance bUl(H:bC)(O:List bP):OkP (D5 H O) 45 [ga H,la O] ga:=ok1 (D5.eq_1 H O) Tryz.f45 []
def D6(H:List Int):Option bC:=(zF H).bind λ v1=>(Ga v1.1).bind λ v2=>(D5 v2.1 v1.2).bind λ v3=>some v3
instance bUn(H:List Int):OkP (D6 H) 20 [.sl (H.map (eI i64))] ga:=ok1 (D6.eq_1 H) Tryz.f20 []
def Na(j1:aI×(List aK)):Option ((List aK)×(List aK)):=(zH j1.1).bind λ v3=>some (j1.2,v3)
def J2(H:(List aK)×aI×(List aK)):Option (((List aK)×aI×(List aK))⊕(aI×(List aK))):=(if decide (0<(H.1.length:Int))then gd (0<=0/\0<(H.1.length:Int))<|gd (H.2.2.length+1<=4294967296)<|gd (0<=0/\0<(H.1.length:Int))<|(r9 H.2.1 (H.1.getD 0 aK.zero)).bind λ v4=>(Bs v4).bind λ v5=>some (.inl (v5,v4,H.2.2++[H.1.getD 0 aK.zero]))else some (.inr (H.2.1,H.2.2)))
def D7(H:aI):Option ((List aK)×(List aK)):=(uM H).bind λ v1=>(if !v1 then some ([],[])else(Bs H).bind λ v2=>(lS J2 (v2,H,[])).bind (λ z=>Na z))
@[reducible,instance]def bUr a0:=mkJ ((D7 a0,v1),v2) 0 (@Na.eq_1) λ j1=>⟨[(1,.ptr 0 0 0),(4,.own 1 0 j1.2.length)],[(0,bx j1.1),(1,sx j1.2)],2⟩
@[reducible,instance]def bUs:=mkL x (@J2.eq_1) λ H=>⟨[(1,.ptr 0 0 0),(4,.own 1 0 H.2.2.length),(5,la H.1)],[(0,bx H.2.1),(1,sx H.2.2)],2⟩
instance bUt(H:aI):OkP (D7 H) 47 [ga H] (λ r=>.tup [la r.1,la r.2]):=ok1 (D7.eq_1 H) Tryz.f47 [(4,1)]
def J3(H:Int)(j1:(List aQ)):Option (List aQ):=(if decide (H<((j1.length:Nat):Int))then gd (0<=0/\0<=H/\H<=((j1.length:Nat):Int))<|some ((j1.drop 0).take H.toNat)else some j1)
@[go_sem] def bUv(H:Int)(j1:(List aQ)):St:=⟨[(1,.int i64 H),(5,.own 0 0 j1.length)],[(0,sx j1)],1⟩
def J4(H:Int×(List aQ))(O:(List aQ)):Option ((Int×(List aQ))⊕(List aQ)):=some (.inl (i64.wrap (H.1+1),O))
@[go_sem] def bUx(O:bC)(U:Int)(v2:(List aK)×(List aK))(Y:Int×(List aQ))(H:(List aQ)):St:=⟨[(1,.int i64 U),(2,.ptr 0 0 0),(5,.own 1 0 H.length),(7,la v2.2),(8,.int i64 Y.1)],[(0,bx O),(1,sx H)],2⟩
def D8(U:bC)(v2:(List aK)×(List aK))(O H:Int×(List aQ)):Option ((Int×(List aQ))⊕(List aQ)):=(if decide (H.1<v2.2.length)then gd (0<=O.1/\O.1<U.aD.length)<|gd (0<=H.1/\H.1<v2.2.length)<|(if decide ((U.aD.getD O.1.toNat aG.zero).aL=v2.2.getD H.1.toNat aK.zero)then gd (0<=O.1/\O.1<U.aD.length)<|(Bq (U.aD.getD O.1.toNat aG.zero)).bind λ v3=>gd (H.2.length+v3.length<=4294967296)<|some (.inl (i64.wrap (H.1+1),H.2++v3))else some (.inl (i64.wrap (H.1+1),H.2)))else some (.inr H.2))
@[go_sem] def bUy(O:bC)(U:Int)(v2:(List aK)×(List aK))(Y H:Int×(List aQ)):St:=⟨[(1,.int i64 U),(2,.ptr 0 0 0),(5,.own 1 0 H.2.length),(7,la v2.2),(8,.int i64 Y.1),(9,.int i64 H.1)],[(0,bx O),(1,sx H.2)],2⟩
def GJ(O:bC)(v2:(List aK)×(List aK))(H:Int×(List aQ)):Option ((Int×(List aQ))⊕(List aQ)):=(if decide (H.1<O.aD.length)then(lS (D8 O v2 H) (0,H.2)).bind (λ z=>J4 H z)else some (.inr H.2))
@[go_sem] def bV0(O:bC)(U:Int)(v2:(List aK)×(List aK))(H:Int×(List aQ)):St:=⟨[(1,.int i64 U),(2,.ptr 0 0 0),(5,.own 1 0 H.2.length),(7,la v2.2),(8,.int i64 H.1)],[(0,bx O),(1,sx H.2)],2⟩
def GK(H:bC)(O:Int):Option (List aQ):=(zN H).bind λ v1=>(D7 v1).bind λ v2=>(lS (GJ H v2) (0,[])).bind (λ z=>J3 O z)
def bV2(U:bC)(Y:Int)(r:(List aQ))(h:GK U Y=some r):PFn C 22 [ga U,.int i64 Y] (la r):=by
 refine oC Tryz.f22 [(5,1)] λ E hG hN hK=>?_;unfold GK at h;refine lQ (lR hG ?_);refine lQ (lR hG ?_);refine lQ (lR hG ?_);obtain⟨v1,x0,h⟩:=lT h;refine mW (λ hg=>(Tm U).ok _ x0) ?_;obtain⟨v2,hv2,h⟩:=lT h;refine mW (λ hg=>(bUt v1).ok _ hv2) ?_;refine lQ (lQ (lR hG ?_));refine pL (bUv Y) (λ v=>J3 Y v=some r) ?_ ?_
 · intro j1 h
   unfold J3 at h;refine g_st ?_;refine lQ (lQ (lR hG ?_));refine lU rfl hG h (λ _ h=>?_) (λ _ h=>?_)
   · obtain⟨v0,h⟩:=lZ h
     refine lR hG ?_;refine lQ (lR hG ?_);refine lX ?_;exact nF h
   refine lW ?_;refine lQ (lR hG ?_);refine lX ?_;exact nF h
 refine pX (bV0 U Y v2) hK [(0,0),(1,1)] h (λ y0 h M h0 O B=>?_);unfold GJ at O;refine g_st ?_;refine lQ (lQ (lR hG ?_));refine lU rfl hG O (λ _ O=>?_) (λ _ O=>?_)
 · refine lW ?_
   refine lQ (nV (lQ (lR hG ?_)));refine pL (bUx U Y v2 M) (λ v=>J4 M v=some h0) ?_ ?_
   · intro j2 O
     unfold J4 at O;refine g_st ?_;refine lR hG ?_;exact oL hK [(0,0),(1,1)] O
   refine pX (bUy U Y v2 M) hK [(0,0),(1,1)] O (λ z0 O g2 u0 H F=>?_);unfold D8 at H;refine g_st ?_;refine lQ (lQ (lR hG ?_));refine lU rfl hG H (λ _ H=>?_) (λ _ H=>?_)
   · refine lW ?_
     refine lQ (nV (lQ ?_));obtain⟨p0,H⟩:=lZ H;obtain⟨q0,H⟩:=lZ H;refine yC oB hG ?_;refine lU rfl hG H (λ _ H=>?_) (λ _ H=>?_)
     · obtain⟨r0,H⟩:=lZ H
       refine lR hG ?_;obtain⟨v3,hv3,H⟩:=lT H;obtain⟨s0,H⟩:=lZ H;refine mW (λ hg=>(bRk (U.aD.getD M.1.toNat aG.zero)).ok _ hv3) ?_;refine lR hG ?_;exact oL hK [(0,0),(1,2)] H
     refine lW ?_;refine lR hG ?_;exact oL hK [(0,0),(1,1)] H
   refine nX ?_;obtain rfl:=dW H;have hx:=F _ rfl;subst hx
   try dsimp only at O
   exact mM hK [(0,0),(1,1)] g2.2 (by exact O)
 refine nX ?_;cases O;cases B _ rfl;exact mM hK [(0,1)] M.2 (by exact h)
def GL(H:List Int):Option aI:=(D6 H).bind λ v1=>(zN v1).bind λ v2=>some v2
instance bV4(H:List Int):OkP (GL H) 23 [.sl (H.map (eI i64))] ga:=ok1 (GL.eq_1 H) Tryz.f23 []
def D9(v7:Int×bK)(O:aM):Option (aM×bK):=(if decide (O.kind=3)then nI 2 v7.2 else some (0,v7.2)).bind λ H=>some ({O with done:=(decide (O.kind=3)&&decide (H.1=0))},H.2)
@[go_sem] def bV5(v7:Int×bK)(H:aM):St:=⟨[(0,.ptr 0 0 0),(4,.ptr 1 0 0),(9,.ptr 2 0 0)],[(0,bx v7.2),(1,bx aM.zero),(2,bx H)],3⟩
def Ea(a0:List Int)(v4:aK)(v5 v6 v7:Int×bK)(j3:Bool):Option (aM×bK):=(if j3 then some ({{aM.zero with kind:=(i64.wrap (1+v5.1))}with round:=v7.1},v7.2)else(if decide (i64.wrap (1+v5.1)=7)then(D6 a0).bind λ O=>(zN O).bind λ B=>(GK O 40).bind λ F=>some ({{{{aM.zero with kind:=(i64.wrap (1+v5.1))}with round:=v7.1}with state:={aI.zero with aY:=B.aY}}with options:=F},v7.2)else(if decide (i64.wrap (1+v5.1)=9)then(GL a0).bind λ M=>some ({{{aM.zero with kind:=(i64.wrap (1+v5.1))}with round:=v7.1}with state:={aI.zero with aF:=M.aF}},v7.2)else(if decide (i64.wrap (1+v5.1)=10)then(nI 5 v7.2).bind λ H=>(if decide (H.1=0)then some ({{{{{{{aM.zero with kind:=(i64.wrap (1+v5.1))}with round:=v7.1}with epoch:=v6.1}with aL:=v4}with gen:=v6.1}with label:=H.1}with label:=(-1)},H.2)else some ({{{{{{aM.zero with kind:=(i64.wrap (1+v5.1))}with round:=v7.1}with epoch:=v6.1}with aL:=v4}with gen:=v6.1}with label:=H.1},H.2))else(if decide (i64.wrap (1+v5.1)=11)then(nI 2 v7.2).bind λ U=>some ({{{{aM.zero with kind:=(i64.wrap (1+v5.1))}with round:=v7.1}with aL:=v4}with done:=(decide (U.1=0))},U.2)else(if decide (i64.wrap (1+v5.1)=12)then(nI 4 v7.2).bind λ Y=>some ({{{aM.zero with kind:=(i64.wrap (1+v5.1))}with epoch:=v7.1}with site:=Y.1},Y.2)else some ({{aM.zero with kind:=(i64.wrap (1+v5.1))}with epoch:=v7.1},v7.2)))))))
@[go_sem] def bV6(H:List Int)(v4:aK)(v5 v6 v7:Int×bK)(O:Bool):St:=⟨[(0,.ptr 0 0 0),(1,.sl (H.map (eI i64))),(4,.ptr 1 0 0),(8,.ptr 2 0 0),(9,.ptr 3 0 0),(10,.int i64 v6.1),(11,.int i64 v7.1),(37,.int i64 (i64.wrap (1+v5.1))),(104,.bool O)],[(0,bx v7.2),(1,bx aM.zero),(2,bx v4),(3,bx ({aM.zero with kind:=(i64.wrap (1+v5.1))}))],4⟩
def Eb(Y:List Int)(v1:(List aH)×(List bP))(v2:Int×bK)(v4:aK)(v5 v6 v7:Int×bK)(j1:Bool):Option (aM×bK):=(if j1 then(if decide (2<v7.1)then(yW (v1.1.getD v2.1.toNat aH.zero) v7.1).bind λ O=>D9 v7 ({{{{{aM.zero with kind:=(i64.wrap (1+v5.1))}with aL:=v4}with gen:=v6.1}with bA:={aO.zero with name:=(v1.1.getD v2.1.toNat aH.zero).name}}with bA:={({aO.zero with name:=(v1.1.getD v2.1.toNat aH.zero).name})with aJ:=O}})else D9 v7 ({{{{aM.zero with kind:=(i64.wrap (1+v5.1))}with aL:=v4}with gen:=v6.1}with bA:={aO.zero with name:=(v1.1.getD v2.1.toNat aH.zero).name}}))else(if decide (i64.wrap (1+v5.1)=4)then(yW (v1.1.getD v2.1.toNat aH.zero) v7.1).bind λ U=>some ({{{{aM.zero with kind:=(i64.wrap (1+v5.1))}with aL:=v4}with gen:=v6.1}with bA:=(⟨(v1.1.getD v2.1.toNat aH.zero).name,U⟩:aO)},v7.2)else(if decide (i64.wrap (1+v5.1)=5)then(nI 4 v7.2).bind λ H=>some ({{{aM.zero with kind:=(i64.wrap (1+v5.1))}with site:=H.1}with inc:=(i64.wrap (1+v7.1))},H.2)else(if decide (i64.wrap (1+v5.1)=6)then Ea Y v4 v5 v6 v7 (decide (i64.wrap (1+v5.1)=6))else Ea Y v4 v5 v6 v7 (decide (i64.wrap (1+v5.1)=8))))))
@[go_sem] def bV7(H:List Int)(v1:(List aH)×(List bP))(v2:Int×bK)(v4:aK)(v5 v6 v7:Int×bK)(j1:Bool):St:=⟨[(0,.ptr 0 0 0),(1,.sl (H.map (eI i64))),(4,.ptr 1 0 0),(7,.ptr 2 0 0),(8,.ptr 3 0 0),(9,.ptr 4 0 0),(10,.int i64 v6.1),(11,.int i64 v7.1),(37,.int i64 (i64.wrap (1+v5.1))),(56,.bool j1)],[(0,bx v7.2),(1,bx aM.zero),(2,bx (v1.1.getD v2.1.toNat aH.zero)),(3,bx v4),(4,bx ({aM.zero with kind:=(i64.wrap (1+v5.1))}))],5⟩
def Ec(O:List Int)(Y:bK):Option (aM×bK):=(zF O).bind λ v1=>(nI (v1.1.length:Int) Y).bind λ v2=>gd (0<=v2.1/\v2.1<v1.1.length)<|(nI 8 v2.2).bind λ v3=>(m9 v3.1).bind λ v4=>(nI 15 v3.2).bind λ v5=>(nI 6 v5.2).bind λ v6=>(nI 6 v6.2).bind λ H=>(if decide (i64.wrap (1+v5.1)=1)then(yW (v1.1.getD v2.1.toNat aH.zero) H.1).bind λ B=>(nI 4 H.2).bind λ U=>some ({{{{{aM.zero with kind:=(i64.wrap (1+v5.1))}with aL:=v4}with gen:=v6.1}with bA:=(⟨(v1.1.getD v2.1.toNat aH.zero).name,B⟩:aO)}with bD:=U.1},U.2)else(if decide (i64.wrap (1+v5.1)=2)then Eb O v1 v2 v4 v5 v6 H (decide (i64.wrap (1+v5.1)=2))else Eb O v1 v2 v4 v5 v6 H (decide (i64.wrap (1+v5.1)=3))))
def bV8(O:List Int)(a1:bK)(r:aM×bK)(h:Ec O a1=some r):MFn C 8 [.ptr 0 0 0,.sl (O.map (eI i64))] [(0,bx a1)] 1 (ga r.1) [(0,bx r.2)] 1:=by
 refine oR Tryz.f8 [] [ga r.1] λ E hG hN hK=>?_;unfold Ec at h;refine lQ (lR hG ?_);refine lQ (lR hG ?_);obtain⟨v1,p0,h⟩:=lT h;refine mW (λ hg=>(bMj O).ok _ p0) ?_;refine lQ (lR hG ?_);obtain⟨v2,hv2,h⟩:=lT h;obtain⟨e0,h⟩:=lZ h;refine mH [(0,0)] [] [0] ((pY (v1.1.length:Int) a1).ok _ hv2) rfl rfl ?_;refine lQ (lR hG ?_);obtain⟨v3,hv3,h⟩:=lT h;refine mH [(0,0)] [] [0] ((pY 8 v2.2).ok _ hv3) rfl rfl ?_;obtain⟨v4,hv4,h⟩:=lT h;refine mW (λ hg=>(aZh v3.1).ok _ hv4) ?_;refine lQ (lR hG ?_);obtain⟨v5,hv5,h⟩:=lT h;refine mH [(0,0)] [] [0] ((pY 15 v3.2).ok _ hv5) rfl rfl ?_;refine lQ (lR hG ?_);obtain⟨v6,q0,h⟩:=lT h;refine mH [(0,0)] [] [0] ((pY 6 v5.2).ok _ q0) rfl rfl ?_;obtain⟨H,r0,h⟩:=lT h;refine mH [(0,0)] [] [0] ((pY 6 v6.2).ok _ r0) rfl rfl ?_;refine lQ (lQ (lR hG ?_));refine nV (lQ (lR hG ?_));refine lU rfl hG h (λ _ h=>?_) (λ _ h=>?_)
 · refine pT oB hG ?_
   obtain⟨v8,s0,h⟩:=lT h;refine rN (λ hg=>(Ms (v1.1.getD v2.1.toNat aH.zero) H.1).ok _ s0) ?_;obtain⟨v9,t0,h⟩:=lT h;refine uC [(0,0)] [] [0] ((pY 4 H.2).ok _ t0) rfl rfl ?_;refine lQ (lR hG ?_);refine lX ?_;exact mQ [(0,0)] h
 refine lQ (lQ (lR hG ?_));refine rB (bV7 O v1 v2 v4 v5 v6 H) (λ v=>Eb O v1 v2 v4 v5 v6 H v=some r) rfl hG h ?_ (λ _ h=>?_) (λ _ h=>?_)
 · intro j1 h
   unfold Eb at h;refine g_st ?_;refine lU rfl hG h (λ _ h=>?_) (λ _ h=>?_)
   · refine lQ (pT oB hG ?_)
     refine lQ (lQ (lR hG ?_));refine rB (bV5 H) (λ v=>D9 H v=some r) rfl hG h ?_ (λ _ h=>?_) (λ _ h=>?_)
     · intro j2 h
       unfold D9 at h;refine g_st ?_;refine lR hG ?_;obtain⟨f0,U,h⟩:=lT h;refine E7 [(0,0)] [0] U (λ hc=>(pY 2 H.2).ok _ hc) rfl ?_;refine lQ (lR hG ?_);refine lX ?_;exact mQ [(0,0)] h
     · refine lR hG ?_
       obtain⟨c0,Y,h⟩:=lT h;refine mW (λ hg=>(Ms (v1.1.getD v2.1.toNat aH.zero) H.1).ok _ Y) ?_;exact mM hK [(0,0),(1,1),(2,4)] ({{{{{aM.zero with kind:=(i64.wrap (1+v5.1))}with aL:=v4}with gen:=v6.1}with bA:={aO.zero with name:=(v1.1.getD v2.1.toNat aH.zero).name}}with bA:={({aO.zero with name:=(v1.1.getD v2.1.toNat aH.zero).name})with aJ:=c0}}) (by exact h)
     refine lW ?_;exact mM hK [(0,0),(1,1),(2,4)] ({{{{aM.zero with kind:=(i64.wrap (1+v5.1))}with aL:=v4}with gen:=v6.1}with bA:={aO.zero with name:=(v1.1.getD v2.1.toNat aH.zero).name}}) (by exact h)
   refine lQ (lR hG ?_);refine lU rfl hG h (λ _ h=>?_) (λ _ h=>?_)
   · refine pT oB hG ?_
     obtain⟨g0,B,h⟩:=lT h;refine rN (λ hg=>(Ms (v1.1.getD v2.1.toNat aH.zero) H.1).ok _ B) ?_;refine lQ (lR hG ?_);refine lX ?_;exact mQ [(0,0)] h
   refine lQ (lR hG ?_);refine lU rfl hG h (λ _ h=>?_) (λ _ h=>?_)
   · refine lR hG ?_
     obtain⟨l0,F,h⟩:=lT h;refine mH [(0,0)] [] [0] ((pY 4 H.2).ok _ F) rfl rfl ?_;refine lQ (lR hG ?_);refine lX ?_;exact mQ [(0,0)] h
   refine lQ (lQ (lR hG ?_));refine rB (bV6 O v4 v5 v6 H) (λ v=>Ea O v4 v5 v6 H v=some r) rfl hG h ?_ (λ _ h=>?_) (λ _ h=>?_)
   · intro j3 h
     unfold Ea at h;refine g_st ?_;refine lU rfl hG h (λ _ h=>?_) (λ _ h=>?_)
     · refine lR hG ?_
       refine lQ (lR hG ?_);refine lX ?_;exact mQ [(0,0)] h
     refine lQ (lR hG ?_);refine lU rfl hG h (λ _ h=>?_) (λ _ h=>?_)
     · refine lQ (lR hG ?_)
       obtain⟨d0,M,h⟩:=lT h;refine mW (λ hg=>(bUn O).ok _ M) ?_;refine pT oB hG ?_;obtain⟨m0,h0,h⟩:=lT h;refine rN (λ hg=>(Tm d0).ok _ h0) ?_;obtain⟨n0,x0,h⟩:=lT h;refine rN (λ hg=>bV2 _ _ _ x0) ?_;refine lQ (lR hG ?_);refine lX ?_;exact mQ [(0,0)] h
     refine lQ (lR hG ?_);refine lU rfl hG h (λ _ h=>?_) (λ _ h=>?_)
     · refine lR hG ?_
       obtain⟨j0,y0,h⟩:=lT h;refine mW (λ hg=>(bV4 O).ok _ y0) ?_;refine lQ (lR hG ?_);refine lX ?_;exact mQ [(0,0)] h
     refine lQ (lR hG ?_);refine lU rfl hG h (λ _ h=>?_) (λ _ h=>?_)
     · refine lQ (pT oB hG ?_)
       obtain⟨o0,z0,h⟩:=lT h;refine uC [(0,0)] [] [0] ((pY 5 H.2).ok _ z0) rfl rfl ?_;refine lQ (lR hG ?_);refine lU rfl hG h (λ _ h=>?_) (λ _ h=>?_)
       · refine lR hG ?_
         refine lQ (lR hG ?_);refine lX ?_;exact mQ [(0,0)] h
       refine lW ?_;refine lQ (lR hG ?_);refine lX ?_;exact mQ [(0,0)] h
     refine lQ (lR hG ?_);refine lU rfl hG h (λ _ h=>?_) (λ _ h=>?_)
     · refine pT oB hG ?_
       obtain⟨b0,u0,h⟩:=lT h;refine uC [(0,0)] [] [0] ((pY 2 H.2).ok _ u0) rfl rfl ?_;refine lQ (lR hG ?_);refine lX ?_;exact mQ [(0,0)] h
     refine lQ (lR hG ?_);refine lU rfl hG h (λ _ h=>?_) (λ _ h=>?_)
     · refine lR hG ?_
       obtain⟨h1,v0,h⟩:=lT h;refine mH [(0,0)] [] [0] ((pY 4 H.2).ok _ v0) rfl rfl ?_;refine lQ (lR hG ?_);refine lX ?_;exact mQ [(0,0)] h
     refine lR hG ?_;refine lQ (lR hG ?_);refine lX ?_;exact mQ [(0,0)] h
   · refine lW ?_
     exact mM hK [(0,0),(1,1),(2,3),(3,4)] (decide (i64.wrap (1+v5.1)=6)) (by exact h)
   refine lR hG ?_;exact mM hK [(0,0),(1,1),(2,3),(3,4)] (decide (i64.wrap (1+v5.1)=8)) (by exact h)
 · refine lW ?_
   exact mM hK [(0,0),(1,1),(2,2),(3,3),(4,4)] (decide (i64.wrap (1+v5.1)=2)) (by exact h)
 refine lR hG ?_;exact mM hK [(0,0),(1,1),(2,2),(3,3),(4,4)] (decide (i64.wrap (1+v5.1)=3)) (by exact h)
instance bV9(H:List Int)(O:bK):OkM (Ec H O) 8 [.ptr 0 0 0,.sl (H.map (eI i64))] [(0,bx O)] 1 (λ r=>ga r.1) (λ r=>[(0,bx r.2)]) 1:=⟨bV8 H O⟩
def J5(H O:List Int)(Y:Int):Option Bool:=(if (!(In H))||decide (20<(O.length:Int))then(DX).bind λ v1=>some v1 else(Ec H ({bK.zero with l:=O})).bind λ v2=>(zP v2.1).bind λ v3=>(uD Y 9).bind λ v4=>(DX).bind λ v5=>(if v5 then zO v2.1 else some false).bind λ v6=>(if v5&&decide (v3=v6)then zP ({{{{{{{{{{v2.1 with aL:=(⟨1,1,i64.wrap (1+v4)⟩:aK)}with gen:=(i64.wrap (1+v4))}with bD:=1}with inc:=1}with round:=(i64.wrap (1+v4))}with epoch:=(i64.wrap (1+v4))}with site:=1}with label:=(i64.wrap (1+v4))}with bA:=(⟨(⟨#[97]⟩:ByteArray),{aC.zero with mode:=5}⟩:aO)}with done:=true})else some false).bind λ U=>(if (v5&&decide (v3=v6))&&(!U)then yZ v2.1 v2.1 else some false).bind λ B=>some (((v5&&decide (v3=v6))&&(!U))&&B))
instance bVa(H O:List Int)(U:Int):OkP (J5 H O U) 5 [.sl (H.map (eI i64)),.sl (O.map (eI i64)),.int i64 U] .bool:=ok1 (J5.eq_1 H O U) Tryz.f5 []
end
end Ab
end Go.Proofs.YtfmnjkfhahfhgaaGreatDoor
