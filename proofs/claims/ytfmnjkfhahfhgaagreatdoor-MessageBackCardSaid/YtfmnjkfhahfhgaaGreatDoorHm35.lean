import Derived.Test.YtfmnjkfhahfhgaaGreatDoorHm27
import Derived.Test.YtfmnjkfhahfhgaaGreatDoorHm26
import Derived.Test.YtfmnjkfhahfhgaaGreatDoorHm34
namespace Go.Proofs.YtfmnjkfhahfhgaaGreatDoor
namespace Ab
set_option linter.defProp false
open IntKind (i64 u64 u8)
set_option linter.unusedSimpArgs false
set_option linter.unusedVariables false
set_option maxRecDepth 100000
set_option maxHeartbeats 1000000
noncomputable section
variable {T T1 T2 T3 T4 T5 T6 : Type} (x : T) (v1 : T1) (v2 : T2) (v3 : T3) (v4 : T4) (v5 : T5) (v6 : T6)
def Cd(H:aL):Option Bool:=(EL H).bind λ v1=>(if v1 then B2 H else some []).bind λ v2=>some (v1&&decide ((v2.length:Int)<=4064))
instance bTp(H:aL):OkP (Cd H) 15 [ga H] .bool:=ok1 (Cd.eq_1 H) Tryz.f15 []
def Ce(H:aL):Option ((List Int)×Int):=(Cd H).bind λ v1=>(if !v1 then some ([],2)else(B2 H).bind λ v2=>some (v2,0))
instance bTq(H:aL):OkP (Ce H) 9 [ga H] (λ r=>.tup [.sl (r.1.map (eI u8)),.int i64 r.2]):=ok1 (Ce.eq_1 H) Tryz.f9 []
def As(j1:aR×aL):Option (aL×Int):=(if !decide ((j1.1.b.length:Int)=0)then some ({aL.zero with},6)else(Cd j1.2).bind λ v3=>(if !v3 then some ({aL.zero with},2)else some (j1.2,0)))
@[go_sem] def bTr(j1:aR×aL):St:=⟨[(2,.ptr 0 0 0),(4,.ptr 1 0 0),(5,.ptr 2 0 0)],[(0,bx aL.zero),(1,bx j1.1),(2,bx j1.2)],3⟩
def yJ(O:Int×aR×aL)(H:aR×aL):Option ((Int×aR×aL)⊕((aR×aL)⊕(aL×Int))):=(if !decide (H.1.err=0)then some (.inr (.inr ({aL.zero with},H.1.err)))else some (.inl (i64.wrap (O.1+1),H.1,H.2)))
@[go_sem] def bTs(v1:Int×aR)(v2:(List (Int×bM)))(O:Int×aR×aL)(H:aR×aL):St:=⟨[(2,.ptr 0 0 0),(4,.ptr 1 0 0),(5,.ptr 2 0 0),(6,.mp 3),(37,.int i64 ((Arr.get nD v1.1.toNat ⟨#[]⟩).size:Int)),(38,.int i64 O.1)],[(0,bx aL.zero),(1,bx H.1),(2,bx H.2),(3,⟨false,0,[A.int u8 0,A.bool true],v2.map (mI u8 bM.enc)⟩)],4⟩
def qR(v1:Int×aR)(v2:(List (Int×bM)))(H:Int×aR×aL):Option ((Int×aR×aL)⊕((aR×aL)⊕(aL×Int))):=(if decide (H.1<((Arr.get nD v1.1.toNat ⟨#[]⟩).size:Int))then gd (0<=H.2.2.kind/\H.2.2.kind<16)<|gd (0<=H.1/\H.1<((Arr.get nD H.2.2.kind.toNat ⟨#[]⟩).size:Int))<|(if(oA (((Arr.get nD H.2.2.kind.toNat ⟨#[]⟩).toList.getD H.1.toNat 0).toNat:Int) v2).isSome=true then(oM ((oA (((Arr.get nD H.2.2.kind.toNat ⟨#[]⟩).toList.getD H.1.toNat 0).toNat:Int) v2).getD bM.zero).of).bind λ v4=>(sS H.2.1).bind λ v5=>yJ H (v5.2,sP H.2.2 v4 (i64.wrap (v5.1-((oA (((Arr.get nD H.2.2.kind.toNat ⟨#[]⟩).toList.getD H.1.toNat 0).toNat:Int) v2).getD bM.zero).plus)))else(tO (((Arr.get nD H.2.2.kind.toNat ⟨#[]⟩).toList.getD H.1.toNat 0).toNat:Int) H.2.1 H.2.2).bind λ v6=>yJ H (v6.1,v6.2))else some (.inr (.inl (H.2.1,H.2.2))))
@[go_sem] def bTt(v1:Int×aR)(v2:(List (Int×bM)))(H:Int×aR×aL):St:=⟨[(2,.ptr 0 0 0),(4,.ptr 1 0 0),(5,.ptr 2 0 0),(6,.mp 3),(37,.int i64 ((Arr.get nD v1.1.toNat ⟨#[]⟩).size:Int)),(38,.int i64 H.1)],[(0,bx aL.zero),(1,bx H.2.1),(2,bx H.2.2),(3,⟨false,0,[A.int u8 0,A.bool true],v2.map (mI u8 bM.enc)⟩)],4⟩
def tB(H:List Int):Option (aL×Int):=(sF 15 6 ({aR.zero with b:=H})).bind λ v1=>(if !decide (v1.2.err=0)then some ({aL.zero with},v1.2.err)else(if !(Dj v1.1)then some ({aL.zero with},6)else(zV).bind λ v2=>gd (0<=v1.1/\v1.1<16)<|(lY (qR v1 v2) (0,v1.2,{aL.zero with kind:=v1.1})).bind (λ|.inl z=>As z|.inr z=>some z)))
def bTu(B:List Int)(r:aL×Int)(h:tB B=some r):PFn C 11 [.sl (B.map (eI u8))] (.tup [ga r.1,.int i64 r.2]):=by
 refine oN Tryz.f11 [(56,1)] λ E hG hN hK=>?_;unfold tB at h;refine lW (lX hG ?_);refine lW (lX hG ?_);refine lW (lX hG ?_);obtain⟨v1,F,h⟩:=lZ h;refine mO [(0,1)] [] [0] ((SS 15 6 ({aR.zero with b:=B})).ok _ F) rfl rfl ?_;refine lW (lW (lX hG ?_));refine mA rfl hG h (λ _ h=>?_) (λ _ h=>?_)
 · refine lW (qD oL hG ?_)
   refine mG ?_;exact nM h
 refine mE ?_;refine lW (lW (lX hG ?_));refine nC (λ hg=>(Sn v1.1).ok) ?_;refine mA rfl hG h (λ _ h=>?_) (λ _ h=>?_)
 · refine lW (lX hG ?_)
   refine mG ?_;exact nM h
 refine mE ?_;refine lW (lX hG ?_);obtain⟨v2,hv2,h⟩:=lZ h;refine mO [] [(0,3)] [0] ((Ge).ok _ hv2) rfl rfl ?_;refine lW (lW ?_);obtain⟨x0,h⟩:=mH h;refine lX hG ?_;refine pU bTr (λ v=>As v=some r) ?_ ?_
 · intro j1 h
   unfold As at h;refine g_st ?_;refine lW (lW (lX hG ?_));refine mA rfl hG h (λ _ h=>?_) (λ _ h=>?_)
   · refine lW (lX hG ?_)
     refine mG ?_;exact nM h
   refine mE ?_;refine lW (lW (lX hG ?_));obtain⟨v3,hv3,h⟩:=lZ h;refine nC (λ hg=>(bTp j1.2).ok _ hv3) ?_;refine mA rfl hG h (λ _ h=>?_) (λ _ h=>?_)
   · refine lW (lX hG ?_)
     refine mG ?_;exact nM h
   refine mE ?_;refine lW (lX hG ?_);refine mG ?_;exact nM h
 refine qH (bTt v1 v2) hK [(0,0),(1,1),(2,2),(3,3)] h (λ h0 h U Y H O=>?_);unfold qR at H;refine g_st ?_;refine lW (lX hG ?_);refine lW ?_;refine mA rfl hG H (λ _ H=>?_) (λ _ H=>?_)
 · refine mE ?_
   refine lW (oG (lW (lX hG ?_)));refine lW ?_;obtain⟨y0,H⟩:=mH H;obtain⟨z0,H⟩:=mH H;refine lX hG ?_;refine lW (lW (lX hG ?_));refine lW (lX hG ?_);refine rN (bTs v1 v2 U) (λ v=>yJ U v=some Y) rfl hG H ?_ (λ _ H=>?_) (λ _ H=>?_)
   · intro j2 H
     unfold yJ at H;refine g_st ?_;refine lW (lX hG ?_);refine mA rfl hG H (λ _ H=>?_) (λ _ H=>?_)
     · refine lW (qD oL hG ?_)
       refine mG ?_;cases H;cases O _ rfl;exact nM h
     refine mE ?_;refine lX hG ?_;exact oU hK [(0,0),(1,1),(2,2),(3,3)] H
   · refine qD oL hG ?_
     obtain⟨v4,hv4,H⟩:=lZ H;refine vC [(0,2)] [] [0] (AZ _ _ _ hv4) rfl rfl ?_ (ho:=by first|exact⟨by trivial,tM hv4⟩|exact tM hv4);obtain⟨v5,hv5,H⟩:=lZ H;refine vC [(0,1)] [] [0] ((bC7 U.2.1).ok _ hv5) rfl rfl ?_;exact mT hK [(0,0),(1,1),(2,2),(3,3)] (v5.2,sP U.2.2 v4 (i64.wrap (v5.1-((oA (((Arr.get nD U.2.2.kind.toNat ⟨#[]⟩).toList.getD U.1.toNat 0).toNat:Int) v2).getD bM.zero).plus))) (by exact H)
   refine lX hG ?_;obtain⟨v6,M,H⟩:=lZ H;refine mO [(0,1),(1,2)] [] [0,1] (bTo _ _ _ _ M) rfl rfl ?_;exact mT hK [(0,0),(1,1),(2,2),(3,3)] (v6.1,v6.2) (by exact H)
 refine oI ?_;cases H;cases O _ rfl;exact mT hK [(0,0),(1,1),(2,2)] (U.2.1,U.2.2) (by exact h)
instance bTv(H:List Int):OkP (tB H) 11 [.sl (H.map (eI u8))] (λ r=>.tup [ga r.1,.int i64 r.2]):=⟨bTu H⟩
def Cf:Option Bool:=(Ce ({aL.zero with kind:=11,aM:=(⟨0,1,2⟩:aK),round:=1,done:=true})).bind λ v1=>(tB [5,2,5]).bind λ v2=>(if (decide (v1.2=0)&&((tY v1.1).toList==(⟨#[11,1,0,1,2,1]⟩:ByteArray).toList))&&decide (v2.2=0)then BW v2.1 ({aL.zero with kind:=5,inc:=5,site:=2})else some false).bind λ v3=>(if ((decide (v1.2=0)&&((tY v1.1).toList==(⟨#[11,1,0,1,2,1]⟩:ByteArray).toList))&&decide (v2.2=0))&&v3 then Cd ({aL.zero with})else some false).bind λ v4=>some ((((decide (v1.2=0)&&((tY v1.1).toList==(⟨#[11,1,0,1,2,1]⟩:ByteArray).toList))&&decide (v2.2=0))&&v3)&&(!v4))
instance bTx:OkP Cf 7 [] .bool:=ok1 Cf.eq_1 Tryz.f7 []
def Ur(j1:bB):Option (Int×bB):=some (0,j1)
def KX(H:Int×bB):Option ((Int×bB)⊕bB):=(if decide (0<=H.1)then gd (0<=H.1/\H.1<((H.2.c.aD.length:Nat):Int))<|(s8 4 (H.2.c.aD.getD H.1.toNat aG.zero).aM H.2).bind λ v2=>(j7 H.1 (⟨(⟨v2.1,v2.2.1,v2.2.2.1⟩:bD),v2.2.2.2⟩:bB)).bind λ v3=>(uH H.1 v3).bind λ v4=>(sG (⟨(⟨v4.1,v4.2.1,v4.2.2.1⟩:bD),v4.2.2.2⟩:bB)).bind λ v5=>(t8 v5).bind λ v6=>some (.inl (v6.1,(⟨(⟨v6.2.1,v6.2.2.1,v6.2.2.2.1⟩:bD),v6.2.2.2.2⟩:bB)))else some (.inr H.2))
def EM(O:Int)(H:bB):Option (Int×bB):=(if decide (O<0)||decide (1000<O)then some (1,H)else(if decide (i64.wrap (1073741824-O)<H.c.now)then some (16,H)else(t8 (⟨(⟨i64.wrap (H.c.now+O),H.c.aF,H.c.aD⟩:bD),H.ev⟩:bB)).bind λ v1=>(lY KX (v1.1,(⟨(⟨v1.2.1,v1.2.2.1,v1.2.2.2.1⟩:bD),v1.2.2.2.2⟩:bB))).bind (λ z=>Ur z)))
@[reducible,instance]def bU0 a0 a1:=mkJ (EM a0 a1,v1) 0 (@Ur.eq_1) λ j1=>⟨[],[(0,⟨false,4,bB.enc bB.zero,[[.int i64 j1.c.now,la j1.c.aF,.own 3 0 j1.c.aD.length,.own 4 0 j1.ev.length]]⟩),(3,sx j1.c.aD),(4,sx j1.ev)],5⟩
@[reducible,instance]def bU1:=mkL x (@KX.eq_1) λ H=>⟨[(0,.ptr 0 0 0),(5,.int i64 H.1)],[(0,⟨false,4,bB.enc bB.zero,[[.int i64 H.2.c.now,la H.2.c.aF,.own 3 0 H.2.c.aD.length,.own 4 0 H.2.ev.length]]⟩),(3,sx H.2.c.aD),(4,sx H.2.ev)],5⟩
instance bU2(O:Int)(H:bB):OkM (EM O H) 187 [.ptr 0 0 0,.int i64 O] [(0,⟨false,4,bB.enc bB.zero,[[.int i64 H.c.now,la H.c.aF,.own 1 0 H.c.aD.length,.own 2 0 H.ev.length]]⟩),(1,sx H.c.aD),(2,sx H.ev)] 3 (λ r=>.int i64 r.1) (λ r=>[(0,⟨false,4,bB.enc bB.zero,[[.int i64 r.2.c.now,la r.2.c.aF,.own 3 0 r.2.c.aD.length,.own 4 0 r.2.ev.length]]⟩),(3,sx r.2.c.aD),(4,sx r.2.ev)]) 5:=okm (EM.eq_1 O H) (λ r=>[.int i64 r.1]) Tryz.f187 []
def N4(j1:bB):Option (Int×bB):=(sG j1).bind λ v6=>some (0,v6)
def HB(U:Int)(B:bO)(v5:(List aO))(H:Int×bB):Option ((Int×bB)⊕bB):=(if decide (H.1<v5.length)then gd (0<=U/\U<((H.2.c.aD.length:Nat):Int))<|gd (0<=H.1/\H.1<v5.length)<|(EC H.2.c.aF (H.2.c.aD.getD U.toNat aG.zero).aM (v5.getD H.1.toNat aO.zero) B.bC).bind λ Y=>(vF Y.1 Y.2.1 H.2).bind λ O=>some (.inl (i64.wrap (H.1+1),(⟨(⟨O.1,O.2.1,O.2.2.1⟩:bD),O.2.2.2⟩:bB)))else some (.inr H.2))
def EN(H:Int)(U:bO)(O:bB):Option (Int×bB):=gd (0<=H/\H<((O.c.aD.length:Nat):Int))<|(if(O.c.aD.getD H.toNat aG.zero).bI=true then some (14,O)else(vK U).bind λ v1=>(if !v1 then some (1,O)else(x3 O.c.aF).bind λ v2=>(Ai v2 U.bU).bind λ v3=>(if !decide (v3=0)then some (v3,O)else gd (0<=H/\H<((O.c.aD.length:Nat):Int))<|gd (0<=H/\H<((O.c.aD.length:Nat):Int))<|gd (0<=H/\H<((O.c.aD.length:Nat):Int))<|(uH H (⟨(⟨O.c.now,O.c.aF,((O.c.aD.set H.toNat ({(O.c.aD.getD H.toNat aG.zero)with bI:=true})).set H.toNat ({((O.c.aD.set H.toNat ({(O.c.aD.getD H.toNat aG.zero)with bI:=true})).getD H.toNat aG.zero)with bJ:=U})).set H.toNat ({(((O.c.aD.set H.toNat ({(O.c.aD.getD H.toNat aG.zero)with bI:=true})).set H.toNat ({((O.c.aD.set H.toNat ({(O.c.aD.getD H.toNat aG.zero)with bI:=true})).getD H.toNat aG.zero)with bJ:=U})).getD H.toNat aG.zero)with since:=O.c.now})⟩:bD),O.ev⟩:bB)).bind λ v4=>(vJ U.bU).bind λ v5=>(lY (HB H U v5) (0,(⟨(⟨v4.1,v4.2.1,v4.2.2.1⟩:bD),v4.2.2.2⟩:bB))).bind (λ z=>N4 z))))
@[reducible,instance]def bU4 a0 a1 a2:=mkJ (((((EN a0 a1 a2,v1),v2),v3),v4),v5) 0 (@N4.eq_1) λ j1=>⟨[(0,.ptr 0 0 0)],[(0,⟨false,4,bB.enc bB.zero,[[.int i64 j1.c.now,la j1.c.aF,.own 3 0 j1.c.aD.length,.own 4 0 j1.ev.length]]⟩),(3,sx j1.c.aD),(4,sx j1.ev)],5⟩
@[reducible,instance]def bU5 (O:Int) (U:bO) (v5:(List aO)):=mkL x (@HB.eq_1 O U v5) λ H=>⟨[(0,.ptr 0 0 0),(1,.int i64 O),(5,.ptr 3 0 0),(8,la v5),(9,.int i64 H.1)],[(0,⟨false,4,bB.enc bB.zero,[[.int i64 H.2.c.now,la H.2.c.aF,.own 4 0 H.2.c.aD.length,.own 5 0 H.2.ev.length]]⟩),(3,bx U),(4,sx H.2.c.aD),(5,sx H.2.ev)],6⟩
instance bU6(O:Int)(U:bO)(H:bB):OkM (EN O U H) 188 [.ptr 0 0 0,.int i64 O,ga U] [(0,⟨false,4,bB.enc bB.zero,[[.int i64 H.c.now,la H.c.aF,.own 1 0 H.c.aD.length,.own 2 0 H.ev.length]]⟩),(1,sx H.c.aD),(2,sx H.ev)] 3 (λ r=>.int i64 r.1) (λ r=>[(0,⟨false,4,bB.enc bB.zero,[[.int i64 r.2.c.now,la r.2.c.aF,.own 3 0 r.2.c.aD.length,.own 4 0 r.2.ev.length]]⟩),(3,sx r.2.c.aD),(4,sx r.2.ev)]) 5:=okm (EN.eq_1 O U H) (λ r=>[.int i64 r.1]) Tryz.f188 []
def HC(H:Int)(U:ByteArray)(O:bB):Option (Int×bB):=gd (0<=H/\H<((O.c.aD.length:Nat):Int))<|(if(O.c.aD.getD H.toNat aG.zero).bI=true then some (14,O)else gd (0<=H/\H<((O.c.aD.length:Nat):Int))<|(tN ((O.c.aD.getD H.toNat aG.zero).bF).aQ U).bind λ v1=>(if decide (v1={aC.zero with})then some (10,O)else gd (0<=H/\H<((O.c.aD.length:Nat):Int))<|(j5 O.c.aF (O.c.aD.getD H.toNat aG.zero).aM ({aO.zero with name:=U})).bind λ v2=>(vF v2.1 v2.2.1 O).bind λ v3=>gd (0<=H/\H<((v3.2.2.1.length:Nat):Int))<|(Ag (v3.2.2.1.getD H.toNat aG.zero).bF U).bind λ v4=>gd (0<=H/\H<((v3.2.2.1.length:Nat):Int))<|(uH H (⟨(⟨v3.1,v3.2.1,v3.2.2.1.set H.toNat ({(v3.2.2.1.getD H.toNat aG.zero)with bF:=v4.1})⟩:bD),v3.2.2.2⟩:bB)).bind λ v5=>(sG (⟨(⟨v5.1,v5.2.1,v5.2.2.1⟩:bD),v5.2.2.2⟩:bB)).bind λ v6=>some (0,v6)))
instance bU7(O:Int)(U:ByteArray)(H:bB):OkM (HC O U H) 192 [.ptr 0 0 0,.int i64 O,.str U] [(0,⟨false,4,bB.enc bB.zero,[[.int i64 H.c.now,la H.c.aF,.own 1 0 H.c.aD.length,.own 2 0 H.ev.length]]⟩),(1,sx H.c.aD),(2,sx H.ev)] 3 (λ r=>.int i64 r.1) (λ r=>[(0,⟨false,4,bB.enc bB.zero,[[.int i64 r.2.c.now,la r.2.c.aF,.own 3 0 r.2.c.aD.length,.own 4 0 r.2.ev.length]]⟩),(3,sx r.2.c.aD),(4,sx r.2.ev)]) 5:=okm (HC.eq_1 O U H) (λ r=>[.int i64 r.1]) Tryz.f192 []
def KY(H:Int)(O:bB):Option (Int×bB):=(uH H O).bind λ v2=>(sG (⟨(⟨v2.1,v2.2.1,v2.2.2.1⟩:bD),v2.2.2.2⟩:bB)).bind λ v3=>some (0,v3)
@[go_sem] def bU8(O:Int)(H:bB):St:=⟨[(0,.ptr 0 0 0),(1,.int i64 O)],[(0,⟨false,4,bB.enc bB.zero,[[.int i64 H.c.now,la H.c.aF,.own 3 0 H.c.aD.length,.own 4 0 H.ev.length]]⟩),(3,sx H.c.aD),(4,sx H.ev)],5⟩
def HD(U:Int)(v1:bA×(List aO)×Int)(j1:bB)(H:Int×bB):Option ((Int×bB)⊕bB):=(if decide (H.1<v1.2.1.length)then gd (0<=H.1/\H.1<v1.2.1.length)<|(sR H.2.c.aF (v1.2.1.getD H.1.toNat aO.zero).name).bind λ v4=>gd (0<=v4/\v4<H.2.c.aF.length)<|(rY (H.2.c.aF.getD v4.toNat aA.zero) (j1.c.aD.getD U.toNat aG.zero).aM).bind λ v5=>gd (0<=H.1/\H.1<v1.2.1.length)<|(if !decide (v5=(v1.2.1.getD H.1.toNat aO.zero).aJ)then gd (0<=H.1/\H.1<v1.2.1.length)<|(j5 H.2.c.aF (j1.c.aD.getD U.toNat aG.zero).aM (v1.2.1.getD H.1.toNat aO.zero)).bind λ v6=>(vF v6.1 v6.2.1 H.2).bind λ O=>some (.inl (i64.wrap (H.1+1),(⟨(⟨O.1,O.2.1,O.2.2.1⟩:bD),O.2.2.2⟩:bB)))else some (.inl (i64.wrap (H.1+1),H.2)))else some (.inr H.2))
@[go_sem] def bU9(O:Int)(v1:bA×(List aO)×Int)(j1:bB)(H:Int×bB):St:=⟨[(0,.ptr 0 0 0),(1,.int i64 O),(8,la v1.2.1),(10,.ptr 3 0 0),(11,.int i64 H.1)],[(0,⟨false,4,bB.enc bB.zero,[[.int i64 H.2.c.now,la H.2.c.aF,.own 4 0 H.2.c.aD.length,.own 5 0 H.2.ev.length]]⟩),(3,bx (j1.c.aD.getD O.toNat aG.zero).aM),(4,sx H.2.c.aD),(5,sx H.2.ev)],6⟩
def EO(H:Int)(v1:bA×(List aO)×Int)(j1:bB):Option (Int×bB):=gd (0<=H/\H<((j1.c.aD.length:Nat):Int))<|gd (0<=H/\H<((j1.c.aD.length:Nat):Int))<|(lY (HD H v1 j1) (0,(⟨(⟨j1.c.now,j1.c.aF,j1.c.aD.set H.toNat ({(j1.c.aD.getD H.toNat aG.zero)with bF:=v1.1})⟩:bD),j1.ev⟩:bB))).bind (λ z=>KY H z)
@[go_sem] def bUa(H:Int)(v1:bA×(List aO)×Int)(j1:bB):St:=⟨[(0,.ptr 0 0 0),(1,.int i64 H),(7,.ptr 3 0 0),(8,la v1.2.1)],[(0,⟨false,4,bB.enc bB.zero,[[.int i64 j1.c.now,la j1.c.aF,.own 4 0 j1.c.aD.length,.own 5 0 j1.ev.length]]⟩),(3,bx v1.1),(4,sx j1.c.aD),(5,sx j1.ev)],6⟩
def EP(H U:Int)(O:bB):Option (Int×bB):=gd (0<=H/\H<((O.c.aD.length:Nat):Int))<|(i4 (O.c.aD.getD H.toNat aG.zero).bF U).bind λ v1=>(if !decide (v1.2.2=0)then some (v1.2.2,O)else gd (0<=H/\H<((O.c.aD.length:Nat):Int))<|(if(O.c.aD.getD H.toNat aG.zero).bI=true then(j7 H O).bind λ Y=>EO H v1 Y else EO H v1 O))
def bUb(O a1:Int)(U:bB)(r:Int×bB)(h:EP O a1 U=some r):MFn C 194 [.ptr 0 0 0,.int i64 O,.int i64 a1] [(0,⟨false,4,bB.enc bB.zero,[[.int i64 U.c.now,la U.c.aF,.own 1 0 U.c.aD.length,.own 2 0 U.ev.length]]⟩),(1,sx U.c.aD),(2,sx U.ev)] 3 (.int i64 r.1) [(0,⟨false,4,bB.enc bB.zero,[[.int i64 r.2.c.now,la r.2.c.aF,.own 3 0 r.2.c.aD.length,.own 4 0 r.2.ev.length]]⟩),(3,sx r.2.c.aD),(4,sx r.2.ev)] 5:=by
 refine oZ Tryz.f194 [] [.int i64 r.1] λ E hG hN hK=>?_;unfold EP at h;refine lW (lX hG ?_);refine lW ?_;obtain⟨u0,h⟩:=mH h;refine lX hG ?_;obtain⟨v1,F,h⟩:=lZ h;refine nC (λ hg=>TP _ _ _ F) ?_;refine lW (lW (lX hG ?_));refine mA rfl hG h (λ _ h=>?_) (λ _ h=>?_)
 · refine lW (lX hG ?_)
   refine mG ?_;exact mW [(0,0),(3,1),(4,2)] h
 refine mE ?_;refine lW (lW ?_);obtain⟨v0,h⟩:=mH h;refine lX hG ?_;refine rN (bUa O v1) (λ v=>EO O v1 v=some r) rfl hG h ?_ (λ _ h=>?_) (λ _ h=>?_)
 · intro j1 h
   unfold EO at h;refine g_st ?_;refine lW ?_;obtain⟨p0,h⟩:=mH h;refine lX hG ?_;refine lW ?_;obtain⟨q0,h⟩:=mH h;refine qD oL hG ?_;refine lW (lW (lX hG ?_));refine pU (bU8 O) (λ v=>KY O v=some r) ?_ ?_
   · intro j2 h
     unfold KY at h;refine g_st ?_;refine lW (lX hG ?_);obtain⟨v2,hv2,h⟩:=lZ h;refine mO [(0,0),(1,3),(2,4)] [] [0,1,2] ((bA3 O j2).ok _ hv2) rfl rfl ?_;refine lW (lX hG ?_);obtain⟨v3,hv3,h⟩:=lZ h;refine mO [(0,0),(1,3),(2,4)] [(3,5),(4,6)] [0,1,2,3,4] ((bSo (⟨(⟨v2.1,v2.2.1,v2.2.2.1⟩:bD),v2.2.2.2⟩:bB)).ok _ hv3) rfl rfl ?_;refine lW (lX hG ?_);refine mG ?_;exact mW [(0,0),(3,5),(4,6)] h
   refine qH (bU9 O v1 j1) hK [(0,0),(3,6),(4,4),(5,5)] h (λ y0 h B z0 H Y=>?_);unfold HD at H;refine g_st ?_;refine lW (lW (lX hG ?_));refine mA rfl hG H (λ _ H=>?_) (λ _ H=>?_)
   · refine mE ?_
     refine lW (oG (lW ?_));obtain⟨r0,H⟩:=mH H;refine zO oL hG ?_;obtain⟨v4,hv4,H⟩:=lZ H;obtain⟨s0,H⟩:=mH H;refine wD (λ hg=>(Sk B.2.c.aF (v1.2.1.getD B.1.toNat aO.zero).name).ok _ hv4) ?_;obtain⟨v5,hv5,H⟩:=lZ H;obtain⟨t0,H⟩:=mH H;refine wD (λ hg=>(Nq (B.2.c.aF.getD v4.toNat aA.zero) (j1.c.aD.getD O.toNat aG.zero).aM).ok _ hv5) ?_;refine mA rfl hG H (λ _ H=>?_) (λ _ H=>?_)
     · refine lW ?_
       obtain⟨c0,H⟩:=mH H;refine zO oL hG ?_;obtain⟨v6,M,H⟩:=lZ H;refine wD (λ hg=>Ud _ _ _ _ M) ?_;refine lX hG ?_;obtain⟨v7,h0,H⟩:=lZ H;refine mO [(0,0),(1,4),(2,5)] [(3,6)] [0,1,2,3] ((aWb v6.1 v6.2.1 B.2).ok _ h0) rfl rfl ?_;refine lX hG ?_;exact oU hK [(0,0),(3,3),(4,4),(5,6)] H
     refine mE ?_;refine lX hG ?_;exact oU hK [(0,0),(3,3),(4,4),(5,5)] H
   refine oI ?_;cases H;cases Y _ rfl;exact mT hK [(0,0),(3,4),(4,5)] B.2 (by exact h)
 · refine lX hG ?_
   obtain⟨v8,x0,h⟩:=lZ h;refine mO [(0,0),(1,1),(2,2)] [(3,4),(4,5)] [0,1,2,3,4] ((bSh O U).ok _ x0) rfl rfl ?_;exact mT hK [(0,0),(3,3),(4,4),(5,5)] v8 (by exact h)
 refine mE ?_;exact mT hK [(0,0),(3,3),(4,1),(5,2)] U (by exact h)
instance bUc(O U:Int)(H:bB):OkM (EP O U H) 194 [.ptr 0 0 0,.int i64 O,.int i64 U] [(0,⟨false,4,bB.enc bB.zero,[[.int i64 H.c.now,la H.c.aF,.own 1 0 H.c.aD.length,.own 2 0 H.ev.length]]⟩),(1,sx H.c.aD),(2,sx H.ev)] 3 (λ r=>.int i64 r.1) (λ r=>[(0,⟨false,4,bB.enc bB.zero,[[.int i64 r.2.c.now,la r.2.c.aF,.own 3 0 r.2.c.aD.length,.own 4 0 r.2.ev.length]]⟩),(3,sx r.2.c.aD),(4,sx r.2.ev)]) 5:=⟨bUb O U H⟩
def EQ(H:Int)(O:bB):Option bB:=gd (0<=H/\H<((O.c.aD.length:Nat):Int))<|(B6 O.c.aF (O.c.aD.getD H.toNat aG.zero).aM).bind λ v1=>(vF v1.1 v1.2 O).bind λ v2=>gd (0<=0/\0<=H/\H<=((v2.2.2.1.length:Nat):Int)/\H=H)<|gd (0<=i64.wrap (H+1)/\i64.wrap (H+1)<=((v2.2.2.1.length:Nat):Int)/\((v2.2.2.1.length:Nat):Int)<=((v2.2.2.1.length:Nat):Int))<|gd (H.toNat+((v2.2.2.1.drop (i64.wrap (H+1)).toNat).take (v2.2.2.1.length-(i64.wrap (H+1)).toNat)).length<=4294967296/\H.toNat<=v2.2.2.1.length)<|(s8 5 (O.c.aD.getD H.toNat aG.zero).aM (⟨(⟨v2.1,v2.2.1,v2.2.2.1.take H.toNat++(v2.2.2.1.drop (i64.wrap (H+1)).toNat).take (v2.2.2.1.length-(i64.wrap (H+1)).toNat)⟩:bD),v2.2.2.2⟩:bB)).bind λ v3=>(sG (⟨(⟨v3.1,v3.2.1,v3.2.2.1⟩:bD),v3.2.2.2⟩:bB)).bind λ v4=>some v4
instance bUd(O:Int)(H:bB):OkM (EQ O H) 195 [.ptr 0 0 0,.int i64 O] [(0,⟨false,4,bB.enc bB.zero,[[.int i64 H.c.now,la H.c.aF,.own 1 0 H.c.aD.length,.own 2 0 H.ev.length]]⟩),(1,sx H.c.aD),(2,sx H.ev)] 3 (λ r=>.tup []) (λ r=>[(0,⟨false,4,bB.enc bB.zero,[[.int i64 r.c.now,la r.c.aF,.own 3 0 r.c.aD.length,.own 4 0 r.ev.length]]⟩),(3,sx r.c.aD),(4,sx r.ev)]) 5:=okm (EQ.eq_1 O H) (λ r=>[]) Tryz.f195 [(42,1)]
def ER (O:bP) (H:bB):Option (Int×bB):=(if decide (O.kind<1)||decide (9<O.kind)then some (1,H)else(if decide (O.kind=1)then(y6 O.aM O.n H).bind λ v1=>some (v1.1,v1.2)else(if decide (O.kind=9)then(EM O.n H).bind λ v2=>some (v2.1,v2.2)else(xQ H.c.aD O.aM).bind λ v3=>(if decide (v3<0)then some (10,H)else gd (0<=v3/\v3<((H.c.aD.length:Nat):Int))<|(if decide (O.kind=2)then(EN v3 O.bJ H).bind λ v4=>some (v4.1,v4.2)else(if decide (O.kind=3)then(if !(H.c.aD.getD v3.toNat aG.zero).bI then some (14,H)else(j7 v3 H).bind λ v5=>(uH v3 v5).bind λ v6=>(sG (⟨(⟨v6.1,v6.2.1,v6.2.2.1⟩:bD),v6.2.2.2⟩:bB)).bind λ v7=>some (0,v7))else(if decide (O.kind=4)then(HC v3 O.name H).bind λ v8=>some (v8.1,v8.2)else(if decide (O.kind=5)then(if(H.c.aD.getD v3.toNat aG.zero).bI=true then some (14,H)else gd (0<=v3/\v3<((H.c.aD.length:Nat):Int))<|(D5 (H.c.aD.getD v3.toNat aG.zero).bF O.n).bind λ B=>(if !decide (B.2=0)then some (B.2,H)else gd (0<=v3/\v3<((H.c.aD.length:Nat):Int))<|(uH v3 (⟨(⟨H.c.now,H.c.aF,H.c.aD.set v3.toNat ({(H.c.aD.getD v3.toNat aG.zero)with bF:=B.1})⟩:bD),H.ev⟩:bB)).bind λ U=>some (0,(⟨(⟨U.1,U.2.1,U.2.2.1⟩:bD),U.2.2.2⟩:bB))))else(if decide (O.kind=6)then(EP v3 O.n H).bind λ Y=>some (Y.1,Y.2)else(if decide (O.kind=8)then(if(H.c.aD.getD v3.toNat aG.zero).bI=true then some (14,H)else(EQ v3 H).bind λ F=>some (0,F))else(if decide (O.kind=7)then(EQ v3 H).bind λ M=>some (0,M)else some (0,H))))))))))))
instance bUe(O:bP)(H:bB):OkM (ER O H) 133 [.ptr 0 0 0,ga O] [(0,⟨false,4,bB.enc bB.zero,[[.int i64 H.c.now,la H.c.aF,.own 1 0 H.c.aD.length,.own 2 0 H.ev.length]]⟩),(1,sx H.c.aD),(2,sx H.ev)] 3 (λ r=>.int i64 r.1) (λ r=>[(0,⟨false,4,bB.enc bB.zero,[[.int i64 r.2.c.now,la r.2.c.aF,.own 3 0 r.2.c.aD.length,.own 4 0 r.2.ev.length]]⟩),(3,sx r.2.c.aD),(4,sx r.2.ev)]) 5:=okm (ER.eq_1 O H) (λ r=>[.int i64 r.1]) Tryz.f133 []
def ES(H:bD)(O:bP):Option (bD×(List bL)×Int):=(Ao H).bind λ v1=>(if !v1 then some ({bD.zero with},[],2)else(F5 H).bind λ v2=>(ER O (⟨(⟨v2.now,v2.aF,v2.aD⟩:bD),[]⟩:bB)).bind λ v3=>(if !decide (v3.1=0)then some ({bD.zero with},[],v3.1)else some (v3.2.c,v3.2.ev,0)))
instance bUg(H:bD)(O:bP):OkP (ES H O) 89 [ga H,ga O] (λ r=>.tup [ga r.1,la r.2.1,.int i64 r.2.2]):=⟨λ r h=>by
 refine oN Tryz.f89 [(15,14)] λ E hG Y hK=>?_;have hm:Mk (ES H O):=trivial;unfold ES at h;refine lW (lX hG ?_);refine lW (lW (lX hG ?_));obtain⟨v1,U,h⟩:=lZ h;have hm:=mkP hm v1;refine nC (λ hg=>(Ua H).ok _ U) ?_;refine mA rfl hG h (λ _ h=>?_) (λ _ h=>?_)
 .exact gogo
 refine mE ?_;refine lW (lX hG ?_);obtain⟨v2,hv2,h⟩:=lZ h;have hm:=mkP hm v2;refine mO [] [(0,3),(1,4)] [0,1] (aUm _ _ hv2) rfl rfl ?_;refine g_gh (.fz [3]) ?_;refine g_gh (.ownb 5 3 7 (bL.enc bL.zero)) ?_;exact gogo⟩
def Us(j1:bD):Option bD:=some j1
def KZ(O:List bP)(H:Int×bD):Option ((Int×bD)⊕bD):=(if decide (H.1<O.length)then gd (0<=H.1/\H.1<O.length)<|(ES H.2 (O.getD H.1.toNat bP.zero)).bind λ v1=>(if decide (v1.2.2=0)then some (.inl (i64.wrap (H.1+1),v1.1))else some (.inl (i64.wrap (H.1+1),H.2)))else some (.inr H.2))
def ET(H:bD)(O:List bP):Option bD:=(lY (KZ O) (0,H)).bind (λ z=>Us z)
@[reducible,instance]def bUk a0 a1:=mkJ (ET a0 a1) 0 (@Us.eq_1) λ j1=>⟨[(2,.ptr 0 0 0),(4,.ptr 1 0 0)],[(0,bx j1),(1,bx bD.zero)],2⟩
@[reducible,instance]def bUl (H:List bP):=mkL x (@KZ.eq_1 H) λ O=>⟨[(1,la H),(2,.ptr 0 0 0),(4,.ptr 1 0 0),(5,.int i64 O.1)],[(0,bx O.2),(1,bx bD.zero)],2⟩
instance bUm(H:bD)(O:List bP):OkP (ET H O) 45 [ga H,la O] ga:=ok1 (ET.eq_1 H O) Tryz.f45 []
def EU(H:List Int):Option bD:=(i5 H).bind λ v1=>(G6 v1.1).bind λ v2=>(ET v2.1 v1.2).bind λ v3=>some v3
instance bUo(H:List Int):OkP (EU H) 20 [.sl (H.map (eI i64))] ga:=ok1 (EU.eq_1 H) Tryz.f20 []
def N5(j1:aH×(List aK)):Option ((List aK)×(List aK)):=(i7 j1.1).bind λ v3=>some (j1.2,v3)
def K0(H:(List aK)×aH×(List aK)):Option (((List aK)×aH×(List aK))⊕(aH×(List aK))):=(if decide (0<(H.1.length:Int))then gd (0<=0/\0<(H.1.length:Int))<|gd (H.2.2.length+1<=4294967296)<|gd (0<=0/\0<(H.1.length:Int))<|(Ap H.2.1 (H.1.getD 0 aK.zero)).bind λ v4=>(Ca v4).bind λ v5=>some (.inl (v5,v4,H.2.2++[H.1.getD 0 aK.zero]))else some (.inr (H.2.1,H.2.2)))
def EV(H:aH):Option ((List aK)×(List aK)):=(vL H).bind λ v1=>(if !v1 then some ([],[])else(Ca H).bind λ v2=>(lY K0 (v2,H,[])).bind (λ z=>N5 z))
@[reducible,instance]def bUs a0:=mkJ ((EV a0,v1),v2) 0 (@N5.eq_1) λ j1=>⟨[(1,.ptr 0 0 0),(4,.own 1 0 j1.2.length)],[(0,bx j1.1),(1,sx j1.2)],2⟩
@[reducible,instance]def bUt:=mkL x (@K0.eq_1) λ H=>⟨[(1,.ptr 0 0 0),(4,.own 1 0 H.2.2.length),(5,la H.1)],[(0,bx H.2.1),(1,sx H.2.2)],2⟩
instance bUu(H:aH):OkP (EV H) 47 [ga H] (λ r=>.tup [la r.1,la r.2]):=ok1 (EV.eq_1 H) Tryz.f47 [(4,1)]
def K1(H:Int)(j1:(List aP)):Option (List aP):=(if decide (H<((j1.length:Nat):Int))then gd (0<=0/\0<=H/\H<=((j1.length:Nat):Int))<|some ((j1.drop 0).take H.toNat)else some j1)
@[go_sem] def bUw(H:Int)(j1:(List aP)):St:=⟨[(1,.int i64 H),(5,.own 0 0 j1.length)],[(0,sx j1)],1⟩
def K2(H:Int×(List aP))(O:(List aP)):Option ((Int×(List aP))⊕(List aP)):=some (.inl (i64.wrap (H.1+1),O))
@[go_sem] def bUy(O:bD)(U:Int)(v2:(List aK)×(List aK))(Y:Int×(List aP))(H:(List aP)):St:=⟨[(1,.int i64 U),(2,.ptr 0 0 0),(5,.own 1 0 H.length),(7,la v2.2),(8,.int i64 Y.1)],[(0,bx O),(1,sx H)],2⟩
def EW(U:bD)(v2:(List aK)×(List aK))(O H:Int×(List aP)):Option ((Int×(List aP))⊕(List aP)):=(if decide (H.1<v2.2.length)then gd (0<=O.1/\O.1<U.aD.length)<|gd (0<=H.1/\H.1<v2.2.length)<|(if decide ((U.aD.getD O.1.toNat aG.zero).aM=v2.2.getD H.1.toNat aK.zero)then gd (0<=O.1/\O.1<U.aD.length)<|(B8 (U.aD.getD O.1.toNat aG.zero)).bind λ v3=>gd (H.2.length+v3.length<=4294967296)<|some (.inl (i64.wrap (H.1+1),H.2++v3))else some (.inl (i64.wrap (H.1+1),H.2)))else some (.inr H.2))
@[go_sem] def bV0(O:bD)(U:Int)(v2:(List aK)×(List aK))(Y H:Int×(List aP)):St:=⟨[(1,.int i64 U),(2,.ptr 0 0 0),(5,.own 1 0 H.2.length),(7,la v2.2),(8,.int i64 Y.1),(9,.int i64 H.1)],[(0,bx O),(1,sx H.2)],2⟩
def HE(O:bD)(v2:(List aK)×(List aK))(H:Int×(List aP)):Option ((Int×(List aP))⊕(List aP)):=(if decide (H.1<O.aD.length)then(lY (EW O v2 H) (0,H.2)).bind (λ z=>K2 H z)else some (.inr H.2))
@[go_sem] def bV2(O:bD)(U:Int)(v2:(List aK)×(List aK))(H:Int×(List aP)):St:=⟨[(1,.int i64 U),(2,.ptr 0 0 0),(5,.own 1 0 H.2.length),(7,la v2.2),(8,.int i64 H.1)],[(0,bx O),(1,sx H.2)],2⟩
def HF(H:bD)(O:Int):Option (List aP):=(j8 H).bind λ v1=>(EV v1).bind λ v2=>(lY (HE H v2) (0,[])).bind (λ z=>K1 O z)
def bV4(U:bD)(Y:Int)(r:(List aP))(h:HF U Y=some r):PFn C 22 [ga U,.int i64 Y] (la r):=by
 refine oN Tryz.f22 [(5,1)] λ E hG hN hK=>?_;unfold HF at h;refine lW (lX hG ?_);refine lW (lX hG ?_);refine lW (lX hG ?_);obtain⟨v1,x0,h⟩:=lZ h;refine nC (λ hg=>(Uo U).ok _ x0) ?_;obtain⟨v2,hv2,h⟩:=lZ h;refine nC (λ hg=>(bUu v1).ok _ hv2) ?_;refine lW (lW (lX hG ?_));refine pU (bUw Y) (λ v=>K1 Y v=some r) ?_ ?_
 · intro j1 h
   unfold K1 at h;refine g_st ?_;refine lW (lW (lX hG ?_));refine mA rfl hG h (λ _ h=>?_) (λ _ h=>?_)
   · obtain⟨v0,h⟩:=mH h
     refine lX hG ?_;refine lW (lX hG ?_);refine mG ?_;exact nM h
   refine mE ?_;refine lW (lX hG ?_);refine mG ?_;exact nM h
 refine qH (bV2 U Y v2) hK [(0,0),(1,1)] h (λ y0 h M h0 O B=>?_);unfold HE at O;refine g_st ?_;refine lW (lW (lX hG ?_));refine mA rfl hG O (λ _ O=>?_) (λ _ O=>?_)
 · refine mE ?_
   refine lW (oG (lW (lX hG ?_)));refine pU (bUy U Y v2 M) (λ v=>K2 M v=some h0) ?_ ?_
   · intro j2 O
     unfold K2 at O;refine g_st ?_;refine lX hG ?_;exact oU hK [(0,0),(1,1)] O
   refine qH (bV0 U Y v2 M) hK [(0,0),(1,1)] O (λ z0 O g2 u0 H F=>?_);unfold EW at H;refine g_st ?_;refine lW (lW (lX hG ?_));refine mA rfl hG H (λ _ H=>?_) (λ _ H=>?_)
   · refine mE ?_
     refine lW (oG (lW ?_));obtain⟨p0,H⟩:=mH H;obtain⟨q0,H⟩:=mH H;refine zO oL hG ?_;refine mA rfl hG H (λ _ H=>?_) (λ _ H=>?_)
     · obtain⟨r0,H⟩:=mH H
       refine lX hG ?_;obtain⟨v3,hv3,H⟩:=lZ H;obtain⟨s0,H⟩:=mH H;refine nC (λ hg=>(bRl (U.aD.getD M.1.toNat aG.zero)).ok _ hv3) ?_;refine lX hG ?_;exact oU hK [(0,0),(1,2)] H
     refine mE ?_;refine lX hG ?_;exact oU hK [(0,0),(1,1)] H
   refine oI ?_;obtain rfl:=dY H;have hx:=F _ rfl;subst hx
   try dsimp only at O
   exact mT hK [(0,0),(1,1)] g2.2 (by exact O)
 refine oI ?_;cases O;cases B _ rfl;exact mT hK [(0,1)] M.2 (by exact h)
def HG(H:List Int):Option aH:=(EU H).bind λ v1=>(j8 v1).bind λ v2=>some v2
instance bV6(H:List Int):OkP (HG H) 23 [.sl (H.map (eI i64))] ga:=ok1 (HG.eq_1 H) Tryz.f23 []
def EX(v7:Int×bK)(O:aL):Option (aL×bK):=(if decide (O.kind=3)then nQ 2 v7.2 else some (0,v7.2)).bind λ H=>some ({O with done:=(decide (O.kind=3)&&decide (H.1=0))},H.2)
@[go_sem] def bV7(v7:Int×bK)(H:aL):St:=⟨[(0,.ptr 0 0 0),(4,.ptr 1 0 0),(9,.ptr 2 0 0)],[(0,bx v7.2),(1,bx aL.zero),(2,bx H)],3⟩
def EY(a0:List Int)(v4:aK)(v5 v6 v7:Int×bK)(j3:Bool):Option (aL×bK):=(if j3 then some ({{aL.zero with kind:=(i64.wrap (1+v5.1))}with round:=v7.1},v7.2)else(if decide (i64.wrap (1+v5.1)=7)then(EU a0).bind λ O=>(j8 O).bind λ B=>(HF O 40).bind λ F=>some ({{{{aL.zero with kind:=(i64.wrap (1+v5.1))}with round:=v7.1}with state:={aH.zero with aY:=B.aY}}with options:=F},v7.2)else(if decide (i64.wrap (1+v5.1)=9)then(HG a0).bind λ M=>some ({{{aL.zero with kind:=(i64.wrap (1+v5.1))}with round:=v7.1}with state:={aH.zero with aF:=M.aF}},v7.2)else(if decide (i64.wrap (1+v5.1)=10)then(nQ 5 v7.2).bind λ H=>(if decide (H.1=0)then some ({{{{{{{aL.zero with kind:=(i64.wrap (1+v5.1))}with round:=v7.1}with epoch:=v6.1}with aM:=v4}with gen:=v6.1}with label:=H.1}with label:=(-1)},H.2)else some ({{{{{{aL.zero with kind:=(i64.wrap (1+v5.1))}with round:=v7.1}with epoch:=v6.1}with aM:=v4}with gen:=v6.1}with label:=H.1},H.2))else(if decide (i64.wrap (1+v5.1)=11)then(nQ 2 v7.2).bind λ U=>some ({{{{aL.zero with kind:=(i64.wrap (1+v5.1))}with round:=v7.1}with aM:=v4}with done:=(decide (U.1=0))},U.2)else(if decide (i64.wrap (1+v5.1)=12)then(nQ 4 v7.2).bind λ Y=>some ({{{aL.zero with kind:=(i64.wrap (1+v5.1))}with epoch:=v7.1}with site:=Y.1},Y.2)else some ({{aL.zero with kind:=(i64.wrap (1+v5.1))}with epoch:=v7.1},v7.2)))))))
@[go_sem] def bV8(H:List Int)(v4:aK)(v5 v6 v7:Int×bK)(O:Bool):St:=⟨[(0,.ptr 0 0 0),(1,.sl (H.map (eI i64))),(4,.ptr 1 0 0),(8,.ptr 2 0 0),(9,.ptr 3 0 0),(10,.int i64 v6.1),(11,.int i64 v7.1),(37,.int i64 (i64.wrap (1+v5.1))),(104,.bool O)],[(0,bx v7.2),(1,bx aL.zero),(2,bx v4),(3,bx ({aL.zero with kind:=(i64.wrap (1+v5.1))}))],4⟩
def EZ(Y:List Int)(v1:(List aI)×(List bP))(v2:Int×bK)(v4:aK)(v5 v6 v7:Int×bK)(j1:Bool):Option (aL×bK):=(if j1 then(if decide (2<v7.1)then(b9 (v1.1.getD v2.1.toNat aI.zero) v7.1).bind λ O=>EX v7 ({{{{{aL.zero with kind:=(i64.wrap (1+v5.1))}with aM:=v4}with gen:=v6.1}with aZ:={aO.zero with name:=(v1.1.getD v2.1.toNat aI.zero).name}}with aZ:={({aO.zero with name:=(v1.1.getD v2.1.toNat aI.zero).name})with aJ:=O}})else EX v7 ({{{{aL.zero with kind:=(i64.wrap (1+v5.1))}with aM:=v4}with gen:=v6.1}with aZ:={aO.zero with name:=(v1.1.getD v2.1.toNat aI.zero).name}}))else(if decide (i64.wrap (1+v5.1)=4)then(b9 (v1.1.getD v2.1.toNat aI.zero) v7.1).bind λ U=>some ({{{{aL.zero with kind:=(i64.wrap (1+v5.1))}with aM:=v4}with gen:=v6.1}with aZ:=(⟨(v1.1.getD v2.1.toNat aI.zero).name,U⟩:aO)},v7.2)else(if decide (i64.wrap (1+v5.1)=5)then(nQ 4 v7.2).bind λ H=>some ({{{aL.zero with kind:=(i64.wrap (1+v5.1))}with site:=H.1}with inc:=(i64.wrap (1+v7.1))},H.2)else(if decide (i64.wrap (1+v5.1)=6)then EY Y v4 v5 v6 v7 (decide (i64.wrap (1+v5.1)=6))else EY Y v4 v5 v6 v7 (decide (i64.wrap (1+v5.1)=8))))))
@[go_sem] def bV9(H:List Int)(v1:(List aI)×(List bP))(v2:Int×bK)(v4:aK)(v5 v6 v7:Int×bK)(j1:Bool):St:=⟨[(0,.ptr 0 0 0),(1,.sl (H.map (eI i64))),(4,.ptr 1 0 0),(7,.ptr 2 0 0),(8,.ptr 3 0 0),(9,.ptr 4 0 0),(10,.int i64 v6.1),(11,.int i64 v7.1),(37,.int i64 (i64.wrap (1+v5.1))),(56,.bool j1)],[(0,bx v7.2),(1,bx aL.zero),(2,bx (v1.1.getD v2.1.toNat aI.zero)),(3,bx v4),(4,bx ({aL.zero with kind:=(i64.wrap (1+v5.1))}))],5⟩
def E0(O:List Int)(Y:bK):Option (aL×bK):=(i5 O).bind λ v1=>(nQ (v1.1.length:Int) Y).bind λ v2=>gd (0<=v2.1/\v2.1<v1.1.length)<|(nQ 8 v2.2).bind λ v3=>(y3 v3.1).bind λ v4=>(nQ 15 v3.2).bind λ v5=>(nQ 6 v5.2).bind λ v6=>(nQ 6 v6.2).bind λ H=>(if decide (i64.wrap (1+v5.1)=1)then(b9 (v1.1.getD v2.1.toNat aI.zero) H.1).bind λ B=>(nQ 4 H.2).bind λ U=>some ({{{{{aL.zero with kind:=(i64.wrap (1+v5.1))}with aM:=v4}with gen:=v6.1}with aZ:=(⟨(v1.1.getD v2.1.toNat aI.zero).name,B⟩:aO)}with bC:=U.1},U.2)else(if decide (i64.wrap (1+v5.1)=2)then EZ O v1 v2 v4 v5 v6 H (decide (i64.wrap (1+v5.1)=2))else EZ O v1 v2 v4 v5 v6 H (decide (i64.wrap (1+v5.1)=3))))
def bVa(O:List Int)(a1:bK)(r:aL×bK)(h:E0 O a1=some r):MFn C 8 [.ptr 0 0 0,.sl (O.map (eI i64))] [(0,bx a1)] 1 (ga r.1) [(0,bx r.2)] 1:=by
 refine oZ Tryz.f8 [] [ga r.1] λ E hG hN hK=>?_;unfold E0 at h;refine lW (lX hG ?_);refine lW (lX hG ?_);obtain⟨v1,p0,h⟩:=lZ h;refine nC (λ hg=>(bMl O).ok _ p0) ?_;refine lW (lX hG ?_);obtain⟨v2,hv2,h⟩:=lZ h;obtain⟨e0,h⟩:=mH h;refine mO [(0,0)] [] [0] ((qI (v1.1.length:Int) a1).ok _ hv2) rfl rfl ?_;refine lW (lX hG ?_);obtain⟨v3,hv3,h⟩:=lZ h;refine mO [(0,0)] [] [0] ((qI 8 v2.2).ok _ hv3) rfl rfl ?_;obtain⟨v4,hv4,h⟩:=lZ h;refine nC (λ hg=>(aZl v3.1).ok _ hv4) ?_;refine lW (lX hG ?_);obtain⟨v5,hv5,h⟩:=lZ h;refine mO [(0,0)] [] [0] ((qI 15 v3.2).ok _ hv5) rfl rfl ?_;refine lW (lX hG ?_);obtain⟨v6,q0,h⟩:=lZ h;refine mO [(0,0)] [] [0] ((qI 6 v5.2).ok _ q0) rfl rfl ?_;obtain⟨H,r0,h⟩:=lZ h;refine mO [(0,0)] [] [0] ((qI 6 v6.2).ok _ r0) rfl rfl ?_;refine lW (lW (lX hG ?_));refine oG (lW (lX hG ?_));refine mA rfl hG h (λ _ h=>?_) (λ _ h=>?_)
 · refine qD oL hG ?_
   obtain⟨v8,s0,h⟩:=lZ h;refine sD (λ hg=>(Nx (v1.1.getD v2.1.toNat aI.zero) H.1).ok _ s0) ?_;obtain⟨v9,t0,h⟩:=lZ h;refine vC [(0,0)] [] [0] ((qI 4 H.2).ok _ t0) rfl rfl ?_;refine lW (lX hG ?_);refine mG ?_;exact mW [(0,0)] h
 refine lW (lW (lX hG ?_));refine rN (bV9 O v1 v2 v4 v5 v6 H) (λ v=>EZ O v1 v2 v4 v5 v6 H v=some r) rfl hG h ?_ (λ _ h=>?_) (λ _ h=>?_)
 · intro j1 h
   unfold EZ at h;refine g_st ?_;refine mA rfl hG h (λ _ h=>?_) (λ _ h=>?_)
   · refine lW (qD oL hG ?_)
     refine lW (lW (lX hG ?_));refine rN (bV7 H) (λ v=>EX H v=some r) rfl hG h ?_ (λ _ h=>?_) (λ _ h=>?_)
     · intro j2 h
       unfold EX at h;refine g_st ?_;refine lX hG ?_;obtain⟨f0,U,h⟩:=lZ h;refine FW [(0,0)] [0] U (λ hc=>(qI 2 H.2).ok _ hc) rfl ?_;refine lW (lX hG ?_);refine mG ?_;exact mW [(0,0)] h
     · refine lX hG ?_
       obtain⟨c0,Y,h⟩:=lZ h;refine nC (λ hg=>(Nx (v1.1.getD v2.1.toNat aI.zero) H.1).ok _ Y) ?_;exact mT hK [(0,0),(1,1),(2,4)] ({{{{{aL.zero with kind:=(i64.wrap (1+v5.1))}with aM:=v4}with gen:=v6.1}with aZ:={aO.zero with name:=(v1.1.getD v2.1.toNat aI.zero).name}}with aZ:={({aO.zero with name:=(v1.1.getD v2.1.toNat aI.zero).name})with aJ:=c0}}) (by exact h)
     refine mE ?_;exact mT hK [(0,0),(1,1),(2,4)] ({{{{aL.zero with kind:=(i64.wrap (1+v5.1))}with aM:=v4}with gen:=v6.1}with aZ:={aO.zero with name:=(v1.1.getD v2.1.toNat aI.zero).name}}) (by exact h)
   refine lW (lX hG ?_);refine mA rfl hG h (λ _ h=>?_) (λ _ h=>?_)
   · refine qD oL hG ?_
     obtain⟨g0,B,h⟩:=lZ h;refine sD (λ hg=>(Nx (v1.1.getD v2.1.toNat aI.zero) H.1).ok _ B) ?_;refine lW (lX hG ?_);refine mG ?_;exact mW [(0,0)] h
   refine lW (lX hG ?_);refine mA rfl hG h (λ _ h=>?_) (λ _ h=>?_)
   · refine lX hG ?_
     obtain⟨l0,F,h⟩:=lZ h;refine mO [(0,0)] [] [0] ((qI 4 H.2).ok _ F) rfl rfl ?_;refine lW (lX hG ?_);refine mG ?_;exact mW [(0,0)] h
   refine lW (lW (lX hG ?_));refine rN (bV8 O v4 v5 v6 H) (λ v=>EY O v4 v5 v6 H v=some r) rfl hG h ?_ (λ _ h=>?_) (λ _ h=>?_)
   · intro j3 h
     unfold EY at h;refine g_st ?_;refine mA rfl hG h (λ _ h=>?_) (λ _ h=>?_)
     · refine lX hG ?_
       refine lW (lX hG ?_);refine mG ?_;exact mW [(0,0)] h
     refine lW (lX hG ?_);refine mA rfl hG h (λ _ h=>?_) (λ _ h=>?_)
     · refine lW (lX hG ?_)
       obtain⟨d0,M,h⟩:=lZ h;refine nC (λ hg=>(bUo O).ok _ M) ?_;refine qD oL hG ?_;obtain⟨m0,h0,h⟩:=lZ h;refine sD (λ hg=>(Uo d0).ok _ h0) ?_;obtain⟨n0,x0,h⟩:=lZ h;refine sD (λ hg=>bV4 _ _ _ x0) ?_;refine lW (lX hG ?_);refine mG ?_;exact mW [(0,0)] h
     refine lW (lX hG ?_);refine mA rfl hG h (λ _ h=>?_) (λ _ h=>?_)
     · refine lX hG ?_
       obtain⟨j0,y0,h⟩:=lZ h;refine nC (λ hg=>(bV6 O).ok _ y0) ?_;refine lW (lX hG ?_);refine mG ?_;exact mW [(0,0)] h
     refine lW (lX hG ?_);refine mA rfl hG h (λ _ h=>?_) (λ _ h=>?_)
     · refine lW (qD oL hG ?_)
       obtain⟨o0,z0,h⟩:=lZ h;refine vC [(0,0)] [] [0] ((qI 5 H.2).ok _ z0) rfl rfl ?_;refine lW (lX hG ?_);refine mA rfl hG h (λ _ h=>?_) (λ _ h=>?_)
       · refine lX hG ?_
         refine lW (lX hG ?_);refine mG ?_;exact mW [(0,0)] h
       refine mE ?_;refine lW (lX hG ?_);refine mG ?_;exact mW [(0,0)] h
     refine lW (lX hG ?_);refine mA rfl hG h (λ _ h=>?_) (λ _ h=>?_)
     · refine qD oL hG ?_
       obtain⟨b0,u0,h⟩:=lZ h;refine vC [(0,0)] [] [0] ((qI 2 H.2).ok _ u0) rfl rfl ?_;refine lW (lX hG ?_);refine mG ?_;exact mW [(0,0)] h
     refine lW (lX hG ?_);refine mA rfl hG h (λ _ h=>?_) (λ _ h=>?_)
     · refine lX hG ?_
       obtain⟨h1,v0,h⟩:=lZ h;refine mO [(0,0)] [] [0] ((qI 4 H.2).ok _ v0) rfl rfl ?_;refine lW (lX hG ?_);refine mG ?_;exact mW [(0,0)] h
     refine lX hG ?_;refine lW (lX hG ?_);refine mG ?_;exact mW [(0,0)] h
   · refine mE ?_
     exact mT hK [(0,0),(1,1),(2,3),(3,4)] (decide (i64.wrap (1+v5.1)=6)) (by exact h)
   refine lX hG ?_;exact mT hK [(0,0),(1,1),(2,3),(3,4)] (decide (i64.wrap (1+v5.1)=8)) (by exact h)
 · refine mE ?_
   exact mT hK [(0,0),(1,1),(2,2),(3,3),(4,4)] (decide (i64.wrap (1+v5.1)=2)) (by exact h)
 refine lX hG ?_;exact mT hK [(0,0),(1,1),(2,2),(3,3),(4,4)] (decide (i64.wrap (1+v5.1)=3)) (by exact h)
instance bVb(H:List Int)(O:bK):OkM (E0 H O) 8 [.ptr 0 0 0,.sl (H.map (eI i64))] [(0,bx O)] 1 (λ r=>ga r.1) (λ r=>[(0,bx r.2)]) 1:=⟨bVa H O⟩
def N6(j1:Unit):Option Bool:=(Cf).bind λ H=>some H
def HH(v3:(List Int)×Int)(H:Int):Option (Int⊕(Unit⊕Bool)):=(if decide (H<v3.1.length)then gd (0<=0/\0<=H/\H<=v3.1.length)<|(tB (v3.1.take H.toNat)).bind λ O=>(if !decide (O.2=5)then some (.inr (.inr false))else some (.inl (i64.wrap (H+1))))else some (.inr (.inl ())))
def E1(O U H:List Int):Option Bool:=(if (((!(Jr O))||decide (20<(U.length:Int)))||decide ((H.length:Int)=0))||decide (100<(H.length:Int))then(Cf).bind λ v1=>some v1 else(E0 O ({bK.zero with l:=U})).bind λ v2=>(Ce v2.1).bind λ v3=>(j9 v2.1).bind λ v4=>(if !v4 then(Cf).bind λ v5=>some (v5&&decide (v3.2=2))else(tB v3.1).bind λ v6=>gd (v3.1.length<=4294967296)<|gd (v3.1.length+H.length<=4294967296)<|(tB (v3.1++H)).bind λ Y=>(if !((!decide (v3.2=0))||(!decide (v6.2=0)))then d9 v6.1 v2.1 else some false).bind λ B=>(if (((!decide (v3.2=0))||(!decide (v6.2=0)))||(!B))||(!decide (Y.2=6))then some false else(lY (HH v3) 0).bind (λ|.inl z=>N6 z|.inr z=>some z))))
@[reducible,instance]def bVd a0 a1 a2:=mkJ ((((((E1 a0 a1 a2,v1),v2),v3),v4),v5),v6) 0 (@N6.eq_1) λ j1=>⟨[],[],0⟩
@[reducible,instance]def bVe (v3:(List Int)×Int):=mkL x (@HH.eq_1 v3) λ H=>⟨[(8,.sl (v3.1.map (eI u8))),(14,.int i64 H)],[],0⟩
instance bVf(H O U:List Int):OkP (E1 H O U) 3 [.sl (H.map (eI i64)),.sl (O.map (eI i64)),.sl (U.map (eI u8))] .bool:=ok1 (E1.eq_1 H O U) Tryz.f3 []
end
end Ab
end Go.Proofs.YtfmnjkfhahfhgaaGreatDoor
