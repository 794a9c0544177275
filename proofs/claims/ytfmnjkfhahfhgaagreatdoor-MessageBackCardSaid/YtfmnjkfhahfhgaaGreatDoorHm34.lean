import Derived.Test.YtfmnjkfhahfhgaaGreatDoorHm29
import Derived.Test.YtfmnjkfhahfhgaaGreatDoorHm26
namespace Go.Proofs.YtfmnjkfhahfhgaaGreatDoor
namespace Ab
set_option linter.defProp false
open IntKind (i64 u64 u8)
set_option linter.unusedSimpArgs false
set_option linter.unusedVariables false
set_option maxRecDepth 100000
set_option maxHeartbeats 1000000
noncomputable section
variable {T T1 T2 T3 T4 : Type} (x : T) (v1 : T1) (v2 : T2) (v3 : T3) (v4 : T4)
def Hw(H:aG)(O:ByteArray)(v1:Int)(j1:bB):Option bB:=(tN H.bF.aQ O).bind λ v3=>gd (0<=v1/\v1<j1.c.aF.length)<|(rY (j1.c.aF.getD v1.toNat aA.zero) H.aM).bind λ v4=>(if !decide (v4=v3)then(j5 j1.c.aF H.aM (⟨O,v3⟩:aO)).bind λ v5=>(vF v5.1 v5.2.1 j1).bind λ v6=>some (⟨(⟨v6.1,v6.2.1,v6.2.2.1⟩:bD),v6.2.2.2⟩:bB)else some j1)
def Aq(O:aG)(U:ByteArray)(H:bB):Option bB:=(sR H.c.aF U).bind λ v1=>gd (0<=v1/\v1<H.c.aF.length)<|(uG (H.c.aF.getD v1.toNat aA.zero) O.aM).bind λ v2=>(if v2.2 then(Ez H.c.aF O.aM U).bind λ B=>(vF B.1 B.2.1 H).bind λ Y=>Hw O U v1 (⟨(⟨Y.1,Y.2.1,Y.2.2.1⟩:bD),Y.2.2.2⟩:bB)else Hw O U v1 H)
@[reducible,instance]def bSc (H:aG) (O:ByteArray) a2 (v1:Int):=mkJ ((Aq H O a2,v1),v2) 999 (@Hw.eq_1 H O v1) λ j1=>⟨[(0,.ptr 0 0 0),(2,.str O),(4,.ptr 3 0 0),(6,.int i64 v1)],[(0,⟨false,4,bB.enc bB.zero,[[.int i64 j1.c.now,la j1.c.aF,.own 4 0 j1.c.aD.length,.own 5 0 j1.ev.length]]⟩),(3,bx H),(4,sx j1.c.aD),(5,sx j1.ev)],6⟩
instance bSd(O:aG)(U:ByteArray)(H:bB):OkM (Aq O U H) 230 [.ptr 0 0 0,ga O,.str U] [(0,⟨false,4,bB.enc bB.zero,[[.int i64 H.c.now,la H.c.aF,.own 1 0 H.c.aD.length,.own 2 0 H.ev.length]]⟩),(1,sx H.c.aD),(2,sx H.ev)] 3 (λ r=>.tup []) (λ r=>[(0,⟨false,4,bB.enc bB.zero,[[.int i64 r.c.now,la r.c.aF,.own 3 0 r.c.aD.length,.own 4 0 r.ev.length]]⟩),(3,sx r.c.aD),(4,sx r.ev)]) 5:=okm (Aq.eq_1 O U H) (λ r=>[]) Tryz.f230 []
def N0(H:Int)(j1:bB):Option bB:=(Bb H j1).bind λ v2=>some (⟨(⟨v2.1,v2.2.1,v2.2.2.1⟩:bD),v2.2.2.2⟩:bB)
def KT(O:Int)(U:bB)(v1:(List aO))(H:Int×bB):Option ((Int×bB)⊕bB):=(if decide (H.1<v1.length)then gd (0<=H.1/\H.1<v1.length)<|(Aq (U.c.aD.getD O.toNat aG.zero) (v1.getD H.1.toNat aO.zero).name H.2).bind λ v3=>some (.inl (i64.wrap (H.1+1),v3))else some (.inr H.2))
def j7(H:Int)(O:bB):Option bB:=gd (0<=H/\H<((O.c.aD.length:Nat):Int))<|(vJ ((O.c.aD.getD H.toNat aG.zero).bJ).bU).bind λ v1=>(lY (KT H O v1) (0,O)).bind (λ z=>N0 H z)
@[reducible,instance]def bSf (H:Int) a1:=mkJ (j7 H a1,v1) 0 (@N0.eq_1 H) λ j1=>⟨[(0,.ptr 0 0 0),(1,.int i64 H)],[(0,⟨false,4,bB.enc bB.zero,[[.int i64 j1.c.now,la j1.c.aF,.own 3 0 j1.c.aD.length,.own 4 0 j1.ev.length]]⟩),(3,sx j1.c.aD),(4,sx j1.ev)],5⟩
@[reducible,instance]def bSg (O:Int) (U:bB) (v1:(List aO)):=mkL x (@KT.eq_1 O U v1) λ H=>⟨[(0,.ptr 0 0 0),(1,.int i64 O),(4,.ptr 3 0 0),(5,la v1),(6,.int i64 H.1)],[(0,⟨false,4,bB.enc bB.zero,[[.int i64 H.2.c.now,la H.2.c.aF,.own 4 0 H.2.c.aD.length,.own 5 0 H.2.ev.length]]⟩),(3,bx (U.c.aD.getD O.toNat aG.zero)),(4,sx H.2.c.aD),(5,sx H.2.ev)],6⟩
instance bSh(O:Int)(H:bB):OkM (j7 O H) 189 [.ptr 0 0 0,.int i64 O] [(0,⟨false,4,bB.enc bB.zero,[[.int i64 H.c.now,la H.c.aF,.own 1 0 H.c.aD.length,.own 2 0 H.ev.length]]⟩),(1,sx H.c.aD),(2,sx H.ev)] 3 (λ r=>.tup []) (λ r=>[(0,⟨false,4,bB.enc bB.zero,[[.int i64 r.c.now,la r.c.aF,.own 3 0 r.c.aD.length,.own 4 0 r.ev.length]]⟩),(3,sx r.c.aD),(4,sx r.ev)]) 5:=okm (j7.eq_1 O H) (λ r=>[]) Tryz.f189 []
def Um(j1:bB):Option bB:=some j1
def N1(U:Int×bB)(Y:bB):Option ((Int×bB)⊕bB):=(Bb U.1 Y).bind λ v6=>(uH U.1 (⟨(⟨v6.1,v6.2.1,v6.2.2.1⟩:bD),v6.2.2.2⟩:bB)).bind λ O=>(yH (⟨(⟨O.1,O.2.1,O.2.2.1⟩:bD),O.2.2.2⟩:bB)).bind λ H=>some (.inl (H.1,(⟨(⟨H.2.1,H.2.2.1,H.2.2.2.1⟩:bD),H.2.2.2.2⟩:bB)))
def Hx(O:Int×bB)(v4:(List Bool))(v5:(List aO))(H:Int×bB):Option ((Int×bB)⊕bB):=(if decide (H.1<v5.length)then gd (0<=H.1/\H.1<v5.length)<|gd (0<=H.1/\H.1<v4.length)<|(if !(v4.getD H.1.toNat false)then(Aq (O.2.c.aD.getD O.1.toNat aG.zero) (v5.getD H.1.toNat aO.zero).name H.2).bind λ M=>some (.inl (i64.wrap (H.1+1),M))else(sR H.2.c.aF (v5.getD H.1.toNat aO.zero).name).bind λ U=>gd (0<=U/\U<H.2.c.aF.length)<|(rY (H.2.c.aF.getD U.toNat aA.zero) (O.2.c.aD.getD O.1.toNat aG.zero).aM).bind λ Y=>gd (0<=O.1/\O.1<((H.2.c.aD.length:Nat):Int))<|(tN ((H.2.c.aD.getD O.1.toNat aG.zero).bF).aQ (v5.getD H.1.toNat aO.zero).name).bind λ B=>(if !decide (Y=B)then gd (0<=O.1/\O.1<((H.2.c.aD.length:Nat):Int))<|(Ea (H.2.c.aD.getD O.1.toNat aG.zero).bF (⟨(v5.getD H.1.toNat aO.zero).name,B,Y⟩:bN)).bind λ F=>gd (0<=O.1/\O.1<((H.2.c.aD.length:Nat):Int))<|some (.inl (i64.wrap (H.1+1),(⟨(⟨H.2.c.now,H.2.c.aF,H.2.c.aD.set O.1.toNat ({(H.2.c.aD.getD O.1.toNat aG.zero)with bF:=F.1})⟩:bD),H.2.ev⟩:bB)))else some (.inl (i64.wrap (H.1+1),H.2))))else some (.inr H.2))
def EJ(H:Int×bB):Option ((Int×bB)⊕bB):=(if decide (0<=H.1)then gd (0<=H.1/\H.1<((H.2.c.aD.length:Nat):Int))<|(s8 2 (H.2.c.aD.getD H.1.toNat aG.zero).aM H.2).bind λ v2=>(i9 v2.2.1 (H.2.c.aD.getD H.1.toNat aG.zero).aM ((H.2.c.aD.getD H.1.toNat aG.zero).bJ).bU).bind λ v3=>(Al ((H.2.c.aD.getD H.1.toNat aG.zero).bJ).bU v3).bind λ v4=>(vJ ((H.2.c.aD.getD H.1.toNat aG.zero).bJ).bU).bind λ v5=>(lY (Hx H v4 v5) (0,(⟨(⟨v2.1,v2.2.1,v2.2.2.1⟩:bD),v2.2.2.2⟩:bB))).bind (λ z=>N1 H z)else some (.inr H.2))
def sG(H:bB):Option bB:=(yH H).bind λ v1=>(lY EJ (v1.1,(⟨(⟨v1.2.1,v1.2.2.1,v1.2.2.2.1⟩:bD),v1.2.2.2.2⟩:bB))).bind (λ z=>Um z)
@[reducible,instance]def bSk a0:=mkJ (sG a0,v1) 0 (@Um.eq_1) λ j1=>⟨[],[(0,⟨false,4,bB.enc bB.zero,[[.int i64 j1.c.now,la j1.c.aF,.own 3 0 j1.c.aD.length,.own 4 0 j1.ev.length]]⟩),(3,sx j1.c.aD),(4,sx j1.ev)],5⟩
@[reducible,instance]def bSl (O:Int×bB):=mkJ ((((EJ O,v1),v2),v3),v4) 2 (@N1.eq_1 O) λ H=>⟨[(0,.ptr 0 0 0),(2,.int i64 O.1)],[(0,⟨false,4,bB.enc bB.zero,[[.int i64 H.c.now,la H.c.aF,.own 3 0 H.c.aD.length,.own 4 0 H.ev.length]]⟩),(3,sx H.c.aD),(4,sx H.ev)],5⟩
@[reducible,instance]def bSm (O:Int×bB) (v4:(List Bool)) (v5:(List aO)):=mkL x (@Hx.eq_1 O v4 v5) λ H=>⟨[(0,.ptr 0 0 0),(2,.int i64 O.1),(3,.ptr 3 0 0),(4,.sl (v4.map eB)),(5,la v5),(6,.int i64 H.1)],[(0,⟨false,4,bB.enc bB.zero,[[.int i64 H.2.c.now,la H.2.c.aF,.own 4 0 H.2.c.aD.length,.own 5 0 H.2.ev.length]]⟩),(3,bx (O.2.c.aD.getD O.1.toNat aG.zero)),(4,sx H.2.c.aD),(5,sx H.2.ev)],6⟩
@[reducible,instance]def bSn:=mkL x (@EJ.eq_1) λ H=>⟨[(0,.ptr 0 0 0),(2,.int i64 H.1)],[(0,⟨false,4,bB.enc bB.zero,[[.int i64 H.2.c.now,la H.2.c.aF,.own 3 0 H.2.c.aD.length,.own 4 0 H.2.ev.length]]⟩),(3,sx H.2.c.aD),(4,sx H.2.ev)],5⟩
instance bSo(H:bB):OkM (sG H) 191 [.ptr 0 0 0] [(0,⟨false,4,bB.enc bB.zero,[[.int i64 H.c.now,la H.c.aF,.own 1 0 H.c.aD.length,.own 2 0 H.ev.length]]⟩),(1,sx H.c.aD),(2,sx H.ev)] 3 (λ r=>.tup []) (λ r=>[(0,⟨false,4,bB.enc bB.zero,[[.int i64 r.c.now,la r.c.aF,.own 3 0 r.c.aD.length,.own 4 0 r.ev.length]]⟩),(3,sx r.c.aD),(4,sx r.ev)]) 5:=okm (sG.eq_1 H) (λ r=>[]) Tryz.f191 []
def Un(j1:aH):Option aH:=some j1
def KU(O:bD)(H:Int×aH):Option ((Int×aH)⊕aH):=(if decide (H.1<O.aD.length)then gd (0<=H.1/\H.1<O.aD.length)<|(if(O.aD.getD H.1.toNat aG.zero).bI=true then gd (0<=H.1/\H.1<O.aD.length)<|gd (0<=H.1/\H.1<O.aD.length)<|gd (0<=H.1/\H.1<O.aD.length)<|gd (H.2.aY.length+1<=4294967296)<|some (.inl (i64.wrap (H.1+1),(⟨H.2.aF,H.2.aY++[(⟨(O.aD.getD H.1.toNat aG.zero).aM,((O.aD.getD H.1.toNat aG.zero).bJ).bU,(O.aD.getD H.1.toNat aG.zero).gen⟩:bQ)]⟩:aH)))else some (.inl (i64.wrap (H.1+1),H.2)))else some (.inr H.2))
def j8(H:bD):Option aH:=(Ao H).bind λ v1=>(if !v1 then some ({aH.zero with})else gd (H.aF.length<=4294967296)<|(lY (KU H) (0,(⟨H.aF,[]⟩:aH))).bind (λ z=>Un z))
@[reducible,instance]def bSs (H:bD):=mkJ (j8 H,v1) 0 (@Un.eq_1) λ j1=>⟨[(2,.ptr 0 0 0),(3,.ptr 1 0 0)],[(0,bx aH.zero),(1,⟨false,2,aH.enc aH.zero,[[.own 2 0 j1.aF.length,.own 3 0 j1.aY.length]]⟩),(2,sx j1.aF),(3,sx j1.aY)],4⟩
@[reducible,instance]def bSt (O:bD):=mkL x (@KU.eq_1 O) λ H=>⟨[(1,.ptr 0 0 0),(2,.ptr 1 0 0),(3,.ptr 2 0 0),(4,.int i64 H.1)],[(0,bx O),(1,bx aH.zero),(2,⟨false,2,aH.enc aH.zero,[[.own 3 0 H.2.aF.length,.own 4 0 H.2.aY.length]]⟩),(3,sx H.2.aF),(4,sx H.2.aY)],5⟩
instance Uo(H:bD):OkP (j8 H) 21 [ga H] ga:=⟨λ r h=>by
 refine oN Tryz.f21 [(9,1),(13,4),(3,4)] λ E hG Y hK=>?_;have hm:Mk (j8 H):=trivial;unfold j8 at h;refine lW (lX hG ?_);refine lW (lW (lX hG ?_));obtain⟨v1,O,h⟩:=lZ h;have hm:=mkP hm v1;refine nC (λ hg=>(Ua H).ok _ O) ?_;refine mA rfl hG h (λ _ h=>?_) (λ _ h=>?_)
 .exact gogo
 refine mE ?_;refine lW ?_;obtain⟨U,h⟩:=mH h;refine lX hG ?_;refine g_gh (.ownb 4 1 9 (bQ.enc bQ.zero)) ?_;exact gogo⟩
def Hy(H:aH)(O:aK):Option Bool:=(zP H O).bind λ v1=>(if v1.2 then B7 H O else some []).bind λ v2=>(if v1.2 then Aj v1.1.bU v2 else some false).bind λ v3=>some ((!v1.2)||v3)
instance bSw(H:aH)(O:aK):OkP (Hy H O) 149 [ga H,ga O] .bool:=ok1 (Hy.eq_1 H O) Tryz.f149 []
def Up(j1:(List aK)):Option (List aK):=some j1
def Hz(O:aH)(v2:(List aK))(H:Int×(List aK)):Option ((Int×(List aK))⊕(List aK)):=(if decide (H.1<v2.length)then gd (0<=H.1/\H.1<v2.length)<|(Hy O (v2.getD H.1.toNat aK.zero)).bind λ v3=>(if v3 then gd (0<=H.1/\H.1<v2.length)<|gd (H.2.length+1<=4294967296)<|some (.inl (i64.wrap (H.1+1),H.2++[v2.getD H.1.toNat aK.zero]))else some (.inl (i64.wrap (H.1+1),H.2)))else some (.inr H.2))
def Ca(H:aH):Option (List aK):=(vL H).bind λ v1=>(if !v1 then some [] else(i7 H).bind λ v2=>(lY (Hz H v2) (0,[])).bind (λ z=>Up z))
@[reducible,instance]def bT0 a0:=mkJ ((Ca a0,v1),v2) 0 (@Up.eq_1) λ j1=>⟨[(3,.own 0 0 j1.length)],[(0,sx j1)],1⟩
@[reducible,instance]def bT1 (O:aH) (v2:(List aK)):=mkL x (@Hz.eq_1 O v2) λ H=>⟨[(1,.ptr 0 0 0),(3,.own 1 0 H.2.length),(4,la v2),(5,.int i64 H.1)],[(0,bx O),(1,sx H.2)],2⟩
instance bT2(H:aH):OkP (Ca H) 95 [ga H] la:=ok1 (Ca.eq_1 H) Tryz.f95 [(3,1)]
def Uq(j1:(List Int)):Option (List Int):=some j1
def N2(H:Int×(List Int))(O:(List Int)):Option ((Int×(List Int))⊕(List Int)):=some (.inl (i64.wrap (H.1+1),O))
def HA(O:aL)(H:Int×(List Int)):Option ((Int×(List Int))⊕(List Int)):=(if decide (H.1<O.options.length)then gd (0<=H.1/\H.1<O.options.length)<|(BS H.2 (O.options.getD H.1.toNat aP.zero)).bind λ U=>some (.inl (i64.wrap (H.1+1),U))else some (.inr H.2))
def Ar (O:aL) (H:Int×(List Int)):Option ((Int×(List Int))⊕(List Int)):=(if decide (H.1<(((mY O.kind).toList.map λ b=>(b.toNat:Int)).length:Int))then gd (0<=H.1/\H.1<(((mY O.kind).toList.map λ b=>(b.toNat:Int)).length:Int))<|(if decide (((mY O.kind).toList.map λ b=>(b.toNat:Int)).getD H.1.toNat 0=80)then(Bp H.2 O.aM).bind λ v2=>some (.inl (i64.wrap (H.1+1),v2))else(if decide (((mY O.kind).toList.map λ b=>(b.toNat:Int)).getD H.1.toNat 0=71)then(pQ H.2 (u64.wrap O.gen)).bind λ v3=>some (.inl (i64.wrap (H.1+1),v3))else(if decide (((mY O.kind).toList.map λ b=>(b.toNat:Int)).getD H.1.toNat 0=65)then(DG H.2 O.aZ.name).bind λ v4=>(pQ v4 (u64.wrap O.aZ.aJ.mode)).bind λ v5=>(pQ v5 (u64.wrap O.aZ.aJ.aU)).bind λ v6=>some (.inl (i64.wrap (H.1+1),v6))else(if decide (((mY O.kind).toList.map λ b=>(b.toNat:Int)).getD H.1.toNat 0=89)then(pQ H.2 (u64.wrap O.bC)).bind λ v7=>some (.inl (i64.wrap (H.1+1),v7))else(if decide (((mY O.kind).toList.map λ b=>(b.toNat:Int)).getD H.1.toNat 0=68)then(if O.done then gd (H.2.length+1<=4294967296)<|some (.inl (i64.wrap (H.1+1),H.2++[1]))else gd (H.2.length+1<=4294967296)<|some (.inl (i64.wrap (H.1+1),H.2++[0])))else(if decide (((mY O.kind).toList.map λ b=>(b.toNat:Int)).getD H.1.toNat 0=83)then(pQ H.2 (u64.wrap O.site)).bind λ v8=>some (.inl (i64.wrap (H.1+1),v8))else(if decide (((mY O.kind).toList.map λ b=>(b.toNat:Int)).getD H.1.toNat 0=73)then(pQ H.2 (u64.wrap O.inc)).bind λ v9=>some (.inl (i64.wrap (H.1+1),v9))else(if decide (((mY O.kind).toList.map λ b=>(b.toNat:Int)).getD H.1.toNat 0=82)then(pQ H.2 (u64.wrap O.round)).bind λ B=>some (.inl (i64.wrap (H.1+1),B))else(if decide (((mY O.kind).toList.map λ b=>(b.toNat:Int)).getD H.1.toNat 0=69)then(pQ H.2 (u64.wrap O.epoch)).bind λ F=>some (.inl (i64.wrap (H.1+1),F))else(if decide (((mY O.kind).toList.map λ b=>(b.toNat:Int)).getD H.1.toNat 0=76)then(pQ H.2 (u64.wrap (i64.wrap (O.label+1)))).bind λ M=>some (.inl (i64.wrap (H.1+1),M))else(if decide (((mY O.kind).toList.map λ b=>(b.toNat:Int)).getD H.1.toNat 0=87)then(B9 O.state).bind λ U=>(pQ H.2 (u64.wrap (U.1.length:Int))).bind λ Y=>gd (Y.length+U.1.length<=4294967296)<|some (.inl (i64.wrap (H.1+1),Y++U.1))else(if decide (((mY O.kind).toList.map λ b=>(b.toNat:Int)).getD H.1.toNat 0=79)then(pQ H.2 (u64.wrap (O.options.length:Int))).bind λ h0=>(lY (HA O) (0,h0)).bind (λ z=>N2 H z)else some (.inl (i64.wrap (H.1+1),H.2))))))))))))))else some (.inr H.2))
def Cb(H:aL):Option (List Int):=(pQ [] (u64.wrap H.kind)).bind λ v1=>gd ((mY H.kind).size<=4294967296)<|(lY (Ar H) (0,v1)).bind (λ z=>Uq z)
@[reducible,instance]def bT6 (H:aL):=mkJ (Cb H,v1) 0 (@Uq.eq_1) λ j1=>⟨[(3,.own 0 0 j1.length)],[(0,⟨false,1,[A.int u8 0],j1.map (eI u8)⟩)],1⟩
@[reducible,instance]def bT7 (H:aL) (O:Int×(List Int)):=mkJ (Ar H O,v1) 3 (@N2.eq_1 O) λ U=>⟨[(1,.ptr 0 0 0),(3,.own 1 0 U.length),(17,.sl (((mY H.kind).toList.map λ b=>(b.toNat:Int)).map (eI u8))),(18,.int i64 (((mY H.kind).toList.map λ b=>(b.toNat:Int)).length:Int)),(19,.int i64 O.1)],[(0,bx H),(1,⟨false,1,[A.int u8 0],U.map (eI u8)⟩)],2⟩
@[reducible,instance]def bT8 (H:aL) (U:Int×(List Int)):=mkL (Ar H U,v1) (@HA.eq_1 H) λ O=>⟨[(1,.ptr 0 0 0),(3,.own 1 0 O.2.length),(17,.sl (((mY H.kind).toList.map λ b=>(b.toNat:Int)).map (eI u8))),(18,.int i64 (((mY H.kind).toList.map λ b=>(b.toNat:Int)).length:Int)),(19,.int i64 U.1),(136,la H.options),(137,.int i64 H.options.length),(138,.int i64 O.1)],[(0,bx H),(1,⟨false,1,[A.int u8 0],O.2.map (eI u8)⟩)],2⟩
@[reducible,instance]def bT9 (H:aL):=mkL x (@Ar.eq_1 H) λ O=>⟨[(1,.ptr 0 0 0),(3,.own 1 0 O.2.length),(17,.sl (((mY H.kind).toList.map λ b=>(b.toNat:Int)).map (eI u8))),(18,.int i64 (((mY H.kind).toList.map λ b=>(b.toNat:Int)).length:Int)),(19,.int i64 O.1)],[(0,bx H),(1,⟨false,1,[A.int u8 0],O.2.map (eI u8)⟩)],2⟩
instance bTa(H:aL):OkP (Cb H) 28 [ga H] (λ r=>.sl (r.map (eI u8))):=⟨λ r h=>by
 refine oN Tryz.f28 [(29,1),(43,1)] λ E hG U hK=>?_;have hm:Mk (Cb H):=trivial;unfold Cb at h;refine lW (lX hG ?_);refine lW (lX hG ?_);obtain⟨v1,O,h⟩:=lZ h;have hm:=mkP hm v1;refine mO [] [(0,1)] [0] (MFn.unfull1 ((aUv [] (u64.wrap H.kind)).ok _ O)) rfl rfl ?_;exact gogo⟩
def N3(H:aL)(j1:Unit):Option Bool:=(Cb H).bind λ v3=>some (decide ((v3.length:Int)<=4064))
def KV(O:aL)(H:Int):Option (Int⊕(Unit⊕Bool)):=(if decide (H<(((mY O.kind).toList.map λ b=>(b.toNat:Int)).length:Int))then gd (0<=H/\H<(((mY O.kind).toList.map λ b=>(b.toNat:Int)).length:Int))<|(yI O (((mY O.kind).toList.map λ b=>(b.toNat:Int)).getD H.toNat 0)).bind λ v4=>(if !v4 then some (.inr (.inr false))else some (.inl (i64.wrap (H+1))))else some (.inr (.inl ())))
def j9(H:aL):Option Bool:=(if !((mY H.kind).toList==(⟨#[]⟩:ByteArray).toList)then Bj H else some aL.zero).bind λ v1=>(if !((mY H.kind).toList==(⟨#[]⟩:ByteArray).toList)then d9 H v1 else some false).bind λ v2=>(if ((mY H.kind).toList==(⟨#[]⟩:ByteArray).toList)||(!v2)then some false else gd ((mY H.kind).size<=4294967296)<|(lY (KV H) 0).bind (λ|.inl z=>N3 H z|.inr z=>some z))
@[reducible,instance]def bTd (H:aL):=mkJ ((j9 H,v1),v2) 0 (@N3.eq_1 H) λ j1=>⟨[(1,.ptr 0 0 0)],[(0,bx H)],1⟩
@[reducible,instance]def bTe (H:aL):=mkL x (@KV.eq_1 H) λ O=>⟨[(1,.ptr 0 0 0),(19,.sl (((mY H.kind).toList.map λ b=>(b.toNat:Int)).map (eI u8))),(20,.int i64 (((mY H.kind).toList.map λ b=>(b.toNat:Int)).length:Int)),(21,.int i64 O)],[(0,bx H)],1⟩
instance bTf(H:aL):OkP (j9 H) 10 [ga H] .bool:=ok1 (j9.eq_1 H) Tryz.f10 []
def KW(j1:aL):Option Bool:=(DC j1).bind λ v2=>some v2
@[go_sem] def bTh(j1:aL):St:=⟨[(4,.ptr 0 0 0)],[(0,bx j1)],1⟩
def EK(H:aL)(v1:(List (Int×bM)))(O:Int×aL):Option ((Int×aL)⊕(aL⊕Bool)):=(if decide (O.1<((Arr.get nD H.kind.toNat ⟨#[]⟩).size:Int))then gd (0<=H.kind/\H.kind<16)<|gd (0<=O.1/\O.1<((Arr.get nD H.kind.toNat ⟨#[]⟩).size:Int))<|(if(oA (((Arr.get nD H.kind.toNat ⟨#[]⟩).toList.getD O.1.toNat 0).toNat:Int) v1).isSome=true then(oM ((oA (((Arr.get nD H.kind.toNat ⟨#[]⟩).toList.getD O.1.toNat 0).toNat:Int) v1).getD bM.zero).of).bind λ v3=>(if (decide (nI H v3<((oA (((Arr.get nD H.kind.toNat ⟨#[]⟩).toList.getD O.1.toNat 0).toNat:Int) v1).getD bM.zero).low)||decide (((oA (((Arr.get nD H.kind.toNat ⟨#[]⟩).toList.getD O.1.toNat 0).toNat:Int) v1).getD bM.zero).high<nI H v3))||(decide ((((Arr.get nD H.kind.toNat ⟨#[]⟩).toList.getD O.1.toNat 0).toNat:Int)=66)&&decide (nI H v3=0))then some (.inr (.inr false))else(oM ((oA (((Arr.get nD H.kind.toNat ⟨#[]⟩).toList.getD O.1.toNat 0).toNat:Int) v1).getD bM.zero).of).bind λ v4=>some (.inl (i64.wrap (O.1+1),sP O.2 v4 0)))else(uO H (((Arr.get nD H.kind.toNat ⟨#[]⟩).toList.getD O.1.toNat 0).toNat:Int)).bind λ v5=>(if !v5 then some (.inr (.inr false))else(A4 (((Arr.get nD H.kind.toNat ⟨#[]⟩).toList.getD O.1.toNat 0).toNat:Int) O.2).bind λ v6=>some (.inl (i64.wrap (O.1+1),v6))))else some (.inr (.inl O.2)))
@[go_sem] def bTi(H:aL)(v1:(List (Int×bM)))(O:Int×aL):St:=⟨[(1,.ptr 0 0 0),(3,.mp 1),(4,.ptr 2 0 0),(21,.int i64 ((Arr.get nD H.kind.toNat ⟨#[]⟩).size:Int)),(22,.int i64 O.1)],[(0,bx H),(1,⟨false,0,[A.int u8 0,A.bool true],v1.map (mI u8 bM.enc)⟩),(2,bx O.2)],3⟩
def EL(H:aL):Option Bool:=(if !(Dj H.kind)then some false else(zV).bind λ v1=>gd (0<=H.kind/\H.kind<16)<|(lY (EK H v1) (0,{H with kind:=0})).bind (λ|.inl z=>KW z|.inr z=>some z))
def bTj(U:aL)(r:Bool)(h:EL U=some r):PFn C 39 [ga U] (.bool r):=by
 refine oN Tryz.f39 [(40,1),(63,1)] λ E hG hN hK=>?_;unfold EL at h;refine lW (lX hG ?_);refine lW (lW (lX hG ?_));refine nC (λ hg=>(Sn U.kind).ok) ?_;refine mA rfl hG h (λ _ h=>?_) (λ _ h=>?_)
 · refine lW (lX hG ?_)
   refine mG ?_;exact nM h
 refine mE ?_;refine lW (lX hG ?_);obtain⟨v1,Y,h⟩:=lZ h;refine mO [] [(0,1)] [0] ((Ge).ok _ Y) rfl rfl ?_;refine lW (lX hG ?_);refine lW (lX hG ?_);refine lW (lW ?_);obtain⟨x0,h⟩:=mH h;refine lX hG ?_;refine pU bTh (λ v=>KW v=some r) ?_ ?_
 · intro j1 h
   unfold KW at h;refine g_st ?_;refine lW (lX hG ?_);obtain⟨v2,hv2,h⟩:=lZ h;refine nC (λ hg=>bAi _ _ hv2) ?_;refine mG ?_;exact nM h
 refine qH (bTi U v1) hK [(0,0),(1,1),(2,2)] h (λ F h M h0 H O=>?_);unfold EK at H;refine g_st ?_;refine lW (lX hG ?_);refine lW ?_;refine mA rfl hG H (λ _ H=>?_) (λ _ H=>?_)
 · refine mE ?_
   refine lW (oG (lW (lX hG ?_)));refine lW ?_;obtain⟨y0,H⟩:=mH H;obtain⟨z0,H⟩:=mH H;refine lX hG ?_;refine lW (lW (lX hG ?_));refine lW (lX hG ?_);refine mA rfl hG H (λ _ H=>?_) (λ _ H=>?_)
   · refine lW (lX hG ?_)
     obtain⟨v3,hv3,H⟩:=lZ H;refine mO [(0,0)] [] [0] (AZ _ _ _ hv3) rfl rfl ?_ (ho:=by first|exact⟨by trivial,tM hv3⟩|exact tM hv3);refine lW (lW (lX hG ?_));refine mA rfl hG H (λ _ H=>?_) (λ _ H=>?_)
     · refine lW (lX hG ?_)
       refine mG ?_;cases H;cases O _ rfl;exact nM h
     refine mE ?_;refine lW (lX hG ?_);obtain⟨v4,hv4,H⟩:=lZ H;refine mO [(0,2)] [] [0] (AZ _ _ _ hv4) rfl rfl ?_ (ho:=by first|exact⟨by trivial,tM hv4⟩|exact tM hv4);refine oI ?_;refine lX hG ?_;exact oU hK [(0,0),(1,1),(2,2)] H
   refine mE ?_;refine lW (lW (lX hG ?_));obtain⟨v5,hv5,H⟩:=lZ H;refine nC (λ hg=>(bNw U (((Arr.get nD U.kind.toNat ⟨#[]⟩).toList.getD M.1.toNat 0).toNat:Int)).ok _ hv5) ?_;refine mA rfl hG H (λ _ H=>?_) (λ _ H=>?_)
   · refine lW (lX hG ?_)
     refine mG ?_;cases H;cases O _ rfl;exact nM h
   refine mE ?_;refine lX hG ?_;obtain⟨v6,B,H⟩:=lZ H;refine mO [(0,2)] [] [0] (aTh _ _ _ B) rfl rfl ?_;refine lX hG ?_;exact oU hK [(0,0),(1,1),(2,2)] H
 refine oI ?_;cases H;cases O _ rfl;exact mT hK [(0,2)] M.2 (by exact h)
instance bTk(H:aL):OkP (EL H) 39 [ga H] .bool:=⟨bTj H⟩
def Cc(H:aR):Option (aH×aR):=(sS H).bind λ v1=>(if !decide (v1.2.err=0)then some ({aH.zero with},v1.2)else(if decide ((v1.2.b.length:Int)<v1.1)then some ({aH.zero with},{v1.2 with err:=5})else gd (0<=0/\0<=v1.1/\v1.1<=(v1.2.b.length:Int)/\v1.1=v1.1)<|(B0 (v1.2.b.take v1.1.toNat)).bind λ v2=>(if !decide (v2.2=0)then some ({aH.zero with},{v1.2 with err:=v2.2})else gd (0<=v1.1/\v1.1<=(v1.2.b.length:Int)/\(v1.2.b.length:Int)<=(v1.2.b.length:Int))<|some (v2.1,{v1.2 with b:=(v1.2.b.drop v1.1.toNat)}))))
instance bTl(H:aR):OkM (Cc H) 74 [.ptr 0 0 0] [(0,bx H)] 1 (λ r=>ga r.1) (λ r=>[(0,bx r.2)]) 1:=okm (Cc.eq_1 H) (λ r=>[ga r.1]) Tryz.f74 []
def k9(U:Int)(H:aR)(O:aL)(Y:Bool):Option (aR×aL):=(if Y then(Cc H).bind λ v4=>some (v4.2,{O with state:=v4.1})else(if decide (U=79)then(yC H).bind λ v5=>some (v5.2,{O with options:=v5.1})else some (H,O)))
@[go_sem] def bTm(H:Int)(O:aR)(U:aL)(Y:Bool):St:=⟨[(0,.ptr 0 0 0),(1,.ptr 1 0 0),(6,.int u8 H),(29,.bool Y)],[(0,bx O),(1,bx U)],2⟩
def vM(H:Int)(O:aR)(U:aL)(j1:Bool):Option (aR×aL):=(if j1 then(Ad O).bind λ v2=>some (v2.2,{U with aZ:=v2.1})else(if decide (H=68)then(u7 O).bind λ v3=>some (v3.2,{U with done:=v3.1})else(if decide (H=78)then k9 H O U (decide (H=78))else k9 H O U (decide (H=76)))))
@[go_sem] def bTn(H:Int)(O:aR)(U:aL)(j1:Bool):St:=⟨[(0,.ptr 0 0 0),(1,.ptr 1 0 0),(6,.int u8 H),(14,.bool j1)],[(0,bx O),(1,bx U)],2⟩
def tO(H:Int)(O:aR)(U:aL):Option (aR×aL):=(if decide (H=80)then(z8 O).bind λ v1=>some (v1.2,{U with aM:=v1.1})else(if decide (H=65)then vM H O U (decide (H=65))else vM H O U (decide (H=97))))
def bTo(O:Int)(H:aR)(U:aL)(r:aR×aL)(h:tO O H U=some r):MFn C 33 [.ptr 0 0 0,.ptr 1 0 0,.int u8 O] [(0,bx H),(1,bx U)] 2 (.tup []) [(0,bx r.1),(1,bx r.2)] 2:=by
 refine oZ Tryz.f33 [] [] λ E hG B hK=>?_;unfold tO at h;refine lW (lX hG ?_);refine oG (lW (lX hG ?_));refine mA rfl hG h (λ _ h=>?_) (λ _ h=>?_)
 · refine lX hG ?_
   obtain⟨v1,Y,h⟩:=lZ h;refine mO [(0,0)] [] [0] ((bHe H).ok _ Y) rfl rfl ?_;exact mW [(0,0),(1,1)] h
 refine lW (lW (lX hG ?_));refine rN (bTn O H U) (λ v=>vM O H U v=some r) rfl hG h ?_ (λ _ h=>?_) (λ _ h=>?_)
 · intro j1 h
   unfold vM at h;refine g_st ?_;refine mA rfl hG h (λ _ h=>?_) (λ _ h=>?_)
   · refine lX hG ?_
     obtain⟨v2,hv2,h⟩:=lZ h;refine mO [(0,0)] [] [0] ((bIo H).ok _ hv2) rfl rfl ?_;exact mW [(0,0),(1,1)] h
   refine lW (lX hG ?_);refine mA rfl hG h (λ _ h=>?_) (λ _ h=>?_)
   · refine lX hG ?_
     obtain⟨v3,hv3,h⟩:=lZ h;refine mO [(0,0)] [] [0] ((aVn H).ok _ hv3) rfl rfl ?_;exact mW [(0,0),(1,1)] h
   refine lW (lW (lX hG ?_));refine rN (bTm O H U) (λ v=>k9 O H U v=some r) rfl hG h ?_ (λ _ h=>?_) (λ _ h=>?_)
   · intro F h
     unfold k9 at h;refine g_st ?_;refine mA rfl hG h (λ _ h=>?_) (λ _ h=>?_)
     · refine lX hG ?_
       obtain⟨v4,hv4,h⟩:=lZ h;refine mO [(0,0)] [] [0] ((bTl H).ok _ hv4) rfl rfl ?_;exact mW [(0,0),(1,1)] h
     refine lW (lX hG ?_);refine mA rfl hG h (λ _ h=>?_) (λ _ h=>?_)
     · refine lX hG ?_
       obtain⟨v5,hv5,h⟩:=lZ h;refine mO [(0,0)] [] [0] ((bM9 H).ok _ hv5) rfl rfl ?_;exact mW [(0,0),(1,1)] h
     refine mE ?_;exact mW [(0,0),(1,1)] h
   · refine mE ?_
     exact mT hK [(0,0),(1,1)] (decide (O=78)) (by exact h)
   refine lX hG ?_;exact mT hK [(0,0),(1,1)] (decide (O=76)) (by exact h)
 · refine mE ?_
   exact mT hK [(0,0),(1,1)] (decide (O=65)) (by exact h)
 refine lX hG ?_;exact mT hK [(0,0),(1,1)] (decide (O=97)) (by exact h)
end
end Ab
end Go.Proofs.YtfmnjkfhahfhgaaGreatDoor
