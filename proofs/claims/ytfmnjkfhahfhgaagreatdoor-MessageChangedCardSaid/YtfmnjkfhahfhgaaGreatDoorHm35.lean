import Derived.Test.YtfmnjkfhahfhgaaGreatDoorHm29
import Derived.Test.YtfmnjkfhahfhgaaGreatDoorHm22
namespace Go.Proofs.YtfmnjkfhahfhgaaGreatDoor
namespace Ab
open Tryz
set_option linter.all false
open IntKind (i64 u64 u8)
set_option maxRecDepth 100000
set_option maxHeartbeats 1000000
noncomputable section
variable {T T1 T2 T3 T4 T5 : Type} (x : T) (v1 : T1) (v2 : T2) (v3 : T3) (v4 : T4) (v5 : T5)
def Iz(H:aG)(O:ByteArray)(v1:Int)(j1:bD):Option bD:=(tX H.bH.aQ O).bind λ v3=>gd (0<=v1/\v1<j1.c.aF.length)<|(sF (j1.c.aF.getD v1.toNat aA.zero) H.aM).bind λ v4=>(if !decide (v4=v3)then(t8 j1.c.aF H.aM (⟨O,v3⟩:aO)).bind λ v5=>(vT v5.1 v5.2.1 j1).bind λ v6=>some (⟨(⟨v6.1,v6.2.1,v6.2.2.1⟩:bF),v6.2.2.2⟩:bD)else some j1)
def Bn(O:aG)(U:ByteArray)(H:bD):Option bD:=(sY H.c.aF U).bind λ v1=>gd (0<=v1/\v1<H.c.aF.length)<|(uR (H.c.aF.getD v1.toNat aA.zero) O.aM).bind λ v2=>(if v2.2 then(FC H.c.aF O.aM U).bind λ B=>(vT B.1 B.2.1 H).bind λ Y=>Iz O U v1 (⟨(⟨Y.1,Y.2.1,Y.2.2.1⟩:bF),Y.2.2.2⟩:bD)else Iz O U v1 H)
@[reducible,instance]def bSc (H:aG) (O:ByteArray) a2 (v1:Int):=mkJ ((Bn H O a2,v1),v2) 999 (@Iz.eq_1 H O v1) λ j1=>⟨[(0,.ptr 0 0 0),(2,.str O),(4,.ptr 3 0 0),(6,.int i64 v1)],[(0,⟨false,4,bD.enc bD.zero,[[.int i64 j1.c.now,la j1.c.aF,.own 4 0 j1.c.aD.length,.own 5 0 j1.ev.length]]⟩),(3,bx H),(4,sx j1.c.aD),(5,sx j1.ev)],6⟩
instance bSd(O:aG)(U:ByteArray)(H:bD):OkM (Bn O U H) 230 [.ptr 0 0 0,ga O,.str U] [(0,⟨false,4,bD.enc bD.zero,[[.int i64 H.c.now,la H.c.aF,.own 1 0 H.c.aD.length,.own 2 0 H.ev.length]]⟩),(1,sx H.c.aD),(2,sx H.ev)] 3 (λ r=>.tup []) (λ r=>[(0,⟨false,4,bD.enc bD.zero,[[.int i64 r.c.now,la r.c.aF,.own 3 0 r.c.aD.length,.own 4 0 r.ev.length]]⟩),(3,sx r.c.aD),(4,sx r.ev)]) 5:=okm (Bn.eq_1 O U H) (λ r=>[]) f230 []
def O0(H:Int)(j1:bD):Option bD:=(Ce H j1).bind λ v2=>some (⟨(⟨v2.1,v2.2.1,v2.2.2.1⟩:bF),v2.2.2.2⟩:bD)
def LM(O:Int)(U:bD)(v1:(List aO))(H:Int×bD):Option ((Int×bD)⊕bD):=(if decide (H.1<v1.length)then gd (0<=H.1/\H.1<v1.length)<|(Bn (U.c.aD.getD O.toNat aG.zero) (v1.getD H.1.toNat aO.zero).name H.2).bind λ v3=>some (.inl (i64.wrap (H.1+1),v3))else some (.inr H.2))
def u7(H:Int)(O:bD):Option bD:=gd (0<=H/\H<((O.c.aD.length:Nat):Int))<|(wA ((O.c.aD.getD H.toNat aG.zero).bK).bU).bind λ v1=>(mF (LM H O v1) (0,O)).bind (λ z=>O0 H z)
abbrev bSf (H:Int) a1:=mkJ (u7 H a1,v1) 0 (@O0.eq_1 H) λ j1=>⟨[(0,.ptr 0 0 0),(1,.int i64 H)],[(0,⟨false,4,bD.enc bD.zero,[[.int i64 j1.c.now,la j1.c.aF,.own 3 0 j1.c.aD.length,.own 4 0 j1.ev.length]]⟩),(3,sx j1.c.aD),(4,sx j1.ev)],5⟩
abbrev bSg (O:Int) (U:bD) (v1:(List aO)):=mkL x (@LM.eq_1 O U v1) λ H=>⟨[(0,.ptr 0 0 0),(1,.int i64 O),(4,.ptr 3 0 0),(5,la v1),(6,.int i64 H.1)],[(0,⟨false,4,bD.enc bD.zero,[[.int i64 H.2.c.now,la H.2.c.aF,.own 4 0 H.2.c.aD.length,.own 5 0 H.2.ev.length]]⟩),(3,bx (U.c.aD.getD O.toNat aG.zero)),(4,sx H.2.c.aD),(5,sx H.2.ev)],6⟩
attribute[instance]bSf bSg
instance bSh(O:Int)(H:bD):OkM (u7 O H) 189 [.ptr 0 0 0,.int i64 O] [(0,⟨false,4,bD.enc bD.zero,[[.int i64 H.c.now,la H.c.aF,.own 1 0 H.c.aD.length,.own 2 0 H.ev.length]]⟩),(1,sx H.c.aD),(2,sx H.ev)] 3 (λ r=>.tup []) (λ r=>[(0,⟨false,4,bD.enc bD.zero,[[.int i64 r.c.now,la r.c.aF,.own 3 0 r.c.aD.length,.own 4 0 r.ev.length]]⟩),(3,sx r.c.aD),(4,sx r.ev)]) 5:=okm (u7.eq_1 O H) (λ r=>[]) f189 []
def Vh(j1:bD):Option bD:=some j1
def O1(U:Int×bD)(Y:bD):Option ((Int×bD)⊕bD):=(Ce U.1 Y).bind λ v6=>(uS U.1 (⟨(⟨v6.1,v6.2.1,v6.2.2.1⟩:bF),v6.2.2.2⟩:bD)).bind λ O=>(zD (⟨(⟨O.1,O.2.1,O.2.2.1⟩:bF),O.2.2.2⟩:bD)).bind λ H=>some (.inl (H.1,(⟨(⟨H.2.1,H.2.2.1,H.2.2.2.1⟩:bF),H.2.2.2.2⟩:bD)))
def IA(O:Int×bD)(v4:(List Bool))(v5:(List aO))(H:Int×bD):Option ((Int×bD)⊕bD):=(if decide (H.1<v5.length)then gd (0<=H.1/\H.1<v5.length)<|gd (0<=H.1/\H.1<v4.length)<|(if !(v4.getD H.1.toNat false)then(Bn (O.2.c.aD.getD O.1.toNat aG.zero) (v5.getD H.1.toNat aO.zero).name H.2).bind λ M=>some (.inl (i64.wrap (H.1+1),M))else(sY H.2.c.aF (v5.getD H.1.toNat aO.zero).name).bind λ U=>gd (0<=U/\U<H.2.c.aF.length)<|(sF (H.2.c.aF.getD U.toNat aA.zero) (O.2.c.aD.getD O.1.toNat aG.zero).aM).bind λ Y=>gd (0<=O.1/\O.1<((H.2.c.aD.length:Nat):Int))<|(tX ((H.2.c.aD.getD O.1.toNat aG.zero).bH).aQ (v5.getD H.1.toNat aO.zero).name).bind λ B=>(if !decide (Y=B)then gd (0<=O.1/\O.1<((H.2.c.aD.length:Nat):Int))<|(Ff (H.2.c.aD.getD O.1.toNat aG.zero).bH (⟨(v5.getD H.1.toNat aO.zero).name,B,Y⟩:bO)).bind λ F=>gd (0<=O.1/\O.1<((H.2.c.aD.length:Nat):Int))<|some (.inl (i64.wrap (H.1+1),(⟨(⟨H.2.c.now,H.2.c.aF,H.2.c.aD.set O.1.toNat ({(H.2.c.aD.getD O.1.toNat aG.zero)with bH:=F.1})⟩:bF),H.2.ev⟩:bD)))else some (.inl (i64.wrap (H.1+1),H.2))))else some (.inr H.2))
def FM(H:Int×bD):Option ((Int×bD)⊕bD):=(if decide (0<=H.1)then gd (0<=H.1/\H.1<((H.2.c.aD.length:Nat):Int))<|(Az 2 (H.2.c.aD.getD H.1.toNat aG.zero).aM H.2).bind λ v2=>(t7 v2.2.1 (H.2.c.aD.getD H.1.toNat aG.zero).aM ((H.2.c.aD.getD H.1.toNat aG.zero).bK).bU).bind λ v3=>(Bh ((H.2.c.aD.getD H.1.toNat aG.zero).bK).bU v3).bind λ v4=>(wA ((H.2.c.aD.getD H.1.toNat aG.zero).bK).bU).bind λ v5=>(mF (IA H v4 v5) (0,(⟨(⟨v2.1,v2.2.1,v2.2.2.1⟩:bF),v2.2.2.2⟩:bD))).bind (λ z=>O1 H z)else some (.inr H.2))
def sN(H:bD):Option bD:=(zD H).bind λ v1=>(mF FM (v1.1,(⟨(⟨v1.2.1,v1.2.2.1,v1.2.2.2.1⟩:bF),v1.2.2.2.2⟩:bD))).bind (λ z=>Vh z)
abbrev bSk a0:=mkJ (sN a0,v1) 0 (@Vh.eq_1) λ j1=>⟨[],[(0,⟨false,4,bD.enc bD.zero,[[.int i64 j1.c.now,la j1.c.aF,.own 3 0 j1.c.aD.length,.own 4 0 j1.ev.length]]⟩),(3,sx j1.c.aD),(4,sx j1.ev)],5⟩
abbrev bSl (O:Int×bD):=mkJ ((((FM O,v1),v2),v3),v4) 2 (@O1.eq_1 O) λ H=>⟨[(0,.ptr 0 0 0),(2,.int i64 O.1)],[(0,⟨false,4,bD.enc bD.zero,[[.int i64 H.c.now,la H.c.aF,.own 3 0 H.c.aD.length,.own 4 0 H.ev.length]]⟩),(3,sx H.c.aD),(4,sx H.ev)],5⟩
abbrev bSm (O:Int×bD) (v4:(List Bool)) (v5:(List aO)):=mkL x (@IA.eq_1 O v4 v5) λ H=>⟨[(0,.ptr 0 0 0),(2,.int i64 O.1),(3,.ptr 3 0 0),(4,.sl (v4.map eB)),(5,la v5),(6,.int i64 H.1)],[(0,⟨false,4,bD.enc bD.zero,[[.int i64 H.2.c.now,la H.2.c.aF,.own 4 0 H.2.c.aD.length,.own 5 0 H.2.ev.length]]⟩),(3,bx (O.2.c.aD.getD O.1.toNat aG.zero)),(4,sx H.2.c.aD),(5,sx H.2.ev)],6⟩
abbrev bSn:=mkL x (@FM.eq_1) λ H=>⟨[(0,.ptr 0 0 0),(2,.int i64 H.1)],[(0,⟨false,4,bD.enc bD.zero,[[.int i64 H.2.c.now,la H.2.c.aF,.own 3 0 H.2.c.aD.length,.own 4 0 H.2.ev.length]]⟩),(3,sx H.2.c.aD),(4,sx H.2.ev)],5⟩
attribute[instance]bSk bSl bSm bSn
instance bSo(H:bD):OkM (sN H) 191 [.ptr 0 0 0] [(0,⟨false,4,bD.enc bD.zero,[[.int i64 H.c.now,la H.c.aF,.own 1 0 H.c.aD.length,.own 2 0 H.ev.length]]⟩),(1,sx H.c.aD),(2,sx H.ev)] 3 (λ r=>.tup []) (λ r=>[(0,⟨false,4,bD.enc bD.zero,[[.int i64 r.c.now,la r.c.aF,.own 3 0 r.c.aD.length,.own 4 0 r.ev.length]]⟩),(3,sx r.c.aD),(4,sx r.ev)]) 5:=okm (sN.eq_1 H) (λ r=>[]) f191 []
def Vi(j1:aH):Option aH:=some j1
def LN(O:bF)(H:Int×aH):Option ((Int×aH)⊕aH):=(if decide (H.1<O.aD.length)then gd (0<=H.1/\H.1<O.aD.length)<|(if(O.aD.getD H.1.toNat aG.zero).bJ=true then gd (0<=H.1/\H.1<O.aD.length)<|gd (0<=H.1/\H.1<O.aD.length)<|gd (0<=H.1/\H.1<O.aD.length)<|gd (H.2.aY.length+1<=4294967296)<|some (.inl (i64.wrap (H.1+1),(⟨H.2.aF,H.2.aY++[(⟨(O.aD.getD H.1.toNat aG.zero).aM,((O.aD.getD H.1.toNat aG.zero).bK).bU,(O.aD.getD H.1.toNat aG.zero).gen⟩:bR)]⟩:aH)))else some (.inl (i64.wrap (H.1+1),H.2)))else some (.inr H.2))
def w6(H:bF):Option aH:=(Bl H).bind λ v1=>(if !v1 then some ({aH.zero with})else gd (H.aF.length<=4294967296)<|(mF (LN H) (0,(⟨H.aF,[]⟩:aH))).bind (λ z=>Vi z))
abbrev bSs (H:bF):=mkJ (w6 H,v1) 0 (@Vi.eq_1) λ j1=>⟨[(2,.ptr 0 0 0),(3,.ptr 1 0 0)],[(0,bx aH.zero),(1,⟨false,2,aH.enc aH.zero,[[.own 2 0 j1.aF.length,.own 3 0 j1.aY.length]]⟩),(2,sx j1.aF),(3,sx j1.aY)],4⟩
abbrev bSt (O:bF):=mkL x (@LN.eq_1 O) λ H=>⟨[(1,.ptr 0 0 0),(2,.ptr 1 0 0),(3,.ptr 2 0 0),(4,.int i64 H.1)],[(0,bx O),(1,bx aH.zero),(2,⟨false,2,aH.enc aH.zero,[[.own 3 0 H.2.aF.length,.own 4 0 H.2.aY.length]]⟩),(3,sx H.2.aF),(4,sx H.2.aY)],5⟩
attribute[instance]bSs bSt
instance Vj(H:bF):OkP (w6 H) 21 [ga H] ga:=⟨λ r h=>by
 refine oT f21 [(9,1),(13,4),(3,4)] λ E hG Y hK=>?_;have hm:Mk (w6 H):=trivial;unfold w6 at h;refine zq ?_;refine mD (zq ?_);obtain⟨v1,O,h⟩:=mG h;have hm:=mkP hm v1;refine nK (λ hg=>(U5 H).ok _ O) ?_;refine mJ rfl hG h (λ _ h=>?_) (λ _ h=>?_)
 .exact gogo
 refine mN ?_;refine mD ?_;obtain⟨U,h⟩:=mM h;refine mE hG ?_;refine g_gh (.ownb 4 1 9 (bR.enc bR.zero)) ?_;exact gogo⟩
def IB(H:aH)(O:aK):Option Bool:=(j6 H O).bind λ v1=>(if v1.2 then C9 H O else some []).bind λ v2=>(if v1.2 then Bc v1.1.bU v2 else some false).bind λ v3=>some ((!v1.2)||v3)
instance bSw(H:aH)(O:aK):OkP (IB H O) 149 [ga H,ga O] .bool:=ok1 (IB.eq_1 H O) f149 []
def Vk(j1:(List aK)):Option (List aK):=some j1
def IC(O:aH)(v2:(List aK))(H:Int×(List aK)):Option ((Int×(List aK))⊕(List aK)):=(if decide (H.1<v2.length)then gd (0<=H.1/\H.1<v2.length)<|(IB O (v2.getD H.1.toNat aK.zero)).bind λ v3=>(if v3 then gd (0<=H.1/\H.1<v2.length)<|gd (H.2.length+1<=4294967296)<|some (.inl (i64.wrap (H.1+1),H.2++[v2.getD H.1.toNat aK.zero]))else some (.inl (i64.wrap (H.1+1),H.2)))else some (.inr H.2))
def Dc(H:aH):Option (List aK):=(wC H).bind λ v1=>(if !v1 then some [] else(t6 H).bind λ v2=>(mF (IC H v2) (0,[])).bind (λ z=>Vk z))
abbrev bT0 a0:=mkJ ((Dc a0,v1),v2) 0 (@Vk.eq_1) λ j1=>⟨[(3,.own 0 0 j1.length)],[(0,sx j1)],1⟩
abbrev bT1 (O:aH) (v2:(List aK)):=mkL x (@IC.eq_1 O v2) λ H=>⟨[(1,.ptr 0 0 0),(3,.own 1 0 H.2.length),(4,la v2),(5,.int i64 H.1)],[(0,bx O),(1,sx H.2)],2⟩
attribute[instance]bT0 bT1
instance bT2(H:aH):OkP (Dc H) 95 [ga H] la:=ok1 (Dc.eq_1 H) f95 [(3,1)]
def Vl(j1:(List Int)):Option (List Int):=some j1
def O2(H:Int×(List Int))(O:(List Int)):Option ((Int×(List Int))⊕(List Int)):=some (.inl (i64.wrap (H.1+1),O))
def ID(O:aL)(H:Int×(List Int)):Option ((Int×(List Int))⊕(List Int)):=(if decide (H.1<O.options.length)then gd (0<=H.1/\H.1<O.options.length)<|(CZ H.2 (O.options.getD H.1.toNat aP.zero)).bind λ U=>some (.inl (i64.wrap (H.1+1),U))else some (.inr H.2))
def Bo (O:aL) (H:Int×(List Int)):Option ((Int×(List Int))⊕(List Int)):=(if decide (H.1<(((nF O.kind).toList.map λ b=>(b.toNat:Int)).length:Int))then gd (0<=H.1/\H.1<(((nF O.kind).toList.map λ b=>(b.toNat:Int)).length:Int))<|(if decide (((nF O.kind).toList.map λ b=>(b.toNat:Int)).getD H.1.toNat 0=80)then(Cv H.2 O.aM).bind λ v2=>some (.inl (i64.wrap (H.1+1),v2))else(if decide (((nF O.kind).toList.map λ b=>(b.toNat:Int)).getD H.1.toNat 0=71)then(pW H.2 (u64.wrap O.gen)).bind λ v3=>some (.inl (i64.wrap (H.1+1),v3))else(if decide (((nF O.kind).toList.map λ b=>(b.toNat:Int)).getD H.1.toNat 0=65)then(EI H.2 O.aZ.name).bind λ v4=>(pW v4 (u64.wrap O.aZ.aI.mode)).bind λ v5=>(pW v5 (u64.wrap O.aZ.aI.aU)).bind λ v6=>some (.inl (i64.wrap (H.1+1),v6))else(if decide (((nF O.kind).toList.map λ b=>(b.toNat:Int)).getD H.1.toNat 0=89)then(pW H.2 (u64.wrap O.bE)).bind λ v7=>some (.inl (i64.wrap (H.1+1),v7))else(if decide (((nF O.kind).toList.map λ b=>(b.toNat:Int)).getD H.1.toNat 0=68)then(if O.done then gd (H.2.length+1<=4294967296)<|some (.inl (i64.wrap (H.1+1),H.2++[1]))else gd (H.2.length+1<=4294967296)<|some (.inl (i64.wrap (H.1+1),H.2++[0])))else(if decide (((nF O.kind).toList.map λ b=>(b.toNat:Int)).getD H.1.toNat 0=83)then(pW H.2 (u64.wrap O.site)).bind λ v8=>some (.inl (i64.wrap (H.1+1),v8))else(if decide (((nF O.kind).toList.map λ b=>(b.toNat:Int)).getD H.1.toNat 0=73)then(pW H.2 (u64.wrap O.inc)).bind λ v9=>some (.inl (i64.wrap (H.1+1),v9))else(if decide (((nF O.kind).toList.map λ b=>(b.toNat:Int)).getD H.1.toNat 0=82)then(pW H.2 (u64.wrap O.round)).bind λ B=>some (.inl (i64.wrap (H.1+1),B))else(if decide (((nF O.kind).toList.map λ b=>(b.toNat:Int)).getD H.1.toNat 0=69)then(pW H.2 (u64.wrap O.epoch)).bind λ F=>some (.inl (i64.wrap (H.1+1),F))else(if decide (((nF O.kind).toList.map λ b=>(b.toNat:Int)).getD H.1.toNat 0=76)then(pW H.2 (u64.wrap (i64.wrap (O.label+1)))).bind λ M=>some (.inl (i64.wrap (H.1+1),M))else(if decide (((nF O.kind).toList.map λ b=>(b.toNat:Int)).getD H.1.toNat 0=87)then(Db O.state).bind λ U=>(pW H.2 (u64.wrap (U.1.length:Int))).bind λ Y=>gd (Y.length+U.1.length<=4294967296)<|some (.inl (i64.wrap (H.1+1),Y++U.1))else(if decide (((nF O.kind).toList.map λ b=>(b.toNat:Int)).getD H.1.toNat 0=79)then(pW H.2 (u64.wrap (O.options.length:Int))).bind λ h0=>(mF (ID O) (0,h0)).bind (λ z=>O2 H z)else some (.inl (i64.wrap (H.1+1),H.2))))))))))))))else some (.inr H.2))
def Dd(H:aL):Option (List Int):=(pW [] (u64.wrap H.kind)).bind λ v1=>gd ((nF H.kind).size<=4294967296)<|(mF (Bo H) (0,v1)).bind (λ z=>Vl z)
abbrev bT6 (H:aL):=mkJ (Dd H,v1) 0 (@Vl.eq_1) λ j1=>⟨[(3,.own 0 0 j1.length)],[(0,⟨false,1,[A.int u8 0],j1.map (eI u8)⟩)],1⟩
abbrev bT7 (H:aL) (O:Int×(List Int)):=mkJ (Bo H O,v1) 3 (@O2.eq_1 O) λ U=>⟨[(1,.ptr 0 0 0),(3,.own 1 0 U.length),(17,.sl (((nF H.kind).toList.map λ b=>(b.toNat:Int)).map (eI u8))),(18,.int i64 (((nF H.kind).toList.map λ b=>(b.toNat:Int)).length:Int)),(19,.int i64 O.1)],[(0,bx H),(1,⟨false,1,[A.int u8 0],U.map (eI u8)⟩)],2⟩
abbrev bT8 (H:aL) (U:Int×(List Int)):=mkL (Bo H U,v1) (@ID.eq_1 H) λ O=>⟨[(1,.ptr 0 0 0),(3,.own 1 0 O.2.length),(17,.sl (((nF H.kind).toList.map λ b=>(b.toNat:Int)).map (eI u8))),(18,.int i64 (((nF H.kind).toList.map λ b=>(b.toNat:Int)).length:Int)),(19,.int i64 U.1),(136,la H.options),(137,.int i64 H.options.length),(138,.int i64 O.1)],[(0,bx H),(1,⟨false,1,[A.int u8 0],O.2.map (eI u8)⟩)],2⟩
abbrev bT9 (H:aL):=mkL x (@Bo.eq_1 H) λ O=>⟨[(1,.ptr 0 0 0),(3,.own 1 0 O.2.length),(17,.sl (((nF H.kind).toList.map λ b=>(b.toNat:Int)).map (eI u8))),(18,.int i64 (((nF H.kind).toList.map λ b=>(b.toNat:Int)).length:Int)),(19,.int i64 O.1)],[(0,bx H),(1,⟨false,1,[A.int u8 0],O.2.map (eI u8)⟩)],2⟩
attribute[instance]bT6 bT7 bT8 bT9
instance bTa(H:aL):OkP (Dd H) 28 [ga H] (λ r=>.sl (r.map (eI u8))):=⟨λ r h=>by
 refine oT f28 [(29,1),(43,1)] λ E hG U hK=>?_;have hm:Mk (Dd H):=trivial;unfold Dd at h;refine zq ?_;refine zq ?_;obtain⟨v1,O,h⟩:=mG h;have hm:=mkP hm v1;refine mU [] [(0,1)] [0] (MFn.unfull1 ((aUx [] (u64.wrap H.kind)).ok _ O)) rfl rfl ?_;exact gogo⟩
def O3(H:aL)(j1:Unit):Option Bool:=(Dd H).bind λ v3=>some (decide ((v3.length:Int)<=4064))
def LO(O:aL)(H:Int):Option (Int⊕(Unit⊕Bool)):=(if decide (H<(((nF O.kind).toList.map λ b=>(b.toNat:Int)).length:Int))then gd (0<=H/\H<(((nF O.kind).toList.map λ b=>(b.toNat:Int)).length:Int))<|(zF O (((nF O.kind).toList.map λ b=>(b.toNat:Int)).getD H.toNat 0)).bind λ v4=>(if !v4 then some (.inr (.inr false))else some (.inl (i64.wrap (H+1))))else some (.inr (.inl ())))
def w7(H:aL):Option Bool:=(if !((nF H.kind).toList==(⟨#[]⟩:ByteArray).toList)then Co H else some aL.zero).bind λ v1=>(if !((nF H.kind).toList==(⟨#[]⟩:ByteArray).toList)then CU H v1 else some false).bind λ v2=>(if ((nF H.kind).toList==(⟨#[]⟩:ByteArray).toList)||(!v2)then some false else gd ((nF H.kind).size<=4294967296)<|(mF (LO H) 0).bind (λ|.inl z=>O3 H z|.inr z=>some z))
abbrev bTd (H:aL):=mkJ ((w7 H,v1),v2) 0 (@O3.eq_1 H) λ j1=>⟨[(1,.ptr 0 0 0)],[(0,bx H)],1⟩
abbrev bTe (H:aL):=mkL x (@LO.eq_1 H) λ O=>⟨[(1,.ptr 0 0 0),(19,.sl (((nF H.kind).toList.map λ b=>(b.toNat:Int)).map (eI u8))),(20,.int i64 (((nF H.kind).toList.map λ b=>(b.toNat:Int)).length:Int)),(21,.int i64 O)],[(0,bx H)],1⟩
attribute[instance]bTd bTe
instance bTf(H:aL):OkP (w7 H) 10 [ga H] .bool:=ok1 (w7.eq_1 H) f10 []
def LP(j1:aL):Option Bool:=(EE j1).bind λ v2=>some v2
@[go_sem] def bTh(j1:aL):St:=⟨[(4,.ptr 0 0 0)],[(0,bx j1)],1⟩
def FN(H:aL)(v1:(List (Int×bL)))(O:Int×aL):Option ((Int×aL)⊕(aL⊕Bool)):=(if decide (O.1<((Arr.get nL H.kind.toNat ⟨#[]⟩).size:Int))then gd (0<=H.kind/\H.kind<16)<|gd (0<=O.1/\O.1<((Arr.get nL H.kind.toNat ⟨#[]⟩).size:Int))<|(if(oF (((Arr.get nL H.kind.toNat ⟨#[]⟩).toList.getD O.1.toNat 0).toNat:Int) v1).isSome=true then(oP ((oF (((Arr.get nL H.kind.toNat ⟨#[]⟩).toList.getD O.1.toNat 0).toNat:Int) v1).getD bL.zero).of).bind λ v3=>(if (decide (nQ H v3<((oF (((Arr.get nL H.kind.toNat ⟨#[]⟩).toList.getD O.1.toNat 0).toNat:Int) v1).getD bL.zero).low)||decide (((oF (((Arr.get nL H.kind.toNat ⟨#[]⟩).toList.getD O.1.toNat 0).toNat:Int) v1).getD bL.zero).high<nQ H v3))||(decide ((((Arr.get nL H.kind.toNat ⟨#[]⟩).toList.getD O.1.toNat 0).toNat:Int)=66)&&decide (nQ H v3=0))then some (.inr (.inr false))else(oP ((oF (((Arr.get nL H.kind.toNat ⟨#[]⟩).toList.getD O.1.toNat 0).toNat:Int) v1).getD bL.zero).of).bind λ v4=>some (.inl (i64.wrap (O.1+1),sD O.2 v4 0)))else(uA H (((Arr.get nL H.kind.toNat ⟨#[]⟩).toList.getD O.1.toNat 0).toNat:Int)).bind λ v5=>(if !v5 then some (.inr (.inr false))else(B6 (((Arr.get nL H.kind.toNat ⟨#[]⟩).toList.getD O.1.toNat 0).toNat:Int) O.2).bind λ v6=>some (.inl (i64.wrap (O.1+1),v6))))else some (.inr (.inl O.2)))
@[go_sem] def bTi(H:aL)(v1:(List (Int×bL)))(O:Int×aL):St:=⟨[(1,.ptr 0 0 0),(3,.mp 1),(4,.ptr 2 0 0),(21,.int i64 ((Arr.get nL H.kind.toNat ⟨#[]⟩).size:Int)),(22,.int i64 O.1)],[(0,bx H),(1,⟨false,0,[A.int u8 0,A.bool true],v1.map (mI u8 bL.enc)⟩),(2,bx O.2)],3⟩
def FO(H:aL):Option Bool:=(if !(AA H.kind)then some false else(l6).bind λ v1=>gd (0<=H.kind/\H.kind<16)<|(mF (FN H v1) (0,{H with kind:=0})).bind (λ|.inl z=>LP z|.inr z=>some z))
def bTj(U:aL)(r:Bool)(h:FO U=some r):PFn C 39 [ga U] (.bool r):=by
 refine oT f39 [(40,1),(63,1)] λ E hG hN hK=>?_;unfold FO at h;refine zq ?_;refine mD (zq ?_);refine nK (λ hg=>(To U.kind).ok) ?_;refine mJ rfl hG h (λ _ h=>?_) (λ _ h=>?_)
 · refine zq ?_
   refine mO ?_;exact nU h
 refine mN ?_;refine zq ?_;obtain⟨v1,Y,h⟩:=mG h;refine mU [] [(0,1)] [0] ((Hl).ok _ Y) rfl rfl ?_;refine zq ?_;refine zq ?_;refine mD (mD ?_);obtain⟨x0,h⟩:=mM h;refine mE hG ?_;refine qA bTh (λ v=>LP v=some r) ?_ ?_
 · intro j1 h
   unfold LP at h;refine g_st ?_;refine zq ?_;obtain⟨v2,hv2,h⟩:=mG h;refine nK (λ hg=>bAi _ _ hv2) ?_;refine mO ?_;exact nU h
 refine qO (bTi U v1) hK [(0,0),(1,1),(2,2)] h (λ F h M h0 H O=>?_);unfold FN at H;refine g_st ?_;refine zq ?_;refine mD ?_;refine mJ rfl hG H (λ _ H=>?_) (λ _ H=>?_)
 · refine mN ?_
   refine mD (oM (zq ?_));refine mD ?_;obtain⟨y0,H⟩:=mM H;obtain⟨z0,H⟩:=mM H;refine mE hG ?_;refine mD (zq ?_);refine zq ?_;refine mJ rfl hG H (λ _ H=>?_) (λ _ H=>?_)
   · refine zq ?_
     obtain⟨v3,hv3,H⟩:=mG H;refine mU [(0,0)] [] [0] (B0 _ _ _ hv3) rfl rfl ?_ (ho:=by first|exact⟨by trivial,tW hv3⟩|exact tW hv3);refine mD (zq ?_);refine mJ rfl hG H (λ _ H=>?_) (λ _ H=>?_)
     · refine zq ?_
       refine mO ?_;cases H;cases O _ rfl;exact nU h
     refine mN ?_;refine zq ?_;obtain⟨v4,hv4,H⟩:=mG H;refine mU [(0,2)] [] [0] (B0 _ _ _ hv4) rfl rfl ?_ (ho:=by first|exact⟨by trivial,tW hv4⟩|exact tW hv4);refine oO ?_;refine mE hG ?_;exact pA hK [(0,0),(1,1),(2,2)] H
   refine mN ?_;refine mD (zq ?_);obtain⟨v5,hv5,H⟩:=mG H;refine nK (λ hg=>(bNw U (((Arr.get nL U.kind.toNat ⟨#[]⟩).toList.getD M.1.toNat 0).toNat:Int)).ok _ hv5) ?_;refine mJ rfl hG H (λ _ H=>?_) (λ _ H=>?_)
   · refine zq ?_
     refine mO ?_;cases H;cases O _ rfl;exact nU h
   refine mN ?_;refine mE hG ?_;obtain⟨v6,B,H⟩:=mG H;refine mU [(0,2)] [] [0] (aTi _ _ _ B) rfl rfl ?_;refine mE hG ?_;exact pA hK [(0,0),(1,1),(2,2)] H
 refine oO ?_;cases H;cases O _ rfl;exact nA hK [(0,2)] M.2 (by exact h)
instance bTk(H:aL):OkP (FO H) 39 [ga H] .bool:=⟨bTj H⟩
def De(H:aT):Option (aH×aT):=(tA H).bind λ v1=>(if !decide (v1.2.err=0)then some ({aH.zero with},v1.2)else(if decide ((v1.2.b.length:Int)<v1.1)then some ({aH.zero with},{v1.2 with err:=5})else gd (0<=0/\0<=v1.1/\v1.1<=(v1.2.b.length:Int)/\v1.1=v1.1)<|(vZ (v1.2.b.take v1.1.toNat)).bind λ v2=>(if !decide (v2.2=0)then some ({aH.zero with},{v1.2 with err:=v2.2})else gd (0<=v1.1/\v1.1<=(v1.2.b.length:Int)/\(v1.2.b.length:Int)<=(v1.2.b.length:Int))<|some (v2.1,{v1.2 with b:=(v1.2.b.drop v1.1.toNat)}))))
instance bTl(H:aT):OkM (De H) 74 [.ptr 0 0 0] [(0,bx H)] 1 (λ r=>ga r.1) (λ r=>[(0,bx r.2)]) 1:=okm (De.eq_1 H) (λ r=>[ga r.1]) f74 []
def zG(U:Int)(H:aT)(O:aL)(Y:Bool):Option (aT×aL):=(if Y then(De H).bind λ v4=>some (v4.2,{O with state:=v4.1})else(if decide (U=79)then(yX H).bind λ v5=>some (v5.2,{O with options:=v5.1})else some (H,O)))
@[go_sem] def bTm(H:Int)(O:aT)(U:aL)(Y:Bool):St:=⟨[(0,.ptr 0 0 0),(1,.ptr 1 0 0),(6,.int u8 H),(29,.bool Y)],[(0,bx O),(1,bx U)],2⟩
def tC(H:Int)(O:aT)(U:aL)(j1:Bool):Option (aT×aL):=(if j1 then(A5 O).bind λ v2=>some (v2.2,{U with aZ:=v2.1})else(if decide (H=68)then(AF O).bind λ v3=>some (v3.2,{U with done:=v3.1})else(if decide (H=78)then zG H O U (decide (H=78))else zG H O U (decide (H=76)))))
@[go_sem] def bTn(H:Int)(O:aT)(U:aL)(j1:Bool):St:=⟨[(0,.ptr 0 0 0),(1,.ptr 1 0 0),(6,.int u8 H),(14,.bool j1)],[(0,bx O),(1,bx U)],2⟩
def rK(H:Int)(O:aT)(U:aL):Option (aT×aL):=(if decide (H=80)then(A0 O).bind λ v1=>some (v1.2,{U with aM:=v1.1})else(if decide (H=65)then tC H O U (decide (H=65))else tC H O U (decide (H=97))))
def bTo(O:Int)(H:aT)(U:aL)(r:aT×aL)(h:rK O H U=some r):MFn C 33 [.ptr 0 0 0,.ptr 1 0 0,.int u8 O] [(0,bx H),(1,bx U)] 2 (.tup []) [(0,bx r.1),(1,bx r.2)] 2:=by
 refine pF f33 [] [] λ E hG B hK=>?_;unfold rK at h;refine zq ?_;refine oM (zq ?_);refine mJ rfl hG h (λ _ h=>?_) (λ _ h=>?_)
 · refine mE hG ?_
   obtain⟨v1,Y,h⟩:=mG h;refine mU [(0,0)] [] [0] ((bHe H).ok _ Y) rfl rfl ?_;exact nD [(0,0),(1,1)] h
 refine mD (zq ?_);refine rV (bTn O H U) (λ v=>tC O H U v=some r) rfl hG h ?_ (λ _ h=>?_) (λ _ h=>?_)
 · intro j1 h
   unfold tC at h;refine g_st ?_;refine mJ rfl hG h (λ _ h=>?_) (λ _ h=>?_)
   · refine mE hG ?_
     obtain⟨v2,hv2,h⟩:=mG h;refine mU [(0,0)] [] [0] ((bIo H).ok _ hv2) rfl rfl ?_;exact nD [(0,0),(1,1)] h
   refine zq ?_;refine mJ rfl hG h (λ _ h=>?_) (λ _ h=>?_)
   · refine mE hG ?_
     obtain⟨v3,hv3,h⟩:=mG h;refine mU [(0,0)] [] [0] ((aVp H).ok _ hv3) rfl rfl ?_;exact nD [(0,0),(1,1)] h
   refine mD (zq ?_);refine rV (bTm O H U) (λ v=>zG O H U v=some r) rfl hG h ?_ (λ _ h=>?_) (λ _ h=>?_)
   · intro F h
     unfold zG at h;refine g_st ?_;refine mJ rfl hG h (λ _ h=>?_) (λ _ h=>?_)
     · refine mE hG ?_
       obtain⟨v4,hv4,h⟩:=mG h;refine mU [(0,0)] [] [0] ((bTl H).ok _ hv4) rfl rfl ?_;exact nD [(0,0),(1,1)] h
     refine zq ?_;refine mJ rfl hG h (λ _ h=>?_) (λ _ h=>?_)
     · refine mE hG ?_
       obtain⟨v5,hv5,h⟩:=mG h;refine mU [(0,0)] [] [0] ((bM9 H).ok _ hv5) rfl rfl ?_;exact nD [(0,0),(1,1)] h
     refine mN ?_;exact nD [(0,0),(1,1)] h
   · refine mN ?_
     exact nA hK [(0,0),(1,1)] (decide (O=78)) (by exact h)
   refine mE hG ?_;exact nA hK [(0,0),(1,1)] (decide (O=76)) (by exact h)
 · refine mN ?_
   exact nA hK [(0,0),(1,1)] (decide (O=65)) (by exact h)
 refine mE hG ?_;exact nA hK [(0,0),(1,1)] (decide (O=97)) (by exact h)
def Df(H:aL):Option Bool:=(FO H).bind λ v1=>(if v1 then Bg H else some []).bind λ v2=>some (v1&&decide ((v2.length:Int)<=4064))
instance bTp(H:aL):OkP (Df H) 15 [ga H] .bool:=ok1 (Df.eq_1 H) f15 []
def Bp(H:aL):Option ((List Int)×Int):=(Df H).bind λ v1=>(if !v1 then some ([],2)else(Bg H).bind λ v2=>some (v2,0))
instance bTq(H:aL):OkP (Bp H) 9 [ga H] (λ r=>.tup [.sl (r.1.map (eI u8)),.int i64 r.2]):=ok1 (Bp.eq_1 H) f9 []
def Bq(j1:aT×aL):Option (aL×Int):=(if !decide ((j1.1.b.length:Int)=0)then some ({aL.zero with},6)else(Df j1.2).bind λ v3=>(if !v3 then some ({aL.zero with},2)else some (j1.2,0)))
@[go_sem] def bTr(j1:aT×aL):St:=⟨[(2,.ptr 0 0 0),(4,.ptr 1 0 0),(5,.ptr 2 0 0)],[(0,bx aL.zero),(1,bx j1.1),(2,bx j1.2)],3⟩
def Br(O:Int×aT×aL)(H:aT×aL):Option ((Int×aT×aL)⊕((aT×aL)⊕(aL×Int))):=(if !decide (H.1.err=0)then some (.inr (.inr ({aL.zero with},H.1.err)))else some (.inl (i64.wrap (O.1+1),H.1,H.2)))
@[go_sem] def bTs(v1:Int×aT)(v2:(List (Int×bL)))(O:Int×aT×aL)(H:aT×aL):St:=⟨[(2,.ptr 0 0 0),(4,.ptr 1 0 0),(5,.ptr 2 0 0),(6,.mp 3),(37,.int i64 ((Arr.get nL v1.1.toNat ⟨#[]⟩).size:Int)),(38,.int i64 O.1)],[(0,bx aL.zero),(1,bx H.1),(2,bx H.2),(3,⟨false,0,[A.int u8 0,A.bool true],v2.map (mI u8 bL.enc)⟩)],4⟩
def sO(v1:Int×aT)(v2:(List (Int×bL)))(H:Int×aT×aL):Option ((Int×aT×aL)⊕((aT×aL)⊕(aL×Int))):=(if decide (H.1<((Arr.get nL v1.1.toNat ⟨#[]⟩).size:Int))then gd (0<=H.2.2.kind/\H.2.2.kind<16)<|gd (0<=H.1/\H.1<((Arr.get nL H.2.2.kind.toNat ⟨#[]⟩).size:Int))<|(if(oF (((Arr.get nL H.2.2.kind.toNat ⟨#[]⟩).toList.getD H.1.toNat 0).toNat:Int) v2).isSome=true then(oP ((oF (((Arr.get nL H.2.2.kind.toNat ⟨#[]⟩).toList.getD H.1.toNat 0).toNat:Int) v2).getD bL.zero).of).bind λ v4=>(tA H.2.1).bind λ v5=>Br H (v5.2,sD H.2.2 v4 (i64.wrap (v5.1-((oF (((Arr.get nL H.2.2.kind.toNat ⟨#[]⟩).toList.getD H.1.toNat 0).toNat:Int) v2).getD bL.zero).plus)))else(rK (((Arr.get nL H.2.2.kind.toNat ⟨#[]⟩).toList.getD H.1.toNat 0).toNat:Int) H.2.1 H.2.2).bind λ v6=>Br H (v6.1,v6.2))else some (.inr (.inl (H.2.1,H.2.2))))
@[go_sem] def bTt(v1:Int×aT)(v2:(List (Int×bL)))(H:Int×aT×aL):St:=⟨[(2,.ptr 0 0 0),(4,.ptr 1 0 0),(5,.ptr 2 0 0),(6,.mp 3),(37,.int i64 ((Arr.get nL v1.1.toNat ⟨#[]⟩).size:Int)),(38,.int i64 H.1)],[(0,bx aL.zero),(1,bx H.2.1),(2,bx H.2.2),(3,⟨false,0,[A.int u8 0,A.bool true],v2.map (mI u8 bL.enc)⟩)],4⟩
def wD(H:List Int):Option (aL×Int):=(tY 15 6 ({aT.zero with b:=H})).bind λ v1=>(if !decide (v1.2.err=0)then some ({aL.zero with},v1.2.err)else(if !(AA v1.1)then some ({aL.zero with},6)else(l6).bind λ v2=>gd (0<=v1.1/\v1.1<16)<|(mF (sO v1 v2) (0,v1.2,{aL.zero with kind:=v1.1})).bind (λ|.inl z=>Bq z|.inr z=>some z)))
def bTu(B:List Int)(r:aL×Int)(h:wD B=some r):PFn C 11 [.sl (B.map (eI u8))] (.tup [ga r.1,.int i64 r.2]):=by
 refine oT f11 [(56,1)] λ E hG hN hK=>?_;unfold wD at h;refine zq ?_;refine zq ?_;refine zq ?_;obtain⟨v1,F,h⟩:=mG h;refine mU [(0,1)] [] [0] ((TU 15 6 ({aT.zero with b:=B})).ok _ F) rfl rfl ?_;refine mD (zq ?_);refine mJ rfl hG h (λ _ h=>?_) (λ _ h=>?_)
 · refine mD (qJ oS hG ?_)
   refine mO ?_;exact nU h
 refine mN ?_;refine mD (zq ?_);refine nK (λ hg=>(To v1.1).ok) ?_;refine mJ rfl hG h (λ _ h=>?_) (λ _ h=>?_)
 · refine zq ?_
   refine mO ?_;exact nU h
 refine mN ?_;refine zq ?_;obtain⟨v2,hv2,h⟩:=mG h;refine mU [] [(0,3)] [0] ((Hl).ok _ hv2) rfl rfl ?_;refine mD (mD ?_);obtain⟨x0,h⟩:=mM h;refine mE hG ?_;refine qA bTr (λ v=>Bq v=some r) ?_ ?_
 · intro j1 h
   unfold Bq at h;refine g_st ?_;refine mD (zq ?_);refine mJ rfl hG h (λ _ h=>?_) (λ _ h=>?_)
   · refine zq ?_
     refine mO ?_;exact nU h
   refine mN ?_;refine mD (zq ?_);obtain⟨v3,hv3,h⟩:=mG h;refine nK (λ hg=>(bTp j1.2).ok _ hv3) ?_;refine mJ rfl hG h (λ _ h=>?_) (λ _ h=>?_)
   · refine zq ?_
     refine mO ?_;exact nU h
   refine mN ?_;refine zq ?_;refine mO ?_;exact nU h
 refine qO (bTt v1 v2) hK [(0,0),(1,1),(2,2),(3,3)] h (λ h0 h U Y H O=>?_);unfold sO at H;refine g_st ?_;refine zq ?_;refine mD ?_;refine mJ rfl hG H (λ _ H=>?_) (λ _ H=>?_)
 · refine mN ?_
   refine mD (oM (zq ?_));refine mD ?_;obtain⟨y0,H⟩:=mM H;obtain⟨z0,H⟩:=mM H;refine mE hG ?_;refine mD (zq ?_);refine zq ?_;refine rV (bTs v1 v2 U) (λ v=>Br U v=some Y) rfl hG H ?_ (λ _ H=>?_) (λ _ H=>?_)
   · intro j2 H
     unfold Br at H;refine g_st ?_;refine zq ?_;refine mJ rfl hG H (λ _ H=>?_) (λ _ H=>?_)
     · refine mD (qJ oS hG ?_)
       refine mO ?_;cases H;cases O _ rfl;exact nU h
     refine mN ?_;refine mE hG ?_;exact pA hK [(0,0),(1,1),(2,2),(3,3)] H
   · refine qJ oS hG ?_
     obtain⟨v4,hv4,H⟩:=mG H;refine vQ [(0,2)] [] [0] (B0 _ _ _ hv4) rfl rfl ?_ (ho:=by first|exact⟨by trivial,tW hv4⟩|exact tW hv4);obtain⟨v5,hv5,H⟩:=mG H;refine vQ [(0,1)] [] [0] ((bC5 U.2.1).ok _ hv5) rfl rfl ?_;exact nA hK [(0,0),(1,1),(2,2),(3,3)] (v5.2,sD U.2.2 v4 (i64.wrap (v5.1-((oF (((Arr.get nL U.2.2.kind.toNat ⟨#[]⟩).toList.getD U.1.toNat 0).toNat:Int) v2).getD bL.zero).plus))) (by exact H)
   refine mE hG ?_;obtain⟨v6,M,H⟩:=mG H;refine mU [(0,1),(1,2)] [] [0,1] (bTo _ _ _ _ M) rfl rfl ?_;exact nA hK [(0,0),(1,1),(2,2),(3,3)] (v6.1,v6.2) (by exact H)
 refine oO ?_;cases H;cases O _ rfl;exact nA hK [(0,0),(1,1),(2,2)] (U.2.1,U.2.2) (by exact h)
instance bTv(H:List Int):OkP (wD H) 11 [.sl (H.map (eI u8))] (λ r=>.tup [ga r.1,.int i64 r.2]):=⟨bTu H⟩
def Bs:Option Bool:=(Bp ({aL.zero with kind:=11,aM:=(⟨0,1,2⟩:aK),round:=1,done:=true})).bind λ v1=>(wD [5,2,5]).bind λ v2=>(if (decide (v1.2=0)&&((pI v1.1).toList==(⟨#[11,1,0,1,2,1]⟩:ByteArray).toList))&&decide (v2.2=0)then q9 v2.1 ({aL.zero with kind:=5,inc:=5,site:=2})else some false).bind λ v3=>(if ((decide (v1.2=0)&&((pI v1.1).toList==(⟨#[11,1,0,1,2,1]⟩:ByteArray).toList))&&decide (v2.2=0))&&v3 then Df ({aL.zero with})else some false).bind λ v4=>some ((((decide (v1.2=0)&&((pI v1.1).toList==(⟨#[11,1,0,1,2,1]⟩:ByteArray).toList))&&decide (v2.2=0))&&v3)&&(!v4))
instance bTw:OkP Bs 7 [] .bool:=ok1 Bs.eq_1 f7 []
def Vm(j1:bD):Option (Int×bD):=some (0,j1)
def LQ(H:Int×bD):Option ((Int×bD)⊕bD):=(if decide (0<=H.1)then gd (0<=H.1/\H.1<((H.2.c.aD.length:Nat):Int))<|(Az 4 (H.2.c.aD.getD H.1.toNat aG.zero).aM H.2).bind λ v2=>(u7 H.1 (⟨(⟨v2.1,v2.2.1,v2.2.2.1⟩:bF),v2.2.2.2⟩:bD)).bind λ v3=>(uS H.1 v3).bind λ v4=>(sN (⟨(⟨v4.1,v4.2.1,v4.2.2.1⟩:bF),v4.2.2.2⟩:bD)).bind λ v5=>(AD v5).bind λ v6=>some (.inl (v6.1,(⟨(⟨v6.2.1,v6.2.2.1,v6.2.2.2.1⟩:bF),v6.2.2.2.2⟩:bD)))else some (.inr H.2))
def FP(O:Int)(H:bD):Option (Int×bD):=(if decide (O<0)||decide (1000<O)then some (1,H)else(if decide (i64.wrap (1073741824-O)<H.c.now)then some (16,H)else(AD (⟨(⟨i64.wrap (H.c.now+O),H.c.aF,H.c.aD⟩:bF),H.ev⟩:bD)).bind λ v1=>(mF LQ (v1.1,(⟨(⟨v1.2.1,v1.2.2.1,v1.2.2.2.1⟩:bF),v1.2.2.2.2⟩:bD))).bind (λ z=>Vm z)))
abbrev bTz a0 a1:=mkJ (FP a0 a1,v1) 0 (@Vm.eq_1) λ j1=>⟨[],[(0,⟨false,4,bD.enc bD.zero,[[.int i64 j1.c.now,la j1.c.aF,.own 3 0 j1.c.aD.length,.own 4 0 j1.ev.length]]⟩),(3,sx j1.c.aD),(4,sx j1.ev)],5⟩
abbrev bU0:=mkL x (@LQ.eq_1) λ H=>⟨[(0,.ptr 0 0 0),(5,.int i64 H.1)],[(0,⟨false,4,bD.enc bD.zero,[[.int i64 H.2.c.now,la H.2.c.aF,.own 3 0 H.2.c.aD.length,.own 4 0 H.2.ev.length]]⟩),(3,sx H.2.c.aD),(4,sx H.2.ev)],5⟩
attribute[instance]bTz bU0
instance bU1(O:Int)(H:bD):OkM (FP O H) 187 [.ptr 0 0 0,.int i64 O] [(0,⟨false,4,bD.enc bD.zero,[[.int i64 H.c.now,la H.c.aF,.own 1 0 H.c.aD.length,.own 2 0 H.ev.length]]⟩),(1,sx H.c.aD),(2,sx H.ev)] 3 (λ r=>.int i64 r.1) (λ r=>[(0,⟨false,4,bD.enc bD.zero,[[.int i64 r.2.c.now,la r.2.c.aF,.own 3 0 r.2.c.aD.length,.own 4 0 r.2.ev.length]]⟩),(3,sx r.2.c.aD),(4,sx r.2.ev)]) 5:=okm (FP.eq_1 O H) (λ r=>[.int i64 r.1]) f187 []
def O4(j1:bD):Option (Int×bD):=(sN j1).bind λ v6=>some (0,v6)
def IE(U:Int)(B:bP)(v5:(List aO))(H:Int×bD):Option ((Int×bD)⊕bD):=(if decide (H.1<v5.length)then gd (0<=U/\U<((H.2.c.aD.length:Nat):Int))<|gd (0<=H.1/\H.1<v5.length)<|(FF H.2.c.aF (H.2.c.aD.getD U.toNat aG.zero).aM (v5.getD H.1.toNat aO.zero) B.bE).bind λ Y=>(vT Y.1 Y.2.1 H.2).bind λ O=>some (.inl (i64.wrap (H.1+1),(⟨(⟨O.1,O.2.1,O.2.2.1⟩:bF),O.2.2.2⟩:bD)))else some (.inr H.2))
def FQ(H:Int)(U:bP)(O:bD):Option (Int×bD):=gd (0<=H/\H<((O.c.aD.length:Nat):Int))<|(if(O.c.aD.getD H.toNat aG.zero).bJ=true then some (14,O)else(wB U).bind λ v1=>(if !v1 then some (1,O)else(AK O.c.aF).bind λ v2=>(Bb v2 U.bU).bind λ v3=>(if !decide (v3=0)then some (v3,O)else gd (0<=H/\H<((O.c.aD.length:Nat):Int))<|gd (0<=H/\H<((O.c.aD.length:Nat):Int))<|gd (0<=H/\H<((O.c.aD.length:Nat):Int))<|(uS H (⟨(⟨O.c.now,O.c.aF,((O.c.aD.set H.toNat ({(O.c.aD.getD H.toNat aG.zero)with bJ:=true})).set H.toNat ({((O.c.aD.set H.toNat ({(O.c.aD.getD H.toNat aG.zero)with bJ:=true})).getD H.toNat aG.zero)with bK:=U})).set H.toNat ({(((O.c.aD.set H.toNat ({(O.c.aD.getD H.toNat aG.zero)with bJ:=true})).set H.toNat ({((O.c.aD.set H.toNat ({(O.c.aD.getD H.toNat aG.zero)with bJ:=true})).getD H.toNat aG.zero)with bK:=U})).getD H.toNat aG.zero)with since:=O.c.now})⟩:bF),O.ev⟩:bD)).bind λ v4=>(wA U.bU).bind λ v5=>(mF (IE H U v5) (0,(⟨(⟨v4.1,v4.2.1,v4.2.2.1⟩:bF),v4.2.2.2⟩:bD))).bind (λ z=>O4 z))))
abbrev bU3 a0 a1 a2:=mkJ (((((FQ a0 a1 a2,v1),v2),v3),v4),v5) 0 (@O4.eq_1) λ j1=>⟨[(0,.ptr 0 0 0)],[(0,⟨false,4,bD.enc bD.zero,[[.int i64 j1.c.now,la j1.c.aF,.own 3 0 j1.c.aD.length,.own 4 0 j1.ev.length]]⟩),(3,sx j1.c.aD),(4,sx j1.ev)],5⟩
abbrev bU4 (O:Int) (U:bP) (v5:(List aO)):=mkL x (@IE.eq_1 O U v5) λ H=>⟨[(0,.ptr 0 0 0),(1,.int i64 O),(5,.ptr 3 0 0),(8,la v5),(9,.int i64 H.1)],[(0,⟨false,4,bD.enc bD.zero,[[.int i64 H.2.c.now,la H.2.c.aF,.own 4 0 H.2.c.aD.length,.own 5 0 H.2.ev.length]]⟩),(3,bx U),(4,sx H.2.c.aD),(5,sx H.2.ev)],6⟩
attribute[instance]bU3 bU4
instance bU5(O:Int)(U:bP)(H:bD):OkM (FQ O U H) 188 [.ptr 0 0 0,.int i64 O,ga U] [(0,⟨false,4,bD.enc bD.zero,[[.int i64 H.c.now,la H.c.aF,.own 1 0 H.c.aD.length,.own 2 0 H.ev.length]]⟩),(1,sx H.c.aD),(2,sx H.ev)] 3 (λ r=>.int i64 r.1) (λ r=>[(0,⟨false,4,bD.enc bD.zero,[[.int i64 r.2.c.now,la r.2.c.aF,.own 3 0 r.2.c.aD.length,.own 4 0 r.2.ev.length]]⟩),(3,sx r.2.c.aD),(4,sx r.2.ev)]) 5:=okm (FQ.eq_1 O U H) (λ r=>[.int i64 r.1]) f188 []
def IF(H:Int)(U:ByteArray)(O:bD):Option (Int×bD):=gd (0<=H/\H<((O.c.aD.length:Nat):Int))<|(if(O.c.aD.getD H.toNat aG.zero).bJ=true then some (14,O)else gd (0<=H/\H<((O.c.aD.length:Nat):Int))<|(tX ((O.c.aD.getD H.toNat aG.zero).bH).aQ U).bind λ v1=>(if decide (v1={aC.zero with})then some (10,O)else gd (0<=H/\H<((O.c.aD.length:Nat):Int))<|(t8 O.c.aF (O.c.aD.getD H.toNat aG.zero).aM ({aO.zero with name:=U})).bind λ v2=>(vT v2.1 v2.2.1 O).bind λ v3=>gd (0<=H/\H<((v3.2.2.1.length:Nat):Int))<|(A8 (v3.2.2.1.getD H.toNat aG.zero).bH U).bind λ v4=>gd (0<=H/\H<((v3.2.2.1.length:Nat):Int))<|(uS H (⟨(⟨v3.1,v3.2.1,v3.2.2.1.set H.toNat ({(v3.2.2.1.getD H.toNat aG.zero)with bH:=v4.1})⟩:bF),v3.2.2.2⟩:bD)).bind λ v5=>(sN (⟨(⟨v5.1,v5.2.1,v5.2.2.1⟩:bF),v5.2.2.2⟩:bD)).bind λ v6=>some (0,v6)))
instance bU6(O:Int)(U:ByteArray)(H:bD):OkM (IF O U H) 192 [.ptr 0 0 0,.int i64 O,.str U] [(0,⟨false,4,bD.enc bD.zero,[[.int i64 H.c.now,la H.c.aF,.own 1 0 H.c.aD.length,.own 2 0 H.ev.length]]⟩),(1,sx H.c.aD),(2,sx H.ev)] 3 (λ r=>.int i64 r.1) (λ r=>[(0,⟨false,4,bD.enc bD.zero,[[.int i64 r.2.c.now,la r.2.c.aF,.own 3 0 r.2.c.aD.length,.own 4 0 r.2.ev.length]]⟩),(3,sx r.2.c.aD),(4,sx r.2.ev)]) 5:=okm (IF.eq_1 O U H) (λ r=>[.int i64 r.1]) f192 []
def LR(H:Int)(O:bD):Option (Int×bD):=(uS H O).bind λ v2=>(sN (⟨(⟨v2.1,v2.2.1,v2.2.2.1⟩:bF),v2.2.2.2⟩:bD)).bind λ v3=>some (0,v3)
@[go_sem] def bU7(O:Int)(H:bD):St:=⟨[(0,.ptr 0 0 0),(1,.int i64 O)],[(0,⟨false,4,bD.enc bD.zero,[[.int i64 H.c.now,la H.c.aF,.own 3 0 H.c.aD.length,.own 4 0 H.ev.length]]⟩),(3,sx H.c.aD),(4,sx H.ev)],5⟩
def IG(U:Int)(v1:bB×(List aO)×Int)(j1:bD)(H:Int×bD):Option ((Int×bD)⊕bD):=(if decide (H.1<v1.2.1.length)then gd (0<=H.1/\H.1<v1.2.1.length)<|(sY H.2.c.aF (v1.2.1.getD H.1.toNat aO.zero).name).bind λ v4=>gd (0<=v4/\v4<H.2.c.aF.length)<|(sF (H.2.c.aF.getD v4.toNat aA.zero) (j1.c.aD.getD U.toNat aG.zero).aM).bind λ v5=>gd (0<=H.1/\H.1<v1.2.1.length)<|(if !decide (v5=(v1.2.1.getD H.1.toNat aO.zero).aI)then gd (0<=H.1/\H.1<v1.2.1.length)<|(t8 H.2.c.aF (j1.c.aD.getD U.toNat aG.zero).aM (v1.2.1.getD H.1.toNat aO.zero)).bind λ v6=>(vT v6.1 v6.2.1 H.2).bind λ O=>some (.inl (i64.wrap (H.1+1),(⟨(⟨O.1,O.2.1,O.2.2.1⟩:bF),O.2.2.2⟩:bD)))else some (.inl (i64.wrap (H.1+1),H.2)))else some (.inr H.2))
@[go_sem] def bU8(O:Int)(v1:bB×(List aO)×Int)(j1:bD)(H:Int×bD):St:=⟨[(0,.ptr 0 0 0),(1,.int i64 O),(8,la v1.2.1),(10,.ptr 3 0 0),(11,.int i64 H.1)],[(0,⟨false,4,bD.enc bD.zero,[[.int i64 H.2.c.now,la H.2.c.aF,.own 4 0 H.2.c.aD.length,.own 5 0 H.2.ev.length]]⟩),(3,bx (j1.c.aD.getD O.toNat aG.zero).aM),(4,sx H.2.c.aD),(5,sx H.2.ev)],6⟩
def FR(H:Int)(v1:bB×(List aO)×Int)(j1:bD):Option (Int×bD):=gd (0<=H/\H<((j1.c.aD.length:Nat):Int))<|gd (0<=H/\H<((j1.c.aD.length:Nat):Int))<|(mF (IG H v1 j1) (0,(⟨(⟨j1.c.now,j1.c.aF,j1.c.aD.set H.toNat ({(j1.c.aD.getD H.toNat aG.zero)with bH:=v1.1})⟩:bF),j1.ev⟩:bD))).bind (λ z=>LR H z)
@[go_sem] def bU9(H:Int)(v1:bB×(List aO)×Int)(j1:bD):St:=⟨[(0,.ptr 0 0 0),(1,.int i64 H),(7,.ptr 3 0 0),(8,la v1.2.1)],[(0,⟨false,4,bD.enc bD.zero,[[.int i64 j1.c.now,la j1.c.aF,.own 4 0 j1.c.aD.length,.own 5 0 j1.ev.length]]⟩),(3,bx v1.1),(4,sx j1.c.aD),(5,sx j1.ev)],6⟩
def FS(H U:Int)(O:bD):Option (Int×bD):=gd (0<=H/\H<((O.c.aD.length:Nat):Int))<|(q7 (O.c.aD.getD H.toNat aG.zero).bH U).bind λ v1=>(if !decide (v1.2.2=0)then some (v1.2.2,O)else gd (0<=H/\H<((O.c.aD.length:Nat):Int))<|(if(O.c.aD.getD H.toNat aG.zero).bJ=true then(u7 H O).bind λ Y=>FR H v1 Y else FR H v1 O))
def bUa(O a1:Int)(U:bD)(r:Int×bD)(h:FS O a1 U=some r):MFn C 194 [.ptr 0 0 0,.int i64 O,.int i64 a1] [(0,⟨false,4,bD.enc bD.zero,[[.int i64 U.c.now,la U.c.aF,.own 1 0 U.c.aD.length,.own 2 0 U.ev.length]]⟩),(1,sx U.c.aD),(2,sx U.ev)] 3 (.int i64 r.1) [(0,⟨false,4,bD.enc bD.zero,[[.int i64 r.2.c.now,la r.2.c.aF,.own 3 0 r.2.c.aD.length,.own 4 0 r.2.ev.length]]⟩),(3,sx r.2.c.aD),(4,sx r.2.ev)] 5:=by
 refine pF f194 [] [.int i64 r.1] λ E hG hN hK=>?_;unfold FS at h;refine zq ?_;refine mD ?_;obtain⟨u0,h⟩:=mM h;refine mE hG ?_;obtain⟨v1,F,h⟩:=mG h;refine nK (λ hg=>UP _ _ _ F) ?_;refine mD (zq ?_);refine mJ rfl hG h (λ _ h=>?_) (λ _ h=>?_)
 · refine zq ?_
   refine mO ?_;exact nD [(0,0),(3,1),(4,2)] h
 refine mN ?_;refine mD (mD ?_);obtain⟨p0,h⟩:=mM h;refine mE hG ?_;refine rV (bU9 O v1) (λ v=>FR O v1 v=some r) rfl hG h ?_ (λ _ h=>?_) (λ _ h=>?_)
 · intro j1 h
   unfold FR at h;refine g_st ?_;refine mD ?_;obtain⟨q0,h⟩:=mM h;refine mE hG ?_;refine mD ?_;obtain⟨r0,h⟩:=mM h;refine qJ oS hG ?_;refine mD (zq ?_);refine qA (bU7 O) (λ v=>LR O v=some r) ?_ ?_
   · intro j2 h
     unfold LR at h;refine g_st ?_;refine zq ?_;obtain⟨v2,hv2,h⟩:=mG h;refine mU [(0,0),(1,3),(2,4)] [] [0,1,2] ((bA3 O j2).ok _ hv2) rfl rfl ?_;refine zq ?_;obtain⟨v3,hv3,h⟩:=mG h;refine mU [(0,0),(1,3),(2,4)] [(3,5),(4,6)] [0,1,2,3,4] ((bSo (⟨(⟨v2.1,v2.2.1,v2.2.2.1⟩:bF),v2.2.2.2⟩:bD)).ok _ hv3) rfl rfl ?_;refine zq ?_;refine mO ?_;exact nD [(0,0),(3,5),(4,6)] h
   refine qO (bU8 O v1 j1) hK [(0,0),(3,6),(4,4),(5,5)] h (λ y0 h B z0 H Y=>?_);unfold IG at H;refine g_st ?_;refine mD (zq ?_);refine mJ rfl hG H (λ _ H=>?_) (λ _ H=>?_)
   · refine mN ?_
     refine mD (oM (mD ?_));obtain⟨s0,H⟩:=mM H;refine i9 oS hG ?_;obtain⟨v4,hv4,H⟩:=mG H;obtain⟨t0,H⟩:=mM H;refine wV (λ hg=>(Tl B.2.c.aF (v1.2.1.getD B.1.toNat aO.zero).name).ok _ hv4) ?_;obtain⟨v5,hv5,H⟩:=mG H;obtain⟨c0,H⟩:=mM H;refine wV (λ hg=>(Oo (B.2.c.aF.getD v4.toNat aA.zero) (j1.c.aD.getD O.toNat aG.zero).aM).ok _ hv5) ?_;refine mJ rfl hG H (λ _ H=>?_) (λ _ H=>?_)
     · refine mD ?_
       obtain⟨d0,H⟩:=mM H;refine i9 oS hG ?_;obtain⟨v6,M,H⟩:=mG H;refine wV (λ hg=>U8 _ _ _ _ M) ?_;refine mE hG ?_;obtain⟨v7,h0,H⟩:=mG H;refine mU [(0,0),(1,4),(2,5)] [(3,6)] [0,1,2,3] ((aWc v6.1 v6.2.1 B.2).ok _ h0) rfl rfl ?_;refine mE hG ?_;exact pA hK [(0,0),(3,3),(4,4),(5,6)] H
     refine mN ?_;refine mE hG ?_;exact pA hK [(0,0),(3,3),(4,4),(5,5)] H
   refine oO ?_;cases H;cases Y _ rfl;exact nA hK [(0,0),(3,4),(4,5)] B.2 (by exact h)
 · refine mE hG ?_
   obtain⟨v8,x0,h⟩:=mG h;refine mU [(0,0),(1,1),(2,2)] [(3,4),(4,5)] [0,1,2,3,4] ((bSh O U).ok _ x0) rfl rfl ?_;exact nA hK [(0,0),(3,3),(4,4),(5,5)] v8 (by exact h)
 refine mN ?_;exact nA hK [(0,0),(3,3),(4,1),(5,2)] U (by exact h)
instance bUb(O U:Int)(H:bD):OkM (FS O U H) 194 [.ptr 0 0 0,.int i64 O,.int i64 U] [(0,⟨false,4,bD.enc bD.zero,[[.int i64 H.c.now,la H.c.aF,.own 1 0 H.c.aD.length,.own 2 0 H.ev.length]]⟩),(1,sx H.c.aD),(2,sx H.ev)] 3 (λ r=>.int i64 r.1) (λ r=>[(0,⟨false,4,bD.enc bD.zero,[[.int i64 r.2.c.now,la r.2.c.aF,.own 3 0 r.2.c.aD.length,.own 4 0 r.2.ev.length]]⟩),(3,sx r.2.c.aD),(4,sx r.2.ev)]) 5:=⟨bUa O U H⟩
def FT(H:Int)(O:bD):Option bD:=gd (0<=H/\H<((O.c.aD.length:Nat):Int))<|(C8 O.c.aF (O.c.aD.getD H.toNat aG.zero).aM).bind λ v1=>(vT v1.1 v1.2 O).bind λ v2=>gd (0<=0/\0<=H/\H<=((v2.2.2.1.length:Nat):Int)/\H=H)<|gd (0<=i64.wrap (H+1)/\i64.wrap (H+1)<=((v2.2.2.1.length:Nat):Int)/\((v2.2.2.1.length:Nat):Int)<=((v2.2.2.1.length:Nat):Int))<|gd (H.toNat+((v2.2.2.1.drop (i64.wrap (H+1)).toNat).take (v2.2.2.1.length-(i64.wrap (H+1)).toNat)).length<=4294967296/\H.toNat<=v2.2.2.1.length)<|(Az 5 (O.c.aD.getD H.toNat aG.zero).aM (⟨(⟨v2.1,v2.2.1,v2.2.2.1.take H.toNat++(v2.2.2.1.drop (i64.wrap (H+1)).toNat).take (v2.2.2.1.length-(i64.wrap (H+1)).toNat)⟩:bF),v2.2.2.2⟩:bD)).bind λ v3=>(sN (⟨(⟨v3.1,v3.2.1,v3.2.2.1⟩:bF),v3.2.2.2⟩:bD)).bind λ v4=>some v4
instance bUc(O:Int)(H:bD):OkM (FT O H) 195 [.ptr 0 0 0,.int i64 O] [(0,⟨false,4,bD.enc bD.zero,[[.int i64 H.c.now,la H.c.aF,.own 1 0 H.c.aD.length,.own 2 0 H.ev.length]]⟩),(1,sx H.c.aD),(2,sx H.ev)] 3 (λ r=>.tup []) (λ r=>[(0,⟨false,4,bD.enc bD.zero,[[.int i64 r.c.now,la r.c.aF,.own 3 0 r.c.aD.length,.own 4 0 r.ev.length]]⟩),(3,sx r.c.aD),(4,sx r.ev)]) 5:=okm (FT.eq_1 O H) (λ r=>[]) f195 [(42,1)]
def FU (O:bQ) (H:bD):Option (Int×bD):=(if decide (O.kind<1)||decide (9<O.kind)then some (1,H)else(if decide (O.kind=1)then(AT O.aM O.n H).bind λ v1=>some (v1.1,v1.2)else(if decide (O.kind=9)then(FP O.n H).bind λ v2=>some (v2.1,v2.2)else(yN H.c.aD O.aM).bind λ v3=>(if decide (v3<0)then some (10,H)else gd (0<=v3/\v3<((H.c.aD.length:Nat):Int))<|(if decide (O.kind=2)then(FQ v3 O.bK H).bind λ v4=>some (v4.1,v4.2)else(if decide (O.kind=3)then(if !(H.c.aD.getD v3.toNat aG.zero).bJ then some (14,H)else(u7 v3 H).bind λ v5=>(uS v3 v5).bind λ v6=>(sN (⟨(⟨v6.1,v6.2.1,v6.2.2.1⟩:bF),v6.2.2.2⟩:bD)).bind λ v7=>some (0,v7))else(if decide (O.kind=4)then(IF v3 O.name H).bind λ v8=>some (v8.1,v8.2)else(if decide (O.kind=5)then(if(H.c.aD.getD v3.toNat aG.zero).bJ=true then some (14,H)else gd (0<=v3/\v3<((H.c.aD.length:Nat):Int))<|(E7 (H.c.aD.getD v3.toNat aG.zero).bH O.n).bind λ B=>(if !decide (B.2=0)then some (B.2,H)else gd (0<=v3/\v3<((H.c.aD.length:Nat):Int))<|(uS v3 (⟨(⟨H.c.now,H.c.aF,H.c.aD.set v3.toNat ({(H.c.aD.getD v3.toNat aG.zero)with bH:=B.1})⟩:bF),H.ev⟩:bD)).bind λ U=>some (0,(⟨(⟨U.1,U.2.1,U.2.2.1⟩:bF),U.2.2.2⟩:bD))))else(if decide (O.kind=6)then(FS v3 O.n H).bind λ Y=>some (Y.1,Y.2)else(if decide (O.kind=8)then(if(H.c.aD.getD v3.toNat aG.zero).bJ=true then some (14,H)else(FT v3 H).bind λ F=>some (0,F))else(if decide (O.kind=7)then(FT v3 H).bind λ M=>some (0,M)else some (0,H))))))))))))
instance bUd(O:bQ)(H:bD):OkM (FU O H) 133 [.ptr 0 0 0,ga O] [(0,⟨false,4,bD.enc bD.zero,[[.int i64 H.c.now,la H.c.aF,.own 1 0 H.c.aD.length,.own 2 0 H.ev.length]]⟩),(1,sx H.c.aD),(2,sx H.ev)] 3 (λ r=>.int i64 r.1) (λ r=>[(0,⟨false,4,bD.enc bD.zero,[[.int i64 r.2.c.now,la r.2.c.aF,.own 3 0 r.2.c.aD.length,.own 4 0 r.2.ev.length]]⟩),(3,sx r.2.c.aD),(4,sx r.2.ev)]) 5:=okm (FU.eq_1 O H) (λ r=>[.int i64 r.1]) f133 []
def FV(H:bF)(O:bQ):Option (bF×(List bN)×Int):=(Bl H).bind λ v1=>(if !v1 then some ({bF.zero with},[],2)else(Hd H).bind λ v2=>(FU O (⟨(⟨v2.now,v2.aF,v2.aD⟩:bF),[]⟩:bD)).bind λ v3=>(if !decide (v3.1=0)then some ({bF.zero with},[],v3.1)else some (v3.2.c,v3.2.ev,0)))
instance bUf(H:bF)(O:bQ):OkP (FV H O) 89 [ga H,ga O] (λ r=>.tup [ga r.1,la r.2.1,.int i64 r.2.2]):=⟨λ r h=>by
 refine oT f89 [(15,14)] λ E hG Y hK=>?_;have hm:Mk (FV H O):=trivial;unfold FV at h;refine zq ?_;refine mD (zq ?_);obtain⟨v1,U,h⟩:=mG h;have hm:=mkP hm v1;refine nK (λ hg=>(U5 H).ok _ U) ?_;refine mJ rfl hG h (λ _ h=>?_) (λ _ h=>?_)
 .exact gogo
 refine mN ?_;refine zq ?_;obtain⟨v2,hv2,h⟩:=mG h;have hm:=mkP hm v2;refine mU [] [(0,3),(1,4)] [0,1] (aUo _ _ hv2) rfl rfl ?_;refine g_gh (.fz [3]) ?_;refine g_gh (.ownb 5 3 7 (bN.enc bN.zero)) ?_;exact gogo⟩
def Vn(j1:bF):Option bF:=some j1
def LT(O:List bQ)(H:Int×bF):Option ((Int×bF)⊕bF):=(if decide (H.1<O.length)then gd (0<=H.1/\H.1<O.length)<|(FV H.2 (O.getD H.1.toNat bQ.zero)).bind λ v1=>(if decide (v1.2.2=0)then some (.inl (i64.wrap (H.1+1),v1.1))else some (.inl (i64.wrap (H.1+1),H.2)))else some (.inr H.2))
def FW(H:bF)(O:List bQ):Option bF:=(mF (LT O) (0,H)).bind (λ z=>Vn z)
abbrev bUj a0 a1:=mkJ (FW a0 a1) 0 (@Vn.eq_1) λ j1=>⟨[(2,.ptr 0 0 0),(4,.ptr 1 0 0)],[(0,bx j1),(1,bx bF.zero)],2⟩
abbrev bUk (H:List bQ):=mkL x (@LT.eq_1 H) λ O=>⟨[(1,la H),(2,.ptr 0 0 0),(4,.ptr 1 0 0),(5,.int i64 O.1)],[(0,bx O.2),(1,bx bF.zero)],2⟩
attribute[instance]bUj bUk
instance bUl(H:bF)(O:List bQ):OkP (FW H O) 45 [ga H,la O] ga:=ok1 (FW.eq_1 H O) f45 []
def FX(H:List Int):Option bF:=(r9 H).bind λ v1=>(Ia v1.1).bind λ v2=>(FW v2.1 v1.2).bind λ v3=>some v3
instance bUn(H:List Int):OkP (FX H) 20 [.sl (H.map (eI i64))] ga:=ok1 (FX.eq_1 H) f20 []
def O5(j1:aH×(List aK)):Option ((List aK)×(List aK)):=(t6 j1.1).bind λ v3=>some (j1.2,v3)
def LU(H:(List aK)×aH×(List aK)):Option (((List aK)×aH×(List aK))⊕(aH×(List aK))):=(if decide (0<(H.1.length:Int))then gd (0<=0/\0<(H.1.length:Int))<|gd (H.2.2.length+1<=4294967296)<|gd (0<=0/\0<(H.1.length:Int))<|(Bm H.2.1 (H.1.getD 0 aK.zero)).bind λ v4=>(Dc v4).bind λ v5=>some (.inl (v5,v4,H.2.2++[H.1.getD 0 aK.zero]))else some (.inr (H.2.1,H.2.2)))
def FY(H:aH):Option ((List aK)×(List aK)):=(wC H).bind λ v1=>(if !v1 then some ([],[])else(Dc H).bind λ v2=>(mF LU (v2,H,[])).bind (λ z=>O5 z))
abbrev bUr a0:=mkJ ((FY a0,v1),v2) 0 (@O5.eq_1) λ j1=>⟨[(1,.ptr 0 0 0),(4,.own 1 0 j1.2.length)],[(0,bx j1.1),(1,sx j1.2)],2⟩
abbrev bUs:=mkL x (@LU.eq_1) λ H=>⟨[(1,.ptr 0 0 0),(4,.own 1 0 H.2.2.length),(5,la H.1)],[(0,bx H.2.1),(1,sx H.2.2)],2⟩
attribute[instance]bUr bUs
instance bUt(H:aH):OkP (FY H) 47 [ga H] (λ r=>.tup [la r.1,la r.2]):=ok1 (FY.eq_1 H) f47 [(4,1)]
def LV(H:Int)(j1:(List aP)):Option (List aP):=(if decide (H<((j1.length:Nat):Int))then gd (0<=0/\0<=H/\H<=((j1.length:Nat):Int))<|some ((j1.drop 0).take H.toNat)else some j1)
@[go_sem] def bUv(H:Int)(j1:(List aP)):St:=⟨[(1,.int i64 H),(5,.own 0 0 j1.length)],[(0,sx j1)],1⟩
def LW(H:Int×(List aP))(O:(List aP)):Option ((Int×(List aP))⊕(List aP)):=some (.inl (i64.wrap (H.1+1),O))
@[go_sem] def bUx(O:bF)(U:Int)(v2:(List aK)×(List aK))(Y:Int×(List aP))(H:(List aP)):St:=⟨[(1,.int i64 U),(2,.ptr 0 0 0),(5,.own 1 0 H.length),(7,la v2.2),(8,.int i64 Y.1)],[(0,bx O),(1,sx H)],2⟩
def FZ(U:bF)(v2:(List aK)×(List aK))(O H:Int×(List aP)):Option ((Int×(List aP))⊕(List aP)):=(if decide (H.1<v2.2.length)then gd (0<=O.1/\O.1<U.aD.length)<|gd (0<=H.1/\H.1<v2.2.length)<|(if decide ((U.aD.getD O.1.toNat aG.zero).aM=v2.2.getD H.1.toNat aK.zero)then gd (0<=O.1/\O.1<U.aD.length)<|(Da (U.aD.getD O.1.toNat aG.zero)).bind λ v3=>gd (H.2.length+v3.length<=4294967296)<|some (.inl (i64.wrap (H.1+1),H.2++v3))else some (.inl (i64.wrap (H.1+1),H.2)))else some (.inr H.2))
@[go_sem] def bUz(O:bF)(U:Int)(v2:(List aK)×(List aK))(Y H:Int×(List aP)):St:=⟨[(1,.int i64 U),(2,.ptr 0 0 0),(5,.own 1 0 H.2.length),(7,la v2.2),(8,.int i64 Y.1),(9,.int i64 H.1)],[(0,bx O),(1,sx H.2)],2⟩
def IH(O:bF)(v2:(List aK)×(List aK))(H:Int×(List aP)):Option ((Int×(List aP))⊕(List aP)):=(if decide (H.1<O.aD.length)then(mF (FZ O v2 H) (0,H.2)).bind (λ z=>LW H z)else some (.inr H.2))
@[go_sem] def bV1(O:bF)(U:Int)(v2:(List aK)×(List aK))(H:Int×(List aP)):St:=⟨[(1,.int i64 U),(2,.ptr 0 0 0),(5,.own 1 0 H.2.length),(7,la v2.2),(8,.int i64 H.1)],[(0,bx O),(1,sx H.2)],2⟩
def II(H:bF)(O:Int):Option (List aP):=(w6 H).bind λ v1=>(FY v1).bind λ v2=>(mF (IH H v2) (0,[])).bind (λ z=>LV O z)
def bV3(U:bF)(Y:Int)(r:(List aP))(h:II U Y=some r):PFn C 22 [ga U,.int i64 Y] (la r):=by
 refine oT f22 [(5,1)] λ E hG hN hK=>?_;unfold II at h;refine zq ?_;refine zq ?_;refine zq ?_;obtain⟨v1,x0,h⟩:=mG h;refine nK (λ hg=>(Vj U).ok _ x0) ?_;obtain⟨v2,hv2,h⟩:=mG h;refine nK (λ hg=>(bUt v1).ok _ hv2) ?_;refine mD (zq ?_);refine qA (bUv Y) (λ v=>LV Y v=some r) ?_ ?_
 · intro j1 h
   unfold LV at h;refine g_st ?_;refine mD (zq ?_);refine mJ rfl hG h (λ _ h=>?_) (λ _ h=>?_)
   · obtain⟨p0,h⟩:=mM h
     refine mE hG ?_;refine zq ?_;refine mO ?_;exact nU h
   refine mN ?_;refine zq ?_;refine mO ?_;exact nU h
 refine qO (bV1 U Y v2) hK [(0,0),(1,1)] h (λ y0 h M h0 O B=>?_);unfold IH at O;refine g_st ?_;refine mD (zq ?_);refine mJ rfl hG O (λ _ O=>?_) (λ _ O=>?_)
 · refine mN ?_
   refine mD (oM (zq ?_));refine qA (bUx U Y v2 M) (λ v=>LW M v=some h0) ?_ ?_
   · intro j2 O
     unfold LW at O;refine g_st ?_;refine mE hG ?_;exact pA hK [(0,0),(1,1)] O
   refine qO (bUz U Y v2 M) hK [(0,0),(1,1)] O (λ z0 O g2 u0 H F=>?_);unfold FZ at H;refine g_st ?_;refine mD (zq ?_);refine mJ rfl hG H (λ _ H=>?_) (λ _ H=>?_)
   · refine mN ?_
     refine mD (oM (mD ?_));obtain⟨q0,H⟩:=mM H;obtain⟨r0,H⟩:=mM H;refine i9 oS hG ?_;refine mJ rfl hG H (λ _ H=>?_) (λ _ H=>?_)
     · obtain⟨s0,H⟩:=mM H
       refine mE hG ?_;obtain⟨v3,hv3,H⟩:=mG H;obtain⟨t0,H⟩:=mM H;refine nK (λ hg=>(bRl (U.aD.getD M.1.toNat aG.zero)).ok _ hv3) ?_;refine mE hG ?_;exact pA hK [(0,0),(1,2)] H
     refine mN ?_;refine mE hG ?_;exact pA hK [(0,0),(1,1)] H
   refine oO ?_;obtain rfl:=dH H;have hx:=F _ rfl;subst hx
   try dsimp only at O
   exact nA hK [(0,0),(1,1)] g2.2 (by exact O)
 refine oO ?_;cases O;cases B _ rfl;exact nA hK [(0,1)] M.2 (by exact h)
def IJ(H:List Int):Option aH:=(FX H).bind λ v1=>(w6 v1).bind λ v2=>some v2
instance bV5(H:List Int):OkP (IJ H) 23 [.sl (H.map (eI i64))] ga:=ok1 (IJ.eq_1 H) f23 []
def F0(v7:Int×bM)(O:aL):Option (aL×bM):=(if decide (O.kind=3)then nY 2 v7.2 else some (0,v7.2)).bind λ H=>some ({O with done:=(decide (O.kind=3)&&decide (H.1=0))},H.2)
@[go_sem] def bV6(v7:Int×bM)(H:aL):St:=⟨[(0,.ptr 0 0 0),(4,.ptr 1 0 0),(9,.ptr 2 0 0)],[(0,bx v7.2),(1,bx aL.zero),(2,bx H)],3⟩
def F1(a0:List Int)(v4:aK)(v5 v6 v7:Int×bM)(j3:Bool):Option (aL×bM):=(if j3 then some ({{aL.zero with kind:=(i64.wrap (1+v5.1))}with round:=v7.1},v7.2)else(if decide (i64.wrap (1+v5.1)=7)then(FX a0).bind λ O=>(w6 O).bind λ B=>(II O 40).bind λ F=>some ({{{{aL.zero with kind:=(i64.wrap (1+v5.1))}with round:=v7.1}with state:={aH.zero with aY:=B.aY}}with options:=F},v7.2)else(if decide (i64.wrap (1+v5.1)=9)then(IJ a0).bind λ M=>some ({{{aL.zero with kind:=(i64.wrap (1+v5.1))}with round:=v7.1}with state:={aH.zero with aF:=M.aF}},v7.2)else(if decide (i64.wrap (1+v5.1)=10)then(nY 5 v7.2).bind λ H=>(if decide (H.1=0)then some ({{{{{{{aL.zero with kind:=(i64.wrap (1+v5.1))}with round:=v7.1}with epoch:=v6.1}with aM:=v4}with gen:=v6.1}with label:=H.1}with label:=(-1)},H.2)else some ({{{{{{aL.zero with kind:=(i64.wrap (1+v5.1))}with round:=v7.1}with epoch:=v6.1}with aM:=v4}with gen:=v6.1}with label:=H.1},H.2))else(if decide (i64.wrap (1+v5.1)=11)then(nY 2 v7.2).bind λ U=>some ({{{{aL.zero with kind:=(i64.wrap (1+v5.1))}with round:=v7.1}with aM:=v4}with done:=(decide (U.1=0))},U.2)else(if decide (i64.wrap (1+v5.1)=12)then(nY 4 v7.2).bind λ Y=>some ({{{aL.zero with kind:=(i64.wrap (1+v5.1))}with epoch:=v7.1}with site:=Y.1},Y.2)else some ({{aL.zero with kind:=(i64.wrap (1+v5.1))}with epoch:=v7.1},v7.2)))))))
@[go_sem] def bV7(H:List Int)(v4:aK)(v5 v6 v7:Int×bM)(O:Bool):St:=⟨[(0,.ptr 0 0 0),(1,.sl (H.map (eI i64))),(4,.ptr 1 0 0),(8,.ptr 2 0 0),(9,.ptr 3 0 0),(10,.int i64 v6.1),(11,.int i64 v7.1),(37,.int i64 (i64.wrap (1+v5.1))),(104,.bool O)],[(0,bx v7.2),(1,bx aL.zero),(2,bx v4),(3,bx ({aL.zero with kind:=(i64.wrap (1+v5.1))}))],4⟩
def F2(Y:List Int)(v1:(List aJ)×(List bQ))(v2:Int×bM)(v4:aK)(v5 v6 v7:Int×bM)(j1:Bool):Option (aL×bM):=(if j1 then(if decide (2<v7.1)then(n9 (v1.1.getD v2.1.toNat aJ.zero) v7.1).bind λ O=>F0 v7 ({{{{{aL.zero with kind:=(i64.wrap (1+v5.1))}with aM:=v4}with gen:=v6.1}with aZ:={aO.zero with name:=(v1.1.getD v2.1.toNat aJ.zero).name}}with aZ:={({aO.zero with name:=(v1.1.getD v2.1.toNat aJ.zero).name})with aI:=O}})else F0 v7 ({{{{aL.zero with kind:=(i64.wrap (1+v5.1))}with aM:=v4}with gen:=v6.1}with aZ:={aO.zero with name:=(v1.1.getD v2.1.toNat aJ.zero).name}}))else(if decide (i64.wrap (1+v5.1)=4)then(n9 (v1.1.getD v2.1.toNat aJ.zero) v7.1).bind λ U=>some ({{{{aL.zero with kind:=(i64.wrap (1+v5.1))}with aM:=v4}with gen:=v6.1}with aZ:=(⟨(v1.1.getD v2.1.toNat aJ.zero).name,U⟩:aO)},v7.2)else(if decide (i64.wrap (1+v5.1)=5)then(nY 4 v7.2).bind λ H=>some ({{{aL.zero with kind:=(i64.wrap (1+v5.1))}with site:=H.1}with inc:=(i64.wrap (1+v7.1))},H.2)else(if decide (i64.wrap (1+v5.1)=6)then F1 Y v4 v5 v6 v7 (decide (i64.wrap (1+v5.1)=6))else F1 Y v4 v5 v6 v7 (decide (i64.wrap (1+v5.1)=8))))))
@[go_sem] def bV8(H:List Int)(v1:(List aJ)×(List bQ))(v2:Int×bM)(v4:aK)(v5 v6 v7:Int×bM)(j1:Bool):St:=⟨[(0,.ptr 0 0 0),(1,.sl (H.map (eI i64))),(4,.ptr 1 0 0),(7,.ptr 2 0 0),(8,.ptr 3 0 0),(9,.ptr 4 0 0),(10,.int i64 v6.1),(11,.int i64 v7.1),(37,.int i64 (i64.wrap (1+v5.1))),(56,.bool j1)],[(0,bx v7.2),(1,bx aL.zero),(2,bx (v1.1.getD v2.1.toNat aJ.zero)),(3,bx v4),(4,bx ({aL.zero with kind:=(i64.wrap (1+v5.1))}))],5⟩
def F3(O:List Int)(Y:bM):Option (aL×bM):=(r9 O).bind λ v1=>(nY (v1.1.length:Int) Y).bind λ v2=>gd (0<=v2.1/\v2.1<v1.1.length)<|(nY 8 v2.2).bind λ v3=>(AP v3.1).bind λ v4=>(nY 15 v3.2).bind λ v5=>(nY 6 v5.2).bind λ v6=>(nY 6 v6.2).bind λ H=>(if decide (i64.wrap (1+v5.1)=1)then(n9 (v1.1.getD v2.1.toNat aJ.zero) H.1).bind λ B=>(nY 4 H.2).bind λ U=>some ({{{{{aL.zero with kind:=(i64.wrap (1+v5.1))}with aM:=v4}with gen:=v6.1}with aZ:=(⟨(v1.1.getD v2.1.toNat aJ.zero).name,B⟩:aO)}with bE:=U.1},U.2)else(if decide (i64.wrap (1+v5.1)=2)then F2 O v1 v2 v4 v5 v6 H (decide (i64.wrap (1+v5.1)=2))else F2 O v1 v2 v4 v5 v6 H (decide (i64.wrap (1+v5.1)=3))))
def bV9(O:List Int)(a1:bM)(r:aL×bM)(h:F3 O a1=some r):MFn C 8 [.ptr 0 0 0,.sl (O.map (eI i64))] [(0,bx a1)] 1 (ga r.1) [(0,bx r.2)] 1:=by
 refine pF f8 [] [ga r.1] λ E hG hN hK=>?_;unfold F3 at h;refine zq ?_;refine zq ?_;obtain⟨v1,q0,h⟩:=mG h;refine nK (λ hg=>(bMl O).ok _ q0) ?_;refine zq ?_;obtain⟨v2,hv2,h⟩:=mG h;obtain⟨f0,h⟩:=mM h;refine mU [(0,0)] [] [0] ((qP (v1.1.length:Int) a1).ok _ hv2) rfl rfl ?_;refine zq ?_;obtain⟨v3,hv3,h⟩:=mG h;refine mU [(0,0)] [] [0] ((qP 8 v2.2).ok _ hv3) rfl rfl ?_;obtain⟨v4,hv4,h⟩:=mG h;refine nK (λ hg=>(aZl v3.1).ok _ hv4) ?_;refine zq ?_;obtain⟨v5,hv5,h⟩:=mG h;refine mU [(0,0)] [] [0] ((qP 15 v3.2).ok _ hv5) rfl rfl ?_;refine zq ?_;obtain⟨v6,r0,h⟩:=mG h;refine mU [(0,0)] [] [0] ((qP 6 v5.2).ok _ r0) rfl rfl ?_;obtain⟨H,s0,h⟩:=mG h;refine mU [(0,0)] [] [0] ((qP 6 v6.2).ok _ s0) rfl rfl ?_;refine mD (zq ?_);refine oM (zq ?_);refine mJ rfl hG h (λ _ h=>?_) (λ _ h=>?_)
 · refine qJ oS hG ?_
   obtain⟨v8,t0,h⟩:=mG h;refine sK (λ hg=>(Ox (v1.1.getD v2.1.toNat aJ.zero) H.1).ok _ t0) ?_;obtain⟨v9,c0,h⟩:=mG h;refine vQ [(0,0)] [] [0] ((qP 4 H.2).ok _ c0) rfl rfl ?_;refine zq ?_;refine mO ?_;exact nD [(0,0)] h
 refine mD (zq ?_);refine rV (bV8 O v1 v2 v4 v5 v6 H) (λ v=>F2 O v1 v2 v4 v5 v6 H v=some r) rfl hG h ?_ (λ _ h=>?_) (λ _ h=>?_)
 · intro j1 h
   unfold F2 at h;refine g_st ?_;refine mJ rfl hG h (λ _ h=>?_) (λ _ h=>?_)
   · refine mD (qJ oS hG ?_)
     refine mD (zq ?_);refine rV (bV6 H) (λ v=>F0 H v=some r) rfl hG h ?_ (λ _ h=>?_) (λ _ h=>?_)
     · intro j2 h
       unfold F0 at h;refine g_st ?_;refine mE hG ?_;obtain⟨g0,U,h⟩:=mG h;refine G5 [(0,0)] [0] U (λ hc=>(qP 2 H.2).ok _ hc) rfl ?_;refine zq ?_;refine mO ?_;exact nD [(0,0)] h
     · refine mE hG ?_
       obtain⟨d0,Y,h⟩:=mG h;refine nK (λ hg=>(Ox (v1.1.getD v2.1.toNat aJ.zero) H.1).ok _ Y) ?_;exact nA hK [(0,0),(1,1),(2,4)] ({{{{{aL.zero with kind:=(i64.wrap (1+v5.1))}with aM:=v4}with gen:=v6.1}with aZ:={aO.zero with name:=(v1.1.getD v2.1.toNat aJ.zero).name}}with aZ:={({aO.zero with name:=(v1.1.getD v2.1.toNat aJ.zero).name})with aI:=d0}}) (by exact h)
     refine mN ?_;exact nA hK [(0,0),(1,1),(2,4)] ({{{{aL.zero with kind:=(i64.wrap (1+v5.1))}with aM:=v4}with gen:=v6.1}with aZ:={aO.zero with name:=(v1.1.getD v2.1.toNat aJ.zero).name}}) (by exact h)
   refine zq ?_;refine mJ rfl hG h (λ _ h=>?_) (λ _ h=>?_)
   · refine qJ oS hG ?_
     obtain⟨l0,B,h⟩:=mG h;refine sK (λ hg=>(Ox (v1.1.getD v2.1.toNat aJ.zero) H.1).ok _ B) ?_;refine zq ?_;refine mO ?_;exact nD [(0,0)] h
   refine zq ?_;refine mJ rfl hG h (λ _ h=>?_) (λ _ h=>?_)
   · refine mE hG ?_
     obtain⟨m0,F,h⟩:=mG h;refine mU [(0,0)] [] [0] ((qP 4 H.2).ok _ F) rfl rfl ?_;refine zq ?_;refine mO ?_;exact nD [(0,0)] h
   refine mD (zq ?_);refine rV (bV7 O v4 v5 v6 H) (λ v=>F1 O v4 v5 v6 H v=some r) rfl hG h ?_ (λ _ h=>?_) (λ _ h=>?_)
   · intro j3 h
     unfold F1 at h;refine g_st ?_;refine mJ rfl hG h (λ _ h=>?_) (λ _ h=>?_)
     · refine mE hG ?_
       refine zq ?_;refine mO ?_;exact nD [(0,0)] h
     refine zq ?_;refine mJ rfl hG h (λ _ h=>?_) (λ _ h=>?_)
     · refine zq ?_
       obtain⟨e0,M,h⟩:=mG h;refine nK (λ hg=>(bUn O).ok _ M) ?_;refine qJ oS hG ?_;obtain⟨j0,h0,h⟩:=mG h;refine sK (λ hg=>(Vj e0).ok _ h0) ?_;obtain⟨o0,x0,h⟩:=mG h;refine sK (λ hg=>bV3 _ _ _ x0) ?_;refine zq ?_;refine mO ?_;exact nD [(0,0)] h
     refine zq ?_;refine mJ rfl hG h (λ _ h=>?_) (λ _ h=>?_)
     · refine mE hG ?_
       obtain⟨b0,y0,h⟩:=mG h;refine nK (λ hg=>(bV5 O).ok _ y0) ?_;refine zq ?_;refine mO ?_;exact nD [(0,0)] h
     refine zq ?_;refine mJ rfl hG h (λ _ h=>?_) (λ _ h=>?_)
     · refine mD (qJ oS hG ?_)
       obtain⟨h1,z0,h⟩:=mG h;refine vQ [(0,0)] [] [0] ((qP 5 H.2).ok _ z0) rfl rfl ?_;refine zq ?_;refine mJ rfl hG h (λ _ h=>?_) (λ _ h=>?_)
       · refine mE hG ?_
         refine zq ?_;refine mO ?_;exact nD [(0,0)] h
       refine mN ?_;refine zq ?_;refine mO ?_;exact nD [(0,0)] h
     refine zq ?_;refine mJ rfl hG h (λ _ h=>?_) (λ _ h=>?_)
     · refine qJ oS hG ?_
       obtain⟨x1,u0,h⟩:=mG h;refine vQ [(0,0)] [] [0] ((qP 2 H.2).ok _ u0) rfl rfl ?_;refine zq ?_;refine mO ?_;exact nD [(0,0)] h
     refine zq ?_;refine mJ rfl hG h (λ _ h=>?_) (λ _ h=>?_)
     · refine mE hG ?_
       obtain⟨y1,p0,h⟩:=mG h;refine mU [(0,0)] [] [0] ((qP 4 H.2).ok _ p0) rfl rfl ?_;refine zq ?_;refine mO ?_;exact nD [(0,0)] h
     refine mE hG ?_;refine zq ?_;refine mO ?_;exact nD [(0,0)] h
   · refine mN ?_
     exact nA hK [(0,0),(1,1),(2,3),(3,4)] (decide (i64.wrap (1+v5.1)=6)) (by exact h)
   refine mE hG ?_;exact nA hK [(0,0),(1,1),(2,3),(3,4)] (decide (i64.wrap (1+v5.1)=8)) (by exact h)
 · refine mN ?_
   exact nA hK [(0,0),(1,1),(2,2),(3,3),(4,4)] (decide (i64.wrap (1+v5.1)=2)) (by exact h)
 refine mE hG ?_;exact nA hK [(0,0),(1,1),(2,2),(3,3),(4,4)] (decide (i64.wrap (1+v5.1)=3)) (by exact h)
instance bVa(H:List Int)(O:bM):OkM (F3 H O) 8 [.ptr 0 0 0,.sl (H.map (eI i64))] [(0,bx O)] 1 (λ r=>ga r.1) (λ r=>[(0,bx r.2)]) 1:=⟨bV9 H O⟩
def IK(F M:List Int)(a2 O:Int):Option Bool:=(if (!(Kt F))||decide (20<(M.length:Int))then(Bs).bind λ v1=>some v1 else(F3 F ({bM.zero with l:=M})).bind λ v2=>(Bp v2.1).bind λ v3=>(if (!decide (v3.2=0))||decide ((v3.1.length:Int)=0)then(Bs).bind λ v4=>(if v4 then w7 v2.1 else some false).bind λ v5=>some (v4&&(!v5))else gd (v3.1.length<=4294967296)<|(vR a2 ((v3.1.length:Nat):Int)).bind λ v6=>gd (0<=v6/\v6<((v3.1.length:Nat):Int))<|(wD (v3.1.set v6.toNat O)).bind λ Y=>(if !decide (Y.2=0)then(Bs).bind λ v8=>some v8 else(Bp Y.1).bind λ U=>(Bs).bind λ H=>(if (H&&decide (U.2=0))&&((pI U.1).toList==(pI (v3.1.set v6.toNat O)).toList)then q9 Y.1 v2.1 else some false).bind λ B=>some (((H&&decide (U.2=0))&&((pI U.1).toList==(pI (v3.1.set v6.toNat O)).toList))&&decide (B=((pI v3.1).toList==(pI (v3.1.set v6.toNat O)).toList))))))
instance bVb(H O:List Int)(U Y:Int):OkP (IK H O U Y) 4 [.sl (H.map (eI i64)),.sl (O.map (eI i64)),.int i64 U,.int u8 Y] .bool:=ok1 (IK.eq_1 H O U Y) f4 []
end
end Ab
end Go.Proofs.YtfmnjkfhahfhgaaGreatDoor
