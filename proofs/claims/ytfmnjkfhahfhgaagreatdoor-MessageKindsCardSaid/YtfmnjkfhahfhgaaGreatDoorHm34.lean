import Derived.Test.YtfmnjkfhahfhgaaGreatDoorHm29
import Derived.Test.YtfmnjkfhahfhgaaGreatDoorHm26
namespace Go.Proofs.YtfmnjkfhahfhgaaGreatDoor
namespace Ab
set_option linter.defProp false
open IntKind (i64 u64 u8)
set_option linter.unusedSimpArgs false
set_option linter.unusedVariables false
set_option maxRecDepth 100000
set_option maxHeartbeats 1000000
noncomputable section
variable {T T1 T2 T3 T4 : Type} (x : T) (v1 : T1) (v2 : T2) (v3 : T3) (v4 : T4)
def GB(H:aG)(O:ByteArray)(v1:Int)(j1:bB):Option bB:=(sP H.bF.aP O).bind λ v3=>gd (0<=v1/\v1<j1.c.aF.length)<|(rI (j1.c.aF.getD v1.toNat aA.zero) H.aL).bind λ v4=>(if !decide (v4=v3)then(zK j1.c.aF H.aL (⟨O,v3⟩:aO)).bind λ v5=>(uG v5.1 v5.2.1 j1).bind λ v6=>some (⟨(⟨v6.1,v6.2.1,v6.2.2.1⟩:bC),v6.2.2.2⟩:bB)else some j1)
def s5(O:aG)(U:ByteArray)(H:bB):Option bB:=(rY H.c.aF U).bind λ v1=>gd (0<=v1/\v1<H.c.aF.length)<|(tH (H.c.aF.getD v1.toNat aA.zero) O.aL).bind λ v2=>(if v2.2 then(DJ H.c.aF O.aL U).bind λ B=>(uG B.1 B.2.1 H).bind λ Y=>GB O U v1 (⟨(⟨Y.1,Y.2.1,Y.2.2.1⟩:bC),Y.2.2.2⟩:bB)else GB O U v1 H)
@[reducible,instance]def bSa (H:aG) (O:ByteArray) a2 (v1:Int):=mkJ ((s5 H O a2,v1),v2) 999 (@GB.eq_1 H O v1) λ j1=>⟨[(0,.ptr 0 0 0),(2,.str O),(4,.ptr 3 0 0),(6,.int i64 v1)],[(0,⟨false,4,bB.enc bB.zero,[[.int i64 j1.c.now,la j1.c.aF,.own 4 0 j1.c.aD.length,.own 5 0 j1.ev.length]]⟩),(3,bx H),(4,sx j1.c.aD),(5,sx j1.ev)],6⟩
instance bSb(O:aG)(U:ByteArray)(H:bB):OkM (s5 O U H) 230 [.ptr 0 0 0,ga O,.str U] [(0,⟨false,4,bB.enc bB.zero,[[.int i64 H.c.now,la H.c.aF,.own 1 0 H.c.aD.length,.own 2 0 H.ev.length]]⟩),(1,sx H.c.aD),(2,sx H.ev)] 3 (λ r=>.tup []) (λ r=>[(0,⟨false,4,bB.enc bB.zero,[[.int i64 r.c.now,la r.c.aF,.own 3 0 r.c.aD.length,.own 4 0 r.ev.length]]⟩),(3,sx r.c.aD),(4,sx r.ev)]) 5:=okm (s5.eq_1 O U H) (λ r=>[]) Tryz.f230 []
def M3(H:Int)(j1:bB):Option bB:=(At H j1).bind λ v2=>some (⟨(⟨v2.1,v2.2.1,v2.2.2.1⟩:bC),v2.2.2.2⟩:bB)
def JP(O:Int)(U:bB)(v1:(List aO))(H:Int×bB):Option ((Int×bB)⊕bB):=(if decide (H.1<v1.length)then gd (0<=H.1/\H.1<v1.length)<|(s5 (U.c.aD.getD O.toNat aG.zero) (v1.getD H.1.toNat aO.zero).name H.2).bind λ v3=>some (.inl (i64.wrap (H.1+1),v3))else some (.inr H.2))
def zM(H:Int)(O:bB):Option bB:=gd (0<=H/\H<((O.c.aD.length:Nat):Int))<|(uK ((O.c.aD.getD H.toNat aG.zero).bJ).bU).bind λ v1=>(lS (JP H O v1) (0,O)).bind (λ z=>M3 H z)
@[reducible,instance]def bSd (H:Int) a1:=mkJ (zM H a1,v1) 0 (@M3.eq_1 H) λ j1=>⟨[(0,.ptr 0 0 0),(1,.int i64 H)],[(0,⟨false,4,bB.enc bB.zero,[[.int i64 j1.c.now,la j1.c.aF,.own 3 0 j1.c.aD.length,.own 4 0 j1.ev.length]]⟩),(3,sx j1.c.aD),(4,sx j1.ev)],5⟩
@[reducible,instance]def bSe (O:Int) (U:bB) (v1:(List aO)):=mkL x (@JP.eq_1 O U v1) λ H=>⟨[(0,.ptr 0 0 0),(1,.int i64 O),(4,.ptr 3 0 0),(5,la v1),(6,.int i64 H.1)],[(0,⟨false,4,bB.enc bB.zero,[[.int i64 H.2.c.now,la H.2.c.aF,.own 4 0 H.2.c.aD.length,.own 5 0 H.2.ev.length]]⟩),(3,bx (U.c.aD.getD O.toNat aG.zero)),(4,sx H.2.c.aD),(5,sx H.2.ev)],6⟩
instance bSf(O:Int)(H:bB):OkM (zM O H) 189 [.ptr 0 0 0,.int i64 O] [(0,⟨false,4,bB.enc bB.zero,[[.int i64 H.c.now,la H.c.aF,.own 1 0 H.c.aD.length,.own 2 0 H.ev.length]]⟩),(1,sx H.c.aD),(2,sx H.ev)] 3 (λ r=>.tup []) (λ r=>[(0,⟨false,4,bB.enc bB.zero,[[.int i64 r.c.now,la r.c.aF,.own 3 0 r.c.aD.length,.own 4 0 r.ev.length]]⟩),(3,sx r.c.aD),(4,sx r.ev)]) 5:=okm (zM.eq_1 O H) (λ r=>[]) Tryz.f189 []
def Tk(j1:bB):Option bB:=some j1
def M4(U:Int×bB)(Y:bB):Option ((Int×bB)⊕bB):=(At U.1 Y).bind λ v6=>(tI U.1 (⟨(⟨v6.1,v6.2.1,v6.2.2.1⟩:bC),v6.2.2.2⟩:bB)).bind λ O=>(xB (⟨(⟨O.1,O.2.1,O.2.2.1⟩:bC),O.2.2.2⟩:bB)).bind λ H=>some (.inl (H.1,(⟨(⟨H.2.1,H.2.2.1,H.2.2.2.1⟩:bC),H.2.2.2.2⟩:bB)))
def GC(O:Int×bB)(v4:(List Bool))(v5:(List aO))(H:Int×bB):Option ((Int×bB)⊕bB):=(if decide (H.1<v5.length)then gd (0<=H.1/\H.1<v5.length)<|gd (0<=H.1/\H.1<v4.length)<|(if !(v4.getD H.1.toNat false)then(s5 (O.2.c.aD.getD O.1.toNat aG.zero) (v5.getD H.1.toNat aO.zero).name H.2).bind λ M=>some (.inl (i64.wrap (H.1+1),M))else(rY H.2.c.aF (v5.getD H.1.toNat aO.zero).name).bind λ U=>gd (0<=U/\U<H.2.c.aF.length)<|(rI (H.2.c.aF.getD U.toNat aA.zero) (O.2.c.aD.getD O.1.toNat aG.zero).aL).bind λ Y=>gd (0<=O.1/\O.1<((H.2.c.aD.length:Nat):Int))<|(sP ((H.2.c.aD.getD O.1.toNat aG.zero).bF).aP (v5.getD H.1.toNat aO.zero).name).bind λ B=>(if !decide (Y=B)then gd (0<=O.1/\O.1<((H.2.c.aD.length:Nat):Int))<|(Dn (H.2.c.aD.getD O.1.toNat aG.zero).bF (⟨(v5.getD H.1.toNat aO.zero).name,B,Y⟩:bM)).bind λ F=>gd (0<=O.1/\O.1<((H.2.c.aD.length:Nat):Int))<|some (.inl (i64.wrap (H.1+1),(⟨(⟨H.2.c.now,H.2.c.aF,H.2.c.aD.set O.1.toNat ({(H.2.c.aD.getD O.1.toNat aG.zero)with bF:=F.1})⟩:bC),H.2.ev⟩:bB)))else some (.inl (i64.wrap (H.1+1),H.2))))else some (.inr H.2))
def DT(H:Int×bB):Option ((Int×bB)⊕bB):=(if decide (0<=H.1)then gd (0<=H.1/\H.1<((H.2.c.aD.length:Nat):Int))<|(j8 2 (H.2.c.aD.getD H.1.toNat aG.zero).aL H.2).bind λ v2=>(zJ v2.2.1 (H.2.c.aD.getD H.1.toNat aG.zero).aL ((H.2.c.aD.getD H.1.toNat aG.zero).bJ).bU).bind λ v3=>(q8 ((H.2.c.aD.getD H.1.toNat aG.zero).bJ).bU v3).bind λ v4=>(uK ((H.2.c.aD.getD H.1.toNat aG.zero).bJ).bU).bind λ v5=>(lS (GC H v4 v5) (0,(⟨(⟨v2.1,v2.2.1,v2.2.2.1⟩:bC),v2.2.2.2⟩:bB))).bind (λ z=>M4 H z)else some (.inr H.2))
def rO(H:bB):Option bB:=(xB H).bind λ v1=>(lS DT (v1.1,(⟨(⟨v1.2.1,v1.2.2.1,v1.2.2.2.1⟩:bC),v1.2.2.2.2⟩:bB))).bind (λ z=>Tk z)
@[reducible,instance]def bSi a0:=mkJ (rO a0,v1) 0 (@Tk.eq_1) λ j1=>⟨[],[(0,⟨false,4,bB.enc bB.zero,[[.int i64 j1.c.now,la j1.c.aF,.own 3 0 j1.c.aD.length,.own 4 0 j1.ev.length]]⟩),(3,sx j1.c.aD),(4,sx j1.ev)],5⟩
@[reducible,instance]def bSj (O:Int×bB):=mkJ ((((DT O,v1),v2),v3),v4) 2 (@M4.eq_1 O) λ H=>⟨[(0,.ptr 0 0 0),(2,.int i64 O.1)],[(0,⟨false,4,bB.enc bB.zero,[[.int i64 H.c.now,la H.c.aF,.own 3 0 H.c.aD.length,.own 4 0 H.ev.length]]⟩),(3,sx H.c.aD),(4,sx H.ev)],5⟩
@[reducible,instance]def bSk (O:Int×bB) (v4:(List Bool)) (v5:(List aO)):=mkL x (@GC.eq_1 O v4 v5) λ H=>⟨[(0,.ptr 0 0 0),(2,.int i64 O.1),(3,.ptr 3 0 0),(4,.sl (v4.map eB)),(5,la v5),(6,.int i64 H.1)],[(0,⟨false,4,bB.enc bB.zero,[[.int i64 H.2.c.now,la H.2.c.aF,.own 4 0 H.2.c.aD.length,.own 5 0 H.2.ev.length]]⟩),(3,bx (O.2.c.aD.getD O.1.toNat aG.zero)),(4,sx H.2.c.aD),(5,sx H.2.ev)],6⟩
@[reducible,instance]def bSl:=mkL x (@DT.eq_1) λ H=>⟨[(0,.ptr 0 0 0),(2,.int i64 H.1)],[(0,⟨false,4,bB.enc bB.zero,[[.int i64 H.2.c.now,la H.2.c.aF,.own 3 0 H.2.c.aD.length,.own 4 0 H.2.ev.length]]⟩),(3,sx H.2.c.aD),(4,sx H.2.ev)],5⟩
instance bSm(H:bB):OkM (rO H) 191 [.ptr 0 0 0] [(0,⟨false,4,bB.enc bB.zero,[[.int i64 H.c.now,la H.c.aF,.own 1 0 H.c.aD.length,.own 2 0 H.ev.length]]⟩),(1,sx H.c.aD),(2,sx H.ev)] 3 (λ r=>.tup []) (λ r=>[(0,⟨false,4,bB.enc bB.zero,[[.int i64 r.c.now,la r.c.aF,.own 3 0 r.c.aD.length,.own 4 0 r.ev.length]]⟩),(3,sx r.c.aD),(4,sx r.ev)]) 5:=okm (rO.eq_1 H) (λ r=>[]) Tryz.f191 []
def Tl(j1:aI):Option aI:=some j1
def JQ(O:bC)(H:Int×aI):Option ((Int×aI)⊕aI):=(if decide (H.1<O.aD.length)then gd (0<=H.1/\H.1<O.aD.length)<|(if(O.aD.getD H.1.toNat aG.zero).bI=true then gd (0<=H.1/\H.1<O.aD.length)<|gd (0<=H.1/\H.1<O.aD.length)<|gd (0<=H.1/\H.1<O.aD.length)<|gd (H.2.aY.length+1<=4294967296)<|some (.inl (i64.wrap (H.1+1),(⟨H.2.aF,H.2.aY++[(⟨(O.aD.getD H.1.toNat aG.zero).aL,((O.aD.getD H.1.toNat aG.zero).bJ).bU,(O.aD.getD H.1.toNat aG.zero).gen⟩:bQ)]⟩:aI)))else some (.inl (i64.wrap (H.1+1),H.2)))else some (.inr H.2))
def zN(H:bC):Option aI:=(r8 H).bind λ v1=>(if !v1 then some ({aI.zero with})else gd (H.aF.length<=4294967296)<|(lS (JQ H) (0,(⟨H.aF,[]⟩:aI))).bind (λ z=>Tl z))
@[reducible,instance]def bSq (H:bC):=mkJ (zN H,v1) 0 (@Tl.eq_1) λ j1=>⟨[(2,.ptr 0 0 0),(3,.ptr 1 0 0)],[(0,bx aI.zero),(1,⟨false,2,aI.enc aI.zero,[[.own 2 0 j1.aF.length,.own 3 0 j1.aY.length]]⟩),(2,sx j1.aF),(3,sx j1.aY)],4⟩
@[reducible,instance]def bSr (O:bC):=mkL x (@JQ.eq_1 O) λ H=>⟨[(1,.ptr 0 0 0),(2,.ptr 1 0 0),(3,.ptr 2 0 0),(4,.int i64 H.1)],[(0,bx O),(1,bx aI.zero),(2,⟨false,2,aI.enc aI.zero,[[.own 3 0 H.2.aF.length,.own 4 0 H.2.aY.length]]⟩),(3,sx H.2.aF),(4,sx H.2.aY)],5⟩
instance Tm(H:bC):OkP (zN H) 21 [ga H] ga:=⟨λ r h=>by
 refine oC Tryz.f21 [(9,1),(13,4),(3,4)] λ E hG Y hK=>?_;have hm:Mk (zN H):=trivial;unfold zN at h;refine lQ (lR hG ?_);refine lQ (lQ (lR hG ?_));obtain⟨v1,O,h⟩:=lT h;have hm:=mkP hm v1;refine mW (λ hg=>(S8 H).ok _ O) ?_;refine lU rfl hG h (λ _ h=>?_) (λ _ h=>?_)
 .exact gogo
 refine lW ?_;refine lQ ?_;obtain⟨U,h⟩:=lZ h;refine lR hG ?_;refine g_gh (.ownb 4 1 9 (bQ.enc bQ.zero)) ?_;exact gogo⟩
def GD(H:aI)(O:aK):Option Bool:=(yD H O).bind λ v1=>(if v1.2 then Bp H O else some []).bind λ v2=>(if v1.2 then q6 v1.1.bU v2 else some false).bind λ v3=>some ((!v1.2)||v3)
instance bSu(H:aI)(O:aK):OkP (GD H O) 149 [ga H,ga O] .bool:=ok1 (GD.eq_1 H O) Tryz.f149 []
def Tn(j1:(List aK)):Option (List aK):=some j1
def GE(O:aI)(v2:(List aK))(H:Int×(List aK)):Option ((Int×(List aK))⊕(List aK)):=(if decide (H.1<v2.length)then gd (0<=H.1/\H.1<v2.length)<|(GD O (v2.getD H.1.toNat aK.zero)).bind λ v3=>(if v3 then gd (0<=H.1/\H.1<v2.length)<|gd (H.2.length+1<=4294967296)<|some (.inl (i64.wrap (H.1+1),H.2++[v2.getD H.1.toNat aK.zero]))else some (.inl (i64.wrap (H.1+1),H.2)))else some (.inr H.2))
def Bs(H:aI):Option (List aK):=(uM H).bind λ v1=>(if !v1 then some [] else(zH H).bind λ v2=>(lS (GE H v2) (0,[])).bind (λ z=>Tn z))
@[reducible,instance]def bSx a0:=mkJ ((Bs a0,v1),v2) 0 (@Tn.eq_1) λ j1=>⟨[(3,.own 0 0 j1.length)],[(0,sx j1)],1⟩
@[reducible,instance]def bSy (O:aI) (v2:(List aK)):=mkL x (@GE.eq_1 O v2) λ H=>⟨[(1,.ptr 0 0 0),(3,.own 1 0 H.2.length),(4,la v2),(5,.int i64 H.1)],[(0,bx O),(1,sx H.2)],2⟩
instance bSz(H:aI):OkP (Bs H) 95 [ga H] la:=ok1 (Bs.eq_1 H) Tryz.f95 [(3,1)]
def To(j1:(List Int)):Option (List Int):=some j1
def M5(H:Int×(List Int))(O:(List Int)):Option ((Int×(List Int))⊕(List Int)):=some (.inl (i64.wrap (H.1+1),O))
def GF(O:aM)(H:Int×(List Int)):Option ((Int×(List Int))⊕(List Int)):=(if decide (H.1<O.options.length)then gd (0<=H.1/\H.1<O.options.length)<|(Bb H.2 (O.options.getD H.1.toNat aQ.zero)).bind λ U=>some (.inl (i64.wrap (H.1+1),U))else some (.inr H.2))
def s6 (O:aM) (H:Int×(List Int)):Option ((Int×(List Int))⊕(List Int)):=(if decide (H.1<(((mR O.kind).toList.map λ b=>(b.toNat:Int)).length:Int))then gd (0<=H.1/\H.1<(((mR O.kind).toList.map λ b=>(b.toNat:Int)).length:Int))<|(if decide (((mR O.kind).toList.map λ b=>(b.toNat:Int)).getD H.1.toNat 0=80)then(AG H.2 O.aL).bind λ v2=>some (.inl (i64.wrap (H.1+1),v2))else(if decide (((mR O.kind).toList.map λ b=>(b.toNat:Int)).getD H.1.toNat 0=71)then(pG H.2 (u64.wrap O.gen)).bind λ v3=>some (.inl (i64.wrap (H.1+1),v3))else(if decide (((mR O.kind).toList.map λ b=>(b.toNat:Int)).getD H.1.toNat 0=65)then(CR H.2 O.bA.name).bind λ v4=>(pG v4 (u64.wrap O.bA.aJ.mode)).bind λ v5=>(pG v5 (u64.wrap O.bA.aJ.aT)).bind λ v6=>some (.inl (i64.wrap (H.1+1),v6))else(if decide (((mR O.kind).toList.map λ b=>(b.toNat:Int)).getD H.1.toNat 0=89)then(pG H.2 (u64.wrap O.bD)).bind λ v7=>some (.inl (i64.wrap (H.1+1),v7))else(if decide (((mR O.kind).toList.map λ b=>(b.toNat:Int)).getD H.1.toNat 0=68)then(if O.done then gd (H.2.length+1<=4294967296)<|some (.inl (i64.wrap (H.1+1),H.2++[1]))else gd (H.2.length+1<=4294967296)<|some (.inl (i64.wrap (H.1+1),H.2++[0])))else(if decide (((mR O.kind).toList.map λ b=>(b.toNat:Int)).getD H.1.toNat 0=83)then(pG H.2 (u64.wrap O.site)).bind λ v8=>some (.inl (i64.wrap (H.1+1),v8))else(if decide (((mR O.kind).toList.map λ b=>(b.toNat:Int)).getD H.1.toNat 0=73)then(pG H.2 (u64.wrap O.inc)).bind λ v9=>some (.inl (i64.wrap (H.1+1),v9))else(if decide (((mR O.kind).toList.map λ b=>(b.toNat:Int)).getD H.1.toNat 0=82)then(pG H.2 (u64.wrap O.round)).bind λ B=>some (.inl (i64.wrap (H.1+1),B))else(if decide (((mR O.kind).toList.map λ b=>(b.toNat:Int)).getD H.1.toNat 0=69)then(pG H.2 (u64.wrap O.epoch)).bind λ F=>some (.inl (i64.wrap (H.1+1),F))else(if decide (((mR O.kind).toList.map λ b=>(b.toNat:Int)).getD H.1.toNat 0=76)then(pG H.2 (u64.wrap (i64.wrap (O.label+1)))).bind λ M=>some (.inl (i64.wrap (H.1+1),M))else(if decide (((mR O.kind).toList.map λ b=>(b.toNat:Int)).getD H.1.toNat 0=87)then(Br O.state).bind λ U=>(pG H.2 (u64.wrap (U.1.length:Int))).bind λ Y=>gd (Y.length+U.1.length<=4294967296)<|some (.inl (i64.wrap (H.1+1),Y++U.1))else(if decide (((mR O.kind).toList.map λ b=>(b.toNat:Int)).getD H.1.toNat 0=79)then(pG H.2 (u64.wrap (O.options.length:Int))).bind λ h0=>(lS (GF O) (0,h0)).bind (λ z=>M5 H z)else some (.inl (i64.wrap (H.1+1),H.2))))))))))))))else some (.inr H.2))
def Bt(H:aM):Option (List Int):=(pG [] (u64.wrap H.kind)).bind λ v1=>gd ((mR H.kind).size<=4294967296)<|(lS (s6 H) (0,v1)).bind (λ z=>To z)
@[reducible,instance]def bT3 (H:aM):=mkJ (Bt H,v1) 0 (@To.eq_1) λ j1=>⟨[(3,.own 0 0 j1.length)],[(0,⟨false,1,[A.int u8 0],j1.map (eI u8)⟩)],1⟩
@[reducible,instance]def bT4 (H:aM) (O:Int×(List Int)):=mkJ (s6 H O,v1) 3 (@M5.eq_1 O) λ U=>⟨[(1,.ptr 0 0 0),(3,.own 1 0 U.length),(17,.sl (((mR H.kind).toList.map λ b=>(b.toNat:Int)).map (eI u8))),(18,.int i64 (((mR H.kind).toList.map λ b=>(b.toNat:Int)).length:Int)),(19,.int i64 O.1)],[(0,bx H),(1,⟨false,1,[A.int u8 0],U.map (eI u8)⟩)],2⟩
@[reducible,instance]def bT5 (H:aM) (U:Int×(List Int)):=mkL (s6 H U,v1) (@GF.eq_1 H) λ O=>⟨[(1,.ptr 0 0 0),(3,.own 1 0 O.2.length),(17,.sl (((mR H.kind).toList.map λ b=>(b.toNat:Int)).map (eI u8))),(18,.int i64 (((mR H.kind).toList.map λ b=>(b.toNat:Int)).length:Int)),(19,.int i64 U.1),(136,la H.options),(137,.int i64 H.options.length),(138,.int i64 O.1)],[(0,bx H),(1,⟨false,1,[A.int u8 0],O.2.map (eI u8)⟩)],2⟩
@[reducible,instance]def bT6 (H:aM):=mkL x (@s6.eq_1 H) λ O=>⟨[(1,.ptr 0 0 0),(3,.own 1 0 O.2.length),(17,.sl (((mR H.kind).toList.map λ b=>(b.toNat:Int)).map (eI u8))),(18,.int i64 (((mR H.kind).toList.map λ b=>(b.toNat:Int)).length:Int)),(19,.int i64 O.1)],[(0,bx H),(1,⟨false,1,[A.int u8 0],O.2.map (eI u8)⟩)],2⟩
instance bT7(H:aM):OkP (Bt H) 28 [ga H] (λ r=>.sl (r.map (eI u8))):=⟨λ r h=>by
 refine oC Tryz.f28 [(29,1),(43,1)] λ E hG U hK=>?_;have hm:Mk (Bt H):=trivial;unfold Bt at h;refine lQ (lR hG ?_);refine lQ (lR hG ?_);obtain⟨v1,O,h⟩:=lT h;have hm:=mkP hm v1;refine mH [] [(0,1)] [0] (MFn.unfull1 ((ZL [] (u64.wrap H.kind)).ok _ O)) rfl rfl ?_;exact gogo⟩
def M6(H:aM)(j1:Unit):Option Bool:=(Bt H).bind λ v3=>some (decide ((v3.length:Int)<=4064))
def JR(O:aM)(H:Int):Option (Int⊕(Unit⊕Bool)):=(if decide (H<(((mR O.kind).toList.map λ b=>(b.toNat:Int)).length:Int))then gd (0<=H/\H<(((mR O.kind).toList.map λ b=>(b.toNat:Int)).length:Int))<|(xC O (((mR O.kind).toList.map λ b=>(b.toNat:Int)).getD H.toNat 0)).bind λ v4=>(if !v4 then some (.inr (.inr false))else some (.inl (i64.wrap (H+1))))else some (.inr (.inl ())))
def zO(H:aM):Option Bool:=(if !((mR H.kind).toList==(⟨#[]⟩:ByteArray).toList)then AB H else some aM.zero).bind λ v1=>(if !((mR H.kind).toList==(⟨#[]⟩:ByteArray).toList)then yZ H v1 else some false).bind λ v2=>(if ((mR H.kind).toList==(⟨#[]⟩:ByteArray).toList)||(!v2)then some false else gd ((mR H.kind).size<=4294967296)<|(lS (JR H) 0).bind (λ|.inl z=>M6 H z|.inr z=>some z))
@[reducible,instance]def bTa (H:aM):=mkJ ((zO H,v1),v2) 0 (@M6.eq_1 H) λ j1=>⟨[(1,.ptr 0 0 0)],[(0,bx H)],1⟩
@[reducible,instance]def bTb (H:aM):=mkL x (@JR.eq_1 H) λ O=>⟨[(1,.ptr 0 0 0),(19,.sl (((mR H.kind).toList.map λ b=>(b.toNat:Int)).map (eI u8))),(20,.int i64 (((mR H.kind).toList.map λ b=>(b.toNat:Int)).length:Int)),(21,.int i64 O)],[(0,bx H)],1⟩
instance bTc(H:aM):OkP (zO H) 10 [ga H] .bool:=ok1 (zO.eq_1 H) Tryz.f10 []
def JT(j1:aM):Option Bool:=(CN j1).bind λ v2=>some v2
@[go_sem] def bTe(j1:aM):St:=⟨[(4,.ptr 0 0 0)],[(0,bx j1)],1⟩
def DU(H:aM)(v1:(List (Int×bN)))(O:Int×aM):Option ((Int×aM)⊕(aM⊕Bool)):=(if decide (O.1<((Arr.get mZ H.kind.toNat ⟨#[]⟩).size:Int))then gd (0<=H.kind/\H.kind<16)<|gd (0<=O.1/\O.1<((Arr.get mZ H.kind.toNat ⟨#[]⟩).size:Int))<|(if(oK (((Arr.get mZ H.kind.toNat ⟨#[]⟩).toList.getD O.1.toNat 0).toNat:Int) v1).isSome=true then(oF ((oK (((Arr.get mZ H.kind.toNat ⟨#[]⟩).toList.getD O.1.toNat 0).toNat:Int) v1).getD bN.zero).of).bind λ v3=>(if (decide (nB H v3<((oK (((Arr.get mZ H.kind.toNat ⟨#[]⟩).toList.getD O.1.toNat 0).toNat:Int) v1).getD bN.zero).low)||decide (((oK (((Arr.get mZ H.kind.toNat ⟨#[]⟩).toList.getD O.1.toNat 0).toNat:Int) v1).getD bN.zero).high<nB H v3))||(decide ((((Arr.get mZ H.kind.toNat ⟨#[]⟩).toList.getD O.1.toNat 0).toNat:Int)=66)&&decide (nB H v3=0))then some (.inr (.inr false))else(oF ((oK (((Arr.get mZ H.kind.toNat ⟨#[]⟩).toList.getD O.1.toNat 0).toNat:Int) v1).getD bN.zero).of).bind λ v4=>some (.inl (i64.wrap (O.1+1),tF O.2 v4 0)))else(tP H (((Arr.get mZ H.kind.toNat ⟨#[]⟩).toList.getD O.1.toNat 0).toNat:Int)).bind λ v5=>(if !v5 then some (.inr (.inr false))else(Am (((Arr.get mZ H.kind.toNat ⟨#[]⟩).toList.getD O.1.toNat 0).toNat:Int) O.2).bind λ v6=>some (.inl (i64.wrap (O.1+1),v6))))else some (.inr (.inl O.2)))
@[go_sem] def bTf(H:aM)(v1:(List (Int×bN)))(O:Int×aM):St:=⟨[(1,.ptr 0 0 0),(3,.mp 1),(4,.ptr 2 0 0),(21,.int i64 ((Arr.get mZ H.kind.toNat ⟨#[]⟩).size:Int)),(22,.int i64 O.1)],[(0,bx H),(1,⟨false,0,[A.int u8 0,A.bool true],v1.map (mI u8 bN.enc)⟩),(2,bx O.2)],3⟩
def DV(H:aM):Option Bool:=(if !(Fc H.kind)then some false else(yJ).bind λ v1=>gd (0<=H.kind/\H.kind<16)<|(lS (DU H v1) (0,{H with kind:=0})).bind (λ|.inl z=>JT z|.inr z=>some z))
def bTg(U:aM)(r:Bool)(h:DV U=some r):PFn C 39 [ga U] (.bool r):=by
 refine oC Tryz.f39 [(40,1),(63,1)] λ E hG hN hK=>?_;unfold DV at h;refine lQ (lR hG ?_);refine lQ (lQ (lR hG ?_));refine mW (λ hg=>(Rg U.kind).ok) ?_;refine lU rfl hG h (λ _ h=>?_) (λ _ h=>?_)
 · refine lQ (lR hG ?_)
   refine lX ?_;exact nF h
 refine lW ?_;refine lQ (lR hG ?_);obtain⟨v1,Y,h⟩:=lT h;refine mH [] [(0,1)] [0] ((Fq).ok _ Y) rfl rfl ?_;refine lQ (lR hG ?_);refine lQ (lR hG ?_);refine lQ (lQ ?_);obtain⟨x0,h⟩:=lZ h;refine lR hG ?_;refine pL bTe (λ v=>JT v=some r) ?_ ?_
 · intro j1 h
   unfold JT at h;refine g_st ?_;refine lQ (lR hG ?_);obtain⟨v2,hv2,h⟩:=lT h;refine mW (λ hg=>bAe _ _ hv2) ?_;refine lX ?_;exact nF h
 refine pX (bTf U v1) hK [(0,0),(1,1),(2,2)] h (λ F h M h0 H O=>?_);unfold DU at H;refine g_st ?_;refine lQ (lR hG ?_);refine lQ ?_;refine lU rfl hG H (λ _ H=>?_) (λ _ H=>?_)
 · refine lW ?_
   refine lQ (nV (lQ (lR hG ?_)));refine lQ ?_;obtain⟨y0,H⟩:=lZ H;obtain⟨z0,H⟩:=lZ H;refine lR hG ?_;refine lQ (lQ (lR hG ?_));refine lQ (lR hG ?_);refine lU rfl hG H (λ _ H=>?_) (λ _ H=>?_)
   · refine lQ (lR hG ?_)
     obtain⟨v3,hv3,H⟩:=lT H;refine mH [(0,0)] [] [0] (Ah _ _ _ hv3) rfl rfl ?_ (ho:=by first|exact⟨by trivial,sO hv3⟩|exact sO hv3);refine lQ (lQ (lR hG ?_));refine lU rfl hG H (λ _ H=>?_) (λ _ H=>?_)
     · refine lQ (lR hG ?_)
       refine lX ?_;cases H;cases O _ rfl;exact nF h
     refine lW ?_;refine lQ (lR hG ?_);obtain⟨v4,hv4,H⟩:=lT H;refine mH [(0,2)] [] [0] (Ah _ _ _ hv4) rfl rfl ?_ (ho:=by first|exact⟨by trivial,sO hv4⟩|exact sO hv4);refine nX ?_;refine lR hG ?_;exact oL hK [(0,0),(1,1),(2,2)] H
   refine lW ?_;refine lQ (lQ (lR hG ?_));obtain⟨v5,hv5,H⟩:=lT H;refine mW (λ hg=>(bNu U (((Arr.get mZ U.kind.toNat ⟨#[]⟩).toList.getD M.1.toNat 0).toNat:Int)).ok _ hv5) ?_;refine lU rfl hG H (λ _ H=>?_) (λ _ H=>?_)
   · refine lQ (lR hG ?_)
     refine lX ?_;cases H;cases O _ rfl;exact nF h
   refine lW ?_;refine lR hG ?_;obtain⟨v6,B,H⟩:=lT H;refine mH [(0,2)] [] [0] (ZG _ _ _ B) rfl rfl ?_;refine lR hG ?_;exact oL hK [(0,0),(1,1),(2,2)] H
 refine nX ?_;cases H;cases O _ rfl;exact mM hK [(0,2)] M.2 (by exact h)
instance bTh(H:aM):OkP (DV H) 39 [ga H] .bool:=⟨bTg H⟩
def M7(H:aU):Option (aI×aU):=(yS H).bind λ v1=>(if !decide (v1.2.err=0)then some ({aI.zero with},v1.2)else(if decide ((v1.2.b.length:Int)<v1.1)then some ({aI.zero with},{v1.2 with err:=5})else gd (0<=0/\0<=v1.1/\v1.1<=(v1.2.b.length:Int)/\v1.1=v1.1)<|(Gg (v1.2.b.take v1.1.toNat)).bind λ v2=>(if !decide (v2.2=0)then some ({aI.zero with},{v1.2 with err:=v2.2})else gd (0<=v1.1/\v1.1<=(v1.2.b.length:Int)/\(v1.2.b.length:Int)<=(v1.2.b.length:Int))<|some (v2.1,{v1.2 with b:=(v1.2.b.drop v1.1.toNat)}))))
instance bTi(H:aU):OkM (M7 H) 74 [.ptr 0 0 0] [(0,bx H)] 1 (λ r=>ga r.1) (λ r=>[(0,bx r.2)]) 1:=okm (M7.eq_1 H) (λ r=>[ga r.1]) Tryz.f74 []
def JU(U:Int)(H:aU)(O:aM)(Y:Bool):Option (aU×aM):=(if Y then(M7 H).bind λ v4=>some (v4.2,{O with state:=v4.1})else(if decide (U=79)then(Dx H).bind λ v5=>some (v5.2,{O with options:=v5.1})else some (H,O)))
@[go_sem] def bTj(H:Int)(O:aU)(U:aM)(Y:Bool):St:=⟨[(0,.ptr 0 0 0),(1,.ptr 1 0 0),(6,.int u8 H),(29,.bool Y)],[(0,bx O),(1,bx U)],2⟩
def JV(H:Int)(O:aU)(U:aM)(j1:Bool):Option (aU×aM):=(if j1 then(Jk O).bind λ v2=>some (v2.2,{U with bA:=v2.1})else(if decide (H=68)then(Ir O).bind λ v3=>some (v3.2,{U with done:=v3.1})else(if decide (H=78)then JU H O U (decide (H=78))else JU H O U (decide (H=76)))))
@[go_sem] def bTk(H:Int)(O:aU)(U:aM)(j1:Bool):St:=⟨[(0,.ptr 0 0 0),(1,.ptr 1 0 0),(6,.int u8 H),(14,.bool j1)],[(0,bx O),(1,bx U)],2⟩
def M8(H:Int)(O:aU)(U:aM):Option (aU×aM):=(if decide (H=80)then(Jf O).bind λ v1=>some (v1.2,{U with aL:=v1.1})else(if decide (H=65)then JV H O U (decide (H=65))else JV H O U (decide (H=97))))
def bTl(O:Int)(H:aU)(U:aM)(r:aU×aM)(h:M8 O H U=some r):MFn C 33 [.ptr 0 0 0,.ptr 1 0 0,.int u8 O] [(0,bx H),(1,bx U)] 2 (.tup []) [(0,bx r.1),(1,bx r.2)] 2:=by
 refine oR Tryz.f33 [] [] λ E hG B hK=>?_;unfold M8 at h;refine lQ (lR hG ?_);refine nV (lQ (lR hG ?_));refine lU rfl hG h (λ _ h=>?_) (λ _ h=>?_)
 · refine lR hG ?_
   obtain⟨v1,Y,h⟩:=lT h;refine mH [(0,0)] [] [0] ((bH4 H).ok _ Y) rfl rfl ?_;exact mQ [(0,0),(1,1)] h
 refine lQ (lQ (lR hG ?_));refine rB (bTk O H U) (λ v=>JV O H U v=some r) rfl hG h ?_ (λ _ h=>?_) (λ _ h=>?_)
 · intro j1 h
   unfold JV at h;refine g_st ?_;refine lU rfl hG h (λ _ h=>?_) (λ _ h=>?_)
   · refine lR hG ?_
     obtain⟨v2,hv2,h⟩:=lT h;refine mH [(0,0)] [] [0] ((bId H).ok _ hv2) rfl rfl ?_;exact mQ [(0,0),(1,1)] h
   refine lQ (lR hG ?_);refine lU rfl hG h (λ _ h=>?_) (λ _ h=>?_)
   · refine lR hG ?_
     obtain⟨v3,hv3,h⟩:=lT h;refine mH [(0,0)] [] [0] ((ZQ H).ok _ hv3) rfl rfl ?_;exact mQ [(0,0),(1,1)] h
   refine lQ (lQ (lR hG ?_));refine rB (bTj O H U) (λ v=>JU O H U v=some r) rfl hG h ?_ (λ _ h=>?_) (λ _ h=>?_)
   · intro F h
     unfold JU at h;refine g_st ?_;refine lU rfl hG h (λ _ h=>?_) (λ _ h=>?_)
     · refine lR hG ?_
       obtain⟨v4,hv4,h⟩:=lT h;refine mH [(0,0)] [] [0] ((bTi H).ok _ hv4) rfl rfl ?_;exact mQ [(0,0),(1,1)] h
     refine lQ (lR hG ?_);refine lU rfl hG h (λ _ h=>?_) (λ _ h=>?_)
     · refine lR hG ?_
       obtain⟨v5,hv5,h⟩:=lT h;refine mH [(0,0)] [] [0] ((bM7 H).ok _ hv5) rfl rfl ?_;exact mQ [(0,0),(1,1)] h
     refine lW ?_;exact mQ [(0,0),(1,1)] h
   · refine lW ?_
     exact mM hK [(0,0),(1,1)] (decide (O=78)) (by exact h)
   refine lR hG ?_;exact mM hK [(0,0),(1,1)] (decide (O=76)) (by exact h)
 · refine lW ?_
   exact mM hK [(0,0),(1,1)] (decide (O=65)) (by exact h)
 refine lR hG ?_;exact mM hK [(0,0),(1,1)] (decide (O=97)) (by exact h)
end
end Ab
end Go.Proofs.YtfmnjkfhahfhgaaGreatDoor
