import Derived.Test.YtfmnjkfhahfhgaaGreatDoorHm14
import Derived.Test.YtfmnjkfhahfhgaaGreatDoorHm27
import Derived.Test.YtfmnjkfhahfhgaaGreatDoorHm18
namespace Go.Proofs.YtfmnjkfhahfhgaaGreatDoor
namespace Ab
set_option linter.defProp false
open IntKind (i64 u64 u8)
set_option linter.unusedSimpArgs false
set_option linter.unusedVariables false
set_option maxRecDepth 100000
set_option maxHeartbeats 1000000
noncomputable section
variable {T T1 T2 T3 : Type} (x : T) (v1 : T1) (v2 : T2) (v3 : T3)
def SX(H:Unit):Option Bool:=some true
def Ju(H:aA)(O:Int):Option (Int⊕(Unit⊕Bool)):=(if decide (O<H.aW.length)then gd (0<=O/\O<H.aW.length)<|gd (qF H.aB (H.aW.getD O.toNat aV.zero).aJ=true->0<=O/\O<H.aW.length)<|(if qF H.aB ((H.aW.getD O.toNat aV.zero).aJ)then yF H.aS ((H.aW.getD O.toNat aV.zero).aL)else some aC.zero).bind λ v4=>(if (!(qF H.aB (H.aW.getD O.toNat aV.zero).aJ))||(!(nP v4))then some (.inr (.inr false))else some (.inl (i64.wrap (O+1))))else some (.inr (.inl ())))
def Jv(H:aA)(j1:Unit):Option Bool:=(lS (Ju H) 0).bind (λ|.inl z=>SX z|.inr z=>some z)
def DB(H:aA)(O:Int):Option (Int⊕(Unit⊕Bool)):=(if decide (O<H.aN.length)then gd (0<=O/\O<H.aN.length)<|(yF H.aS (H.aN.getD O.toNat aV.zero).aL).bind λ v5=>(if !(((((nP v5||(!(qF H.aB (H.aN.getD O.toNat aV.zero).aJ)))||(!(rJ H.aB (H.aN.getD O.toNat aV.zero).aJ v5)))||decide ((H.aN.getD O.toNat aV.zero).aJ=v5))||(!decide ((H.aN.getD O.toNat aV.zero).bD=0)))||(!decide ((H.aN.getD O.toNat aV.zero).bS=0)))then vF H.aN ((H.aN.getD O.toNat aV.zero).aL)else some 0).bind λ v6=>(if (((((nP v5||(!(qF H.aB (H.aN.getD O.toNat aV.zero).aJ)))||(!(rJ H.aB (H.aN.getD O.toNat aV.zero).aJ v5)))||decide ((H.aN.getD O.toNat aV.zero).aJ=v5))||(!decide ((H.aN.getD O.toNat aV.zero).bD=0)))||(!decide ((H.aN.getD O.toNat aV.zero).bS=0)))||(!decide (v6=O))then some (.inr (.inr false))else some (.inl (i64.wrap (O+1))))else some (.inr (.inl ())))
def zG(H:aA):Option Bool:=(AX H.aB).bind λ v1=>(if v1 then zC H.aB H.aS else some false).bind λ v2=>(if !(((!v1)||(!v2))||decide (8<(H.aN.length:Int)))then o5 H.aW else some false).bind λ v3=>(if ((((((!v1)||(!v2))||decide (8<(H.aN.length:Int)))||(!v3))||decide (8<i64.wrap ((H.aS.length:Int)+(H.aW.length:Int))))||decide (H.gen<0))||decide (1073741824<H.gen)then some false else(lS (DB H) 0).bind (λ|.inl z=>Jv H z|.inr z=>some z))
@[reducible,instance]def bMp a0 j1:=mkJ (Jv a0 j1) 2 (@SX.eq_1) λ H=>⟨[],[],0⟩
@[reducible,instance]def bMq (H:aA):=mkL x (@Ju.eq_1 H) λ O=>⟨[(1,.ptr 0 0 0),(3,.ptr 1 0 0),(7,.int i64 O)],[(0,bx H),(1,bx H.aB)],2⟩
@[reducible,instance]def bMr (H:aA):=mkJ (((zG H,v1),v2),v3) 0 (@Jv.eq_1 H) λ j1=>⟨[(1,.ptr 0 0 0),(3,.ptr 1 0 0)],[(0,bx H),(1,bx H.aB)],2⟩
@[reducible,instance]def bMs (H:aA):=mkL x (@DB.eq_1 H) λ O=>⟨[(1,.ptr 0 0 0),(3,.ptr 1 0 0),(4,.int i64 O)],[(0,bx H),(1,bx H.aB)],2⟩
instance bMt(H:aA):OkP (zG H) 213 [ga H] .bool:=ok1 (zG.eq_1 H) Tryz.f213 []
def DC(H:List aH)(O:aO):Option Int:=(p5 H).bind λ v1=>(if !v1 then some 2 else(Al H O.name).bind λ v2=>(if !v2.2 then some 10 else(if !(qF v2.1 O.aJ)then some 12 else some 0)))
instance bMu(H:List aH)(O:aO):OkP (DC H O) 202 [la H,ga O] (λ r=>.int i64 r):=ok1 (DC.eq_1 H O) Tryz.f202 []
def MT(j1:(List aK)):Option (List aK):=(yT j1).bind λ v2=>some v2
def Jw(O:aI)(H:Int×(List aK)):Option ((Int×(List aK))⊕(List aK)):=(if decide (H.1<O.aY.length)then gd (0<=H.1/\H.1<O.aY.length)<|gd (H.2.length+1<=4294967296)<|some (.inl (i64.wrap (H.1+1),H.2++[(O.aY.getD H.1.toNat bQ.zero).aL]))else some (.inr H.2))
def zH(H:aI):Option (List aK):=(Dr H.aF).bind λ v1=>(lS (Jw H) (0,v1)).bind (λ z=>MT z)
@[reducible,instance]def bMx a0:=mkJ (zH a0,v1) 0 (@MT.eq_1) λ j1=>⟨[(3,.own 0 0 j1.length)],[(0,sx j1)],1⟩
@[reducible,instance]def bMy (O:aI):=mkL x (@Jw.eq_1 O) λ H=>⟨[(1,.ptr 0 0 0),(3,.own 1 0 H.2.length),(4,.int i64 H.1)],[(0,bx O),(1,sx H.2)],2⟩
instance bMz(H:aI):OkP (zH H) 97 [ga H] la:=ok1 (zH.eq_1 H) Tryz.f97 [(7,1)]
def MU(j1:(List aK)):Option (List aK):=(zB j1).bind λ v1=>some v1
def Gb(O:List aA)(H:Int×(List aK)):Option ((Int×(List aK))⊕(List aK)):=(if decide (H.1<O.length)then gd (0<=H.1/\H.1<O.length)<|(Dw (O.getD H.1.toNat aA.zero)).bind λ v2=>gd (H.2.length+v2.length<=4294967296)<|some (.inl (i64.wrap (H.1+1),H.2++v2))else some (.inr H.2))
def Bg(H:List aA):Option (List aK):=(lS (Gb H) (0,[])).bind (λ z=>MU z)
@[reducible,instance]def bN2 a0:=mkJ (Bg a0) 0 (@MU.eq_1) λ j1=>⟨[(3,.own 0 0 j1.length)],[(0,sx j1)],1⟩
@[reducible,instance]def bN3 (H:List aA):=mkL x (@Gb.eq_1 H) λ O=>⟨[(3,.own 0 0 O.2.length),(6,la H),(7,.int i64 H.length),(8,.int i64 O.1)],[(0,sx O.2)],1⟩
instance bN4(H:List aA):OkP (Bg H) 224 [la H] la:=ok1 (Bg.eq_1 H) Tryz.f224 [(3,1)]
def SY(j1:Unit):Option Int:=some 0
def Jx(O:List aH)(v1:(List aO)×Bool)(H:Int):Option (Int⊕(Unit⊕Int)):=(if decide (H<v1.1.length)then gd (0<=H/\H<v1.1.length)<|(DC O (v1.1.getD H.toNat aO.zero)).bind λ v2=>(if !decide (v2=0)then some (.inr (.inr v2))else some (.inl (i64.wrap (H+1))))else some (.inr (.inl ())))
def q5(H:List aH)(O:aR):Option Int:=(qG O).bind λ v1=>(if !v1.2 then some 1 else(lS (Jx H v1) 0).bind (λ|.inl z=>SY z|.inr z=>some z))
@[reducible,instance]def bN7 a0 a1:=mkJ (q5 a0 a1,v1) 0 (@SY.eq_1) λ j1=>⟨[],[],0⟩
@[reducible,instance]def bN8 (H:List aH) (v1:(List aO)×Bool):=mkL x (@Jx.eq_1 H v1) λ O=>⟨[(0,la H),(5,la v1.1),(7,.int i64 O)],[],0⟩
instance bN9(H:List aH)(O:aR):OkP (q5 H O) 142 [la H,ga O] (λ r=>.int i64 r):=ok1 (q5.eq_1 H O) Tryz.f142 []
def q6(H:aR)(O:List Bool):Option Bool:=(qG H).bind λ v1=>(if v1.2 then f_ref08_holds H v1.1 O else some false).bind λ v2=>some (v1.2&&v2)
instance bNa(H:aR)(O:List Bool):OkP (q6 H O) 144 [ga H,.sl (O.map eB)] .bool:=ok1 (q6.eq_1 H O) Tryz.f144 []
def Gc(H:aA):Option Bool:=(Ds H).bind λ v1=>(if !v1 then some false else(Cr H).bind λ v2=>(if v2.2 then DA H.aB H.aS v2.1.aL v2.1.aJ else some false).bind λ v3=>some ((!v2.2)||(!v3)))
instance bNb(H:aA):OkP (Gc H) 220 [ga H] .bool:=ok1 (Gc.eq_1 H) Tryz.f220 []
def Gd(H:aA):Option Bool:=(Gc H).bind λ v1=>some v1
instance bNc(H:aA):OkP (Gd H) 180 [ga H] .bool:=ok1 (Gd.eq_1 H) Tryz.f180 []
def MV(j1:(List aK)):Option (List aK):=(zB j1).bind λ v2=>some v2
def Jy(O:aI)(H:Int×(List aK)):Option ((Int×(List aK))⊕(List aK)):=(if decide (H.1<O.aY.length)then gd (0<=H.1/\H.1<O.aY.length)<|gd (H.2.length+1<=4294967296)<|some (.inl (i64.wrap (H.1+1),H.2++[(O.aY.getD H.1.toNat bQ.zero).aL]))else some (.inr H.2))
def Bh(H:aI):Option (List aK):=(Bg H.aF).bind λ v1=>gd (v1.length<=4294967296)<|(lS (Jy H) (0,v1)).bind (λ z=>MV z)
@[reducible,instance]def bNf a0:=mkJ (Bh a0,v1) 0 (@MV.eq_1) λ j1=>⟨[(3,.own 0 0 j1.length)],[(0,sx j1)],1⟩
@[reducible,instance]def bNg (H:aI):=mkL x (@Jy.eq_1 H) λ O=>⟨[(3,.own 0 0 O.2.length),(11,la H.aY),(12,.int i64 H.aY.length),(13,.int i64 O.1)],[(0,sx O.2)],1⟩
instance bNh(H:aI):OkP (Bh H) 183 [ga H] la:=ok1 (Bh.eq_1 H) Tryz.f183 []
def MW(H:aI)(O:Unit):Option Bool:=(Bh H).bind λ v1=>some (decide ((v1.length:Int)<=8))
def q7(O:aI)(H:Int):Option (Int⊕(Unit⊕Bool)):=(if decide (H<O.aY.length)then gd (0<=H/\H<O.aY.length)<|(if !(((!(mL (O.aY.getD H.toNat bQ.zero).aL))||decide ((O.aY.getD H.toNat bQ.zero).gen<0))||decide (1073741824<(O.aY.getD H.toNat bQ.zero).gen))then p7 ((O.aY.getD H.toNat bQ.zero).bU)else some false).bind λ v2=>(if (((!(mL (O.aY.getD H.toNat bQ.zero).aL))||decide ((O.aY.getD H.toNat bQ.zero).gen<0))||decide (1073741824<(O.aY.getD H.toNat bQ.zero).gen))||(!v2)then some (.inr (.inr false))else gd (decide (0<H)=true->0<=i64.wrap (H-1)/\i64.wrap (H-1)<(O.aY.length:Int))<|(if decide (0<H)then wR (O.aY.getD (i64.wrap (H-1)).toNat bQ.zero).aL ((O.aY.getD H.toNat bQ.zero).aL)else some 0).bind λ v3=>(if decide (0<H)&&decide (0<=v3)then some (.inr (.inr false))else some (.inl (i64.wrap (H+1)))))else some (.inr (.inl ())))
def Jz(H:aI)(j1:Unit):Option Bool:=(lS (q7 H) 0).bind (λ|.inl z=>MW H z|.inr z=>some z)
def JA(O:aI)(H:Int):Option (Int⊕(Unit⊕Bool)):=(if decide (H<O.aF.length)then gd (0<=H/\H<O.aF.length)<|(Gd (O.aF.getD H.toNat aA.zero)).bind λ v4=>gd ((v4&&decide (0<H))=true->0<=i64.wrap (H-1)/\i64.wrap (H-1)<(O.aF.length:Int))<|(if (!v4)||(decide (0<H)&&(!Op.bytesLess (((O.aF.getD (i64.wrap (H-1)).toNat aA.zero).aB).name).toList (((O.aF.getD H.toNat aA.zero).aB).name).toList))then some (.inr (.inr false))else some (.inl (i64.wrap (H+1))))else some (.inr (.inl ())))
def zI(H:aI):Option Bool:=(if decide (8<(H.aF.length:Int))||decide (8<(H.aY.length:Int))then some false else(lS (JA H) 0).bind (λ|.inl z=>Jz H z|.inr z=>some z))
@[reducible,instance]def bNl (H:aI) j1:=mkJ (Jz H j1) 2 (@MW.eq_1 H) λ O=>⟨[(1,.ptr 0 0 0)],[(0,bx H)],1⟩
@[reducible,instance]def bNm (H:aI):=mkL x (@q7.eq_1 H) λ O=>⟨[(1,.ptr 0 0 0),(48,la H.aY),(49,.int i64 H.aY.length),(50,.int i64 O)],[(0,bx H)],1⟩
@[reducible,instance]def bNn (H:aI):=mkJ (zI H) 0 (@Jz.eq_1 H) λ j1=>⟨[(1,.ptr 0 0 0)],[(0,bx H)],1⟩
@[reducible,instance]def bNo (H:aI):=mkL x (@JA.eq_1 H) λ O=>⟨[(1,.ptr 0 0 0),(18,la H.aF),(19,.int i64 H.aF.length),(20,.int i64 O)],[(0,bx H)],1⟩
instance bNp(H:aI):OkP (zI H) 128 [ga H] .bool:=ok1 (zI.eq_1 H) Tryz.f128 []
def SZ(j1:Unit):Option Bool:=some true
def JB(O:aM)(H:Int):Option (Int⊕(Unit⊕Bool)):=(if decide (H<O.options.length)then gd (0<=H/\H<O.options.length)<|(yQ (O.options.getD H.toNat aQ.zero)).bind λ v5=>(if !v5 then some (.inr (.inr false))else some (.inl (i64.wrap (H+1))))else some (.inr (.inl ())))
def tP(H:aM)(O:Int):Option Bool:=(if decide (O=80)then some (mL H.aL)else(if decide (O=65)then(vG H.bA.name).bind λ v1=>some (v1&&AD H.bA.aJ)else(if decide (O=97)then(vG H.bA.name).bind λ v2=>some (v2&&(decide (H.bA.aJ={aC.zero with})||AD H.bA.aJ))else(if decide (O=78)then(if decide ((H.state.aF.length:Int)=0)then zI H.state else some false).bind λ v3=>some (decide ((H.state.aF.length:Int)=0)&&v3)else(if decide (O=76)then(if decide ((H.state.aY.length:Int)=0)then zI H.state else some false).bind λ v4=>some (decide ((H.state.aY.length:Int)=0)&&v4)else(if decide (O=79)then(if decide (40<(H.options.length:Int))then some false else(lS (JB H) 0).bind (λ|.inl z=>SZ z|.inr z=>some z))else some true))))))
@[reducible,instance]def bNs a0 a1:=mkJ (tP a0 a1) 1 (@SZ.eq_1) λ j1=>⟨[],[],0⟩
@[reducible,instance]def bNt (H:aM):=mkL x (@JB.eq_1 H) λ O=>⟨[(77,la H.options),(78,.int i64 H.options.length),(79,.int i64 O)],[],0⟩
instance bNu(H:aM)(O:Int):OkP (tP H O) 84 [ga H,.int u8 O] .bool:=ok1 (tP.eq_1 H O) Tryz.f84 []
def MX(H:(List Int)):Option ((List Int)×Int):=some (H,0)
def Ge(O:aI)(H:(List Int)×Int):Option (((List Int)×Int)⊕(List Int)):=(if decide (H.2<O.aY.length)then gd (0<=H.2/\H.2<O.aY.length)<|(vH H.1 (O.aY.getD H.2.toNat bQ.zero).aL).bind λ v4=>(qR v4 [(O.aY.getD H.2.toNat bQ.zero).gen]).bind λ v5=>(IQ v5 (O.aY.getD H.2.toNat bQ.zero).bU).bind λ v6=>some (.inl (v6,i64.wrap (H.2+1)))else some (.inr H.1))
def JC(H:aI)(j1:(List Int)):Option ((List Int)×Int):=(qR j1 [(H.aY.length:Int)]).bind λ v3=>(lS (Ge H) (v3,0)).bind (λ z=>MX z)
def Gf(O:aI)(H:(List Int)×Int):Option (((List Int)×Int)⊕(List Int)):=(if decide (H.2<O.aF.length)then gd (0<=H.2/\H.2<O.aF.length)<|(AV H.1 (O.aF.getD H.2.toNat aA.zero)).bind λ U=>some (.inl (U,i64.wrap (H.2+1)))else some (.inr H.1))
def Bi(H:aI):Option ((List Int)×Int):=(zI H).bind λ v1=>(if !v1 then some ([],2)else(qR [] [(H.aF.length:Int)]).bind λ v2=>(lS (Gf H) (v2,0)).bind (λ z=>JC H z))
@[reducible,instance]def bNx a0 j1:=mkJ (JC a0 j1,v1) 2 (@MX.eq_1) λ H=>⟨[(4,.sl (H.map (eI u8)))],[],0⟩
@[reducible,instance]def bNy (H:aI):=mkL x (@Ge.eq_1 H) λ O=>⟨[(4,.sl (O.1.map (eI u8))),(35,la H.aY),(36,.int i64 H.aY.length),(37,.int i64 O.2)],[],0⟩
@[reducible,instance]def bNz (H:aI):=mkJ ((Bi H,v1),v2) 0 (@JC.eq_1 H) λ j1=>⟨[(1,.ptr 0 0 0),(4,.sl (j1.map (eI u8)))],[(0,bx H)],1⟩
@[reducible,instance]def bO0 (H:aI):=mkL x (@Gf.eq_1 H) λ O=>⟨[(1,.ptr 0 0 0),(4,.sl (O.1.map (eI u8))),(18,la H.aF),(19,.int i64 H.aF.length),(20,.int i64 O.2)],[(0,bx H)],1⟩
instance bO1(H:aI):OkP (Bi H) 104 [ga H] (λ r=>.tup [.sl (r.1.map (eI u8)),.int i64 r.2]):=ok1 (Bi.eq_1 H) Tryz.f104 []
def S0(H:bE×aI):Option (aI×Int):=(if !decide (H.1.bR.err=0)then some ({aI.zero with},H.1.bR.err)else(if decide (0<(H.1.bR.rest.length:Int))then some ({aI.zero with},6)else(zI H.2).bind λ v3=>(if !v3 then some ({aI.zero with},2)else some (H.2,0))))
def S1(H:Int×bE×aI):Option ((Int×bE×aI)⊕(bE×aI)):=(if decide (0<H.1)&&decide (H.2.1.bR.err=0)then(AR H.2.1).bind λ v4=>(tK v4.2).bind λ v5=>(MF 1 v5.2).bind λ v6=>gd (H.2.2.aY.length+1<=4294967296)<|some (.inl (i64.wrap (H.1-1),v6.2,(⟨H.2.2.aF,H.2.2.aY++[{{{bQ.zero with aL:=v4.1}with gen:=v5.1}with bU:=v6.1}]⟩:aI)))else some (.inr (H.2.1,H.2.2)))
def MY(j1:bE×aI):Option (aI×Int):=(yR 8 j1.1).bind λ v2=>(lS S1 (v2.1,v2.2,j1.2)).bind (λ z=>S0 z)
def S2(H:Int×bE×aI):Option ((Int×bE×aI)⊕(bE×aI)):=(if decide (0<H.1)&&decide (H.2.1.bR.err=0)then(Dm H.2.1).bind λ O=>gd (H.2.2.aF.length+1<=4294967296)<|some (.inl (i64.wrap (H.1-1),O.2,(⟨H.2.2.aF++[O.1],H.2.2.aY⟩:aI)))else some (.inr (H.2.1,H.2.2)))
def Gg(H:List Int):Option (aI×Int):=(yR 8 (⟨{bT.zero with rest:=H}⟩:bE)).bind λ v1=>(lS S2 (v1.1,v1.2,(⟨[],[]⟩:aI))).bind (λ z=>MY z)
@[reducible,instance]def bO6 (j1:bE×aI):=mkJ (MY j1,v1) 2 (@S0.eq_1) λ H=>⟨[(2,.ptr 0 0 0),(4,.ptr 1 0 0),(5,.ptr 2 0 0)],[(0,bx aI.zero),(1,bx H.1),(2,⟨false,2,aI.enc aI.zero,[[.own 3 0 H.2.aF.length,.own 4 0 H.2.aY.length]]⟩),(3,sx H.2.aF),(4,sx H.2.aY)],5⟩
@[reducible,instance]def bO7:=mkL x (@S1.eq_1) λ H=>⟨[(2,.ptr 0 0 0),(4,.ptr 1 0 0),(5,.ptr 2 0 0),(7,.int i64 H.1)],[(0,bx aI.zero),(1,bx H.2.1),(2,⟨false,2,aI.enc aI.zero,[[.own 3 0 H.2.2.aF.length,.own 4 0 H.2.2.aY.length]]⟩),(3,sx H.2.2.aF),(4,sx H.2.2.aY)],5⟩
@[reducible,instance]def bO8 (H:List Int):=mkJ (Gg H,v1) 0 (@MY.eq_1) λ j1=>⟨[(2,.ptr 0 0 0),(4,.ptr 1 0 0),(5,.ptr 2 0 0)],[(0,bx aI.zero),(1,bx j1.1),(2,⟨false,2,aI.enc aI.zero,[[.own 3 0 j1.2.aF.length,.own 4 0 j1.2.aY.length]]⟩),(3,sx j1.2.aF),(4,sx j1.2.aY)],5⟩
@[reducible,instance]def bO9:=mkL x (@S2.eq_1) λ H=>⟨[(2,.ptr 0 0 0),(4,.ptr 1 0 0),(5,.ptr 2 0 0),(6,.int i64 H.1)],[(0,bx aI.zero),(1,bx H.2.1),(2,⟨false,2,aI.enc aI.zero,[[.own 3 0 H.2.2.aF.length,.own 4 0 H.2.2.aY.length]]⟩),(3,sx H.2.2.aF),(4,sx H.2.2.aY)],5⟩
instance bOa(H:List Int):OkP (Gg H) 117 [.sl (H.map (eI u8))] (λ r=>.tup [ga r.1,.int i64 r.2]):=⟨λ r h=>by
 refine oC Tryz.f117 [(5,5)] λ E hG O hK=>?_;have hm:Mk (Gg H):=trivial;unfold Gg at h;refine lQ (lR hG ?_);refine lQ (lR hG ?_);refine lQ (lR hG ?_);refine g_gh (.ownb 2 0 8 (aA.enc aA.zero)) ?_;refine g_gh (.ownb 2 1 9 (bQ.enc bQ.zero)) ?_;exact gogo⟩
def JD(H:(List Int)):Option (List Int):=some H
@[go_sem] def bOc(H:(List Int)):St:=⟨[(0,.own 1 0 H.length)],[(1,⟨false,1,[A.int u8 0],H.map (eI u8)⟩)],2⟩
def Gi(O:aM)(H:Int×(List Int)):Option ((Int×(List Int))⊕(List Int)):=(if decide (H.1<O.options.length)then gd (0<=H.1/\H.1<O.options.length)<|(A1 H.2 (O.options.getD H.1.toNat aQ.zero)).bind λ U=>some (.inl (i64.wrap (H.1+1),U))else some (.inr H.2))
@[go_sem] def bOe(O:aM)(H:Int×(List Int)):St:=⟨[(0,.own 1 0 H.2.length),(76,la O.options),(77,.int i64 O.options.length),(78,.int i64 H.1)],[(1,⟨false,1,[A.int u8 0],H.2.map (eI u8)⟩)],2⟩
def Bj(H:aM)(U:Int)(O:List Int)(Y:Bool):Option (List Int):=(if Y then(Bi H.state).bind λ v5=>(oX O (u64.wrap (v5.1.length:Int))).bind λ v6=>gd (v6.length+v5.1.length<=4294967296)<|some (v6++v5.1)else(if decide (U=79)then(oX O (u64.wrap (H.options.length:Int))).bind λ B=>(lS (Gi H) (0,B)).bind (λ z=>JD z)else some O))
@[go_sem] def bOf(O:aM)(U:Int)(H:List Int)(Y:Bool):St:=⟨[(0,.own 1 0 H.length),(4,.ptr 2 0 0),(11,.int u8 U),(50,.bool Y)],[(1,⟨false,1,[A.int u8 0],H.map (eI u8)⟩),(2,bx O)],3⟩
def wX(O:aM)(U:Int)(H:List Int)(j1:Bool):Option (List Int):=(if j1 then(AF H O.bA.name).bind λ v2=>(oX v2 (u64.wrap O.bA.aJ.mode)).bind λ v3=>(oX v3 (u64.wrap O.bA.aJ.aT)).bind λ v4=>some v4 else(if decide (U=68)then(if O.done then gd (H.length+1<=4294967296)<|some (H++[1])else gd (H.length+1<=4294967296)<|some (H++[0]))else(if decide (U=78)then Bj O U H (decide (U=78))else Bj O U H (decide (U=76)))))
@[go_sem] def bOg(O:aM)(U:Int)(H:List Int)(j1:Bool):St:=⟨[(0,.own 1 0 H.length),(4,.ptr 2 0 0),(11,.int u8 U),(18,.bool j1)],[(1,⟨false,1,[A.int u8 0],H.map (eI u8)⟩),(2,bx O)],3⟩
def uJ(O:aM)(H:Int)(U:List Int):Option (List Int):=(if decide (H=80)then(n7 U O.aL).bind λ v1=>some v1 else(if decide (H=65)then wX O H U (decide (H=65))else wX O H U (decide (H=97))))
def bOh(O:aM)(U:Int)(Y:List Int)(r:(List Int))(h:uJ O U Y=some r):MFn C 50 [.own 0 0 Y.length,ga O,.int u8 U] [(0,⟨false,1,[A.int u8 0],Y.map (eI u8)⟩)] 1 (.own 1 0 r.length) [(1,⟨false,1,[A.int u8 0],r.map (eI u8)⟩)] 2:=by
 refine oR Tryz.f50 [(6,1),(17,1),(25,1)] [.own 1 0 r.length] λ E hG hN hK=>?_;unfold uJ at h;refine lQ (lR hG ?_);refine lQ (lQ (lR hG ?_));refine nV (lQ (lR hG ?_));refine lU rfl hG h (λ _ h=>?_) (λ _ h=>?_)
 · refine lR hG ?_
   obtain⟨v1,F,h⟩:=lT h;refine mH [] [(0,3)] [0] ((bDd Y O.aL).ok _ F) rfl rfl ?_;refine lQ (lR hG ?_);refine lX ?_;exact mQ [(1,3)] h
 refine lQ (lQ (lR hG ?_));refine rB (bOg O U Y) (λ v=>wX O U Y v=some r) rfl hG h ?_ (λ _ h=>?_) (λ _ h=>?_)
 · intro j1 h
   unfold wX at h;refine g_st ?_;refine lU rfl hG h (λ _ h=>?_) (λ _ h=>?_)
   · refine lQ (lR hG ?_)
     obtain⟨v2,hv2,h⟩:=lT h;refine mH [] [(0,3)] [0] ((bAw Y O.bA.name).ok _ hv2) rfl rfl ?_;refine lQ (lR hG ?_);obtain⟨v3,hv3,h⟩:=lT h;refine mH [] [(0,4)] [0] (Ar _ _ _ hv3) rfl rfl ?_;refine lR hG ?_;obtain⟨v4,hv4,h⟩:=lT h;refine mH [] [(0,5)] [0] (Ar _ _ _ hv4) rfl rfl ?_;refine lQ (lR hG ?_);refine lX ?_;exact mQ [(1,5)] h
   refine lQ (lR hG ?_);refine lU rfl hG h (λ _ h=>?_) (λ _ h=>?_)
   · refine lQ (lQ (lR hG ?_))
     refine lU rfl hG h (λ _ h=>?_) (λ _ h=>?_)
     · refine lQ ?_
       obtain⟨u0,h⟩:=lZ h;refine lR hG ?_;refine lX ?_;exact mQ [(1,3)] h
     refine lW ?_;refine lQ ?_;obtain⟨v0,h⟩:=lZ h;refine lR hG ?_;refine lX ?_;exact mQ [(1,3)] h
   refine lQ (lQ (lR hG ?_));refine rB (bOf O U Y) (λ v=>Bj O U Y v=some r) rfl hG h ?_ (λ _ h=>?_) (λ _ h=>?_)
   · intro j2 h
     unfold Bj at h;refine g_st ?_;refine lU rfl hG h (λ _ h=>?_) (λ _ h=>?_)
     · refine lQ (lR hG ?_)
       obtain⟨v5,hv5,h⟩:=lT h;refine mW (λ hg=>(bO1 O.state).ok _ hv5) ?_;refine lQ (lR hG ?_);obtain⟨v6,M,h⟩:=lT h;refine mH [] [(0,3)] [0] (Ar _ _ _ M) rfl rfl ?_;obtain⟨p0,h⟩:=lZ h;refine lR hG ?_;refine lQ (lR hG ?_);refine lX ?_;exact mQ [(1,4)] h
     refine lQ (lR hG ?_);refine lU rfl hG h (λ _ h=>?_) (λ _ h=>?_)
     · refine lQ (lR hG ?_)
       obtain⟨v7,h0,h⟩:=lT h;refine mH [] [(0,3)] [0] (Ar _ _ _ h0) rfl rfl ?_;refine lQ (lR hG ?_);refine pL bOc (λ v=>JD v=some r) ?_ ?_
       · intro j3 h
         unfold JD at h;refine g_st ?_;refine lQ (lR hG ?_);refine lX ?_;exact mQ [(1,1)] h
       refine pX (bOe O) hK [(1,3)] h (λ y0 h g1 z0 H B=>?_);unfold Gi at H;refine g_st ?_;refine lQ (lR hG ?_);refine lQ ?_;refine lU rfl hG H (λ _ H=>?_) (λ _ H=>?_)
       · refine lW ?_
         refine lQ (nV (lQ ?_));obtain⟨q0,H⟩:=lZ H;refine lR hG ?_;refine lR hG ?_;obtain⟨v8,x0,H⟩:=lT H;refine mH [] [(0,3)] [0] ((bIc g1.2 (O.options.getD g1.1.toNat aQ.zero)).ok _ x0) rfl rfl ?_;refine lR hG ?_;exact oL hK [(1,3)] H
       refine nX ?_;cases H;cases B _ rfl;exact mM hK [(1,1)] g1.2 (by exact h)
     refine lW ?_;refine lQ (lR hG ?_);refine lX ?_;exact mQ [(1,1)] h
   · refine lW ?_
     exact mM hK [(1,1),(2,2)] (decide (U=78)) (by exact h)
   refine lR hG ?_;exact mM hK [(1,1),(2,2)] (decide (U=76)) (by exact h)
 · refine lW ?_
   exact mM hK [(1,0),(2,1)] (decide (U=65)) (by exact h)
 refine lR hG ?_;exact mM hK [(1,0),(2,1)] (decide (U=97)) (by exact h)
def MZ(j1:(List Int)):Option (List Int):=some j1
@[go_sem] def bOj(j1:(List Int)):St:=⟨[(4,.own 0 0 j1.length)],[(0,⟨false,1,[A.int u8 0],j1.map (eI u8)⟩)],1⟩
def Gj(O:aM)(v1:(List (Int×bN)))(H:Int×(List Int)):Option ((Int×(List Int))⊕(List Int)):=(if decide (H.1<((Arr.get mZ O.kind.toNat ⟨#[]⟩).size:Int))then gd (0<=O.kind/\O.kind<16)<|gd (0<=H.1/\H.1<((Arr.get mZ O.kind.toNat ⟨#[]⟩).size:Int))<|(if(oK (((Arr.get mZ O.kind.toNat ⟨#[]⟩).toList.getD H.1.toNat 0).toNat:Int) v1).isSome=true then(oF ((oK (((Arr.get mZ O.kind.toNat ⟨#[]⟩).toList.getD H.1.toNat 0).toNat:Int) v1).getD bN.zero).of).bind λ v3=>(oX H.2 (u64.wrap (i64.wrap (nB O v3+((oK (((Arr.get mZ O.kind.toNat ⟨#[]⟩).toList.getD H.1.toNat 0).toNat:Int) v1).getD bN.zero).plus)))).bind λ v4=>some (.inl (i64.wrap (H.1+1),v4))else(uJ O (((Arr.get mZ O.kind.toNat ⟨#[]⟩).toList.getD H.1.toNat 0).toNat:Int) H.2).bind λ v5=>some (.inl (i64.wrap (H.1+1),v5)))else some (.inr H.2))
@[go_sem] def bOk(O:aM)(v1:(List (Int×bN)))(H:Int×(List Int)):St:=⟨[(1,.ptr 0 0 0),(3,.mp 1),(4,.own 2 0 H.2.length),(18,.int i64 ((Arr.get mZ O.kind.toNat ⟨#[]⟩).size:Int)),(19,.int i64 H.1)],[(0,bx O),(1,⟨false,0,[A.int u8 0,A.bool true],v1.map (mI u8 bN.enc)⟩),(2,⟨false,1,[A.int u8 0],H.2.map (eI u8)⟩)],3⟩
def Bk(H:aM):Option (List Int):=(yJ).bind λ v1=>(oX [] (u64.wrap H.kind)).bind λ v2=>gd (0<=H.kind/\H.kind<16)<|(lS (Gj H v1) (0,v2)).bind (λ z=>MZ z)
def bOl(U:aM)(r:(List Int))(h:Bk U=some r):PFn C 24 [ga U] (.sl (r.map (eI u8))):=by
 refine oC Tryz.f24 [(38,1)] λ E hG hN hK=>?_;unfold Bk at h;refine lQ (lR hG ?_);refine lQ (lR hG ?_);obtain⟨v1,Y,h⟩:=lT h;refine mH [] [(0,1)] [0] ((Fq).ok _ Y) rfl rfl ?_;refine lQ (lR hG ?_);obtain⟨v2,hv2,h⟩:=lT h;refine mH [] [(0,2)] [0] (MFn.unfull1 (Ar _ _ _ hv2)) rfl rfl ?_;refine lQ (lQ ?_);obtain⟨M,h⟩:=lZ h;refine lR hG ?_;refine pL bOj (λ v=>MZ v=some r) ?_ ?_
 · intro j1 h
   unfold MZ at h;refine g_st ?_;refine lQ (lR hG ?_);refine lX ?_;exact nF h
 refine pX (bOk U v1) hK [(0,0),(1,1),(2,2)] h (λ B h g1 F H O=>?_);unfold Gj at H;refine g_st ?_;refine lQ (lR hG ?_);refine lQ ?_;refine lU rfl hG H (λ _ H=>?_) (λ _ H=>?_)
 · refine lW ?_
   refine lQ (nV (lQ (lR hG ?_)));refine lQ ?_;obtain⟨h0,H⟩:=lZ H;obtain⟨x0,H⟩:=lZ H;refine lR hG ?_;refine lQ (lQ (lR hG ?_));refine lQ (lR hG ?_);refine lU rfl hG H (λ _ H=>?_) (λ _ H=>?_)
   · refine lQ (pT oB hG ?_)
     obtain⟨v3,hv3,H⟩:=lT H;refine uC [(0,0)] [] [0] (Ah _ _ _ hv3) rfl rfl ?_ (ho:=by first|exact⟨by trivial,sO hv3⟩|exact sO hv3);obtain⟨v4,hv4,H⟩:=lT H;refine uC [] [(0,4)] [0] (Ar _ _ _ hv4) rfl rfl ?_;refine nX ?_;refine lR hG ?_;exact oL hK [(0,0),(1,1),(2,4)] H
   refine lW ?_;refine lR hG ?_;obtain⟨v5,hv5,H⟩:=lT H;refine mH [(0,2)] [(1,4)] [0,1] (bOh _ _ _ _ hv5) rfl rfl ?_;refine lR hG ?_;exact oL hK [(0,0),(1,1),(2,4)] H
 refine nX ?_;cases H;cases O _ rfl;exact mM hK [(0,2)] g1.2 (by exact h)
instance bOm(H:aM):OkP (Bk H) 24 [ga H] (λ r=>.sl (r.map (eI u8))):=⟨bOl H⟩
def Bl(H:aA):Option Bool:=(zG H).bind λ v1=>(if !v1 then some false else(Cu H).bind λ v2=>(if v2.2 then Dz H.aB H.aS v2.1.aL v2.1.aJ else some false).bind λ v3=>some ((!v2.2)||(!v3)))
instance bOn(H:aA):OkP (Bl H) 214 [ga H] .bool:=ok1 (Bl.eq_1 H) Tryz.f214 []
def uK(H:aR):Option (List aO):=(qG H).bind λ v1=>some v1.1
instance bOo(H:aR):OkP (uK H) 146 [ga H] la:=ok1 (uK.eq_1 H) Tryz.f146 []
def S3(H:(List Bool)):Option (List Bool):=some H
def Gk(O:aR)(v1:(List aO)×Bool)(H:Int×(List Bool)):Option ((Int×(List Bool))⊕(List Bool)):=(if decide (0<=H.1)then gd (0<=H.1/\H.1<((H.2.length:Nat):Int))<|(if H.2.getD H.1.toNat false then gd (0<=H.1/\H.1<((H.2.length:Nat):Int))<|(f_ref08_holds O v1.1 (H.2.set H.1.toNat false)).bind λ v3=>gd (0<=H.1/\H.1<((H.2.length:Nat):Int))<|some (.inl (i64.wrap (H.1-1),(H.2.set H.1.toNat false).set H.1.toNat (!v3)))else some (.inl (i64.wrap (H.1-1),H.2)))else some (.inr H.2))
def JE(H:aR)(v1:(List aO)×Bool)(j1:(List Bool)):Option (List Bool):=(lS (Gk H v1) (i64.wrap ((v1.1.length:Int)-1),j1)).bind (λ z=>S3 z)
def Gl(O:List Bool)(v1:(List aO)×Bool)(H:Int×(List Bool)):Option ((Int×(List Bool))⊕(List Bool)):=(if decide (H.1<v1.1.length)then gd (decide (H.1<O.length)=true->0<=H.1/\H.1<O.length)<|gd (0<=H.1/\H.1<((H.2.length:Nat):Int))<|some (.inl (i64.wrap (H.1+1),H.2.set H.1.toNat (decide (H.1<O.length)&&O.getD H.1.toNat false)))else some (.inr H.2))
def q8(H:aR)(O:List Bool):Option (List Bool):=(qG H).bind λ v1=>gd (0<=(v1.1.length:Int)/\(v1.1.length:Int)<=(v1.1.length:Int)/\(v1.1.length:Int)<=4294967296)<|(if v1.2 then f_ref08_holds H v1.1 O else some false).bind λ v2=>(if (!v1.2)||(!v2)then some (List.replicate (v1.1.length:Int).toNat false)else(lS (Gl O v1) (0,List.replicate (v1.1.length:Int).toNat false)).bind (λ z=>JE H v1 z))
@[reducible,instance]def bOt a0 v1 j1:=mkJ (JE a0 v1 j1) 2 (@S3.eq_1) λ H=>⟨[(7,.own 0 0 H.length)],[(0,⟨false,1,[A.bool false],H.map eB⟩)],1⟩
@[reducible,instance]def bOu (O:aR) (v1:(List aO)×Bool):=mkL x (@Gk.eq_1 O v1) λ H=>⟨[(2,.ptr 0 0 0),(5,la v1.1),(7,.own 1 0 H.2.length),(9,.int i64 H.1)],[(0,bx O),(1,⟨false,1,[A.bool false],H.2.map eB⟩)],2⟩
@[reducible,instance]def bOv (H:aR) a1 (v1:(List aO)×Bool):=mkJ ((q8 H a1,v1),v2) 0 (@JE.eq_1 H v1) λ j1=>⟨[(2,.ptr 0 0 0),(5,la v1.1),(7,.own 1 0 j1.length)],[(0,bx H),(1,⟨false,1,[A.bool false],j1.map eB⟩)],2⟩
@[reducible,instance]def bOw (U:aR) (H:List Bool) (v1:(List aO)×Bool):=mkL ((q8 U H,v1),v2) (@Gl.eq_1 H v1) λ O=>⟨[(1,.sl (H.map eB)),(2,.ptr 0 0 0),(5,la v1.1),(7,.own 1 0 O.2.length),(8,.int i64 O.1)],[(0,bx U),(1,⟨false,1,[A.bool false],O.2.map eB⟩)],2⟩
instance bOx(H:aR)(O:List Bool):OkP (q8 H O) 234 [ga H,.sl (O.map eB)] (λ r=>.sl (r.map eB)):=ok1 (q8.eq_1 H O) Tryz.f234 []
end
end Ab
end Go.Proofs.YtfmnjkfhahfhgaaGreatDoor
