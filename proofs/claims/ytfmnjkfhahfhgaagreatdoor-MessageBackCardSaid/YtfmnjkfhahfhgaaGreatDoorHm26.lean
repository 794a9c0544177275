import Derived.Test.YtfmnjkfhahfhgaaGreatDoorHm14
import Derived.Test.YtfmnjkfhahfhgaaGreatDoorHm27
import Derived.Test.YtfmnjkfhahfhgaaGreatDoorHm18
namespace Go.Proofs.YtfmnjkfhahfhgaaGreatDoor
namespace Ab
set_option linter.defProp false
open IntKind (i64 u64 u8)
set_option linter.unusedSimpArgs false
set_option linter.unusedVariables false
set_option maxRecDepth 100000
set_option maxHeartbeats 1000000
noncomputable section
variable {T T1 T2 T3 : Type} (x : T) (v1 : T1) (v2 : T2) (v3 : T3)
def TW(H:Unit):Option Bool:=some true
def Kx(H:aA)(O:Int):Option (Int⊕(Unit⊕Bool)):=(if decide (O<H.aW.length)then gd (0<=O/\O<H.aW.length)<|gd (qP H.aB (H.aW.getD O.toNat aV.zero).aJ=true->0<=O/\O<H.aW.length)<|(if qP H.aB ((H.aW.getD O.toNat aV.zero).aJ)then zR H.aT ((H.aW.getD O.toNat aV.zero).aM)else some aC.zero).bind λ v4=>(if (!(qP H.aB (H.aW.getD O.toNat aV.zero).aJ))||(!(nX v4))then some (.inr (.inr false))else some (.inl (i64.wrap (O+1))))else some (.inr (.inl ())))
def Ky(H:aA)(j1:Unit):Option Bool:=(lY (Kx H) 0).bind (λ|.inl z=>TW z|.inr z=>some z)
def Er(H:aA)(O:Int):Option (Int⊕(Unit⊕Bool)):=(if decide (O<H.aN.length)then gd (0<=O/\O<H.aN.length)<|(zR H.aT (H.aN.getD O.toNat aV.zero).aM).bind λ v5=>(if !(((((nX v5||(!(qP H.aB (H.aN.getD O.toNat aV.zero).aJ)))||(!(rZ H.aB (H.aN.getD O.toNat aV.zero).aJ v5)))||decide ((H.aN.getD O.toNat aV.zero).aJ=v5))||(!decide ((H.aN.getD O.toNat aV.zero).bC=0)))||(!decide ((H.aN.getD O.toNat aV.zero).bS=0)))then wG H.aN ((H.aN.getD O.toNat aV.zero).aM)else some 0).bind λ v6=>(if (((((nX v5||(!(qP H.aB (H.aN.getD O.toNat aV.zero).aJ)))||(!(rZ H.aB (H.aN.getD O.toNat aV.zero).aJ v5)))||decide ((H.aN.getD O.toNat aV.zero).aJ=v5))||(!decide ((H.aN.getD O.toNat aV.zero).bC=0)))||(!decide ((H.aN.getD O.toNat aV.zero).bS=0)))||(!decide (v6=O))then some (.inr (.inr false))else some (.inl (i64.wrap (O+1))))else some (.inr (.inl ())))
def i6(H:aA):Option Bool:=(BE H.aB).bind λ v1=>(if v1 then g9 H.aB H.aT else some false).bind λ v2=>(if !(((!v1)||(!v2))||decide (8<(H.aN.length:Int)))then y9 H.aW else some false).bind λ v3=>(if ((((((!v1)||(!v2))||decide (8<(H.aN.length:Int)))||(!v3))||decide (8<i64.wrap ((H.aT.length:Int)+(H.aW.length:Int))))||decide (H.gen<0))||decide (1073741824<H.gen)then some false else(lY (Er H) 0).bind (λ|.inl z=>Ky H z|.inr z=>some z))
@[reducible,instance]def bMr a0 j1:=mkJ (Ky a0 j1) 2 (@TW.eq_1) λ H=>⟨[],[],0⟩
@[reducible,instance]def bMs (H:aA):=mkL x (@Kx.eq_1 H) λ O=>⟨[(1,.ptr 0 0 0),(3,.ptr 1 0 0),(7,.int i64 O)],[(0,bx H),(1,bx H.aB)],2⟩
@[reducible,instance]def bMt (H:aA):=mkJ (((i6 H,v1),v2),v3) 0 (@Ky.eq_1 H) λ j1=>⟨[(1,.ptr 0 0 0),(3,.ptr 1 0 0)],[(0,bx H),(1,bx H.aB)],2⟩
@[reducible,instance]def bMu (H:aA):=mkL x (@Er.eq_1 H) λ O=>⟨[(1,.ptr 0 0 0),(3,.ptr 1 0 0),(4,.int i64 O)],[(0,bx H),(1,bx H.aB)],2⟩
instance bMv(H:aA):OkP (i6 H) 213 [ga H] .bool:=ok1 (i6.eq_1 H) Tryz.f213 []
def Es(H:List aI)(O:aO):Option Int:=(Aa H).bind λ v1=>(if !v1 then some 2 else(A3 H O.name).bind λ v2=>(if !v2.2 then some 10 else(if !(qP v2.1 O.aJ)then some 12 else some 0)))
instance bMw(H:List aI)(O:aO):OkP (Es H O) 202 [la H,ga O] (λ r=>.int i64 r):=ok1 (Es.eq_1 H O) Tryz.f202 []
def NQ(j1:(List aK)):Option (List aK):=(b5 j1).bind λ v2=>some v2
def Kz(O:aH)(H:Int×(List aK)):Option ((Int×(List aK))⊕(List aK)):=(if decide (H.1<O.aY.length)then gd (0<=H.1/\H.1<O.aY.length)<|gd (H.2.length+1<=4294967296)<|some (.inl (i64.wrap (H.1+1),H.2++[(O.aY.getD H.1.toNat bQ.zero).aM]))else some (.inr H.2))
def i7(H:aH):Option (List aK):=(Ee H.aF).bind λ v1=>(lY (Kz H) (0,v1)).bind (λ z=>NQ z)
@[reducible,instance]def bMz a0:=mkJ (i7 a0,v1) 0 (@NQ.eq_1) λ j1=>⟨[(3,.own 0 0 j1.length)],[(0,sx j1)],1⟩
@[reducible,instance]def bN0 (O:aH):=mkL x (@Kz.eq_1 O) λ H=>⟨[(1,.ptr 0 0 0),(3,.own 1 0 H.2.length),(4,.int i64 H.1)],[(0,bx O),(1,sx H.2)],2⟩
instance bN1(H:aH):OkP (i7 H) 97 [ga H] la:=ok1 (i7.eq_1 H) Tryz.f97 [(7,1)]
def NR(j1:(List aK)):Option (List aK):=(f5 j1).bind λ v1=>some v1
def G7(O:List aA)(H:Int×(List aK)):Option ((Int×(List aK))⊕(List aK)):=(if decide (H.1<O.length)then gd (0<=H.1/\H.1<O.length)<|(Ek (O.getD H.1.toNat aA.zero)).bind λ v2=>gd (H.2.length+v2.length<=4294967296)<|some (.inl (i64.wrap (H.1+1),H.2++v2))else some (.inr H.2))
def BX(H:List aA):Option (List aK):=(lY (G7 H) (0,[])).bind (λ z=>NR z)
@[reducible,instance]def bN4 a0:=mkJ (BX a0) 0 (@NR.eq_1) λ j1=>⟨[(3,.own 0 0 j1.length)],[(0,sx j1)],1⟩
@[reducible,instance]def bN5 (H:List aA):=mkL x (@G7.eq_1 H) λ O=>⟨[(3,.own 0 0 O.2.length),(6,la H),(7,.int i64 H.length),(8,.int i64 O.1)],[(0,sx O.2)],1⟩
instance bN6(H:List aA):OkP (BX H) 224 [la H] la:=ok1 (BX.eq_1 H) Tryz.f224 [(3,1)]
def TX(j1:Unit):Option Int:=some 0
def KA(O:List aI)(v1:(List aO)×Bool)(H:Int):Option (Int⊕(Unit⊕Int)):=(if decide (H<v1.1.length)then gd (0<=H/\H<v1.1.length)<|(Es O (v1.1.getD H.toNat aO.zero)).bind λ v2=>(if !decide (v2=0)then some (.inr (.inr v2))else some (.inl (i64.wrap (H+1))))else some (.inr (.inl ())))
def Ai(H:List aI)(O:aS):Option Int:=(qQ O).bind λ v1=>(if !v1.2 then some 1 else(lY (KA H v1) 0).bind (λ|.inl z=>TX z|.inr z=>some z))
@[reducible,instance]def bN9 a0 a1:=mkJ (Ai a0 a1,v1) 0 (@TX.eq_1) λ j1=>⟨[],[],0⟩
@[reducible,instance]def bNa (H:List aI) (v1:(List aO)×Bool):=mkL x (@KA.eq_1 H v1) λ O=>⟨[(0,la H),(5,la v1.1),(7,.int i64 O)],[],0⟩
instance bNb(H:List aI)(O:aS):OkP (Ai H O) 142 [la H,ga O] (λ r=>.int i64 r):=ok1 (Ai.eq_1 H O) Tryz.f142 []
def Aj(H:aS)(O:List Bool):Option Bool:=(qQ H).bind λ v1=>(if v1.2 then f_ref08_holds H v1.1 O else some false).bind λ v2=>some (v1.2&&v2)
instance bNc(H:aS)(O:List Bool):OkP (Aj H O) 144 [ga H,.sl (O.map eB)] .bool:=ok1 (Aj.eq_1 H O) Tryz.f144 []
def G8(H:aA):Option Bool:=(Eg H).bind λ v1=>(if !v1 then some false else(Dk H).bind λ v2=>(if v2.2 then Ep H.aB H.aT v2.1.aM v2.1.aJ else some false).bind λ v3=>some ((!v2.2)||(!v3)))
instance bNd(H:aA):OkP (G8 H) 220 [ga H] .bool:=ok1 (G8.eq_1 H) Tryz.f220 []
def G9(H:aA):Option Bool:=(G8 H).bind λ v1=>some v1
instance bNe(H:aA):OkP (G9 H) 180 [ga H] .bool:=ok1 (G9.eq_1 H) Tryz.f180 []
def NS(j1:(List aK)):Option (List aK):=(f5 j1).bind λ v2=>some v2
def KB(O:aH)(H:Int×(List aK)):Option ((Int×(List aK))⊕(List aK)):=(if decide (H.1<O.aY.length)then gd (0<=H.1/\H.1<O.aY.length)<|gd (H.2.length+1<=4294967296)<|some (.inl (i64.wrap (H.1+1),H.2++[(O.aY.getD H.1.toNat bQ.zero).aM]))else some (.inr H.2))
def BY(H:aH):Option (List aK):=(BX H.aF).bind λ v1=>gd (v1.length<=4294967296)<|(lY (KB H) (0,v1)).bind (λ z=>NS z)
@[reducible,instance]def bNh a0:=mkJ (BY a0,v1) 0 (@NS.eq_1) λ j1=>⟨[(3,.own 0 0 j1.length)],[(0,sx j1)],1⟩
@[reducible,instance]def bNi (H:aH):=mkL x (@KB.eq_1 H) λ O=>⟨[(3,.own 0 0 O.2.length),(11,la H.aY),(12,.int i64 H.aY.length),(13,.int i64 O.1)],[(0,sx O.2)],1⟩
instance bNj(H:aH):OkP (BY H) 183 [ga H] la:=ok1 (BY.eq_1 H) Tryz.f183 []
def NT(H:aH)(O:Unit):Option Bool:=(BY H).bind λ v1=>some (decide ((v1.length:Int)<=8))
def Ak(O:aH)(H:Int):Option (Int⊕(Unit⊕Bool)):=(if decide (H<O.aY.length)then gd (0<=H/\H<O.aY.length)<|(if !(((!(mP (O.aY.getD H.toNat bQ.zero).aM))||decide ((O.aY.getD H.toNat bQ.zero).gen<0))||decide (1073741824<(O.aY.getD H.toNat bQ.zero).gen))then Ae ((O.aY.getD H.toNat bQ.zero).bU)else some false).bind λ v2=>(if (((!(mP (O.aY.getD H.toNat bQ.zero).aM))||decide ((O.aY.getD H.toNat bQ.zero).gen<0))||decide (1073741824<(O.aY.getD H.toNat bQ.zero).gen))||(!v2)then some (.inr (.inr false))else gd (decide (0<H)=true->0<=i64.wrap (H-1)/\i64.wrap (H-1)<(O.aY.length:Int))<|(if decide (0<H)then xT (O.aY.getD (i64.wrap (H-1)).toNat bQ.zero).aM ((O.aY.getD H.toNat bQ.zero).aM)else some 0).bind λ v3=>(if decide (0<H)&&decide (0<=v3)then some (.inr (.inr false))else some (.inl (i64.wrap (H+1)))))else some (.inr (.inl ())))
def KC(H:aH)(j1:Unit):Option Bool:=(lY (Ak H) 0).bind (λ|.inl z=>NT H z|.inr z=>some z)
def KD(O:aH)(H:Int):Option (Int⊕(Unit⊕Bool)):=(if decide (H<O.aF.length)then gd (0<=H/\H<O.aF.length)<|(G9 (O.aF.getD H.toNat aA.zero)).bind λ v4=>gd ((v4&&decide (0<H))=true->0<=i64.wrap (H-1)/\i64.wrap (H-1)<(O.aF.length:Int))<|(if (!v4)||(decide (0<H)&&(!Op.bytesLess (((O.aF.getD (i64.wrap (H-1)).toNat aA.zero).aB).name).toList (((O.aF.getD H.toNat aA.zero).aB).name).toList))then some (.inr (.inr false))else some (.inl (i64.wrap (H+1))))else some (.inr (.inl ())))
def i8(H:aH):Option Bool:=(if decide (8<(H.aF.length:Int))||decide (8<(H.aY.length:Int))then some false else(lY (KD H) 0).bind (λ|.inl z=>KC H z|.inr z=>some z))
@[reducible,instance]def bNn (H:aH) j1:=mkJ (KC H j1) 2 (@NT.eq_1 H) λ O=>⟨[(1,.ptr 0 0 0)],[(0,bx H)],1⟩
@[reducible,instance]def bNo (H:aH):=mkL x (@Ak.eq_1 H) λ O=>⟨[(1,.ptr 0 0 0),(48,la H.aY),(49,.int i64 H.aY.length),(50,.int i64 O)],[(0,bx H)],1⟩
@[reducible,instance]def bNp (H:aH):=mkJ (i8 H) 0 (@KC.eq_1 H) λ j1=>⟨[(1,.ptr 0 0 0)],[(0,bx H)],1⟩
@[reducible,instance]def bNq (H:aH):=mkL x (@KD.eq_1 H) λ O=>⟨[(1,.ptr 0 0 0),(18,la H.aF),(19,.int i64 H.aF.length),(20,.int i64 O)],[(0,bx H)],1⟩
instance bNr(H:aH):OkP (i8 H) 128 [ga H] .bool:=ok1 (i8.eq_1 H) Tryz.f128 []
def TY(j1:Unit):Option Bool:=some true
def KE(O:aL)(H:Int):Option (Int⊕(Unit⊕Bool)):=(if decide (H<O.options.length)then gd (0<=H/\H<O.options.length)<|(a8 (O.options.getD H.toNat aP.zero)).bind λ v5=>(if !v5 then some (.inr (.inr false))else some (.inl (i64.wrap (H+1))))else some (.inr (.inl ())))
def uO(H:aL)(O:Int):Option Bool:=(if decide (O=80)then some (mP H.aM)else(if decide (O=65)then(wH H.aZ.name).bind λ v1=>some (v1&&Bl H.aZ.aJ)else(if decide (O=97)then(wH H.aZ.name).bind λ v2=>some (v2&&(decide (H.aZ.aJ={aC.zero with})||Bl H.aZ.aJ))else(if decide (O=78)then(if decide ((H.state.aF.length:Int)=0)then i8 H.state else some false).bind λ v3=>some (decide ((H.state.aF.length:Int)=0)&&v3)else(if decide (O=76)then(if decide ((H.state.aY.length:Int)=0)then i8 H.state else some false).bind λ v4=>some (decide ((H.state.aY.length:Int)=0)&&v4)else(if decide (O=79)then(if decide (40<(H.options.length:Int))then some false else(lY (KE H) 0).bind (λ|.inl z=>TY z|.inr z=>some z))else some true))))))
@[reducible,instance]def bNu a0 a1:=mkJ (uO a0 a1) 1 (@TY.eq_1) λ j1=>⟨[],[],0⟩
@[reducible,instance]def bNv (H:aL):=mkL x (@KE.eq_1 H) λ O=>⟨[(77,la H.options),(78,.int i64 H.options.length),(79,.int i64 O)],[],0⟩
instance bNw(H:aL)(O:Int):OkP (uO H O) 84 [ga H,.int u8 O] .bool:=ok1 (uO.eq_1 H O) Tryz.f84 []
def NU(H:(List Int)):Option ((List Int)×Int):=some (H,0)
def Ha(O:aH)(H:(List Int)×Int):Option (((List Int)×Int)⊕(List Int)):=(if decide (H.2<O.aY.length)then gd (0<=H.2/\H.2<O.aY.length)<|(wK H.1 (O.aY.getD H.2.toNat bQ.zero).aM).bind λ v4=>(rC v4 [(O.aY.getD H.2.toNat bQ.zero).gen]).bind λ v5=>(JU v5 (O.aY.getD H.2.toNat bQ.zero).bU).bind λ v6=>some (.inl (v6,i64.wrap (H.2+1)))else some (.inr H.1))
def KF(H:aH)(j1:(List Int)):Option ((List Int)×Int):=(rC j1 [(H.aY.length:Int)]).bind λ v3=>(lY (Ha H) (v3,0)).bind (λ z=>NU z)
def Hb(O:aH)(H:(List Int)×Int):Option (((List Int)×Int)⊕(List Int)):=(if decide (H.2<O.aF.length)then gd (0<=H.2/\H.2<O.aF.length)<|(BD H.1 (O.aF.getD H.2.toNat aA.zero)).bind λ U=>some (.inl (U,i64.wrap (H.2+1)))else some (.inr H.1))
def BZ(H:aH):Option ((List Int)×Int):=(i8 H).bind λ v1=>(if !v1 then some ([],2)else(rC [] [(H.aF.length:Int)]).bind λ v2=>(lY (Hb H) (v2,0)).bind (λ z=>KF H z))
@[reducible,instance]def bNz a0 j1:=mkJ (KF a0 j1,v1) 2 (@NU.eq_1) λ H=>⟨[(4,.sl (H.map (eI u8)))],[],0⟩
@[reducible,instance]def bO0 (H:aH):=mkL x (@Ha.eq_1 H) λ O=>⟨[(4,.sl (O.1.map (eI u8))),(35,la H.aY),(36,.int i64 H.aY.length),(37,.int i64 O.2)],[],0⟩
@[reducible,instance]def bO1 (H:aH):=mkJ ((BZ H,v1),v2) 0 (@KF.eq_1 H) λ j1=>⟨[(1,.ptr 0 0 0),(4,.sl (j1.map (eI u8)))],[(0,bx H)],1⟩
@[reducible,instance]def bO2 (H:aH):=mkL x (@Hb.eq_1 H) λ O=>⟨[(1,.ptr 0 0 0),(4,.sl (O.1.map (eI u8))),(18,la H.aF),(19,.int i64 H.aF.length),(20,.int i64 O.2)],[(0,bx H)],1⟩
instance bO3(H:aH):OkP (BZ H) 104 [ga H] (λ r=>.tup [.sl (r.1.map (eI u8)),.int i64 r.2]):=ok1 (BZ.eq_1 H) Tryz.f104 []
def NV(H:bE×aH):Option (aH×Int):=(if !decide (H.1.bR.err=0)then some ({aH.zero with},H.1.bR.err)else(if decide (0<(H.1.bR.rest.length:Int))then some ({aH.zero with},6)else(i8 H.2).bind λ v3=>(if !v3 then some ({aH.zero with},2)else some (H.2,0))))
def Hc(H:Int×bE×aH):Option ((Int×bE×aH)⊕(bE×aH)):=(if decide (0<H.1)&&decide (H.2.1.bR.err=0)then(d4 H.2.1).bind λ v4=>(tA v4.2).bind λ v5=>(GU 1 v5.2).bind λ v6=>gd (H.2.2.aY.length+1<=4294967296)<|some (.inl (i64.wrap (H.1-1),v6.2,(⟨H.2.2.aF,H.2.2.aY++[{{{bQ.zero with aM:=v4.1}with gen:=v5.1}with bU:=v6.1}]⟩:aH)))else some (.inr (H.2.1,H.2.2)))
def KG(j1:bE×aH):Option (aH×Int):=(wJ 8 j1.1).bind λ v2=>(lY Hc (v2.1,v2.2,j1.2)).bind (λ z=>NV z)
def Hd(H:Int×bE×aH):Option ((Int×bE×aH)⊕(bE×aH)):=(if decide (0<H.1)&&decide (H.2.1.bR.err=0)then(Af H.2.1).bind λ O=>gd (H.2.2.aF.length+1<=4294967296)<|some (.inl (i64.wrap (H.1-1),O.2,(⟨H.2.2.aF++[O.1],H.2.2.aY⟩:aH)))else some (.inr (H.2.1,H.2.2)))
def B0(H:List Int):Option (aH×Int):=(wJ 8 (⟨{bT.zero with rest:=H}⟩:bE)).bind λ v1=>(lY Hd (v1.1,v1.2,(⟨[],[]⟩:aH))).bind (λ z=>KG z)
@[reducible,instance]def bO6 (j1:bE×aH):=mkJ (KG j1,v1) 2 (@NV.eq_1) λ H=>⟨[(2,.ptr 0 0 0),(4,.ptr 1 0 0),(5,.ptr 2 0 0)],[(0,bx aH.zero),(1,bx H.1),(2,⟨false,2,aH.enc aH.zero,[[.own 3 0 H.2.aF.length,.own 4 0 H.2.aY.length]]⟩),(3,sx H.2.aF),(4,sx H.2.aY)],5⟩
@[reducible,instance]def bO7:=mkL x (@Hc.eq_1) λ H=>⟨[(2,.ptr 0 0 0),(4,.ptr 1 0 0),(5,.ptr 2 0 0),(7,.int i64 H.1)],[(0,bx aH.zero),(1,bx H.2.1),(2,⟨false,2,aH.enc aH.zero,[[.own 3 0 H.2.2.aF.length,.own 4 0 H.2.2.aY.length]]⟩),(3,sx H.2.2.aF),(4,sx H.2.2.aY)],5⟩
@[reducible,instance]def bO8 (H:List Int):=mkJ (B0 H,v1) 0 (@KG.eq_1) λ j1=>⟨[(2,.ptr 0 0 0),(4,.ptr 1 0 0),(5,.ptr 2 0 0)],[(0,bx aH.zero),(1,bx j1.1),(2,⟨false,2,aH.enc aH.zero,[[.own 3 0 j1.2.aF.length,.own 4 0 j1.2.aY.length]]⟩),(3,sx j1.2.aF),(4,sx j1.2.aY)],5⟩
@[reducible,instance]def bO9:=mkL x (@Hd.eq_1) λ H=>⟨[(2,.ptr 0 0 0),(4,.ptr 1 0 0),(5,.ptr 2 0 0),(6,.int i64 H.1)],[(0,bx aH.zero),(1,bx H.2.1),(2,⟨false,2,aH.enc aH.zero,[[.own 3 0 H.2.2.aF.length,.own 4 0 H.2.2.aY.length]]⟩),(3,sx H.2.2.aF),(4,sx H.2.2.aY)],5⟩
instance bOa(H:List Int):OkP (B0 H) 117 [.sl (H.map (eI u8))] (λ r=>.tup [ga r.1,.int i64 r.2]):=⟨λ r h=>by
 refine oN Tryz.f117 [(5,5)] λ E hG O hK=>?_;have hm:Mk (B0 H):=trivial;unfold B0 at h;refine lW (lX hG ?_);refine lW (lX hG ?_);refine lW (lX hG ?_);refine g_gh (.ownb 2 0 8 (aA.enc aA.zero)) ?_;refine g_gh (.ownb 2 1 9 (bQ.enc bQ.zero)) ?_;exact gogo⟩
def KH(H:(List Int)):Option (List Int):=some H
@[go_sem] def bOc(H:(List Int)):St:=⟨[(0,.own 1 0 H.length)],[(1,⟨false,1,[A.int u8 0],H.map (eI u8)⟩)],2⟩
def He(O:aL)(H:Int×(List Int)):Option ((Int×(List Int))⊕(List Int)):=(if decide (H.1<O.options.length)then gd (0<=H.1/\H.1<O.options.length)<|(BI H.2 (O.options.getD H.1.toNat aP.zero)).bind λ U=>some (.inl (i64.wrap (H.1+1),U))else some (.inr H.2))
@[go_sem] def bOe(O:aL)(H:Int×(List Int)):St:=⟨[(0,.own 1 0 H.2.length),(76,la O.options),(77,.int i64 O.options.length),(78,.int i64 H.1)],[(1,⟨false,1,[A.int u8 0],H.2.map (eI u8)⟩)],2⟩
def B1(H:aL)(U:Int)(O:List Int)(Y:Bool):Option (List Int):=(if Y then(BZ H.state).bind λ v5=>(pH O (u64.wrap (v5.1.length:Int))).bind λ v6=>gd (v6.length+v5.1.length<=4294967296)<|some (v6++v5.1)else(if decide (U=79)then(pH O (u64.wrap (H.options.length:Int))).bind λ B=>(lY (He H) (0,B)).bind (λ z=>KH z)else some O))
@[go_sem] def bOf(O:aL)(U:Int)(H:List Int)(Y:Bool):St:=⟨[(0,.own 1 0 H.length),(4,.ptr 2 0 0),(11,.int u8 U),(50,.bool Y)],[(1,⟨false,1,[A.int u8 0],H.map (eI u8)⟩),(2,bx O)],3⟩
def yD(O:aL)(U:Int)(H:List Int)(j1:Bool):Option (List Int):=(if j1 then(Bn H O.aZ.name).bind λ v2=>(pH v2 (u64.wrap O.aZ.aJ.mode)).bind λ v3=>(pH v3 (u64.wrap O.aZ.aJ.aU)).bind λ v4=>some v4 else(if decide (U=68)then(if O.done then gd (H.length+1<=4294967296)<|some (H++[1])else gd (H.length+1<=4294967296)<|some (H++[0]))else(if decide (U=78)then B1 O U H (decide (U=78))else B1 O U H (decide (U=76)))))
@[go_sem] def bOg(O:aL)(U:Int)(H:List Int)(j1:Bool):St:=⟨[(0,.own 1 0 H.length),(4,.ptr 2 0 0),(11,.int u8 U),(18,.bool j1)],[(1,⟨false,1,[A.int u8 0],H.map (eI u8)⟩),(2,bx O)],3⟩
def vI(O:aL)(H:Int)(U:List Int):Option (List Int):=(if decide (H=80)then(y5 U O.aM).bind λ v1=>some v1 else(if decide (H=65)then yD O H U (decide (H=65))else yD O H U (decide (H=97))))
def bOh(O:aL)(U:Int)(Y:List Int)(r:(List Int))(h:vI O U Y=some r):MFn C 50 [.own 0 0 Y.length,ga O,.int u8 U] [(0,⟨false,1,[A.int u8 0],Y.map (eI u8)⟩)] 1 (.own 1 0 r.length) [(1,⟨false,1,[A.int u8 0],r.map (eI u8)⟩)] 2:=by
 refine oZ Tryz.f50 [(6,1),(17,1),(25,1)] [.own 1 0 r.length] λ E hG hN hK=>?_;unfold vI at h;refine lW (lX hG ?_);refine lW (lW (lX hG ?_));refine oG (lW (lX hG ?_));refine mA rfl hG h (λ _ h=>?_) (λ _ h=>?_)
 · refine lX hG ?_
   obtain⟨v1,F,h⟩:=lZ h;refine mO [] [(0,3)] [0] ((bDk Y O.aM).ok _ F) rfl rfl ?_;refine lW (lX hG ?_);refine mG ?_;exact mW [(1,3)] h
 refine lW (lW (lX hG ?_));refine rN (bOg O U Y) (λ v=>yD O U Y v=some r) rfl hG h ?_ (λ _ h=>?_) (λ _ h=>?_)
 · intro j1 h
   unfold yD at h;refine g_st ?_;refine mA rfl hG h (λ _ h=>?_) (λ _ h=>?_)
   · refine lW (lX hG ?_)
     obtain⟨v2,hv2,h⟩:=lZ h;refine mO [] [(0,3)] [0] ((bB0 Y O.aZ.name).ok _ hv2) rfl rfl ?_;refine lW (lX hG ?_);obtain⟨v3,hv3,h⟩:=lZ h;refine mO [] [(0,4)] [0] (A9 _ _ _ hv3) rfl rfl ?_;refine lX hG ?_;obtain⟨v4,hv4,h⟩:=lZ h;refine mO [] [(0,5)] [0] (A9 _ _ _ hv4) rfl rfl ?_;refine lW (lX hG ?_);refine mG ?_;exact mW [(1,5)] h
   refine lW (lX hG ?_);refine mA rfl hG h (λ _ h=>?_) (λ _ h=>?_)
   · refine lW (lW (lX hG ?_))
     refine mA rfl hG h (λ _ h=>?_) (λ _ h=>?_)
     · refine lW ?_
       obtain⟨u0,h⟩:=mH h;refine lX hG ?_;refine mG ?_;exact mW [(1,3)] h
     refine mE ?_;refine lW ?_;obtain⟨v0,h⟩:=mH h;refine lX hG ?_;refine mG ?_;exact mW [(1,3)] h
   refine lW (lW (lX hG ?_));refine rN (bOf O U Y) (λ v=>B1 O U Y v=some r) rfl hG h ?_ (λ _ h=>?_) (λ _ h=>?_)
   · intro j2 h
     unfold B1 at h;refine g_st ?_;refine mA rfl hG h (λ _ h=>?_) (λ _ h=>?_)
     · refine lW (lX hG ?_)
       obtain⟨v5,hv5,h⟩:=lZ h;refine nC (λ hg=>(bO3 O.state).ok _ hv5) ?_;refine lW (lX hG ?_);obtain⟨v6,M,h⟩:=lZ h;refine mO [] [(0,3)] [0] (A9 _ _ _ M) rfl rfl ?_;obtain⟨p0,h⟩:=mH h;refine lX hG ?_;refine lW (lX hG ?_);refine mG ?_;exact mW [(1,4)] h
     refine lW (lX hG ?_);refine mA rfl hG h (λ _ h=>?_) (λ _ h=>?_)
     · refine lW (lX hG ?_)
       obtain⟨v7,h0,h⟩:=lZ h;refine mO [] [(0,3)] [0] (A9 _ _ _ h0) rfl rfl ?_;refine lW (lX hG ?_);refine pU bOc (λ v=>KH v=some r) ?_ ?_
       · intro j3 h
         unfold KH at h;refine g_st ?_;refine lW (lX hG ?_);refine mG ?_;exact mW [(1,1)] h
       refine qH (bOe O) hK [(1,3)] h (λ y0 h g1 z0 H B=>?_);unfold He at H;refine g_st ?_;refine lW (lX hG ?_);refine lW ?_;refine mA rfl hG H (λ _ H=>?_) (λ _ H=>?_)
       · refine mE ?_
         refine lW (oG (lW ?_));obtain⟨q0,H⟩:=mH H;refine lX hG ?_;refine lX hG ?_;obtain⟨v8,x0,H⟩:=lZ H;refine mO [] [(0,3)] [0] ((bIn g1.2 (O.options.getD g1.1.toNat aP.zero)).ok _ x0) rfl rfl ?_;refine lX hG ?_;exact oU hK [(1,3)] H
       refine oI ?_;cases H;cases B _ rfl;exact mT hK [(1,1)] g1.2 (by exact h)
     refine mE ?_;refine lW (lX hG ?_);refine mG ?_;exact mW [(1,1)] h
   · refine mE ?_
     exact mT hK [(1,1),(2,2)] (decide (U=78)) (by exact h)
   refine lX hG ?_;exact mT hK [(1,1),(2,2)] (decide (U=76)) (by exact h)
 · refine mE ?_
   exact mT hK [(1,0),(2,1)] (decide (U=65)) (by exact h)
 refine lX hG ?_;exact mT hK [(1,0),(2,1)] (decide (U=97)) (by exact h)
def NW(j1:(List Int)):Option (List Int):=some j1
@[go_sem] def bOj(j1:(List Int)):St:=⟨[(4,.own 0 0 j1.length)],[(0,⟨false,1,[A.int u8 0],j1.map (eI u8)⟩)],1⟩
def Hf(O:aL)(v1:(List (Int×bM)))(H:Int×(List Int)):Option ((Int×(List Int))⊕(List Int)):=(if decide (H.1<((Arr.get nD O.kind.toNat ⟨#[]⟩).size:Int))then gd (0<=O.kind/\O.kind<16)<|gd (0<=H.1/\H.1<((Arr.get nD O.kind.toNat ⟨#[]⟩).size:Int))<|(if(oA (((Arr.get nD O.kind.toNat ⟨#[]⟩).toList.getD H.1.toNat 0).toNat:Int) v1).isSome=true then(oM ((oA (((Arr.get nD O.kind.toNat ⟨#[]⟩).toList.getD H.1.toNat 0).toNat:Int) v1).getD bM.zero).of).bind λ v3=>(pH H.2 (u64.wrap (i64.wrap (nI O v3+((oA (((Arr.get nD O.kind.toNat ⟨#[]⟩).toList.getD H.1.toNat 0).toNat:Int) v1).getD bM.zero).plus)))).bind λ v4=>some (.inl (i64.wrap (H.1+1),v4))else(vI O (((Arr.get nD O.kind.toNat ⟨#[]⟩).toList.getD H.1.toNat 0).toNat:Int) H.2).bind λ v5=>some (.inl (i64.wrap (H.1+1),v5)))else some (.inr H.2))
@[go_sem] def bOk(O:aL)(v1:(List (Int×bM)))(H:Int×(List Int)):St:=⟨[(1,.ptr 0 0 0),(3,.mp 1),(4,.own 2 0 H.2.length),(18,.int i64 ((Arr.get nD O.kind.toNat ⟨#[]⟩).size:Int)),(19,.int i64 H.1)],[(0,bx O),(1,⟨false,0,[A.int u8 0,A.bool true],v1.map (mI u8 bM.enc)⟩),(2,⟨false,1,[A.int u8 0],H.2.map (eI u8)⟩)],3⟩
def B2(H:aL):Option (List Int):=(zV).bind λ v1=>(pH [] (u64.wrap H.kind)).bind λ v2=>gd (0<=H.kind/\H.kind<16)<|(lY (Hf H v1) (0,v2)).bind (λ z=>NW z)
def bOl(U:aL)(r:(List Int))(h:B2 U=some r):PFn C 24 [ga U] (.sl (r.map (eI u8))):=by
 refine oN Tryz.f24 [(38,1)] λ E hG hN hK=>?_;unfold B2 at h;refine lW (lX hG ?_);refine lW (lX hG ?_);obtain⟨v1,Y,h⟩:=lZ h;refine mO [] [(0,1)] [0] ((Ge).ok _ Y) rfl rfl ?_;refine lW (lX hG ?_);obtain⟨v2,hv2,h⟩:=lZ h;refine mO [] [(0,2)] [0] (MFn.unfull1 (A9 _ _ _ hv2)) rfl rfl ?_;refine lW (lW ?_);obtain⟨M,h⟩:=mH h;refine lX hG ?_;refine pU bOj (λ v=>NW v=some r) ?_ ?_
 · intro j1 h
   unfold NW at h;refine g_st ?_;refine lW (lX hG ?_);refine mG ?_;exact nM h
 refine qH (bOk U v1) hK [(0,0),(1,1),(2,2)] h (λ B h g1 F H O=>?_);unfold Hf at H;refine g_st ?_;refine lW (lX hG ?_);refine lW ?_;refine mA rfl hG H (λ _ H=>?_) (λ _ H=>?_)
 · refine mE ?_
   refine lW (oG (lW (lX hG ?_)));refine lW ?_;obtain⟨h0,H⟩:=mH H;obtain⟨x0,H⟩:=mH H;refine lX hG ?_;refine lW (lW (lX hG ?_));refine lW (lX hG ?_);refine mA rfl hG H (λ _ H=>?_) (λ _ H=>?_)
   · refine lW (qD oL hG ?_)
     obtain⟨v3,hv3,H⟩:=lZ H;refine vC [(0,0)] [] [0] (AZ _ _ _ hv3) rfl rfl ?_ (ho:=by first|exact⟨by trivial,tM hv3⟩|exact tM hv3);obtain⟨v4,hv4,H⟩:=lZ H;refine vC [] [(0,4)] [0] (A9 _ _ _ hv4) rfl rfl ?_;refine oI ?_;refine lX hG ?_;exact oU hK [(0,0),(1,1),(2,4)] H
   refine mE ?_;refine lX hG ?_;obtain⟨v5,hv5,H⟩:=lZ H;refine mO [(0,2)] [(1,4)] [0,1] (bOh _ _ _ _ hv5) rfl rfl ?_;refine lX hG ?_;exact oU hK [(0,0),(1,1),(2,4)] H
 refine oI ?_;cases H;cases O _ rfl;exact mT hK [(0,2)] g1.2 (by exact h)
instance bOm(H:aL):OkP (B2 H) 24 [ga H] (λ r=>.sl (r.map (eI u8))):=⟨bOl H⟩
def B3(H:aA):Option Bool:=(i6 H).bind λ v1=>(if !v1 then some false else(Dl H).bind λ v2=>(if v2.2 then Eo H.aB H.aT v2.1.aM v2.1.aJ else some false).bind λ v3=>some ((!v2.2)||(!v3)))
instance bOn(H:aA):OkP (B3 H) 214 [ga H] .bool:=ok1 (B3.eq_1 H) Tryz.f214 []
def vJ(H:aS):Option (List aO):=(qQ H).bind λ v1=>some v1.1
instance bOo(H:aS):OkP (vJ H) 146 [ga H] la:=ok1 (vJ.eq_1 H) Tryz.f146 []
def TZ(H:(List Bool)):Option (List Bool):=some H
def Hg(O:aS)(v1:(List aO)×Bool)(H:Int×(List Bool)):Option ((Int×(List Bool))⊕(List Bool)):=(if decide (0<=H.1)then gd (0<=H.1/\H.1<((H.2.length:Nat):Int))<|(if H.2.getD H.1.toNat false then gd (0<=H.1/\H.1<((H.2.length:Nat):Int))<|(f_ref08_holds O v1.1 (H.2.set H.1.toNat false)).bind λ v3=>gd (0<=H.1/\H.1<((H.2.length:Nat):Int))<|some (.inl (i64.wrap (H.1-1),(H.2.set H.1.toNat false).set H.1.toNat (!v3)))else some (.inl (i64.wrap (H.1-1),H.2)))else some (.inr H.2))
def KI(H:aS)(v1:(List aO)×Bool)(j1:(List Bool)):Option (List Bool):=(lY (Hg H v1) (i64.wrap ((v1.1.length:Int)-1),j1)).bind (λ z=>TZ z)
def Hh(O:List Bool)(v1:(List aO)×Bool)(H:Int×(List Bool)):Option ((Int×(List Bool))⊕(List Bool)):=(if decide (H.1<v1.1.length)then gd (decide (H.1<O.length)=true->0<=H.1/\H.1<O.length)<|gd (0<=H.1/\H.1<((H.2.length:Nat):Int))<|some (.inl (i64.wrap (H.1+1),H.2.set H.1.toNat (decide (H.1<O.length)&&O.getD H.1.toNat false)))else some (.inr H.2))
def Al(H:aS)(O:List Bool):Option (List Bool):=(qQ H).bind λ v1=>gd (0<=(v1.1.length:Int)/\(v1.1.length:Int)<=(v1.1.length:Int)/\(v1.1.length:Int)<=4294967296)<|(if v1.2 then f_ref08_holds H v1.1 O else some false).bind λ v2=>(if (!v1.2)||(!v2)then some (List.replicate (v1.1.length:Int).toNat false)else(lY (Hh O v1) (0,List.replicate (v1.1.length:Int).toNat false)).bind (λ z=>KI H v1 z))
@[reducible,instance]def bOt a0 v1 j1:=mkJ (KI a0 v1 j1) 2 (@TZ.eq_1) λ H=>⟨[(7,.own 0 0 H.length)],[(0,⟨false,1,[A.bool false],H.map eB⟩)],1⟩
@[reducible,instance]def bOu (O:aS) (v1:(List aO)×Bool):=mkL x (@Hg.eq_1 O v1) λ H=>⟨[(2,.ptr 0 0 0),(5,la v1.1),(7,.own 1 0 H.2.length),(9,.int i64 H.1)],[(0,bx O),(1,⟨false,1,[A.bool false],H.2.map eB⟩)],2⟩
@[reducible,instance]def bOv (H:aS) a1 (v1:(List aO)×Bool):=mkJ ((Al H a1,v1),v2) 0 (@KI.eq_1 H v1) λ j1=>⟨[(2,.ptr 0 0 0),(5,la v1.1),(7,.own 1 0 j1.length)],[(0,bx H),(1,⟨false,1,[A.bool false],j1.map eB⟩)],2⟩
@[reducible,instance]def bOw (U:aS) (H:List Bool) (v1:(List aO)×Bool):=mkL ((Al U H,v1),v2) (@Hh.eq_1 H v1) λ O=>⟨[(1,.sl (H.map eB)),(2,.ptr 0 0 0),(5,la v1.1),(7,.own 1 0 O.2.length),(8,.int i64 O.1)],[(0,bx U),(1,⟨false,1,[A.bool false],O.2.map eB⟩)],2⟩
instance bOx(H:aS)(O:List Bool):OkP (Al H O) 234 [ga H,.sl (O.map eB)] (λ r=>.sl (r.map eB)):=ok1 (Al.eq_1 H O) Tryz.f234 []
end
end Ab
end Go.Proofs.YtfmnjkfhahfhgaaGreatDoor
