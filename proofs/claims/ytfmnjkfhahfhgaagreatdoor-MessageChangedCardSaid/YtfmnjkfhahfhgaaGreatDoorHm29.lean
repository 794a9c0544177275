import Derived.Test.YtfmnjkfhahfhgaaGreatDoorHm22
namespace Go.Proofs.YtfmnjkfhahfhgaaGreatDoor
namespace Ab
open Tryz
set_option linter.all false
open IntKind (i64 u64 u8)
set_option maxRecDepth 100000
set_option maxHeartbeats 1000000
noncomputable section
variable {T T1 T2 T3 T4 T5 T6 : Type} (x : T) (v1 : T1) (v2 : T2) (v3 : T3) (v4 : T4) (v5 : T5) (v6 : T6)
attribute [local irreducible] B2 B3 uQ B4 vR wX sY yL B5 Az yM j6 Em AB B6 sL Ha B7 j8 Eo B8 yN tX B9 Hd AD pW tL AE j9 Ku pN AF Cc Cd vS vT Ce Es AH Hk l6 Cf KD Eu AI Cg l7 yO l8 KH AK f_ref08_holds m4 yP AL Ci Ex Ey Cj tY vU AP uR Hv qV Ck m6 Ez Cl Cm Cn EB uS Co EC wY EE rJ nY Cp EH sF Hx EI yQ Cr Ct vV sM Cu KR Cv Cw m7 KU sZ rX m8 Cy Cz EP tA m9 KY n5 CC EQ uU n7 AS tM uV CD vX AT AU ES CE wZ AV n9 yU CF EU HI CG uY CH CI AX K9 Lj CP CQ A5 vA CS EY CJ uZ AY o4 xC AZ E2 CL A0 o5 A1 CM A2 CN A3 CO E7 o8 A6 E9 yW CT CU C0 q5 q6 A8 q7 Fj Fb p8 qX s8 Fs t6 Fn yX Fo Fp
def OS(j1:(List aK)):Option (List aK):=(q5 j1).bind λ v1=>some v1
def Ib(O:List aA)(H:Int×(List aK)):Option ((Int×(List aK))⊕(List aK)):=(if decide (H.1<O.length)then gd (0<=H.1/\H.1<O.length)<|(Fn (O.getD H.1.toNat aA.zero)).bind λ v2=>gd (H.2.length+v2.length<=4294967296)<|some (.inl (i64.wrap (H.1+1),H.2++v2))else some (.inr H.2))
def C3(H:List aA):Option (List aK):=(mF (Ib H) (0,[])).bind (λ z=>OS z)
abbrev bN4 a0:=mkJ (C3 a0) 0 (@OS.eq_1) λ j1=>⟨[(3,.own 0 0 j1.length)],[(0,sx j1)],1⟩
abbrev bN5 (H:List aA):=mkL x (@Ib.eq_1 H) λ O=>⟨[(3,.own 0 0 O.2.length),(6,la H),(7,.int i64 H.length),(8,.int i64 O.1)],[(0,sx O.2)],1⟩
attribute[instance]bN4 bN5
instance bN6(H:List aA):OkP (C3 H) 224 [la H] la:=ok1 (C3.eq_1 H) f224 [(3,1)]
attribute [local irreducible] C3
def UY(j1:Unit):Option Int:=some 0
def Lt(O:List aJ)(v1:(List aO)×Bool)(H:Int):Option (Int⊕(Unit⊕Int)):=(if decide (H<v1.1.length)then gd (0<=H/\H<v1.1.length)<|(Fs O (v1.1.getD H.toNat aO.zero)).bind λ v2=>(if !decide (v2=0)then some (.inr (.inr v2))else some (.inl (i64.wrap (H+1))))else some (.inr (.inl ())))
def Bb(H:List aJ)(O:aR):Option Int:=(qX O).bind λ v1=>(if !v1.2 then some 1 else(mF (Lt H v1) 0).bind (λ|.inl z=>UY z|.inr z=>some z))
abbrev bN9 a0 a1:=mkJ (Bb a0 a1,v1) 0 (@UY.eq_1) λ j1=>⟨[],[],0⟩
abbrev bNa (H:List aJ) (v1:(List aO)×Bool):=mkL x (@Lt.eq_1 H v1) λ O=>⟨[(0,la H),(5,la v1.1),(7,.int i64 O)],[],0⟩
attribute[instance]bN9 bNa
instance bNb(H:List aJ)(O:aR):OkP (Bb H O) 142 [la H,ga O] (λ r=>.int i64 r):=ok1 (Bb.eq_1 H O) f142 []
attribute [local irreducible] Bb
def Bc(H:aR)(O:List Bool):Option Bool:=(qX H).bind λ v1=>(if v1.2 then f_ref08_holds H v1.1 O else some false).bind λ v2=>some (v1.2&&v2)
instance bNc(H:aR)(O:List Bool):OkP (Bc H O) 144 [ga H,.sl (O.map eB)] .bool:=ok1 (Bc.eq_1 H O) f144 []
attribute [local irreducible] Bc
attribute [local irreducible] CX vY p9 Ff CY CZ Fk C1 C2 Fq r9 Ba
def Ft(H:aA):Option Bool:=(Fk H).bind λ v1=>(if !v1 then some false else(Em H).bind λ v2=>(if v2.2 then Fq H.aB H.aS v2.1.aM v2.1.aI else some false).bind λ v3=>some ((!v2.2)||(!v3)))
instance bNd(H:aA):OkP (Ft H) 220 [ga H] .bool:=ok1 (Ft.eq_1 H) f220 []
attribute [local irreducible] Ft
def Fu(H:aA):Option Bool:=(Ft H).bind λ v1=>some v1
instance bNe(H:aA):OkP (Fu H) 180 [ga H] .bool:=ok1 (Fu.eq_1 H) f180 []
attribute [local irreducible] Fu
def OT(j1:(List aK)):Option (List aK):=(q5 j1).bind λ v2=>some v2
def Lu(O:aH)(H:Int×(List aK)):Option ((Int×(List aK))⊕(List aK)):=(if decide (H.1<O.aY.length)then gd (0<=H.1/\H.1<O.aY.length)<|gd (H.2.length+1<=4294967296)<|some (.inl (i64.wrap (H.1+1),H.2++[(O.aY.getD H.1.toNat bR.zero).aM]))else some (.inr H.2))
def Bd(H:aH):Option (List aK):=(C3 H.aF).bind λ v1=>gd (v1.length<=4294967296)<|(mF (Lu H) (0,v1)).bind (λ z=>OT z)
abbrev bNh a0:=mkJ (Bd a0,v1) 0 (@OT.eq_1) λ j1=>⟨[(3,.own 0 0 j1.length)],[(0,sx j1)],1⟩
abbrev bNi (H:aH):=mkL x (@Lu.eq_1 H) λ O=>⟨[(3,.own 0 0 O.2.length),(11,la H.aY),(12,.int i64 H.aY.length),(13,.int i64 O.1)],[(0,sx O.2)],1⟩
attribute[instance]bNh bNi
instance bNj(H:aH):OkP (Bd H) 183 [ga H] la:=ok1 (Bd.eq_1 H) f183 []
attribute [local irreducible] Bd
def OU(H:aH)(O:Unit):Option Bool:=(Bd H).bind λ v1=>some (decide ((v1.length:Int)<=8))
def Be(O:aH)(H:Int):Option (Int⊕(Unit⊕Bool)):=(if decide (H<O.aY.length)then gd (0<=H/\H<O.aY.length)<|(if !(((!(mV (O.aY.getD H.toNat bR.zero).aM))||decide ((O.aY.getD H.toNat bR.zero).gen<0))||decide (1073741824<(O.aY.getD H.toNat bR.zero).gen))then A6 ((O.aY.getD H.toNat bR.zero).bU)else some false).bind λ v2=>(if (((!(mV (O.aY.getD H.toNat bR.zero).aM))||decide ((O.aY.getD H.toNat bR.zero).gen<0))||decide (1073741824<(O.aY.getD H.toNat bR.zero).gen))||(!v2)then some (.inr (.inr false))else gd (decide (0<H)=true->0<=i64.wrap (H-1)/\i64.wrap (H-1)<(O.aY.length:Int))<|(if decide (0<H)then yQ (O.aY.getD (i64.wrap (H-1)).toNat bR.zero).aM ((O.aY.getD H.toNat bR.zero).aM)else some 0).bind λ v3=>(if decide (0<H)&&decide (0<=v3)then some (.inr (.inr false))else some (.inl (i64.wrap (H+1)))))else some (.inr (.inl ())))
def Lv(H:aH)(j1:Unit):Option Bool:=(mF (Be H) 0).bind (λ|.inl z=>OU H z|.inr z=>some z)
def Lw(O:aH)(H:Int):Option (Int⊕(Unit⊕Bool)):=(if decide (H<O.aF.length)then gd (0<=H/\H<O.aF.length)<|(Fu (O.aF.getD H.toNat aA.zero)).bind λ v4=>gd ((v4&&decide (0<H))=true->0<=i64.wrap (H-1)/\i64.wrap (H-1)<(O.aF.length:Int))<|(if (!v4)||(decide (0<H)&&(!Op.bytesLess (((O.aF.getD (i64.wrap (H-1)).toNat aA.zero).aB).name).toList (((O.aF.getD H.toNat aA.zero).aB).name).toList))then some (.inr (.inr false))else some (.inl (i64.wrap (H+1))))else some (.inr (.inl ())))
def yY(H:aH):Option Bool:=(if decide (8<(H.aF.length:Int))||decide (8<(H.aY.length:Int))then some false else(mF (Lw H) 0).bind (λ|.inl z=>Lv H z|.inr z=>some z))
abbrev bNn (H:aH) j1:=mkJ (Lv H j1) 2 (@OU.eq_1 H) λ O=>⟨[(1,.ptr 0 0 0)],[(0,bx H)],1⟩
abbrev bNo (H:aH):=mkL x (@Be.eq_1 H) λ O=>⟨[(1,.ptr 0 0 0),(48,la H.aY),(49,.int i64 H.aY.length),(50,.int i64 O)],[(0,bx H)],1⟩
abbrev bNp (H:aH):=mkJ (yY H) 0 (@Lv.eq_1 H) λ j1=>⟨[(1,.ptr 0 0 0)],[(0,bx H)],1⟩
abbrev bNq (H:aH):=mkL x (@Lw.eq_1 H) λ O=>⟨[(1,.ptr 0 0 0),(18,la H.aF),(19,.int i64 H.aF.length),(20,.int i64 O)],[(0,bx H)],1⟩
attribute[instance]bNn bNo bNp bNq
instance bNr(H:aH):OkP (yY H) 128 [ga H] .bool:=ok1 (yY.eq_1 H) f128 []
attribute [local irreducible] yY
def UZ(j1:Unit):Option Bool:=some true
def Lx(O:aL)(H:Int):Option (Int⊕(Unit⊕Bool)):=(if decide (H<O.options.length)then gd (0<=H/\H<O.options.length)<|(m7 (O.options.getD H.toNat aP.zero)).bind λ v5=>(if !v5 then some (.inr (.inr false))else some (.inl (i64.wrap (H+1))))else some (.inr (.inl ())))
def uA(H:aL)(O:Int):Option Bool:=(if decide (O=80)then some (mV H.aM)else(if decide (O=65)then(wY H.aZ.name).bind λ v1=>some (v1&&Cq H.aZ.aI)else(if decide (O=97)then(wY H.aZ.name).bind λ v2=>some (v2&&(decide (H.aZ.aI={aC.zero with})||Cq H.aZ.aI))else(if decide (O=78)then(if decide ((H.state.aF.length:Int)=0)then yY H.state else some false).bind λ v3=>some (decide ((H.state.aF.length:Int)=0)&&v3)else(if decide (O=76)then(if decide ((H.state.aY.length:Int)=0)then yY H.state else some false).bind λ v4=>some (decide ((H.state.aY.length:Int)=0)&&v4)else(if decide (O=79)then(if decide (40<(H.options.length:Int))then some false else(mF (Lx H) 0).bind (λ|.inl z=>UZ z|.inr z=>some z))else some true))))))
abbrev bNu a0 a1:=mkJ (uA a0 a1) 1 (@UZ.eq_1) λ j1=>⟨[],[],0⟩
abbrev bNv (H:aL):=mkL x (@Lx.eq_1 H) λ O=>⟨[(77,la H.options),(78,.int i64 H.options.length),(79,.int i64 O)],[],0⟩
attribute[instance]bNu bNv
instance bNw(H:aL)(O:Int):OkP (uA H O) 84 [ga H,.int u8 O] .bool:=ok1 (uA.eq_1 H O) f84 []
attribute [local irreducible] uA
def OV(H:(List Int)):Option ((List Int)×Int):=some (H,0)
def Ic(O:aH)(H:(List Int)×Int):Option (((List Int)×Int)⊕(List Int)):=(if decide (H.2<O.aY.length)then gd (0<=H.2/\H.2<O.aY.length)<|(wZ H.1 (O.aY.getD H.2.toNat bR.zero).aM).bind λ v4=>(rJ v4 [(O.aY.getD H.2.toNat bR.zero).gen]).bind λ v5=>(KU v5 (O.aY.getD H.2.toNat bR.zero).bU).bind λ v6=>some (.inl (v6,i64.wrap (H.2+1)))else some (.inr H.1))
def Ly(H:aH)(j1:(List Int)):Option ((List Int)×Int):=(rJ j1 [(H.aY.length:Int)]).bind λ v3=>(mF (Ic H) (v3,0)).bind (λ z=>OV z)
def Ie(O:aH)(H:(List Int)×Int):Option (((List Int)×Int)⊕(List Int)):=(if decide (H.2<O.aF.length)then gd (0<=H.2/\H.2<O.aF.length)<|(CL H.1 (O.aF.getD H.2.toNat aA.zero)).bind λ U=>some (.inl (U,i64.wrap (H.2+1)))else some (.inr H.1))
def Bf(H:aH):Option ((List Int)×Int):=(yY H).bind λ v1=>(if !v1 then some ([],2)else(rJ [] [(H.aF.length:Int)]).bind λ v2=>(mF (Ie H) (v2,0)).bind (λ z=>Ly H z))
abbrev bNz a0 j1:=mkJ (Ly a0 j1,v1) 2 (@OV.eq_1) λ H=>⟨[(4,.sl (H.map (eI u8)))],[],0⟩
abbrev bO0 (H:aH):=mkL x (@Ic.eq_1 H) λ O=>⟨[(4,.sl (O.1.map (eI u8))),(35,la H.aY),(36,.int i64 H.aY.length),(37,.int i64 O.2)],[],0⟩
abbrev bO1 (H:aH):=mkJ ((Bf H,v1),v2) 0 (@Ly.eq_1 H) λ j1=>⟨[(1,.ptr 0 0 0),(4,.sl (j1.map (eI u8)))],[(0,bx H)],1⟩
abbrev bO2 (H:aH):=mkL x (@Ie.eq_1 H) λ O=>⟨[(1,.ptr 0 0 0),(4,.sl (O.1.map (eI u8))),(18,la H.aF),(19,.int i64 H.aF.length),(20,.int i64 O.2)],[(0,bx H)],1⟩
attribute[instance]bNz bO0 bO1 bO2
instance bO3(H:aH):OkP (Bf H) 104 [ga H] (λ r=>.tup [.sl (r.1.map (eI u8)),.int i64 r.2]):=ok1 (Bf.eq_1 H) f104 []
attribute [local irreducible] Bf
def Ig(H:aX×aH):Option (aH×Int):=(if !decide (H.1.bC.err=0)then some ({aH.zero with},H.1.bC.err)else(if decide (0<(H.1.bC.rest.length:Int))then some ({aH.zero with},6)else(yY H.2).bind λ v3=>(if !v3 then some ({aH.zero with},2)else some (H.2,0))))
def xH(H:Int×aX×aH):Option ((Int×aX×aH)⊕(aX×aH)):=(if decide (0<H.1)&&decide (H.2.1.bC.err=0)then(uY H.2.1).bind λ v4=>(rX v4.2).bind λ v5=>(E9 1 v5.2).bind λ v6=>gd (H.2.2.aY.length+1<=4294967296)<|some (.inl (i64.wrap (H.1-1),v6.2,(⟨H.2.2.aF,H.2.2.aY++[{{{bR.zero with aM:=v4.1}with gen:=v5.1}with bU:=v6.1}]⟩:aH)))else some (.inr (H.2.1,H.2.2)))
def Fv(j1:aX×aH):Option (aH×Int):=(sZ 8 j1.1).bind λ v2=>(mF xH (v2.1,v2.2,j1.2)).bind (λ z=>Ig z)
def xI(H:Int×aX×aH):Option ((Int×aX×aH)⊕(aX×aH)):=(if decide (0<H.1)&&decide (H.2.1.bC.err=0)then(vY H.2.1).bind λ O=>gd (H.2.2.aF.length+1<=4294967296)<|some (.inl (i64.wrap (H.1-1),O.2,(⟨H.2.2.aF++[O.1],H.2.2.aY⟩:aH)))else some (.inr (H.2.1,H.2.2)))
def vZ(H:List Int):Option (aH×Int):=(sZ 8 (⟨{bT.zero with rest:=H}⟩:aX)).bind λ v1=>(mF xI (v1.1,v1.2,(⟨[],[]⟩:aH))).bind (λ z=>Fv z)
abbrev bO4 (j1:aX×aH):=mkJ (Fv j1,v1) 2 (@Ig.eq_1) λ H=>⟨[(2,.ptr 0 0 0),(4,.ptr 1 0 0),(5,.ptr 2 0 0)],[(0,bx aH.zero),(1,bx H.1),(2,⟨false,2,aH.enc aH.zero,[[.own 3 0 H.2.aF.length,.own 4 0 H.2.aY.length]]⟩),(3,sx H.2.aF),(4,sx H.2.aY)],5⟩
abbrev bO5:=mkL x (@xH.eq_1) λ H=>⟨[(2,.ptr 0 0 0),(4,.ptr 1 0 0),(5,.ptr 2 0 0),(7,.int i64 H.1)],[(0,bx aH.zero),(1,bx H.2.1),(2,⟨false,2,aH.enc aH.zero,[[.own 3 0 H.2.2.aF.length,.own 4 0 H.2.2.aY.length]]⟩),(3,sx H.2.2.aF),(4,sx H.2.2.aY)],5⟩
abbrev bO6 (H:List Int):=mkJ (vZ H,v1) 0 (@Fv.eq_1) λ j1=>⟨[(2,.ptr 0 0 0),(4,.ptr 1 0 0),(5,.ptr 2 0 0)],[(0,bx aH.zero),(1,bx j1.1),(2,⟨false,2,aH.enc aH.zero,[[.own 3 0 j1.2.aF.length,.own 4 0 j1.2.aY.length]]⟩),(3,sx j1.2.aF),(4,sx j1.2.aY)],5⟩
abbrev bO7:=mkL x (@xI.eq_1) λ H=>⟨[(2,.ptr 0 0 0),(4,.ptr 1 0 0),(5,.ptr 2 0 0),(6,.int i64 H.1)],[(0,bx aH.zero),(1,bx H.2.1),(2,⟨false,2,aH.enc aH.zero,[[.own 3 0 H.2.2.aF.length,.own 4 0 H.2.2.aY.length]]⟩),(3,sx H.2.2.aF),(4,sx H.2.2.aY)],5⟩
attribute[instance]bO4 bO5 bO6 bO7
instance bO8(H:List Int):OkP (vZ H) 117 [.sl (H.map (eI u8))] (λ r=>.tup [ga r.1,.int i64 r.2]):=⟨λ r h=>by
 refine oT f117 [(5,5)] λ E hG O hK=>?_;have hm:Mk (vZ H):=trivial;unfold vZ at h;refine zq ?_;refine zq ?_;refine zq ?_;refine g_gh (.ownb 2 0 8 (aA.enc aA.zero)) ?_;refine g_gh (.ownb 2 1 9 (bR.enc bR.zero)) ?_;exact gogo⟩
attribute [local irreducible] vZ
def Lz(H:(List Int)):Option (List Int):=some H
@[go_sem] def bOa(H:(List Int)):St:=⟨[(0,.own 1 0 H.length)],[(1,⟨false,1,[A.int u8 0],H.map (eI u8)⟩)],2⟩
def Ih(O:aL)(H:Int×(List Int)):Option ((Int×(List Int))⊕(List Int)):=(if decide (H.1<O.options.length)then gd (0<=H.1/\H.1<O.options.length)<|(CQ H.2 (O.options.getD H.1.toNat aP.zero)).bind λ U=>some (.inl (i64.wrap (H.1+1),U))else some (.inr H.2))
@[go_sem] def bOc(O:aL)(H:Int×(List Int)):St:=⟨[(0,.own 1 0 H.2.length),(76,la O.options),(77,.int i64 O.options.length),(78,.int i64 H.1)],[(1,⟨false,1,[A.int u8 0],H.2.map (eI u8)⟩)],2⟩
def C4(H:aL)(U:Int)(O:List Int)(Y:Bool):Option (List Int):=(if Y then(Bf H.state).bind λ v5=>(pN O (u64.wrap (v5.1.length:Int))).bind λ v6=>gd (v6.length+v5.1.length<=4294967296)<|some (v6++v5.1)else(if decide (U=79)then(pN O (u64.wrap (H.options.length:Int))).bind λ B=>(mF (Ih H) (0,B)).bind (λ z=>Lz z)else some O))
@[go_sem] def bOd(O:aL)(U:Int)(H:List Int)(Y:Bool):St:=⟨[(0,.own 1 0 H.length),(4,.ptr 2 0 0),(11,.int u8 U),(50,.bool Y)],[(1,⟨false,1,[A.int u8 0],H.map (eI u8)⟩),(2,bx O)],3⟩
def yZ(O:aL)(U:Int)(H:List Int)(j1:Bool):Option (List Int):=(if j1 then(Ct H O.aZ.name).bind λ v2=>(pN v2 (u64.wrap O.aZ.aI.mode)).bind λ v3=>(pN v3 (u64.wrap O.aZ.aI.aU)).bind λ v4=>some v4 else(if decide (U=68)then(if O.done then gd (H.length+1<=4294967296)<|some (H++[1])else gd (H.length+1<=4294967296)<|some (H++[0]))else(if decide (U=78)then C4 O U H (decide (U=78))else C4 O U H (decide (U=76)))))
@[go_sem] def bOe(O:aL)(U:Int)(H:List Int)(j1:Bool):St:=⟨[(0,.own 1 0 H.length),(4,.ptr 2 0 0),(11,.int u8 U),(18,.bool j1)],[(1,⟨false,1,[A.int u8 0],H.map (eI u8)⟩),(2,bx O)],3⟩
def vB(O:aL)(H:Int)(U:List Int):Option (List Int):=(if decide (H=80)then(AS U O.aM).bind λ v1=>some v1 else(if decide (H=65)then yZ O H U (decide (H=65))else yZ O H U (decide (H=97))))
def bOf(O:aL)(U:Int)(Y:List Int)(r:(List Int))(h:vB O U Y=some r):MFn C 50 [.own 0 0 Y.length,ga O,.int u8 U] [(0,⟨false,1,[A.int u8 0],Y.map (eI u8)⟩)] 1 (.own 1 0 r.length) [(1,⟨false,1,[A.int u8 0],r.map (eI u8)⟩)] 2:=by
 refine pF f50 [(6,1),(17,1),(25,1)] [.own 1 0 r.length] λ E hG hN hK=>?_;unfold vB at h;refine zq ?_;refine mD (zq ?_);refine oM (zq ?_);refine mJ rfl hG h (λ _ h=>?_) (λ _ h=>?_)
 · refine mE hG ?_
   obtain⟨v1,F,h⟩:=mG h;refine mU [] [(0,3)] [0] ((bDi Y O.aM).ok _ F) rfl rfl ?_;refine zq ?_;refine mO ?_;exact nD [(1,3)] h
 refine mD (zq ?_);refine rV (bOe O U Y) (λ v=>yZ O U Y v=some r) rfl hG h ?_ (λ _ h=>?_) (λ _ h=>?_)
 · intro j1 h
   unfold yZ at h;refine g_st ?_;refine mJ rfl hG h (λ _ h=>?_) (λ _ h=>?_)
   · refine zq ?_
     obtain⟨v2,hv2,h⟩:=mG h;refine mU [] [(0,3)] [0] ((bB0 Y O.aZ.name).ok _ hv2) rfl rfl ?_;refine zq ?_;obtain⟨v3,hv3,h⟩:=mG h;refine mU [] [(0,4)] [0] (Cb _ _ _ hv3) rfl rfl ?_;refine mE hG ?_;obtain⟨v4,hv4,h⟩:=mG h;refine mU [] [(0,5)] [0] (Cb _ _ _ hv4) rfl rfl ?_;refine zq ?_;refine mO ?_;exact nD [(1,5)] h
   refine zq ?_;refine mJ rfl hG h (λ _ h=>?_) (λ _ h=>?_)
   · refine mD (zq ?_)
     refine mJ rfl hG h (λ _ h=>?_) (λ _ h=>?_)
     · refine mD ?_
       obtain⟨u0,h⟩:=mM h;refine mE hG ?_;refine mO ?_;exact nD [(1,3)] h
     refine mN ?_;refine mD ?_;obtain⟨p0,h⟩:=mM h;refine mE hG ?_;refine mO ?_;exact nD [(1,3)] h
   refine mD (zq ?_);refine rV (bOd O U Y) (λ v=>C4 O U Y v=some r) rfl hG h ?_ (λ _ h=>?_) (λ _ h=>?_)
   · intro j2 h
     unfold C4 at h;refine g_st ?_;refine mJ rfl hG h (λ _ h=>?_) (λ _ h=>?_)
     · refine zq ?_
       obtain⟨v5,hv5,h⟩:=mG h;refine nK (λ hg=>(bO3 O.state).ok _ hv5) ?_;refine zq ?_;obtain⟨v6,M,h⟩:=mG h;refine mU [] [(0,3)] [0] (Cb _ _ _ M) rfl rfl ?_;obtain⟨q0,h⟩:=mM h;refine mE hG ?_;refine zq ?_;refine mO ?_;exact nD [(1,4)] h
     refine zq ?_;refine mJ rfl hG h (λ _ h=>?_) (λ _ h=>?_)
     · refine zq ?_
       obtain⟨v7,h0,h⟩:=mG h;refine mU [] [(0,3)] [0] (Cb _ _ _ h0) rfl rfl ?_;refine zq ?_;refine qA bOa (λ v=>Lz v=some r) ?_ ?_
       · intro j3 h
         unfold Lz at h;refine g_st ?_;refine zq ?_;refine mO ?_;exact nD [(1,1)] h
       refine qO (bOc O) hK [(1,3)] h (λ y0 h g1 z0 H B=>?_);unfold Ih at H;refine g_st ?_;refine zq ?_;refine mD ?_;refine mJ rfl hG H (λ _ H=>?_) (λ _ H=>?_)
       · refine mN ?_
         refine mD (oM (mD ?_));obtain⟨r0,H⟩:=mM H;refine mE hG ?_;refine mE hG ?_;obtain⟨v8,x0,H⟩:=mG H;refine mU [] [(0,3)] [0] ((bIn g1.2 (O.options.getD g1.1.toNat aP.zero)).ok _ x0) rfl rfl ?_;refine mE hG ?_;exact pA hK [(1,3)] H
       refine oO ?_;cases H;cases B _ rfl;exact nA hK [(1,1)] g1.2 (by exact h)
     refine mN ?_;refine zq ?_;refine mO ?_;exact nD [(1,1)] h
   · refine mN ?_
     exact nA hK [(1,1),(2,2)] (decide (U=78)) (by exact h)
   refine mE hG ?_;exact nA hK [(1,1),(2,2)] (decide (U=76)) (by exact h)
 · refine mN ?_
   exact nA hK [(1,0),(2,1)] (decide (U=65)) (by exact h)
 refine mE hG ?_;exact nA hK [(1,0),(2,1)] (decide (U=97)) (by exact h)
attribute [local irreducible] vB
def OW(j1:(List Int)):Option (List Int):=some j1
@[go_sem] def bOh(j1:(List Int)):St:=⟨[(4,.own 0 0 j1.length)],[(0,⟨false,1,[A.int u8 0],j1.map (eI u8)⟩)],1⟩
def Ii(O:aL)(v1:(List (Int×bL)))(H:Int×(List Int)):Option ((Int×(List Int))⊕(List Int)):=(if decide (H.1<((Arr.get nL O.kind.toNat ⟨#[]⟩).size:Int))then gd (0<=O.kind/\O.kind<16)<|gd (0<=H.1/\H.1<((Arr.get nL O.kind.toNat ⟨#[]⟩).size:Int))<|(if(oF (((Arr.get nL O.kind.toNat ⟨#[]⟩).toList.getD H.1.toNat 0).toNat:Int) v1).isSome=true then(oP ((oF (((Arr.get nL O.kind.toNat ⟨#[]⟩).toList.getD H.1.toNat 0).toNat:Int) v1).getD bL.zero).of).bind λ v3=>(pN H.2 (u64.wrap (i64.wrap (nQ O v3+((oF (((Arr.get nL O.kind.toNat ⟨#[]⟩).toList.getD H.1.toNat 0).toNat:Int) v1).getD bL.zero).plus)))).bind λ v4=>some (.inl (i64.wrap (H.1+1),v4))else(vB O (((Arr.get nL O.kind.toNat ⟨#[]⟩).toList.getD H.1.toNat 0).toNat:Int) H.2).bind λ v5=>some (.inl (i64.wrap (H.1+1),v5)))else some (.inr H.2))
@[go_sem] def bOj(O:aL)(v1:(List (Int×bL)))(H:Int×(List Int)):St:=⟨[(1,.ptr 0 0 0),(3,.mp 1),(4,.own 2 0 H.2.length),(18,.int i64 ((Arr.get nL O.kind.toNat ⟨#[]⟩).size:Int)),(19,.int i64 H.1)],[(0,bx O),(1,⟨false,0,[A.int u8 0,A.bool true],v1.map (mI u8 bL.enc)⟩),(2,⟨false,1,[A.int u8 0],H.2.map (eI u8)⟩)],3⟩
def Bg(H:aL):Option (List Int):=(l6).bind λ v1=>(pN [] (u64.wrap H.kind)).bind λ v2=>gd (0<=H.kind/\H.kind<16)<|(mF (Ii H v1) (0,v2)).bind (λ z=>OW z)
def bOk(U:aL)(r:(List Int))(h:Bg U=some r):PFn C 24 [ga U] (.sl (r.map (eI u8))):=by
 refine oT f24 [(38,1)] λ E hG hN hK=>?_;unfold Bg at h;refine zq ?_;refine zq ?_;obtain⟨v1,Y,h⟩:=mG h;refine mU [] [(0,1)] [0] ((Hl).ok _ Y) rfl rfl ?_;refine zq ?_;obtain⟨v2,hv2,h⟩:=mG h;refine mU [] [(0,2)] [0] (MFn.unfull1 (Cb _ _ _ hv2)) rfl rfl ?_;refine mD (mD ?_);obtain⟨M,h⟩:=mM h;refine mE hG ?_;refine qA bOh (λ v=>OW v=some r) ?_ ?_
 · intro j1 h
   unfold OW at h;refine g_st ?_;refine zq ?_;refine mO ?_;exact nU h
 refine qO (bOj U v1) hK [(0,0),(1,1),(2,2)] h (λ B h g1 F H O=>?_);unfold Ii at H;refine g_st ?_;refine zq ?_;refine mD ?_;refine mJ rfl hG H (λ _ H=>?_) (λ _ H=>?_)
 · refine mN ?_
   refine mD (oM (zq ?_));refine mD ?_;obtain⟨h0,H⟩:=mM H;obtain⟨x0,H⟩:=mM H;refine mE hG ?_;refine mD (zq ?_);refine zq ?_;refine mJ rfl hG H (λ _ H=>?_) (λ _ H=>?_)
   · refine mD (qJ oS hG ?_)
     obtain⟨v3,hv3,H⟩:=mG H;refine vQ [(0,0)] [] [0] (B0 _ _ _ hv3) rfl rfl ?_ (ho:=by first|exact⟨by trivial,tW hv3⟩|exact tW hv3);obtain⟨v4,hv4,H⟩:=mG H;refine vQ [] [(0,4)] [0] (Cb _ _ _ hv4) rfl rfl ?_;refine oO ?_;refine mE hG ?_;exact pA hK [(0,0),(1,1),(2,4)] H
   refine mN ?_;refine mE hG ?_;obtain⟨v5,hv5,H⟩:=mG H;refine mU [(0,2)] [(1,4)] [0,1] (bOf _ _ _ _ hv5) rfl rfl ?_;refine mE hG ?_;exact pA hK [(0,0),(1,1),(2,4)] H
 refine oO ?_;cases H;cases O _ rfl;exact nA hK [(0,2)] g1.2 (by exact h)
instance bOl(H:aL):OkP (Bg H) 24 [ga H] (λ r=>.sl (r.map (eI u8))):=⟨bOk H⟩
attribute [local irreducible] Bg
def C5(H:aA):Option Bool:=(s8 H).bind λ v1=>(if !v1 then some false else(Eo H).bind λ v2=>(if v2.2 then Fp H.aB H.aS v2.1.aM v2.1.aI else some false).bind λ v3=>some ((!v2.2)||(!v3)))
instance bOm(H:aA):OkP (C5 H) 214 [ga H] .bool:=ok1 (C5.eq_1 H) f214 []
attribute [local irreducible] C5
def wA(H:aR):Option (List aO):=(qX H).bind λ v1=>some v1.1
instance bOn(H:aR):OkP (wA H) 146 [ga H] la:=ok1 (wA.eq_1 H) f146 []
attribute [local irreducible] wA
def U0(H:(List Bool)):Option (List Bool):=some H
def Ij(O:aR)(v1:(List aO)×Bool)(H:Int×(List Bool)):Option ((Int×(List Bool))⊕(List Bool)):=(if decide (0<=H.1)then gd (0<=H.1/\H.1<((H.2.length:Nat):Int))<|(if H.2.getD H.1.toNat false then gd (0<=H.1/\H.1<((H.2.length:Nat):Int))<|(f_ref08_holds O v1.1 (H.2.set H.1.toNat false)).bind λ v3=>gd (0<=H.1/\H.1<((H.2.length:Nat):Int))<|some (.inl (i64.wrap (H.1-1),(H.2.set H.1.toNat false).set H.1.toNat (!v3)))else some (.inl (i64.wrap (H.1-1),H.2)))else some (.inr H.2))
def LA(H:aR)(v1:(List aO)×Bool)(j1:(List Bool)):Option (List Bool):=(mF (Ij H v1) (i64.wrap ((v1.1.length:Int)-1),j1)).bind (λ z=>U0 z)
def Ik(O:List Bool)(v1:(List aO)×Bool)(H:Int×(List Bool)):Option ((Int×(List Bool))⊕(List Bool)):=(if decide (H.1<v1.1.length)then gd (decide (H.1<O.length)=true->0<=H.1/\H.1<O.length)<|gd (0<=H.1/\H.1<((H.2.length:Nat):Int))<|some (.inl (i64.wrap (H.1+1),H.2.set H.1.toNat (decide (H.1<O.length)&&O.getD H.1.toNat false)))else some (.inr H.2))
def Bh(H:aR)(O:List Bool):Option (List Bool):=(qX H).bind λ v1=>gd (0<=(v1.1.length:Int)/\(v1.1.length:Int)<=(v1.1.length:Int)/\(v1.1.length:Int)<=4294967296)<|(if v1.2 then f_ref08_holds H v1.1 O else some false).bind λ v2=>(if (!v1.2)||(!v2)then some (List.replicate (v1.1.length:Int).toNat false)else(mF (Ik O v1) (0,List.replicate (v1.1.length:Int).toNat false)).bind (λ z=>LA H v1 z))
abbrev bOs a0 v1 j1:=mkJ (LA a0 v1 j1) 2 (@U0.eq_1) λ H=>⟨[(7,.own 0 0 H.length)],[(0,⟨false,1,[A.bool false],H.map eB⟩)],1⟩
abbrev bOt (O:aR) (v1:(List aO)×Bool):=mkL x (@Ij.eq_1 O v1) λ H=>⟨[(2,.ptr 0 0 0),(5,la v1.1),(7,.own 1 0 H.2.length),(9,.int i64 H.1)],[(0,bx O),(1,⟨false,1,[A.bool false],H.2.map eB⟩)],2⟩
abbrev bOu (H:aR) a1 (v1:(List aO)×Bool):=mkJ ((Bh H a1,v1),v2) 0 (@LA.eq_1 H v1) λ j1=>⟨[(2,.ptr 0 0 0),(5,la v1.1),(7,.own 1 0 j1.length)],[(0,bx H),(1,⟨false,1,[A.bool false],j1.map eB⟩)],2⟩
abbrev bOv (U:aR) (H:List Bool) (v1:(List aO)×Bool):=mkL ((Bh U H,v1),v2) (@Ik.eq_1 H v1) λ O=>⟨[(1,.sl (H.map eB)),(2,.ptr 0 0 0),(5,la v1.1),(7,.own 1 0 O.2.length),(8,.int i64 O.1)],[(0,bx U),(1,⟨false,1,[A.bool false],O.2.map eB⟩)],2⟩
attribute[instance]bOs bOt bOu bOv
instance bOw(H:aR)(O:List Bool):OkP (Bh H O) 234 [ga H,.sl (O.map eB)] (λ r=>.sl (r.map eB)):=ok1 (Bh.eq_1 H O) f234 []
attribute [local irreducible] Bh
def zA(H:aA):Option Bool:=(s8 H).bind λ v1=>(if v1 then C5 H else some false).bind λ v2=>some (v1&&v2)
instance bOx(H:aA):OkP (zA H) 161 [ga H] .bool:=ok1 (zA.eq_1 H) f161 []
attribute [local irreducible] zA
def U1(j1:Unit):Option Bool:=some true
def LB(O:List aA)(H:Int):Option (Int⊕(Unit⊕Bool)):=(if decide (H<O.length)then gd (0<=H/\H<O.length)<|(zA (O.getD H.toNat aA.zero)).bind λ v1=>gd ((v1&&decide (0<H))=true->0<=i64.wrap (H-1)/\i64.wrap (H-1)<(O.length:Int))<|gd ((v1&&decide (0<H))=true->0<=H/\H<O.length)<|(if (!v1)||(decide (0<H)&&(!Op.bytesLess (((O.getD (i64.wrap (H-1)).toNat aA.zero).aB).name).toList (((O.getD H.toNat aA.zero).aB).name).toList))then some (.inr (.inr false))else some (.inl (i64.wrap (H+1))))else some (.inr (.inl ())))
def Bi(H:List aA):Option Bool:=(if decide (8<(H.length:Int))then some false else(mF (LB H) 0).bind (λ|.inl z=>U1 z|.inr z=>some z))
abbrev bP0 a0:=mkJ (Bi a0) 0 (@U1.eq_1) λ j1=>⟨[],[],0⟩
abbrev bP1 (H:List aA):=mkL x (@LB.eq_1 H) λ O=>⟨[(0,la H),(3,.int i64 O)],[],0⟩
attribute[instance]bP0 bP1
instance bP2(H:List aA):OkP (Bi H) 110 [la H] .bool:=ok1 (Bi.eq_1 H) f110 []
attribute [local irreducible] Bi
def zB(H:List aA):Option Bool:=(Bi H).bind λ v1=>(if v1 then p9 H else some []).bind λ v2=>some (v1&&decide ((v2.length:Int)<=8))
instance bP3(H:List aA):OkP (zB H) 90 [la H] .bool:=ok1 (zB.eq_1 H) f90 []
attribute [local irreducible] zB
def wB(H:bP):Option Bool:=(Ba H.bU).bind λ v1=>some ((((v1&&decide (0<=H.bE))&&decide (H.bE<=7))&&decide (0<=H.limit))&&decide (H.limit<=1000))
instance bP4(H:bP):OkP (wB H) 99 [ga H] .bool:=ok1 (wB.eq_1 H) f99 []
attribute [local irreducible] wB
def U2(j1:(List Bool)):Option (List Bool):=some j1
def LC(O:List aA)(U:aK)(v1:(List aO))(H:Int×(List Bool)):Option ((Int×(List Bool))⊕(List Bool)):=(if decide (H.1<v1.length)then gd (0<=H.1/\H.1<v1.length)<|(sY O (v1.getD H.1.toNat aO.zero).name).bind λ v2=>(if decide (0<=v2)then gd (0<=v2/\v2<O.length)<|gd (0<=v2/\v2<O.length)<|(sF (O.getD v2.toNat aA.zero) U).bind λ v3=>gd (0<=H.1/\H.1<v1.length)<|gd (0<=H.1/\H.1<((H.2.length:Nat):Int))<|some (.inl (i64.wrap (H.1+1),H.2.set H.1.toNat (sG (O.getD v2.toNat aA.zero).aB v3 (v1.getD H.1.toNat aO.zero).aI)))else some (.inl (i64.wrap (H.1+1),H.2)))else some (.inr H.2))
def t7(H:List aA)(O:aK)(U:aR):Option (List Bool):=(wA U).bind λ v1=>gd (0<=(v1.length:Int)/\(v1.length:Int)<=(v1.length:Int)/\(v1.length:Int)<=4294967296)<|(mF (LC H O v1) (0,List.replicate (v1.length:Int).toNat false)).bind (λ z=>U2 z)
abbrev bP7 a0 a1 a2:=mkJ (t7 a0 a1 a2,v1) 0 (@U2.eq_1) λ j1=>⟨[(8,.own 0 0 j1.length)],[(0,⟨false,1,[A.bool false],j1.map eB⟩)],1⟩
abbrev bP8 (O:List aA) (U:aK) (v1:(List aO)):=mkL x (@LC.eq_1 O U v1) λ H=>⟨[(0,la O),(4,.ptr 0 0 0),(7,la v1),(8,.own 1 0 H.2.length),(9,.int i64 H.1)],[(0,bx U),(1,⟨false,1,[A.bool false],H.2.map eB⟩)],2⟩
attribute[instance]bP7 bP8
instance bP9(H:List aA)(O:aK)(U:aR):OkP (t7 H O U) 145 [la H,ga O,ga U] (λ r=>.sl (r.map eB)):=ok1 (t7.eq_1 H O U) f145 []
attribute [local irreducible] t7
def U3(H:Unit):Option Bool:=some true
def Fw(O:bF)(B:aG)(U:(List aO))(H:Int):Option (Int⊕(Unit⊕Bool)):=(if decide (H<O.aF.length)then gd (0<=H/\H<O.aF.length)<|(C2 (O.aF.getD H.toNat aA.zero) B U).bind λ Y=>(if !Y then some (.inr (.inr false))else some (.inl (i64.wrap (H+1))))else some (.inr (.inl ())))
def Il(O:bF)(H:aG)(v2:(List aO))(j1:Unit):Option Bool:=(if !H.bJ then(EH H.bK ({bP.zero with})).bind λ v3=>(if v3&&decide (H.since=0)then CC O.aF H.aM else some []).bind λ v4=>(if v3&&decide (H.since=0)then yL v2 v4 else some false).bind λ v5=>(if (v3&&decide (H.since=0))&&v5 then CF O.aF H.aM else some []).bind λ v6=>some (((v3&&decide (H.since=0))&&v5)&&decide ((v6.length:Int)=0))else(wB H.bK).bind λ U=>(if U then AK O.aF else some []).bind λ M=>(if U then Bb M H.bK.bU else some 0).bind λ Y=>(if !(((((!U)||(!decide (Y=0)))||decide (H.since<0))||decide (O.now<H.since))||((!decide (H.bK.limit=0))&&decide (i64.wrap (H.since+H.bK.limit)<=O.now)))then t7 O.aF H.aM H.bK.bU else some []).bind λ B=>(if !(((((!U)||(!decide (Y=0)))||decide (H.since<0))||decide (O.now<H.since))||((!decide (H.bK.limit=0))&&decide (i64.wrap (H.since+H.bK.limit)<=O.now)))then Bc H.bK.bU B else some false).bind λ v11=>(if (((((!U)||(!decide (Y=0)))||decide (H.since<0))||decide (O.now<H.since))||((!decide (H.bK.limit=0))&&decide (i64.wrap (H.since+H.bK.limit)<=O.now)))||v11 then some false else(wA H.bK.bU).bind λ F=>(mF (Fw O H F) 0).bind (λ|.inl z=>U3 z|.inr z=>some z)))
def Fx(U:bF)(v2:(List aO))(O:Int):Option (Int⊕(Unit⊕Bool)):=(if decide (O<v2.length)then gd (0<=O/\O<v2.length)<|(sY U.aF (v2.getD O.toNat aO.zero).name).bind λ H=>gd ((!(decide (H<0)))=true->0<=H/\H<U.aF.length)<|gd ((!(decide (H<0)))=true->0<=O/\O<v2.length)<|(if decide (H<0)||(!(qW (U.aF.getD H.toNat aA.zero).aB (v2.getD O.toNat aO.zero).aI))then some (.inr (.inr false))else some (.inl (i64.wrap (O+1))))else some (.inr (.inl ())))
def Bj(O:bF)(H:aG):Option Bool:=(if !(((!(pJ H.aM))||decide (H.cost<1))||decide (1000<H.cost))then uZ H.bH else some false).bind λ v1=>(if (((((!(pJ H.aM))||decide (H.cost<1))||decide (1000<H.cost))||(!v1))||decide (H.gen<0))||decide (1073741824<H.gen)then some false else(Cn H.bH).bind λ v2=>(mF (Fx O v2) 0).bind (λ|.inl z=>Il O H v2 z|.inr z=>some z))
abbrev bPc a0 a1 v2 j1:=mkJ ((((((Il a0 a1 v2 j1,v1),v2),v3),v4),v5),v6) 2 (@U3.eq_1) λ H=>⟨[],[],0⟩
abbrev bPd (O:bF) (U:aG) (H:(List aO)):=mkL x (@Fw.eq_1 O U H) λ Y=>⟨[(2,.ptr 0 0 0),(3,.ptr 1 0 0),(9,la H),(10,.int i64 Y)],[(0,bx O),(1,bx U)],2⟩
abbrev bPe (H:bF) (O:aG) (v2:(List aO)):=mkJ ((Bj H O,v1),v2) 0 (@Il.eq_1 H O v2) λ j1=>⟨[(2,.ptr 0 0 0),(3,.ptr 1 0 0),(5,la v2)],[(0,bx H),(1,bx O)],2⟩
abbrev bPf (H:bF) (O:aG) (v2:(List aO)):=mkL ((Bj H O,v1),v2) (@Fx.eq_1 H v2) λ U=>⟨[(2,.ptr 0 0 0),(3,.ptr 1 0 0),(5,la v2),(6,.int i64 U)],[(0,bx H),(1,bx O)],2⟩
attribute[instance]bPc bPd bPe bPf
instance bPg(H:bF)(O:aG):OkP (Bj H O) 93 [ga H,ga O] .bool:=ok1 (Bj.eq_1 H O) f93 []
attribute [local irreducible] Bj
def U4(H:Unit):Option Bool:=some true
def Fy(O:bF)(H:Int):Option (Int⊕(Unit⊕Bool)):=(if decide (H<O.aD.length)then gd (0<=H/\H<O.aD.length)<|(Bj O (O.aD.getD H.toNat aG.zero)).bind λ v3=>gd ((v3&&decide (0<H))=true->0<=i64.wrap (H-1)/\i64.wrap (H-1)<(O.aD.length:Int))<|gd ((v3&&decide (0<H))=true->0<=H/\H<O.aD.length)<|(if (!v3)||(decide (0<H)&&decide (0<=vW (O.aD.getD (i64.wrap (H-1)).toNat aG.zero).aM (O.aD.getD H.toNat aG.zero).aM))then some (.inr (.inr false))else some (.inl (i64.wrap (H+1))))else some (.inr (.inl ())))
def Im(H:bF)(j1:Unit):Option Bool:=(mF (Fy H) 0).bind (λ|.inl z=>U4 z|.inr z=>some z)
def Fz(O:bF)(v2:(List aK))(H:Int):Option (Int⊕(Unit⊕Bool)):=(if decide (H<v2.length)then gd (0<=H/\H<v2.length)<|(yN O.aD (v2.getD H.toNat aK.zero)).bind λ v4=>(if decide (v4<0)then some (.inr (.inr false))else some (.inl (i64.wrap (H+1))))else some (.inr (.inl ())))
def Bl(H:bF):Option Bool:=(if !(decide (H.now<0)||decide (1073741824<H.now))then zB H.aF else some false).bind λ v1=>(if ((decide (H.now<0)||decide (1073741824<H.now))||(!v1))||decide (8<(H.aD.length:Int))then some false else(p9 H.aF).bind λ v2=>(mF (Fz H v2) 0).bind (λ|.inl z=>Im H z|.inr z=>some z))
abbrev bPl a0 j1:=mkJ (Im a0 j1) 2 (@U4.eq_1) λ H=>⟨[],[],0⟩
abbrev bPm (H:bF):=mkL x (@Fy.eq_1 H) λ O=>⟨[(1,.ptr 0 0 0),(5,.int i64 O)],[(0,bx H)],1⟩
abbrev bPn (H:bF):=mkJ ((Bl H,v1),v2) 0 (@Im.eq_1 H) λ j1=>⟨[(1,.ptr 0 0 0)],[(0,bx H)],1⟩
abbrev bPo (H:bF) (v2:(List aK)):=mkL x (@Fz.eq_1 H v2) λ O=>⟨[(1,.ptr 0 0 0),(3,la v2),(4,.int i64 O)],[(0,bx H)],1⟩
attribute[instance]bPl bPm bPn bPo
instance U5(H:bF):OkP (Bl H) 46 [ga H] .bool:=ok1 (Bl.eq_1 H) f46 []
attribute [local irreducible] Bl
def U6(j1:aA×(List bA)):Option (aA×(List bA)):=some (j1.1,j1.2)
def In(H:aA×(List bA))(v4:aV×Bool)(O:aA):Option ((aA×(List bA))⊕(aA×(List bA))):=(yU O.aS v4.1.aM v4.1.aI).bind λ v5=>gd (H.2.length+1<=4294967296)<|some (.inl ({O with aS:=v5},H.2++[(⟨v4.1.aM,v4.1.aI⟩:bA)]))
def FA(H:aA×(List bA)):Option ((aA×(List bA))⊕(aA×(List bA))):=(C5 H.1).bind λ v3=>(if !v3 then(Eo H.1).bind λ v4=>(if decide (0<(H.1.aN.length:Int))then gd (0<=1/\1<=(H.1.aN.length:Int)/\(H.1.aN.length:Int)<=(H.1.aN.length:Int))<|In H v4 ({H.1 with aN:=(H.1.aN.drop 1)})else gd (0<=1/\1<=(H.1.aW.length:Int)/\(H.1.aW.length:Int)<=(H.1.aW.length:Int))<|In H v4 ({H.1 with aW:=(H.1.aW.drop 1)}))else some (.inr (H.1,H.2)))
def C6(H:aA):Option (aA×(List bA)):=(s8 H).bind λ v1=>(if !v1 then some ({aA.zero with},[])else(m4 H).bind λ v2=>(mF FA (v2,[])).bind (λ z=>U6 z))
abbrev bPs a0:=mkJ ((C6 a0,v1),v2) 0 (@U6.eq_1) λ j1=>⟨[(1,.ptr 0 0 0),(2,.ptr 1 0 0),(4,.own 2 0 j1.2.length)],[(0,bx j1.1),(1,bx aA.zero),(2,sx j1.2)],3⟩
abbrev bPt (H:aA×(List bA)) (v4:aV×Bool):=mkJ ((FA H,v1),v4) 999 (@In.eq_1 H v4) λ O=>⟨[(1,.ptr 0 0 0),(2,.ptr 1 0 0),(4,.own 2 0 H.2.length),(5,.ptr 3 0 0)],[(0,bx O),(1,bx aA.zero),(2,sx H.2),(3,bx v4.1)],4⟩
abbrev bPu:=mkL x (@FA.eq_1) λ H=>⟨[(1,.ptr 0 0 0),(2,.ptr 1 0 0),(4,.own 2 0 H.2.length)],[(0,bx H.1),(1,bx aA.zero),(2,sx H.2)],3⟩
attribute[instance]bPs bPt bPu
instance bPv(H:aA):OkP (C6 H) 245 [ga H] (λ r=>.tup [ga r.1,la r.2]):=ok1 (C6.eq_1 H) f245 [(4,1)]
attribute [local irreducible] C6
def zC(H:aA):Option (aA×(List bA)×Int):=(C6 H).bind λ v1=>some ({v1.1 with gen:=(pC H.gen)},v1.2,0)
instance U7(H:aA):OkP (zC H) 211 [ga H] (λ r=>.tup [ga r.1,la r.2.1,.int i64 r.2.2]):=ok1 (zC.eq_1 H) f211 []
attribute [local irreducible] zC
def FB(H:aA)(O:aK):Option (aA×(List bA)×Int):=(zA H).bind λ v1=>(if !v1 then some ({aA.zero with},[],2)else(uR H O).bind λ v2=>(if !v2.2 then some ({aA.zero with},[],10)else(m4 H).bind λ v3=>(yM v3.aN O).bind λ v4=>(yM ({v3 with aN:=v4.1}).aW O).bind λ v5=>(zC ({{v3 with aN:=v4.1}with aW:=v5.1})).bind λ v6=>some (v6.1,v6.2.1,v6.2.2)))
instance bPx(H:aA)(O:aK):OkP (FB H O) 280 [ga H,ga O] (λ r=>.tup [ga r.1,la r.2.1,.int i64 r.2.2]):=ok1 (FB.eq_1 H O) f280 []
attribute [local irreducible] FB
def FC(H:List aA)(U:aK)(O:ByteArray):Option ((List aA)×(List bN)×Int):=(zB H).bind λ v1=>(if !v1 then some ([],[],2)else(sY H O).bind λ v2=>(if decide (v2<0)then some ([],[],10)else gd (0<=v2/\v2<H.length)<|(FB (H.getD v2.toNat aA.zero) U).bind λ v3=>(if !decide (v3.2.2=0)then some ([],[],v3.2.2)else(yP H v2 v3.1).bind λ v4=>(vS O v3.2.1).bind λ v5=>some (v4,v5,0))))
instance bPy(H:List aA)(O:aK)(U:ByteArray):OkP (FC H O U) 263 [la H,ga O,.str U] (λ r=>.tup [la r.1,la r.2.1,.int i64 r.2.2]):=ok1 (FC.eq_1 H O U) f263 []
attribute [local irreducible] FC
def FD(H:aA)(O:aK)(U:aC):Option (aA×(List bA)×Int):=(zA H).bind λ v1=>(if !v1 then some ({aA.zero with},[],2)else(sF H O).bind λ v2=>(if oG v2 then some ({aA.zero with},[],10)else(uR H O).bind λ v3=>(if v3.2 then some ({aA.zero with},[],14)else(if !(sG H.aB v2 U)then some ({aA.zero with},[],12)else(m4 H).bind λ v4=>(if decide (v2=U)then some (v4,[],0)else(yU v4.aS O U).bind λ v5=>(zC ({v4 with aS:=v5})).bind λ v6=>some (v6.1,v6.2.1,v6.2.2))))))
instance bPz(H:aA)(O:aK)(U:aC):OkP (FD H O U) 264 [ga H,ga O,ga U] (λ r=>.tup [ga r.1,la r.2.1,.int i64 r.2.2]):=ok1 (FD.eq_1 H O U) f264 []
attribute [local irreducible] FD
def FE(H:List aA)(O:aO)(v2:Int)(v4:aA×(List bA)×Int)(j1:(List bN)):Option ((List aA)×(List bN)×Int):=(yP H v2 v4.1).bind λ v5=>(vS O.name v4.2.1).bind λ v6=>gd (j1.length+v6.length<=4294967296)<|some (v5,j1++v6,0)
@[go_sem] def bQ1(H:List aA)(O:aO)(v2:Int)(v4:aA×(List bA)×Int)(j1:(List bN)):St:=⟨[(0,la H),(5,.ptr 0 0 0),(9,.int i64 v2),(11,.ptr 1 0 0),(12,la v4.2.1),(14,.own 2 0 j1.length)],[(0,bx O),(1,bx v4.1),(2,sx j1)],3⟩
def t8(H:List aA)(U:aK)(O:aO):Option ((List aA)×(List bN)×Int):=(zB H).bind λ v1=>(if !v1 then some ([],[],2)else(sY H O.name).bind λ v2=>(if decide (v2<0)then some ([],[],10)else gd (0<=v2/\v2<H.length)<|(sF (H.getD v2.toNat aA.zero) U).bind λ v3=>gd (0<=v2/\v2<H.length)<|(FD (H.getD v2.toNat aA.zero) U O.aI).bind λ v4=>(if !decide (v4.2.2=0)then some ([],[],v4.2.2)else(if !decide (v3=O.aI)then gd (1<=4294967296)<|FE H O v2 v4 [(⟨3,U,O.name,O.aI⟩:bN)] else FE H O v2 v4 []))))
def U8(H:List aA)(U:aK)(O:aO)(r:(List aA)×(List bN)×Int)(h:t8 H U O=some r):PFn C 236 [la H,ga U,ga O] (.tup [la r.1,la r.2.1,.int i64 r.2.2]):=by
 refine oT f236 [(14,1)] λ E hG hN hK=>?_;unfold t8 at h;refine zq ?_;refine mD (zq ?_);obtain⟨v1,Y,h⟩:=mG h;refine nK (λ hg=>(bP3 H).ok _ Y) ?_;refine mJ rfl hG h (λ _ h=>?_) (λ _ h=>?_)
 · refine zq ?_
   refine mO ?_;exact nU h
 refine mN ?_;refine zq ?_;obtain⟨v2,hv2,h⟩:=mG h;refine nK (λ hg=>(Tl H O.name).ok _ hv2) ?_;refine mD (zq ?_);refine mJ rfl hG h (λ _ h=>?_) (λ _ h=>?_)
 · refine zq ?_
   refine mO ?_;exact nU h
 refine mN ?_;refine mD ?_;obtain⟨F,h⟩:=mM h;refine qJ oS hG ?_;obtain⟨v3,hv3,h⟩:=mG h;refine sK (λ hg=>(Oo (H.getD v2.toNat aA.zero) U).ok _ hv3) ?_;refine mD ?_;obtain⟨M,h⟩:=mM h;refine qJ oS hG ?_;obtain⟨v4,hv4,h⟩:=mG h;refine sK (λ hg=>(bPz (H.getD v2.toNat aA.zero) U O.aI).ok _ hv4) ?_;refine mD (zq ?_);refine mJ rfl hG h (λ _ h=>?_) (λ _ h=>?_)
 · refine zq ?_
   refine mO ?_;exact nU h
 refine mN ?_;refine zq ?_;refine mD (zq ?_);refine rV (bQ1 H O v2 v4) (λ v=>FE H O v2 v4 v=some r) rfl hG h ?_ (λ _ h=>?_) (λ _ h=>?_)
 · intro j1 h
   unfold FE at h;refine g_st ?_;refine mD (qJ oS hG ?_);obtain⟨v5,hv5,h⟩:=mG h;refine sK (λ hg=>(aYx H v2 v4.1).ok _ hv5) ?_;obtain⟨v6,B,h⟩:=mG h;obtain⟨h0,h⟩:=mM h;refine sK (λ hg=>(aWb O.name v4.2.1).ok _ B) ?_;refine mO ?_;exact nU h
 · obtain⟨x0,h⟩:=mM h
   refine mE hG ?_;exact nA hK [(0,1),(1,3),(2,5)] [(⟨3,U,O.name,O.aI⟩:bN)] (by exact h)
 refine mN ?_;exact nA hK [(0,1),(1,3),(2,4)] [] (by exact h)
instance bQ3(H:List aA)(O:aK)(U:aO):OkP (t8 H O U) 236 [la H,ga O,ga U] (λ r=>.tup [la r.1,la r.2.1,.int i64 r.2.2]):=⟨U8 H O U⟩
attribute [local irreducible] t8
def U9(H:bD)(j1:Unit):Option (Int×Int×(List aA)×(List aG)×(List bN)):=some ((-1),H.c.now,H.c.aF,H.c.aD,H.ev)
def LD(H:bD)(O:Int):Option (Int⊕(Unit⊕(Int×Int×(List aA)×(List aG)×(List bN)))):=(if decide (O<((H.c.aD.length:Nat):Int))then gd (0<=O/\O<((H.c.aD.length:Nat):Int))<|(if (H.c.aD.getD O.toNat aG.zero).bJ then t7 H.c.aF (H.c.aD.getD O.toNat aG.zero).aM (((H.c.aD.getD O.toNat aG.zero).bK).bU)else some []).bind λ v1=>(if (H.c.aD.getD O.toNat aG.zero).bJ then Bc ((H.c.aD.getD O.toNat aG.zero).bK).bU v1 else some false).bind λ v2=>(if (H.c.aD.getD O.toNat aG.zero).bJ&&v2 then some (.inr (.inr (O,H.c.now,H.c.aF,H.c.aD,H.ev)))else some (.inl (i64.wrap (O+1))))else some (.inr (.inl ())))
def zD(H:bD):Option (Int×Int×(List aA)×(List aG)×(List bN)):=(mF (LD H) 0).bind (λ|.inl z=>U9 H z|.inr z=>some z)
abbrev bQ5 (H:bD):=mkJ (zD H) 0 (@U9.eq_1 H) λ j1=>⟨[],[(0,⟨false,4,bD.enc bD.zero,[[.int i64 H.c.now,la H.c.aF,.own 1 0 H.c.aD.length,.own 2 0 H.ev.length]]⟩),(1,sx H.c.aD),(2,sx H.ev)],3⟩
abbrev bQ6 (H:bD):=mkL x (@LD.eq_1 H) λ O=>⟨[(0,.ptr 0 0 0),(3,.int i64 O)],[(0,⟨false,4,bD.enc bD.zero,[[.int i64 H.c.now,la H.c.aF,.own 1 0 H.c.aD.length,.own 2 0 H.ev.length]]⟩),(1,sx H.c.aD),(2,sx H.ev)],3⟩
attribute[instance]bQ5 bQ6
instance bQ7(H:bD):OkM (zD H) 233 [.ptr 0 0 0] [(0,⟨false,4,bD.enc bD.zero,[[.int i64 H.c.now,la H.c.aF,.own 1 0 H.c.aD.length,.own 2 0 H.ev.length]]⟩),(1,sx H.c.aD),(2,sx H.ev)] 3 (λ r=>.int i64 r.1) (λ r=>[(0,⟨false,4,bD.enc bD.zero,[[.int i64 r.2.1,la r.2.2.1,.own 1 0 r.2.2.2.1.length,.own 2 0 r.2.2.2.2.length]]⟩),(1,sx r.2.2.2.1),(2,sx r.2.2.2.2)]) 3:=okm (zD.eq_1 H) (λ r=>[.int i64 r.1]) f233 []
attribute [local irreducible] zD
def u6 (O:aA) (H:aK) (U:aC) (Y:Int):Option (aA×(List bA)×Int):=(zA O).bind λ v1=>(if !v1 then some ({aA.zero with},[],2)else(if ((!(pJ H))||decide (Y<0))||decide (7<Y)then some ({aA.zero with},[],1)else(if !(qW O.aB U)then some ({aA.zero with},[],12)else(uR O H).bind λ v2=>(if v2.2 then some ({aA.zero with},[],14)else(Es O).bind λ v3=>(sF v3 H).bind λ v4=>(if sG v3.aB v4 U then some (v3,[],0)else(if !(oG v4)then(CT v3.aB v4 U).bind λ v5=>gd (v3.aN.length+1<=4294967296)<|(zC (⟨(⟨v3.aB.name,v3.aB.kind,v3.aB.aU,v3.aB.home⟩:aJ),v3.aS,v3.aN++[{aV.zero with aM:=H,aI:=v5}],v3.aW,v3.gen⟩:aA)).bind λ v6=>some (v6.1,v6.2.1,v6.2.2)else(if decide (8<=i64.wrap ((v3.aS.length:Int)+(v3.aW.length:Int)))then some ({aA.zero with},[],4)else(CY v3.aW ({aV.zero with aM:=H,aI:=U,bE:=Y})).bind λ B=>(if !decide (B.2.2=0)then some ({aA.zero with},[],B.2.2)else(zC (⟨(⟨v3.aB.name,v3.aB.kind,v3.aB.aU,v3.aB.home⟩:aJ),v3.aS,v3.aN,B.1,v3.gen⟩:aA)).bind λ F=>some (F.1,F.2.1,F.2.2)))))))))
instance bQ8(M:aA)(U:aK)(Y:aC)(a3:Int):OkP (u6 M U Y a3) 260 [ga M,ga U,ga Y,.int i64 a3] (λ r=>.tup [ga r.1,la r.2.1,.int i64 r.2.2]):=⟨λ r h=>by
 refine oT f260 [(48,1)] λ E hG hN hK=>?_;have hm:Mk (u6 M U Y a3):=trivial;unfold u6 at h;refine zq ?_;refine mD (zq ?_);obtain⟨v1,h0,h⟩:=mG h;have hm:=mkP hm v1;refine nK (λ hg=>(bOx M).ok _ h0) ?_;refine mJ rfl hG h (λ _ h=>?_) (λ _ h=>?_)
 .exact gogo
 refine mN ?_;refine mD (zq ?_);refine nK (λ hg=>(aVw U).ok) ?_;refine mJ rfl hG h (λ _ h=>?_) (λ _ h=>?_)
 .exact gogo
 refine mN ?_;refine mD (zq ?_);refine nK (λ hg=>(bAp M.aB Y).ok) ?_;refine mJ rfl hG h (λ _ h=>?_) (λ _ h=>?_)
 .exact gogo
 refine mN ?_;refine mD (zq ?_);obtain⟨v2,hv2,h⟩:=mG h;have hm:=mkP hm v2;refine nK (λ hg=>(aZm M U).ok _ hv2) ?_;refine zq ?_;refine mJ rfl hG h (λ _ h=>?_) (λ _ h=>?_)
 .exact gogo
 refine mN ?_;refine zq ?_;obtain⟨v3,hv3,h⟩:=mG h;have hm:=mkP hm v3;refine mU [] [(0,5),(1,6),(2,7)] [0,1,2] (aWe _ _ hv3) rfl rfl ?_;refine g_gh (.fz [5,7]) ?_;refine zq ?_;obtain⟨v4,hv4,h⟩:=mG h;have hm:=mkP hm v4;refine nK (λ hg=>(Oo v3 U).ok _ hv4) ?_;refine mD (zq ?_);refine nK (λ hg=>(bFw v3.aB v4 Y).ok) ?_;refine mJ rfl hG h (λ _ h=>?_) (λ _ h=>?_)
 .exact gogo
 refine mN ?_;refine mD (zq ?_);refine nK (λ hg=>(aVx v4).ok) ?_;refine mJ rfl hG h (λ _ h=>?_) (λ _ h=>?_)
 · refine mD (qJ oS hG ?_)
   obtain⟨v5,hv5,h⟩:=mG h;have hm:=mkP hm v5;obtain⟨u0,h⟩:=mM h;refine sK (λ hg=>(bJe v3.aB v4 Y).ok _ hv5) ?_;refine zq ?_;obtain⟨v6,x0,h⟩:=mG h;have hm:=mkP hm v6;have H:=(U7 (⟨(⟨v3.aB.name,v3.aB.kind,v3.aB.aU,v3.aB.home⟩:aJ),v3.aS,(v3.aN++[{aV.zero with aM:=U,aI:=v5}]),v3.aW,v3.gen⟩:aA)).ok _ x0;have B:∀x:aA,aA.enc x=[A.str x.aB.name,A.int i64 x.aB.kind,A.int i64 x.aB.aU,A.int i64 x.aB.home,A.sl (x.aS.map bA.enc),A.sl (x.aN.map aV.enc),A.sl (x.aW.map aV.enc),A.int i64 x.gen]:=λ x=>rfl
   try dsimp only[ga,la,En.e]at H
   rw[B]at H;dsimp only at H;refine nK (λ hg=>by exact H) ?_;exact gogo
 refine mN ?_;refine mD (zq ?_);refine mJ rfl hG h (λ _ h=>?_) (λ _ h=>?_)
 .exact gogo
 refine mN ?_;refine zq ?_;obtain⟨v7,y0,h⟩:=mG h;have hm:=mkP hm v7;refine nK (λ hg=>(bKg v3.aW ({aV.zero with aM:=U,aI:=Y,bE:=a3})).ok _ y0) ?_;refine mD (zq ?_);refine mJ rfl hG h (λ _ h=>?_) (λ _ h=>?_)
 .exact gogo
 refine mN ?_;refine zq ?_;refine zq ?_;obtain⟨v8,z0,h⟩:=mG h;have hm:=mkP hm v8;have O:=(U7 (⟨(⟨v3.aB.name,v3.aB.kind,v3.aB.aU,v3.aB.home⟩:aJ),v3.aS,v3.aN,v7.1,v3.gen⟩:aA)).ok _ z0;have F:∀x:aA,aA.enc x=[A.str x.aB.name,A.int i64 x.aB.kind,A.int i64 x.aB.aU,A.int i64 x.aB.home,A.sl (x.aS.map bA.enc),A.sl (x.aN.map aV.enc),A.sl (x.aW.map aV.enc),A.int i64 x.gen]:=λ x=>rfl
 try dsimp only[ga,la,En.e]at O
 rw[F]at O;dsimp only at O;refine nK (λ hg=>by exact O) ?_;exact gogo⟩
attribute [local irreducible] u6
def FF(H:List aA)(U:aK)(O:aO)(Y:Int):Option ((List aA)×(List bN)×Int):=(zB H).bind λ v1=>(if !v1 then some ([],[],2)else(sY H O.name).bind λ v2=>(if decide (v2<0)then some ([],[],10)else(p9 H).bind λ v3=>(if decide ((v3.length:Int)=8)then l7 v3 U else some false).bind λ v4=>(if decide ((v3.length:Int)=8)&&(!v4)then some ([],[],4)else gd (0<=v2/\v2<H.length)<|(u6 (H.getD v2.toNat aA.zero) U O.aI Y).bind λ v5=>(if !decide (v5.2.2=0)then some ([],[],v5.2.2)else(yP H v2 v5.1).bind λ v6=>(vS O.name v5.2.1).bind λ B=>some (v6,B,0)))))
instance bQ9(H:List aA)(O:aK)(U:aO)(Y:Int):OkP (FF H O U Y) 228 [la H,ga O,ga U,.int i64 Y] (λ r=>.tup [la r.1,la r.2.1,.int i64 r.2.2]):=ok1 (FF.eq_1 H O U Y) f228 []
attribute [local irreducible] FF
def C7(O:aA)(H:aK):Option (aA×(List bA)×Int):=(zA O).bind λ v1=>(if !v1 then some ({aA.zero with},[],2)else(AU O H).bind λ v2=>(if !v2 then some ({aA.zero with},[],10)else(m4 O).bind λ v3=>(yU v3.aS H ({aC.zero with})).bind λ v4=>(yM ({v3 with aS:=v4}).aN H).bind λ v5=>(yM ({{v3 with aS:=v4}with aN:=v5.1}).aW H).bind λ v6=>(zC ({{{v3 with aS:=v4}with aN:=v5.1}with aW:=v6.1})).bind λ U=>some (U.1,U.2.1,U.2.2)))
instance bQa(H:aA)(O:aK):OkP (C7 H O) 151 [ga H,ga O] (λ r=>.tup [ga r.1,la r.2.1,.int i64 r.2.2]):=ok1 (C7.eq_1 H O) f151 []
attribute [local irreducible] C7
def Va(j1:(List aA)×(List bN)):Option ((List aA)×(List bN)):=some (j1.1,j1.2)
def Io(U:aK)(H:Int×(List aA)×(List bN))(O:(List bN)):Option ((Int×(List aA)×(List bN))⊕((List aA)×(List bN))):=gd (0<=H.1/\H.1<((H.2.1.length:Nat):Int))<|(C7 (H.2.1.getD H.1.toNat aA.zero) U).bind λ v4=>gd (0<=H.1/\H.1<((H.2.1.length:Nat):Int))<|(vS v4.1.aB.name v4.2.1).bind λ v5=>gd (O.length+v5.length<=4294967296)<|some (.inl (i64.wrap (H.1+1),H.2.1.set H.1.toNat v4.1,O++v5))
def Ip(O:aK)(H:Int×(List aA)×(List bN)):Option ((Int×(List aA)×(List bN))⊕((List aA)×(List bN))):=(if decide (H.1<((H.2.1.length:Nat):Int))then gd (0<=H.1/\H.1<((H.2.1.length:Nat):Int))<|(AU (H.2.1.getD H.1.toNat aA.zero) O).bind λ v2=>(if !v2 then some (.inl (i64.wrap (H.1+1),H.2.1,H.2.2))else gd (0<=H.1/\H.1<((H.2.1.length:Nat):Int))<|(sF (H.2.1.getD H.1.toNat aA.zero) O).bind λ v3=>(if !(oG v3)then gd (0<=H.1/\H.1<((H.2.1.length:Nat):Int))<|gd (H.2.2.length+1<=4294967296)<|Io O H (H.2.2++[{bN.zero with kind:=3,aM:=O,name:=((H.2.1.getD H.1.toNat aA.zero).aB).name}])else Io O H H.2.2))else some (.inr (H.2.1,H.2.2)))
def C8(H:List aA)(O:aK):Option ((List aA)×(List bN)):=(zB H).bind λ v1=>(if !v1 then some ([],[])else gd (H.length<=4294967296)<|(mF (Ip O) (0,H,[])).bind (λ z=>Va z))
abbrev bQe a0 a1:=mkJ (C8 a0 a1,v1) 0 (@Va.eq_1) λ j1=>⟨[(6,.own 0 0 j1.1.length),(7,.own 1 0 j1.2.length)],[(0,sx j1.1),(1,sx j1.2)],2⟩
abbrev bQf (O:aK) (H:Int×(List aA)×(List bN)):=mkJ ((Ip O H,v1),v2) 999 (@Io.eq_1 O H) λ U=>⟨[(3,.ptr 0 0 0),(6,.own 1 0 H.2.1.length),(7,.own 2 0 U.length),(8,.int i64 H.1)],[(0,bx O),(1,sx H.2.1),(2,sx U)],3⟩
abbrev bQg (O:aK):=mkL x (@Ip.eq_1 O) λ H=>⟨[(3,.ptr 0 0 0),(6,.own 1 0 H.2.1.length),(7,.own 2 0 H.2.2.length),(8,.int i64 H.1)],[(0,bx O),(1,sx H.2.1),(2,sx H.2.2)],3⟩
attribute[instance]bQe bQf bQg
instance bQh(H:List aA)(O:aK):OkP (C8 H O) 238 [la H,ga O] (λ r=>.tup [la r.1,la r.2]):=ok1 (C8.eq_1 H O) f238 [(15,1),(7,1)]
attribute [local irreducible] C8
def OX(H:aH)(j1:Unit):Option Bool:=(t6 H).bind λ v2=>some (decide ((v2.length:Int)<=8))
def LE(O:aH)(H:Int):Option (Int⊕(Unit⊕Bool)):=(if decide (H<O.aY.length)then gd (0<=H/\H<O.aY.length)<|(if pJ ((O.aY.getD H.toNat bR.zero).aM)then Ba ((O.aY.getD H.toNat bR.zero).bU)else some false).bind λ v3=>gd (((!((((!(pJ (O.aY.getD H.toNat bR.zero).aM))||(!v3))||decide ((O.aY.getD H.toNat bR.zero).gen<0))||decide (1073741824<(O.aY.getD H.toNat bR.zero).gen)))&&decide (0<H))=true->0<=i64.wrap (H-1)/\i64.wrap (H-1)<(O.aY.length:Int))<|(if ((((!(pJ (O.aY.getD H.toNat bR.zero).aM))||(!v3))||decide ((O.aY.getD H.toNat bR.zero).gen<0))||decide (1073741824<(O.aY.getD H.toNat bR.zero).gen))||(decide (0<H)&&decide (0<=vW (O.aY.getD (i64.wrap (H-1)).toNat bR.zero).aM (O.aY.getD H.toNat bR.zero).aM))then some (.inr (.inr false))else some (.inl (i64.wrap (H+1))))else some (.inr (.inl ())))
def wC(H:aH):Option Bool:=(Bi H.aF).bind λ v1=>(if (!v1)||decide (8<(H.aY.length:Int))then some false else(mF (LE H) 0).bind (λ|.inl z=>OX H z|.inr z=>some z))
abbrev bQk (H:aH):=mkJ (wC H,v1) 0 (@OX.eq_1 H) λ j1=>⟨[(1,.ptr 0 0 0)],[(0,bx H)],1⟩
abbrev bQl (H:aH):=mkL x (@LE.eq_1 H) λ O=>⟨[(1,.ptr 0 0 0),(3,.int i64 O)],[(0,bx H)],1⟩
attribute[instance]bQk bQl
instance bQm(H:aH):OkP (wC H) 56 [ga H] .bool:=ok1 (wC.eq_1 H) f56 []
attribute [local irreducible] wC
def Vb(j1:(List Bool)):Option (List Bool):=some j1
def Iq(O:aH)(U:aK)(v3:(List aO))(H:Int×(List Bool)):Option ((Int×(List Bool))⊕(List Bool)):=(if decide (H.1<v3.length)then gd (0<=H.1/\H.1<v3.length)<|(EQ O U (v3.getD H.1.toNat aO.zero).name).bind λ v4=>gd (0<=H.1/\H.1<((H.2.length:Nat):Int))<|some (.inl (i64.wrap (H.1+1),H.2.set H.1.toNat (!v4)))else some (.inr H.2))
def C9(H:aH)(O:aK):Option (List Bool):=(j6 H O).bind λ v1=>(if v1.2 then wC H else some false).bind λ v2=>(if (!v1.2)||(!v2)then some [] else(wA v1.1.bU).bind λ v3=>gd (0<=(v3.length:Int)/\(v3.length:Int)<=(v3.length:Int)/\(v3.length:Int)<=4294967296)<|(mF (Iq H O v3) (0,List.replicate (v3.length:Int).toNat false)).bind (λ z=>Vb z))
abbrev bQp a0 a1:=mkJ (((C9 a0 a1,v1),v2),v3) 0 (@Vb.eq_1) λ j1=>⟨[(8,.own 0 0 j1.length)],[(0,⟨false,1,[A.bool false],j1.map eB⟩)],1⟩
abbrev bQq (O:aH) (U:aK) (v3:(List aO)):=mkL x (@Iq.eq_1 O U v3) λ H=>⟨[(2,.ptr 0 0 0),(3,.ptr 1 0 0),(7,la v3),(8,.own 2 0 H.2.length),(9,.int i64 H.1)],[(0,bx O),(1,bx U),(2,⟨false,1,[A.bool false],H.2.map eB⟩)],3⟩
attribute[instance]bQp bQq
instance bQr(H:aH)(O:aK):OkP (C9 H O) 207 [ga H,ga O] (λ r=>.sl (r.map eB)):=ok1 (C9.eq_1 H O) f207 []
attribute [local irreducible] C9
def Vc(H:aH):Option aH:=some H
def FG(O:aH)(U:aK)(H:Int×aH):Option ((Int×aH)⊕aH):=(if decide (H.1<O.aY.length)then gd (0<=H.1/\H.1<O.aY.length)<|(if !decide ((O.aY.getD H.1.toNat bR.zero).aM=U)then gd (0<=H.1/\H.1<O.aY.length)<|gd (H.2.aY.length+1<=4294967296)<|some (.inl (i64.wrap (H.1+1),(⟨H.2.aF,H.2.aY++[O.aY.getD H.1.toNat bR.zero]⟩:aH)))else some (.inl (i64.wrap (H.1+1),H.2)))else some (.inr H.2))
def LF(H:aH)(O:aK)(j1:aH):Option aH:=(mF (FG H O) (0,j1)).bind (λ z=>Vc z)
def FH(O:aH)(U:aK)(H:Int×aH):Option ((Int×aH)⊕aH):=(if decide (H.1<O.aF.length)then gd (0<=H.1/\H.1<O.aF.length)<|(AU (O.aF.getD H.1.toNat aA.zero) U).bind λ v1=>(if v1 then(C7 (O.aF.getD H.1.toNat aA.zero) U).bind λ v2=>gd (H.2.aF.length+1<=4294967296)<|some (.inl (i64.wrap (H.1+1),(⟨H.2.aF++[{v2.1 with gen:=(O.aF.getD H.1.toNat aA.zero).gen}],H.2.aY⟩:aH)))else gd (H.2.aF.length+1<=4294967296)<|some (.inl (i64.wrap (H.1+1),(⟨H.2.aF++[O.aF.getD H.1.toNat aA.zero],H.2.aY⟩:aH))))else some (.inr H.2))
def Bm(H:aH)(O:aK):Option aH:=(mF (FH H O) (0,(⟨[],[]⟩:aH))).bind (λ z=>LF H O z)
abbrev bQu (O:aH) (U:aK) (j1:aH):=mkJ (LF O U j1) 2 (@Vc.eq_1) λ H=>⟨[(4,.ptr 0 0 0),(5,.ptr 1 0 0)],[(0,bx aH.zero),(1,⟨false,2,aH.enc aH.zero,[[.own 2 0 H.aF.length,.own 3 0 H.aY.length]]⟩),(2,sx H.aF),(3,sx H.aY)],4⟩
abbrev bQv (O:aH) (U:aK):=mkL x (@FG.eq_1 O U) λ H=>⟨[(2,.ptr 0 0 0),(3,.ptr 1 0 0),(4,.ptr 2 0 0),(5,.ptr 3 0 0),(11,.int i64 H.1)],[(0,bx O),(1,bx U),(2,bx aH.zero),(3,⟨false,2,aH.enc aH.zero,[[.own 4 0 H.2.aF.length,.own 5 0 H.2.aY.length]]⟩),(4,sx H.2.aF),(5,sx H.2.aY)],6⟩
abbrev bQw (H:aH) (O:aK):=mkJ (Bm H O) 0 (@LF.eq_1 H O) λ j1=>⟨[(2,.ptr 0 0 0),(3,.ptr 1 0 0),(4,.ptr 2 0 0),(5,.ptr 3 0 0)],[(0,bx H),(1,bx O),(2,bx aH.zero),(3,⟨false,2,aH.enc aH.zero,[[.own 4 0 j1.aF.length,.own 5 0 j1.aY.length]]⟩),(4,sx j1.aF),(5,sx j1.aY)],6⟩
abbrev bQx (O:aH) (U:aK):=mkL x (@FH.eq_1 O U) λ H=>⟨[(2,.ptr 0 0 0),(3,.ptr 1 0 0),(4,.ptr 2 0 0),(5,.ptr 3 0 0),(6,.int i64 H.1)],[(0,bx O),(1,bx U),(2,bx aH.zero),(3,⟨false,2,aH.enc aH.zero,[[.own 4 0 H.2.aF.length,.own 5 0 H.2.aY.length]]⟩),(4,sx H.2.aF),(5,sx H.2.aY)],6⟩
attribute[instance]bQu bQv bQw bQx
instance bQy(H:aH)(O:aK):OkP (Bm H O) 96 [ga H,ga O] ga:=⟨λ r h=>by
 refine oT f96 [(5,5)] λ E hG U hK=>?_;have hm:Mk (Bm H O):=trivial;unfold Bm at h;refine zq ?_;refine zq ?_;refine g_gh (.ownb 3 0 8 (aA.enc aA.zero)) ?_;refine g_gh (.ownb 3 1 9 (bR.enc bR.zero)) ?_;exact gogo⟩
attribute [local irreducible] Bm
def Vd(H:aP):Option aP:=some H
def Ir(U:bB)(O:(List ByteArray))(H:Int×aP):Option ((Int×aP)⊕aP):=(if decide (H.1<O.length)then gd (0<=H.1/\H.1<O.length)<|(tX U.aQ (O.getD H.1.toNat ⟨#[]⟩)).bind λ v1=>gd (H.2.lower.length+1<=4294967296)<|some (.inl (i64.wrap (H.1+1),(⟨(⟨H.2.aM.site,H.2.aM.inc,H.2.aM.num⟩:aK),H.2.label,H.2.cost,H.2.lower++[(⟨O.getD H.1.toNat ⟨#[]⟩,v1⟩:aO)]⟩:aP)))else some (.inr H.2))
def FI(H:aG)(O:bB)(U:Int)(Y:(List ByteArray)):Option aP:=(mF (Ir O Y) (0,(⟨(⟨H.aM.site,H.aM.inc,H.aM.num⟩:aK),U,i64.wrap (H.cost*i64.wrap (i64.wrap ((H.bH.aQ.length:Int)-(O.aQ.length:Int))+1)),[]⟩:aP))).bind (λ z=>Vd z)
def Ve(H:aG)(O:bB)(U:Int)(Y:(List ByteArray)):Option aP:=FI H O U Y
def Is(v2:(List aO))(H:(List ByteArray)×Int):Option (((List ByteArray)×Int)⊕(List ByteArray)):=(if decide (H.2<v2.length)then gd (0<=H.2/\H.2<v2.length)<|(AL H.1 (v2.getD H.2.toNat aO.zero).name).bind λ v3=>some (.inl (v3,i64.wrap (H.2+1)))else some (.inr H.1))
def FJ(H:aG)(O:bB)(U:Int)(j1:(List ByteArray)):Option aP:=(if H.bJ then(wA H.bK.bU).bind λ v2=>(mF (Is v2) (j1,0)).bind (λ z=>Ve H O U z)else FI H O U j1)
def It(O:aG)(U:bB)(H:(List ByteArray)×Int):Option (((List ByteArray)×Int)⊕(List ByteArray)):=(if decide (H.2<((O.bH.aQ.drop (U.aQ.length:Int).toNat).length:Int))then gd (0<=H.2/\H.2<((O.bH.aQ.drop (U.aQ.length:Int).toNat).length:Int))<|(AL H.1 ((O.bH.aQ.drop (U.aQ.length:Int).toNat).getD H.2.toNat bO.zero).name).bind λ v4=>some (.inl (v4,i64.wrap (H.2+1)))else some (.inr H.1))
def xJ(H:aG)(O:bB)(U:Int):Option aP:=gd (0<=(O.aQ.length:Int)/\(O.aQ.length:Int)<=(H.bH.aQ.length:Int)/\(H.bH.aQ.length:Int)<=(H.bH.aQ.length:Int))<|(mF (It H O) ([],0)).bind (λ z=>FJ H O U z)
abbrev bR6 (O:aG) (U:bB) (Y:Int) (B:(List ByteArray)):=mkJ (FI O U Y B) 4 (@Vd.eq_1) λ H=>⟨[(6,.ptr 0 0 0),(12,.ptr 1 0 0)],[(0,bx aP.zero),(1,⟨false,6,aP.enc aP.zero,[[.int i64 H.aM.site,.int i64 H.aM.inc,.int i64 H.aM.num,.int i64 H.label,.int i64 H.cost,.own 2 0 H.lower.length]]⟩),(2,sx H.lower)],3⟩
abbrev bR7 (U:bB) (O:(List ByteArray)):=mkL x (@Ir.eq_1 U O) λ H=>⟨[(4,.ptr 0 0 0),(6,.ptr 1 0 0),(12,.ptr 2 0 0),(64,.sl (O.map eS)),(65,.int i64 O.length),(66,.int i64 H.1)],[(0,bx U),(1,bx aP.zero),(2,⟨false,6,aP.enc aP.zero,[[.int i64 H.2.aM.site,.int i64 H.2.aM.inc,.int i64 H.2.aM.num,.int i64 H.2.label,.int i64 H.2.cost,.own 3 0 H.2.lower.length]]⟩),(3,sx H.2.lower)],4⟩
abbrev bR8 (H:aG) (O:bB) (U:Int) (j1:(List ByteArray)):=mkJ (FJ H O U j1) 999 (@FI.eq_1 H O U) λ Y=>⟨[(2,.int i64 U),(3,.ptr 0 0 0),(4,.ptr 1 0 0),(6,.ptr 2 0 0),(7,.sl (Y.map eS))],[(0,bx H),(1,bx O),(2,bx aP.zero)],3⟩
abbrev bR9 (H:aG) (O:bB) (U:Int) (j1:(List ByteArray)):=mkJ (FJ H O U j1,v1) 2 (@Ve.eq_1 H O U) λ Y=>⟨[(2,.int i64 U),(3,.ptr 0 0 0),(4,.ptr 1 0 0),(6,.ptr 2 0 0),(7,.sl (Y.map eS))],[(0,bx H),(1,bx O),(2,bx aP.zero)],3⟩
abbrev bRa (H:aG) (O:bB) (U:Int) (j1:(List ByteArray)) (v2:(List aO)):=mkL (FJ H O U j1,v2) (@Is.eq_1 v2) λ Y=>⟨[(2,.int i64 U),(3,.ptr 0 0 0),(4,.ptr 1 0 0),(6,.ptr 2 0 0),(7,.sl (Y.1.map eS)),(37,la v2),(38,.int i64 v2.length),(39,.int i64 Y.2)],[(0,bx H),(1,bx O),(2,bx aP.zero)],3⟩
abbrev bRb (H:aG) (O:bB) (U:Int):=mkJ (xJ H O U) 0 (@FJ.eq_1 H O U) λ j1=>⟨[(2,.int i64 U),(3,.ptr 0 0 0),(4,.ptr 1 0 0),(6,.ptr 2 0 0),(7,.sl (j1.map eS))],[(0,bx H),(1,bx O),(2,bx aP.zero)],3⟩
abbrev bRc (H:aG) (O:bB) (U:Int):=mkL (xJ H O U) (@It.eq_1 H O) λ Y=>⟨[(2,.int i64 U),(3,.ptr 0 0 0),(4,.ptr 1 0 0),(6,.ptr 2 0 0),(7,.sl (Y.1.map eS)),(21,la (H.bH.aQ.drop (O.aQ.length:Int).toNat)),(22,.int i64 ((H.bH.aQ.drop (O.aQ.length:Int).toNat).length:Int)),(23,.int i64 Y.2)],[(0,bx H),(1,bx O),(2,bx aP.zero)],3⟩
attribute[instance]bR6 bR7 bR8 bR9 bRa bRb bRc
instance bRd(H:aG)(O:bB)(U:Int):OkP (xJ H O U) 101 [ga H,ga O,.int i64 U] ga:=⟨λ r h=>by
 refine oT f101 [(63,34),(12,34)] λ E hG B hK=>?_;have hm:Mk (xJ H O U):=trivial;unfold xJ at h;refine zq ?_;refine zq ?_;refine mD (mD ?_);obtain⟨Y,h⟩:=mM h;refine mE hG ?_;refine yK hm h (λ j1 hm h=>?_) ?_
 · try refine g_st ?_
   refine mD (zq ?_);refine S4 hm rfl hG h (λ F hm h=>?_) (λ _ h=>?_) (λ _ h=>?_)
   · try refine g_st ?_
     refine zq ?_;refine g_gh (.ownb 3 5 3 (aO.enc aO.zero)) ?_;exact gogo
   .exact gogo
   exact gogo
 exact gogo⟩
attribute [local irreducible] xJ
def Vf(j1:(List aP))(v3:aP)(H:Unit):Option (List aP):=some (j1++[v3])
def LG(j1:(List aP))(v3:aP)(H:Int):Option (Int⊕(Unit⊕(List aP))):=(if decide (H<((j1.length+1:Nat):Int))then gd (0<=H/\H<(((j1++[v3]).length:Nat):Int))<|(o4 ((j1++[v3]).getD H.toNat aP.zero)).bind λ v4=>(if !v4 then some (.inr (.inr []))else some (.inl (i64.wrap (H+1))))else some (.inr (.inl ())))
def FK(H:aG)(j1:(List aP)):Option (List aP):=(xJ H ({bB.zero with}) (-1)).bind λ v3=>gd (j1.length+1<=4294967296)<|(mF (LG j1 v3) 0).bind (λ|.inl z=>Vf j1 v3 z|.inr z=>some z)
def Iu(O:aG)(H:Int×(List aP)):Option ((Int×(List aP))⊕((List aP)⊕(List aP))):=(if decide (0<=H.1)then gd (0<=H.1/\H.1<O.bH.bI.length)<|(q7 O.bH (O.bH.bI.getD H.1.toNat bV.zero).label).bind λ v5=>(if !decide (v5.2.2=0)then some (.inr (.inr []))else gd (0<=H.1/\H.1<O.bH.bI.length)<|(xJ O v5.1 (O.bH.bI.getD H.1.toNat bV.zero).label).bind λ v6=>gd (H.2.length+1<=4294967296)<|some (.inl (i64.wrap (H.1-1),H.2++[v6])))else some (.inr (.inl H.2)))
def Da(H:aG):Option (List aP):=(if !(((!(pJ H.aM))||decide (H.cost<1))||decide (1000<H.cost))then uZ H.bH else some false).bind λ v1=>(if (!((((!(pJ H.aM))||decide (H.cost<1))||decide (1000<H.cost))||(!v1)))&&H.bJ then wB H.bK else some false).bind λ v2=>(if ((((!(pJ H.aM))||decide (H.cost<1))||decide (1000<H.cost))||(!v1))||(H.bJ&&(!v2))then some [] else(mF (Iu H) (i64.wrap ((H.bH.bI.length:Int)-1),[])).bind (λ|.inl z=>FK H z|.inr z=>some z))
abbrev bRh a0 (j1:(List aP)) (v3:aP):=mkJ (FK a0 j1,v3) 2 (@Vf.eq_1 j1 v3) λ H=>⟨[(3,.own 0 0 (j1++[v3]).length)],[(0,sx (j1++[v3]))],1⟩
abbrev bRi (j1:(List aP)) (v3:aP):=mkL x (@LG.eq_1 j1 v3) λ H=>⟨[(3,.own 0 0 (j1++[v3]).length),(84,.own 0 0 (j1++[v3]).length),(85,.int i64 ((j1.length+1:Nat):Int)),(86,.int i64 H)],[(0,sx (j1++[v3]))],1⟩
abbrev bRj (H:aG):=mkJ ((Da H,v1),v2) 0 (@FK.eq_1 H) λ j1=>⟨[(1,.ptr 0 0 0),(3,.own 1 0 j1.length)],[(0,bx H),(1,sx j1)],2⟩
abbrev bRk (O:aG):=mkL x (@Iu.eq_1 O) λ H=>⟨[(1,.ptr 0 0 0),(3,.own 1 0 H.2.length),(4,.int i64 H.1)],[(0,bx O),(1,sx H.2)],2⟩
attribute[instance]bRh bRi bRj bRk
instance bRl(H:aG):OkP (Da H) 48 [ga H] la:=ok1 (Da.eq_1 H) f48 [(3,1)]
attribute [local irreducible] Da
def Vg(j1:Unit):Option Bool:=some true
def LH(O:aL)(H:Int):Option (Int⊕(Unit⊕Bool)):=(if decide (H<O.options.length)then gd (0<=H/\H<O.options.length)<|(o4 (O.options.getD H.toNat aP.zero)).bind λ v3=>(if !v3 then some (.inr (.inr false))else some (.inl (i64.wrap (H+1))))else some (.inr (.inl ())))
def zF (H:aL) (O:Int):Option Bool:=(if decide (O=80)then some (pJ H.aM)else(if decide (O=71)then some (Hu H.gen)else(if decide (O=65)then(vX H.aZ.name).bind λ v1=>some (v1&&(((oG H.aZ.aI&&(!decide (H.kind=1)))&&(!decide (H.kind=4)))||pX H.aZ.aI))else(if decide (O=89)then some (decide (0<=H.bE)&&decide (H.bE<=7))else(if decide (O=83)then some (decide (0<=H.site)&&decide (H.site<4))else(if decide (O=73)then some (decide (1<=H.inc)&&decide (H.inc<=99))else(if decide (O=82)then some (Hu H.round)else(if decide (O=69)then some (Hu H.epoch)else(if decide (O=76)then some (decide (H.label=(-1))||(decide (1<=H.label)&&decide (H.label<=99)))else(if decide (O=87)then(wC H.state).bind λ v2=>some ((v2&&((!decide (H.kind=7))||decide ((H.state.aF.length:Int)=0)))&&((!decide (H.kind=9))||decide ((H.state.aY.length:Int)=0)))else(if decide (O=79)then(if decide (40<(H.options.length:Int))then some false else(mF (LH H) 0).bind (λ|.inl z=>Vg z|.inr z=>some z))else some true)))))))))))
abbrev bRo a0 a1:=mkJ (zF a0 a1) 1 (@Vg.eq_1) λ j1=>⟨[],[],0⟩
abbrev bRp (H:aL):=mkL x (@LH.eq_1 H) λ O=>⟨[(139,la H.options),(140,.int i64 H.options.length),(141,.int i64 O)],[],0⟩
attribute[instance]bRo bRp
instance bRq(H:aL)(O:Int):OkP (zF H O) 27 [ga H,.int u8 O] .bool:=ok1 (zF.eq_1 H O) f27 []
attribute [local irreducible] zF
def OY(H:(List Int)):Option ((List Int)×Int):=some (H,0)
def Iv(O:aH)(H:(List Int)×Int):Option (((List Int)×Int)⊕(List Int)):=(if decide (H.2<O.aY.length)then gd (0<=H.2/\H.2<O.aY.length)<|(m6 H.1 (O.aY.getD H.2.toNat bR.zero).aM).bind λ v4=>gd (0<=H.2/\H.2<O.aY.length)<|(qV v4 (O.aY.getD H.2.toNat bR.zero).gen).bind λ v5=>gd (0<=H.2/\H.2<O.aY.length)<|(K9 v5 (O.aY.getD H.2.toNat bR.zero).bU).bind λ v6=>some (.inl (v6,i64.wrap (H.2+1)))else some (.inr H.1))
def LI(H:aH)(j1:(List Int)):Option ((List Int)×Int):=(qV j1 (H.aY.length:Int)).bind λ v3=>(mF (Iv H) (v3,0)).bind (λ z=>OY z)
def OZ(H:(List Int)×Int)(O:(List Int)):Option (((List Int)×Int)⊕(List Int)):=some (.inl (O,i64.wrap (H.2+1)))
def Iw(O:aH)(U H:(List Int)×Int):Option (((List Int)×Int)⊕(List Int)):=(if decide (H.2<(((O.aF.getD U.2.toNat aA.zero).aW).length:Int))then gd (0<=H.2/\H.2<(((O.aF.getD U.2.toNat aA.zero).aW).length:Int))<|(m6 H.1 (((O.aF.getD U.2.toNat aA.zero).aW).getD H.2.toNat aV.zero).aM).bind λ Y=>(n7 Y (((O.aF.getD U.2.toNat aA.zero).aW).getD H.2.toNat aV.zero).aI).bind λ B=>(qV B (((O.aF.getD U.2.toNat aA.zero).aW).getD H.2.toNat aV.zero).bE).bind λ F=>(qV F (((O.aF.getD U.2.toNat aA.zero).aW).getD H.2.toNat aV.zero).bS).bind λ M=>some (.inl (M,i64.wrap (H.2+1)))else some (.inr H.1))
def LJ(U:aH)(H:(List Int)×Int)(Y:(List Int)):Option (((List Int)×Int)⊕(List Int)):=(qV Y (((U.aF.getD H.2.toNat aA.zero).aW).length:Int)).bind λ O=>(mF (Iw U H) (O,0)).bind (λ z=>OZ H z)
def Ix(O:aH)(U H:(List Int)×Int):Option (((List Int)×Int)⊕(List Int)):=(if decide (H.2<(((O.aF.getD U.2.toNat aA.zero).aN).length:Int))then gd (0<=H.2/\H.2<(((O.aF.getD U.2.toNat aA.zero).aN).length:Int))<|(m6 H.1 (((O.aF.getD U.2.toNat aA.zero).aN).getD H.2.toNat aV.zero).aM).bind λ Y=>gd (0<=H.2/\H.2<(((O.aF.getD U.2.toNat aA.zero).aN).length:Int))<|(n7 Y (((O.aF.getD U.2.toNat aA.zero).aN).getD H.2.toNat aV.zero).aI).bind λ B=>some (.inl (B,i64.wrap (H.2+1)))else some (.inr H.1))
def LL(H:aH)(O:(List Int)×Int)(Y:(List Int)):Option (((List Int)×Int)⊕(List Int)):=(qV Y (((H.aF.getD O.2.toNat aA.zero).aN).length:Int)).bind λ U=>(mF (Ix H O) (U,0)).bind (λ z=>LJ H O z)
def Iy(O:aH)(U H:(List Int)×Int):Option (((List Int)×Int)⊕(List Int)):=(if decide (H.2<(((O.aF.getD U.2.toNat aA.zero).aS).length:Int))then gd (0<=H.2/\H.2<(((O.aF.getD U.2.toNat aA.zero).aS).length:Int))<|(m6 H.1 (((O.aF.getD U.2.toNat aA.zero).aS).getD H.2.toNat bA.zero).aM).bind λ Y=>gd (0<=H.2/\H.2<(((O.aF.getD U.2.toNat aA.zero).aS).length:Int))<|(n7 Y (((O.aF.getD U.2.toNat aA.zero).aS).getD H.2.toNat bA.zero).aI).bind λ B=>some (.inl (B,i64.wrap (H.2+1)))else some (.inr H.1))
def FL(O:aH)(H:(List Int)×Int):Option (((List Int)×Int)⊕(List Int)):=(if decide (H.2<O.aF.length)then gd (0<=H.2/\H.2<O.aF.length)<|(Ck H.1 ((O.aF.getD H.2.toNat aA.zero).aB).name).bind λ F=>(qV F ((O.aF.getD H.2.toNat aA.zero).aB).kind).bind λ M=>(qV M ((O.aF.getD H.2.toNat aA.zero).aB).aU).bind λ v9=>(qV v9 ((O.aF.getD H.2.toNat aA.zero).aB).home).bind λ U=>(qV U (O.aF.getD H.2.toNat aA.zero).gen).bind λ Y=>(qV Y (((O.aF.getD H.2.toNat aA.zero).aS).length:Int)).bind λ B=>(mF (Iy O H) (B,0)).bind (λ z=>LL O H z)else some (.inr H.1))
def Db(H:aH):Option ((List Int)×Int):=(wC H).bind λ v1=>(if !v1 then some ([],2)else(qV [] (H.aF.length:Int)).bind λ v2=>(mF (FL H) (v2,0)).bind (λ z=>LI H z))
abbrev bS1 a0 j1:=mkJ (LI a0 j1,v1) 8 (@OY.eq_1) λ H=>⟨[(4,.sl (H.map (eI u8)))],[],0⟩
abbrev bS2 (H:aH):=mkL x (@Iv.eq_1 H) λ O=>⟨[(1,.ptr 0 0 0),(4,.sl (O.1.map (eI u8))),(12,.int i64 O.2)],[(0,bx H)],1⟩
abbrev bS3 (H:aH):=mkJ ((Db H,v1),v2) 0 (@LI.eq_1 H) λ j1=>⟨[(1,.ptr 0 0 0),(4,.sl (j1.map (eI u8)))],[(0,bx H)],1⟩
abbrev bS4 (O:aH) (H:(List Int)×Int) j4:=mkJ (LJ O H j4,v1) 6 (@OZ.eq_1 H) λ U=>⟨[(1,.ptr 0 0 0),(4,.sl (U.map (eI u8))),(5,.int i64 H.2)],[(0,bx O)],1⟩
abbrev bS5 (H:aH) (O:(List Int)×Int):=mkL x (@Iw.eq_1 H O) λ U=>⟨[(1,.ptr 0 0 0),(4,.sl (U.1.map (eI u8))),(5,.int i64 O.2),(6,.ptr 1 0 0),(10,.int i64 U.2)],[(0,bx H),(1,bx (H.aF.getD O.2.toNat aA.zero))],2⟩
abbrev bS6 (H:aH) (O:(List Int)×Int) j3:=mkJ (LL H O j3,v1) 4 (@LJ.eq_1 H O) λ U=>⟨[(1,.ptr 0 0 0),(4,.sl (U.map (eI u8))),(5,.int i64 O.2),(6,.ptr 1 0 0)],[(0,bx H),(1,bx (H.aF.getD O.2.toNat aA.zero))],2⟩
abbrev bS7 (H:aH) (O:(List Int)×Int):=mkL x (@Ix.eq_1 H O) λ U=>⟨[(1,.ptr 0 0 0),(4,.sl (U.1.map (eI u8))),(5,.int i64 O.2),(6,.ptr 1 0 0),(9,.int i64 U.2)],[(0,bx H),(1,bx (H.aF.getD O.2.toNat aA.zero))],2⟩
abbrev bS8 (H:aH) (O:(List Int)×Int):=mkJ ((((((FL H O,v1),v2),v3),v4),v5),v6) 2 (@LL.eq_1 H O) λ U=>⟨[(1,.ptr 0 0 0),(4,.sl (U.map (eI u8))),(5,.int i64 O.2),(6,.ptr 1 0 0)],[(0,bx H),(1,bx (H.aF.getD O.2.toNat aA.zero))],2⟩
abbrev bS9 (H:aH) (O:(List Int)×Int):=mkL x (@Iy.eq_1 H O) λ U=>⟨[(1,.ptr 0 0 0),(4,.sl (U.1.map (eI u8))),(5,.int i64 O.2),(6,.ptr 1 0 0),(8,.int i64 U.2)],[(0,bx H),(1,bx (H.aF.getD O.2.toNat aA.zero))],2⟩
abbrev bSa (H:aH):=mkL x (@FL.eq_1 H) λ O=>⟨[(1,.ptr 0 0 0),(4,.sl (O.1.map (eI u8))),(5,.int i64 O.2)],[(0,bx H)],1⟩
attribute[instance]bS1 bS2 bS3 bS4 bS5 bS6 bS7 bS8 bS9 bSa
instance bSb(H:aH):OkP (Db H) 61 [ga H] (λ r=>.tup [.sl (r.1.map (eI u8)),.int i64 r.2]):=ok1 (Db.eq_1 H) f61 []
attribute [local irreducible] Db
end
end Ab
end Go.Proofs.YtfmnjkfhahfhgaaGreatDoor
