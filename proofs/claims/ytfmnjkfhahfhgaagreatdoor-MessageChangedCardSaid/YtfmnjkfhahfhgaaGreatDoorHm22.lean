import Derived.Test.YtfmnjkfhahfhgaaGreatDoorHm10
import Derived.Test.YtfmnjkfhahfhgaaGreatDoorHm17
namespace Go.Proofs.YtfmnjkfhahfhgaaGreatDoor
namespace Ab
open Tryz
set_option linter.all false
open IntKind (i64 u64 u8)
set_option maxRecDepth 100000
set_option maxHeartbeats 1000000
noncomputable section
variable {T T1 T2 T3 T4 T5 T6 : Type} (x : T) (v1 : T1) (v2 : T2) (v3 : T3) (v4 : T4) (v5 : T5) (v6 : T6)
def OD(j1:(List aO)):Option (Bool×(List aO)):=some (true,j1)
@[go_sem] def bI9(j1:(List aO)):St:=⟨[],[(0,⟨false,1,[A.sl ([].map aO.enc)],[[.own 2 0 j1.length]]⟩),(2,sx j1)],3⟩
def HW(O:(aR->List aO->Option (Bool×(List aO))))(U:aR)(H:Int×(List aO)):Option ((Int×(List aO))⊕((List aO)⊕(Bool×(List aO)))):=(if decide (H.1<U.bG.length)then gd (0<=H.1/\H.1<U.bG.length)<|(O (U.bG.getD H.1.toNat aR.zero) H.2).bind λ v3=>(if !v3.1 then some (.inr (.inr (false,v3.2)))else some (.inl (i64.wrap (H.1+1),v3.2)))else some (.inr (.inl H.2)))
@[go_sem] def bIa(O:aR)(H:Int×(List aO)):St:=⟨[(1,.ptr 0 0 0),(44,la O.bG),(45,.int i64 O.bG.length),(46,.int i64 H.1)],[(0,⟨false,1,[A.sl ([].map aO.enc)],[[.own 2 0 H.2.length]]⟩),(2,sx H.2)],3⟩
def HX(U:(aR->List aO->Option (Bool×(List aO))))(H:aR)(O:List aO):Option (Bool×(List aO)):=(if decide ((H.bG.length:Int)=0)then(if decide (H.k=0)then CE H.aZ else some false).bind λ v1=>(if decide (H.k=0)&&v1 then(B2 H.aZ O).bind λ v2=>some ((decide (H.k=0)&&v1)&&decide (v2.1=0),v2.2)else some ((decide (H.k=0)&&v1)&&decide (0=0),O))else(if (decide (H.k<1)||decide ((H.bG.length:Int)<H.k))||(!decide (H.aZ={aO.zero with}))then some (false,O)else(mF (HW U H) (0,O)).bind (λ|.inl z=>OD z|.inr z=>some z)))
def yV:Nat->(aR->List aO->Option (Bool×(List aO)))
 |0=>λ _ _=>none
 |n+1=>HX (yV n)
def Lj(H:aR)(O:List aO):Option (Bool×(List aO)):=yV (_root_.SizeOf.sizeOf H+1) H O
def bIb(B:(aR->List aO->Option (Bool×(List aO))))(hrc:∀(U:aR) (Y:List aO) (r:Bool×(List aO)),B U Y=some r->MFn C 222 [ga U,.ptr 0 0 0] [(0,⟨false,1,[A.sl ([].map aO.enc)],[[.own 1 0 Y.length]]⟩),(1,sx Y)] 2 (.bool r.1) [(0,⟨false,1,[A.sl ([].map aO.enc)],[[.own 2 0 r.2.length]]⟩),(2,sx r.2)] 3)(U:aR)(Y:List aO)(r:Bool×(List aO))(h:HX B U Y=some r):MFn C 222 [ga U,.ptr 0 0 0] [(0,⟨false,1,[A.sl ([].map aO.enc)],[[.own 1 0 Y.length]]⟩),(1,sx Y)] 2 (.bool r.1) [(0,⟨false,1,[A.sl ([].map aO.enc)],[[.own 2 0 r.2.length]]⟩),(2,sx r.2)] 3:=by
 refine pF f222 [] [.bool r.1] λ E hG hN hK=>?_;unfold HX at h;refine zq ?_;refine mD (zq ?_);refine mJ rfl hG h (λ _ h=>?_) (λ _ h=>?_)
 · refine zq ?_
   obtain⟨v1,F,h⟩:=mG h;refine nK (λ hg=>(bE3 U.aZ).ok _ (uM hg F)) ?_;refine SW h (λ M h=>?_) (λ M h=>?_)
   · obtain⟨v2,hv2,h⟩:=mG h
     refine SX M [(0,0),(1,1)] [(2,3)] [0,1,2] ((aRu U.aZ Y).ok _ hv2) rfl rfl ?_;refine mO ?_;exact nD [(0,0),(2,3)] h
   refine SZ M (.int i64 0) ?_;refine mO ?_;exact nD [(0,0),(2,1)] h
 refine mN ?_;refine mD (zq ?_);refine mJ rfl hG h (λ _ h=>?_) (λ _ h=>?_)
 · refine zq ?_
   refine mO ?_;exact nD [(0,0),(2,1)] h
 refine mN ?_;refine mD (zq ?_);refine qA bI9 (λ v=>OD v=some r) ?_ ?_
 · intro j1 h
   unfold OD at h;refine g_st ?_;refine zq ?_;refine mO ?_;exact nD [(0,0),(2,2)] h
 refine qO (bIa U) hK [(0,0),(2,1)] h (λ h0 h g1 x0 H O=>?_);unfold HW at H;refine g_st ?_;refine zq ?_;refine mD ?_;refine mJ rfl hG H (λ _ H=>?_) (λ _ H=>?_)
 · refine mN ?_
   refine mD (oM (mD ?_));obtain⟨y0,H⟩:=mM H;refine mE hG ?_;refine zq ?_;obtain⟨v3,hv3,H⟩:=mG H;refine mU [(0,0),(1,2)] [(2,4)] [0,1,2] (hrc (U.bG.getD g1.1.toNat aR.zero) g1.2 _ hv3) rfl rfl ?_;refine mJ rfl hG H (λ _ H=>?_) (λ _ H=>?_)
   · refine zq ?_
     refine mO ?_;cases H;cases O _ rfl;exact nD [(0,0),(2,4)] h
   refine mN ?_;refine mE hG ?_;exact pA hK [(0,0),(2,4)] H
 refine oO ?_;cases H;cases O _ rfl;exact nA hK [(0,0),(2,2)] g1.2 (by exact h)
def UK:∀(n:Nat) (O:aR) (H:List aO) (r:Bool×(List aO)),yV n O H=some r->MFn C 222 [ga O,.ptr 0 0 0] [(0,⟨false,1,[A.sl ([].map aO.enc)],[[.own 1 0 H.length]]⟩),(1,sx H)] 2 (.bool r.1) [(0,⟨false,1,[A.sl ([].map aO.enc)],[[.own 2 0 r.2.length]]⟩),(2,sx r.2)] 3
 |0,_,_,_,h=>nomatch h
 |n+1,O,H,r,h=>bIb (yV n) (UK n) O H r h
instance bId(O:aR)(H:List aO):OkM (Lj O H) 222 [ga O,.ptr 0 0 0] [(0,⟨false,1,[A.sl ([].map aO.enc)],[[.own 1 0 H.length]]⟩),(1,sx H)] 2 (λ r=>.bool r.1) (λ r=>[(0,⟨false,1,[A.sl ([].map aO.enc)],[[.own 2 0 r.2.length]]⟩),(2,sx r.2)]) 3:=⟨λ r h=>UK _ O H r h⟩
def OE(j1:(List aK)):Option (List aK):=some j1
def HY(v1:(List aV))(H:Int×(List aK)):Option ((Int×(List aK))⊕(List aK)):=(if decide (H.1<v1.length)then gd (0<=H.1/\H.1<v1.length)<|gd (H.2.length+1<=4294967296)<|some (.inl (i64.wrap (H.1+1),H.2++[(v1.getD H.1.toNat aV.zero).aM]))else some (.inr H.2))
def CP(H:aA):Option (List aK):=(EP H).bind λ v1=>(mF (HY v1) (0,[])).bind (λ z=>OE z)
abbrev bIg a0:=mkJ (CP a0,v1) 0 (@OE.eq_1) λ j1=>⟨[(3,.own 0 0 j1.length)],[(0,sx j1)],1⟩
abbrev bIh (v1:(List aV)):=mkL x (@HY.eq_1 v1) λ H=>⟨[(3,.own 0 0 H.2.length),(7,la v1),(8,.int i64 v1.length),(9,.int i64 H.1)],[(0,sx H.2)],1⟩
attribute[instance]bIg bIh
instance bIi(H:aA):OkP (CP H) 276 [ga H] la:=ok1 (CP.eq_1 H) f276 [(3,1)]
def OF(j1:(List Int)):Option (List Int):=some j1
def HZ(O:aP)(H:Int×(List Int)):Option ((Int×(List Int))⊕(List Int)):=(if decide (H.1<O.lower.length)then gd (0<=H.1/\H.1<O.lower.length)<|(Ct H.2 (O.lower.getD H.1.toNat aO.zero).name).bind λ U=>(pN U (u64.wrap ((O.lower.getD H.1.toNat aO.zero).aI).mode)).bind λ Y=>(pN Y (u64.wrap ((O.lower.getD H.1.toNat aO.zero).aI).aU)).bind λ B=>some (.inl (i64.wrap (H.1+1),B))else some (.inr H.2))
def CQ(O:List Int)(H:aP):Option (List Int):=(Eu O).bind λ v1=>(m7 H).bind λ v2=>(if !v2 then some v1 else(AS v1 H.aM).bind λ v3=>(pN v3 (u64.wrap (i64.wrap (H.label+1)))).bind λ v4=>(pN v4 (u64.wrap H.cost)).bind λ v5=>(pN v5 (u64.wrap (H.lower.length:Int))).bind λ v6=>(mF (HZ H) (0,v6)).bind (λ z=>OF z))
abbrev bIl a0 a1:=mkJ ((((((CQ a0 a1,v1),v2),v3),v4),v5),v6) 0 (@OF.eq_1) λ j1=>⟨[(0,.own 0 0 j1.length)],[(0,⟨false,1,[A.int u8 0],j1.map (eI u8)⟩)],1⟩
abbrev bIm (H:aP):=mkL x (@HZ.eq_1 H) λ O=>⟨[(0,.own 0 0 O.2.length),(35,la H.lower),(36,.int i64 H.lower.length),(37,.int i64 O.1)],[(0,⟨false,1,[A.int u8 0],O.2.map (eI u8)⟩)],1⟩
attribute[instance]bIl bIm
instance bIn(H:List Int)(O:aP):OkM (CQ H O) 105 [.sl (H.map (eI u8)),ga O] [] 0 (λ r=>.own 0 0 r.length) (λ r=>[(0,⟨false,1,[A.int u8 0],r.map (eI u8)⟩)]) 1:=okm (CQ.eq_1 H O) (λ r=>[.own 0 0 r.length]) f105 [(4,1),(16,1),(44,1)]
def A5(H:aT):Option (aO×aT):=(if !decide (H.err=0)then some ({aO.zero with},H)else(vV H.b).bind λ v1=>(if !decide (v1.2.2=0)then some ({aO.zero with},{H with err:=v1.2.2})else gd (0<=v1.2.1/\v1.2.1<=(H.b.length:Int)/\(H.b.length:Int)<=(H.b.length:Int))<|(tA ({H with b:=(H.b.drop v1.2.1.toNat)})).bind λ v2=>(tA v2.2).bind λ v3=>some ((⟨v1.1,(⟨v2.1,v3.1⟩:aC)⟩:aO),v3.2)))
instance bIo(H:aT):OkM (A5 H) 72 [.ptr 0 0 0] [(0,bx H)] 1 (λ r=>ga r.1) (λ r=>[(0,bx r.2)]) 1:=okm (A5.eq_1 H) (λ r=>[ga r.1]) f72 []
def vA(H:aX):Option (aC×aX):=(rX H).bind λ v1=>(rX v1.2).bind λ v2=>some ((⟨v1.1,v2.1⟩:aC),v2.2)
instance bIp(H:aX):OkM (vA H) 219 [.ptr 0 0 0] [(0,bx H)] 1 (λ r=>ga r.1) (λ r=>[(0,bx r.2)]) 1:=okm (vA.eq_1 H) (λ r=>[ga r.1]) f219 []
def UL(j1:Unit):Option Bool:=some true
def OG(H:Int×Int)(O:Unit):Option ((Int×Int)⊕(Unit⊕Bool)):=some (.inl (H.1,i64.wrap (H.2+1)))
def E8(H:List aC)(O:Int×Int)(U:Int):Option (Int⊕(Unit⊕Bool)):=(if decide (U<O.2)then gd (0<=O.2/\O.2<H.length)<|gd ((!(oG (H.getD O.2.toNat aC.zero)))=true->0<=U/\U<H.length)<|gd (((!(oG (H.getD O.2.toNat aC.zero)))&&(!(oG (H.getD U.toNat aC.zero))))=true->0<=O.2/\O.2<H.length)<|gd (((!(oG (H.getD O.2.toNat aC.zero)))&&(!(oG (H.getD U.toNat aC.zero))))=true->0<=U/\U<H.length)<|(if ((!(oG (H.getD O.2.toNat aC.zero)))&&(!(oG (H.getD U.toNat aC.zero))))&&(!(EA (H.getD O.2.toNat aC.zero).mode (H.getD U.toNat aC.zero).mode))then some (.inr (.inr false))else some (.inl (i64.wrap (U+1))))else some (.inr (.inl ())))
def CR(U:aJ)(O:List aC)(H:Int×Int):Option ((Int×Int)⊕(Unit⊕Bool)):=(if decide (H.2<O.length)then gd (0<=H.2/\H.2<O.length)<|(if !(uW U (O.getD H.2.toNat aC.zero))then some (.inr (.inr false))else(if decide (U.kind=2)then gd (0<=H.2/\H.2<O.length)<|(if decide (U.aU<i64.wrap (H.1+(O.getD H.2.toNat aC.zero).aU))then some (.inr (.inr false))else some (.inl (i64.wrap (H.1+(O.getD H.2.toNat aC.zero).aU),i64.wrap (H.2+1))))else(mF (E8 O H) 0).bind (λ|.inl z=>OG H z|.inr z=>some (.inr (.inr z)))))else some (.inr (.inl ())))
def CS(H:aJ)(O:List aC):Option Bool:=(if !(l5 H)then some false else(mF (CR H O) (0,0)).bind (λ|.inl z=>UL z|.inr z=>some z))
abbrev bIs a0 a1:=mkJ (CS a0 a1) 0 (@UL.eq_1) λ j1=>⟨[],[],0⟩
abbrev bIt (O:aJ) (U:List aC) (H:Int×Int):=mkJ (CR O U H) 2 (@OG.eq_1 H) λ Y=>⟨[(1,la U),(2,.ptr 0 0 0),(5,.int i64 H.1),(6,.int i64 H.2)],[(0,bx O)],1⟩
abbrev bIu (U:aJ) (O:List aC) (H:Int×Int):=mkL (CR U O H) (@E8.eq_1 O H) λ Y=>⟨[(1,la O),(2,.ptr 0 0 0),(5,.int i64 H.1),(6,.int i64 H.2),(7,.int i64 Y)],[(0,bx U)],1⟩
abbrev bIv (H:aJ) (O:List aC):=mkL x (@CR.eq_1 H O) λ U=>⟨[(1,la O),(2,.ptr 0 0 0),(5,.int i64 U.1),(6,.int i64 U.2)],[(0,bx H)],1⟩
attribute[instance]bIs bIt bIu bIv
instance bIw(H:aJ)(O:List aC):OkP (CS H O) 265 [ga H,la O] .bool:=ok1 (CS.eq_1 H O) f265 []
def OH(H:aJ)(j1:(List aC)):Option Bool:=(CG H j1).bind λ v1=>some v1
def H0(U:aJ)(O:List bA)(H:Int×(List aC)):Option ((Int×(List aC))⊕((List aC)⊕Bool)):=(if decide (H.1<O.length)then gd (0<=H.1/\H.1<O.length)<|(if (!(mV (O.getD H.1.toNat bA.zero).aM))||(!(mS U (O.getD H.1.toNat bA.zero).aI))then some (.inr (.inr false))else gd (decide (0<H.1)=true->0<=i64.wrap (H.1-1)/\i64.wrap (H.1-1)<(O.length:Int))<|(if decide (0<H.1)then yQ (O.getD (i64.wrap (H.1-1)).toNat bA.zero).aM ((O.getD H.1.toNat bA.zero).aM)else some 0).bind λ v2=>(if decide (0<H.1)&&decide (0<=v2)then some (.inr (.inr false))else gd (H.2.length+1<=4294967296)<|some (.inl (i64.wrap (H.1+1),H.2++[(O.getD H.1.toNat bA.zero).aI]))))else some (.inr (.inl H.2)))
def o8(H:aJ)(O:List bA):Option Bool:=(if (!(oI H))||decide (8<(O.length:Int))then some false else(mF (H0 H O) (0,[])).bind (λ|.inl z=>OH H z|.inr z=>some z))
abbrev bIz (H:aJ) a1:=mkJ (o8 H a1) 0 (@OH.eq_1 H) λ j1=>⟨[(2,.ptr 0 0 0),(5,.own 1 0 j1.length)],[(0,bx H),(1,sx j1)],2⟩
abbrev bJ0 (U:aJ) (H:List bA):=mkL x (@H0.eq_1 U H) λ O=>⟨[(1,la H),(2,.ptr 0 0 0),(5,.own 1 0 O.2.length),(16,la H),(17,.int i64 H.length),(18,.int i64 O.1)],[(0,bx U),(1,sx O.2)],2⟩
attribute[instance]bIz bJ0
instance bJ1(H:aJ)(O:List bA):OkP (o8 H O) 269 [ga H,la O] .bool:=ok1 (o8.eq_1 H O) f269 [(5,1)]
def A6(H:aR):Option Bool:=(Ey H).bind λ v1=>(if !decide (v1=0)then(Lj H []).bind λ v2=>some ((!decide (v1=0))&&v2.1)else some ((!decide (v1=0))&&false))
def bJ2(H:aR)(r:Bool)(h:A6 H=some r):PFn C 181 [ga H] (.bool r):=by
 refine oT f181 [(3,3)] λ E hG Y hK=>?_;unfold A6 at h;refine zq ?_;refine zq ?_;refine g_gh (.ownb 1 0 3 (aO.enc aO.zero)) ?_;refine zq ?_;obtain⟨v1,O,h⟩:=mG h;refine nK (λ hg=>(aZb H).ok _ O) ?_;refine SW h (λ U h=>?_) (λ U h=>?_)
 · obtain⟨v2,hv2,h⟩:=mG h
   refine SX U [(0,1),(1,2)] [(2,3)] [0,1,2] ((bId H []).ok _ hv2) rfl rfl ?_;refine mO ?_;exact nU h
 refine SZ U (.bool false) ?_;refine mO ?_;exact nU h
instance bJ3(H:aR):OkP (A6 H) 181 [ga H] .bool:=⟨bJ2 H⟩
def H1(H:aX×aR):Option (aR×aX):=some (H.2,H.1)
@[go_sem] def bJ4(H:aX×aR):St:=⟨[(4,.ptr 1 0 0),(5,.ptr 2 0 0)],[(0,bx H.1),(1,bx aR.zero),(2,⟨false,5,aR.enc aR.zero,[[.int i64 H.2.k,.str H.2.aZ.name,.int i64 H.2.aZ.aI.mode,.int i64 H.2.aZ.aI.aU,.own 3 0 H.2.bG.length]]⟩),(3,sx H.2.bG)],4⟩
def xD(O:(Int->aX->Option (aR×aX)))(U:Int)(H:Int×aX×aR):Option ((Int×aX×aR)⊕(aX×aR)):=(if decide (0<H.1)&&decide (H.2.1.bC.err=0)then(O (i64.wrap (U+1)) H.2.1).bind λ v5=>gd (H.2.2.bG.length+1<=4294967296)<|some (.inl (i64.wrap (H.1-1),v5.2,(⟨H.2.2.k,(⟨H.2.2.aZ.name,(⟨H.2.2.aZ.aI.mode,H.2.2.aZ.aI.aU⟩:aC)⟩:aO),H.2.2.bG++[v5.1]⟩:aR)))else some (.inr (H.2.1,H.2.2)))
@[go_sem] def bJ5(O:Int)(H:Int×aX×aR):St:=⟨[(0,.ptr 0 0 0),(1,.int i64 O),(4,.ptr 1 0 0),(5,.ptr 2 0 0),(6,.int i64 H.1)],[(0,bx H.2.1),(1,bx aR.zero),(2,⟨false,5,aR.enc aR.zero,[[.int i64 H.2.2.k,.str H.2.2.aZ.name,.int i64 H.2.2.aZ.aI.mode,.int i64 H.2.2.aZ.aI.aU,.own 3 0 H.2.2.bG.length]]⟩),(3,sx H.2.2.bG)],4⟩
def o9(H:(Int->aX->Option (aR×aX)))(O:Int)(j1:aX):Option (aR×aX):=(rX j1).bind λ v1=>(if !decide (v1.2.bC.err=0)then some ((⟨v1.1,(⟨((⟨aR.zero.k,(⟨aR.zero.aZ.name,(⟨aR.zero.aZ.aI.mode,aR.zero.aZ.aI.aU⟩:aC)⟩:aO),[]⟩:aR).aZ).name,(⟨(((⟨aR.zero.k,(⟨aR.zero.aZ.name,(⟨aR.zero.aZ.aI.mode,aR.zero.aZ.aI.aU⟩:aC)⟩:aO),[]⟩:aR).aZ).aI).mode,(((⟨aR.zero.k,(⟨aR.zero.aZ.name,(⟨aR.zero.aZ.aI.mode,aR.zero.aZ.aI.aU⟩:aC)⟩:aO),[]⟩:aR).aZ).aI).aU⟩:aC)⟩:aO),(⟨aR.zero.k,(⟨aR.zero.aZ.name,(⟨aR.zero.aZ.aI.mode,aR.zero.aZ.aI.aU⟩:aC)⟩:aO),[]⟩:aR).bG⟩:aR),v1.2)else(if decide (v1.1=0)then(uV v1.2).bind λ v2=>(vA v2.2).bind λ v3=>some ((⟨v1.1,(⟨v2.1,(⟨v3.1.mode,v3.1.aU⟩:aC)⟩:aO),(⟨aR.zero.k,(⟨aR.zero.aZ.name,(⟨aR.zero.aZ.aI.mode,aR.zero.aZ.aI.aU⟩:aC)⟩:aO),[]⟩:aR).bG⟩:aR),v3.2)else(sZ 24 v1.2).bind λ v4=>(mF (xD H O) (v4.1,v4.2,(⟨v1.1,(⟨((⟨aR.zero.k,(⟨aR.zero.aZ.name,(⟨aR.zero.aZ.aI.mode,aR.zero.aZ.aI.aU⟩:aC)⟩:aO),[]⟩:aR).aZ).name,(⟨(((⟨aR.zero.k,(⟨aR.zero.aZ.name,(⟨aR.zero.aZ.aI.mode,aR.zero.aZ.aI.aU⟩:aC)⟩:aO),[]⟩:aR).aZ).aI).mode,(((⟨aR.zero.k,(⟨aR.zero.aZ.name,(⟨aR.zero.aZ.aI.mode,aR.zero.aZ.aI.aU⟩:aC)⟩:aO),[]⟩:aR).aZ).aI).aU⟩:aC)⟩:aO),(⟨aR.zero.k,(⟨aR.zero.aZ.name,(⟨aR.zero.aZ.aI.mode,aR.zero.aZ.aI.aU⟩:aC)⟩:aO),[]⟩:aR).bG⟩:aR))).bind (λ z=>H1 z)))
@[go_sem] def bJ6(H:Int)(j1:aX):St:=⟨[(0,.ptr 0 0 0),(1,.int i64 H),(4,.ptr 1 0 0),(5,.ptr 2 0 0)],[(0,bx j1),(1,bx aR.zero),(2,⟨false,5,aR.enc aR.zero,[[.int i64 (⟨aR.zero.k,(⟨aR.zero.aZ.name,(⟨aR.zero.aZ.aI.mode,aR.zero.aZ.aI.aU⟩:aC)⟩:aO),[]⟩:aR).k,.str ((⟨aR.zero.k,(⟨aR.zero.aZ.name,(⟨aR.zero.aZ.aI.mode,aR.zero.aZ.aI.aU⟩:aC)⟩:aO),[]⟩:aR).aZ).name,.int i64 (((⟨aR.zero.k,(⟨aR.zero.aZ.name,(⟨aR.zero.aZ.aI.mode,aR.zero.aZ.aI.aU⟩:aC)⟩:aO),[]⟩:aR).aZ).aI).mode,.int i64 (((⟨aR.zero.k,(⟨aR.zero.aZ.name,(⟨aR.zero.aZ.aI.mode,aR.zero.aZ.aI.aU⟩:aC)⟩:aO),[]⟩:aR).aZ).aI).aU,.own 3 0 ((⟨aR.zero.k,(⟨aR.zero.aZ.name,(⟨aR.zero.aZ.aI.mode,aR.zero.aZ.aI.aU⟩:aC)⟩:aO),[]⟩:aR).bG).length]]⟩),(3,sx (⟨aR.zero.k,(⟨aR.zero.aZ.name,(⟨aR.zero.aZ.aI.mode,aR.zero.aZ.aI.aU⟩:aC)⟩:aO),[]⟩:aR).bG)],4⟩
def p7(H:(Int->aX->Option (aR×aX)))(U:Int)(O:aX):Option (aR×aX):=(if decide (O.bC.err=0)&&decide (4<U)then o9 H U ({O with bC:={O.bC with err:=4}})else o9 H U O)
def tN:Nat->(Int->aX->Option (aR×aX))
 |0=>λ _ _=>none
 |n+1=>p7 (tN n)
def E9(H:Int)(O:aX):Option (aR×aX):=tN ((6-H).toNat+1) H O
def bJ7(Y:(Int->aX->Option (aR×aX)))(hrc:∀(O:Int) (U:aX) (r:aR×aX),Y O U=some r->MFn C 167 [.ptr 0 0 0,.int i64 O] [(0,bx U)] 1 (ga r.1) [(0,bx r.2)] 1)(O:Int)(U:aX)(r:aR×aX)(h:p7 Y O U=some r):MFn C 167 [.ptr 0 0 0,.int i64 O] [(0,bx U)] 1 (ga r.1) [(0,bx r.2)] 1:=by
 refine pF f167 [(5,18)] [ga r.1] λ E hG hN hK=>?_;unfold p7 at h;refine zq ?_;refine zq ?_;refine g_gh (.ownb 2 4 5 (aR.enc aR.zero)) ?_;refine mD (zq ?_);refine rV (bJ6 O) (λ v=>o9 Y O v=some r) rfl hG h ?_ (λ _ h=>?_) (λ _ h=>?_)
 · intro j1 h
   unfold o9 at h;refine g_st ?_;refine zq ?_;obtain⟨v1,F,h⟩:=mG h;refine mU [(0,0)] [] [0] ((HA j1).ok _ F) rfl rfl ?_;refine mD (zq ?_);refine mJ rfl hG h (λ _ h=>?_) (λ _ h=>?_)
   · refine zq ?_
     refine g_gh (.fz [3]) ?_;refine mO ?_;exact nD [(0,0)] h
   refine mN ?_;refine mD (zq ?_);refine mJ rfl hG h (λ _ h=>?_) (λ _ h=>?_)
   · refine zq ?_
     obtain⟨v2,hv2,h⟩:=mG h;refine mU [(0,0)] [] [0] ((Uj v1.2).ok _ hv2) rfl rfl ?_;refine zq ?_;obtain⟨v3,hv3,h⟩:=mG h;refine mU [(0,0)] [] [0] ((bIp v2.2).ok _ hv3) rfl rfl ?_;refine zq ?_;refine g_gh (.fz [3]) ?_;refine mO ?_;exact nD [(0,0)] h
   refine mN ?_;refine mD (zq ?_);obtain⟨v4,hv4,h⟩:=mG h;refine mU [(0,0)] [] [0] ((KW 24 v1.2).ok _ hv4) rfl rfl ?_;refine qA bJ4 (λ v=>H1 v=some r) ?_ ?_
   · intro j2 h
     unfold H1 at h;refine g_st ?_;refine zq ?_;refine g_gh (.fz [3]) ?_;refine mO ?_;exact nD [(0,0)] h
   refine qO (bJ5 O) hK [(0,0),(1,1),(2,2),(3,3)] h (λ h0 h M x0 H B=>?_);unfold xD at H;refine g_st ?_;refine mD (zq ?_);refine mJ rfl hG H (λ _ H=>?_) (λ _ H=>?_)
   · refine mN ?_
     refine mD (oM (qJ oS hG ?_));obtain⟨v5,hv5,H⟩:=mG H;obtain⟨y0,H⟩:=mM H;refine vQ [(0,0)] [] [0] (hrc (i64.wrap (O+1)) M.2.1 _ hv5) rfl rfl ?_;refine mE hG ?_;exact pA hK [(0,0),(1,1),(2,2),(3,4)] H
   refine oO ?_;cases H;cases B _ rfl;exact nA hK [(0,0),(1,1),(2,2),(3,3)] (M.2.1,M.2.2) (by exact h)
 · refine mE hG ?_
   exact nA hK [(0,0),(1,1),(2,2),(3,3)] ({U with bC:={U.bC with err:=4}}) (by exact h)
 refine mN ?_;exact nA hK [(0,0),(1,1),(2,2),(3,3)] U (by exact h)
def UM:∀(n:Nat) (H:Int) (O:aX) (r:aR×aX),tN n H O=some r->MFn C 167 [.ptr 0 0 0,.int i64 H] [(0,bx O)] 1 (ga r.1) [(0,bx r.2)] 1
 |0,_,_,_,h=>nomatch h
 |n+1,H,O,r,h=>bJ7 (tN n) (UM n) H O r h
instance bJ9(H:Int)(O:aX):OkM (E9 H O) 167 [.ptr 0 0 0,.int i64 H] [(0,bx O)] 1 (λ r=>ga r.1) (λ r=>[(0,bx r.2)]) 1:=⟨λ r h=>UM _ H O r h⟩
def Fa(j1:bW×aP)(H:bW):Option (aP×Int×Int):=(if !decide (H.err=0)then some ({aP.zero with},0,H.err)else some (j1.2,H.at_,0))
def A7(j1:bW×aP):Option (aP×Int×Int):=(if decide (j1.1.err=0)then m7 j1.2 else some false).bind λ v5=>(if decide (j1.1.err=0)&&(!v5)then Fa j1 ({j1.1 with err:=2})else Fa j1 j1.1)
def tZ(H:Int×bW×aP):Option ((Int×bW×aP)⊕(bW×aP)):=(if decide (0<H.1)&&decide (H.2.1.err=0)then(m8 H.2.1).bind λ v6=>(sM 1073741824 16 v6.2).bind λ O=>(sM 1073741824 16 O.2).bind λ U=>gd (H.2.2.lower.length+1<=4294967296)<|some (.inl (i64.wrap (H.1-1),U.2,(⟨(⟨H.2.2.aM.site,H.2.2.aM.inc,H.2.2.aM.num⟩:aK),H.2.2.label,H.2.2.cost,H.2.2.lower++[{{{aO.zero with name:=v6.1}with aI:={({aO.zero with name:=v6.1}).aI with mode:=O.1}}with aI:={({{aO.zero with name:=v6.1}with aI:={({aO.zero with name:=v6.1}).aI with mode:=O.1}}).aI with aU:=U.1}}]⟩:aP)))else some (.inr (H.2.1,H.2.2)))
def yW(H:List Int):Option (aP×Int×Int):=(o5 ({bW.zero with all:=H})).bind λ v1=>(sM 1073741824 16 v1.2).bind λ v2=>(sM 1073741824 16 v2.2).bind λ v3=>(sM 8 4 v3.2).bind λ v4=>(mF tZ (v4.1,v4.2,(⟨(⟨v1.1.site,v1.1.inc,v1.1.num⟩:aK),i64.wrap (v2.1-1),v3.1,[]⟩:aP))).bind (λ z=>A7 z)
abbrev bJa (j1:bW×aP):=mkJ (A7 j1,v1) 999 (@Fa.eq_1 j1) λ H=>⟨[(2,.ptr 0 0 0),(5,.ptr 1 0 0),(6,.ptr 2 0 0)],[(0,bx aP.zero),(1,bx H),(2,⟨false,6,aP.enc aP.zero,[[.int i64 j1.2.aM.site,.int i64 j1.2.aM.inc,.int i64 j1.2.aM.num,.int i64 j1.2.label,.int i64 j1.2.cost,.own 3 0 j1.2.lower.length]]⟩),(3,sx j1.2.lower)],4⟩
abbrev bJb (H:List Int):=mkJ ((((yW H,v1),v2),v3),v4) 0 (@A7.eq_1) λ j1=>⟨[(2,.ptr 0 0 0),(5,.ptr 1 0 0),(6,.ptr 2 0 0)],[(0,bx aP.zero),(1,bx j1.1),(2,⟨false,6,aP.enc aP.zero,[[.int i64 j1.2.aM.site,.int i64 j1.2.aM.inc,.int i64 j1.2.aM.num,.int i64 j1.2.label,.int i64 j1.2.cost,.own 3 0 j1.2.lower.length]]⟩),(3,sx j1.2.lower)],4⟩
abbrev bJc:=mkL x (@tZ.eq_1) λ H=>⟨[(2,.ptr 0 0 0),(5,.ptr 1 0 0),(6,.ptr 2 0 0),(7,.int i64 H.1)],[(0,bx aP.zero),(1,bx H.2.1),(2,⟨false,6,aP.enc aP.zero,[[.int i64 H.2.2.aM.site,.int i64 H.2.2.aM.inc,.int i64 H.2.2.aM.num,.int i64 H.2.2.label,.int i64 H.2.2.cost,.own 3 0 H.2.2.lower.length]]⟩),(3,sx H.2.2.lower)],4⟩
attribute[instance]bJa bJb bJc
instance bJd(H:List Int):OkP (yW H) 118 [.sl (H.map (eI u8))] (λ r=>.tup [ga r.1,.int i64 r.2.1,.int i64 r.2.2]):=⟨λ r h=>by
 refine oT f118 [(14,34),(6,34)] λ E hG U hK=>?_;have hm:Mk (yW H):=trivial;unfold yW at h;refine zq ?_;refine zq ?_;refine zq ?_;obtain⟨v1,O,h⟩:=mG h;have hm:=mkP hm v1;refine mU [(0,1)] [] [0] ((bHf ({bW.zero with all:=H})).ok _ O) rfl rfl ?_;refine g_gh (.ownb 2 5 3 (aO.enc aO.zero)) ?_;exact gogo⟩
def CT(U:aJ)(H O:aC):Option aC:=(if (!(uW U H))||(!(uW U O))then some ({aC.zero with})else(if sG U H O then some H else(if sG U O H then some O else(EU H.mode O.mode).bind λ v1=>some ({aC.zero with mode:=v1}))))
instance bJe(H:aJ)(O U:aC):OkP (CT H O U) 205 [ga H,ga O,ga U] ga:=ok1 (CT.eq_1 H O U) f205 []
def CU(H O:aL):Option Bool:=(if (((((((((decide (H.kind=O.kind)&&decide (H.aM=O.aM))&&decide (H.gen=O.gen))&&decide (H.aZ=O.aZ))&&decide (H.bE=O.bE))&&decide (H.inc=O.inc))&&decide (H.round=O.round))&&decide (H.epoch=O.epoch))&&decide (H.site=O.site))&&decide (H.label=O.label))&&decide (H.done=O.done)then xC H.state O.state else some false).bind λ v1=>(if ((((((((((decide (H.kind=O.kind)&&decide (H.aM=O.aM))&&decide (H.gen=O.gen))&&decide (H.aZ=O.aZ))&&decide (H.bE=O.bE))&&decide (H.inc=O.inc))&&decide (H.round=O.round))&&decide (H.epoch=O.epoch))&&decide (H.site=O.site))&&decide (H.label=O.label))&&decide (H.done=O.done))&&v1 then uU H.options O.options else some false).bind λ v2=>some ((((((((((((decide (H.kind=O.kind)&&decide (H.aM=O.aM))&&decide (H.gen=O.gen))&&decide (H.aZ=O.aZ))&&decide (H.bE=O.bE))&&decide (H.inc=O.inc))&&decide (H.round=O.round))&&decide (H.epoch=O.epoch))&&decide (H.site=O.site))&&decide (H.label=O.label))&&decide (H.done=O.done))&&v1)&&v2)
instance bJf(H O:aL):OkP (CU H O) 12 [ga H,ga O] .bool:=ok1 (CU.eq_1 H O) f12 []
def Fb(H:aJ)(O:List bA)(U:aK)(Y:aC):Option Bool:=(o8 H O).bind λ v1=>some ((v1&&mV U)&&mS H Y)
instance bJg(H:aJ)(O:List bA)(U:aK)(Y:aC):OkP (Fb H O U Y) 272 [ga H,la O,ga U,ga Y] .bool:=ok1 (Fb.eq_1 H O U Y) f272 []
def p8(H O:aH):Option Bool:=(A2 H.aF O.aF).bind λ v1=>(if v1 then A1 H.aY O.aY else some false).bind λ v2=>some (v1&&v2)
instance bJh(H O:aH):OkP (p8 H O) 38 [ga H,ga O] .bool:=⟨λ r h=>by
 refine oT f38 [] λ E hG B hK=>?_;have hm:Mk (p8 H O):=trivial;unfold p8 at h;refine zq ?_;refine zq ?_;obtain⟨v1,U,h⟩:=mG h;have hm:=mkP hm v1;refine mU [] [] [] ((zS2 H.aF O.aF).ok _ U) rfl rfl ?_;obtain⟨v2,hv2,h⟩:=mG h;have hm:=mkP hm v2;refine G5 [] [] hv2 (λ Y=>(zW6 H.aY O.aY).ok _ Y) rfl ?_;exact gogo⟩
def H2(v2:(List aO)×Bool)(j1:Unit):Option ((List aO)×Bool):=some (v2.1,true)
@[go_sem] def bJj(v2:(List aO)×Bool)(j1:Unit):St:=⟨[(4,la v2.1)],[],0⟩
def OI(H:Int)(O:Unit):Option (Int⊕(Unit⊕((List aO)×Bool))):=some (.inl (i64.wrap (H+1)))
@[go_sem] def bJl(v2:(List aO)×Bool)(H:Int)(O:Unit):St:=⟨[(4,la v2.1),(6,.int i64 H)],[],0⟩
def Fc(v2:(List aO)×Bool)(O H:Int):Option (Int⊕(Unit⊕((List aO)×Bool))):=(if decide (H<O)then gd (0<=O/\O<v2.1.length)<|gd (0<=H/\H<v2.1.length)<|(if ((v2.1.getD O.toNat aO.zero).name).toList==((v2.1.getD H.toNat aO.zero).name).toList then some (.inr (.inr ([],false)))else some (.inl (i64.wrap (H+1))))else some (.inr (.inl ())))
@[go_sem] def bJn(v2:(List aO)×Bool)(H O:Int):St:=⟨[(4,la v2.1),(6,.int i64 H),(7,.int i64 O)],[],0⟩
def CV(v2:(List aO)×Bool)(H:Int):Option (Int⊕(Unit⊕((List aO)×Bool))):=(if decide (H<v2.1.length)then(mF (Fc v2 H) 0).bind (λ|.inl z=>OI H z|.inr z=>some (.inr (.inr z)))else some (.inr (.inl ())))
@[go_sem] def bJo(v2:(List aO)×Bool)(H:Int):St:=⟨[(4,la v2.1),(6,.int i64 H)],[],0⟩
def qX(H:aR):Option ((List aO)×Bool):=(EB H).bind λ v1=>(if decide (v1=0)then some ([],false)else(CO H).bind λ v2=>match v2 with | .inl v2=>some ([],false) | .inr v2=>(if (!v2.2)||decide (8<(v2.1.length:Int))then some ([],false)else(mF (CV v2) 0).bind (λ|.inl z=>H2 v2 z|.inr z=>some z)))
def bJp(F:aR)(r:(List aO)×Bool)(h:qX F=some r):PFn C 162 [ga F] (.tup [la r.1,.bool r.2]):=by
 refine oT f162 [] λ E hG hN hK=>?_;unfold qX at h;refine zq ?_;refine mD (zq ?_);obtain⟨v1,M,h⟩:=mG h;refine nK (λ hg=>(bA2 F).ok _ M) ?_;refine mJ rfl hG h (λ _ h=>?_) (λ _ h=>?_)
 · refine zq ?_
   refine mO ?_;exact nU h
 refine mN ?_;refine zq ?_;obtain⟨v2,hv2,h⟩:=mG h;rcases v2 with v2|v2
 · dsimp only at h
   refine mU [] [(0,1)] [0] (bI5 _ _ hv2) rfl rfl ?_;refine mD (zq ?_);refine BZ rfl hG ?_;refine zq ?_;refine mO ?_;exact nU h
 dsimp only at h;refine mU [] [] [] (bI6 _ _ hv2) rfl rfl ?_;refine mD (zq ?_);refine mJ rfl hG h (λ _ h=>?_) (λ _ h=>?_)
 · refine zq ?_
   refine mO ?_;exact nU h
 refine mN ?_;refine mD (zq ?_);refine qA (bJj v2) (λ v=>H2 v2 v=some r) ?_ ?_
 · intro j1 h
   unfold H2 at h;refine g_st ?_;refine zq ?_;refine mO ?_;exact nU h
 refine qO (bJo v2) hK [] h (λ h0 h g1 B H U=>?_);unfold CV at H;refine g_st ?_;refine mD (zq ?_);refine mJ rfl hG H (λ _ H=>?_) (λ _ H=>?_)
 · refine mN ?_
   refine mD (oM (zq ?_));refine qA (bJl v2 g1) (λ v=>OI g1 v=some B) ?_ ?_
   · intro j2 H
     unfold OI at H;refine g_st ?_;refine mE hG ?_;exact pA hK [] H
   refine qO (bJn v2 g1) hK [] H (λ x0 H g2 y0 O Y=>?_);unfold Fc at O;refine g_st ?_;refine mD (zq ?_);refine mJ rfl hG O (λ _ O=>?_) (λ _ O=>?_)
   · refine mN ?_
     refine mD (oM (mD ?_));obtain⟨z0,O⟩:=mM O;obtain⟨u0,O⟩:=mM O;refine i9 oS hG ?_;refine mJ rfl hG O (λ _ O=>?_) (λ _ O=>?_)
     · refine zq ?_
       refine mO ?_;obtain rfl:=dH O;have hx:=Y _ rfl;subst hx
       try dsimp only at H
       cases H;cases U _ rfl;exact nU h
     refine mN ?_;refine mE hG ?_;exact pA hK [] O
   refine oO ?_;obtain rfl:=dH O;have hx:=Y _ rfl;subst hx
   try dsimp only at H
   exact nA hK [] () (by exact H)
 refine oO ?_;cases H;cases U _ rfl;exact nA hK [] () (by exact h)
instance bJq(H:aR):OkP (qX H) 162 [ga H] (λ r=>.tup [la r.1,.bool r.2]):=⟨bJp H⟩
def UN(j1:Unit):Option Bool:=some true
def CW(H:aA)(O:Int):Option (Int⊕(Unit⊕Bool)):=(if decide (O<H.aW.length)then gd (0<=O/\O<H.aW.length)<|(if mS H.aB ((H.aW.getD O.toNat aV.zero).aI)then Cr H ((H.aW.getD O.toNat aV.zero).aM)else some aC.zero).bind λ v2=>(if (!(mS H.aB (H.aW.getD O.toNat aV.zero).aI))||(!(oW v2))then some (.inr (.inr false))else some (.inl (i64.wrap (O+1))))else some (.inr (.inl ())))
def CX(H:aA):Option Bool:=(AZ H.aW).bind λ v1=>(if (!v1)||decide (8<i64.wrap ((H.aS.length:Int)+(H.aW.length:Int)))then some false else(mF (CW H) 0).bind (λ|.inl z=>UN z|.inr z=>some z))
abbrev bJs a0:=mkJ (CX a0,v1) 0 (@UN.eq_1) λ j1=>⟨[],[],0⟩
abbrev bJt (H:aA):=mkL x (@CW.eq_1 H) λ O=>⟨[(1,.ptr 0 0 0),(20,la H.aW),(21,.int i64 H.aW.length),(22,.int i64 O)],[(0,bx H)],1⟩
attribute[instance]bJs bJt
instance bJu(H:aA):OkP (CX H) 271 [ga H] .bool:=ok1 (CX.eq_1 H) f271 []
def OJ(H:aX×aA):Option (aA×aX):=some (H.2,H.1)
def xE(H:Int×aX×aA):Option ((Int×aX×aA)⊕(aX×aA)):=(if decide (0<H.1)&&decide (H.2.1.bC.err=0)then(uY H.2.1).bind λ B=>(vA B.2).bind λ O=>(rX O.2).bind λ U=>(rX U.2).bind λ Y=>gd (H.2.2.aW.length+1<=4294967296)<|some (.inl (i64.wrap (H.1-1),Y.2,(⟨(⟨H.2.2.aB.name,H.2.2.aB.kind,H.2.2.aB.aU,H.2.2.aB.home⟩:aJ),H.2.2.aS,H.2.2.aN,H.2.2.aW++[{{{{aV.zero with aM:=B.1}with aI:=O.1}with bE:=U.1}with bS:=Y.1}],H.2.2.gen⟩:aA)))else some (.inr (H.2.1,H.2.2)))
def Fd(H:aX×aA):Option (aA×aX):=(sZ 8 H.1).bind λ O=>(mF xE (O.1,O.2,H.2)).bind (λ z=>OJ z)
def xF(H:Int×aX×aA):Option ((Int×aX×aA)⊕(aX×aA)):=(if decide (0<H.1)&&decide (H.2.1.bC.err=0)then(uY H.2.1).bind λ O=>(vA O.2).bind λ U=>gd (H.2.2.aN.length+1<=4294967296)<|some (.inl (i64.wrap (H.1-1),U.2,(⟨(⟨H.2.2.aB.name,H.2.2.aB.kind,H.2.2.aB.aU,H.2.2.aB.home⟩:aJ),H.2.2.aS,H.2.2.aN++[{aV.zero with aM:=O.1,aI:=U.1}],H.2.2.aW,H.2.2.gen⟩:aA)))else some (.inr (H.2.1,H.2.2)))
def Fe(j1:aX×aA):Option (aA×aX):=(sZ 8 j1.1).bind λ H=>(mF xF (H.1,H.2,j1.2)).bind (λ z=>Fd z)
def xG(H:Int×aX×aA):Option ((Int×aX×aA)⊕(aX×aA)):=(if decide (0<H.1)&&decide (H.2.1.bC.err=0)then(uY H.2.1).bind λ O=>(vA O.2).bind λ U=>gd (H.2.2.aS.length+1<=4294967296)<|some (.inl (i64.wrap (H.1-1),U.2,(⟨(⟨H.2.2.aB.name,H.2.2.aB.kind,H.2.2.aB.aU,H.2.2.aB.home⟩:aJ),H.2.2.aS++[(⟨O.1,U.1⟩:bA)],H.2.2.aN,H.2.2.aW,H.2.2.gen⟩:aA)))else some (.inr (H.2.1,H.2.2)))
def vY(H:aX):Option (aA×aX):=(uV H).bind λ v1=>(rX v1.2).bind λ v2=>(rX v2.2).bind λ v3=>(rX v3.2).bind λ v4=>(rX v4.2).bind λ v5=>(sZ 8 v5.2).bind λ v6=>(mF xG (v6.1,v6.2,(⟨(⟨v1.1,v2.1,v3.1,v4.1⟩:aJ),[],[],[],v5.1⟩:aA))).bind (λ z=>Fe z)
abbrev bJv (O:aX×aA):=mkJ (Fd O,v1) 4 (@OJ.eq_1) λ H=>⟨[(2,.ptr 1 0 0),(3,.ptr 2 0 0)],[(0,bx H.1),(1,bx aA.zero),(2,⟨false,8,aA.enc aA.zero,[[.str H.2.aB.name,.int i64 H.2.aB.kind,.int i64 H.2.aB.aU,.int i64 H.2.aB.home,.own 3 0 H.2.aS.length,.own 4 0 H.2.aN.length,.own 5 0 H.2.aW.length,.int i64 H.2.gen]]⟩),(3,sx H.2.aS),(4,sx H.2.aN),(5,sx H.2.aW)],6⟩
abbrev bJw:=mkL x (@xE.eq_1) λ H=>⟨[(0,.ptr 0 0 0),(2,.ptr 1 0 0),(3,.ptr 2 0 0),(8,.int i64 H.1)],[(0,bx H.2.1),(1,bx aA.zero),(2,⟨false,8,aA.enc aA.zero,[[.str H.2.2.aB.name,.int i64 H.2.2.aB.kind,.int i64 H.2.2.aB.aU,.int i64 H.2.2.aB.home,.own 3 0 H.2.2.aS.length,.own 4 0 H.2.2.aN.length,.own 5 0 H.2.2.aW.length,.int i64 H.2.2.gen]]⟩),(3,sx H.2.2.aS),(4,sx H.2.2.aN),(5,sx H.2.2.aW)],6⟩
abbrev bJx (j1:aX×aA):=mkJ (Fe j1,v1) 2 (@Fd.eq_1) λ H=>⟨[(0,.ptr 0 0 0),(2,.ptr 1 0 0),(3,.ptr 2 0 0)],[(0,bx H.1),(1,bx aA.zero),(2,⟨false,8,aA.enc aA.zero,[[.str H.2.aB.name,.int i64 H.2.aB.kind,.int i64 H.2.aB.aU,.int i64 H.2.aB.home,.own 3 0 H.2.aS.length,.own 4 0 H.2.aN.length,.own 5 0 H.2.aW.length,.int i64 H.2.gen]]⟩),(3,sx H.2.aS),(4,sx H.2.aN),(5,sx H.2.aW)],6⟩
abbrev bJy:=mkL x (@xF.eq_1) λ H=>⟨[(0,.ptr 0 0 0),(2,.ptr 1 0 0),(3,.ptr 2 0 0),(6,.int i64 H.1)],[(0,bx H.2.1),(1,bx aA.zero),(2,⟨false,8,aA.enc aA.zero,[[.str H.2.2.aB.name,.int i64 H.2.2.aB.kind,.int i64 H.2.2.aB.aU,.int i64 H.2.2.aB.home,.own 3 0 H.2.2.aS.length,.own 4 0 H.2.2.aN.length,.own 5 0 H.2.2.aW.length,.int i64 H.2.2.gen]]⟩),(3,sx H.2.2.aS),(4,sx H.2.2.aN),(5,sx H.2.2.aW)],6⟩
abbrev bJz (H:aX):=mkJ ((((((vY H,v1),v2),v3),v4),v5),v6) 0 (@Fe.eq_1) λ j1=>⟨[(0,.ptr 0 0 0),(2,.ptr 1 0 0),(3,.ptr 2 0 0)],[(0,bx j1.1),(1,bx aA.zero),(2,⟨false,8,aA.enc aA.zero,[[.str j1.2.aB.name,.int i64 j1.2.aB.kind,.int i64 j1.2.aB.aU,.int i64 j1.2.aB.home,.own 3 0 j1.2.aS.length,.own 4 0 j1.2.aN.length,.own 5 0 j1.2.aW.length,.int i64 j1.2.gen]]⟩),(3,sx j1.2.aS),(4,sx j1.2.aN),(5,sx j1.2.aW)],6⟩
abbrev bK0:=mkL x (@xG.eq_1) λ H=>⟨[(0,.ptr 0 0 0),(2,.ptr 1 0 0),(3,.ptr 2 0 0),(4,.int i64 H.1)],[(0,bx H.2.1),(1,bx aA.zero),(2,⟨false,8,aA.enc aA.zero,[[.str H.2.2.aB.name,.int i64 H.2.2.aB.kind,.int i64 H.2.2.aB.aU,.int i64 H.2.2.aB.home,.own 3 0 H.2.2.aS.length,.own 4 0 H.2.2.aN.length,.own 5 0 H.2.2.aW.length,.int i64 H.2.2.gen]]⟩),(3,sx H.2.2.aS),(4,sx H.2.2.aN),(5,sx H.2.2.aW)],6⟩
attribute[instance]bJv bJw bJx bJy bJz bK0
instance bK1(H:aX):OkM (vY H) 164 [.ptr 0 0 0] [(0,bx H)] 1 (λ r=>ga r.1) (λ r=>[(0,bx r.2)]) 1:=⟨λ r h=>by
 refine pF f164 [(3,114)] [ga r.1] λ E hG hN hK=>?_;have hm:Mk (vY H):=trivial;unfold vY at h;refine zq ?_;refine zq ?_;refine g_gh (.ownb 2 4 5 (bA.enc bA.zero)) ?_;refine g_gh (.ownb 2 5 7 (aV.enc aV.zero)) ?_;refine g_gh (.ownb 2 6 7 (aV.enc aV.zero)) ?_;refine zq ?_;obtain⟨v1,O,h⟩:=mG h;have hm:=mkP hm v1;refine mU [(0,0)] [] [0] ((Uj H).ok _ O) rfl rfl ?_;refine zq ?_;obtain⟨v2,hv2,h⟩:=mG h;have hm:=mkP hm v2;refine mU [(0,0)] [] [0] ((HA v1.2).ok _ hv2) rfl rfl ?_;refine zq ?_;obtain⟨v3,hv3,h⟩:=mG h;have hm:=mkP hm v3;refine mU [(0,0)] [] [0] ((HA v2.2).ok _ hv3) rfl rfl ?_;refine zq ?_;obtain⟨v4,hv4,h⟩:=mG h;have hm:=mkP hm v4;refine mU [(0,0)] [] [0] ((HA v3.2).ok _ hv4) rfl rfl ?_;refine zq ?_;obtain⟨v5,hv5,h⟩:=mG h;have hm:=mkP hm v5;refine mU [(0,0)] [] [0] ((HA v4.2).ok _ hv5) rfl rfl ?_;refine mD (zq ?_);obtain⟨v6,U,h⟩:=mG h;have hm:=mkP hm v6;refine mU [(0,0)] [] [0] ((KW 8 v5.2).ok _ U) rfl rfl ?_;refine yK hm h (λ j1 hm h=>?_) ?_
 · try refine g_st ?_
   refine mD (zq ?_);obtain⟨F,Y,h⟩:=mG h;have hm:=mkP hm F;refine mU [(0,0)] [] [0] ((KW 8 j1.1).ok _ Y) rfl rfl ?_;refine yK hm h (λ M hm h=>?_) ?_
   · try refine g_st ?_
     refine mD (zq ?_);obtain⟨v8,B,h⟩:=mG h;have hm:=mkP hm v8;refine mU [(0,0)] [] [0] ((KW 8 M.1).ok _ B) rfl rfl ?_;refine yK hm h (λ j3 hm h=>?_) ?_
     · try refine g_st ?_
       refine zq ?_;refine g_gh (.fz [3,4,5]) ?_;exact gogo
     exact gogo
   exact gogo
 exact gogo⟩
def OK(j1:(List aK)):Option (List aK):=(n5 j1).bind λ v1=>some v1
def H3(O:List aA)(H:Int×(List aK)):Option ((Int×(List aK))⊕(List aK)):=(if decide (H.1<O.length)then gd (0<=H.1/\H.1<O.length)<|(CJ (O.getD H.1.toNat aA.zero)).bind λ v2=>gd (H.2.length+v2.length<=4294967296)<|some (.inl (i64.wrap (H.1+1),H.2++v2))else some (.inr H.2))
def p9(H:List aA):Option (List aK):=(mF (H3 H) (0,[])).bind (λ z=>OK z)
abbrev bK4 a0:=mkJ (p9 a0) 0 (@OK.eq_1) λ j1=>⟨[(3,.own 0 0 j1.length)],[(0,sx j1)],1⟩
abbrev bK5 (O:List aA):=mkL x (@H3.eq_1 O) λ H=>⟨[(0,la O),(3,.own 0 0 H.2.length),(4,.int i64 H.1)],[(0,sx H.2)],1⟩
attribute[instance]bK4 bK5
instance bK6(H:List aA):OkP (p9 H) 91 [la H] la:=ok1 (p9.eq_1 H) f91 [(3,1)]
def Ff(H:bB)(O:bO):Option (bB×Int):=(uZ H).bind λ v1=>(if !v1 then some ({bB.zero with},2)else gd (H.aQ.length<=4294967296)<|gd (H.aQ.length+1<=4294967296)<|gd (H.bI.length<=4294967296)<|(uZ (⟨H.aQ++[O],H.bI⟩:bB)).bind λ v2=>(if !v2 then some ({bB.zero with},1)else some ((⟨H.aQ++[O],H.bI⟩:bB),0)))
instance bK7(H:bB)(O:bO):OkP (Ff H O) 235 [ga H,ga O] (λ r=>.tup [ga r.1,.int i64 r.2]):=ok1 (Ff.eq_1 H O) f235 [(11,1),(18,1),(22,2)]
def OL(j1:Int)(H:(List aV)):Option ((List aV)×Int×Int):=some (H,j1,0)
def H4(O:List aV)(H:Int×(List aV)):Option ((Int×(List aV))⊕(List aV)):=(if decide (H.1<O.length)then gd (0<=H.1/\H.1<O.length)<|gd (H.2.length+1<=4294967296)<|some (.inl (i64.wrap (H.1+1),H.2++[{(O.getD H.1.toNat aV.zero)with bS:=(i64.wrap ((O.getD H.1.toNat aV.zero).bS+1))}]))else some (.inr H.2))
def H5(H:List aV)(O:aV)(j1:Int):Option ((List aV)×Int×Int):=gd (0<=0/\0<=j1/\j1<=H.length)<|gd ((H.take j1.toNat).length<=4294967296)<|gd ((H.take j1.toNat).length+1<=4294967296)<|(mF (H4 H) (j1,H.take j1.toNat++[O])).bind (λ z=>OL j1 z)
def Lk(O:List aV)(U:aV)(H:Int):Option (Int⊕Int):=gd (decide (0<H)=true->0<=i64.wrap (H-1)/\i64.wrap (H-1)<(O.length:Int))<|gd ((decide (0<H)&&decide ((O.getD (i64.wrap (H-1)).toNat aV.zero).bE<U.bE))=true->0<=i64.wrap (H-1)/\i64.wrap (H-1)<(O.length:Int))<|(if (decide (0<H)&&decide ((O.getD (i64.wrap (H-1)).toNat aV.zero).bE<U.bE))&&decide ((O.getD (i64.wrap (H-1)).toNat aV.zero).bS<3)then some (.inl (i64.wrap (H-1)))else some (.inr H))
def CY(H:List aV)(O:aV):Option ((List aV)×Int×Int):=(AX H).bind λ v1=>(if !v1 then some ([],0,2)else(if (!(yR O))||(!decide (O.bS=0))then some ([],0,1)else(wX H O.aM).bind λ v2=>(if decide (0<=v2)then some ([],0,11)else(if decide ((H.length:Int)=8)then some ([],0,4)else(mF (Lk H O) (H.length:Int)).bind (λ z=>H5 H O z)))))
abbrev bKc a0 a1 (j1:Int):=mkJ (H5 a0 a1 j1) 2 (@OL.eq_1 j1) λ H=>⟨[(7,.int i64 j1),(8,.own 0 0 H.length)],[(0,sx H)],1⟩
abbrev bKd (H:List aV) a1 (j1:Int):=mkL (H5 H a1 j1) (@H4.eq_1 H) λ O=>⟨[(0,la H),(7,.int i64 j1),(8,.own 0 0 O.2.length),(9,.int i64 O.1)],[(0,sx O.2)],1⟩
abbrev bKe (H:List aV) (O:aV):=mkJ ((CY H O,v1),v2) 0 (@H5.eq_1 H O) λ j1=>⟨[(0,la H),(3,.ptr 0 0 0),(7,.int i64 j1)],[(0,bx O)],1⟩
abbrev bKf (H:List aV) (O:aV):=mkL x (@Lk.eq_1 H O) λ U=>⟨[(0,la H),(3,.ptr 0 0 0),(7,.int i64 U)],[(0,bx O)],1⟩
attribute[instance]bKc bKd bKe bKf
instance bKg(H:List aV)(O:aV):OkP (CY H O) 279 [la H,ga O] (λ r=>.tup [la r.1,.int i64 r.2.1,.int i64 r.2.2]):=ok1 (CY.eq_1 H O) f279 [(56,1)]
def OM(j1:(List Int)):Option (List Int):=some j1
def H6(O:aP)(H:Int×(List Int)):Option ((Int×(List Int))⊕(List Int)):=(if decide (H.1<O.lower.length)then gd (0<=H.1/\H.1<O.lower.length)<|(EI H.2 (O.lower.getD H.1.toNat aO.zero).name).bind λ v6=>(pW v6 (u64.wrap ((O.lower.getD H.1.toNat aO.zero).aI).mode)).bind λ U=>(pW U (u64.wrap ((O.lower.getD H.1.toNat aO.zero).aI).aU)).bind λ Y=>some (.inl (i64.wrap (H.1+1),Y))else some (.inr H.2))
def CZ(O:List Int)(H:aP):Option (List Int):=gd (O.length<=4294967296)<|(o4 H).bind λ v1=>(if !v1 then some O else(Cv O H.aM).bind λ v2=>(pW v2 (u64.wrap (i64.wrap (H.label+1)))).bind λ v3=>(pW v3 (u64.wrap H.cost)).bind λ v4=>(pW v4 (u64.wrap (H.lower.length:Int))).bind λ v5=>(mF (H6 H) (0,v5)).bind (λ z=>OM z))
abbrev bKj a0 a1:=mkJ (((((CZ a0 a1,v1),v2),v3),v4),v5) 0 (@OM.eq_1) λ j1=>⟨[(0,.own 0 0 j1.length)],[(0,⟨false,1,[A.int u8 0],j1.map (eI u8)⟩)],1⟩
abbrev bKk (H:aP):=mkL x (@H6.eq_1 H) λ O=>⟨[(0,.own 0 0 O.2.length),(35,la H.lower),(36,.int i64 H.lower.length),(37,.int i64 O.1)],[(0,⟨false,1,[A.int u8 0],O.2.map (eI u8)⟩)],1⟩
attribute[instance]bKj bKk
instance bKl(H:List Int)(O:aP):OkM (CZ H O) 62 [.sl (H.map (eI u8)),ga O] [] 0 (λ r=>.own 0 0 r.length) (λ r=>[(0,⟨false,1,[A.int u8 0],r.map (eI u8)⟩)]) 1:=okm (CZ.eq_1 H O) (λ r=>[.own 0 0 r.length]) f62 [(4,1),(16,1),(44,1)]
def UO(j1:Unit):Option Bool:=some true
def Fg(H:aA)(O:Int):Option (Int⊕(Unit⊕Bool)):=(if decide (O<H.aN.length)then gd (0<=O/\O<H.aN.length)<|(Cr H (H.aN.getD O.toNat aV.zero).aM).bind λ v1=>(j9 H.aN (H.aN.getD O.toNat aV.zero).aM).bind λ v2=>(if (!decide (v2=O))||oW v1 then some (.inr (.inr false))else(if mS H.aB ((H.aN.getD O.toNat aV.zero).aI)then EY H.aB (H.aN.getD O.toNat aV.zero).aI v1 else some false).bind λ v3=>(if ((!(mS H.aB (H.aN.getD O.toNat aV.zero).aI))||(!v3))||decide ((H.aN.getD O.toNat aV.zero).aI=v1)then some (.inr (.inr false))else(if (!decide ((H.aN.getD O.toNat aV.zero).bE=0))||(!decide ((H.aN.getD O.toNat aV.zero).bS=0))then some (.inr (.inr false))else some (.inl (i64.wrap (O+1))))))else some (.inr (.inl ())))
def C0(H:aA):Option Bool:=(if decide (8<(H.aN.length:Int))then some false else(mF (Fg H) 0).bind (λ|.inl z=>UO z|.inr z=>some z))
abbrev bKn a0:=mkJ (C0 a0) 0 (@UO.eq_1) λ j1=>⟨[],[],0⟩
abbrev bKo (H:aA):=mkL x (@Fg.eq_1 H) λ O=>⟨[(1,.ptr 0 0 0),(11,la H.aN),(12,.int i64 H.aN.length),(13,.int i64 O)],[(0,bx H)],1⟩
attribute[instance]bKn bKo
instance bKp(H:aA):OkP (C0 H) 270 [ga H] .bool:=ok1 (C0.eq_1 H) f270 []
def q5(H:List aK):Option (List aK):=gd (H.length<=4294967296)<|(E2 H).bind λ v1=>(AB v1).bind λ v2=>some v2.1
def bKq(O:List aK)(r:(List aK))(h:q5 O=some r):PFn C 225 [la O] (la r):=by refine oT f225 [] λ E hG B hK=>?_;unfold q5 at h;refine zq ?_;refine mD ?_;obtain⟨Y,h⟩:=mM h;refine mE hG ?_;refine zq ?_;obtain⟨v1,H,h⟩:=mG h;have U:=bH2 O _ H;refine mU [(0,0)] [] [0] (bH3 _ _ H) rfl rfl ?_;refine zq ?_;obtain⟨v2,hv2,h⟩:=mG h;refine mU [(0,0)] [] [0] ((aTf v1).ok _ hv2) rfl rfl ?_;refine mO ?_;exact nU h
instance bKr(H:List aK):OkP (q5 H) 225 [la H] la:=⟨bKq H⟩
def ON(H:aJ)(O:List bA)(j1:Unit):Option Bool:=(B7 O).bind λ v1=>(CS H v1).bind λ v2=>some v2
def H7(U:aJ)(O:List bA)(H:Int):Option (Int⊕(Unit⊕Bool)):=(if decide (H<O.length)then gd (0<=H/\H<O.length)<|gd (pJ (O.getD H.toNat bA.zero).aM=true->0<=H/\H<O.length)<|gd (((!((!(pJ (O.getD H.toNat bA.zero).aM))||(!(qW U (O.getD H.toNat bA.zero).aI))))&&decide (0<H))=true->0<=i64.wrap (H-1)/\i64.wrap (H-1)<(O.length:Int))<|gd (((!((!(pJ (O.getD H.toNat bA.zero).aM))||(!(qW U (O.getD H.toNat bA.zero).aI))))&&decide (0<H))=true->0<=H/\H<O.length)<|(if ((!(pJ (O.getD H.toNat bA.zero).aM))||(!(qW U (O.getD H.toNat bA.zero).aI)))||(decide (0<H)&&decide (0<=vW (O.getD (i64.wrap (H-1)).toNat bA.zero).aM (O.getD H.toNat bA.zero).aM))then some (.inr (.inr false))else some (.inl (i64.wrap (H+1))))else some (.inr (.inl ())))
def q6(H:aJ)(O:List bA):Option Bool:=(if (!(l5 H))||decide (8<(O.length:Int))then some false else(mF (H7 H O) 0).bind (λ|.inl z=>ON H O z|.inr z=>some z))
abbrev bKu (H:aJ) (O:List bA):=mkJ (q6 H O) 0 (@ON.eq_1 H O) λ j1=>⟨[(1,la O),(2,.ptr 0 0 0)],[(0,bx H)],1⟩
abbrev bKv (H:aJ) (O:List bA):=mkL x (@H7.eq_1 H O) λ U=>⟨[(1,la O),(2,.ptr 0 0 0),(5,.int i64 U)],[(0,bx H)],1⟩
attribute[instance]bKu bKv
instance bKw(H:aJ)(O:List bA):OkP (q6 H O) 246 [ga H,la O] .bool:=ok1 (q6.eq_1 H O) f246 []
def OO(H j1:bB):Option (bB×Bool):=(if decide (((j1.aQ.length:Nat):Int)=(H.aQ.length:Int))then some ({bB.zero with},false)else some (j1,true))
def OP(H:Int×bB)(O:bB):Option ((Int×bB)⊕bB):=some (.inl (i64.wrap (H.1+1),O))
def H8(O:bB)(U H:Int×bB):Option ((Int×bB)⊕bB):=(if decide (H.1<((H.2.bI.length:Nat):Int))then gd (0<=H.1/\H.1<O.bI.length)<|(if decide (U.1<(O.bI.getD H.1.toNat bV.zero).at_)then gd (0<=H.1/\H.1<((H.2.bI.length:Nat):Int))<|gd (0<=H.1/\H.1<((H.2.bI.length:Nat):Int))<|some (.inl (i64.wrap (H.1+1),(⟨H.2.aQ,H.2.bI.set H.1.toNat ({(H.2.bI.getD H.1.toNat bV.zero)with at_:=(i64.wrap ((H.2.bI.getD H.1.toNat bV.zero).at_-1))})⟩:bB)))else some (.inl (i64.wrap (H.1+1),H.2)))else some (.inr H.2))
def Fh(O:bB)(U:ByteArray)(H:Int×bB):Option ((Int×bB)⊕bB):=(if decide (H.1<O.aQ.length)then gd (0<=H.1/\H.1<O.aQ.length)<|(if !(((O.aQ.getD H.1.toNat bO.zero).name).toList==U.toList)then gd (0<=H.1/\H.1<O.aQ.length)<|gd (H.2.aQ.length+1<=4294967296)<|some (.inl (i64.wrap (H.1+1),(⟨H.2.aQ++[O.aQ.getD H.1.toNat bO.zero],H.2.bI⟩:bB)))else(mF (H8 O H) (0,H.2)).bind (λ z=>OP H z))else some (.inr H.2))
def A8(H:bB)(O:ByteArray):Option (bB×Bool):=(uZ H).bind λ v1=>(if !v1 then some ({bB.zero with},false)else gd (H.bI.length<=4294967296)<|(mF (Fh H O) (0,(⟨[],H.bI⟩:bB))).bind (λ z=>OO H z))
abbrev bL1 (H:bB) (O:ByteArray):=mkJ (A8 H O,v1) 0 (@OO.eq_1 H) λ j1=>⟨[(2,.ptr 0 0 0),(4,.ptr 1 0 0),(6,.ptr 2 0 0)],[(0,bx H),(1,bx bB.zero),(2,⟨false,2,bB.enc bB.zero,[[.own 3 0 j1.aQ.length,.own 4 0 j1.bI.length]]⟩),(3,sx j1.aQ),(4,sx j1.bI)],5⟩
abbrev bL2 (U:bB) (Y:ByteArray) (O:Int×bB):=mkJ (Fh U Y O) 2 (@OP.eq_1 O) λ H=>⟨[(1,.str Y),(2,.ptr 0 0 0),(4,.ptr 1 0 0),(6,.ptr 2 0 0),(7,.int i64 O.1)],[(0,bx U),(1,bx bB.zero),(2,⟨false,2,bB.enc bB.zero,[[.own 3 0 H.aQ.length,.own 4 0 H.bI.length]]⟩),(3,sx H.aQ),(4,sx H.bI)],5⟩
abbrev bL3 (O:bB) (Y:ByteArray) (U:Int×bB):=mkL (Fh O Y U) (@H8.eq_1 O U) λ H=>⟨[(1,.str Y),(2,.ptr 0 0 0),(4,.ptr 1 0 0),(6,.ptr 2 0 0),(7,.int i64 U.1),(8,.int i64 H.1)],[(0,bx O),(1,bx bB.zero),(2,⟨false,2,bB.enc bB.zero,[[.own 3 0 H.2.aQ.length,.own 4 0 H.2.bI.length]]⟩),(3,sx H.2.aQ),(4,sx H.2.bI)],5⟩
abbrev bL4 (O:bB) (U:ByteArray):=mkL x (@Fh.eq_1 O U) λ H=>⟨[(1,.str U),(2,.ptr 0 0 0),(4,.ptr 1 0 0),(6,.ptr 2 0 0),(7,.int i64 H.1)],[(0,bx O),(1,bx bB.zero),(2,⟨false,2,bB.enc bB.zero,[[.own 3 0 H.2.aQ.length,.own 4 0 H.2.bI.length]]⟩),(3,sx H.2.aQ),(4,sx H.2.bI)],5⟩
attribute[instance]bL1 bL2 bL3 bL4
instance bL5(H:bB)(O:ByteArray):OkP (A8 H O) 237 [ga H,.str O] (λ r=>.tup [ga r.1,.bool r.2]):=⟨λ r h=>by
 refine oT f237 [(13,1),(17,5),(6,5)] λ E hG B hK=>?_;have hm:Mk (A8 H O):=trivial;unfold A8 at h;refine zq ?_;refine mD (zq ?_);obtain⟨v1,U,h⟩:=mG h;have hm:=mkP hm v1;refine nK (λ hg=>(Uw H).ok _ U) ?_;refine mJ rfl hG h (λ _ h=>?_) (λ _ h=>?_)
 .exact gogo
 refine mN ?_;refine mD ?_;obtain⟨Y,h⟩:=mM h;refine mE hG ?_;refine g_gh (.ownb 4 0 5 (bO.enc bO.zero)) ?_;exact gogo⟩
def OQ(H:bB)(j1:Int×Int)(O:(List aO)):Option (bB×(List aO)×Int):=some ((⟨H.aQ.take j1.1.toNat,H.bI.take j1.2.toNat⟩:bB),O,0)
@[go_sem] def bL7(H:bB)(j1:Int×Int)(O:(List aO)):St:=⟨[(4,.ptr 0 0 0),(10,.ptr 1 0 0),(11,.own 2 0 O.length)],[(0,bx bB.zero),(1,⟨false,2,bB.enc bB.zero,[[.own 3 0 ((⟨(H.aQ.take j1.1.toNat),H.bI.take j1.2.toNat⟩:bB).aQ).length,.own 4 0 ((⟨(H.aQ.take j1.1.toNat),H.bI.take j1.2.toNat⟩:bB).bI).length]]⟩),(2,sx O),(3,sx (⟨(H.aQ.take j1.1.toNat),H.bI.take j1.2.toNat⟩:bB).aQ),(4,sx (⟨(H.aQ.take j1.1.toNat),H.bI.take j1.2.toNat⟩:bB).bI)],5⟩
def H9(O:bB)(j1:Int×Int)(v2:(List ByteArray))(H:Int×(List aO)):Option ((Int×(List aO))⊕(List aO)):=(if decide (H.1<v2.length)then gd (0<=H.1/\H.1<v2.length)<|gd (0<=H.1/\H.1<v2.length)<|(tX (⟨O.aQ.take j1.1.toNat,O.bI.take j1.2.toNat⟩:bB).aQ (v2.getD H.1.toNat ⟨#[]⟩)).bind λ v3=>gd (H.2.length+1<=4294967296)<|some (.inl (i64.wrap (H.1+1),H.2++[(⟨v2.getD H.1.toNat ⟨#[]⟩,v3⟩:aO)]))else some (.inr H.2))
@[go_sem] def bL9(H:bB)(j1:Int×Int)(v2:(List ByteArray))(O:Int×(List aO)):St:=⟨[(4,.ptr 0 0 0),(10,.ptr 1 0 0),(11,.own 2 0 O.2.length),(12,.sl (v2.map eS)),(13,.int i64 O.1)],[(0,bx bB.zero),(1,⟨false,2,bB.enc bB.zero,[[.own 3 0 ((⟨(H.aQ.take j1.1.toNat),H.bI.take j1.2.toNat⟩:bB).aQ).length,.own 4 0 ((⟨(H.aQ.take j1.1.toNat),H.bI.take j1.2.toNat⟩:bB).bI).length]]⟩),(2,sx O.2),(3,sx (⟨(H.aQ.take j1.1.toNat),H.bI.take j1.2.toNat⟩:bB).aQ),(4,sx (⟨(H.aQ.take j1.1.toNat),H.bI.take j1.2.toNat⟩:bB).bI)],5⟩
def Fi(H:bB)(j1:Int×Int):Option (bB×(List aO)×Int):=gd (0<=0/\0<=j1.1/\j1.1<=H.aQ.length)<|gd ((H.aQ.take j1.1.toNat).length<=4294967296)<|gd (0<=0/\0<=j1.2/\j1.2<=H.bI.length)<|gd ((H.bI.take j1.2.toNat).length<=4294967296)<|gd (0<=j1.1/\j1.1<=(H.aQ.length:Int)/\(H.aQ.length:Int)<=(H.aQ.length:Int))<|(yO (H.aQ.drop j1.1.toNat)).bind λ v2=>(mF (H9 H j1 v2) (0,[])).bind (λ z=>OQ H j1 z)
@[go_sem] def bLb(H:bB)(j1:Int×Int):St:=⟨[(2,.ptr 0 0 0),(4,.ptr 1 0 0),(7,.int i64 j1.1),(8,.int i64 j1.2)],[(0,bx H),(1,bx bB.zero)],2⟩
def q7(H:bB)(O:Int):Option (bB×(List aO)×Int):=(uZ H).bind λ v1=>(if !v1 then some ({bB.zero with},[],2)else(if !decide (O=0)then(l8 H.bI O).bind λ v4=>(if decide (v4<0)then some ({bB.zero with},[],10)else gd (0<=v4/\v4<H.bI.length)<|Fi H ((H.bI.getD v4.toNat bV.zero).at_,i64.wrap (v4+1)))else Fi H (0,0)))
def UP(O:bB)(Y:Int)(r:bB×(List aO)×Int)(h:q7 O Y=some r):PFn C 100 [ga O,.int i64 Y] (.tup [ga r.1,la r.2.1,.int i64 r.2.2]):=by
 refine oT f100 [(35,1),(41,1),(47,2),(11,1)] λ E hG hN hK=>?_;unfold q7 at h;refine zq ?_;refine mD (zq ?_);obtain⟨v1,B,h⟩:=mG h;refine nK (λ hg=>(Uw O).ok _ B) ?_;refine mJ rfl hG h (λ _ h=>?_) (λ _ h=>?_)
 · refine zq ?_
   refine mO ?_;exact nU h
 refine mN ?_;refine zq ?_;refine mD (zq ?_);refine rV (bLb O) (λ v=>Fi O v=some r) rfl hG h ?_ (λ _ h=>?_) (λ _ h=>?_)
 · intro j1 h
   unfold Fi at h;refine g_st ?_;refine mD ?_;obtain⟨x0,h⟩:=mM h;obtain⟨y0,h⟩:=mM h;obtain⟨z0,h⟩:=mM h;obtain⟨u0,h⟩:=mM h;refine qJ oS hG ?_;refine zq ?_;refine mD ?_;obtain⟨p0,h⟩:=mM h;refine mE hG ?_;obtain⟨v2,hv2,h⟩:=mG h;refine nK (λ hg=>(aXx (O.aQ.drop j1.1.toNat)).ok _ hv2) ?_;refine mD (zq ?_);refine qA (bL7 O j1) (λ v=>OQ O j1 v=some r) ?_ ?_
   · intro j2 h
     unfold OQ at h;refine g_st ?_;refine zq ?_;refine mO ?_;exact nU h
   refine qO (bL9 O j1 v2) hK [(0,1),(1,6),(2,7),(3,3),(4,5)] h (λ F h M h0 H U=>?_);unfold H9 at H;refine g_st ?_;refine mD (zq ?_);refine mJ rfl hG H (λ _ H=>?_) (λ _ H=>?_)
   · refine mN ?_
     refine mD (oM ?_);obtain⟨q0,H⟩:=mM H;obtain⟨r0,H⟩:=mM H;refine qJ oS hG ?_;obtain⟨v3,hv3,H⟩:=mG H;obtain⟨s0,H⟩:=mM H;refine sK (λ hg=>(aUe (⟨(O.aQ.take j1.1.toNat),O.bI.take j1.2.toNat⟩:bB).aQ (v2.getD M.1.toNat ⟨#[]⟩)).ok _ hv3) ?_;refine mE hG ?_;exact pA hK [(0,0),(1,1),(2,5),(3,3),(4,4)] H
   refine oO ?_;cases H;cases U _ rfl;exact nA hK [(0,0),(1,1),(2,2),(3,3),(4,4)] M.2 (by exact h)
 · refine zq ?_
   obtain⟨v4,hv4,h⟩:=mG h;refine nK (λ hg=>(aY2 O.bI Y).ok _ hv4) ?_;refine mD (zq ?_);refine mJ rfl hG h (λ _ h=>?_) (λ _ h=>?_)
   · refine zq ?_
     refine mO ?_;exact nU h
   refine mN ?_;obtain⟨t0,h⟩:=mM h;refine mE hG ?_;exact nA hK [(0,0),(1,1)] ((O.bI.getD v4.toNat bV.zero).at_,i64.wrap (v4+1)) (by exact h)
 refine mN ?_;exact nA hK [(0,0),(1,1)] (0,0) (by exact h)
instance bLd(H:bB)(O:Int):OkP (q7 H O) 100 [ga H,.int i64 O] (λ r=>.tup [ga r.1,la r.2.1,.int i64 r.2.2]):=⟨UP H O⟩
def UQ(j1:(List aK)):Option (List aK):=(HI j1).bind λ v1=>some v1
def UR(O:List aA)(H:Int×(List aK)):Option ((Int×(List aK))⊕(List aK)):=(if decide (H.1<O.length)then gd (0<=H.1/\H.1<O.length)<|(CJ (O.getD H.1.toNat aA.zero)).bind λ v2=>gd (H.2.length+v2.length<=4294967296)<|some (.inl (i64.wrap (H.1+1),H.2++v2))else some (.inr H.2))
def Fj(H:List aA):Option (List aK):=(mF (UR H) (0,[])).bind (λ z=>UQ z)
abbrev bLg a0:=mkJ (Fj a0) 0 (@UQ.eq_1) λ j1=>⟨[(3,.own 0 0 j1.length)],[(0,sx j1)],1⟩
abbrev bLh (O:List aA):=mkL x (@UR.eq_1 O) λ H=>⟨[(0,la O),(3,.own 0 0 H.2.length),(4,.int i64 H.1)],[(0,sx H.2)],1⟩
attribute[instance]bLg bLh
instance bLi(H:List aA):OkM (Fj H) 91 [la H] [] 0 (λ r=>.own 0 0 r.length) (λ r=>[(0,sx r)]) 1:=okm (Fj.eq_1 H) (λ r=>[.own 0 0 r.length]) f91 [(2,1),(3,1),(19,1)]
def Fk(H:aA):Option Bool:=(ES H.aB).bind λ v1=>(if v1 then o8 H.aB H.aS else some false).bind λ v2=>(if v1&&v2 then C0 H else some false).bind λ v3=>(if (v1&&v2)&&v3 then CX H else some false).bind λ v4=>some (((((v1&&v2)&&v3)&&v4)&&decide (0<=H.gen))&&decide (H.gen<=1073741824))
instance bLj(H:aA):OkP (Fk H) 251 [ga H] .bool:=ok1 (Fk.eq_1 H) f251 []
def US(j1:(List aA)):Option ((List aA)×Int):=some (j1,0)
def Ll(O:List aJ)(H:Int×(List aA)):Option ((Int×(List aA))⊕(List aA)):=(if decide (H.1<O.length)then gd (0<=H.1/\H.1<O.length)<|gd (H.2.length+1<=4294967296)<|some (.inl (i64.wrap (H.1+1),H.2++[{aA.zero with aB:=(O.getD H.1.toNat aJ.zero)}]))else some (.inr H.2))
def C1(H:List aJ):Option ((List aA)×Int):=(A3 H).bind λ v1=>(if !v1 then some ([],1)else(mF (Ll H) (0,[])).bind (λ z=>US z))
abbrev bLm a0:=mkJ (C1 a0,v1) 0 (@US.eq_1) λ j1=>⟨[(4,.own 0 0 j1.length)],[(0,sx j1)],1⟩
abbrev bLn (O:List aJ):=mkL x (@Ll.eq_1 O) λ H=>⟨[(0,la O),(4,.own 0 0 H.2.length),(5,.int i64 H.1)],[(0,sx H.2)],1⟩
attribute[instance]bLm bLn
instance bLo(H:List aJ):OkP (C1 H) 88 [la H] (λ r=>.tup [la r.1,.int i64 r.2]):=ok1 (C1.eq_1 H) f88 [(4,1)]
def UT(v1 v2:aC)(v3:aC×Bool)(j1:Unit):Option Bool:=some (decide (v2=v1)&&(!v3.2))
def UU(v1 v2:aC)(v3:aC×Bool)(v4:aC)(H:Unit):Option (Int⊕(Unit⊕Bool)):=some (.inr (.inr (decide (v2=v1)&&decide (v3.1=v4))))
def Fl(O:aA)(U:aG)(H:Int):Option (Int⊕(Unit⊕Bool)):=(if decide (H<O.aW.length)then gd (0<=H/\H<O.aW.length)<|gd (decide ((O.aW.getD H.toNat aV.zero).aM=U.aM)=true->0<=H/\H<O.aW.length)<|(if decide ((O.aW.getD H.toNat aV.zero).aM=U.aM)&&(!decide ((O.aW.getD H.toNat aV.zero).bE=U.bK.bE))then some (.inr (.inr false))else some (.inl (i64.wrap (H+1))))else some (.inr (.inl ())))
def Fm(U:aA)(Y:aG)(O:List aO)(v1 v2:aC)(v3:aC×Bool)(H:Int):Option (Int⊕(Unit⊕Bool)):=(if decide (H<O.length)then gd (0<=H/\H<O.length)<|(if (!(((O.getD H.toNat aO.zero).name).toList==U.aB.name.toList))||sG U.aB v1 ((O.getD H.toNat aO.zero).aI)then some (.inl (i64.wrap (H+1)))else(CT U.aB v1 (O.getD H.toNat aO.zero).aI).bind λ v4=>(if !v3.2 then some (.inr (.inr (decide (v2=v4))))else(mF (Fl U Y) 0).bind (λ|.inl z=>UU v1 v2 v3 v4 z|.inr z=>some (.inr (.inr z)))))else some (.inr (.inl ())))
def C2(H:aA)(O:aG)(U:List aO):Option Bool:=(tX O.bH.aQ H.aB.name).bind λ v1=>(sF H O.aM).bind λ v2=>(uR H O.aM).bind λ v3=>(mF (Fm H O U v1 v2 v3) 0).bind (λ|.inl z=>UT v1 v2 v3 z|.inr z=>some z)
abbrev bLt a0 a1 a2 (v1 v2:aC) (v3:aC×Bool):=mkJ (((C2 a0 a1 a2,v1),v2),v3) 0 (@UT.eq_1 v1 v2 v3) λ j1=>⟨[(7,.ptr 0 0 0),(8,.ptr 1 0 0),(10,.bool v3.2)],[(0,bx v1),(1,bx v2)],2⟩
abbrev bLu a0 a1 a2 (v1 v2:aC) (v3:aC×Bool) g1 (v4:aC):=mkJ (Fm a0 a1 a2 v1 v2 v3 g1,v4) 2 (@UU.eq_1 v1 v2 v3 v4) λ H=>⟨[(7,.ptr 0 0 0),(8,.ptr 1 0 0),(9,.ptr 2 0 0),(13,.ptr 3 0 0)],[(0,bx v1),(1,bx v2),(2,bx v3.1),(3,bx v4)],4⟩
abbrev bLv (H:aA) (O:aG) a2 (v1 v2:aC) (v3:aC×Bool) g1 (v4:aC):=mkL (Fm H O a2 v1 v2 v3 g1,v4) (@Fl.eq_1 H O) λ U=>⟨[(3,.ptr 0 0 0),(4,.ptr 1 0 0),(7,.ptr 2 0 0),(8,.ptr 3 0 0),(9,.ptr 4 0 0),(13,.ptr 5 0 0),(14,.int i64 U)],[(0,bx H),(1,bx O),(2,bx v1),(3,bx v2),(4,bx v3.1),(5,bx v4)],6⟩
abbrev bLw (H:aA) (O:aG) (U:List aO) (v1 v2:aC) (v3:aC×Bool):=mkL x (@Fm.eq_1 H O U v1 v2 v3) λ Y=>⟨[(2,la U),(3,.ptr 0 0 0),(4,.ptr 1 0 0),(7,.ptr 2 0 0),(8,.ptr 3 0 0),(9,.ptr 4 0 0),(10,.bool v3.2),(11,.int i64 Y)],[(0,bx H),(1,bx O),(2,bx v1),(3,bx v2),(4,bx v3.1)],5⟩
attribute[instance]bLt bLu bLv bLw
instance bLx(H:aA)(O:aG)(U:List aO):OkP (C2 H O U) 147 [ga H,ga O,la U] .bool:=ok1 (C2.eq_1 H O U) f147 []
def A9(H O:aL)(j1:Unit):Option Bool:=(if (((!decide (H.kind=O.kind))||(!decide (H.aM=O.aM)))||(!decide (H.aZ=O.aZ)))||(!decide (H.done=O.done))then some false else(m9 H.options O.options).bind λ v2=>(if v2 then p8 H.state O.state else some false).bind λ v3=>some (v2&&v3))
@[go_sem] def bLy(H O:aL)(j1:Unit):St:=⟨[(2,.ptr 0 0 0),(3,.ptr 1 0 0)],[(0,bx H),(1,bx O)],2⟩
def Lm(O U:aL)(H:Int×bL)(Y:Unit):Option (Unit⊕(Unit⊕Bool)):=(oP (H.2).of).bind λ v4=>(oP (H.2).of).bind λ v5=>(if !decide (nQ O v4=nQ U v5)then some (.inr (.inr false))else some (.inl ()))
@[go_sem] def bM0(H O:aL)(v1:(List (Int×bL)))(s0:List Nat)(U:Unit):St:=⟨[(2,.ptr 0 0 0),(3,.ptr 1 0 0),(8,.it 2)],[(0,bx H),(1,bx O),(2,⟨false,0,[],[.mp 3,.int i64 v1.length]::s0.map iE⟩),(3,⟨false,0,[A.int u8 0,A.bool true],v1.map (mI u8 bL.enc)⟩)],4⟩
def q9(H O:aL):Option Bool:=(l6).bind λ v1=>rngO v1 (0,bL.zero) (Lm H O) (λ U:Unit=>(.inl ())) () (λ|.inl z=>A9 H O z|.inr z=>some z)
def bM1(Y B:aL)(r:Bool)(h:q9 Y B=some r):PFn C 14 [ga Y,ga B] (.bool r):=by
 refine oT f14 [(9,80),(11,80),(15,1),(20,1)] λ E hG hN hK=>?_;unfold q9 at h;refine zq ?_;refine mD (zq ?_);obtain⟨v1,x0,h⟩:=mG h;refine mU [] [(0,2)] [0] ((Hl).ok _ x0) rfl rfl ?_;refine qA (bLy Y B) (λ v=>A9 Y B v=some r) ?_ ?_
 · intro j1 h
   unfold A9 at h;refine g_st ?_;refine mD (zq ?_);refine mJ rfl hG h (λ _ h=>?_) (λ _ h=>?_)
   · refine zq ?_
     refine mO ?_;exact nU h
   refine mN ?_;refine zq ?_;obtain⟨v2,hv2,h⟩:=mG h;refine mU [] [] [] ((zQ0 Y.options B.options).ok _ hv2) rfl rfl ?_;obtain⟨v3,hv3,h⟩:=mG h;refine nK (λ hg=>(bJh Y.state B.state).ok _ (uM hg hv3)) ?_;refine mO ?_;exact nU h
 refine ST (bM0 Y B v1) hK [(0,0),(1,1),(2,3),(3,2)] h (λ s0 g1 O=>?_);refine g_st ?_;refine zq ?_;refine⟨λ u0 y0 h0=>?_,λ F=>?_⟩
 · obtain⟨z0,H,U,M⟩:=SQ O y0 h0
   unfold Lm at H
   try refine g_st ?_
   refine mD ?_;refine BZ rfl hG ?_;refine mN ?_;refine oM (zq ?_);refine mD (qJ oS hG ?_);obtain⟨v4,hv4,H⟩:=mG H;refine vQ [(0,0)] [] [0] (B0 _ _ _ hv4) rfl rfl ?_ (ho:=by first|exact⟨by trivial,tW hv4⟩|exact tW hv4);obtain⟨v5,hv5,H⟩:=mG H;refine vQ [(0,1)] [] [0] (B0 _ _ _ hv5) rfl rfl ?_ (ho:=by first|exact⟨by trivial,tW hv5⟩|exact tW hv5);refine mJ rfl hG H (λ _ H=>?_) (λ _ H=>?_)
   · refine zq ?_
     refine mO ?_;obtain rfl:=dH H;have h:=M _ rfl
     try dsimp only at h
     exact nU h
   refine mN ?_;exact SU hK [(0,0),(1,1),(2,2),(3,3)] H U
 try refine g_st ?_
 refine mD ?_;refine J9 rfl hG ?_;refine oO ?_;have h:=SR O F
 try dsimp only at h
 exact nA hK [(0,0),(1,1)] () (by exact h)
instance bM2(H O:aL):OkP (q9 H O) 14 [ga H,ga O] .bool:=⟨bM1 H O⟩
def Ia(H:List aJ):Option (bF×Int):=(C1 H).bind λ v1=>(if !decide (v1.2=0)then some ({bF.zero with},v1.2)else some ({bF.zero with aF:=v1.1},0))
instance bM4(H:List aJ):OkP (Ia H) 44 [la H] (λ r=>.tup [ga r.1,.int i64 r.2]):=ok1 (Ia.eq_1 H) f44 []
def Fn(H:aA):Option (List aK):=(B3 H.aS).bind λ v1=>(CP H).bind λ v2=>gd (v1.length+v2.length<=4294967296)<|(q5 (v1++v2)).bind λ v3=>some v3
instance bM5(H:aA):OkP (Fn H) 257 [ga H] la:=ok1 (Fn.eq_1 H) f257 []
def UV(j1:aT×(List aP)):Option ((List aP)×aT):=some (j1.2,j1.1)
def tB(v1:Int×aT)(H:Int×aT×(List aP)):Option ((Int×aT×(List aP))⊕((aT×(List aP))⊕((List aP)×aT))):=(if decide (H.1<v1.1)then(yW H.2.1.b).bind λ v2=>(if !decide (v2.2.2=0)then some (.inr (.inr ([],{H.2.1 with err:=v2.2.2})))else gd (0<=v2.2.1/\v2.2.1<=(H.2.1.b.length:Int)/\(H.2.1.b.length:Int)<=(H.2.1.b.length:Int))<|gd (H.2.2.length+1<=4294967296)<|some (.inl (i64.wrap (H.1+1),{H.2.1 with b:=(H.2.1.b.drop v2.2.1.toNat)},H.2.2++[v2.1])))else some (.inr (.inl (H.2.1,H.2.2))))
def yX(H:aT):Option ((List aP)×aT):=(tY 40 4 H).bind λ v1=>(mF (tB v1) (0,v1.2,[])).bind (λ|.inl z=>UV z|.inr z=>some z)
abbrev bM7 (H:aT):=mkJ (yX H,v1) 0 (@UV.eq_1) λ j1=>⟨[(4,.own 1 0 j1.2.length)],[(0,bx j1.1),(1,sx j1.2)],2⟩
abbrev bM8 (v1:Int×aT):=mkL x (@tB.eq_1 v1) λ H=>⟨[(0,.ptr 0 0 0),(4,.own 1 0 H.2.2.length),(10,.int i64 v1.1),(11,.int i64 H.1)],[(0,bx H.2.1),(1,sx H.2.2)],2⟩
attribute[instance]bM7 bM8
instance bM9(H:aT):OkM (yX H) 75 [.ptr 0 0 0] [(0,bx H)] 1 (λ r=>la r.1) (λ r=>[(0,bx r.2)]) 1:=⟨λ r h=>by
 refine pF f75 [(4,1)] [la r.1] λ E hG U hK=>?_;have hm:Mk (yX H):=trivial;unfold yX at h;refine zq ?_;refine zq ?_;obtain⟨v1,O,h⟩:=mG h;have hm:=mkP hm v1;refine mU [(0,0)] [] [0] ((TU 40 4 H).ok _ O) rfl rfl ?_;refine zq ?_;refine mD (zq ?_);refine yK hm h (λ j1 hm h=>?_) ?_
 · try refine g_st ?_
   refine zq ?_;refine g_gh (.fz [1]) ?_;exact gogo
 exact gogo⟩
def Fo (H:List aJ) (B:bM):Option (bQ×bM):=(nY 16 B).bind λ v1=>(nY 6 v1.2).bind λ v2=>(AP v2.1).bind λ v3=>(if decide (v1.1=0)then(nY 9 v2.2).bind λ v4=>some ({{{bQ.zero with aM:=v3}with kind:=1}with n:=(i64.wrap (1+v4.1))},v4.2)else(if decide (v1.1<9)then(CN H v2.2).bind λ v5=>some ({{{bQ.zero with aM:=v3}with kind:=2}with bK:=v5.1},v5.2)else(if decide (v1.1=9)then some ({{bQ.zero with aM:=v3}with kind:=3},v2.2)else(if decide (v1.1=10)then(nY (H.length:Int) v2.2).bind λ v6=>gd (0<=v6.1/\v6.1<H.length)<|some ({{{bQ.zero with aM:=v3}with kind:=4}with name:=(H.getD v6.1.toNat aJ.zero).name},v6.2)else(if decide (v1.1=11)then(nY 4 v2.2).bind λ O=>some ({{{bQ.zero with aM:=v3}with kind:=5}with n:=(i64.wrap (1+O.1))},O.2)else(if decide (v1.1=12)then(nY 5 v2.2).bind λ U=>some ({{{bQ.zero with aM:=v3}with kind:=6}with n:=U.1},U.2)else(if decide (v1.1=13)then some ({{bQ.zero with aM:=v3}with kind:=7},v2.2)else(if decide (v1.1=14)then some ({{bQ.zero with aM:=v3}with kind:=8},v2.2)else(nY 12 v2.2).bind λ Y=>some ({{{bQ.zero with aM:=v3}with kind:=9}with n:=Y.1},Y.2)))))))))
instance bMa(H:List aJ)(O:bM):OkM (Fo H O) 42 [.ptr 0 0 0,la H] [(0,bx O)] 1 (λ r=>ga r.1) (λ r=>[(0,bx r.2)]) 1:=okm (Fo.eq_1 H O) (λ r=>[ga r.1]) f42 []
def Fp(H:aJ)(Y:List bA)(O:aK)(U:aC):Option Bool:=(q6 H Y).bind λ v1=>(if (v1&&pJ O)&&qW H U then yU Y O U else some []).bind λ v2=>(if (v1&&pJ O)&&qW H U then q6 H v2 else some false).bind λ v3=>some (((v1&&pJ O)&&qW H U)&&v3)
instance bMb(H:aJ)(O:List bA)(U:aK)(Y:aC):OkP (Fp H O U Y) 249 [ga H,la O,ga U,ga Y] .bool:=ok1 (Fp.eq_1 H O U Y) f249 []
def Fq(H:aJ)(O:List bA)(U:aK)(Y:aC):Option Bool:=(Fb H O U Y).bind λ v1=>(if v1 then Cw O U Y else some []).bind λ v2=>(if v1 then o8 H v2 else some false).bind λ v3=>some (v1&&v3)
instance bMc(H:aJ)(O:List bA)(U:aK)(Y:aC):OkP (Fq H O U Y) 253 [ga H,la O,ga U,ga Y] .bool:=ok1 (Fq.eq_1 H O U Y) f253 []
def UW(v1:(List aJ)×bM)(H:(List bQ)):Option ((List aJ)×(List bQ)):=some (v1.1,H)
def Ln(v1:(List aJ)×bM)(H:bM×(List bQ)):Option ((bM×(List bQ))⊕(List bQ)):=(Ha H.1).bind λ v2=>(if v2.1 then(Fo v1.1 v2.2).bind λ v3=>gd (H.2.length+1<=4294967296)<|some (.inl (v3.2,H.2++[v3.1]))else some (.inr H.2))
def Lo(v1:(List aJ)×bM)(j1:bM×(List bQ)):Option ((List aJ)×(List bQ)):=(mF (Ln v1) (j1.1,j1.2)).bind (λ z=>UW v1 z)
def Lp(H:Int×bM×(List bQ)):Option ((Int×bM×(List bQ))⊕(bM×(List bQ))):=(if decide (H.1<4)then(AP H.1).bind λ v4=>(nY 9 H.2.1).bind λ v5=>gd (H.2.2.length+1<=4294967296)<|some (.inl (i64.wrap (H.1+1),v5.2,H.2.2++[{bQ.zero with kind:=1,aM:=v4,n:=(i64.wrap (1+v5.1))}]))else some (.inr (H.2.1,H.2.2)))
def r9(H:List Int):Option ((List aJ)×(List bQ)):=(AV ({bM.zero with l:=H})).bind λ v1=>(mF Lp (0,v1.2,[])).bind (λ z=>Lo v1 z)
abbrev bMh (v1:(List aJ)×bM) j1:=mkJ (Lo v1 j1) 2 (@UW.eq_1 v1) λ H=>⟨[(5,la v1.1),(6,.own 0 0 H.length)],[(0,sx H)],1⟩
abbrev bMi (v1:(List aJ)×bM):=mkL x (@Ln.eq_1 v1) λ H=>⟨[(4,.ptr 0 0 0),(5,la v1.1),(6,.own 1 0 H.2.length)],[(0,bx H.1),(1,sx H.2)],2⟩
abbrev bMj a0 (v1:(List aJ)×bM):=mkJ (r9 a0,v1) 0 (@Lo.eq_1 v1) λ j1=>⟨[(4,.ptr 0 0 0),(5,la v1.1),(6,.own 1 0 j1.2.length)],[(0,bx j1.1),(1,sx j1.2)],2⟩
abbrev bMk a0 (v1:(List aJ)×bM):=mkL (r9 a0,v1) (@Lp.eq_1) λ H=>⟨[(4,.ptr 0 0 0),(5,la v1.1),(6,.own 1 0 H.2.2.length),(7,.int i64 H.1)],[(0,bx H.2.1),(1,sx H.2.2)],2⟩
attribute[instance]bMh bMi bMj bMk
instance bMl(H:List Int):OkP (r9 H) 16 [.sl (H.map (eI i64))] (λ r=>.tup [la r.1,la r.2]):=ok1 (r9.eq_1 H) f16 [(6,1)]
def Ba(H:aR):Option Bool:=(qX H).bind λ v1=>some v1.2
instance bMm(H:aR):OkP (Ba H) 111 [ga H] .bool:=ok1 (Ba.eq_1 H) f111 []
def UX(H:Unit):Option Bool:=some true
def Lq(H:aA)(O:Int):Option (Int⊕(Unit⊕Bool)):=(if decide (O<H.aW.length)then gd (0<=O/\O<H.aW.length)<|gd (qW H.aB (H.aW.getD O.toNat aV.zero).aI=true->0<=O/\O<H.aW.length)<|(if qW H.aB ((H.aW.getD O.toNat aV.zero).aI)then j8 H.aS ((H.aW.getD O.toNat aV.zero).aM)else some aC.zero).bind λ v4=>(if (!(qW H.aB (H.aW.getD O.toNat aV.zero).aI))||(!(oG v4))then some (.inr (.inr false))else some (.inl (i64.wrap (O+1))))else some (.inr (.inl ())))
def Lr(H:aA)(j1:Unit):Option Bool:=(mF (Lq H) 0).bind (λ|.inl z=>UX z|.inr z=>some z)
def Fr(H:aA)(O:Int):Option (Int⊕(Unit⊕Bool)):=(if decide (O<H.aN.length)then gd (0<=O/\O<H.aN.length)<|(j8 H.aS (H.aN.getD O.toNat aV.zero).aM).bind λ v5=>(if !(((((oG v5||(!(qW H.aB (H.aN.getD O.toNat aV.zero).aI)))||(!(sG H.aB (H.aN.getD O.toNat aV.zero).aI v5)))||decide ((H.aN.getD O.toNat aV.zero).aI=v5))||(!decide ((H.aN.getD O.toNat aV.zero).bE=0)))||(!decide ((H.aN.getD O.toNat aV.zero).bS=0)))then wX H.aN ((H.aN.getD O.toNat aV.zero).aM)else some 0).bind λ v6=>(if (((((oG v5||(!(qW H.aB (H.aN.getD O.toNat aV.zero).aI)))||(!(sG H.aB (H.aN.getD O.toNat aV.zero).aI v5)))||decide ((H.aN.getD O.toNat aV.zero).aI=v5))||(!decide ((H.aN.getD O.toNat aV.zero).bE=0)))||(!decide ((H.aN.getD O.toNat aV.zero).bS=0)))||(!decide (v6=O))then some (.inr (.inr false))else some (.inl (i64.wrap (O+1))))else some (.inr (.inl ())))
def s8(H:aA):Option Bool:=(CM H.aB).bind λ v1=>(if v1 then q6 H.aB H.aS else some false).bind λ v2=>(if !(((!v1)||(!v2))||decide (8<(H.aN.length:Int)))then AX H.aW else some false).bind λ v3=>(if ((((((!v1)||(!v2))||decide (8<(H.aN.length:Int)))||(!v3))||decide (8<i64.wrap ((H.aS.length:Int)+(H.aW.length:Int))))||decide (H.gen<0))||decide (1073741824<H.gen)then some false else(mF (Fr H) 0).bind (λ|.inl z=>Lr H z|.inr z=>some z))
abbrev bMr a0 j1:=mkJ (Lr a0 j1) 2 (@UX.eq_1) λ H=>⟨[],[],0⟩
abbrev bMs (H:aA):=mkL x (@Lq.eq_1 H) λ O=>⟨[(1,.ptr 0 0 0),(3,.ptr 1 0 0),(7,.int i64 O)],[(0,bx H),(1,bx H.aB)],2⟩
abbrev bMt (H:aA):=mkJ (((s8 H,v1),v2),v3) 0 (@Lr.eq_1 H) λ j1=>⟨[(1,.ptr 0 0 0),(3,.ptr 1 0 0)],[(0,bx H),(1,bx H.aB)],2⟩
abbrev bMu (H:aA):=mkL x (@Fr.eq_1 H) λ O=>⟨[(1,.ptr 0 0 0),(3,.ptr 1 0 0),(4,.int i64 O)],[(0,bx H),(1,bx H.aB)],2⟩
attribute[instance]bMr bMs bMt bMu
instance bMv(H:aA):OkP (s8 H) 213 [ga H] .bool:=ok1 (s8.eq_1 H) f213 []
def Fs(H:List aJ)(O:aO):Option Int:=(A3 H).bind λ v1=>(if !v1 then some 2 else(B5 H O.name).bind λ v2=>(if !v2.2 then some 10 else(if !(qW v2.1 O.aI)then some 12 else some 0)))
instance bMw(H:List aJ)(O:aO):OkP (Fs H O) 202 [la H,ga O] (λ r=>.int i64 r):=ok1 (Fs.eq_1 H O) f202 []
def OR(j1:(List aK)):Option (List aK):=(n5 j1).bind λ v2=>some v2
def Ls(O:aH)(H:Int×(List aK)):Option ((Int×(List aK))⊕(List aK)):=(if decide (H.1<O.aY.length)then gd (0<=H.1/\H.1<O.aY.length)<|gd (H.2.length+1<=4294967296)<|some (.inl (i64.wrap (H.1+1),H.2++[(O.aY.getD H.1.toNat bR.zero).aM]))else some (.inr H.2))
def t6(H:aH):Option (List aK):=(Fj H.aF).bind λ v1=>(mF (Ls H) (0,v1)).bind (λ z=>OR z)
abbrev bMz a0:=mkJ (t6 a0,v1) 0 (@OR.eq_1) λ j1=>⟨[(3,.own 0 0 j1.length)],[(0,sx j1)],1⟩
abbrev bN0 (O:aH):=mkL x (@Ls.eq_1 O) λ H=>⟨[(1,.ptr 0 0 0),(3,.own 1 0 H.2.length),(4,.int i64 H.1)],[(0,bx O),(1,sx H.2)],2⟩
attribute[instance]bMz bN0
instance bN1(H:aH):OkP (t6 H) 97 [ga H] la:=ok1 (t6.eq_1 H) f97 [(7,1)]
end
end Ab
end Go.Proofs.YtfmnjkfhahfhgaaGreatDoor
