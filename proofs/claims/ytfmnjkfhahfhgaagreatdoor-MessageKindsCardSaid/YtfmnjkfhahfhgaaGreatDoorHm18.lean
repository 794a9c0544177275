import Derived.Test.YtfmnjkfhahfhgaaGreatDoorHm13
import Derived.Test.YtfmnjkfhahfhgaaGreatDoorHm14
import Derived.Test.YtfmnjkfhahfhgaaGreatDoorHm16
namespace Go.Proofs.YtfmnjkfhahfhgaaGreatDoor
namespace Ab
set_option linter.defProp false
open IntKind (i64 u64 u8)
set_option linter.unusedSimpArgs false
set_option linter.unusedVariables false
set_option maxRecDepth 100000
set_option maxHeartbeats 1000000
noncomputable section
variable {T T1 T2 T3 T4 T5 T6 : Type} (x : T) (v1 : T1) (v2 : T2) (v3 : T3) (v4 : T4) (v5 : T5) (v6 : T6)
def MC(H:aH)(j1:(List aC)):Option Bool:=(AQ H j1).bind λ v1=>some v1
def F1(U:aH)(O:List aX)(H:Int×(List aC)):Option ((Int×(List aC))⊕((List aC)⊕Bool)):=(if decide (H.1<O.length)then gd (0<=H.1/\H.1<O.length)<|(if (!(mL (O.getD H.1.toNat aX.zero).aL))||(!(mE U (O.getD H.1.toNat aX.zero).aJ))then some (.inr (.inr false))else gd (decide (0<H.1)=true->0<=i64.wrap (H.1-1)/\i64.wrap (H.1-1)<(O.length:Int))<|(if decide (0<H.1)then wR (O.getD (i64.wrap (H.1-1)).toNat aX.zero).aL ((O.getD H.1.toNat aX.zero).aL)else some 0).bind λ v2=>(if decide (0<H.1)&&decide (0<=v2)then some (.inr (.inr false))else gd (H.2.length+1<=4294967296)<|some (.inl (i64.wrap (H.1+1),H.2++[(O.getD H.1.toNat aX.zero).aJ]))))else some (.inr (.inl H.2)))
def yY(H:aH)(O:List aX):Option Bool:=(if (!(nQ H))||decide (8<(O.length:Int))then some false else(lS (F1 H O) (0,[])).bind (λ|.inl z=>MC H z|.inr z=>some z))
@[reducible,instance]def bIo (H:aH) a1:=mkJ (yY H a1) 0 (@MC.eq_1 H) λ j1=>⟨[(2,.ptr 0 0 0),(5,.own 1 0 j1.length)],[(0,bx H),(1,sx j1)],2⟩
@[reducible,instance]def bIp (U:aH) (H:List aX):=mkL x (@F1.eq_1 U H) λ O=>⟨[(1,la H),(2,.ptr 0 0 0),(5,.own 1 0 O.2.length),(16,la H),(17,.int i64 H.length),(18,.int i64 O.1)],[(0,bx U),(1,sx O.2)],2⟩
instance bIq(H:aH)(O:List aX):OkP (yY H O) 269 [ga H,la O] .bool:=ok1 (yY.eq_1 H O) Tryz.f269 [(5,1)]
def p7(H:aR):Option Bool:=(CG H).bind λ v1=>(if !decide (v1=0)then(Jj H []).bind λ v2=>some ((!decide (v1=0))&&v2.1)else some ((!decide (v1=0))&&false))
def bIr(H:aR)(r:Bool)(h:p7 H=some r):PFn C 181 [ga H] (.bool r):=by
 refine oC Tryz.f181 [(3,3)] λ E hG Y hK=>?_;unfold p7 at h;refine lQ (lR hG ?_);refine lQ (lR hG ?_);refine g_gh (.ownb 1 0 3 (aO.enc aO.zero)) ?_;refine lQ (lR hG ?_);obtain⟨v1,O,h⟩:=lT h;refine mW (λ hg=>(aZ7 H).ok _ O) ?_;refine QN h (λ U h=>?_) (λ U h=>?_)
 · obtain⟨v2,hv2,h⟩:=lT h
   refine QO U [(0,1),(1,2)] [(2,3)] [0,1,2] ((bI3 H []).ok _ hv2) rfl rfl ?_;refine lX ?_;exact nF h
 refine QQ U (.bool false) ?_;refine lX ?_;exact nF h
instance bIs(H:aR):OkP (p7 H) 181 [ga H] .bool:=⟨bIr H⟩
def MD(H:bE×aR):Option (aR×bE):=some (H.2,H.1)
@[go_sem] def bIt(H:bE×aR):St:=⟨[(4,.ptr 1 0 0),(5,.ptr 2 0 0)],[(0,bx H.1),(1,bx aR.zero),(2,⟨false,5,aR.enc aR.zero,[[.int i64 H.2.k,.str H.2.bA.name,.int i64 H.2.bA.aJ.mode,.int i64 H.2.bA.aJ.aT,.own 3 0 H.2.bG.length]]⟩),(3,sx H.2.bG)],4⟩
def SE(O:(Int->bE->Option (aR×bE)))(U:Int)(H:Int×bE×aR):Option ((Int×bE×aR)⊕(bE×aR)):=(if decide (0<H.1)&&decide (H.2.1.bR.err=0)then(O (i64.wrap (U+1)) H.2.1).bind λ v5=>gd (H.2.2.bG.length+1<=4294967296)<|some (.inl (i64.wrap (H.1-1),v5.2,(⟨H.2.2.k,(⟨H.2.2.bA.name,(⟨H.2.2.bA.aJ.mode,H.2.2.bA.aJ.aT⟩:aC)⟩:aO),H.2.2.bG++[v5.1]⟩:aR)))else some (.inr (H.2.1,H.2.2)))
@[go_sem] def bIv(O:Int)(H:Int×bE×aR):St:=⟨[(0,.ptr 0 0 0),(1,.int i64 O),(4,.ptr 1 0 0),(5,.ptr 2 0 0),(6,.int i64 H.1)],[(0,bx H.2.1),(1,bx aR.zero),(2,⟨false,5,aR.enc aR.zero,[[.int i64 H.2.2.k,.str H.2.2.bA.name,.int i64 H.2.2.bA.aJ.mode,.int i64 H.2.2.bA.aJ.aT,.own 3 0 H.2.2.bG.length]]⟩),(3,sx H.2.2.bG)],4⟩
def Jl(H:(Int->bE->Option (aR×bE)))(O:Int)(j1:bE):Option (aR×bE):=(tK j1).bind λ v1=>(if !decide (v1.2.bR.err=0)then some ((⟨v1.1,(⟨((⟨aR.zero.k,(⟨aR.zero.bA.name,(⟨aR.zero.bA.aJ.mode,aR.zero.bA.aJ.aT⟩:aC)⟩:aO),[]⟩:aR).bA).name,(⟨(((⟨aR.zero.k,(⟨aR.zero.bA.name,(⟨aR.zero.bA.aJ.mode,aR.zero.bA.aJ.aT⟩:aC)⟩:aO),[]⟩:aR).bA).aJ).mode,(((⟨aR.zero.k,(⟨aR.zero.bA.name,(⟨aR.zero.bA.aJ.mode,aR.zero.bA.aJ.aT⟩:aC)⟩:aO),[]⟩:aR).bA).aJ).aT⟩:aC)⟩:aO),(⟨aR.zero.k,(⟨aR.zero.bA.name,(⟨aR.zero.bA.aJ.mode,aR.zero.bA.aJ.aT⟩:aC)⟩:aO),[]⟩:aR).bG⟩:aR),v1.2)else(if decide (v1.1=0)then(FJ v1.2).bind λ v2=>(A2 v2.2).bind λ v3=>some ((⟨v1.1,(⟨v2.1,(⟨v3.1.mode,v3.1.aT⟩:aC)⟩:aO),(⟨aR.zero.k,(⟨aR.zero.bA.name,(⟨aR.zero.bA.aJ.mode,aR.zero.bA.aJ.aT⟩:aC)⟩:aO),[]⟩:aR).bG⟩:aR),v3.2)else(yR 24 v1.2).bind λ v4=>(lS (SE H O) (v4.1,v4.2,(⟨v1.1,(⟨((⟨aR.zero.k,(⟨aR.zero.bA.name,(⟨aR.zero.bA.aJ.mode,aR.zero.bA.aJ.aT⟩:aC)⟩:aO),[]⟩:aR).bA).name,(⟨(((⟨aR.zero.k,(⟨aR.zero.bA.name,(⟨aR.zero.bA.aJ.mode,aR.zero.bA.aJ.aT⟩:aC)⟩:aO),[]⟩:aR).bA).aJ).mode,(((⟨aR.zero.k,(⟨aR.zero.bA.name,(⟨aR.zero.bA.aJ.mode,aR.zero.bA.aJ.aT⟩:aC)⟩:aO),[]⟩:aR).bA).aJ).aT⟩:aC)⟩:aO),(⟨aR.zero.k,(⟨aR.zero.bA.name,(⟨aR.zero.bA.aJ.mode,aR.zero.bA.aJ.aT⟩:aC)⟩:aO),[]⟩:aR).bG⟩:aR))).bind (λ z=>MD z)))
@[go_sem] def bIw(H:Int)(j1:bE):St:=⟨[(0,.ptr 0 0 0),(1,.int i64 H),(4,.ptr 1 0 0),(5,.ptr 2 0 0)],[(0,bx j1),(1,bx aR.zero),(2,⟨false,5,aR.enc aR.zero,[[.int i64 (⟨aR.zero.k,(⟨aR.zero.bA.name,(⟨aR.zero.bA.aJ.mode,aR.zero.bA.aJ.aT⟩:aC)⟩:aO),[]⟩:aR).k,.str ((⟨aR.zero.k,(⟨aR.zero.bA.name,(⟨aR.zero.bA.aJ.mode,aR.zero.bA.aJ.aT⟩:aC)⟩:aO),[]⟩:aR).bA).name,.int i64 (((⟨aR.zero.k,(⟨aR.zero.bA.name,(⟨aR.zero.bA.aJ.mode,aR.zero.bA.aJ.aT⟩:aC)⟩:aO),[]⟩:aR).bA).aJ).mode,.int i64 (((⟨aR.zero.k,(⟨aR.zero.bA.name,(⟨aR.zero.bA.aJ.mode,aR.zero.bA.aJ.aT⟩:aC)⟩:aO),[]⟩:aR).bA).aJ).aT,.own 3 0 ((⟨aR.zero.k,(⟨aR.zero.bA.name,(⟨aR.zero.bA.aJ.mode,aR.zero.bA.aJ.aT⟩:aC)⟩:aO),[]⟩:aR).bG).length]]⟩),(3,sx (⟨aR.zero.k,(⟨aR.zero.bA.name,(⟨aR.zero.bA.aJ.mode,aR.zero.bA.aJ.aT⟩:aC)⟩:aO),[]⟩:aR).bG)],4⟩
def ME(H:(Int->bE->Option (aR×bE)))(U:Int)(O:bE):Option (aR×bE):=(if decide (O.bR.err=0)&&decide (4<U)then Jl H U ({O with bR:={O.bR with err:=4}})else Jl H U O)
def Jn:Nat->(Int->bE->Option (aR×bE))
 |0=>λ _ _=>none
 |n+1=>ME (Jn n)
def MF(H:Int)(O:bE):Option (aR×bE):=Jn ((6-H).toNat+1) H O
def bIx(Y:(Int->bE->Option (aR×bE)))(hrc:∀(O:Int) (U:bE) (r:aR×bE),Y O U=some r->MFn C 167 [.ptr 0 0 0,.int i64 O] [(0,bx U)] 1 (ga r.1) [(0,bx r.2)] 1)(O:Int)(U:bE)(r:aR×bE)(h:ME Y O U=some r):MFn C 167 [.ptr 0 0 0,.int i64 O] [(0,bx U)] 1 (ga r.1) [(0,bx r.2)] 1:=by
 refine oR Tryz.f167 [(5,18)] [ga r.1] λ E hG hN hK=>?_;unfold ME at h;refine lQ (lR hG ?_);refine lQ (lR hG ?_);refine g_gh (.ownb 2 4 5 (aR.enc aR.zero)) ?_;refine lQ (lQ (lR hG ?_));refine rB (bIw O) (λ v=>Jl Y O v=some r) rfl hG h ?_ (λ _ h=>?_) (λ _ h=>?_)
 · intro j1 h
   unfold Jl at h;refine g_st ?_;refine lQ (lR hG ?_);obtain⟨v1,F,h⟩:=lT h;refine mH [(0,0)] [] [0] ((FD j1).ok _ F) rfl rfl ?_;refine lQ (lQ (lR hG ?_));refine lU rfl hG h (λ _ h=>?_) (λ _ h=>?_)
   · refine lQ (lR hG ?_)
     refine g_gh (.fz [3]) ?_;refine lX ?_;exact mQ [(0,0)] h
   refine lW ?_;refine lQ (lQ (lR hG ?_));refine lU rfl hG h (λ _ h=>?_) (λ _ h=>?_)
   · refine lQ (lR hG ?_)
     obtain⟨v2,hv2,h⟩:=lT h;refine mH [(0,0)] [] [0] ((R8 v1.2).ok _ hv2) rfl rfl ?_;refine lQ (lR hG ?_);obtain⟨v3,hv3,h⟩:=lT h;refine mH [(0,0)] [] [0] ((bIe v2.2).ok _ hv3) rfl rfl ?_;refine lQ (lR hG ?_);refine g_gh (.fz [3]) ?_;refine lX ?_;exact mQ [(0,0)] h
   refine lW ?_;refine lQ (lQ (lR hG ?_));obtain⟨v4,hv4,h⟩:=lT h;refine mH [(0,0)] [] [0] ((IS 24 v1.2).ok _ hv4) rfl rfl ?_;refine pL bIt (λ v=>MD v=some r) ?_ ?_
   · intro j2 h
     unfold MD at h;refine g_st ?_;refine lQ (lR hG ?_);refine g_gh (.fz [3]) ?_;refine lX ?_;exact mQ [(0,0)] h
   refine pX (bIv O) hK [(0,0),(1,1),(2,2),(3,3)] h (λ h0 h M x0 H B=>?_);unfold SE at H;refine g_st ?_;refine lQ (lQ (lR hG ?_));refine lU rfl hG H (λ _ H=>?_) (λ _ H=>?_)
   · refine lW ?_
     refine lQ (nV (pT oB hG ?_));obtain⟨v5,hv5,H⟩:=lT H;obtain⟨y0,H⟩:=lZ H;refine uC [(0,0)] [] [0] (hrc (i64.wrap (O+1)) M.2.1 _ hv5) rfl rfl ?_;refine lR hG ?_;exact oL hK [(0,0),(1,1),(2,2),(3,4)] H
   refine nX ?_;cases H;cases B _ rfl;exact mM hK [(0,0),(1,1),(2,2),(3,3)] (M.2.1,M.2.2) (by exact h)
 · refine lR hG ?_
   exact mM hK [(0,0),(1,1),(2,2),(3,3)] ({U with bR:={U.bR with err:=4}}) (by exact h)
 refine lW ?_;exact mM hK [(0,0),(1,1),(2,2),(3,3)] U (by exact h)
def SF:∀(n:Nat) (H:Int) (O:bE) (r:aR×bE),Jn n H O=some r->MFn C 167 [.ptr 0 0 0,.int i64 H] [(0,bx O)] 1 (ga r.1) [(0,bx r.2)] 1
 |0,_,_,_,h=>nomatch h
 |n+1,H,O,r,h=>bIx (Jn n) (SF n) H O r h
instance bIz(H:Int)(O:bE):OkM (MF H O) 167 [.ptr 0 0 0,.int i64 H] [(0,bx O)] 1 (λ r=>ga r.1) (λ r=>[(0,bx r.2)]) 1:=⟨λ r h=>SF _ H O r h⟩
def MG(j1:bW×aQ)(H:bW):Option (aQ×Int×Int):=(if !decide (H.err=0)then some ({aQ.zero with},0,H.err)else some (j1.2,H.at_,0))
def MH(j1:bW×aQ):Option (aQ×Int×Int):=(if decide (j1.1.err=0)then yQ j1.2 else some false).bind λ v5=>(if decide (j1.1.err=0)&&(!v5)then MG j1 ({j1.1 with err:=2})else MG j1 j1.1)
def SG(H:Int×bW×aQ):Option ((Int×bW×aQ)⊕(bW×aQ)):=(if decide (0<H.1)&&decide (H.2.1.err=0)then(IT H.2.1).bind λ v6=>(yP 1073741824 16 v6.2).bind λ O=>(yP 1073741824 16 O.2).bind λ U=>gd (H.2.2.lower.length+1<=4294967296)<|some (.inl (i64.wrap (H.1-1),U.2,(⟨(⟨H.2.2.aL.site,H.2.2.aL.inc,H.2.2.aL.num⟩:aK),H.2.2.label,H.2.2.cost,H.2.2.lower++[{{{aO.zero with name:=v6.1}with aJ:={({aO.zero with name:=v6.1}).aJ with mode:=O.1}}with aJ:={({{aO.zero with name:=v6.1}with aJ:={({aO.zero with name:=v6.1}).aJ with mode:=O.1}}).aJ with aT:=U.1}}]⟩:aQ)))else some (.inr (H.2.1,H.2.2)))
def Dj(H:List Int):Option (aQ×Int×Int):=(Jg ({bW.zero with all:=H})).bind λ v1=>(yP 1073741824 16 v1.2).bind λ v2=>(yP 1073741824 16 v2.2).bind λ v3=>(yP 8 4 v3.2).bind λ v4=>(lS SG (v4.1,v4.2,(⟨(⟨v1.1.site,v1.1.inc,v1.1.num⟩:aK),i64.wrap (v2.1-1),v3.1,[]⟩:aQ))).bind (λ z=>MH z)
@[reducible,instance]def bJ3 (j1:bW×aQ):=mkJ (MH j1,v1) 999 (@MG.eq_1 j1) λ H=>⟨[(2,.ptr 0 0 0),(5,.ptr 1 0 0),(6,.ptr 2 0 0)],[(0,bx aQ.zero),(1,bx H),(2,⟨false,6,aQ.enc aQ.zero,[[.int i64 j1.2.aL.site,.int i64 j1.2.aL.inc,.int i64 j1.2.aL.num,.int i64 j1.2.label,.int i64 j1.2.cost,.own 3 0 j1.2.lower.length]]⟩),(3,sx j1.2.lower)],4⟩
@[reducible,instance]def bJ4 (H:List Int):=mkJ ((((Dj H,v1),v2),v3),v4) 0 (@MH.eq_1) λ j1=>⟨[(2,.ptr 0 0 0),(5,.ptr 1 0 0),(6,.ptr 2 0 0)],[(0,bx aQ.zero),(1,bx j1.1),(2,⟨false,6,aQ.enc aQ.zero,[[.int i64 j1.2.aL.site,.int i64 j1.2.aL.inc,.int i64 j1.2.aL.num,.int i64 j1.2.label,.int i64 j1.2.cost,.own 3 0 j1.2.lower.length]]⟩),(3,sx j1.2.lower)],4⟩
@[reducible,instance]def bJ5:=mkL x (@SG.eq_1) λ H=>⟨[(2,.ptr 0 0 0),(5,.ptr 1 0 0),(6,.ptr 2 0 0),(7,.int i64 H.1)],[(0,bx aQ.zero),(1,bx H.2.1),(2,⟨false,6,aQ.enc aQ.zero,[[.int i64 H.2.2.aL.site,.int i64 H.2.2.aL.inc,.int i64 H.2.2.aL.num,.int i64 H.2.2.label,.int i64 H.2.2.cost,.own 3 0 H.2.2.lower.length]]⟩),(3,sx H.2.2.lower)],4⟩
instance bJ6(H:List Int):OkP (Dj H) 118 [.sl (H.map (eI u8))] (λ r=>.tup [ga r.1,.int i64 r.2.1,.int i64 r.2.2]):=⟨λ r h=>by
 refine oC Tryz.f118 [(14,34),(6,34)] λ E hG U hK=>?_;have hm:Mk (Dj H):=trivial;unfold Dj at h;refine lQ (lR hG ?_);refine lQ (lR hG ?_);refine lQ (lR hG ?_);obtain⟨v1,O,h⟩:=lT h;have hm:=mkP hm v1;refine mH [(0,1)] [] [0] ((bH5 ({bW.zero with all:=H})).ok _ O) rfl rfl ?_;refine g_gh (.ownb 2 5 3 (aO.enc aO.zero)) ?_;exact gogo⟩
def A5(U:aH)(H O:aC):Option aC:=(if (!(tM U H))||(!(tM U O))then some ({aC.zero with})else(if rJ U H O then some H else(if rJ U O H then some O else(C2 H.mode O.mode).bind λ v1=>some ({aC.zero with mode:=v1}))))
instance bJ7(H:aH)(O U:aC):OkP (A5 H O U) 205 [ga H,ga O,ga U] ga:=ok1 (A5.eq_1 H O U) Tryz.f205 []
def yZ(H O:aM):Option Bool:=(if (((((((((decide (H.kind=O.kind)&&decide (H.aL=O.aL))&&decide (H.gen=O.gen))&&decide (H.bA=O.bA))&&decide (H.bD=O.bD))&&decide (H.inc=O.inc))&&decide (H.round=O.round))&&decide (H.epoch=O.epoch))&&decide (H.site=O.site))&&decide (H.label=O.label))&&decide (H.done=O.done)then vK H.state O.state else some false).bind λ v1=>(if ((((((((((decide (H.kind=O.kind)&&decide (H.aL=O.aL))&&decide (H.gen=O.gen))&&decide (H.bA=O.bA))&&decide (H.bD=O.bD))&&decide (H.inc=O.inc))&&decide (H.round=O.round))&&decide (H.epoch=O.epoch))&&decide (H.site=O.site))&&decide (H.label=O.label))&&decide (H.done=O.done))&&v1 then tL H.options O.options else some false).bind λ v2=>some ((((((((((((decide (H.kind=O.kind)&&decide (H.aL=O.aL))&&decide (H.gen=O.gen))&&decide (H.bA=O.bA))&&decide (H.bD=O.bD))&&decide (H.inc=O.inc))&&decide (H.round=O.round))&&decide (H.epoch=O.epoch))&&decide (H.site=O.site))&&decide (H.label=O.label))&&decide (H.done=O.done))&&v1)&&v2)
instance bJ8(H O:aM):OkP (yZ H O) 12 [ga H,ga O] .bool:=ok1 (yZ.eq_1 H O) Tryz.f12 []
def Dk(H:aH)(O:List aX)(U:aK)(Y:aC):Option Bool:=(yY H O).bind λ v1=>some ((v1&&mL U)&&mE H Y)
instance bJ9(H:aH)(O:List aX)(U:aK)(Y:aC):OkP (Dk H O U Y) 272 [ga H,la O,ga U,ga Y] .bool:=ok1 (Dk.eq_1 H O U Y) Tryz.f272 []
def A6(H O:aI):Option Bool:=(Dc H.aF O.aF).bind λ v1=>(if v1 then Db H.aY O.aY else some false).bind λ v2=>some (v1&&v2)
instance bJa(H O:aI):OkP (A6 H O) 38 [ga H,ga O] .bool:=⟨λ r h=>by
 refine oC Tryz.f38 [] λ E hG B hK=>?_;have hm:Mk (A6 H O):=trivial;unfold A6 at h;refine lQ (lR hG ?_);refine lQ (lR hG ?_);obtain⟨v1,U,h⟩:=lT h;have hm:=mkP hm v1;refine mH [] [] [] ((zO6 H.aF O.aF).ok _ U) rfl rfl ?_;obtain⟨v2,hv2,h⟩:=lT h;have hm:=mkP hm v2;refine E7 [] [] hv2 (λ Y=>(zS8 H.aY O.aY).ok _ Y) rfl ?_;exact gogo⟩
def F2(v2:(List aO)×Bool)(j1:Unit):Option ((List aO)×Bool):=some (v2.1,true)
@[go_sem] def bJc(v2:(List aO)×Bool)(j1:Unit):St:=⟨[(4,la v2.1)],[],0⟩
def MI(H:Int)(O:Unit):Option (Int⊕(Unit⊕((List aO)×Bool))):=some (.inl (i64.wrap (H+1)))
@[go_sem] def bJe(v2:(List aO)×Bool)(H:Int)(O:Unit):St:=⟨[(4,la v2.1),(6,.int i64 H)],[],0⟩
def Dl(v2:(List aO)×Bool)(O H:Int):Option (Int⊕(Unit⊕((List aO)×Bool))):=(if decide (H<O)then gd (0<=O/\O<v2.1.length)<|gd (0<=H/\H<v2.1.length)<|(if ((v2.1.getD O.toNat aO.zero).name).toList==((v2.1.getD H.toNat aO.zero).name).toList then some (.inr (.inr ([],false)))else some (.inl (i64.wrap (H+1))))else some (.inr (.inl ())))
@[go_sem] def bJg(v2:(List aO)×Bool)(H O:Int):St:=⟨[(4,la v2.1),(6,.int i64 H),(7,.int i64 O)],[],0⟩
def A7(v2:(List aO)×Bool)(H:Int):Option (Int⊕(Unit⊕((List aO)×Bool))):=(if decide (H<v2.1.length)then(lS (Dl v2 H) 0).bind (λ|.inl z=>MI H z|.inr z=>some (.inr (.inr z)))else some (.inr (.inl ())))
@[go_sem] def bJh(v2:(List aO)×Bool)(H:Int):St:=⟨[(4,la v2.1),(6,.int i64 H)],[],0⟩
def qG(H:aR):Option ((List aO)×Bool):=(CK H).bind λ v1=>(if decide (v1=0)then some ([],false)else(AZ H).bind λ v2=>match v2 with | .inl v2=>some ([],false) | .inr v2=>(if (!v2.2)||decide (8<(v2.1.length:Int))then some ([],false)else(lS (A7 v2) 0).bind (λ|.inl z=>F2 v2 z|.inr z=>some z)))
def bJi(F:aR)(r:(List aO)×Bool)(h:qG F=some r):PFn C 162 [ga F] (.tup [la r.1,.bool r.2]):=by
 refine oC Tryz.f162 [] λ E hG hN hK=>?_;unfold qG at h;refine lQ (lR hG ?_);refine lQ (lQ (lR hG ?_));obtain⟨v1,M,h⟩:=lT h;refine mW (λ hg=>(aZy F).ok _ M) ?_;refine lU rfl hG h (λ _ h=>?_) (λ _ h=>?_)
 · refine lQ (lR hG ?_)
   refine lX ?_;exact nF h
 refine lW ?_;refine lQ (lR hG ?_);obtain⟨v2,hv2,h⟩:=lT h;rcases v2 with v2|v2
 · dsimp only at h
   refine mH [] [(0,1)] [0] (bHv _ _ hv2) rfl rfl ?_;refine lQ (lQ (lR hG ?_));refine Ag rfl hG ?_;refine lQ (lR hG ?_);refine lX ?_;exact nF h
 dsimp only at h;refine mH [] [] [] (bHw _ _ hv2) rfl rfl ?_;refine lQ (lQ (lR hG ?_));refine lU rfl hG h (λ _ h=>?_) (λ _ h=>?_)
 · refine lQ (lR hG ?_)
   refine lX ?_;exact nF h
 refine lW ?_;refine lQ (lQ (lR hG ?_));refine pL (bJc v2) (λ v=>F2 v2 v=some r) ?_ ?_
 · intro j1 h
   unfold F2 at h;refine g_st ?_;refine lQ (lR hG ?_);refine lX ?_;exact nF h
 refine pX (bJh v2) hK [] h (λ h0 h g1 B H U=>?_);unfold A7 at H;refine g_st ?_;refine lQ (lQ (lR hG ?_));refine lU rfl hG H (λ _ H=>?_) (λ _ H=>?_)
 · refine lW ?_
   refine lQ (nV (lQ (lR hG ?_)));refine pL (bJe v2 g1) (λ v=>MI g1 v=some B) ?_ ?_
   · intro j2 H
     unfold MI at H;refine g_st ?_;refine lR hG ?_;exact oL hK [] H
   refine pX (bJg v2 g1) hK [] H (λ x0 H g2 y0 O Y=>?_);unfold Dl at O;refine g_st ?_;refine lQ (lQ (lR hG ?_));refine lU rfl hG O (λ _ O=>?_) (λ _ O=>?_)
   · refine lW ?_
     refine lQ (nV (lQ ?_));obtain⟨z0,O⟩:=lZ O;obtain⟨u0,O⟩:=lZ O;refine yC oB hG ?_;refine lU rfl hG O (λ _ O=>?_) (λ _ O=>?_)
     · refine lQ (lR hG ?_)
       refine lX ?_;obtain rfl:=dW O;have hx:=Y _ rfl;subst hx
       try dsimp only at H
       cases H;cases U _ rfl;exact nF h
     refine lW ?_;refine lR hG ?_;exact oL hK [] O
   refine nX ?_;obtain rfl:=dW O;have hx:=Y _ rfl;subst hx
   try dsimp only at H
   exact mM hK [] () (by exact H)
 refine nX ?_;cases H;cases U _ rfl;exact mM hK [] () (by exact h)
instance bJj(H:aR):OkP (qG H) 162 [ga H] (λ r=>.tup [la r.1,.bool r.2]):=⟨bJi H⟩
def SH(j1:Unit):Option Bool:=some true
def A8(H:aA)(O:Int):Option (Int⊕(Unit⊕Bool)):=(if decide (O<H.aW.length)then gd (0<=O/\O<H.aW.length)<|(if mE H.aB ((H.aW.getD O.toNat aV.zero).aJ)then AE H ((H.aW.getD O.toNat aV.zero).aL)else some aC.zero).bind λ v2=>(if (!(mE H.aB (H.aW.getD O.toNat aV.zero).aJ))||(!(oG v2))then some (.inr (.inr false))else some (.inl (i64.wrap (O+1))))else some (.inr (.inl ())))
def A9(H:aA):Option Bool:=(o9 H.aW).bind λ v1=>(if (!v1)||decide (8<i64.wrap ((H.aS.length:Int)+(H.aW.length:Int)))then some false else(lS (A8 H) 0).bind (λ|.inl z=>SH z|.inr z=>some z))
@[reducible,instance]def bJl a0:=mkJ (A9 a0,v1) 0 (@SH.eq_1) λ j1=>⟨[],[],0⟩
@[reducible,instance]def bJm (H:aA):=mkL x (@A8.eq_1 H) λ O=>⟨[(1,.ptr 0 0 0),(20,la H.aW),(21,.int i64 H.aW.length),(22,.int i64 O)],[(0,bx H)],1⟩
instance bJn(H:aA):OkP (A9 H) 271 [ga H] .bool:=ok1 (A9.eq_1 H) Tryz.f271 []
def SI(H:bE×aA):Option (aA×bE):=some (H.2,H.1)
def SJ(H:Int×bE×aA):Option ((Int×bE×aA)⊕(bE×aA)):=(if decide (0<H.1)&&decide (H.2.1.bR.err=0)then(AR H.2.1).bind λ B=>(A2 B.2).bind λ O=>(tK O.2).bind λ U=>(tK U.2).bind λ Y=>gd (H.2.2.aW.length+1<=4294967296)<|some (.inl (i64.wrap (H.1-1),Y.2,(⟨(⟨H.2.2.aB.name,H.2.2.aB.kind,H.2.2.aB.aT,H.2.2.aB.home⟩:aH),H.2.2.aS,H.2.2.aN,H.2.2.aW++[{{{{aV.zero with aL:=B.1}with aJ:=O.1}with bD:=U.1}with bS:=Y.1}],H.2.2.gen⟩:aA)))else some (.inr (H.2.1,H.2.2)))
def MJ(H:bE×aA):Option (aA×bE):=(yR 8 H.1).bind λ O=>(lS SJ (O.1,O.2,H.2)).bind (λ z=>SI z)
def SK(H:Int×bE×aA):Option ((Int×bE×aA)⊕(bE×aA)):=(if decide (0<H.1)&&decide (H.2.1.bR.err=0)then(AR H.2.1).bind λ O=>(A2 O.2).bind λ U=>gd (H.2.2.aN.length+1<=4294967296)<|some (.inl (i64.wrap (H.1-1),U.2,(⟨(⟨H.2.2.aB.name,H.2.2.aB.kind,H.2.2.aB.aT,H.2.2.aB.home⟩:aH),H.2.2.aS,H.2.2.aN++[{aV.zero with aL:=O.1,aJ:=U.1}],H.2.2.aW,H.2.2.gen⟩:aA)))else some (.inr (H.2.1,H.2.2)))
def MK(j1:bE×aA):Option (aA×bE):=(yR 8 j1.1).bind λ H=>(lS SK (H.1,H.2,j1.2)).bind (λ z=>MJ z)
def SM(H:Int×bE×aA):Option ((Int×bE×aA)⊕(bE×aA)):=(if decide (0<H.1)&&decide (H.2.1.bR.err=0)then(AR H.2.1).bind λ O=>(A2 O.2).bind λ U=>gd (H.2.2.aS.length+1<=4294967296)<|some (.inl (i64.wrap (H.1-1),U.2,(⟨(⟨H.2.2.aB.name,H.2.2.aB.kind,H.2.2.aB.aT,H.2.2.aB.home⟩:aH),H.2.2.aS++[(⟨O.1,U.1⟩:aX)],H.2.2.aN,H.2.2.aW,H.2.2.gen⟩:aA)))else some (.inr (H.2.1,H.2.2)))
def Dm(H:bE):Option (aA×bE):=(FJ H).bind λ v1=>(tK v1.2).bind λ v2=>(tK v2.2).bind λ v3=>(tK v3.2).bind λ v4=>(tK v4.2).bind λ v5=>(yR 8 v5.2).bind λ v6=>(lS SM (v6.1,v6.2,(⟨(⟨v1.1,v2.1,v3.1,v4.1⟩:aH),[],[],[],v5.1⟩:aA))).bind (λ z=>MK z)
@[reducible,instance]def bJs (O:bE×aA):=mkJ (MJ O,v1) 4 (@SI.eq_1) λ H=>⟨[(2,.ptr 1 0 0),(3,.ptr 2 0 0)],[(0,bx H.1),(1,bx aA.zero),(2,⟨false,8,aA.enc aA.zero,[[.str H.2.aB.name,.int i64 H.2.aB.kind,.int i64 H.2.aB.aT,.int i64 H.2.aB.home,.own 3 0 H.2.aS.length,.own 4 0 H.2.aN.length,.own 5 0 H.2.aW.length,.int i64 H.2.gen]]⟩),(3,sx H.2.aS),(4,sx H.2.aN),(5,sx H.2.aW)],6⟩
@[reducible,instance]def bJt:=mkL x (@SJ.eq_1) λ H=>⟨[(0,.ptr 0 0 0),(2,.ptr 1 0 0),(3,.ptr 2 0 0),(8,.int i64 H.1)],[(0,bx H.2.1),(1,bx aA.zero),(2,⟨false,8,aA.enc aA.zero,[[.str H.2.2.aB.name,.int i64 H.2.2.aB.kind,.int i64 H.2.2.aB.aT,.int i64 H.2.2.aB.home,.own 3 0 H.2.2.aS.length,.own 4 0 H.2.2.aN.length,.own 5 0 H.2.2.aW.length,.int i64 H.2.2.gen]]⟩),(3,sx H.2.2.aS),(4,sx H.2.2.aN),(5,sx H.2.2.aW)],6⟩
@[reducible,instance]def bJu (j1:bE×aA):=mkJ (MK j1,v1) 2 (@MJ.eq_1) λ H=>⟨[(0,.ptr 0 0 0),(2,.ptr 1 0 0),(3,.ptr 2 0 0)],[(0,bx H.1),(1,bx aA.zero),(2,⟨false,8,aA.enc aA.zero,[[.str H.2.aB.name,.int i64 H.2.aB.kind,.int i64 H.2.aB.aT,.int i64 H.2.aB.home,.own 3 0 H.2.aS.length,.own 4 0 H.2.aN.length,.own 5 0 H.2.aW.length,.int i64 H.2.gen]]⟩),(3,sx H.2.aS),(4,sx H.2.aN),(5,sx H.2.aW)],6⟩
@[reducible,instance]def bJv:=mkL x (@SK.eq_1) λ H=>⟨[(0,.ptr 0 0 0),(2,.ptr 1 0 0),(3,.ptr 2 0 0),(6,.int i64 H.1)],[(0,bx H.2.1),(1,bx aA.zero),(2,⟨false,8,aA.enc aA.zero,[[.str H.2.2.aB.name,.int i64 H.2.2.aB.kind,.int i64 H.2.2.aB.aT,.int i64 H.2.2.aB.home,.own 3 0 H.2.2.aS.length,.own 4 0 H.2.2.aN.length,.own 5 0 H.2.2.aW.length,.int i64 H.2.2.gen]]⟩),(3,sx H.2.2.aS),(4,sx H.2.2.aN),(5,sx H.2.2.aW)],6⟩
@[reducible,instance]def bJw (H:bE):=mkJ ((((((Dm H,v1),v2),v3),v4),v5),v6) 0 (@MK.eq_1) λ j1=>⟨[(0,.ptr 0 0 0),(2,.ptr 1 0 0),(3,.ptr 2 0 0)],[(0,bx j1.1),(1,bx aA.zero),(2,⟨false,8,aA.enc aA.zero,[[.str j1.2.aB.name,.int i64 j1.2.aB.kind,.int i64 j1.2.aB.aT,.int i64 j1.2.aB.home,.own 3 0 j1.2.aS.length,.own 4 0 j1.2.aN.length,.own 5 0 j1.2.aW.length,.int i64 j1.2.gen]]⟩),(3,sx j1.2.aS),(4,sx j1.2.aN),(5,sx j1.2.aW)],6⟩
@[reducible,instance]def bJx:=mkL x (@SM.eq_1) λ H=>⟨[(0,.ptr 0 0 0),(2,.ptr 1 0 0),(3,.ptr 2 0 0),(4,.int i64 H.1)],[(0,bx H.2.1),(1,bx aA.zero),(2,⟨false,8,aA.enc aA.zero,[[.str H.2.2.aB.name,.int i64 H.2.2.aB.kind,.int i64 H.2.2.aB.aT,.int i64 H.2.2.aB.home,.own 3 0 H.2.2.aS.length,.own 4 0 H.2.2.aN.length,.own 5 0 H.2.2.aW.length,.int i64 H.2.2.gen]]⟩),(3,sx H.2.2.aS),(4,sx H.2.2.aN),(5,sx H.2.2.aW)],6⟩
instance bJy(H:bE):OkM (Dm H) 164 [.ptr 0 0 0] [(0,bx H)] 1 (λ r=>ga r.1) (λ r=>[(0,bx r.2)]) 1:=⟨λ r h=>by
 refine oR Tryz.f164 [(3,114)] [ga r.1] λ E hG hN hK=>?_;have hm:Mk (Dm H):=trivial;unfold Dm at h;refine lQ (lR hG ?_);refine lQ (lR hG ?_);refine g_gh (.ownb 2 4 5 (aX.enc aX.zero)) ?_;refine g_gh (.ownb 2 5 7 (aV.enc aV.zero)) ?_;refine g_gh (.ownb 2 6 7 (aV.enc aV.zero)) ?_;refine lQ (lR hG ?_);obtain⟨v1,O,h⟩:=lT h;have hm:=mkP hm v1;refine mH [(0,0)] [] [0] ((R8 H).ok _ O) rfl rfl ?_;refine lQ (lR hG ?_);obtain⟨v2,hv2,h⟩:=lT h;have hm:=mkP hm v2;refine mH [(0,0)] [] [0] ((FD v1.2).ok _ hv2) rfl rfl ?_;refine lQ (lR hG ?_);obtain⟨v3,hv3,h⟩:=lT h;have hm:=mkP hm v3;refine mH [(0,0)] [] [0] ((FD v2.2).ok _ hv3) rfl rfl ?_;refine lQ (lR hG ?_);obtain⟨v4,hv4,h⟩:=lT h;have hm:=mkP hm v4;refine mH [(0,0)] [] [0] ((FD v3.2).ok _ hv4) rfl rfl ?_;refine lQ (lR hG ?_);obtain⟨v5,hv5,h⟩:=lT h;have hm:=mkP hm v5;refine mH [(0,0)] [] [0] ((FD v4.2).ok _ hv5) rfl rfl ?_;refine lQ (lQ (lR hG ?_));obtain⟨v6,U,h⟩:=lT h;have hm:=mkP hm v6;refine mH [(0,0)] [] [0] ((IS 8 v5.2).ok _ U) rfl rfl ?_;refine wL hm h (λ j1 hm h=>?_) ?_
 · try refine g_st ?_
   refine lQ (lQ (lR hG ?_));obtain⟨F,Y,h⟩:=lT h;have hm:=mkP hm F;refine mH [(0,0)] [] [0] ((IS 8 j1.1).ok _ Y) rfl rfl ?_;refine wL hm h (λ M hm h=>?_) ?_
   · try refine g_st ?_
     refine lQ (lQ (lR hG ?_));obtain⟨v8,B,h⟩:=lT h;have hm:=mkP hm v8;refine mH [(0,0)] [] [0] ((IS 8 M.1).ok _ B) rfl rfl ?_;refine wL hm h (λ j3 hm h=>?_) ?_
     · try refine g_st ?_
       refine lQ (lR hG ?_);refine g_gh (.fz [3,4,5]) ?_;exact gogo
     exact gogo
   exact gogo
 exact gogo⟩
def ML(j1:(List aK)):Option (List aK):=(yT j1).bind λ v1=>some v1
def F3(O:List aA)(H:Int×(List aK)):Option ((Int×(List aK))⊕(List aK)):=(if decide (H.1<O.length)then gd (0<=H.1/\H.1<O.length)<|(AT (O.getD H.1.toNat aA.zero)).bind λ v2=>gd (H.2.length+v2.length<=4294967296)<|some (.inl (i64.wrap (H.1+1),H.2++v2))else some (.inr H.2))
def zA(H:List aA):Option (List aK):=(lS (F3 H) (0,[])).bind (λ z=>ML z)
@[reducible,instance]def bK1 a0:=mkJ (zA a0) 0 (@ML.eq_1) λ j1=>⟨[(3,.own 0 0 j1.length)],[(0,sx j1)],1⟩
@[reducible,instance]def bK2 (O:List aA):=mkL x (@F3.eq_1 O) λ H=>⟨[(0,la O),(3,.own 0 0 H.2.length),(4,.int i64 H.1)],[(0,sx H.2)],1⟩
instance bK3(H:List aA):OkP (zA H) 91 [la H] la:=ok1 (zA.eq_1 H) Tryz.f91 [(3,1)]
def Dn(H:aZ)(O:bM):Option (aZ×Int):=(tO H).bind λ v1=>(if !v1 then some ({aZ.zero with},2)else gd (H.aP.length<=4294967296)<|gd (H.aP.length+1<=4294967296)<|gd (H.bH.length<=4294967296)<|(tO (⟨H.aP++[O],H.bH⟩:aZ)).bind λ v2=>(if !v2 then some ({aZ.zero with},1)else some ((⟨H.aP++[O],H.bH⟩:aZ),0)))
instance bK4(H:aZ)(O:bM):OkP (Dn H O) 235 [ga H,ga O] (λ r=>.tup [ga r.1,.int i64 r.2]):=ok1 (Dn.eq_1 H O) Tryz.f235 [(11,1),(18,1),(22,2)]
def MM(j1:Int)(H:(List aV)):Option ((List aV)×Int×Int):=some (H,j1,0)
def F4(O:List aV)(H:Int×(List aV)):Option ((Int×(List aV))⊕(List aV)):=(if decide (H.1<O.length)then gd (0<=H.1/\H.1<O.length)<|gd (H.2.length+1<=4294967296)<|some (.inl (i64.wrap (H.1+1),H.2++[{(O.getD H.1.toNat aV.zero)with bS:=(i64.wrap ((O.getD H.1.toNat aV.zero).bS+1))}]))else some (.inr H.2))
def F5(H:List aV)(O:aV)(j1:Int):Option ((List aV)×Int×Int):=gd (0<=0/\0<=j1/\j1<=H.length)<|gd ((H.take j1.toNat).length<=4294967296)<|gd ((H.take j1.toNat).length+1<=4294967296)<|(lS (F4 H) (j1,H.take j1.toNat++[O])).bind (λ z=>MM j1 z)
def Jo(O:List aV)(U:aV)(H:Int):Option (Int⊕Int):=gd (decide (0<H)=true->0<=i64.wrap (H-1)/\i64.wrap (H-1)<(O.length:Int))<|gd ((decide (0<H)&&decide ((O.getD (i64.wrap (H-1)).toNat aV.zero).bD<U.bD))=true->0<=i64.wrap (H-1)/\i64.wrap (H-1)<(O.length:Int))<|(if (decide (0<H)&&decide ((O.getD (i64.wrap (H-1)).toNat aV.zero).bD<U.bD))&&decide ((O.getD (i64.wrap (H-1)).toNat aV.zero).bS<3)then some (.inl (i64.wrap (H-1)))else some (.inr H))
def Ba(H:List aV)(O:aV):Option ((List aV)×Int×Int):=(o5 H).bind λ v1=>(if !v1 then some ([],0,2)else(if (!(wS O))||(!decide (O.bS=0))then some ([],0,1)else(vF H O.aL).bind λ v2=>(if decide (0<=v2)then some ([],0,11)else(if decide ((H.length:Int)=8)then some ([],0,4)else(lS (Jo H O) (H.length:Int)).bind (λ z=>F5 H O z)))))
@[reducible,instance]def bK9 a0 a1 (j1:Int):=mkJ (F5 a0 a1 j1) 2 (@MM.eq_1 j1) λ H=>⟨[(7,.int i64 j1),(8,.own 0 0 H.length)],[(0,sx H)],1⟩
@[reducible,instance]def bKa (H:List aV) a1 (j1:Int):=mkL (F5 H a1 j1) (@F4.eq_1 H) λ O=>⟨[(0,la H),(7,.int i64 j1),(8,.own 0 0 O.2.length),(9,.int i64 O.1)],[(0,sx O.2)],1⟩
@[reducible,instance]def bKb (H:List aV) (O:aV):=mkJ ((Ba H O,v1),v2) 0 (@F5.eq_1 H O) λ j1=>⟨[(0,la H),(3,.ptr 0 0 0),(7,.int i64 j1)],[(0,bx O)],1⟩
@[reducible,instance]def bKc (H:List aV) (O:aV):=mkL x (@Jo.eq_1 H O) λ U=>⟨[(0,la H),(3,.ptr 0 0 0),(7,.int i64 U)],[(0,bx O)],1⟩
instance bKd(H:List aV)(O:aV):OkP (Ba H O) 279 [la H,ga O] (λ r=>.tup [la r.1,.int i64 r.2.1,.int i64 r.2.2]):=ok1 (Ba.eq_1 H O) Tryz.f279 [(56,1)]
def MN(j1:(List Int)):Option (List Int):=some j1
def F6(O:aQ)(H:Int×(List Int)):Option ((Int×(List Int))⊕(List Int)):=(if decide (H.1<O.lower.length)then gd (0<=H.1/\H.1<O.lower.length)<|(CR H.2 (O.lower.getD H.1.toNat aO.zero).name).bind λ v6=>(pG v6 (u64.wrap ((O.lower.getD H.1.toNat aO.zero).aJ).mode)).bind λ U=>(pG U (u64.wrap ((O.lower.getD H.1.toNat aO.zero).aJ).aT)).bind λ Y=>some (.inl (i64.wrap (H.1+1),Y))else some (.inr H.2))
def Bb(O:List Int)(H:aQ):Option (List Int):=gd (O.length<=4294967296)<|(yX H).bind λ v1=>(if !v1 then some O else(AG O H.aL).bind λ v2=>(pG v2 (u64.wrap (i64.wrap (H.label+1)))).bind λ v3=>(pG v3 (u64.wrap H.cost)).bind λ v4=>(pG v4 (u64.wrap (H.lower.length:Int))).bind λ v5=>(lS (F6 H) (0,v5)).bind (λ z=>MN z))
@[reducible,instance]def bKg a0 a1:=mkJ (((((Bb a0 a1,v1),v2),v3),v4),v5) 0 (@MN.eq_1) λ j1=>⟨[(0,.own 0 0 j1.length)],[(0,⟨false,1,[A.int u8 0],j1.map (eI u8)⟩)],1⟩
@[reducible,instance]def bKh (H:aQ):=mkL x (@F6.eq_1 H) λ O=>⟨[(0,.own 0 0 O.2.length),(35,la H.lower),(36,.int i64 H.lower.length),(37,.int i64 O.1)],[(0,⟨false,1,[A.int u8 0],O.2.map (eI u8)⟩)],1⟩
instance bKi(H:List Int)(O:aQ):OkM (Bb H O) 62 [.sl (H.map (eI u8)),ga O] [] 0 (λ r=>.own 0 0 r.length) (λ r=>[(0,⟨false,1,[A.int u8 0],r.map (eI u8)⟩)]) 1:=okm (Bb.eq_1 H O) (λ r=>[.own 0 0 r.length]) Tryz.f62 [(4,1),(16,1),(44,1)]
end
end Ab
end Go.Proofs.YtfmnjkfhahfhgaaGreatDoor
