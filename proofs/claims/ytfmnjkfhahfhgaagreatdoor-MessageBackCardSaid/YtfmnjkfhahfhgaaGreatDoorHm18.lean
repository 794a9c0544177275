import Derived.Test.YtfmnjkfhahfhgaaGreatDoorHm13
import Derived.Test.YtfmnjkfhahfhgaaGreatDoorHm14
import Derived.Test.YtfmnjkfhahfhgaaGreatDoorHm16
namespace Go.Proofs.YtfmnjkfhahfhgaaGreatDoor
namespace Ab
set_option linter.defProp false
open IntKind (i64 u64 u8)
set_option linter.unusedSimpArgs false
set_option linter.unusedVariables false
set_option maxRecDepth 100000
set_option maxHeartbeats 1000000
noncomputable section
variable {T T1 T2 T3 T4 T5 T6 : Type} (x : T) (v1 : T1) (v2 : T2) (v3 : T3) (v4 : T4) (v5 : T5) (v6 : T6)
def NH(H:aI)(j1:(List aC)):Option Bool:=(Bz H j1).bind λ v1=>some v1
def GQ(U:aI)(O:List aX)(H:Int×(List aC)):Option ((Int×(List aC))⊕((List aC)⊕Bool)):=(if decide (H.1<O.length)then gd (0<=H.1/\H.1<O.length)<|(if (!(mP (O.getD H.1.toNat aX.zero).aM))||(!(mM U (O.getD H.1.toNat aX.zero).aJ))then some (.inr (.inr false))else gd (decide (0<H.1)=true->0<=i64.wrap (H.1-1)/\i64.wrap (H.1-1)<(O.length:Int))<|(if decide (0<H.1)then xT (O.getD (i64.wrap (H.1-1)).toNat aX.zero).aM ((O.getD H.1.toNat aX.zero).aM)else some 0).bind λ v2=>(if decide (0<H.1)&&decide (0<=v2)then some (.inr (.inr false))else gd (H.2.length+1<=4294967296)<|some (.inl (i64.wrap (H.1+1),H.2++[(O.getD H.1.toNat aX.zero).aJ]))))else some (.inr (.inl H.2)))
def d7(H:aI)(O:List aX):Option Bool:=(if (!(oB H))||decide (8<(O.length:Int))then some false else(lY (GQ H O) (0,[])).bind (λ|.inl z=>NH H z|.inr z=>some z))
@[reducible,instance]def bIz (H:aI) a1:=mkJ (d7 H a1) 0 (@NH.eq_1 H) λ j1=>⟨[(2,.ptr 0 0 0),(5,.own 1 0 j1.length)],[(0,bx H),(1,sx j1)],2⟩
@[reducible,instance]def bJ0 (U:aI) (H:List aX):=mkL x (@GQ.eq_1 U H) λ O=>⟨[(1,la H),(2,.ptr 0 0 0),(5,.own 1 0 O.2.length),(16,la H),(17,.int i64 H.length),(18,.int i64 O.1)],[(0,bx U),(1,sx O.2)],2⟩
instance bJ1(H:aI)(O:List aX):OkP (d7 H O) 269 [ga H,la O] .bool:=ok1 (d7.eq_1 H O) Tryz.f269 [(5,1)]
def Ae(H:aS):Option Bool:=(Dw H).bind λ v1=>(if !decide (v1=0)then(Kl H []).bind λ v2=>some ((!decide (v1=0))&&v2.1)else some ((!decide (v1=0))&&false))
def bJ2(H:aS)(r:Bool)(h:Ae H=some r):PFn C 181 [ga H] (.bool r):=by
 refine oN Tryz.f181 [(3,3)] λ E hG Y hK=>?_;unfold Ae at h;refine lW (lX hG ?_);refine lW (lX hG ?_);refine g_gh (.ownb 1 0 3 (aO.enc aO.zero)) ?_;refine lW (lX hG ?_);obtain⟨v1,O,h⟩:=lZ h;refine nC (λ hg=>(aZb H).ok _ O) ?_;refine RT h (λ U h=>?_) (λ U h=>?_)
 · obtain⟨v2,hv2,h⟩:=lZ h
   refine RU U [(0,1),(1,2)] [(2,3)] [0,1,2] ((bId H []).ok _ hv2) rfl rfl ?_;refine mG ?_;exact nM h
 refine RW U (.bool false) ?_;refine mG ?_;exact nM h
instance bJ3(H:aS):OkP (Ae H) 181 [ga H] .bool:=⟨bJ2 H⟩
def Kn(H:bE×aS):Option (aS×bE):=some (H.2,H.1)
@[go_sem] def bJ4(H:bE×aS):St:=⟨[(4,.ptr 1 0 0),(5,.ptr 2 0 0)],[(0,bx H.1),(1,bx aS.zero),(2,⟨false,5,aS.enc aS.zero,[[.int i64 H.2.k,.str H.2.aZ.name,.int i64 H.2.aZ.aJ.mode,.int i64 H.2.aZ.aJ.aU,.own 3 0 H.2.bG.length]]⟩),(3,sx H.2.bG)],4⟩
def GR(O:(Int->bE->Option (aS×bE)))(U:Int)(H:Int×bE×aS):Option ((Int×bE×aS)⊕(bE×aS)):=(if decide (0<H.1)&&decide (H.2.1.bR.err=0)then(O (i64.wrap (U+1)) H.2.1).bind λ v5=>gd (H.2.2.bG.length+1<=4294967296)<|some (.inl (i64.wrap (H.1-1),v5.2,(⟨H.2.2.k,(⟨H.2.2.aZ.name,(⟨H.2.2.aZ.aJ.mode,H.2.2.aZ.aJ.aU⟩:aC)⟩:aO),H.2.2.bG++[v5.1]⟩:aS)))else some (.inr (H.2.1,H.2.2)))
@[go_sem] def bJ5(O:Int)(H:Int×bE×aS):St:=⟨[(0,.ptr 0 0 0),(1,.int i64 O),(4,.ptr 1 0 0),(5,.ptr 2 0 0),(6,.int i64 H.1)],[(0,bx H.2.1),(1,bx aS.zero),(2,⟨false,5,aS.enc aS.zero,[[.int i64 H.2.2.k,.str H.2.2.aZ.name,.int i64 H.2.2.aZ.aJ.mode,.int i64 H.2.2.aZ.aJ.aU,.own 3 0 H.2.2.bG.length]]⟩),(3,sx H.2.2.bG)],4⟩
def GS(H:(Int->bE->Option (aS×bE)))(O:Int)(j1:bE):Option (aS×bE):=(tA j1).bind λ v1=>(if !decide (v1.2.bR.err=0)then some ((⟨v1.1,(⟨((⟨aS.zero.k,(⟨aS.zero.aZ.name,(⟨aS.zero.aZ.aJ.mode,aS.zero.aZ.aJ.aU⟩:aC)⟩:aO),[]⟩:aS).aZ).name,(⟨(((⟨aS.zero.k,(⟨aS.zero.aZ.name,(⟨aS.zero.aZ.aJ.mode,aS.zero.aZ.aJ.aU⟩:aC)⟩:aO),[]⟩:aS).aZ).aJ).mode,(((⟨aS.zero.k,(⟨aS.zero.aZ.name,(⟨aS.zero.aZ.aJ.mode,aS.zero.aZ.aJ.aU⟩:aC)⟩:aO),[]⟩:aS).aZ).aJ).aU⟩:aC)⟩:aO),(⟨aS.zero.k,(⟨aS.zero.aZ.name,(⟨aS.zero.aZ.aJ.mode,aS.zero.aZ.aJ.aU⟩:aC)⟩:aO),[]⟩:aS).bG⟩:aS),v1.2)else(if decide (v1.1=0)then(Bw v1.2).bind λ v2=>(d6 v2.2).bind λ v3=>some ((⟨v1.1,(⟨v2.1,(⟨v3.1.mode,v3.1.aU⟩:aC)⟩:aO),(⟨aS.zero.k,(⟨aS.zero.aZ.name,(⟨aS.zero.aZ.aJ.mode,aS.zero.aZ.aJ.aU⟩:aC)⟩:aO),[]⟩:aS).bG⟩:aS),v3.2)else(wJ 24 v1.2).bind λ v4=>(lY (GR H O) (v4.1,v4.2,(⟨v1.1,(⟨((⟨aS.zero.k,(⟨aS.zero.aZ.name,(⟨aS.zero.aZ.aJ.mode,aS.zero.aZ.aJ.aU⟩:aC)⟩:aO),[]⟩:aS).aZ).name,(⟨(((⟨aS.zero.k,(⟨aS.zero.aZ.name,(⟨aS.zero.aZ.aJ.mode,aS.zero.aZ.aJ.aU⟩:aC)⟩:aO),[]⟩:aS).aZ).aJ).mode,(((⟨aS.zero.k,(⟨aS.zero.aZ.name,(⟨aS.zero.aZ.aJ.mode,aS.zero.aZ.aJ.aU⟩:aC)⟩:aO),[]⟩:aS).aZ).aJ).aU⟩:aC)⟩:aO),(⟨aS.zero.k,(⟨aS.zero.aZ.name,(⟨aS.zero.aZ.aJ.mode,aS.zero.aZ.aJ.aU⟩:aC)⟩:aO),[]⟩:aS).bG⟩:aS))).bind (λ z=>Kn z)))
@[go_sem] def bJ6(H:Int)(j1:bE):St:=⟨[(0,.ptr 0 0 0),(1,.int i64 H),(4,.ptr 1 0 0),(5,.ptr 2 0 0)],[(0,bx j1),(1,bx aS.zero),(2,⟨false,5,aS.enc aS.zero,[[.int i64 (⟨aS.zero.k,(⟨aS.zero.aZ.name,(⟨aS.zero.aZ.aJ.mode,aS.zero.aZ.aJ.aU⟩:aC)⟩:aO),[]⟩:aS).k,.str ((⟨aS.zero.k,(⟨aS.zero.aZ.name,(⟨aS.zero.aZ.aJ.mode,aS.zero.aZ.aJ.aU⟩:aC)⟩:aO),[]⟩:aS).aZ).name,.int i64 (((⟨aS.zero.k,(⟨aS.zero.aZ.name,(⟨aS.zero.aZ.aJ.mode,aS.zero.aZ.aJ.aU⟩:aC)⟩:aO),[]⟩:aS).aZ).aJ).mode,.int i64 (((⟨aS.zero.k,(⟨aS.zero.aZ.name,(⟨aS.zero.aZ.aJ.mode,aS.zero.aZ.aJ.aU⟩:aC)⟩:aO),[]⟩:aS).aZ).aJ).aU,.own 3 0 ((⟨aS.zero.k,(⟨aS.zero.aZ.name,(⟨aS.zero.aZ.aJ.mode,aS.zero.aZ.aJ.aU⟩:aC)⟩:aO),[]⟩:aS).bG).length]]⟩),(3,sx (⟨aS.zero.k,(⟨aS.zero.aZ.name,(⟨aS.zero.aZ.aJ.mode,aS.zero.aZ.aJ.aU⟩:aC)⟩:aO),[]⟩:aS).bG)],4⟩
def GT(H:(Int->bE->Option (aS×bE)))(U:Int)(O:bE):Option (aS×bE):=(if decide (O.bR.err=0)&&decide (4<U)then GS H U ({O with bR:={O.bR with err:=4}})else GS H U O)
def BL:Nat->(Int->bE->Option (aS×bE))
 |0=>λ _ _=>none
 |n+1=>GT (BL n)
def GU(H:Int)(O:bE):Option (aS×bE):=BL ((6-H).toNat+1) H O
def bJ7(Y:(Int->bE->Option (aS×bE)))(hrc:∀(O:Int) (U:bE) (r:aS×bE),Y O U=some r->MFn C 167 [.ptr 0 0 0,.int i64 O] [(0,bx U)] 1 (ga r.1) [(0,bx r.2)] 1)(O:Int)(U:bE)(r:aS×bE)(h:GT Y O U=some r):MFn C 167 [.ptr 0 0 0,.int i64 O] [(0,bx U)] 1 (ga r.1) [(0,bx r.2)] 1:=by
 refine oZ Tryz.f167 [(5,18)] [ga r.1] λ E hG hN hK=>?_;unfold GT at h;refine lW (lX hG ?_);refine lW (lX hG ?_);refine g_gh (.ownb 2 4 5 (aS.enc aS.zero)) ?_;refine lW (lW (lX hG ?_));refine rN (bJ6 O) (λ v=>GS Y O v=some r) rfl hG h ?_ (λ _ h=>?_) (λ _ h=>?_)
 · intro j1 h
   unfold GS at h;refine g_st ?_;refine lW (lX hG ?_);obtain⟨v1,F,h⟩:=lZ h;refine mO [(0,0)] [] [0] ((Gt j1).ok _ F) rfl rfl ?_;refine lW (lW (lX hG ?_));refine mA rfl hG h (λ _ h=>?_) (λ _ h=>?_)
   · refine lW (lX hG ?_)
     refine g_gh (.fz [3]) ?_;refine mG ?_;exact mW [(0,0)] h
   refine mE ?_;refine lW (lW (lX hG ?_));refine mA rfl hG h (λ _ h=>?_) (λ _ h=>?_)
   · refine lW (lX hG ?_)
     obtain⟨v2,hv2,h⟩:=lZ h;refine mO [(0,0)] [] [0] ((Td v1.2).ok _ hv2) rfl rfl ?_;refine lW (lX hG ?_);obtain⟨v3,hv3,h⟩:=lZ h;refine mO [(0,0)] [] [0] ((bIp v2.2).ok _ hv3) rfl rfl ?_;refine lW (lX hG ?_);refine g_gh (.fz [3]) ?_;refine mG ?_;exact mW [(0,0)] h
   refine mE ?_;refine lW (lW (lX hG ?_));obtain⟨v4,hv4,h⟩:=lZ h;refine mO [(0,0)] [] [0] ((JW 24 v1.2).ok _ hv4) rfl rfl ?_;refine pU bJ4 (λ v=>Kn v=some r) ?_ ?_
   · intro j2 h
     unfold Kn at h;refine g_st ?_;refine lW (lX hG ?_);refine g_gh (.fz [3]) ?_;refine mG ?_;exact mW [(0,0)] h
   refine qH (bJ5 O) hK [(0,0),(1,1),(2,2),(3,3)] h (λ h0 h M x0 H B=>?_);unfold GR at H;refine g_st ?_;refine lW (lW (lX hG ?_));refine mA rfl hG H (λ _ H=>?_) (λ _ H=>?_)
   · refine mE ?_
     refine lW (oG (qD oL hG ?_));obtain⟨v5,hv5,H⟩:=lZ H;obtain⟨y0,H⟩:=mH H;refine vC [(0,0)] [] [0] (hrc (i64.wrap (O+1)) M.2.1 _ hv5) rfl rfl ?_;refine lX hG ?_;exact oU hK [(0,0),(1,1),(2,2),(3,4)] H
   refine oI ?_;cases H;cases B _ rfl;exact mT hK [(0,0),(1,1),(2,2),(3,3)] (M.2.1,M.2.2) (by exact h)
 · refine lX hG ?_
   exact mT hK [(0,0),(1,1),(2,2),(3,3)] ({U with bR:={U.bR with err:=4}}) (by exact h)
 refine mE ?_;exact mT hK [(0,0),(1,1),(2,2),(3,3)] U (by exact h)
def TL:∀(n:Nat) (H:Int) (O:bE) (r:aS×bE),BL n H O=some r->MFn C 167 [.ptr 0 0 0,.int i64 H] [(0,bx O)] 1 (ga r.1) [(0,bx r.2)] 1
 |0,_,_,_,h=>nomatch h
 |n+1,H,O,r,h=>bJ7 (BL n) (TL n) H O r h
instance bJ9(H:Int)(O:bE):OkM (GU H O) 167 [.ptr 0 0 0,.int i64 H] [(0,bx O)] 1 (λ r=>ga r.1) (λ r=>[(0,bx r.2)]) 1:=⟨λ r h=>TL _ H O r h⟩
def D7(j1:bV×aP)(H:bV):Option (aP×Int×Int):=(if !decide (H.err=0)then some ({aP.zero with},0,H.err)else some (j1.2,H.at_,0))
def d8(j1:bV×aP):Option (aP×Int×Int):=(if decide (j1.1.err=0)then a8 j1.2 else some false).bind λ v5=>(if decide (j1.1.err=0)&&(!v5)then D7 j1 ({j1.1 with err:=2})else D7 j1 j1.1)
def rQ(H:Int×bV×aP):Option ((Int×bV×aP)⊕(bV×aP)):=(if decide (0<H.1)&&decide (H.2.1.err=0)then(xU H.2.1).bind λ v6=>(rO 1073741824 16 v6.2).bind λ O=>(rO 1073741824 16 O.2).bind λ U=>gd (H.2.2.lower.length+1<=4294967296)<|some (.inl (i64.wrap (H.1-1),U.2,(⟨(⟨H.2.2.aM.site,H.2.2.aM.inc,H.2.2.aM.num⟩:aK),H.2.2.label,H.2.2.cost,H.2.2.lower++[{{{aO.zero with name:=v6.1}with aJ:={({aO.zero with name:=v6.1}).aJ with mode:=O.1}}with aJ:={({{aO.zero with name:=v6.1}with aJ:={({aO.zero with name:=v6.1}).aJ with mode:=O.1}}).aJ with aU:=U.1}}]⟩:aP)))else some (.inr (H.2.1,H.2.2)))
def yB(H:List Int):Option (aP×Int×Int):=(xZ ({bV.zero with all:=H})).bind λ v1=>(rO 1073741824 16 v1.2).bind λ v2=>(rO 1073741824 16 v2.2).bind λ v3=>(rO 8 4 v3.2).bind λ v4=>(lY rQ (v4.1,v4.2,(⟨(⟨v1.1.site,v1.1.inc,v1.1.num⟩:aK),i64.wrap (v2.1-1),v3.1,[]⟩:aP))).bind (λ z=>d8 z)
@[reducible,instance]def bJa (j1:bV×aP):=mkJ (d8 j1,v1) 999 (@D7.eq_1 j1) λ H=>⟨[(2,.ptr 0 0 0),(5,.ptr 1 0 0),(6,.ptr 2 0 0)],[(0,bx aP.zero),(1,bx H),(2,⟨false,6,aP.enc aP.zero,[[.int i64 j1.2.aM.site,.int i64 j1.2.aM.inc,.int i64 j1.2.aM.num,.int i64 j1.2.label,.int i64 j1.2.cost,.own 3 0 j1.2.lower.length]]⟩),(3,sx j1.2.lower)],4⟩
@[reducible,instance]def bJb (H:List Int):=mkJ ((((yB H,v1),v2),v3),v4) 0 (@d8.eq_1) λ j1=>⟨[(2,.ptr 0 0 0),(5,.ptr 1 0 0),(6,.ptr 2 0 0)],[(0,bx aP.zero),(1,bx j1.1),(2,⟨false,6,aP.enc aP.zero,[[.int i64 j1.2.aM.site,.int i64 j1.2.aM.inc,.int i64 j1.2.aM.num,.int i64 j1.2.label,.int i64 j1.2.cost,.own 3 0 j1.2.lower.length]]⟩),(3,sx j1.2.lower)],4⟩
@[reducible,instance]def bJc:=mkL x (@rQ.eq_1) λ H=>⟨[(2,.ptr 0 0 0),(5,.ptr 1 0 0),(6,.ptr 2 0 0),(7,.int i64 H.1)],[(0,bx aP.zero),(1,bx H.2.1),(2,⟨false,6,aP.enc aP.zero,[[.int i64 H.2.2.aM.site,.int i64 H.2.2.aM.inc,.int i64 H.2.2.aM.num,.int i64 H.2.2.label,.int i64 H.2.2.cost,.own 3 0 H.2.2.lower.length]]⟩),(3,sx H.2.2.lower)],4⟩
instance bJd(H:List Int):OkP (yB H) 118 [.sl (H.map (eI u8))] (λ r=>.tup [ga r.1,.int i64 r.2.1,.int i64 r.2.2]):=⟨λ r h=>by
 refine oN Tryz.f118 [(14,34),(6,34)] λ E hG U hK=>?_;have hm:Mk (yB H):=trivial;unfold yB at h;refine lW (lX hG ?_);refine lW (lX hG ?_);refine lW (lX hG ?_);obtain⟨v1,O,h⟩:=lZ h;have hm:=mkP hm v1;refine mO [(0,1)] [] [0] ((bHf ({bV.zero with all:=H})).ok _ O) rfl rfl ?_;refine g_gh (.ownb 2 5 3 (aO.enc aO.zero)) ?_;exact gogo⟩
def BM(U:aI)(H O:aC):Option aC:=(if (!(uL U H))||(!(uL U O))then some ({aC.zero with})else(if rZ U H O then some H else(if rZ U O H then some O else(DQ H.mode O.mode).bind λ v1=>some ({aC.zero with mode:=v1}))))
instance bJe(H:aI)(O U:aC):OkP (BM H O U) 205 [ga H,ga O,ga U] ga:=ok1 (BM.eq_1 H O U) Tryz.f205 []
def d9(H O:aL):Option Bool:=(if (((((((((decide (H.kind=O.kind)&&decide (H.aM=O.aM))&&decide (H.gen=O.gen))&&decide (H.aZ=O.aZ))&&decide (H.bC=O.bC))&&decide (H.inc=O.inc))&&decide (H.round=O.round))&&decide (H.epoch=O.epoch))&&decide (H.site=O.site))&&decide (H.label=O.label))&&decide (H.done=O.done)then wN H.state O.state else some false).bind λ v1=>(if ((((((((((decide (H.kind=O.kind)&&decide (H.aM=O.aM))&&decide (H.gen=O.gen))&&decide (H.aZ=O.aZ))&&decide (H.bC=O.bC))&&decide (H.inc=O.inc))&&decide (H.round=O.round))&&decide (H.epoch=O.epoch))&&decide (H.site=O.site))&&decide (H.label=O.label))&&decide (H.done=O.done))&&v1 then uJ H.options O.options else some false).bind λ v2=>some ((((((((((((decide (H.kind=O.kind)&&decide (H.aM=O.aM))&&decide (H.gen=O.gen))&&decide (H.aZ=O.aZ))&&decide (H.bC=O.bC))&&decide (H.inc=O.inc))&&decide (H.round=O.round))&&decide (H.epoch=O.epoch))&&decide (H.site=O.site))&&decide (H.label=O.label))&&decide (H.done=O.done))&&v1)&&v2)
instance bJf(H O:aL):OkP (d9 H O) 12 [ga H,ga O] .bool:=ok1 (d9.eq_1 H O) Tryz.f12 []
def D8(H:aI)(O:List aX)(U:aK)(Y:aC):Option Bool:=(d7 H O).bind λ v1=>some ((v1&&mP U)&&mM H Y)
instance bJg(H:aI)(O:List aX)(U:aK)(Y:aC):OkP (D8 H O U Y) 272 [ga H,la O,ga U,ga Y] .bool:=ok1 (D8.eq_1 H O U Y) Tryz.f272 []
def BN(H O:aH):Option Bool:=(D0 H.aF O.aF).bind λ v1=>(if v1 then DZ H.aY O.aY else some false).bind λ v2=>some (v1&&v2)
instance bJh(H O:aH):OkP (BN H O) 38 [ga H,ga O] .bool:=⟨λ r h=>by
 refine oN Tryz.f38 [] λ E hG B hK=>?_;have hm:Mk (BN H O):=trivial;unfold BN at h;refine lW (lX hG ?_);refine lW (lX hG ?_);obtain⟨v1,U,h⟩:=lZ h;have hm:=mkP hm v1;refine mO [] [] [] ((zR2 H.aF O.aF).ok _ U) rfl rfl ?_;obtain⟨v2,hv2,h⟩:=lZ h;have hm:=mkP hm v2;refine FW [] [] hv2 (λ Y=>(zV5 H.aY O.aY).ok _ Y) rfl ?_;exact gogo⟩
def GV(v2:(List aO)×Bool)(j1:Unit):Option ((List aO)×Bool):=some (v2.1,true)
@[go_sem] def bJj(v2:(List aO)×Bool)(j1:Unit):St:=⟨[(4,la v2.1)],[],0⟩
def NI(H:Int)(O:Unit):Option (Int⊕(Unit⊕((List aO)×Bool))):=some (.inl (i64.wrap (H+1)))
@[go_sem] def bJl(v2:(List aO)×Bool)(H:Int)(O:Unit):St:=⟨[(4,la v2.1),(6,.int i64 H)],[],0⟩
def D9(v2:(List aO)×Bool)(O H:Int):Option (Int⊕(Unit⊕((List aO)×Bool))):=(if decide (H<O)then gd (0<=O/\O<v2.1.length)<|gd (0<=H/\H<v2.1.length)<|(if ((v2.1.getD O.toNat aO.zero).name).toList==((v2.1.getD H.toNat aO.zero).name).toList then some (.inr (.inr ([],false)))else some (.inl (i64.wrap (H+1))))else some (.inr (.inl ())))
@[go_sem] def bJn(v2:(List aO)×Bool)(H O:Int):St:=⟨[(4,la v2.1),(6,.int i64 H),(7,.int i64 O)],[],0⟩
def BO(v2:(List aO)×Bool)(H:Int):Option (Int⊕(Unit⊕((List aO)×Bool))):=(if decide (H<v2.1.length)then(lY (D9 v2 H) 0).bind (λ|.inl z=>NI H z|.inr z=>some (.inr (.inr z)))else some (.inr (.inl ())))
@[go_sem] def bJo(v2:(List aO)×Bool)(H:Int):St:=⟨[(4,la v2.1),(6,.int i64 H)],[],0⟩
def qQ(H:aS):Option ((List aO)×Bool):=(Dz H).bind λ v1=>(if decide (v1=0)then some ([],false)else(BG H).bind λ v2=>match v2 with | .inl v2=>some ([],false) | .inr v2=>(if (!v2.2)||decide (8<(v2.1.length:Int))then some ([],false)else(lY (BO v2) 0).bind (λ|.inl z=>GV v2 z|.inr z=>some z)))
def bJp(F:aS)(r:(List aO)×Bool)(h:qQ F=some r):PFn C 162 [ga F] (.tup [la r.1,.bool r.2]):=by
 refine oN Tryz.f162 [] λ E hG hN hK=>?_;unfold qQ at h;refine lW (lX hG ?_);refine lW (lW (lX hG ?_));obtain⟨v1,M,h⟩:=lZ h;refine nC (λ hg=>(bA2 F).ok _ M) ?_;refine mA rfl hG h (λ _ h=>?_) (λ _ h=>?_)
 · refine lW (lX hG ?_)
   refine mG ?_;exact nM h
 refine mE ?_;refine lW (lX hG ?_);obtain⟨v2,hv2,h⟩:=lZ h;rcases v2 with v2|v2
 · dsimp only at h
   refine mO [] [(0,1)] [0] (bI5 _ _ hv2) rfl rfl ?_;refine lW (lW (lX hG ?_));refine AY rfl hG ?_;refine lW (lX hG ?_);refine mG ?_;exact nM h
 dsimp only at h;refine mO [] [] [] (bI6 _ _ hv2) rfl rfl ?_;refine lW (lW (lX hG ?_));refine mA rfl hG h (λ _ h=>?_) (λ _ h=>?_)
 · refine lW (lX hG ?_)
   refine mG ?_;exact nM h
 refine mE ?_;refine lW (lW (lX hG ?_));refine pU (bJj v2) (λ v=>GV v2 v=some r) ?_ ?_
 · intro j1 h
   unfold GV at h;refine g_st ?_;refine lW (lX hG ?_);refine mG ?_;exact nM h
 refine qH (bJo v2) hK [] h (λ h0 h g1 B H U=>?_);unfold BO at H;refine g_st ?_;refine lW (lW (lX hG ?_));refine mA rfl hG H (λ _ H=>?_) (λ _ H=>?_)
 · refine mE ?_
   refine lW (oG (lW (lX hG ?_)));refine pU (bJl v2 g1) (λ v=>NI g1 v=some B) ?_ ?_
   · intro j2 H
     unfold NI at H;refine g_st ?_;refine lX hG ?_;exact oU hK [] H
   refine qH (bJn v2 g1) hK [] H (λ x0 H g2 y0 O Y=>?_);unfold D9 at O;refine g_st ?_;refine lW (lW (lX hG ?_));refine mA rfl hG O (λ _ O=>?_) (λ _ O=>?_)
   · refine mE ?_
     refine lW (oG (lW ?_));obtain⟨z0,O⟩:=mH O;obtain⟨u0,O⟩:=mH O;refine zO oL hG ?_;refine mA rfl hG O (λ _ O=>?_) (λ _ O=>?_)
     · refine lW (lX hG ?_)
       refine mG ?_;obtain rfl:=dY O;have hx:=Y _ rfl;subst hx
       try dsimp only at H
       cases H;cases U _ rfl;exact nM h
     refine mE ?_;refine lX hG ?_;exact oU hK [] O
   refine oI ?_;obtain rfl:=dY O;have hx:=Y _ rfl;subst hx
   try dsimp only at H
   exact mT hK [] () (by exact H)
 refine oI ?_;cases H;cases U _ rfl;exact mT hK [] () (by exact h)
instance bJq(H:aS):OkP (qQ H) 162 [ga H] (λ r=>.tup [la r.1,.bool r.2]):=⟨bJp H⟩
def TM(j1:Unit):Option Bool:=some true
def BP(H:aA)(O:Int):Option (Int⊕(Unit⊕Bool)):=(if decide (O<H.aW.length)then gd (0<=O/\O<H.aW.length)<|(if mM H.aB ((H.aW.getD O.toNat aV.zero).aJ)then Bm H ((H.aW.getD O.toNat aV.zero).aM)else some aC.zero).bind λ v2=>(if (!(mM H.aB (H.aW.getD O.toNat aV.zero).aJ))||(!(oQ v2))then some (.inr (.inr false))else some (.inl (i64.wrap (O+1))))else some (.inr (.inl ())))
def BQ(H:aA):Option Bool:=(z7 H.aW).bind λ v1=>(if (!v1)||decide (8<i64.wrap ((H.aT.length:Int)+(H.aW.length:Int)))then some false else(lY (BP H) 0).bind (λ|.inl z=>TM z|.inr z=>some z))
@[reducible,instance]def bJs a0:=mkJ (BQ a0,v1) 0 (@TM.eq_1) λ j1=>⟨[],[],0⟩
@[reducible,instance]def bJt (H:aA):=mkL x (@BP.eq_1 H) λ O=>⟨[(1,.ptr 0 0 0),(20,la H.aW),(21,.int i64 H.aW.length),(22,.int i64 O)],[(0,bx H)],1⟩
instance bJu(H:aA):OkP (BQ H) 271 [ga H] .bool:=ok1 (BQ.eq_1 H) Tryz.f271 []
def TN(H:bE×aA):Option (aA×bE):=some (H.2,H.1)
def GW(H:Int×bE×aA):Option ((Int×bE×aA)⊕(bE×aA)):=(if decide (0<H.1)&&decide (H.2.1.bR.err=0)then(d4 H.2.1).bind λ B=>(d6 B.2).bind λ O=>(tA O.2).bind λ U=>(tA U.2).bind λ Y=>gd (H.2.2.aW.length+1<=4294967296)<|some (.inl (i64.wrap (H.1-1),Y.2,(⟨(⟨H.2.2.aB.name,H.2.2.aB.kind,H.2.2.aB.aU,H.2.2.aB.home⟩:aI),H.2.2.aT,H.2.2.aN,H.2.2.aW++[{{{{aV.zero with aM:=B.1}with aJ:=O.1}with bC:=U.1}with bS:=Y.1}],H.2.2.gen⟩:aA)))else some (.inr (H.2.1,H.2.2)))
def Ko(H:bE×aA):Option (aA×bE):=(wJ 8 H.1).bind λ O=>(lY GW (O.1,O.2,H.2)).bind (λ z=>TN z)
def GX(H:Int×bE×aA):Option ((Int×bE×aA)⊕(bE×aA)):=(if decide (0<H.1)&&decide (H.2.1.bR.err=0)then(d4 H.2.1).bind λ O=>(d6 O.2).bind λ U=>gd (H.2.2.aN.length+1<=4294967296)<|some (.inl (i64.wrap (H.1-1),U.2,(⟨(⟨H.2.2.aB.name,H.2.2.aB.kind,H.2.2.aB.aU,H.2.2.aB.home⟩:aI),H.2.2.aT,H.2.2.aN++[{aV.zero with aM:=O.1,aJ:=U.1}],H.2.2.aW,H.2.2.gen⟩:aA)))else some (.inr (H.2.1,H.2.2)))
def Kp(j1:bE×aA):Option (aA×bE):=(wJ 8 j1.1).bind λ H=>(lY GX (H.1,H.2,j1.2)).bind (λ z=>Ko z)
def GY(H:Int×bE×aA):Option ((Int×bE×aA)⊕(bE×aA)):=(if decide (0<H.1)&&decide (H.2.1.bR.err=0)then(d4 H.2.1).bind λ O=>(d6 O.2).bind λ U=>gd (H.2.2.aT.length+1<=4294967296)<|some (.inl (i64.wrap (H.1-1),U.2,(⟨(⟨H.2.2.aB.name,H.2.2.aB.kind,H.2.2.aB.aU,H.2.2.aB.home⟩:aI),H.2.2.aT++[(⟨O.1,U.1⟩:aX)],H.2.2.aN,H.2.2.aW,H.2.2.gen⟩:aA)))else some (.inr (H.2.1,H.2.2)))
def Af(H:bE):Option (aA×bE):=(Bw H).bind λ v1=>(tA v1.2).bind λ v2=>(tA v2.2).bind λ v3=>(tA v3.2).bind λ v4=>(tA v4.2).bind λ v5=>(wJ 8 v5.2).bind λ v6=>(lY GY (v6.1,v6.2,(⟨(⟨v1.1,v2.1,v3.1,v4.1⟩:aI),[],[],[],v5.1⟩:aA))).bind (λ z=>Kp z)
@[reducible,instance]def bJw (O:bE×aA):=mkJ (Ko O,v1) 4 (@TN.eq_1) λ H=>⟨[(2,.ptr 1 0 0),(3,.ptr 2 0 0)],[(0,bx H.1),(1,bx aA.zero),(2,⟨false,8,aA.enc aA.zero,[[.str H.2.aB.name,.int i64 H.2.aB.kind,.int i64 H.2.aB.aU,.int i64 H.2.aB.home,.own 3 0 H.2.aT.length,.own 4 0 H.2.aN.length,.own 5 0 H.2.aW.length,.int i64 H.2.gen]]⟩),(3,sx H.2.aT),(4,sx H.2.aN),(5,sx H.2.aW)],6⟩
@[reducible,instance]def bJx:=mkL x (@GW.eq_1) λ H=>⟨[(0,.ptr 0 0 0),(2,.ptr 1 0 0),(3,.ptr 2 0 0),(8,.int i64 H.1)],[(0,bx H.2.1),(1,bx aA.zero),(2,⟨false,8,aA.enc aA.zero,[[.str H.2.2.aB.name,.int i64 H.2.2.aB.kind,.int i64 H.2.2.aB.aU,.int i64 H.2.2.aB.home,.own 3 0 H.2.2.aT.length,.own 4 0 H.2.2.aN.length,.own 5 0 H.2.2.aW.length,.int i64 H.2.2.gen]]⟩),(3,sx H.2.2.aT),(4,sx H.2.2.aN),(5,sx H.2.2.aW)],6⟩
@[reducible,instance]def bJy (j1:bE×aA):=mkJ (Kp j1,v1) 2 (@Ko.eq_1) λ H=>⟨[(0,.ptr 0 0 0),(2,.ptr 1 0 0),(3,.ptr 2 0 0)],[(0,bx H.1),(1,bx aA.zero),(2,⟨false,8,aA.enc aA.zero,[[.str H.2.aB.name,.int i64 H.2.aB.kind,.int i64 H.2.aB.aU,.int i64 H.2.aB.home,.own 3 0 H.2.aT.length,.own 4 0 H.2.aN.length,.own 5 0 H.2.aW.length,.int i64 H.2.gen]]⟩),(3,sx H.2.aT),(4,sx H.2.aN),(5,sx H.2.aW)],6⟩
@[reducible,instance]def bJz:=mkL x (@GX.eq_1) λ H=>⟨[(0,.ptr 0 0 0),(2,.ptr 1 0 0),(3,.ptr 2 0 0),(6,.int i64 H.1)],[(0,bx H.2.1),(1,bx aA.zero),(2,⟨false,8,aA.enc aA.zero,[[.str H.2.2.aB.name,.int i64 H.2.2.aB.kind,.int i64 H.2.2.aB.aU,.int i64 H.2.2.aB.home,.own 3 0 H.2.2.aT.length,.own 4 0 H.2.2.aN.length,.own 5 0 H.2.2.aW.length,.int i64 H.2.2.gen]]⟩),(3,sx H.2.2.aT),(4,sx H.2.2.aN),(5,sx H.2.2.aW)],6⟩
@[reducible,instance]def bK0 (H:bE):=mkJ ((((((Af H,v1),v2),v3),v4),v5),v6) 0 (@Kp.eq_1) λ j1=>⟨[(0,.ptr 0 0 0),(2,.ptr 1 0 0),(3,.ptr 2 0 0)],[(0,bx j1.1),(1,bx aA.zero),(2,⟨false,8,aA.enc aA.zero,[[.str j1.2.aB.name,.int i64 j1.2.aB.kind,.int i64 j1.2.aB.aU,.int i64 j1.2.aB.home,.own 3 0 j1.2.aT.length,.own 4 0 j1.2.aN.length,.own 5 0 j1.2.aW.length,.int i64 j1.2.gen]]⟩),(3,sx j1.2.aT),(4,sx j1.2.aN),(5,sx j1.2.aW)],6⟩
@[reducible,instance]def bK1:=mkL x (@GY.eq_1) λ H=>⟨[(0,.ptr 0 0 0),(2,.ptr 1 0 0),(3,.ptr 2 0 0),(4,.int i64 H.1)],[(0,bx H.2.1),(1,bx aA.zero),(2,⟨false,8,aA.enc aA.zero,[[.str H.2.2.aB.name,.int i64 H.2.2.aB.kind,.int i64 H.2.2.aB.aU,.int i64 H.2.2.aB.home,.own 3 0 H.2.2.aT.length,.own 4 0 H.2.2.aN.length,.own 5 0 H.2.2.aW.length,.int i64 H.2.2.gen]]⟩),(3,sx H.2.2.aT),(4,sx H.2.2.aN),(5,sx H.2.2.aW)],6⟩
instance bK2(H:bE):OkM (Af H) 164 [.ptr 0 0 0] [(0,bx H)] 1 (λ r=>ga r.1) (λ r=>[(0,bx r.2)]) 1:=⟨λ r h=>by
 refine oZ Tryz.f164 [(3,114)] [ga r.1] λ E hG hN hK=>?_;have hm:Mk (Af H):=trivial;unfold Af at h;refine lW (lX hG ?_);refine lW (lX hG ?_);refine g_gh (.ownb 2 4 5 (aX.enc aX.zero)) ?_;refine g_gh (.ownb 2 5 7 (aV.enc aV.zero)) ?_;refine g_gh (.ownb 2 6 7 (aV.enc aV.zero)) ?_;refine lW (lX hG ?_);obtain⟨v1,O,h⟩:=lZ h;have hm:=mkP hm v1;refine mO [(0,0)] [] [0] ((Td H).ok _ O) rfl rfl ?_;refine lW (lX hG ?_);obtain⟨v2,hv2,h⟩:=lZ h;have hm:=mkP hm v2;refine mO [(0,0)] [] [0] ((Gt v1.2).ok _ hv2) rfl rfl ?_;refine lW (lX hG ?_);obtain⟨v3,hv3,h⟩:=lZ h;have hm:=mkP hm v3;refine mO [(0,0)] [] [0] ((Gt v2.2).ok _ hv3) rfl rfl ?_;refine lW (lX hG ?_);obtain⟨v4,hv4,h⟩:=lZ h;have hm:=mkP hm v4;refine mO [(0,0)] [] [0] ((Gt v3.2).ok _ hv4) rfl rfl ?_;refine lW (lX hG ?_);obtain⟨v5,hv5,h⟩:=lZ h;have hm:=mkP hm v5;refine mO [(0,0)] [] [0] ((Gt v4.2).ok _ hv5) rfl rfl ?_;refine lW (lW (lX hG ?_));obtain⟨v6,U,h⟩:=lZ h;have hm:=mkP hm v6;refine mO [(0,0)] [] [0] ((JW 8 v5.2).ok _ U) rfl rfl ?_;refine xN hm h (λ j1 hm h=>?_) ?_
 · try refine g_st ?_
   refine lW (lW (lX hG ?_));obtain⟨F,Y,h⟩:=lZ h;have hm:=mkP hm F;refine mO [(0,0)] [] [0] ((JW 8 j1.1).ok _ Y) rfl rfl ?_;refine xN hm h (λ M hm h=>?_) ?_
   · try refine g_st ?_
     refine lW (lW (lX hG ?_));obtain⟨v8,B,h⟩:=lZ h;have hm:=mkP hm v8;refine mO [(0,0)] [] [0] ((JW 8 M.1).ok _ B) rfl rfl ?_;refine xN hm h (λ j3 hm h=>?_) ?_
     · try refine g_st ?_
       refine lW (lX hG ?_);refine g_gh (.fz [3,4,5]) ?_;exact gogo
     exact gogo
   exact gogo
 exact gogo⟩
def NJ(j1:(List aK)):Option (List aK):=(b5 j1).bind λ v1=>some v1
def GZ(O:List aA)(H:Int×(List aK)):Option ((Int×(List aK))⊕(List aK)):=(if decide (H.1<O.length)then gd (0<=H.1/\H.1<O.length)<|(BB (O.getD H.1.toNat aA.zero)).bind λ v2=>gd (H.2.length+v2.length<=4294967296)<|some (.inl (i64.wrap (H.1+1),H.2++v2))else some (.inr H.2))
def e8(H:List aA):Option (List aK):=(lY (GZ H) (0,[])).bind (λ z=>NJ z)
@[reducible,instance]def bK5 a0:=mkJ (e8 a0) 0 (@NJ.eq_1) λ j1=>⟨[(3,.own 0 0 j1.length)],[(0,sx j1)],1⟩
@[reducible,instance]def bK6 (O:List aA):=mkL x (@GZ.eq_1 O) λ H=>⟨[(0,la O),(3,.own 0 0 H.2.length),(4,.int i64 H.1)],[(0,sx H.2)],1⟩
instance bK7(H:List aA):OkP (e8 H) 91 [la H] la:=ok1 (e8.eq_1 H) Tryz.f91 [(3,1)]
def Ea(H:bA)(O:bN):Option (bA×Int):=(uN H).bind λ v1=>(if !v1 then some ({bA.zero with},2)else gd (H.aQ.length<=4294967296)<|gd (H.aQ.length+1<=4294967296)<|gd (H.bH.length<=4294967296)<|(uN (⟨H.aQ++[O],H.bH⟩:bA)).bind λ v2=>(if !v2 then some ({bA.zero with},1)else some ((⟨H.aQ++[O],H.bH⟩:bA),0)))
instance bK8(H:bA)(O:bN):OkP (Ea H O) 235 [ga H,ga O] (λ r=>.tup [ga r.1,.int i64 r.2]):=ok1 (Ea.eq_1 H O) Tryz.f235 [(11,1),(18,1),(22,2)]
def NK(j1:Int)(H:(List aV)):Option ((List aV)×Int×Int):=some (H,j1,0)
def G0(O:List aV)(H:Int×(List aV)):Option ((Int×(List aV))⊕(List aV)):=(if decide (H.1<O.length)then gd (0<=H.1/\H.1<O.length)<|gd (H.2.length+1<=4294967296)<|some (.inl (i64.wrap (H.1+1),H.2++[{(O.getD H.1.toNat aV.zero)with bS:=(i64.wrap ((O.getD H.1.toNat aV.zero).bS+1))}]))else some (.inr H.2))
def G1(H:List aV)(O:aV)(j1:Int):Option ((List aV)×Int×Int):=gd (0<=0/\0<=j1/\j1<=H.length)<|gd ((H.take j1.toNat).length<=4294967296)<|gd ((H.take j1.toNat).length+1<=4294967296)<|(lY (G0 H) (j1,H.take j1.toNat++[O])).bind (λ z=>NK j1 z)
def Kq(O:List aV)(U:aV)(H:Int):Option (Int⊕Int):=gd (decide (0<H)=true->0<=i64.wrap (H-1)/\i64.wrap (H-1)<(O.length:Int))<|gd ((decide (0<H)&&decide ((O.getD (i64.wrap (H-1)).toNat aV.zero).bC<U.bC))=true->0<=i64.wrap (H-1)/\i64.wrap (H-1)<(O.length:Int))<|(if (decide (0<H)&&decide ((O.getD (i64.wrap (H-1)).toNat aV.zero).bC<U.bC))&&decide ((O.getD (i64.wrap (H-1)).toNat aV.zero).bS<3)then some (.inl (i64.wrap (H-1)))else some (.inr H))
def BR(H:List aV)(O:aV):Option ((List aV)×Int×Int):=(y9 H).bind λ v1=>(if !v1 then some ([],0,2)else(if (!(xV O))||(!decide (O.bS=0))then some ([],0,1)else(wG H O.aM).bind λ v2=>(if decide (0<=v2)then some ([],0,11)else(if decide ((H.length:Int)=8)then some ([],0,4)else(lY (Kq H O) (H.length:Int)).bind (λ z=>G1 H O z)))))
@[reducible,instance]def bKd a0 a1 (j1:Int):=mkJ (G1 a0 a1 j1) 2 (@NK.eq_1 j1) λ H=>⟨[(7,.int i64 j1),(8,.own 0 0 H.length)],[(0,sx H)],1⟩
@[reducible,instance]def bKe (H:List aV) a1 (j1:Int):=mkL (G1 H a1 j1) (@G0.eq_1 H) λ O=>⟨[(0,la H),(7,.int i64 j1),(8,.own 0 0 O.2.length),(9,.int i64 O.1)],[(0,sx O.2)],1⟩
@[reducible,instance]def bKf (H:List aV) (O:aV):=mkJ ((BR H O,v1),v2) 0 (@G1.eq_1 H O) λ j1=>⟨[(0,la H),(3,.ptr 0 0 0),(7,.int i64 j1)],[(0,bx O)],1⟩
@[reducible,instance]def bKg (H:List aV) (O:aV):=mkL x (@Kq.eq_1 H O) λ U=>⟨[(0,la H),(3,.ptr 0 0 0),(7,.int i64 U)],[(0,bx O)],1⟩
instance bKh(H:List aV)(O:aV):OkP (BR H O) 279 [la H,ga O] (λ r=>.tup [la r.1,.int i64 r.2.1,.int i64 r.2.2]):=ok1 (BR.eq_1 H O) Tryz.f279 [(56,1)]
def NL(j1:(List Int)):Option (List Int):=some j1
def G2(O:aP)(H:Int×(List Int)):Option ((Int×(List Int))⊕(List Int)):=(if decide (H.1<O.lower.length)then gd (0<=H.1/\H.1<O.lower.length)<|(DG H.2 (O.lower.getD H.1.toNat aO.zero).name).bind λ v6=>(pQ v6 (u64.wrap ((O.lower.getD H.1.toNat aO.zero).aJ).mode)).bind λ U=>(pQ U (u64.wrap ((O.lower.getD H.1.toNat aO.zero).aJ).aU)).bind λ Y=>some (.inl (i64.wrap (H.1+1),Y))else some (.inr H.2))
def BS(O:List Int)(H:aP):Option (List Int):=gd (O.length<=4294967296)<|(d5 H).bind λ v1=>(if !v1 then some O else(Bp O H.aM).bind λ v2=>(pQ v2 (u64.wrap (i64.wrap (H.label+1)))).bind λ v3=>(pQ v3 (u64.wrap H.cost)).bind λ v4=>(pQ v4 (u64.wrap (H.lower.length:Int))).bind λ v5=>(lY (G2 H) (0,v5)).bind (λ z=>NL z))
@[reducible,instance]def bKk a0 a1:=mkJ (((((BS a0 a1,v1),v2),v3),v4),v5) 0 (@NL.eq_1) λ j1=>⟨[(0,.own 0 0 j1.length)],[(0,⟨false,1,[A.int u8 0],j1.map (eI u8)⟩)],1⟩
@[reducible,instance]def bKl (H:aP):=mkL x (@G2.eq_1 H) λ O=>⟨[(0,.own 0 0 O.2.length),(35,la H.lower),(36,.int i64 H.lower.length),(37,.int i64 O.1)],[(0,⟨false,1,[A.int u8 0],O.2.map (eI u8)⟩)],1⟩
instance bKm(H:List Int)(O:aP):OkM (BS H O) 62 [.sl (H.map (eI u8)),ga O] [] 0 (λ r=>.own 0 0 r.length) (λ r=>[(0,⟨false,1,[A.int u8 0],r.map (eI u8)⟩)]) 1:=okm (BS.eq_1 H O) (λ r=>[.own 0 0 r.length]) Tryz.f62 [(4,1),(16,1),(44,1)]
end
end Ab
end Go.Proofs.YtfmnjkfhahfhgaaGreatDoor
