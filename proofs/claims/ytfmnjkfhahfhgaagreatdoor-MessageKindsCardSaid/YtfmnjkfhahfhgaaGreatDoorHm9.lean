import Derived.Test.YtfmnjkfhahfhgaaGreatDoorHm1
import Derived.Test.YtfmnjkfhahfhgaaGreatDoorHm2
import Derived.Test.YtfmnjkfhahfhgaaGreatDoorHm3
import Derived.Test.YtfmnjkfhahfhgaaGreatDoorHm5
namespace Go.Proofs.YtfmnjkfhahfhgaaGreatDoor
namespace Ab
set_option linter.defProp false
open IntKind (i64 u64 u8)
set_option linter.unusedSimpArgs false
set_option linter.unusedVariables false
set_option maxRecDepth 100000
set_option maxHeartbeats 1000000
noncomputable section
variable {T T1 T2 : Type} (x : T) (v1 : T1) (v2 : T2)
def mL(H:aK):Bool:=((j7 H.site 0 3&&j7 H.inc 1 99)&&j7 H.num 1 999)
instance aZn(H:aK):OkT 125 [.agg (aK.enc H)] (.bool (mL H)):=ok2 .bool (mL.eq_1 H) Tryz.f125 []
def CI(H O:Int):Option Bool:=gd ((qQ H&&qQ O)=true->0<=i64.wrap (H-1)/\i64.wrap (H-1)<5)<|gd ((qQ H&&qQ O)=true->0<=i64.wrap (O-1)/\i64.wrap (O-1)<5)<|some ((qQ H&&qQ O)&&Arr.get (Arr.get H4 (i64.wrap (H-1)).toNat (Arr.rep 5 false)) (i64.wrap (O-1)).toNat false)
instance aZo(H O:Int):OkP (CI H O) 301 [.int i64 H,.int i64 O] .bool:=ok1 (CI.eq_1 H O) Tryz.f301 []
def Az(O:List Int)(H:ByteArray):Option (List Int):=(oX O (u64.wrap (H.size:Int))).bind λ v1=>gd (v1.length+H.toList.length<=4294967296)<|some (v1++(H.toList.map λ b=>(b.toNat:Int)))
instance aZp(H:List Int)(O:ByteArray):OkP (Az H O) 103 [.sl (H.map (eI u8)),.str O] (λ r=>.sl (r.map (eI u8))):=ok1 (Az.eq_1 H O) Tryz.f103 []
def IH(H O:aQ):Option Bool:=(if (decide (H.aL=O.aL)&&decide (H.label=O.label))&&decide (H.cost=O.cost)then Fl H.lower O.lower else some false).bind λ v1=>some (((decide (H.aL=O.aL)&&decide (H.label=O.label))&&decide (H.cost=O.cost))&&v1)
instance aZq(H O:aQ):OkP (IH H O) 37 [ga H,ga O] .bool:=ok1 (IH.eq_1 H O) Tryz.f37 []
def CJ(H O:Int):Bool:=(if (((!(rX H))||(!(rX O)))||decide (H=5))||decide (O=5)then false else((decide (H=1)||decide (O=1))||(decide (H=O)&&(!decide (H=4)))))
instance aZr(H O:Int):OkT 281 [.int i64 H,.int i64 O] (.bool (CJ H O)):=ok2 .bool (CJ.eq_1 H O) Tryz.f281 []
def n5(H O:Int):Bool:=(if (!(rX H))||(!(rX O))then false else(((decide (H=O)||decide (H=5))||decide (O=1))||(decide (H=4)&&(!decide (O=5)))))
instance aZs(H O:Int):OkT 212 [.int i64 H,.int i64 O] (.bool (n5 H O)):=ok2 .bool (n5.eq_1 H O) Tryz.f212 []
def RL(j1:(List aO)):Option (List aO):=some j1
def II(O:aZ)(v1:(List ByteArray))(H:Int×(List aO)):Option ((Int×(List aO))⊕(List aO)):=(if decide (H.1<v1.length)then gd (0<=H.1/\H.1<v1.length)<|(sP O.aP (v1.getD H.1.toNat ⟨#[]⟩)).bind λ v2=>(if !decide (v2={aC.zero with})then gd (0<=H.1/\H.1<v1.length)<|gd (H.2.length+1<=4294967296)<|some (.inl (i64.wrap (H.1+1),H.2++[(⟨v1.getD H.1.toNat ⟨#[]⟩,v2⟩:aO)]))else some (.inl (i64.wrap (H.1+1),H.2)))else some (.inr H.2))
def AA(H:aZ):Option (List aO):=(wP H.aP).bind λ v1=>(lS (II H v1) (0,[])).bind (λ z=>RL z)
@[reducible,instance]def aZv a0:=mkJ (AA a0,v1) 0 (@RL.eq_1) λ j1=>⟨[(3,.own 0 0 j1.length)],[(0,sx j1)],1⟩
@[reducible,instance]def aZw (O:aZ) (v1:(List ByteArray)):=mkL x (@II.eq_1 O v1) λ H=>⟨[(1,.ptr 0 0 0),(3,.own 1 0 H.2.length),(4,.sl (v1.map eS)),(5,.int i64 H.1)],[(0,bx O),(1,sx H.2)],2⟩
instance aZx(H:aZ):OkP (AA H) 136 [ga H] la:=ok1 (AA.eq_1 H) Tryz.f136 [(3,1)]
def CK(H:aR):Option Int:=(IA H 1).bind λ v1=>(if decide (24<v1.1)then some 0 else some v1.1)
instance aZy(H:aR):OkP (CK H) 215 [ga H] (λ r=>.int i64 r):=ok1 (CK.eq_1 H) Tryz.f215 []
def tI(O:Int)(H:bB):Option (Int×(List aA)×(List aG)×(List bL)):=gd (0<=O/\O<((H.c.aD.length:Nat):Int))<|gd (0<=O/\O<((H.c.aD.length:Nat):Int))<|some (H.c.now,H.c.aF,H.c.aD.set O.toNat ({(H.c.aD.getD O.toNat aG.zero)with gen:=(oO (H.c.aD.getD O.toNat aG.zero).gen)}),H.ev)
instance aZz(O:Int)(H:bB):OkM (tI O H) 190 [.ptr 0 0 0,.int i64 O] [(0,⟨false,4,bB.enc bB.zero,[[.int i64 H.c.now,la H.c.aF,.own 1 0 H.c.aD.length,.own 2 0 H.ev.length]]⟩),(1,sx H.c.aD),(2,sx H.ev)] 3 (λ r=>.tup []) (λ r=>[(0,⟨false,4,bB.enc bB.zero,[[.int i64 r.1,la r.2.1,.own 1 0 r.2.2.1.length,.own 2 0 r.2.2.2.length]]⟩),(1,sx r.2.2.1),(2,sx r.2.2.2)]) 3:=okm (tI.eq_1 O H) (λ r=>[]) Tryz.f190 []
def RM(j1:aM):Option aM:=some j1
def Fz (O:aM) (H:Int×aM):Option ((Int×aM)⊕aM):=(if decide (H.1<(((mR O.kind).toList.map λ b=>(b.toNat:Int)).length:Int))then gd (0<=H.1/\H.1<(((mR O.kind).toList.map λ b=>(b.toNat:Int)).length:Int))<|(if decide (((mR O.kind).toList.map λ b=>(b.toNat:Int)).getD H.1.toNat 0=80)then some (.inl (i64.wrap (H.1+1),{H.2 with aL:=O.aL}))else(if decide (((mR O.kind).toList.map λ b=>(b.toNat:Int)).getD H.1.toNat 0=71)then some (.inl (i64.wrap (H.1+1),{H.2 with gen:=O.gen}))else(if decide (((mR O.kind).toList.map λ b=>(b.toNat:Int)).getD H.1.toNat 0=65)then some (.inl (i64.wrap (H.1+1),{H.2 with bA:=O.bA}))else(if decide (((mR O.kind).toList.map λ b=>(b.toNat:Int)).getD H.1.toNat 0=89)then some (.inl (i64.wrap (H.1+1),{H.2 with bD:=O.bD}))else(if decide (((mR O.kind).toList.map λ b=>(b.toNat:Int)).getD H.1.toNat 0=68)then some (.inl (i64.wrap (H.1+1),{H.2 with done:=O.done}))else(if decide (((mR O.kind).toList.map λ b=>(b.toNat:Int)).getD H.1.toNat 0=83)then some (.inl (i64.wrap (H.1+1),{H.2 with site:=O.site}))else(if decide (((mR O.kind).toList.map λ b=>(b.toNat:Int)).getD H.1.toNat 0=73)then some (.inl (i64.wrap (H.1+1),{H.2 with inc:=O.inc}))else(if decide (((mR O.kind).toList.map λ b=>(b.toNat:Int)).getD H.1.toNat 0=82)then some (.inl (i64.wrap (H.1+1),{H.2 with round:=O.round}))else(if decide (((mR O.kind).toList.map λ b=>(b.toNat:Int)).getD H.1.toNat 0=69)then some (.inl (i64.wrap (H.1+1),{H.2 with epoch:=O.epoch}))else(if decide (((mR O.kind).toList.map λ b=>(b.toNat:Int)).getD H.1.toNat 0=76)then some (.inl (i64.wrap (H.1+1),{H.2 with label:=O.label}))else(if decide (((mR O.kind).toList.map λ b=>(b.toNat:Int)).getD H.1.toNat 0=87)then some (.inl (i64.wrap (H.1+1),{H.2 with state:=O.state}))else(if decide (((mR O.kind).toList.map λ b=>(b.toNat:Int)).getD H.1.toNat 0=79)then some (.inl (i64.wrap (H.1+1),{H.2 with options:=O.options}))else some (.inl (i64.wrap (H.1+1),H.2))))))))))))))else some (.inr H.2))
def AB(H:aM):Option aM:=gd ((mR H.kind).size<=4294967296)<|(lS (Fz H) (0,{aM.zero with kind:=H.kind})).bind (λ z=>RM z)
@[reducible,instance]def bA2 a0:=mkJ (AB a0) 0 (@RM.eq_1) λ j1=>⟨[(2,.ptr 0 0 0),(3,.ptr 1 0 0)],[(0,bx aM.zero),(1,bx j1)],2⟩
@[reducible,instance]def bA3 (H:aM):=mkL x (@Fz.eq_1 H) λ O=>⟨[(1,.ptr 0 0 0),(2,.ptr 1 0 0),(3,.ptr 2 0 0),(12,.sl (((mR H.kind).toList.map λ b=>(b.toNat:Int)).map (eI u8))),(13,.int i64 (((mR H.kind).toList.map λ b=>(b.toNat:Int)).length:Int)),(14,.int i64 O.1)],[(0,bx H),(1,bx aM.zero),(2,bx O.2)],3⟩
instance bA4(H:aM):OkP (AB H) 26 [ga H] ga:=ok1 (AB.eq_1 H) Tryz.f26 []
def CL(H O:aA):Option Bool:=(if decide (H.aB=O.aB)&&decide (H.gen=O.gen)then Aw H.aS O.aS else some false).bind λ v1=>(if (decide (H.aB=O.aB)&&decide (H.gen=O.gen))&&v1 then l8 H.aN O.aN else some false).bind λ v2=>(if ((decide (H.aB=O.aB)&&decide (H.gen=O.gen))&&v1)&&v2 then l8 H.aW O.aW else some false).bind λ v3=>some ((((decide (H.aB=O.aB)&&decide (H.gen=O.gen))&&v1)&&v2)&&v3)
instance bA5(H O:aA):OkP (CL H O) 119 [ga H,ga O] .bool:=ok1 (CL.eq_1 H O) Tryz.f119 []
def RN(j1:Unit):Option Bool:=some true
def CM(O:ByteArray)(H:Int):Option (Int⊕(Unit⊕Bool)):=(if decide (H<(O.size:Int))then gd (0<=H/\H<(O.size:Int))<|(if (!(decide (97<=((O.toList.getD H.toNat 0).toNat:Int))&&decide (((O.toList.getD H.toNat 0).toNat:Int)<=122)))&&(decide (H=0)||(!(((decide (48<=((O.toList.getD H.toNat 0).toNat:Int))&&decide (((O.toList.getD H.toNat 0).toNat:Int)<=57))||decide (((O.toList.getD H.toNat 0).toNat:Int)=95))||decide (((O.toList.getD H.toNat 0).toNat:Int)=45))))then some (.inr (.inr false))else some (.inl (i64.wrap (H+1))))else some (.inr (.inl ())))
def vG(H:ByteArray):Option Bool:=(if (decide ((H.size:Int)<1)||decide (12<(H.size:Int)))||Cp H then some false else(lS (CM H) 0).bind (λ|.inl z=>RN z|.inr z=>some z))
@[reducible,instance]def bA7 a0:=mkJ (vG a0) 0 (@RN.eq_1) λ j1=>⟨[],[],0⟩
@[reducible,instance]def bA8 (H:ByteArray):=mkL x (@CM.eq_1 H) λ O=>⟨[(0,.str H),(20,.int i64 (H.size:Int)),(21,.int i64 O)],[],0⟩
instance bA9(H:ByteArray):OkP (vG H) 126 [.str H] .bool:=ok1 (vG.eq_1 H) Tryz.f126 []
def IJ(H:aM)(j1:Unit):Option Bool:=(if ((!decide ((H.state.aF.length:Int)=0))||(!decide ((H.state.aY.length:Int)=0)))||(!decide ((H.options.length:Int)=0))then some false else some (((decide (H.kind=0)&&decide (H.aL={aK.zero with}))&&decide (H.bA={aO.zero with}))&&(!H.done)))
@[go_sem] def bAb(H:aM)(j1:Unit):St:=⟨[(1,.ptr 0 0 0)],[(0,bx H)],1⟩
def IK(H:aM)(O:Int×bN)(U:Unit):Option (Unit⊕(Unit⊕Bool)):=(oF (O.2).of).bind λ v2=>(if !decide (nB H v2=0)then some (.inr (.inr false))else some (.inl ()))
@[go_sem] def bAd(H:aM)(v1:(List (Int×bN)))(s0:List Nat)(O:Unit):St:=⟨[(1,.ptr 0 0 0),(6,.it 1)],[(0,bx H),(1,⟨false,0,[],[.mp 2,.int i64 v1.length]::s0.map iE⟩),(2,⟨false,0,[A.int u8 0,A.bool true],v1.map (mI u8 bN.enc)⟩)],3⟩
def CN(H:aM):Option Bool:=(yJ).bind λ v1=>rngO v1 (0,bN.zero) (IK H) (λ O:Unit=>(.inl ())) () (λ|.inl z=>IJ H z|.inr z=>some z)
def bAe(F:aM)(r:Bool)(h:CN F=some r):PFn C 86 [ga F] (.bool r):=by
 refine oC Tryz.f86 [(7,80),(9,80),(13,1)] λ E hG hN hK=>?_;unfold CN at h;refine lQ (lR hG ?_);refine lQ (lQ (lR hG ?_));obtain⟨v1,h0,h⟩:=lT h;refine mH [] [(0,1)] [0] ((Fq).ok _ h0) rfl rfl ?_;refine pL (bAb F) (λ v=>IJ F v=some r) ?_ ?_
 · intro j1 h
   unfold IJ at h;refine g_st ?_;refine lQ (lQ (lR hG ?_));refine lU rfl hG h (λ _ h=>?_) (λ _ h=>?_)
   · refine lQ (lR hG ?_)
     refine lX ?_;exact nF h
   refine lW ?_;refine lQ (lR hG ?_);refine lX ?_;exact nF h
 refine QK (bAd F v1) hK [(0,0),(1,2),(2,1)] h (λ s0 g1 O=>?_);refine g_st ?_;refine lQ (lR hG ?_);refine⟨λ z0 x0 M=>?_,λ Y=>?_⟩
 · obtain⟨y0,H,U,B⟩:=QH O x0 M
   unfold IK at H
   try refine g_st ?_
   refine lQ ?_;refine Ag rfl hG ?_;refine lW ?_;refine nV (lQ (lR hG ?_));refine lQ (lR hG ?_);obtain⟨v2,hv2,H⟩:=lT H;refine mH [(0,0)] [] [0] (Ah _ _ _ hv2) rfl rfl ?_ (ho:=by first|exact⟨by trivial,sO hv2⟩|exact sO hv2);refine lU rfl hG H (λ _ H=>?_) (λ _ H=>?_)
   · refine lQ (lR hG ?_)
     refine lX ?_;obtain rfl:=dW H;have h:=B _ rfl
     try dsimp only at h
     exact nF h
   refine lW ?_;exact QL hK [(0,0),(1,1),(2,2)] H U
 try refine g_st ?_
 refine lQ ?_;refine H3 rfl hG ?_;refine nX ?_;have h:=QI O Y
 try dsimp only at h
 exact mM hK [(0,0)] () (by exact h)
def RO(j1:(List Int)):Option (List Int):=some j1
def CO(O:List Int)(H:(List Int)×Int):Option (((List Int)×Int)⊕(List Int)):=(if decide (H.2<O.length)then gd (0<=H.2/\H.2<O.length)<|(tG H.1 (u64.wrap (O.getD H.2.toNat 0))).bind λ v1=>some (.inl (v1,i64.wrap (H.2+1)))else some (.inr H.1))
def qR(H O:List Int):Option (List Int):=(lS (CO O) (H,0)).bind (λ z=>RO z)
@[reducible,instance]def bAg a0 a1:=mkJ (qR a0 a1) 0 (@RO.eq_1) λ j1=>⟨[(0,.sl (j1.map (eI u8)))],[],0⟩
@[reducible,instance]def bAh (H:List Int):=mkL x (@CO.eq_1 H) λ O=>⟨[(0,.sl (O.1.map (eI u8))),(7,.sl (H.map (eI i64))),(8,.int i64 H.length),(9,.int i64 O.2)],[],0⟩
instance bAi(H O:List Int):OkP (qR H O) 157 [.sl (H.map (eI u8)),.sl (O.map (eI i64))] (λ r=>.sl (r.map (eI u8))):=ok1 (qR.eq_1 H O) Tryz.f157 [(16,1)]
def nI(O:Int)(H:bK):Option (Int×bK):=(if decide ((H.l.length:Int)<=H.at_)then some (0,H)else gd (0<=i64.wrap (({H with at_:=(i64.wrap (H.at_+1))}).at_-1)/\i64.wrap (({H with at_:=(i64.wrap (H.at_+1))}).at_-1)<((({H with at_:=(i64.wrap (H.at_+1))}).l).length:Int))<|(uD ((({H with at_:=(i64.wrap (H.at_+1))}).l).getD (i64.wrap (({H with at_:=(i64.wrap (H.at_+1))}).at_-1)).toNat 0) O).bind λ v1=>some (v1,{H with at_:=(i64.wrap (H.at_+1))}))
instance pY(H:Int)(O:bK):OkM (nI H O) 17 [.ptr 0 0 0,.int i64 H] [(0,bx O)] 1 (λ r=>.int i64 r.1) (λ r=>[(0,bx r.2)]) 1:=okm (nI.eq_1 H O) (λ r=>[.int i64 r.1]) Tryz.f17 []
def CP:List Int:=[5,5,3,4,2,1,3,5]
def AC(H:Int):Option Int:=(uD H (CP.length:Int)).bind λ v1=>gd (0<=v1/\v1<CP.length)<|some (CP.getD v1.toNat 0)
instance bAk(H:Int):OkP (AC H) 43 [.int i64 H] (λ r=>.int i64 r):=⟨λ r h=>by
 refine oC Tryz.f43 [] λ E hG O hK=>?_;have hm:Mk (AC H):=trivial;unfold AC at h;refine lQ (lR hG ?_);refine lQ (lR hG ?_);refine g_gh (.cast 3 (.full (CP.map (eI i64)))) ?_;exact gogo⟩
def qF(O:aH)(H:aC):Bool:=(if !(yI O)then false else(if decide (O.kind=1)then(rX H.mode&&decide (H.aT=0))else((decide (H.mode=0)&&decide (1<=H.aT))&&decide (H.aT<=O.aT))))
instance bAl(H:aH)(O:aC):OkT 138 [.agg (aH.enc H),.agg (aC.enc O)] (.bool (qF H O)):=ok2 .bool (qF.eq_1 H O) Tryz.f138 []
def pH(H:aC):Bool:=((rX H.mode&&decide (H.aT=0))||((decide (H.mode=0)&&decide (1<=H.aT))&&decide (H.aT<=8)))
instance RP(H:aC):OkT 55 [.agg (aC.enc H)] (.bool (pH H)):=ok2 .bool (pH.eq_1 H) Tryz.f55 []
def CQ(H O:bO):Option Bool:=(Ap H.bU O.bU).bind λ v1=>some ((v1&&decide (H.bD=O.bD))&&decide (H.limit=O.limit))
instance bAn(H O:bO):OkP (CQ H O) 139 [ga H,ga O] .bool:=ok1 (CQ.eq_1 H O) Tryz.f139 []
def rI(H:aA)(O:aK):Option aC:=(yF H.aS O).bind λ v1=>some v1
instance Mj(H:aA)(O:aK):OkP (rI H O) 200 [ga H,ga O] ga:=ok1 (rI.eq_1 H O) Tryz.f200 []
def FA(H O:bQ):Option Bool:=(if decide (H.aL=O.aL)&&decide (H.gen=O.gen)then Ap H.bU O.bU else some false).bind λ v1=>some ((decide (H.aL=O.aL)&&decide (H.gen=O.gen))&&v1)
instance bAp(H O:bQ):OkP (FA H O) 77 [ga H,ga O] .bool:=ok1 (FA.eq_1 H O) Tryz.f77 []
def CR(O:List Int)(H:ByteArray):Option (List Int):=(pG O (u64.wrap (H.size:Int))).bind λ v1=>gd (v1.length+H.toList.length<=4294967296)<|some (v1++(H.toList.map λ b=>(b.toNat:Int)))
instance bAq(H:List Int)(O:ByteArray):OkM (CR H O) 60 [.sl (H.map (eI u8)),.str O] [] 0 (λ r=>.own 0 0 r.length) (λ r=>[(0,⟨false,1,[A.int u8 0],r.map (eI u8)⟩)]) 1:=okm (CR.eq_1 H O) (λ r=>[.own 0 0 r.length]) Tryz.f60 [(4,1)]
def AD(H:aC):Bool:=(if !decide (H.mode=0)then(qQ H.mode&&decide (H.aT=0))else(decide (1<=H.aT)&&decide (H.aT<=8)))
instance bAs(H:aC):OkT 127 [.agg (aC.enc H)] (.bool (AD H)):=ok2 .bool (AD.eq_1 H) Tryz.f127 []
def mE(O:aH)(H:aC):Bool:=(if !(nQ O)then false else(if decide (O.kind=1)then(qQ H.mode&&decide (H.aT=0))else((decide (H.mode=0)&&decide (1<=H.aT))&&decide (H.aT<=O.aT))))
instance bAt(H:aH)(O:aC):OkT 274 [.agg (aH.enc H),.agg (aC.enc O)] (.bool (mE H O)):=ok2 .bool (mE.eq_1 H O) Tryz.f274 []
def wR(H O:aK):Option Int:=(Au (⟨[H.site,H.inc,H.num],rfl⟩:Arr Int 3) (⟨[O.site,O.inc,O.num],rfl⟩:Arr Int 3)).bind λ v1=>some v1
instance RQ(H O:aK):OkP (wR H O) 182 [ga H,ga O] (λ r=>.int i64 r):=ok1 (wR.eq_1 H O) Tryz.f182 []
def AE(H:aA)(O:aK):Option aC:=(l6 H.aS O).bind λ v1=>some v1
instance bAv(H:aA)(O:aK):OkP (AE H O) 284 [ga H,ga O] ga:=ok1 (AE.eq_1 H O) Tryz.f284 []
def AF(O:List Int)(H:ByteArray):Option (List Int):=(oX O (u64.wrap (H.size:Int))).bind λ v1=>gd (v1.length+H.toList.length<=4294967296)<|some (v1++(H.toList.map λ b=>(b.toNat:Int)))
instance bAw(H:List Int)(O:ByteArray):OkM (AF H O) 103 [.sl (H.map (eI u8)),.str O] [] 0 (λ r=>.own 0 0 r.length) (λ r=>[(0,⟨false,1,[A.int u8 0],r.map (eI u8)⟩)]) 1:=okm (AF.eq_1 H O) (λ r=>[.own 0 0 r.length]) Tryz.f103 [(4,1)]
def CS(H:List Int):Option (ByteArray×Int×Int):=(uE H).bind λ v1=>(if !decide (v1.2.2=0)then some ((⟨#[]⟩:ByteArray),0,v1.2.2)else(if decide (1024<v1.1)then some ((⟨#[]⟩:ByteArray),0,3)else(if decide (i64.wrap ((H.length:Int)-v1.2.1)<i64.wrap v1.1)then some ((⟨#[]⟩:ByteArray),0,5)else gd (0<=v1.2.1/\v1.2.1<=i64.wrap (v1.2.1+i64.wrap v1.1)/\i64.wrap (v1.2.1+i64.wrap v1.1)<=(H.length:Int))<|some (uX ((H.take (i64.wrap (v1.2.1+i64.wrap v1.1)).toNat).drop v1.2.1.toNat),i64.wrap (v1.2.1+i64.wrap v1.1),0))))
instance bAx(H:List Int):OkP (CS H) 116 [.sl (H.map (eI u8))] (λ r=>.tup [.str r.1,.int i64 r.2.1,.int i64 r.2.2]):=ok1 (CS.eq_1 H) Tryz.f116 []
def Ml(H:bW)(v1:Int×Int×Int)(j1:Int):Option (Int×bW):=(if !decide (j1=0)then some (0,{H with err:=j1})else some (i64.wrap v1.1,{H with at_:=(i64.wrap (H.at_+v1.2.1))}))
def yP(O U:Int)(H:bW):Option (Int×bW):=(if !decide (H.err=0)then some (0,H)else gd (0<=H.at_/\H.at_<=(H.all.length:Int)/\(H.all.length:Int)<=(H.all.length:Int))<|(uE (H.all.drop H.at_.toNat)).bind λ v1=>(if decide (v1.2.2=0)&&decide (u64.wrap O<v1.1)then Ml H v1 U else Ml H v1 v1.2.2))
@[reducible,instance]def bAy a0 a1 (H:bW) (v1:Int×Int×Int):=mkJ (yP a0 a1 H,v1) 999 (@Ml.eq_1 H v1) λ j1=>⟨[(0,.ptr 0 0 0),(7,.int u64 v1.1),(8,.int i64 v1.2.1),(9,.int i64 j1)],[(0,bx H)],1⟩
instance bAz(H O:Int)(U:bW):OkM (yP H O U) 169 [.ptr 0 0 0,.int i64 H,.int i64 O] [(0,bx U)] 1 (λ r=>.int i64 r.1) (λ r=>[(0,bx r.2)]) 1:=okm (yP.eq_1 H O U) (λ r=>[.int i64 r.1]) Tryz.f169 []
def RR(j1:Unit):Option Bool:=some true
def RS(O U:List aV)(H:Int):Option (Int⊕(Unit⊕Bool)):=(if decide (H<O.length)then gd (0<=H/\H<O.length)<|gd (0<=H/\H<U.length)<|(if !(Mc (O.getD H.toNat aV.zero) (U.getD H.toNat aV.zero))then some (.inr (.inr false))else some (.inl (i64.wrap (H+1))))else some (.inr (.inl ())))
def FB(H O:List aV):Option Bool:=(if !decide ((H.length:Int)=(O.length:Int))then some false else(lS (RS H O) 0).bind (λ|.inl z=>RR z|.inr z=>some z))
@[reducible,instance]def bB0 a0 a1:=mkJ (FB a0 a1) 0 (@RR.eq_1) λ j1=>⟨[],[],0⟩
@[reducible,instance]def bB1 (H O:List aV):=mkL x (@RS.eq_1 H O) λ U=>⟨[(1,la O),(2,.clo 175 []),(15,la H),(16,.int i64 H.length),(17,.int i64 U)],[],0⟩
instance zS7(H O:List aV):OkM (FB H O) 174 [la H,la O,.clo 175 []] [] 0 .bool (λ r=>[]) 0:=okm (FB.eq_1 H O) (λ r=>[.bool r]) Tryz.f174 []
def IL(U:(aR->aR->Option Bool))(H O:aR):Option Bool:=(if decide (H.k=O.k)&&decide (H.bA=O.bA)then CC U H.bG O.bG else some false).bind λ v1=>some ((decide (H.k=O.k)&&decide (H.bA=O.bA))&&v1)
def IM:Nat->(aR->aR->Option Bool)
 |0=>λ _ _=>none
 |n+1=>IL (IM n)
def Mm(H O:aR):Option Bool:=IM (_root_.SizeOf.sizeOf H+1) H O
def bB3(H:(aR->aR->Option Bool))(hrc:∀(O:aR) (U:aR) (r:Bool),H O U=some r->PFn C 124 [ga O,ga U] (.bool r))(O U:aR)(r:Bool)(h:IL H O U=some r):PFn C 124 [ga O,ga U] (.bool r):=by refine oC Tryz.f124 [] λ E hG F hK=>?_;have hm:Mk (IL H O U):=trivial;unfold IL at h;refine lQ (lR hG ?_);refine lQ (lR hG ?_);obtain⟨v1,Y,h⟩:=lT h;have hm:=mkP hm v1;refine E7 [] [] Y (λ B=>Z7 H hrc O.bG U.bG _ B) rfl ?_;exact gogo
def RT:∀(n:Nat) (H:aR) (O:aR) (r:Bool),IM n H O=some r->PFn C 124 [ga H,ga O] (.bool r)
 |0,_,_,_,h=>nomatch h
 |n+1,H,O,r,h=>bB3 (IM n) (RT n) H O r h
instance bB5(H O:aR):OkP (Mm H O) 124 [ga H,ga O] .bool:=⟨λ r h=>RT _ H O r h⟩
def tJ(H:Int):Bool:=(((l9 H||(decide (48<=H)&&decide (H<=57)))||decide (H=95))||decide (H=45))
instance bB6(H:Int):OkT 108 [.int u8 H] (.bool (tJ H)):=ok2 .bool (tJ.eq_1 H) Tryz.f108 []
def uH(H O:aK):Int:=(if !decide (yE H.site O.site=0)then(yE H.site O.site)else(if !decide (yE H.inc O.inc=0)then(yE H.inc O.inc)else(yE H.num O.num)))
instance bB7(H O:aK):OkT 94 [.agg (aK.enc H),.agg (aK.enc O)] (.int i64 (uH H O)):=ok2 (λ r=>.int i64 r) (uH.eq_1 H O) Tryz.f94 []
def AG(O:List Int)(H:aK):Option (List Int):=(if !(oU H)then gd (O.length<=4294967296)<|some O else(sF O (u64.wrap H.site)).bind λ v1=>(sF v1 (u64.wrap H.inc)).bind λ v2=>(pG v2 (u64.wrap H.num)).bind λ v3=>some v3)
instance bB8(H:List Int)(O:aK):OkM (AG H O) 59 [.sl (H.map (eI u8)),ga O] [] 0 (λ r=>.own 0 0 r.length) (λ r=>[(0,⟨false,1,[A.int u8 0],r.map (eI u8)⟩)]) 1:=okm (AG.eq_1 H O) (λ r=>[.own 0 0 r.length]) Tryz.f59 [(4,1),(8,1),(15,1),(19,1)]
def IN(O:aK)(H:aC)(j1:Int×(List aX)):Option (List aX):=(if oG H then some j1.2 else(if decide (j1.1<0)then gd (j1.2.length+1<=4294967296)<|gd (0<=i64.wrap (((j1.2.length:Nat):Int)+1)/\i64.wrap (((j1.2.length:Nat):Int)+1)<=((j1.2.length+1:Nat):Int)/\((j1.2.length+1:Nat):Int)<=((j1.2.length+1:Nat):Int))<|gd (0<=((j1.2.length:Nat):Int)/\((j1.2.length:Nat):Int)<=((j1.2.length+1:Nat):Int)/\((j1.2.length+1:Nat):Int)<=((j1.2.length+1:Nat):Int))<|gd (0<=((j1.2.length:Nat):Int)/\((j1.2.length:Nat):Int)<((j1.2.length+1:Nat):Int))<|some (((j1.2++[{aX.zero with}]).take (i64.wrap (((j1.2.length:Nat):Int)+1)).toNat++(((j1.2++[{aX.zero with}]).drop ((j1.2.length:Nat):Int).toNat).take (j1.2.length+1-((j1.2.length:Nat):Int).toNat)).take (j1.2.length+1-(i64.wrap (((j1.2.length:Nat):Int)+1)).toNat)++(j1.2++[{aX.zero with}]).drop ((i64.wrap (((j1.2.length:Nat):Int)+1)).toNat+min (((j1.2++[{aX.zero with}]).drop ((j1.2.length:Nat):Int).toNat).take (j1.2.length+1-((j1.2.length:Nat):Int).toNat)).length (j1.2.length+1-(i64.wrap (((j1.2.length:Nat):Int)+1)).toNat))).set ((j1.2.length:Nat):Int).toNat (⟨O,H⟩:aX))else gd (j1.2.length+1<=4294967296)<|gd (0<=i64.wrap (j1.1+1)/\i64.wrap (j1.1+1)<=((j1.2.length+1:Nat):Int)/\((j1.2.length+1:Nat):Int)<=((j1.2.length+1:Nat):Int))<|gd (0<=j1.1/\j1.1<=((j1.2.length+1:Nat):Int)/\((j1.2.length+1:Nat):Int)<=((j1.2.length+1:Nat):Int))<|gd (0<=j1.1/\j1.1<((j1.2.length+1:Nat):Int))<|some (((j1.2++[{aX.zero with}]).take (i64.wrap (j1.1+1)).toNat++(((j1.2++[{aX.zero with}]).drop j1.1.toNat).take (j1.2.length+1-j1.1.toNat)).take (j1.2.length+1-(i64.wrap (j1.1+1)).toNat)++(j1.2++[{aX.zero with}]).drop ((i64.wrap (j1.1+1)).toNat+min (((j1.2++[{aX.zero with}]).drop j1.1.toNat).take (j1.2.length+1-j1.1.toNat)).length (j1.2.length+1-(i64.wrap (j1.1+1)).toNat))).set j1.1.toNat (⟨O,H⟩:aX))))
@[go_sem] def bBa(H:aK)(O:aC)(j1:Int×(List aX)):St:=⟨[(4,.ptr 0 0 0),(5,.ptr 1 0 0),(7,.own 2 0 j1.2.length),(8,.int i64 j1.1)],[(0,bx H),(1,bx O),(2,sx j1.2)],3⟩
def CT(O:List aX)(U:aK)(H:Int×Int×(List aX)):Option ((Int×Int×(List aX))⊕(Int×(List aX))):=(if decide (H.2.1<O.length)then gd (0<=H.2.1/\H.2.1<O.length)<|(if decide ((O.getD H.2.1.toNat aX.zero).aL=U)then some (.inl (H.1,i64.wrap (H.2.1+1),H.2.2))else(if decide (H.1<0)then wR (O.getD H.2.1.toNat aX.zero).aL U else some 0).bind λ v1=>(if decide (H.1<0)&&decide (0<v1)then gd (H.2.2.length+1<=4294967296)<|some (.inl (((H.2.2.length:Nat):Int),i64.wrap (H.2.1+1),H.2.2++[O.getD H.2.1.toNat aX.zero]))else gd (H.2.2.length+1<=4294967296)<|some (.inl (H.1,i64.wrap (H.2.1+1),H.2.2++[O.getD H.2.1.toNat aX.zero]))))else some (.inr (H.1,H.2.2)))
@[go_sem] def bBc(O:List aX)(U:aK)(Y:aC)(H:Int×Int×(List aX)):St:=⟨[(4,.ptr 0 0 0),(5,.ptr 1 0 0),(7,.own 2 0 H.2.2.length),(8,.int i64 H.1),(15,la O),(16,.int i64 O.length),(17,.int i64 H.2.1)],[(0,bx U),(1,bx Y),(2,sx H.2.2)],3⟩
def AH(H:List aX)(O:aK)(U:aC):Option (List aX):=gd (0<=0/\0<=i64.wrap ((H.length:Int)+1)/\i64.wrap ((H.length:Int)+1)<=4294967296)<|(lS (CT H O) ((-1),0,List.replicate 0 aX.zero)).bind (λ z=>IN O U z)
def bBd(B:List aX)(U:aK)(Y:aC)(r:(List aX))(h:AH B U Y=some r):PFn C 273 [la B,ga U,ga Y] (la r):=by
 refine oC Tryz.f273 [] λ E hG hN hK=>?_;unfold AH at h;refine lQ (lR hG ?_);refine lQ ?_;obtain⟨h0,h⟩:=lZ h;refine lR hG ?_;refine lQ (lR hG ?_);refine lQ (lQ (lR hG ?_));refine pL (bBa U Y) (λ v=>IN U Y v=some r) ?_ ?_
 · intro j1 h
   unfold IN at h;refine g_st ?_;refine lQ (lQ (lR hG ?_));refine mW (λ hg=>(ZC Y).ok) ?_;refine lU rfl hG h (λ _ h=>?_) (λ _ h=>?_)
   · refine lQ (lR hG ?_)
     refine lX ?_;exact nF h
   refine lW ?_;refine lQ (lQ (lR hG ?_));refine lU rfl hG h (λ _ h=>?_) (λ _ h=>?_)
   · refine lR hG ?_
     refine lQ ?_;obtain⟨v0,h⟩:=lZ h;refine lR hG ?_;refine lQ ?_;obtain⟨p0,h⟩:=lZ h;obtain⟨q0,h⟩:=lZ h;refine pT oB hG ?_;refine lQ ?_;obtain⟨r0,h⟩:=lZ h;refine lR hG ?_;refine lQ (lR hG ?_);refine lX ?_;exact nF h
   refine lW ?_;refine lQ ?_;obtain⟨s0,h⟩:=lZ h;refine lR hG ?_;refine lQ ?_;obtain⟨t0,h⟩:=lZ h;obtain⟨c0,h⟩:=lZ h;refine pT oB hG ?_;refine lQ ?_;obtain⟨d0,h⟩:=lZ h;refine lR hG ?_;refine lQ (lR hG ?_);refine lX ?_;exact nF h
 refine pX (bBc B U Y) hK [(0,0),(1,1),(2,2)] h (λ x0 h F y0 H O=>?_);unfold CT at H;refine g_st ?_;refine lQ (lR hG ?_);refine lQ ?_;refine lU rfl hG H (λ _ H=>?_) (λ _ H=>?_)
 · refine lW ?_
   refine lQ (nV (lQ ?_));obtain⟨z0,H⟩:=lZ H;refine lR hG ?_;refine lQ (lQ (lR hG ?_));refine lU rfl hG H (λ _ H=>?_) (λ _ H=>?_)
   · refine nX ?_
     refine lR hG ?_;exact oL hK [(0,0),(1,1),(2,2)] H
   refine lW ?_;refine lQ (lQ (lR hG ?_));obtain⟨v1,M,H⟩:=lT H;refine mW (λ hg=>(RQ (B.getD F.2.1.toNat aX.zero).aL U).ok _ (tB hg M)) ?_;refine lU rfl hG H (λ _ H=>?_) (λ _ H=>?_)
   · refine lR hG ?_
     obtain⟨e0,H⟩:=lZ H;refine lR hG ?_;refine lR hG ?_;exact oL hK [(0,0),(1,1),(2,4)] H
   refine lW ?_;obtain⟨u0,H⟩:=lZ H;refine lR hG ?_;refine lR hG ?_;exact oL hK [(0,0),(1,1),(2,4)] H
 refine nX ?_;cases H;cases O _ rfl;exact mM hK [(0,0),(1,1),(2,2)] (F.1,F.2.2) (by exact h)
instance bBe(H:List aX)(O:aK)(U:aC):OkP (AH H O U) 273 [la H,ga O,ga U] la:=⟨bBd H O U⟩
def RU(j1:Unit):Option Bool:=some true
def IP(O:aQ)(H:Int):Option (Int⊕(Unit⊕Bool)):=(if decide (H<O.lower.length)then gd (0<=H/\H<O.lower.length)<|(vG (O.lower.getD H.toNat aO.zero).name).bind λ v1=>gd ((v1&&decide (0<H))=true->0<=i64.wrap (H-1)/\i64.wrap (H-1)<(O.lower.length:Int))<|(if (!v1)||(decide (0<H)&&(!Op.bytesLess ((O.lower.getD (i64.wrap (H-1)).toNat aO.zero).name).toList ((O.lower.getD H.toNat aO.zero).name).toList))then some (.inr (.inr false))else(if (!decide ((O.lower.getD H.toNat aO.zero).aJ={aC.zero with}))&&(!(AD (O.lower.getD H.toNat aO.zero).aJ))then some (.inr (.inr false))else some (.inl (i64.wrap (H+1)))))else some (.inr (.inl ())))
def yQ(H:aQ):Option Bool:=(if (!(mL H.aL))||((!decide (H.label=(-1)))&&(decide (H.label<1)||decide (99<H.label)))then some false else(if (decide (H.cost<1)||decide (1073741824<H.cost))||decide (8<(H.lower.length:Int))then some false else(lS (IP H) 0).bind (λ|.inl z=>RU z|.inr z=>some z)))
@[reducible,instance]def bBh a0:=mkJ (yQ a0) 0 (@RU.eq_1) λ j1=>⟨[],[],0⟩
@[reducible,instance]def bBi (H:aQ):=mkL x (@IP.eq_1 H) λ O=>⟨[(1,.ptr 0 0 0),(39,la H.lower),(40,.int i64 H.lower.length),(41,.int i64 O)],[(0,bx H)],1⟩
instance bBj(H:aQ):OkP (yQ H) 129 [ga H] .bool:=ok1 (yQ.eq_1 H) Tryz.f129 []
def RV(j1:(List Int)):Option (List Int):=some j1
def FC(O:(List Int->aR->Option (List Int)))(U:aR)(H:(List Int)×Int):Option (((List Int)×Int)⊕(List Int)):=(if decide (H.2<U.bG.length)then gd (0<=H.2/\H.2<U.bG.length)<|(O H.1 (U.bG.getD H.2.toNat aR.zero)).bind λ v5=>some (.inl (v5,i64.wrap (H.2+1)))else some (.inr H.1))
def CU(O:(List Int->aR->Option (List Int)))(U:List Int)(H:aR):Option (List Int):=(qR U [H.k]).bind λ v1=>(if decide (H.k=0)then(Az v1 H.bA.name).bind λ v2=>(qR v2 [H.bA.aJ.mode,H.bA.aJ.aT]).bind λ v3=>some v3 else(qR v1 [(H.bG.length:Int)]).bind λ v4=>(lS (FC O H) (v4,0)).bind (λ z=>RV z))
def CV:Nat->(List Int->aR->Option (List Int))
 |0=>λ _ _=>none
 |n+1=>CU (CV n)
def IQ(O:List Int)(H:aR):Option (List Int):=CV (_root_.SizeOf.sizeOf H+1) O H
@[reducible,instance]def bBl (H:(List Int->aR->Option (List Int))) (O:List Int) (U:aR):=mkJ ((CU H O U,v1),v2) 0 (@RV.eq_1) λ j1=>⟨[(0,.sl (j1.map (eI u8)))],[],0⟩
@[reducible,instance]def bBm (H:(List Int->aR->Option (List Int))) (O:aR):=mkL x (@FC.eq_1 H O) λ U=>⟨[(0,.sl (U.1.map (eI u8))),(37,la O.bG),(38,.int i64 O.bG.length),(39,.int i64 U.2)],[],0⟩
abbrev IR(g:(List Int->aR->Option (List Int))):Prop:=∀(H:List Int) (O:aR),OkP (g H O) 159 [.sl (H.map (eI u8)),.agg (aR.enc O)] (λ r=>.sl (r.map (eI u8)))
theorem bBo(H:(List Int->aR->Option (List Int)))(hrc:IR H):IR (CU H):=λ O U=>ok1 (CU.eq_1 H O U) Tryz.f159 []
theorem bBp:∀n,IR (CV n):=j6 (λ _ _=>⟨λ _ h=>nomatch h⟩) λ n=>bBo _
instance bBq:IR IQ:=λ H O=>bBp _ H O
def yR(H:Int)(O:bE):Option (Int×bE):=(CH H 4 O).bind λ v1=>some (v1.1,v1.2)
instance IS(H:Int)(O:bE):OkM (yR H O) 163 [.ptr 0 0 0,.int i64 H] [(0,bx O)] 1 (λ r=>.int i64 r.1) (λ r=>[(0,bx r.2)]) 1:=okm (yR.eq_1 H O) (λ r=>[.int i64 r.1]) Tryz.f163 []
def tK(H:bE):Option (Int×bE):=(CH 1073741824 16 H).bind λ v1=>some (v1.1,v1.2)
instance FD(H:bE):OkM (tK H) 166 [.ptr 0 0 0] [(0,bx H)] 1 (λ r=>.int i64 r.1) (λ r=>[(0,bx r.2)]) 1:=okm (tK.eq_1 H) (λ r=>[.int i64 r.1]) Tryz.f166 []
def IT(H:bW):Option (ByteArray×bW):=(if !decide (H.err=0)then some ((⟨#[]⟩:ByteArray),H)else gd (0<=H.at_/\H.at_<=(H.all.length:Int)/\(H.all.length:Int)<=(H.all.length:Int))<|(CS (H.all.drop H.at_.toNat)).bind λ v1=>some (v1.1,{{H with at_:=(i64.wrap (H.at_+v1.2.1))}with err:=v1.2.2}))
instance bBr(H:bW):OkM (IT H) 170 [.ptr 0 0 0] [(0,bx H)] 1 (λ r=>.str r.1) (λ r=>[(0,bx r.2)]) 1:=okm (IT.eq_1 H) (λ r=>[.str r.1]) Tryz.f170 []
def FE(H O:aA):Option Bool:=(if decide (H.aB=O.aB)then Fa H.aS O.aS else some false).bind λ v1=>(if decide (H.aB=O.aB)&&v1 then CB H.aN O.aN else some false).bind λ v2=>(if (decide (H.aB=O.aB)&&v1)&&v2 then FB H.aW O.aW else some false).bind λ v3=>some (((decide (H.aB=O.aB)&&v1)&&v2)&&v3)
instance bBs(H O:aA):OkP (FE H O) 122 [ga H,ga O] .bool:=⟨λ r h=>by
 refine oC Tryz.f122 [] λ E hG B hK=>?_;have hm:Mk (FE H O):=trivial;unfold FE at h;refine lQ (lR hG ?_);refine lQ (lR hG ?_);obtain⟨v1,U,h⟩:=lT h;have hm:=mkP hm v1;refine mW (λ hg=>(ZB H.aS O.aS).ok _ (tB hg U)) ?_;obtain⟨v2,hv2,h⟩:=lT h;have hm:=mkP hm v2;refine mW (λ hg=>(Z6 H.aN O.aN).ok _ (tB hg hv2)) ?_;obtain⟨v3,hv3,h⟩:=lT h;have hm:=mkP hm v3;refine E7 [] [] hv3 (λ Y=>(zS7 H.aW O.aW).ok _ Y) rfl ?_;exact gogo⟩
def wS(H:aV):Bool:=(((((oU H.aL&&pH H.aJ)&&decide (0<=H.bD))&&decide (H.bD<=7))&&decide (0<=H.bS))&&decide (H.bS<=3))
instance bBt(H:aV):OkT 267 [.agg (aV.enc H)] (.bool (wS H)):=ok2 .bool (wS.eq_1 H) Tryz.f267 []
def Mn(j1:Unit):Option Bool:=some true
def CW(O U:List aA)(H:Int):Option (Int⊕(Unit⊕Bool)):=(if decide (H<O.length)then gd (0<=H/\H<O.length)<|gd (0<=H/\H<U.length)<|(CL (O.getD H.toNat aA.zero) (U.getD H.toNat aA.zero)).bind λ v1=>(if !v1 then some (.inr (.inr false))else some (.inl (i64.wrap (H+1))))else some (.inr (.inl ())))
def AI(H O:List aA):Option Bool:=(if !decide ((H.length:Int)=(O.length:Int))then some false else(lS (CW H O) 0).bind (λ|.inl z=>Mn z|.inr z=>some z))
@[reducible,instance]def bBw a0 a1:=mkJ (AI a0 a1) 0 (@Mn.eq_1) λ j1=>⟨[],[],0⟩
@[reducible,instance]def bBx (H O:List aA):=mkL x (@CW.eq_1 H O) λ U=>⟨[(0,la H),(1,la O),(5,.int i64 U)],[],0⟩
instance bBy(H O:List aA):OkP (AI H O) 76 [la H,la O] .bool:=ok1 (AI.eq_1 H O) Tryz.f76 []
end
end Ab
end Go.Proofs.YtfmnjkfhahfhgaaGreatDoor
