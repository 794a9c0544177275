import Derived.Test.YtfmnjkfhahfhgaaGreatDoorHm1
import Derived.Test.YtfmnjkfhahfhgaaGreatDoorHm2
import Derived.Test.YtfmnjkfhahfhgaaGreatDoorHm3
import Derived.Test.YtfmnjkfhahfhgaaGreatDoorHm5
namespace Go.Proofs.YtfmnjkfhahfhgaaGreatDoor
namespace Ab
set_option linter.defProp false
open IntKind (i64 u64 u8)
set_option linter.unusedSimpArgs false
set_option linter.unusedVariables false
set_option maxRecDepth 100000
set_option maxHeartbeats 1000000
noncomputable section
variable {T T1 T2 : Type} (x : T) (v1 : T1) (v2 : T2)
def mP(H:aK):Bool:=((s7 H.site 0 3&&s7 H.inc 1 99)&&s7 H.num 1 999)
instance aZr(H:aK):OkT 125 [.agg (aK.enc H)] (.bool (mP H)):=ok2 .bool (mP.eq_1 H) Tryz.f125 []
def Dx(H O:Int):Option Bool:=gd ((rB H&&rB O)=true->0<=i64.wrap (H-1)/\i64.wrap (H-1)<5)<|gd ((rB H&&rB O)=true->0<=i64.wrap (O-1)/\i64.wrap (O-1)<5)<|some ((rB H&&rB O)&&Arr.get (Arr.get I9 (i64.wrap (H-1)).toNat (Arr.rep 5 false)) (i64.wrap (O-1)).toNat false)
instance aZs(H O:Int):OkP (Dx H O) 301 [.int i64 H,.int i64 O] .bool:=ok1 (Dx.eq_1 H O) Tryz.f301 []
def Bh(O:List Int)(H:ByteArray):Option (List Int):=(pH O (u64.wrap (H.size:Int))).bind λ v1=>gd (v1.length+H.toList.length<=4294967296)<|some (v1++(H.toList.map λ b=>(b.toNat:Int)))
instance aZt(H:List Int)(O:ByteArray):OkP (Bh H O) 103 [.sl (H.map (eI u8)),.str O] (λ r=>.sl (r.map (eI u8))):=ok1 (Bh.eq_1 H O) Tryz.f103 []
def JL(H O:aP):Option Bool:=(if (decide (H.aM=O.aM)&&decide (H.label=O.label))&&decide (H.cost=O.cost)then F9 H.lower O.lower else some false).bind λ v1=>some (((decide (H.aM=O.aM)&&decide (H.label=O.label))&&decide (H.cost=O.cost))&&v1)
instance aZu(H O:aP):OkP (JL H O) 37 [ga H,ga O] .bool:=ok1 (JL.eq_1 H O) Tryz.f37 []
def Dy(H O:Int):Bool:=(if (((!(sQ H))||(!(sQ O)))||decide (H=5))||decide (O=5)then false else((decide (H=1)||decide (O=1))||(decide (H=O)&&(!decide (H=4)))))
instance aZv(H O:Int):OkT 281 [.int i64 H,.int i64 O] (.bool (Dy H O)):=ok2 .bool (Dy.eq_1 H O) Tryz.f281 []
def y4(H O:Int):Bool:=(if (!(sQ H))||(!(sQ O))then false else(((decide (H=O)||decide (H=5))||decide (O=1))||(decide (H=4)&&(!decide (O=5)))))
instance aZw(H O:Int):OkT 212 [.int i64 H,.int i64 O] (.bool (y4 H O)):=ok2 .bool (y4.eq_1 H O) Tryz.f212 []
def ST(j1:(List aO)):Option (List aO):=some j1
def JM(O:bA)(v1:(List ByteArray))(H:Int×(List aO)):Option ((Int×(List aO))⊕(List aO)):=(if decide (H.1<v1.length)then gd (0<=H.1/\H.1<v1.length)<|(tN O.aQ (v1.getD H.1.toNat ⟨#[]⟩)).bind λ v2=>(if !decide (v2={aC.zero with})then gd (0<=H.1/\H.1<v1.length)<|gd (H.2.length+1<=4294967296)<|some (.inl (i64.wrap (H.1+1),H.2++[(⟨v1.getD H.1.toNat ⟨#[]⟩,v2⟩:aO)]))else some (.inl (i64.wrap (H.1+1),H.2)))else some (.inr H.2))
def Bi(H:bA):Option (List aO):=(xR H.aQ).bind λ v1=>(lY (JM H v1) (0,[])).bind (λ z=>ST z)
@[reducible,instance]def aZz a0:=mkJ (Bi a0,v1) 0 (@ST.eq_1) λ j1=>⟨[(3,.own 0 0 j1.length)],[(0,sx j1)],1⟩
@[reducible,instance]def bA0 (O:bA) (v1:(List ByteArray)):=mkL x (@JM.eq_1 O v1) λ H=>⟨[(1,.ptr 0 0 0),(3,.own 1 0 H.2.length),(4,.sl (v1.map eS)),(5,.int i64 H.1)],[(0,bx O),(1,sx H.2)],2⟩
instance bA1(H:bA):OkP (Bi H) 136 [ga H] la:=ok1 (Bi.eq_1 H) Tryz.f136 [(3,1)]
def Dz(H:aS):Option Int:=(JD H 1).bind λ v1=>(if decide (24<v1.1)then some 0 else some v1.1)
instance bA2(H:aS):OkP (Dz H) 215 [ga H] (λ r=>.int i64 r):=ok1 (Dz.eq_1 H) Tryz.f215 []
def uH(O:Int)(H:bB):Option (Int×(List aA)×(List aG)×(List bL)):=gd (0<=O/\O<((H.c.aD.length:Nat):Int))<|gd (0<=O/\O<((H.c.aD.length:Nat):Int))<|some (H.c.now,H.c.aF,H.c.aD.set O.toNat ({(H.c.aD.getD O.toNat aG.zero)with gen:=(oW (H.c.aD.getD O.toNat aG.zero).gen)}),H.ev)
instance bA3(O:Int)(H:bB):OkM (uH O H) 190 [.ptr 0 0 0,.int i64 O] [(0,⟨false,4,bB.enc bB.zero,[[.int i64 H.c.now,la H.c.aF,.own 1 0 H.c.aD.length,.own 2 0 H.ev.length]]⟩),(1,sx H.c.aD),(2,sx H.ev)] 3 (λ r=>.tup []) (λ r=>[(0,⟨false,4,bB.enc bB.zero,[[.int i64 r.1,la r.2.1,.own 1 0 r.2.2.1.length,.own 2 0 r.2.2.2.length]]⟩),(1,sx r.2.2.1),(2,sx r.2.2.2)]) 3:=okm (uH.eq_1 O H) (λ r=>[]) Tryz.f190 []
def SU(j1:aL):Option aL:=some j1
def Gp (O:aL) (H:Int×aL):Option ((Int×aL)⊕aL):=(if decide (H.1<(((mY O.kind).toList.map λ b=>(b.toNat:Int)).length:Int))then gd (0<=H.1/\H.1<(((mY O.kind).toList.map λ b=>(b.toNat:Int)).length:Int))<|(if decide (((mY O.kind).toList.map λ b=>(b.toNat:Int)).getD H.1.toNat 0=80)then some (.inl (i64.wrap (H.1+1),{H.2 with aM:=O.aM}))else(if decide (((mY O.kind).toList.map λ b=>(b.toNat:Int)).getD H.1.toNat 0=71)then some (.inl (i64.wrap (H.1+1),{H.2 with gen:=O.gen}))else(if decide (((mY O.kind).toList.map λ b=>(b.toNat:Int)).getD H.1.toNat 0=65)then some (.inl (i64.wrap (H.1+1),{H.2 with aZ:=O.aZ}))else(if decide (((mY O.kind).toList.map λ b=>(b.toNat:Int)).getD H.1.toNat 0=89)then some (.inl (i64.wrap (H.1+1),{H.2 with bC:=O.bC}))else(if decide (((mY O.kind).toList.map λ b=>(b.toNat:Int)).getD H.1.toNat 0=68)then some (.inl (i64.wrap (H.1+1),{H.2 with done:=O.done}))else(if decide (((mY O.kind).toList.map λ b=>(b.toNat:Int)).getD H.1.toNat 0=83)then some (.inl (i64.wrap (H.1+1),{H.2 with site:=O.site}))else(if decide (((mY O.kind).toList.map λ b=>(b.toNat:Int)).getD H.1.toNat 0=73)then some (.inl (i64.wrap (H.1+1),{H.2 with inc:=O.inc}))else(if decide (((mY O.kind).toList.map λ b=>(b.toNat:Int)).getD H.1.toNat 0=82)then some (.inl (i64.wrap (H.1+1),{H.2 with round:=O.round}))else(if decide (((mY O.kind).toList.map λ b=>(b.toNat:Int)).getD H.1.toNat 0=69)then some (.inl (i64.wrap (H.1+1),{H.2 with epoch:=O.epoch}))else(if decide (((mY O.kind).toList.map λ b=>(b.toNat:Int)).getD H.1.toNat 0=76)then some (.inl (i64.wrap (H.1+1),{H.2 with label:=O.label}))else(if decide (((mY O.kind).toList.map λ b=>(b.toNat:Int)).getD H.1.toNat 0=87)then some (.inl (i64.wrap (H.1+1),{H.2 with state:=O.state}))else(if decide (((mY O.kind).toList.map λ b=>(b.toNat:Int)).getD H.1.toNat 0=79)then some (.inl (i64.wrap (H.1+1),{H.2 with options:=O.options}))else some (.inl (i64.wrap (H.1+1),H.2))))))))))))))else some (.inr H.2))
def Bj(H:aL):Option aL:=gd ((mY H.kind).size<=4294967296)<|(lY (Gp H) (0,{aL.zero with kind:=H.kind})).bind (λ z=>SU z)
@[reducible,instance]def bA6 a0:=mkJ (Bj a0) 0 (@SU.eq_1) λ j1=>⟨[(2,.ptr 0 0 0),(3,.ptr 1 0 0)],[(0,bx aL.zero),(1,bx j1)],2⟩
@[reducible,instance]def bA7 (H:aL):=mkL x (@Gp.eq_1 H) λ O=>⟨[(1,.ptr 0 0 0),(2,.ptr 1 0 0),(3,.ptr 2 0 0),(12,.sl (((mY H.kind).toList.map λ b=>(b.toNat:Int)).map (eI u8))),(13,.int i64 (((mY H.kind).toList.map λ b=>(b.toNat:Int)).length:Int)),(14,.int i64 O.1)],[(0,bx H),(1,bx aL.zero),(2,bx O.2)],3⟩
instance bA8(H:aL):OkP (Bj H) 26 [ga H] ga:=ok1 (Bj.eq_1 H) Tryz.f26 []
def DA(H O:aA):Option Bool:=(if decide (H.aB=O.aB)&&decide (H.gen=O.gen)then Be H.aT O.aT else some false).bind λ v1=>(if (decide (H.aB=O.aB)&&decide (H.gen=O.gen))&&v1 then w7 H.aN O.aN else some false).bind λ v2=>(if ((decide (H.aB=O.aB)&&decide (H.gen=O.gen))&&v1)&&v2 then w7 H.aW O.aW else some false).bind λ v3=>some ((((decide (H.aB=O.aB)&&decide (H.gen=O.gen))&&v1)&&v2)&&v3)
instance bA9(H O:aA):OkP (DA H O) 119 [ga H,ga O] .bool:=ok1 (DA.eq_1 H O) Tryz.f119 []
def SV(j1:Unit):Option Bool:=some true
def DB(O:ByteArray)(H:Int):Option (Int⊕(Unit⊕Bool)):=(if decide (H<(O.size:Int))then gd (0<=H/\H<(O.size:Int))<|(if (!(decide (97<=((O.toList.getD H.toNat 0).toNat:Int))&&decide (((O.toList.getD H.toNat 0).toNat:Int)<=122)))&&(decide (H=0)||(!(((decide (48<=((O.toList.getD H.toNat 0).toNat:Int))&&decide (((O.toList.getD H.toNat 0).toNat:Int)<=57))||decide (((O.toList.getD H.toNat 0).toNat:Int)=95))||decide (((O.toList.getD H.toNat 0).toNat:Int)=45))))then some (.inr (.inr false))else some (.inl (i64.wrap (H+1))))else some (.inr (.inl ())))
def wH(H:ByteArray):Option Bool:=(if (decide ((H.size:Int)<1)||decide (12<(H.size:Int)))||Dh H then some false else(lY (DB H) 0).bind (λ|.inl z=>SV z|.inr z=>some z))
@[reducible,instance]def bAb a0:=mkJ (wH a0) 0 (@SV.eq_1) λ j1=>⟨[],[],0⟩
@[reducible,instance]def bAc (H:ByteArray):=mkL x (@DB.eq_1 H) λ O=>⟨[(0,.str H),(20,.int i64 (H.size:Int)),(21,.int i64 O)],[],0⟩
instance bAd(H:ByteArray):OkP (wH H) 126 [.str H] .bool:=ok1 (wH.eq_1 H) Tryz.f126 []
def JN(H:aL)(j1:Unit):Option Bool:=(if ((!decide ((H.state.aF.length:Int)=0))||(!decide ((H.state.aY.length:Int)=0)))||(!decide ((H.options.length:Int)=0))then some false else some (((decide (H.kind=0)&&decide (H.aM={aK.zero with}))&&decide (H.aZ={aO.zero with}))&&(!H.done)))
@[go_sem] def bAf(H:aL)(j1:Unit):St:=⟨[(1,.ptr 0 0 0)],[(0,bx H)],1⟩
def JO(H:aL)(O:Int×bM)(U:Unit):Option (Unit⊕(Unit⊕Bool)):=(oM (O.2).of).bind λ v2=>(if !decide (nI H v2=0)then some (.inr (.inr false))else some (.inl ()))
@[go_sem] def bAh(H:aL)(v1:(List (Int×bM)))(s0:List Nat)(O:Unit):St:=⟨[(1,.ptr 0 0 0),(6,.it 1)],[(0,bx H),(1,⟨false,0,[],[.mp 2,.int i64 v1.length]::s0.map iE⟩),(2,⟨false,0,[A.int u8 0,A.bool true],v1.map (mI u8 bM.enc)⟩)],3⟩
def DC(H:aL):Option Bool:=(zV).bind λ v1=>rngO v1 (0,bM.zero) (JO H) (λ O:Unit=>(.inl ())) () (λ|.inl z=>JN H z|.inr z=>some z)
def bAi(F:aL)(r:Bool)(h:DC F=some r):PFn C 86 [ga F] (.bool r):=by
 refine oN Tryz.f86 [(7,80),(9,80),(13,1)] λ E hG hN hK=>?_;unfold DC at h;refine lW (lX hG ?_);refine lW (lW (lX hG ?_));obtain⟨v1,h0,h⟩:=lZ h;refine mO [] [(0,1)] [0] ((Ge).ok _ h0) rfl rfl ?_;refine pU (bAf F) (λ v=>JN F v=some r) ?_ ?_
 · intro j1 h
   unfold JN at h;refine g_st ?_;refine lW (lW (lX hG ?_));refine mA rfl hG h (λ _ h=>?_) (λ _ h=>?_)
   · refine lW (lX hG ?_)
     refine mG ?_;exact nM h
   refine mE ?_;refine lW (lX hG ?_);refine mG ?_;exact nM h
 refine RQ (bAh F v1) hK [(0,0),(1,2),(2,1)] h (λ s0 g1 O=>?_);refine g_st ?_;refine lW (lX hG ?_);refine⟨λ z0 x0 M=>?_,λ Y=>?_⟩
 · obtain⟨y0,H,U,B⟩:=RN O x0 M
   unfold JO at H
   try refine g_st ?_
   refine lW ?_;refine AY rfl hG ?_;refine mE ?_;refine oG (lW (lX hG ?_));refine lW (lX hG ?_);obtain⟨v2,hv2,H⟩:=lZ H;refine mO [(0,0)] [] [0] (AZ _ _ _ hv2) rfl rfl ?_ (ho:=by first|exact⟨by trivial,tM hv2⟩|exact tM hv2);refine mA rfl hG H (λ _ H=>?_) (λ _ H=>?_)
   · refine lW (lX hG ?_)
     refine mG ?_;obtain rfl:=dY H;have h:=B _ rfl
     try dsimp only at h
     exact nM h
   refine mE ?_;exact RR hK [(0,0),(1,1),(2,2)] H U
 try refine g_st ?_
 refine lW ?_;refine I8 rfl hG ?_;refine oI ?_;have h:=RO O Y
 try dsimp only at h
 exact mT hK [(0,0)] () (by exact h)
def SW(j1:(List Int)):Option (List Int):=some j1
def DD(O:List Int)(H:(List Int)×Int):Option (((List Int)×Int)⊕(List Int)):=(if decide (H.2<O.length)then gd (0<=H.2/\H.2<O.length)<|(uF H.1 (u64.wrap (O.getD H.2.toNat 0))).bind λ v1=>some (.inl (v1,i64.wrap (H.2+1)))else some (.inr H.1))
def rC(H O:List Int):Option (List Int):=(lY (DD O) (H,0)).bind (λ z=>SW z)
@[reducible,instance]def bAk a0 a1:=mkJ (rC a0 a1) 0 (@SW.eq_1) λ j1=>⟨[(0,.sl (j1.map (eI u8)))],[],0⟩
@[reducible,instance]def bAl (H:List Int):=mkL x (@DD.eq_1 H) λ O=>⟨[(0,.sl (O.1.map (eI u8))),(7,.sl (H.map (eI i64))),(8,.int i64 H.length),(9,.int i64 O.2)],[],0⟩
instance bAm(H O:List Int):OkP (rC H O) 157 [.sl (H.map (eI u8)),.sl (O.map (eI i64))] (λ r=>.sl (r.map (eI u8))):=ok1 (rC.eq_1 H O) Tryz.f157 [(16,1)]
def nQ(O:Int)(H:bK):Option (Int×bK):=(if decide ((H.l.length:Int)<=H.at_)then some (0,H)else gd (0<=i64.wrap (({H with at_:=(i64.wrap (H.at_+1))}).at_-1)/\i64.wrap (({H with at_:=(i64.wrap (H.at_+1))}).at_-1)<((({H with at_:=(i64.wrap (H.at_+1))}).l).length:Int))<|(wF ((({H with at_:=(i64.wrap (H.at_+1))}).l).getD (i64.wrap (({H with at_:=(i64.wrap (H.at_+1))}).at_-1)).toNat 0) O).bind λ v1=>some (v1,{H with at_:=(i64.wrap (H.at_+1))}))
instance qI(H:Int)(O:bK):OkM (nQ H O) 17 [.ptr 0 0 0,.int i64 H] [(0,bx O)] 1 (λ r=>.int i64 r.1) (λ r=>[(0,bx r.2)]) 1:=okm (nQ.eq_1 H O) (λ r=>[.int i64 r.1]) Tryz.f17 []
def DE:List Int:=[5,5,3,4,2,1,3,5]
def Bk(H:Int):Option Int:=(wF H (DE.length:Int)).bind λ v1=>gd (0<=v1/\v1<DE.length)<|some (DE.getD v1.toNat 0)
instance bAo(H:Int):OkP (Bk H) 43 [.int i64 H] (λ r=>.int i64 r):=⟨λ r h=>by
 refine oN Tryz.f43 [] λ E hG O hK=>?_;have hm:Mk (Bk H):=trivial;unfold Bk at h;refine lW (lX hG ?_);refine lW (lX hG ?_);refine g_gh (.cast 3 (.full (DE.map (eI i64)))) ?_;exact gogo⟩
def qP(O:aI)(H:aC):Bool:=(if !(zU O)then false else(if decide (O.kind=1)then(sQ H.mode&&decide (H.aU=0))else((decide (H.mode=0)&&decide (1<=H.aU))&&decide (H.aU<=O.aU))))
instance bAp(H:aI)(O:aC):OkT 138 [.agg (aI.enc H),.agg (aC.enc O)] (.bool (qP H O)):=ok2 .bool (qP.eq_1 H O) Tryz.f138 []
def pR(H:aC):Bool:=((sQ H.mode&&decide (H.aU=0))||((decide (H.mode=0)&&decide (1<=H.aU))&&decide (H.aU<=8)))
instance SX(H:aC):OkT 55 [.agg (aC.enc H)] (.bool (pR H)):=ok2 .bool (pR.eq_1 H) Tryz.f55 []
def DF(H O:bO):Option Bool:=(A7 H.bU O.bU).bind λ v1=>some ((v1&&decide (H.bC=O.bC))&&decide (H.limit=O.limit))
instance bAr(H O:bO):OkP (DF H O) 139 [ga H,ga O] .bool:=ok1 (DF.eq_1 H O) Tryz.f139 []
def rY(H:aA)(O:aK):Option aC:=(zR H.aT O).bind λ v1=>some v1
instance Nq(H:aA)(O:aK):OkP (rY H O) 200 [ga H,ga O] ga:=ok1 (rY.eq_1 H O) Tryz.f200 []
def Gq(H O:bQ):Option Bool:=(if decide (H.aM=O.aM)&&decide (H.gen=O.gen)then A7 H.bU O.bU else some false).bind λ v1=>some ((decide (H.aM=O.aM)&&decide (H.gen=O.gen))&&v1)
instance bAt(H O:bQ):OkP (Gq H O) 77 [ga H,ga O] .bool:=ok1 (Gq.eq_1 H O) Tryz.f77 []
def DG(O:List Int)(H:ByteArray):Option (List Int):=(pQ O (u64.wrap (H.size:Int))).bind λ v1=>gd (v1.length+H.toList.length<=4294967296)<|some (v1++(H.toList.map λ b=>(b.toNat:Int)))
instance bAu(H:List Int)(O:ByteArray):OkM (DG H O) 60 [.sl (H.map (eI u8)),.str O] [] 0 (λ r=>.own 0 0 r.length) (λ r=>[(0,⟨false,1,[A.int u8 0],r.map (eI u8)⟩)]) 1:=okm (DG.eq_1 H O) (λ r=>[.own 0 0 r.length]) Tryz.f60 [(4,1)]
def Bl(H:aC):Bool:=(if !decide (H.mode=0)then(rB H.mode&&decide (H.aU=0))else(decide (1<=H.aU)&&decide (H.aU<=8)))
instance bAw(H:aC):OkT 127 [.agg (aC.enc H)] (.bool (Bl H)):=ok2 .bool (Bl.eq_1 H) Tryz.f127 []
def mM(O:aI)(H:aC):Bool:=(if !(oB O)then false else(if decide (O.kind=1)then(rB H.mode&&decide (H.aU=0))else((decide (H.mode=0)&&decide (1<=H.aU))&&decide (H.aU<=O.aU))))
instance bAx(H:aI)(O:aC):OkT 274 [.agg (aI.enc H),.agg (aC.enc O)] (.bool (mM H O)):=ok2 .bool (mM.eq_1 H O) Tryz.f274 []
def xT(H O:aK):Option Int:=(Bc (⟨[H.site,H.inc,H.num],rfl⟩:Arr Int 3) (⟨[O.site,O.inc,O.num],rfl⟩:Arr Int 3)).bind λ v1=>some v1
instance SY(H O:aK):OkP (xT H O) 182 [ga H,ga O] (λ r=>.int i64 r):=ok1 (xT.eq_1 H O) Tryz.f182 []
def Bm(H:aA)(O:aK):Option aC:=(u6 H.aT O).bind λ v1=>some v1
instance bAz(H:aA)(O:aK):OkP (Bm H O) 284 [ga H,ga O] ga:=ok1 (Bm.eq_1 H O) Tryz.f284 []
def Bn(O:List Int)(H:ByteArray):Option (List Int):=(pH O (u64.wrap (H.size:Int))).bind λ v1=>gd (v1.length+H.toList.length<=4294967296)<|some (v1++(H.toList.map λ b=>(b.toNat:Int)))
instance bB0(H:List Int)(O:ByteArray):OkM (Bn H O) 103 [.sl (H.map (eI u8)),.str O] [] 0 (λ r=>.own 0 0 r.length) (λ r=>[(0,⟨false,1,[A.int u8 0],r.map (eI u8)⟩)]) 1:=okm (Bn.eq_1 H O) (λ r=>[.own 0 0 r.length]) Tryz.f103 [(4,1)]
def wI(H:List Int):Option (ByteArray×Int×Int):=(sE H).bind λ v1=>(if !decide (v1.2.2=0)then some ((⟨#[]⟩:ByteArray),0,v1.2.2)else(if decide (1024<v1.1)then some ((⟨#[]⟩:ByteArray),0,3)else(if decide (i64.wrap ((H.length:Int)-v1.2.1)<i64.wrap v1.1)then some ((⟨#[]⟩:ByteArray),0,5)else gd (0<=v1.2.1/\v1.2.1<=i64.wrap (v1.2.1+i64.wrap v1.1)/\i64.wrap (v1.2.1+i64.wrap v1.1)<=(H.length:Int))<|some (tY ((H.take (i64.wrap (v1.2.1+i64.wrap v1.1)).toNat).drop v1.2.1.toNat),i64.wrap (v1.2.1+i64.wrap v1.1),0))))
instance bB1(H:List Int):OkP (wI H) 116 [.sl (H.map (eI u8))] (λ r=>.tup [.str r.1,.int i64 r.2.1,.int i64 r.2.2]):=ok1 (wI.eq_1 H) Tryz.f116 []
def Bo(H:bV)(v1:Int×Int×Int)(j1:Int):Option (Int×bV):=(if !decide (j1=0)then some (0,{H with err:=j1})else some (i64.wrap v1.1,{H with at_:=(i64.wrap (H.at_+v1.2.1))}))
def rO(O U:Int)(H:bV):Option (Int×bV):=(if !decide (H.err=0)then some (0,H)else gd (0<=H.at_/\H.at_<=(H.all.length:Int)/\(H.all.length:Int)<=(H.all.length:Int))<|(sE (H.all.drop H.at_.toNat)).bind λ v1=>(if decide (v1.2.2=0)&&decide (u64.wrap O<v1.1)then Bo H v1 U else Bo H v1 v1.2.2))
@[reducible,instance]def bB2 a0 a1 (H:bV) (v1:Int×Int×Int):=mkJ (rO a0 a1 H,v1) 999 (@Bo.eq_1 H v1) λ j1=>⟨[(0,.ptr 0 0 0),(7,.int u64 v1.1),(8,.int i64 v1.2.1),(9,.int i64 j1)],[(0,bx H)],1⟩
instance bB3(H O:Int)(U:bV):OkM (rO H O U) 169 [.ptr 0 0 0,.int i64 H,.int i64 O] [(0,bx U)] 1 (λ r=>.int i64 r.1) (λ r=>[(0,bx r.2)]) 1:=okm (rO.eq_1 H O U) (λ r=>[.int i64 r.1]) Tryz.f169 []
def SZ(j1:Unit):Option Bool:=some true
def S0(O U:List aV)(H:Int):Option (Int⊕(Unit⊕Bool)):=(if decide (H<O.length)then gd (0<=H/\H<O.length)<|gd (0<=H/\H<U.length)<|(if !(Nk (O.getD H.toNat aV.zero) (U.getD H.toNat aV.zero))then some (.inr (.inr false))else some (.inl (i64.wrap (H+1))))else some (.inr (.inl ())))
def Gr(H O:List aV):Option Bool:=(if !decide ((H.length:Int)=(O.length:Int))then some false else(lY (S0 H O) 0).bind (λ|.inl z=>SZ z|.inr z=>some z))
@[reducible,instance]def bB4 a0 a1:=mkJ (Gr a0 a1) 0 (@SZ.eq_1) λ j1=>⟨[],[],0⟩
@[reducible,instance]def bB5 (H O:List aV):=mkL x (@S0.eq_1 H O) λ U=>⟨[(1,la O),(2,.clo 175 []),(15,la H),(16,.int i64 H.length),(17,.int i64 U)],[],0⟩
instance zV4(H O:List aV):OkM (Gr H O) 174 [la H,la O,.clo 175 []] [] 0 .bool (λ r=>[]) 0:=okm (Gr.eq_1 H O) (λ r=>[.bool r]) Tryz.f174 []
def JP(U:(aS->aS->Option Bool))(H O:aS):Option Bool:=(if decide (H.k=O.k)&&decide (H.aZ=O.aZ)then Ds U H.bG O.bG else some false).bind λ v1=>some ((decide (H.k=O.k)&&decide (H.aZ=O.aZ))&&v1)
def JQ:Nat->(aS->aS->Option Bool)
 |0=>λ _ _=>none
 |n+1=>JP (JQ n)
def Nr(H O:aS):Option Bool:=JQ (_root_.SizeOf.sizeOf H+1) H O
def bB8(H:(aS->aS->Option Bool))(hrc:∀(O:aS) (U:aS) (r:Bool),H O U=some r->PFn C 124 [ga O,ga U] (.bool r))(O U:aS)(r:Bool)(h:JP H O U=some r):PFn C 124 [ga O,ga U] (.bool r):=by refine oN Tryz.f124 [] λ E hG F hK=>?_;have hm:Mk (JP H O U):=trivial;unfold JP at h;refine lW (lX hG ?_);refine lW (lX hG ?_);obtain⟨v1,Y,h⟩:=lZ h;have hm:=mkP hm v1;refine FW [] [] Y (λ B=>zV2 H hrc O.bG U.bG _ B) rfl ?_;exact gogo
def S1:∀(n:Nat) (H:aS) (O:aS) (r:Bool),JQ n H O=some r->PFn C 124 [ga H,ga O] (.bool r)
 |0,_,_,_,h=>nomatch h
 |n+1,H,O,r,h=>bB8 (JQ n) (S1 n) H O r h
instance bBa(H O:aS):OkP (Nr H O) 124 [ga H,ga O] .bool:=⟨λ r h=>S1 _ H O r h⟩
def uI(H:Int):Bool:=(((w9 H||(decide (48<=H)&&decide (H<=57)))||decide (H=95))||decide (H=45))
instance bBb(H:Int):OkT 108 [.int u8 H] (.bool (uI H)):=ok2 .bool (uI.eq_1 H) Tryz.f108 []
def vG(H O:aK):Int:=(if !decide (zQ H.site O.site=0)then(zQ H.site O.site)else(if !decide (zQ H.inc O.inc=0)then(zQ H.inc O.inc)else(zQ H.num O.num)))
instance bBc(H O:aK):OkT 94 [.agg (aK.enc H),.agg (aK.enc O)] (.int i64 (vG H O)):=ok2 (λ r=>.int i64 r) (vG.eq_1 H O) Tryz.f94 []
def Bp(O:List Int)(H:aK):Option (List Int):=(if !(pC H)then gd (O.length<=4294967296)<|some O else(sZ O (u64.wrap H.site)).bind λ v1=>(sZ v1 (u64.wrap H.inc)).bind λ v2=>(pQ v2 (u64.wrap H.num)).bind λ v3=>some v3)
instance bBd(H:List Int)(O:aK):OkM (Bp H O) 59 [.sl (H.map (eI u8)),ga O] [] 0 (λ r=>.own 0 0 r.length) (λ r=>[(0,⟨false,1,[A.int u8 0],r.map (eI u8)⟩)]) 1:=okm (Bp.eq_1 H O) (λ r=>[.own 0 0 r.length]) Tryz.f59 [(4,1),(8,1),(15,1),(19,1)]
def JR(O:aK)(H:aC)(j1:Int×(List aX)):Option (List aX):=(if oQ H then some j1.2 else(if decide (j1.1<0)then gd (j1.2.length+1<=4294967296)<|gd (0<=i64.wrap (((j1.2.length:Nat):Int)+1)/\i64.wrap (((j1.2.length:Nat):Int)+1)<=((j1.2.length+1:Nat):Int)/\((j1.2.length+1:Nat):Int)<=((j1.2.length+1:Nat):Int))<|gd (0<=((j1.2.length:Nat):Int)/\((j1.2.length:Nat):Int)<=((j1.2.length+1:Nat):Int)/\((j1.2.length+1:Nat):Int)<=((j1.2.length+1:Nat):Int))<|gd (0<=((j1.2.length:Nat):Int)/\((j1.2.length:Nat):Int)<((j1.2.length+1:Nat):Int))<|some (((j1.2++[{aX.zero with}]).take (i64.wrap (((j1.2.length:Nat):Int)+1)).toNat++(((j1.2++[{aX.zero with}]).drop ((j1.2.length:Nat):Int).toNat).take (j1.2.length+1-((j1.2.length:Nat):Int).toNat)).take (j1.2.length+1-(i64.wrap (((j1.2.length:Nat):Int)+1)).toNat)++(j1.2++[{aX.zero with}]).drop ((i64.wrap (((j1.2.length:Nat):Int)+1)).toNat+min (((j1.2++[{aX.zero with}]).drop ((j1.2.length:Nat):Int).toNat).take (j1.2.length+1-((j1.2.length:Nat):Int).toNat)).length (j1.2.length+1-(i64.wrap (((j1.2.length:Nat):Int)+1)).toNat))).set ((j1.2.length:Nat):Int).toNat (⟨O,H⟩:aX))else gd (j1.2.length+1<=4294967296)<|gd (0<=i64.wrap (j1.1+1)/\i64.wrap (j1.1+1)<=((j1.2.length+1:Nat):Int)/\((j1.2.length+1:Nat):Int)<=((j1.2.length+1:Nat):Int))<|gd (0<=j1.1/\j1.1<=((j1.2.length+1:Nat):Int)/\((j1.2.length+1:Nat):Int)<=((j1.2.length+1:Nat):Int))<|gd (0<=j1.1/\j1.1<((j1.2.length+1:Nat):Int))<|some (((j1.2++[{aX.zero with}]).take (i64.wrap (j1.1+1)).toNat++(((j1.2++[{aX.zero with}]).drop j1.1.toNat).take (j1.2.length+1-j1.1.toNat)).take (j1.2.length+1-(i64.wrap (j1.1+1)).toNat)++(j1.2++[{aX.zero with}]).drop ((i64.wrap (j1.1+1)).toNat+min (((j1.2++[{aX.zero with}]).drop j1.1.toNat).take (j1.2.length+1-j1.1.toNat)).length (j1.2.length+1-(i64.wrap (j1.1+1)).toNat))).set j1.1.toNat (⟨O,H⟩:aX))))
@[go_sem] def bBf(H:aK)(O:aC)(j1:Int×(List aX)):St:=⟨[(4,.ptr 0 0 0),(5,.ptr 1 0 0),(7,.own 2 0 j1.2.length),(8,.int i64 j1.1)],[(0,bx H),(1,bx O),(2,sx j1.2)],3⟩
def DH(O:List aX)(U:aK)(H:Int×Int×(List aX)):Option ((Int×Int×(List aX))⊕(Int×(List aX))):=(if decide (H.2.1<O.length)then gd (0<=H.2.1/\H.2.1<O.length)<|(if decide ((O.getD H.2.1.toNat aX.zero).aM=U)then some (.inl (H.1,i64.wrap (H.2.1+1),H.2.2))else(if decide (H.1<0)then xT (O.getD H.2.1.toNat aX.zero).aM U else some 0).bind λ v1=>(if decide (H.1<0)&&decide (0<v1)then gd (H.2.2.length+1<=4294967296)<|some (.inl (((H.2.2.length:Nat):Int),i64.wrap (H.2.1+1),H.2.2++[O.getD H.2.1.toNat aX.zero]))else gd (H.2.2.length+1<=4294967296)<|some (.inl (H.1,i64.wrap (H.2.1+1),H.2.2++[O.getD H.2.1.toNat aX.zero]))))else some (.inr (H.1,H.2.2)))
@[go_sem] def bBh(O:List aX)(U:aK)(Y:aC)(H:Int×Int×(List aX)):St:=⟨[(4,.ptr 0 0 0),(5,.ptr 1 0 0),(7,.own 2 0 H.2.2.length),(8,.int i64 H.1),(15,la O),(16,.int i64 O.length),(17,.int i64 H.2.1)],[(0,bx U),(1,bx Y),(2,sx H.2.2)],3⟩
def Bq(H:List aX)(O:aK)(U:aC):Option (List aX):=gd (0<=0/\0<=i64.wrap ((H.length:Int)+1)/\i64.wrap ((H.length:Int)+1)<=4294967296)<|(lY (DH H O) ((-1),0,List.replicate 0 aX.zero)).bind (λ z=>JR O U z)
def bBi(B:List aX)(U:aK)(Y:aC)(r:(List aX))(h:Bq B U Y=some r):PFn C 273 [la B,ga U,ga Y] (la r):=by
 refine oN Tryz.f273 [] λ E hG hN hK=>?_;unfold Bq at h;refine lW (lX hG ?_);refine lW ?_;obtain⟨h0,h⟩:=mH h;refine lX hG ?_;refine lW (lX hG ?_);refine lW (lW (lX hG ?_));refine pU (bBf U Y) (λ v=>JR U Y v=some r) ?_ ?_
 · intro j1 h
   unfold JR at h;refine g_st ?_;refine lW (lW (lX hG ?_));refine nC (λ hg=>(aT8 Y).ok) ?_;refine mA rfl hG h (λ _ h=>?_) (λ _ h=>?_)
   · refine lW (lX hG ?_)
     refine mG ?_;exact nM h
   refine mE ?_;refine lW (lW (lX hG ?_));refine mA rfl hG h (λ _ h=>?_) (λ _ h=>?_)
   · refine lX hG ?_
     refine lW ?_;obtain⟨v0,h⟩:=mH h;refine lX hG ?_;refine lW ?_;obtain⟨p0,h⟩:=mH h;obtain⟨q0,h⟩:=mH h;refine qD oL hG ?_;refine lW ?_;obtain⟨r0,h⟩:=mH h;refine lX hG ?_;refine lW (lX hG ?_);refine mG ?_;exact nM h
   refine mE ?_;refine lW ?_;obtain⟨s0,h⟩:=mH h;refine lX hG ?_;refine lW ?_;obtain⟨t0,h⟩:=mH h;obtain⟨c0,h⟩:=mH h;refine qD oL hG ?_;refine lW ?_;obtain⟨d0,h⟩:=mH h;refine lX hG ?_;refine lW (lX hG ?_);refine mG ?_;exact nM h
 refine qH (bBh B U Y) hK [(0,0),(1,1),(2,2)] h (λ x0 h F y0 H O=>?_);unfold DH at H;refine g_st ?_;refine lW (lX hG ?_);refine lW ?_;refine mA rfl hG H (λ _ H=>?_) (λ _ H=>?_)
 · refine mE ?_
   refine lW (oG (lW ?_));obtain⟨z0,H⟩:=mH H;refine lX hG ?_;refine lW (lW (lX hG ?_));refine mA rfl hG H (λ _ H=>?_) (λ _ H=>?_)
   · refine oI ?_
     refine lX hG ?_;exact oU hK [(0,0),(1,1),(2,2)] H
   refine mE ?_;refine lW (lW (lX hG ?_));obtain⟨v1,M,H⟩:=lZ H;refine nC (λ hg=>(SY (B.getD F.2.1.toNat aX.zero).aM U).ok _ (uB hg M)) ?_;refine mA rfl hG H (λ _ H=>?_) (λ _ H=>?_)
   · refine lX hG ?_
     obtain⟨e0,H⟩:=mH H;refine lX hG ?_;refine lX hG ?_;exact oU hK [(0,0),(1,1),(2,4)] H
   refine mE ?_;obtain⟨u0,H⟩:=mH H;refine lX hG ?_;refine lX hG ?_;exact oU hK [(0,0),(1,1),(2,4)] H
 refine oI ?_;cases H;cases O _ rfl;exact mT hK [(0,0),(1,1),(2,2)] (F.1,F.2.2) (by exact h)
instance bBj(H:List aX)(O:aK)(U:aC):OkP (Bq H O U) 273 [la H,ga O,ga U] la:=⟨bBi H O U⟩
def S2(j1:Unit):Option Bool:=some true
def JT(O:aP)(H:Int):Option (Int⊕(Unit⊕Bool)):=(if decide (H<O.lower.length)then gd (0<=H/\H<O.lower.length)<|(wH (O.lower.getD H.toNat aO.zero).name).bind λ v1=>gd ((v1&&decide (0<H))=true->0<=i64.wrap (H-1)/\i64.wrap (H-1)<(O.lower.length:Int))<|(if (!v1)||(decide (0<H)&&(!Op.bytesLess ((O.lower.getD (i64.wrap (H-1)).toNat aO.zero).name).toList ((O.lower.getD H.toNat aO.zero).name).toList))then some (.inr (.inr false))else(if (!decide ((O.lower.getD H.toNat aO.zero).aJ={aC.zero with}))&&(!(Bl (O.lower.getD H.toNat aO.zero).aJ))then some (.inr (.inr false))else some (.inl (i64.wrap (H+1)))))else some (.inr (.inl ())))
def a8(H:aP):Option Bool:=(if (!(mP H.aM))||((!decide (H.label=(-1)))&&(decide (H.label<1)||decide (99<H.label)))then some false else(if (decide (H.cost<1)||decide (1073741824<H.cost))||decide (8<(H.lower.length:Int))then some false else(lY (JT H) 0).bind (λ|.inl z=>S2 z|.inr z=>some z)))
@[reducible,instance]def bBm a0:=mkJ (a8 a0) 0 (@S2.eq_1) λ j1=>⟨[],[],0⟩
@[reducible,instance]def bBn (H:aP):=mkL x (@JT.eq_1 H) λ O=>⟨[(1,.ptr 0 0 0),(39,la H.lower),(40,.int i64 H.lower.length),(41,.int i64 O)],[(0,bx H)],1⟩
instance bBo(H:aP):OkP (a8 H) 129 [ga H] .bool:=ok1 (a8.eq_1 H) Tryz.f129 []
def S3(j1:(List Int)):Option (List Int):=some j1
def Gs(O:(List Int->aS->Option (List Int)))(U:aS)(H:(List Int)×Int):Option (((List Int)×Int)⊕(List Int)):=(if decide (H.2<U.bG.length)then gd (0<=H.2/\H.2<U.bG.length)<|(O H.1 (U.bG.getD H.2.toNat aS.zero)).bind λ v5=>some (.inl (v5,i64.wrap (H.2+1)))else some (.inr H.1))
def DI(O:(List Int->aS->Option (List Int)))(U:List Int)(H:aS):Option (List Int):=(rC U [H.k]).bind λ v1=>(if decide (H.k=0)then(Bh v1 H.aZ.name).bind λ v2=>(rC v2 [H.aZ.aJ.mode,H.aZ.aJ.aU]).bind λ v3=>some v3 else(rC v1 [(H.bG.length:Int)]).bind λ v4=>(lY (Gs O H) (v4,0)).bind (λ z=>S3 z))
def DJ:Nat->(List Int->aS->Option (List Int))
 |0=>λ _ _=>none
 |n+1=>DI (DJ n)
def JU(O:List Int)(H:aS):Option (List Int):=DJ (_root_.SizeOf.sizeOf H+1) O H
@[reducible,instance]def bBq (H:(List Int->aS->Option (List Int))) (O:List Int) (U:aS):=mkJ ((DI H O U,v1),v2) 0 (@S3.eq_1) λ j1=>⟨[(0,.sl (j1.map (eI u8)))],[],0⟩
@[reducible,instance]def bBr (H:(List Int->aS->Option (List Int))) (O:aS):=mkL x (@Gs.eq_1 H O) λ U=>⟨[(0,.sl (U.1.map (eI u8))),(37,la O.bG),(38,.int i64 O.bG.length),(39,.int i64 U.2)],[],0⟩
abbrev JV(g:(List Int->aS->Option (List Int))):Prop:=∀(H:List Int) (O:aS),OkP (g H O) 159 [.sl (H.map (eI u8)),.agg (aS.enc O)] (λ r=>.sl (r.map (eI u8)))
theorem bBt(H:(List Int->aS->Option (List Int)))(hrc:JV H):JV (DI H):=λ O U=>ok1 (DI.eq_1 H O U) Tryz.f159 []
theorem bBu:∀n,JV (DJ n):=s6 (λ _ _=>⟨λ _ h=>nomatch h⟩) λ n=>bBt _
instance bBv:JV JU:=λ H O=>bBu _ H O
def wJ(H:Int)(O:bE):Option (Int×bE):=(x9 H 4 O).bind λ v1=>some (v1.1,v1.2)
instance JW(H:Int)(O:bE):OkM (wJ H O) 163 [.ptr 0 0 0,.int i64 H] [(0,bx O)] 1 (λ r=>.int i64 r.1) (λ r=>[(0,bx r.2)]) 1:=okm (wJ.eq_1 H O) (λ r=>[.int i64 r.1]) Tryz.f163 []
def tA(H:bE):Option (Int×bE):=(x9 1073741824 16 H).bind λ v1=>some (v1.1,v1.2)
instance Gt(H:bE):OkM (tA H) 166 [.ptr 0 0 0] [(0,bx H)] 1 (λ r=>.int i64 r.1) (λ r=>[(0,bx r.2)]) 1:=okm (tA.eq_1 H) (λ r=>[.int i64 r.1]) Tryz.f166 []
def xU(H:bV):Option (ByteArray×bV):=(if !decide (H.err=0)then some ((⟨#[]⟩:ByteArray),H)else gd (0<=H.at_/\H.at_<=(H.all.length:Int)/\(H.all.length:Int)<=(H.all.length:Int))<|(wI (H.all.drop H.at_.toNat)).bind λ v1=>some (v1.1,{{H with at_:=(i64.wrap (H.at_+v1.2.1))}with err:=v1.2.2}))
instance bBw(H:bV):OkM (xU H) 170 [.ptr 0 0 0] [(0,bx H)] 1 (λ r=>.str r.1) (λ r=>[(0,bx r.2)]) 1:=okm (xU.eq_1 H) (λ r=>[.str r.1]) Tryz.f170 []
def Gu(H O:aA):Option Bool:=(if decide (H.aB=O.aB)then FZ H.aT O.aT else some false).bind λ v1=>(if decide (H.aB=O.aB)&&v1 then Dr H.aN O.aN else some false).bind λ v2=>(if (decide (H.aB=O.aB)&&v1)&&v2 then Gr H.aW O.aW else some false).bind λ v3=>some (((decide (H.aB=O.aB)&&v1)&&v2)&&v3)
instance bBx(H O:aA):OkP (Gu H O) 122 [ga H,ga O] .bool:=⟨λ r h=>by
 refine oN Tryz.f122 [] λ E hG B hK=>?_;have hm:Mk (Gu H O):=trivial;unfold Gu at h;refine lW (lX hG ?_);refine lW (lX hG ?_);obtain⟨v1,U,h⟩:=lZ h;have hm:=mkP hm v1;refine nC (λ hg=>(aS6 H.aT O.aT).ok _ (uB hg U)) ?_;obtain⟨v2,hv2,h⟩:=lZ h;have hm:=mkP hm v2;refine nC (λ hg=>(aXa H.aN O.aN).ok _ (uB hg hv2)) ?_;obtain⟨v3,hv3,h⟩:=lZ h;have hm:=mkP hm v3;refine FW [] [] hv3 (λ Y=>(zV4 H.aW O.aW).ok _ Y) rfl ?_;exact gogo⟩
def xV(H:aV):Bool:=(((((pC H.aM&&pR H.aJ)&&decide (0<=H.bC))&&decide (H.bC<=7))&&decide (0<=H.bS))&&decide (H.bS<=3))
instance bBy(H:aV):OkT 267 [.agg (aV.enc H)] (.bool (xV H)):=ok2 .bool (xV.eq_1 H) Tryz.f267 []
def Ns(j1:Unit):Option Bool:=some true
def DK(O U:List aA)(H:Int):Option (Int⊕(Unit⊕Bool)):=(if decide (H<O.length)then gd (0<=H/\H<O.length)<|gd (0<=H/\H<U.length)<|(DA (O.getD H.toNat aA.zero) (U.getD H.toNat aA.zero)).bind λ v1=>(if !v1 then some (.inr (.inr false))else some (.inl (i64.wrap (H+1))))else some (.inr (.inl ())))
def Br(H O:List aA):Option Bool:=(if !decide ((H.length:Int)=(O.length:Int))then some false else(lY (DK H O) 0).bind (λ|.inl z=>Ns z|.inr z=>some z))
@[reducible,instance]def bC1 a0 a1:=mkJ (Br a0 a1) 0 (@Ns.eq_1) λ j1=>⟨[],[],0⟩
@[reducible,instance]def bC2 (H O:List aA):=mkL x (@DK.eq_1 H O) λ U=>⟨[(0,la H),(1,la O),(5,.int i64 U)],[],0⟩
instance bC3(H O:List aA):OkP (Br H O) 76 [la H,la O] .bool:=ok1 (Br.eq_1 H O) Tryz.f76 []
end
end Ab
end Go.Proofs.YtfmnjkfhahfhgaaGreatDoor
