import Derived.Test.YtfmnjkfhahfhgaaGreatDoorAuto
namespace Go.Proofs.YtfmnjkfhahfhgaaGreatDoor
namespace Ab
set_option linter.defProp false
open IntKind (i64 u64 u8)
set_option linter.unusedSimpArgs false
set_option linter.unusedVariables false
set_option maxRecDepth 100000
set_option maxHeartbeats 1000000
noncomputable section
variable {T : Type} (x : T)
def In(H:List Int):Bool:=(decide ((H.length:Int)<=300))
instance aUy(H:List Int):OkT 6 [.sl (H.map (eI i64))] (.bool (In H)):=ok2 .bool (In.eq_1 H) Tryz.f6 []
def Rq(j1:Unit):Option aC:=some ({aC.zero with})
def Aq(O:List aX)(U:aK)(H:Int):Option (Int⊕(Unit⊕aC)):=(if decide (H<O.length)then gd (0<=H/\H<O.length)<|(if decide ((O.getD H.toNat aX.zero).aL=U)then some (.inr (.inr (O.getD H.toNat aX.zero).aJ))else some (.inl (i64.wrap (H+1))))else some (.inr (.inl ())))
def l6(H:List aX)(O:aK):Option aC:=(lS (Aq H O) 0).bind (λ|.inl z=>Rq z|.inr z=>some z)
@[reducible,instance]def aV0 a0 a1:=mkJ (l6 a0 a1) 0 (@Rq.eq_1) λ j1=>⟨[(4,.ptr 0 0 0)],[(0,bx aC.zero)],1⟩
@[reducible,instance]def aV1 (H:List aX) (O:aK):=mkL x (@Aq.eq_1 H O) λ U=>⟨[(3,.ptr 0 0 0),(4,.ptr 1 0 0),(7,la H),(8,.int i64 H.length),(9,.int i64 U)],[(0,bx O),(1,bx aC.zero)],2⟩
instance aV2(H:List aX)(O:aK):OkP (l6 H O) 302 [la H,ga O] ga:=ok1 (l6.eq_1 H O) Tryz.f302 []
def Rr(j1:Unit):Option Int:=some (-1)
def Fj(O:List aV)(U:aK)(H:Int):Option (Int⊕(Unit⊕Int)):=(if decide (H<O.length)then gd (0<=H/\H<O.length)<|(if decide ((O.getD H.toNat aV.zero).aL=U)then some (.inr (.inr H))else some (.inl (i64.wrap (H+1))))else some (.inr (.inl ())))
def yG(H:List aV)(O:aK):Option Int:=(lS (Fj H O) 0).bind (λ|.inl z=>Rr z|.inr z=>some z)
@[reducible,instance]def aV5 a0 a1:=mkJ (yG a0 a1) 0 (@Rr.eq_1) λ j1=>⟨[],[],0⟩
@[reducible,instance]def aV6 (H:List aV) (O:aK):=mkL x (@Fj.eq_1 H O) λ U=>⟨[(3,.ptr 0 0 0),(7,la H),(8,.int i64 H.length),(9,.int i64 U)],[(0,bx O)],1⟩
instance aV7(H:List aV)(O:aK):OkP (yG H O) 285 [la H,ga O] (λ r=>.int i64 r):=ok1 (yG.eq_1 H O) Tryz.f285 []
def Rs(j1:Int×Int):Option (Int×Int):=some (i64.wrap (j1.1+1),j1.2)
def Fk(O:(aR->Int->Int->Option (Int×Int)))(U:aR)(Y:Int)(H:Int×Int×Int):Option ((Int×Int×Int)⊕((Int×Int)⊕(Int×Int))):=(if decide (H.2.1<U.bG.length)then gd (0<=H.2.1/\H.2.1<U.bG.length)<|(O (U.bG.getD H.2.1.toNat aR.zero) (i64.wrap (Y+1)) H.2.2).bind λ v1=>(if decide (v1.1=0)then some (.inr (.inr (0,v1.2)))else some (.inl ((if H.1<v1.1 then v1.1 else H.1),i64.wrap (H.2.1+1),v1.2)))else some (.inr (.inl (H.1,H.2.2))))
def Cw(H:(aR->Int->Int->Option (Int×Int)))(Y:aR)(U O:Int):Option (Int×Int):=(if decide (4<U)||decide (24<i64.wrap (O+1))then some (0,i64.wrap (O+1))else(lS (Fk H Y U) (0,0,i64.wrap (O+1))).bind (λ|.inl z=>Rs z|.inr z=>some z))
def yH:Nat->(aR->Int->Int->Option (Int×Int))
 |0=>λ _ _ _=>none
 |n+1=>Cw (yH n)
def Io(H:aR)(O U:Int):Option (Int×Int):=yH (_root_.SizeOf.sizeOf H+1) H O U
@[reducible,instance]def aV9 (H:(aR->Int->Int->Option (Int×Int))) (O:aR) (U Y:Int):=mkJ (Cw H O U Y) 0 (@Rs.eq_1) λ j1=>⟨[(7,.int i64 j1.1)],[(0,⟨false,1,[A.int i64 0],[[A.int i64 j1.2]]⟩)],1⟩
@[reducible,instance]def aVa (H:(aR->Int->Int->Option (Int×Int))) (O:aR) (Y:Int):=mkL x (@Fk.eq_1 H O Y) λ U=>⟨[(1,.int i64 Y),(2,.ptr 0 0 0),(7,.int i64 U.1),(25,la O.bG),(26,.int i64 O.bG.length),(27,.int i64 U.2.1)],[(0,⟨false,1,[A.int i64 0],[[A.int i64 U.2.2]]⟩)],1⟩
abbrev Ip(g:(aR->Int->Int->Option (Int×Int))):Prop:=∀(H:aR) (O:Int) (U:Int),OkM (g H O U) 254 [.agg (aR.enc H),.int i64 O,.ptr 0 0 0] [(0,⟨false,1,[A.int i64 0],[[A.int i64 U]]⟩)] 1 (λ r=>.int i64 r.1) (λ r=>[(0,⟨false,1,[A.int i64 0],[[A.int i64 r.2]]⟩)]) 1
theorem ZM(H:(aR->Int->Int->Option (Int×Int)))(hrc:Ip H):Ip (Cw H):=λ O U Y=>okm (Cw.eq_1 H O U Y) (λ r=>[.int i64 r.1]) Tryz.f254 []
theorem ZN:∀n,Ip (yH n):=j6 (λ _ _ _=>⟨λ _ h=>nomatch h⟩) λ n=>ZM _
instance aVe:Ip Io:=λ H O U=>ZN _ H O U
def Iq(j1:Int×(List Int)):Option (List Int):=gd (j1.2.length+1<=4294967296)<|some (j1.2++[u8.wrap j1.1])
@[go_sem] def ZO(j1:Int×(List Int)):St:=⟨[(1,.int u64 j1.1),(5,.own 0 0 j1.2.length)],[(0,⟨false,1,[A.int u8 0],j1.2.map (eI u8)⟩)],1⟩
def L8(H:Int×(List Int)):Option ((Int×(List Int))⊕(Int×(List Int))):=(if decide (127<H.1)then gd (H.2.length+1<=4294967296)<|some (.inl (H.1.fdiv (2^7),H.2++[nS .or u8 (u8.wrap (nS .and u64 H.1 127)) 128]))else some (.inr (H.1,H.2)))
@[go_sem] def ZP(H:Int×(List Int)):St:=⟨[(1,.int u64 H.1),(5,.own 0 0 H.2.length)],[(0,⟨false,1,[A.int u8 0],H.2.map (eI u8)⟩)],1⟩
def oX(H:List Int)(O:Int):Option (List Int):=gd (0<=0/\0<=(H.length:Int)/\(H.length:Int)<=(H.length:Int)/\(H.length:Int)=(H.length:Int))<|(if decide (127<O)then gd ((H.take (H.length:Int).toNat).length+1<=4294967296)<|(lS L8 (O.fdiv (2^7),H.take (H.length:Int).toNat++[nS .or u8 (u8.wrap (nS .and u64 O 127)) 128])).bind (λ z=>Iq z)else gd ((H.take (H.length:Int).toNat).length+1<=4294967296)<|some (H.take (H.length:Int).toNat++[u8.wrap O]))
def Ar(U:List Int)(Y:Int)(r:(List Int))(h:oX U Y=some r):MFn C 49 [.sl (U.map (eI u8)),.int u64 Y] [] 0 (.own 0 0 r.length) [(0,⟨false,1,[A.int u8 0],r.map (eI u8)⟩)] 1:=by
 refine oR Tryz.f49 [(4,1)] [.own 0 0 r.length] λ E hG hN hK=>?_;unfold oX at h;refine lQ (lR hG ?_);refine lQ ?_;obtain⟨h0,h⟩:=lZ h;refine lR hG ?_;refine lQ ?_;refine QE ZO (λ v=>Iq v=some r) ?_ ?_
 · intro j1 h
   unfold Iq at h;refine g_st ?_;refine lQ ?_;obtain⟨x0,h⟩:=lZ h;refine lR hG ?_;refine lX ?_;exact mQ [(0,1)] h
 refine QF (body:=L8) (kk:=λ z=>Iq z) (r:=r) ZP hK ?_ (λ B h F M H O=>?_)
 · refine lQ (lQ (lR hG ?_))
   refine lU rfl hG h (λ _ h=>?_) (λ _ h=>?_)
   · refine lW ?_
     refine nV (lQ ?_);obtain⟨y0,h⟩:=lZ h;refine lR hG ?_;refine lR hG ?_;exact QJ hK [(0,1)] h
   refine nX ?_;refine .inr ?_;refine lQ ?_;obtain⟨z0,h⟩:=lZ h;refine lR hG ?_;refine lX ?_;exact mQ [(0,1)] h
 unfold L8 at H;refine g_st ?_;refine lQ (lQ (lR hG ?_));refine lU rfl hG H (λ _ H=>?_) (λ _ H=>?_)
 · refine lW ?_
   refine nV (lQ ?_);obtain⟨u0,H⟩:=lZ H;refine lR hG ?_;refine lR hG ?_;exact oL hK [(0,1)] H
 refine nX ?_;cases H;cases O _ rfl;refine .inl ?_;exact mM hK [(0,0)] (F.1,F.2) (by exact h)
instance aVj(H:List Int)(O:Int):OkM (oX H O) 49 [.sl (H.map (eI u8)),.int u64 O] [] 0 (λ r=>.own 0 0 r.length) (λ r=>[(0,⟨false,1,[A.int u8 0],r.map (eI u8)⟩)]) 1:=⟨Ar H O⟩
def Ir(H:aU):Option (Bool×aU):=(if !decide (H.err=0)then some (false,H)else(if decide ((H.b.length:Int)=0)then some (false,{H with err:=5})else gd (0<=0/\0<(H.b.length:Int))<|(if decide (1<H.b.getD 0 0)then some (false,{H with err:=6})else gd (0<=0/\0<(H.b.length:Int))<|gd (0<=1/\1<=(H.b.length:Int)/\(H.b.length:Int)<=(H.b.length:Int))<|some (decide (H.b.getD 0 0=1),{H with b:=(H.b.drop 1)}))))
instance ZQ(H:aU):OkM (Ir H) 73 [.ptr 0 0 0] [(0,bx H)] 1 (λ r=>.bool r.1) (λ r=>[(0,bx r.2)]) 1:=okm (Ir.eq_1 H) (λ r=>[.bool r.1]) Tryz.f73 []
def Rt(j1:Unit):Option Bool:=some true
def Ru(O U:List aO)(H:Int):Option (Int⊕(Unit⊕Bool)):=(if decide (H<O.length)then gd (0<=H/\H<O.length)<|gd (0<=H/\H<U.length)<|(if !decide (O.getD H.toNat aO.zero=U.getD H.toNat aO.zero)then some (.inr (.inr false))else some (.inl (i64.wrap (H+1))))else some (.inr (.inl ())))
def Fl(H O:List aO):Option Bool:=(if !decide ((H.length:Int)=(O.length:Int))then some false else(lS (Ru H O) 0).bind (λ|.inl z=>Rt z|.inr z=>some z))
@[reducible,instance]def aVn a0 a1:=mkJ (Fl a0 a1) 0 (@Rt.eq_1) λ j1=>⟨[],[],0⟩
@[reducible,instance]def aVo (H O:List aO):=mkL x (@Ru.eq_1 H O) λ U=>⟨[(0,la H),(1,la O),(12,.int i64 H.length),(13,.int i64 U)],[],0⟩
instance aVp(H O:List aO):OkP (Fl H O) 79 [la H,la O] .bool:=ok1 (Fl.eq_1 H O) Tryz.f79 []
def l7(H:ByteArray):Bool:=(((((H.toList==(⟨#[97,108,108]⟩:ByteArray).toList)||(H.toList==(⟨#[97,110,121]⟩:ByteArray).toList))||(H.toList==(⟨#[111,102]⟩:ByteArray).toList))||(H.toList==(⟨#[112,114,105,111]⟩:ByteArray).toList))||(H.toList==(⟨#[108,105,109,105,116]⟩:ByteArray).toList))
instance aVq(H:ByteArray):OkT 107 [.str H] (.bool (l7 H)):=ok2 .bool (l7.eq_1 H) Tryz.f107 []
def yI(H:aH):Bool:=((decide (H.kind=1)&&decide (H.aT=1))||((decide (H.kind=2)&&decide (1<=H.aT))&&decide (H.aT<=8)))
instance aVr(H:aH):OkT 199 [.agg (aH.enc H)] (.bool (yI H)):=ok2 .bool (yI.eq_1 H) Tryz.f199 []
def oU(H:aK):Bool:=(((((decide (0<=H.site)&&decide (H.site<4))&&decide (1<=H.inc))&&decide (H.inc<=99))&&decide (1<=H.num))&&decide (H.num<=999))
instance ZR(H:aK):OkT 51 [.agg (aK.enc H)] (.bool (oU H)):=ok2 .bool (oU.eq_1 H) Tryz.f51 []
def nP(H:aC):Bool:=(decide (H={aC.zero with}))
instance ZS(H:aC):OkT 53 [.agg (aC.enc H)] (.bool (nP H)):=ok2 .bool (nP.eq_1 H) Tryz.f53 []
def L9(H:(List aK)):Option (List aK):=some H
def Is(O:aA)(H:Int×(List aK)):Option ((Int×(List aK))⊕(List aK)):=(if decide (H.1<O.aW.length)then gd (0<=H.1/\H.1<O.aW.length)<|gd (H.2.length+1<=4294967296)<|some (.inl (i64.wrap (H.1+1),H.2++[(O.aW.getD H.1.toNat aV.zero).aL]))else some (.inr H.2))
def It(H:aA)(j1:(List aK)):Option (List aK):=(lS (Is H) (0,j1)).bind (λ z=>L9 z)
def Iu(O:aA)(H:Int×(List aK)):Option ((Int×(List aK))⊕(List aK)):=(if decide (H.1<O.aN.length)then gd (0<=H.1/\H.1<O.aN.length)<|gd (H.2.length+1<=4294967296)<|some (.inl (i64.wrap (H.1+1),H.2++[(O.aN.getD H.1.toNat aV.zero).aL]))else some (.inr H.2))
def As(H:aA):Option (List aK):=(lS (Iu H) (0,[])).bind (λ z=>It H z)
@[reducible,instance]def aVy a0 j1:=mkJ (It a0 j1) 2 (@L9.eq_1) λ H=>⟨[(3,.own 0 0 H.length)],[(0,sx H)],1⟩
@[reducible,instance]def aVz (O:aA):=mkL x (@Is.eq_1 O) λ H=>⟨[(1,.ptr 0 0 0),(3,.own 1 0 H.2.length),(5,.int i64 H.1)],[(0,bx O),(1,sx H.2)],2⟩
@[reducible,instance]def aW0 (H:aA):=mkJ (As H) 0 (@It.eq_1 H) λ j1=>⟨[(1,.ptr 0 0 0),(3,.own 1 0 j1.length)],[(0,bx H),(1,sx j1)],2⟩
@[reducible,instance]def aW1 (O:aA):=mkL x (@Iu.eq_1 O) λ H=>⟨[(1,.ptr 0 0 0),(3,.own 1 0 H.2.length),(4,.int i64 H.1)],[(0,bx O),(1,sx H.2)],2⟩
instance aW2(H:aA):OkP (As H) 197 [ga H] la:=ok1 (As.eq_1 H) Tryz.f197 [(3,1)]
def Rv(j1:(List bL)):Option (List bL):=some j1
def Iv(U:ByteArray)(O:List aX)(H:Int×(List bL)):Option ((Int×(List bL))⊕(List bL)):=(if decide (H.1<O.length)then gd (0<=H.1/\H.1<O.length)<|gd (0<=H.1/\H.1<O.length)<|gd (H.2.length+1<=4294967296)<|some (.inl (i64.wrap (H.1+1),H.2++[(⟨1,(O.getD H.1.toNat aX.zero).aL,U,(O.getD H.1.toNat aX.zero).aJ⟩:bL)]))else some (.inr H.2))
def uF(H:ByteArray)(O:List aX):Option (List bL):=(lS (Iv H O) (0,[])).bind (λ z=>Rv z)
@[reducible,instance]def aW5 a0 a1:=mkJ (uF a0 a1) 0 (@Rv.eq_1) λ j1=>⟨[(5,.own 0 0 j1.length)],[(0,sx j1)],1⟩
@[reducible,instance]def aW6 (O:ByteArray) (U:List aX):=mkL x (@Iv.eq_1 O U) λ H=>⟨[(0,.str O),(1,la U),(5,.own 0 0 H.2.length),(6,.int i64 H.1)],[(0,sx H.2)],1⟩
instance ZT(H:ByteArray)(O:List aX):OkP (uF H O) 262 [.str H,la O] la:=ok1 (uF.eq_1 H O) Tryz.f262 [(5,1)]
def uG(U:List aA)(O:List bL)(H:bB):Option (Int×(List aA)×(List aG)×(List bL)):=gd (H.ev.length+O.length<=4294967296)<|some (H.c.now,U,H.c.aD,H.ev++O)
instance ZU(O:List aA)(U:List bL)(H:bB):OkM (uG O U H) 229 [.ptr 0 0 0,la O,la U] [(0,⟨false,4,bB.enc bB.zero,[[.int i64 H.c.now,la H.c.aF,.own 1 0 H.c.aD.length,.own 2 0 H.ev.length]]⟩),(1,sx H.c.aD),(2,sx H.ev)] 3 (λ r=>.tup []) (λ r=>[(0,⟨false,4,bB.enc bB.zero,[[.int i64 r.1,la r.2.1,.own 1 0 r.2.2.1.length,.own 3 0 r.2.2.2.length]]⟩),(1,sx r.2.2.1),(3,sx r.2.2.2)]) 4:=okm (uG.eq_1 O U H) (λ r=>[]) Tryz.f229 []
def At(H:Int)(O:bB):Option (Int×(List aA)×(List aG)×(List bL)):=gd (0<=H/\H<((O.c.aD.length:Nat):Int))<|gd (0<=H/\H<((O.c.aD.length:Nat):Int))<|gd (0<=H/\H<((O.c.aD.length:Nat):Int))<|some (O.c.now,O.c.aF,((O.c.aD.set H.toNat ({(O.c.aD.getD H.toNat aG.zero)with bI:=false})).set H.toNat ({((O.c.aD.set H.toNat ({(O.c.aD.getD H.toNat aG.zero)with bI:=false})).getD H.toNat aG.zero)with bJ:={bO.zero with}})).set H.toNat ({(((O.c.aD.set H.toNat ({(O.c.aD.getD H.toNat aG.zero)with bI:=false})).set H.toNat ({((O.c.aD.set H.toNat ({(O.c.aD.getD H.toNat aG.zero)with bI:=false})).getD H.toNat aG.zero)with bJ:={bO.zero with}})).getD H.toNat aG.zero)with since:=0}),O.ev)
instance aW9(O:Int)(H:bB):OkM (At O H) 231 [.ptr 0 0 0,.int i64 O] [(0,⟨false,4,bB.enc bB.zero,[[.int i64 H.c.now,la H.c.aF,.own 1 0 H.c.aD.length,.own 2 0 H.ev.length]]⟩),(1,sx H.c.aD),(2,sx H.ev)] 3 (λ r=>.tup []) (λ r=>[(0,⟨false,4,bB.enc bB.zero,[[.int i64 r.1,la r.2.1,.own 1 0 r.2.2.1.length,.own 2 0 r.2.2.2.length]]⟩),(1,sx r.2.2.1),(2,sx r.2.2.2)]) 3:=okm (At.eq_1 O H) (λ r=>[]) Tryz.f231 []
def Cy(H:aA):Option aA:=gd (H.aS.length<=4294967296)<|gd (H.aN.length<=4294967296)<|gd (H.aW.length<=4294967296)<|some H
def ZV(H r:aA)(h:Cy H=some r):MFn C 208 [ga H] [] 0 (.agg [.str r.aB.name,.int i64 r.aB.kind,.int i64 r.aB.aT,.int i64 r.aB.home,.own 0 0 r.aS.length,.own 1 0 r.aN.length,.own 2 0 r.aW.length,.int i64 r.gen]) [(0,sx r.aS),(1,sx r.aN),(2,sx r.aW)] 3:=by refine oR Tryz.f208 [(3,1),(8,1),(13,1)] [.agg [.str r.aB.name,.int i64 r.aB.kind,.int i64 r.aB.aT,.int i64 r.aB.home,.own 0 0 r.aS.length,.own 1 0 r.aN.length,.own 2 0 r.aW.length,.int i64 r.gen]] λ E hG B hK=>?_;unfold Cy at h;refine lQ (lR hG ?_);refine lQ ?_;obtain⟨O,h⟩:=lZ h;refine lR hG ?_;refine lQ ?_;obtain⟨U,h⟩:=lZ h;refine lR hG ?_;refine lQ ?_;obtain⟨Y,h⟩:=lZ h;refine lR hG ?_;refine lQ (lR hG ?_);refine lX ?_;exact mQ [(0,3),(1,5),(2,7)] h
def Cz(H:Bool):ByteArray:=(if H then(⟨#[69]⟩:ByteArray)else(⟨#[]⟩:ByteArray))
@[go_sem] def ZW(H:Bool):St:=⟨[(26,.bool H)],[],0⟩
def Fm(H:Int)(O:Bool):ByteArray:=(if O then(⟨#[82]⟩:ByteArray)else(if decide (H=7)then(⟨#[82,87,79]⟩:ByteArray)else(if decide (H=9)then(⟨#[82,87]⟩:ByteArray)else(if decide (H=10)then(⟨#[82,69,80,71,76]⟩:ByteArray)else(if decide (H=11)then(⟨#[82,80,68]⟩:ByteArray)else(if decide (H=12)then(⟨#[69,83]⟩:ByteArray)else(if decide (H=13)then Cz (decide (H=13))else(if decide (H=14)then Cz (decide (H=14))else Cz (decide (H=15))))))))))
@[go_sem] def ZX(H:Int)(O:Bool):St:=⟨[(3,.int i64 H),(13,.bool O)],[],0⟩
def Fn(H:Int)(j1:Bool):ByteArray:=(if j1 then(⟨#[80,71,65]⟩:ByteArray)else(if decide (H=3)then(⟨#[80,71,65,68]⟩:ByteArray)else(if decide (H=5)then(⟨#[83,73]⟩:ByteArray)else(if decide (H=6)then Fm H (decide (H=6))else Fm H (decide (H=8))))))
@[go_sem] def ZY(H:Int)(j1:Bool):St:=⟨[(3,.int i64 H),(6,.bool j1)],[],0⟩
def mR(H:Int):ByteArray:=(if decide (H=1)then(⟨#[80,71,65,89]⟩:ByteArray)else(if decide (H=2)then Fn H (decide (H=2))else Fn H (decide (H=4))))
def ZZ(H:Int):PFn C 25 [.int i64 H] (.str (mR H)):=by
 generalize h:mR H=r;refine oC Tryz.f25 [] λ E hG O hK=>?_;unfold mR at h;refine lQ (lR hG ?_);refine lQ (lQ (lR hG ?_));refine nV (lQ (lR hG ?_));refine lU rfl hG h (λ _ h=>?_) (λ _ h=>?_)
 · refine lQ (lR hG ?_)
   refine lX ?_;exact tD h
 refine lQ (lQ (lR hG ?_));refine rB (ZY H) (λ v=>Fn H v=r) rfl hG h ?_ (λ _ h=>?_) (λ _ h=>?_)
 · intro j1 h
   unfold Fn at h;refine g_st ?_;refine lU rfl hG h (λ _ h=>?_) (λ _ h=>?_)
   · refine lQ (lR hG ?_)
     refine lX ?_;exact tD h
   refine lQ (lR hG ?_);refine lU rfl hG h (λ _ h=>?_) (λ _ h=>?_)
   · refine lQ (lR hG ?_)
     refine lX ?_;exact tD h
   refine lQ (lR hG ?_);refine lU rfl hG h (λ _ h=>?_) (λ _ h=>?_)
   · refine lQ (lR hG ?_)
     refine lX ?_;exact tD h
   refine lQ (lQ (lR hG ?_));refine rB (ZX H) (λ v=>Fm H v=r) rfl hG h ?_ (λ _ h=>?_) (λ _ h=>?_)
   · intro U h
     unfold Fm at h;refine g_st ?_;refine lU rfl hG h (λ _ h=>?_) (λ _ h=>?_)
     · refine lQ (lR hG ?_)
       refine lX ?_;exact tD h
     refine lQ (lR hG ?_);refine lU rfl hG h (λ _ h=>?_) (λ _ h=>?_)
     · refine lQ (lR hG ?_)
       refine lX ?_;exact tD h
     refine lQ (lR hG ?_);refine lU rfl hG h (λ _ h=>?_) (λ _ h=>?_)
     · refine lQ (lR hG ?_)
       refine lX ?_;exact tD h
     refine lQ (lR hG ?_);refine lU rfl hG h (λ _ h=>?_) (λ _ h=>?_)
     · refine lQ (lR hG ?_)
       refine lX ?_;exact tD h
     refine lQ (lR hG ?_);refine lU rfl hG h (λ _ h=>?_) (λ _ h=>?_)
     · refine lQ (lR hG ?_)
       refine lX ?_;exact tD h
     refine lQ (lR hG ?_);refine lU rfl hG h (λ _ h=>?_) (λ _ h=>?_)
     · refine lQ (lR hG ?_)
       refine lX ?_;exact tD h
     refine lQ (lQ (lR hG ?_));refine rB ZW (λ v=>Cz v=r) rfl hG h ?_ (λ _ h=>?_) (λ _ h=>?_)
     · intro Y h
       unfold Cz at h;refine g_st ?_;refine lU rfl hG h (λ _ h=>?_) (λ _ h=>?_)
       · refine lQ (lR hG ?_)
         refine lX ?_;exact tD h
       refine lW ?_;refine lQ (lR hG ?_);refine lX ?_;exact tD h
     · refine lW ?_
       exact mM hK [] (decide (H=13)) (by exact h)
     refine lQ (lR hG ?_);refine lU rfl hG h (λ _ h=>?_) (λ _ h=>?_)
     · refine lW ?_
       exact mM hK [] (decide (H=14)) (by exact h)
     refine lR hG ?_;exact mM hK [] (decide (H=15)) (by exact h)
   · refine lW ?_
     exact mM hK [] (decide (H=6)) (by exact h)
   refine lR hG ?_;exact mM hK [] (decide (H=8)) (by exact h)
 · refine lW ?_
   exact mM hK [] (decide (H=2)) (by exact h)
 refine lR hG ?_;exact mM hK [] (decide (H=4)) (by exact h)
instance aWh(H:Int):OkT 25 [.int i64 H] (.str (mR H)):=⟨ZZ H⟩
def Rw(j1:Unit):Option Bool:=some true
def Rx(O U:List aV)(H:Int):Option (Int⊕(Unit⊕Bool)):=(if decide (H<O.length)then gd (0<=H/\H<O.length)<|gd (0<=H/\H<U.length)<|(if !decide (O.getD H.toNat aV.zero=U.getD H.toNat aV.zero)then some (.inr (.inr false))else some (.inl (i64.wrap (H+1))))else some (.inr (.inl ())))
def l8(H O:List aV):Option Bool:=(if !decide ((H.length:Int)=(O.length:Int))then some false else(lS (Rx H O) 0).bind (λ|.inl z=>Rw z|.inr z=>some z))
@[reducible,instance]def aWk a0 a1:=mkJ (l8 a0 a1) 0 (@Rw.eq_1) λ j1=>⟨[],[],0⟩
@[reducible,instance]def aWl (H O:List aV):=mkL x (@Rx.eq_1 H O) λ U=>⟨[(0,la H),(1,la O),(5,.int i64 U)],[],0⟩
instance aWm(H O:List aV):OkP (l8 H O) 172 [la H,la O] .bool:=ok1 (l8.eq_1 H O) Tryz.f172 []
def Ma(j1:(List aK)):Option (List aK):=some j1
def Fo(O:List aX)(H:Int×(List aK)):Option ((Int×(List aK))⊕(List aK)):=(if decide (H.1<O.length)then gd (0<=H.1/\H.1<O.length)<|gd (H.2.length+1<=4294967296)<|some (.inl (i64.wrap (H.1+1),H.2++[(O.getD H.1.toNat aX.zero).aL]))else some (.inr H.2))
def Fp(H:List aX):Option (List aK):=(lS (Fo H) (0,[])).bind (λ z=>Ma z)
@[reducible,instance]def aWp a0:=mkJ (Fp a0) 0 (@Ma.eq_1) λ j1=>⟨[(3,.own 0 0 j1.length)],[(0,sx j1)],1⟩
@[reducible,instance]def aWq (H:List aX):=mkL x (@Fo.eq_1 H) λ O=>⟨[(3,.own 0 0 O.2.length),(6,la H),(7,.int i64 H.length),(8,.int i64 O.1)],[(0,sx O.2)],1⟩
end
end Ab
end Go.Proofs.YtfmnjkfhahfhgaaGreatDoor
