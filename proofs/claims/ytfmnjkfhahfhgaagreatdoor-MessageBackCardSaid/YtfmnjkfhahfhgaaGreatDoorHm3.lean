import Derived.Test.YtfmnjkfhahfhgaaGreatDoorAuto
namespace Go.Proofs.YtfmnjkfhahfhgaaGreatDoor
namespace Ab
set_option linter.defProp false
open IntKind (i64 u64 u8)
set_option linter.unusedSimpArgs false
set_option linter.unusedVariables false
set_option maxRecDepth 100000
set_option maxHeartbeats 1000000
noncomputable section
variable {T : Type} (x : T)
def Jr(H:List Int):Bool:=(decide ((H.length:Int)<=300))
instance aV1(H:List Int):OkT 6 [.sl (H.map (eI i64))] (.bool (Jr H)):=ok2 .bool (Jr.eq_1 H) Tryz.f6 []
def Sx(j1:Unit):Option aC:=some ({aC.zero with})
def A8(O:List aX)(U:aK)(H:Int):Option (Int⊕(Unit⊕aC)):=(if decide (H<O.length)then gd (0<=H/\H<O.length)<|(if decide ((O.getD H.toNat aX.zero).aM=U)then some (.inr (.inr (O.getD H.toNat aX.zero).aJ))else some (.inl (i64.wrap (H+1))))else some (.inr (.inl ())))
def u6(H:List aX)(O:aK):Option aC:=(lY (A8 H O) 0).bind (λ|.inl z=>Sx z|.inr z=>some z)
@[reducible,instance]def aV3 a0 a1:=mkJ (u6 a0 a1) 0 (@Sx.eq_1) λ j1=>⟨[(4,.ptr 0 0 0)],[(0,bx aC.zero)],1⟩
@[reducible,instance]def aV4 (H:List aX) (O:aK):=mkL x (@A8.eq_1 H O) λ U=>⟨[(3,.ptr 0 0 0),(4,.ptr 1 0 0),(7,la H),(8,.int i64 H.length),(9,.int i64 U)],[(0,bx O),(1,bx aC.zero)],2⟩
instance aV5(H:List aX)(O:aK):OkP (u6 H O) 302 [la H,ga O] ga:=ok1 (u6.eq_1 H O) Tryz.f302 []
def Sy(j1:Unit):Option Int:=some (-1)
def F7(O:List aV)(U:aK)(H:Int):Option (Int⊕(Unit⊕Int)):=(if decide (H<O.length)then gd (0<=H/\H<O.length)<|(if decide ((O.getD H.toNat aV.zero).aM=U)then some (.inr (.inr H))else some (.inl (i64.wrap (H+1))))else some (.inr (.inl ())))
def zS(H:List aV)(O:aK):Option Int:=(lY (F7 H O) 0).bind (λ|.inl z=>Sy z|.inr z=>some z)
@[reducible,instance]def aV8 a0 a1:=mkJ (zS a0 a1) 0 (@Sy.eq_1) λ j1=>⟨[],[],0⟩
@[reducible,instance]def aV9 (H:List aV) (O:aK):=mkL x (@F7.eq_1 H O) λ U=>⟨[(3,.ptr 0 0 0),(7,la H),(8,.int i64 H.length),(9,.int i64 U)],[(0,bx O)],1⟩
instance aVa(H:List aV)(O:aK):OkP (zS H O) 285 [la H,ga O] (λ r=>.int i64 r):=ok1 (zS.eq_1 H O) Tryz.f285 []
def Sz(j1:Int×Int):Option (Int×Int):=some (i64.wrap (j1.1+1),j1.2)
def F8(O:(aS->Int->Int->Option (Int×Int)))(U:aS)(Y:Int)(H:Int×Int×Int):Option ((Int×Int×Int)⊕((Int×Int)⊕(Int×Int))):=(if decide (H.2.1<U.bG.length)then gd (0<=H.2.1/\H.2.1<U.bG.length)<|(O (U.bG.getD H.2.1.toNat aS.zero) (i64.wrap (Y+1)) H.2.2).bind λ v1=>(if decide (v1.1=0)then some (.inr (.inr (0,v1.2)))else some (.inl ((if H.1<v1.1 then v1.1 else H.1),i64.wrap (H.2.1+1),v1.2)))else some (.inr (.inl (H.1,H.2.2))))
def Dn(H:(aS->Int->Int->Option (Int×Int)))(Y:aS)(U O:Int):Option (Int×Int):=(if decide (4<U)||decide (24<i64.wrap (O+1))then some (0,i64.wrap (O+1))else(lY (F8 H Y U) (0,0,i64.wrap (O+1))).bind (λ|.inl z=>Sz z|.inr z=>some z))
def zT:Nat->(aS->Int->Int->Option (Int×Int))
 |0=>λ _ _ _=>none
 |n+1=>Dn (zT n)
def Js(H:aS)(O U:Int):Option (Int×Int):=zT (_root_.SizeOf.sizeOf H+1) H O U
@[reducible,instance]def aVc (H:(aS->Int->Int->Option (Int×Int))) (O:aS) (U Y:Int):=mkJ (Dn H O U Y) 0 (@Sz.eq_1) λ j1=>⟨[(7,.int i64 j1.1)],[(0,⟨false,1,[A.int i64 0],[[A.int i64 j1.2]]⟩)],1⟩
@[reducible,instance]def aVd (H:(aS->Int->Int->Option (Int×Int))) (O:aS) (Y:Int):=mkL x (@F8.eq_1 H O Y) λ U=>⟨[(1,.int i64 Y),(2,.ptr 0 0 0),(7,.int i64 U.1),(25,la O.bG),(26,.int i64 O.bG.length),(27,.int i64 U.2.1)],[(0,⟨false,1,[A.int i64 0],[[A.int i64 U.2.2]]⟩)],1⟩
abbrev Jt(g:(aS->Int->Int->Option (Int×Int))):Prop:=∀(H:aS) (O:Int) (U:Int),OkM (g H O U) 254 [.agg (aS.enc H),.int i64 O,.ptr 0 0 0] [(0,⟨false,1,[A.int i64 0],[[A.int i64 U]]⟩)] 1 (λ r=>.int i64 r.1) (λ r=>[(0,⟨false,1,[A.int i64 0],[[A.int i64 r.2]]⟩)]) 1
theorem aVf(H:(aS->Int->Int->Option (Int×Int)))(hrc:Jt H):Jt (Dn H):=λ O U Y=>okm (Dn.eq_1 H O U Y) (λ r=>[.int i64 r.1]) Tryz.f254 []
theorem aVg:∀n,Jt (zT n):=s6 (λ _ _ _=>⟨λ _ h=>nomatch h⟩) λ n=>aVf _
instance aVh:Jt Js:=λ H O U=>aVg _ H O U
def Ju(j1:Int×(List Int)):Option (List Int):=gd (j1.2.length+1<=4294967296)<|some (j1.2++[u8.wrap j1.1])
@[go_sem] def aVj(j1:Int×(List Int)):St:=⟨[(1,.int u64 j1.1),(5,.own 0 0 j1.2.length)],[(0,⟨false,1,[A.int u8 0],j1.2.map (eI u8)⟩)],1⟩
def Nh(H:Int×(List Int)):Option ((Int×(List Int))⊕(Int×(List Int))):=(if decide (127<H.1)then gd (H.2.length+1<=4294967296)<|some (.inl (H.1.fdiv (2^7),H.2++[oD .or u8 (u8.wrap (oD .and u64 H.1 127)) 128]))else some (.inr (H.1,H.2)))
@[go_sem] def aVl(H:Int×(List Int)):St:=⟨[(1,.int u64 H.1),(5,.own 0 0 H.2.length)],[(0,⟨false,1,[A.int u8 0],H.2.map (eI u8)⟩)],1⟩
def pH(H:List Int)(O:Int):Option (List Int):=gd (0<=0/\0<=(H.length:Int)/\(H.length:Int)<=(H.length:Int)/\(H.length:Int)=(H.length:Int))<|(if decide (127<O)then gd ((H.take (H.length:Int).toNat).length+1<=4294967296)<|(lY Nh (O.fdiv (2^7),H.take (H.length:Int).toNat++[oD .or u8 (u8.wrap (oD .and u64 O 127)) 128])).bind (λ z=>Ju z)else gd ((H.take (H.length:Int).toNat).length+1<=4294967296)<|some (H.take (H.length:Int).toNat++[u8.wrap O]))
def A9(U:List Int)(Y:Int)(r:(List Int))(h:pH U Y=some r):MFn C 49 [.sl (U.map (eI u8)),.int u64 Y] [] 0 (.own 0 0 r.length) [(0,⟨false,1,[A.int u8 0],r.map (eI u8)⟩)] 1:=by
 refine oZ Tryz.f49 [(4,1)] [.own 0 0 r.length] λ E hG hN hK=>?_;unfold pH at h;refine lW (lX hG ?_);refine lW ?_;obtain⟨h0,h⟩:=mH h;refine lX hG ?_;refine lW ?_;refine RK aVj (λ v=>Ju v=some r) ?_ ?_
 · intro j1 h
   unfold Ju at h;refine g_st ?_;refine lW ?_;obtain⟨x0,h⟩:=mH h;refine lX hG ?_;refine mG ?_;exact mW [(0,1)] h
 refine RL (body:=Nh) (kk:=λ z=>Ju z) (r:=r) aVl hK ?_ (λ B h F M H O=>?_)
 · refine lW (lW (lX hG ?_))
   refine mA rfl hG h (λ _ h=>?_) (λ _ h=>?_)
   · refine mE ?_
     refine oG (lW ?_);obtain⟨y0,h⟩:=mH h;refine lX hG ?_;refine lX hG ?_;exact RP hK [(0,1)] h
   refine oI ?_;refine .inr ?_;refine lW ?_;obtain⟨z0,h⟩:=mH h;refine lX hG ?_;refine mG ?_;exact mW [(0,1)] h
 unfold Nh at H;refine g_st ?_;refine lW (lW (lX hG ?_));refine mA rfl hG H (λ _ H=>?_) (λ _ H=>?_)
 · refine mE ?_
   refine oG (lW ?_);obtain⟨u0,H⟩:=mH H;refine lX hG ?_;refine lX hG ?_;exact oU hK [(0,1)] H
 refine oI ?_;cases H;cases O _ rfl;refine .inl ?_;exact mT hK [(0,0)] (F.1,F.2) (by exact h)
instance aVm(H:List Int)(O:Int):OkM (pH H O) 49 [.sl (H.map (eI u8)),.int u64 O] [] 0 (λ r=>.own 0 0 r.length) (λ r=>[(0,⟨false,1,[A.int u8 0],r.map (eI u8)⟩)]) 1:=⟨A9 H O⟩
def u7(H:aR):Option (Bool×aR):=(if !decide (H.err=0)then some (false,H)else(if decide ((H.b.length:Int)=0)then some (false,{H with err:=5})else gd (0<=0/\0<(H.b.length:Int))<|(if decide (1<H.b.getD 0 0)then some (false,{H with err:=6})else gd (0<=0/\0<(H.b.length:Int))<|gd (0<=1/\1<=(H.b.length:Int)/\(H.b.length:Int)<=(H.b.length:Int))<|some (decide (H.b.getD 0 0=1),{H with b:=(H.b.drop 1)}))))
instance aVn(H:aR):OkM (u7 H) 73 [.ptr 0 0 0] [(0,bx H)] 1 (λ r=>.bool r.1) (λ r=>[(0,bx r.2)]) 1:=okm (u7.eq_1 H) (λ r=>[.bool r.1]) Tryz.f73 []
def SA(j1:Unit):Option Bool:=some true
def SB(O U:List aO)(H:Int):Option (Int⊕(Unit⊕Bool)):=(if decide (H<O.length)then gd (0<=H/\H<O.length)<|gd (0<=H/\H<U.length)<|(if !decide (O.getD H.toNat aO.zero=U.getD H.toNat aO.zero)then some (.inr (.inr false))else some (.inl (i64.wrap (H+1))))else some (.inr (.inl ())))
def F9(H O:List aO):Option Bool:=(if !decide ((H.length:Int)=(O.length:Int))then some false else(lY (SB H O) 0).bind (λ|.inl z=>SA z|.inr z=>some z))
@[reducible,instance]def aVq a0 a1:=mkJ (F9 a0 a1) 0 (@SA.eq_1) λ j1=>⟨[],[],0⟩
@[reducible,instance]def aVr (H O:List aO):=mkL x (@SB.eq_1 H O) λ U=>⟨[(0,la H),(1,la O),(12,.int i64 H.length),(13,.int i64 U)],[],0⟩
instance aVs(H O:List aO):OkP (F9 H O) 79 [la H,la O] .bool:=ok1 (F9.eq_1 H O) Tryz.f79 []
def w6(H:ByteArray):Bool:=(((((H.toList==(⟨#[97,108,108]⟩:ByteArray).toList)||(H.toList==(⟨#[97,110,121]⟩:ByteArray).toList))||(H.toList==(⟨#[111,102]⟩:ByteArray).toList))||(H.toList==(⟨#[112,114,105,111]⟩:ByteArray).toList))||(H.toList==(⟨#[108,105,109,105,116]⟩:ByteArray).toList))
instance aVt(H:ByteArray):OkT 107 [.str H] (.bool (w6 H)):=ok2 .bool (w6.eq_1 H) Tryz.f107 []
def zU(H:aI):Bool:=((decide (H.kind=1)&&decide (H.aU=1))||((decide (H.kind=2)&&decide (1<=H.aU))&&decide (H.aU<=8)))
instance aVu(H:aI):OkT 199 [.agg (aI.enc H)] (.bool (zU H)):=ok2 .bool (zU.eq_1 H) Tryz.f199 []
def pC(H:aK):Bool:=(((((decide (0<=H.site)&&decide (H.site<4))&&decide (1<=H.inc))&&decide (H.inc<=99))&&decide (1<=H.num))&&decide (H.num<=999))
instance aVv(H:aK):OkT 51 [.agg (aK.enc H)] (.bool (pC H)):=ok2 .bool (pC.eq_1 H) Tryz.f51 []
def nX(H:aC):Bool:=(decide (H={aC.zero with}))
instance aVw(H:aC):OkT 53 [.agg (aC.enc H)] (.bool (nX H)):=ok2 .bool (nX.eq_1 H) Tryz.f53 []
def Ni(H:(List aK)):Option (List aK):=some H
def Jv(O:aA)(H:Int×(List aK)):Option ((Int×(List aK))⊕(List aK)):=(if decide (H.1<O.aW.length)then gd (0<=H.1/\H.1<O.aW.length)<|gd (H.2.length+1<=4294967296)<|some (.inl (i64.wrap (H.1+1),H.2++[(O.aW.getD H.1.toNat aV.zero).aM]))else some (.inr H.2))
def Jw(H:aA)(j1:(List aK)):Option (List aK):=(lY (Jv H) (0,j1)).bind (λ z=>Ni z)
def Jx(O:aA)(H:Int×(List aK)):Option ((Int×(List aK))⊕(List aK)):=(if decide (H.1<O.aN.length)then gd (0<=H.1/\H.1<O.aN.length)<|gd (H.2.length+1<=4294967296)<|some (.inl (i64.wrap (H.1+1),H.2++[(O.aN.getD H.1.toNat aV.zero).aM]))else some (.inr H.2))
def Ba(H:aA):Option (List aK):=(lY (Jx H) (0,[])).bind (λ z=>Jw H z)
@[reducible,instance]def aW1 a0 j1:=mkJ (Jw a0 j1) 2 (@Ni.eq_1) λ H=>⟨[(3,.own 0 0 H.length)],[(0,sx H)],1⟩
@[reducible,instance]def aW2 (O:aA):=mkL x (@Jv.eq_1 O) λ H=>⟨[(1,.ptr 0 0 0),(3,.own 1 0 H.2.length),(5,.int i64 H.1)],[(0,bx O),(1,sx H.2)],2⟩
@[reducible,instance]def aW3 (H:aA):=mkJ (Ba H) 0 (@Jw.eq_1 H) λ j1=>⟨[(1,.ptr 0 0 0),(3,.own 1 0 j1.length)],[(0,bx H),(1,sx j1)],2⟩
@[reducible,instance]def aW4 (O:aA):=mkL x (@Jx.eq_1 O) λ H=>⟨[(1,.ptr 0 0 0),(3,.own 1 0 H.2.length),(4,.int i64 H.1)],[(0,bx O),(1,sx H.2)],2⟩
instance aW5(H:aA):OkP (Ba H) 197 [ga H] la:=ok1 (Ba.eq_1 H) Tryz.f197 [(3,1)]
def SC(j1:(List bL)):Option (List bL):=some j1
def Jy(U:ByteArray)(O:List aX)(H:Int×(List bL)):Option ((Int×(List bL))⊕(List bL)):=(if decide (H.1<O.length)then gd (0<=H.1/\H.1<O.length)<|gd (0<=H.1/\H.1<O.length)<|gd (H.2.length+1<=4294967296)<|some (.inl (i64.wrap (H.1+1),H.2++[(⟨1,(O.getD H.1.toNat aX.zero).aM,U,(O.getD H.1.toNat aX.zero).aJ⟩:bL)]))else some (.inr H.2))
def vD(H:ByteArray)(O:List aX):Option (List bL):=(lY (Jy H O) (0,[])).bind (λ z=>SC z)
@[reducible,instance]def aW8 a0 a1:=mkJ (vD a0 a1) 0 (@SC.eq_1) λ j1=>⟨[(5,.own 0 0 j1.length)],[(0,sx j1)],1⟩
@[reducible,instance]def aW9 (O:ByteArray) (U:List aX):=mkL x (@Jy.eq_1 O U) λ H=>⟨[(0,.str O),(1,la U),(5,.own 0 0 H.2.length),(6,.int i64 H.1)],[(0,sx H.2)],1⟩
instance aWa(H:ByteArray)(O:List aX):OkP (vD H O) 262 [.str H,la O] la:=ok1 (vD.eq_1 H O) Tryz.f262 [(5,1)]
def vF(U:List aA)(O:List bL)(H:bB):Option (Int×(List aA)×(List aG)×(List bL)):=gd (H.ev.length+O.length<=4294967296)<|some (H.c.now,U,H.c.aD,H.ev++O)
instance aWb(O:List aA)(U:List bL)(H:bB):OkM (vF O U H) 229 [.ptr 0 0 0,la O,la U] [(0,⟨false,4,bB.enc bB.zero,[[.int i64 H.c.now,la H.c.aF,.own 1 0 H.c.aD.length,.own 2 0 H.ev.length]]⟩),(1,sx H.c.aD),(2,sx H.ev)] 3 (λ r=>.tup []) (λ r=>[(0,⟨false,4,bB.enc bB.zero,[[.int i64 r.1,la r.2.1,.own 1 0 r.2.2.1.length,.own 3 0 r.2.2.2.length]]⟩),(1,sx r.2.2.1),(3,sx r.2.2.2)]) 4:=okm (vF.eq_1 O U H) (λ r=>[]) Tryz.f229 []
def Bb(H:Int)(O:bB):Option (Int×(List aA)×(List aG)×(List bL)):=gd (0<=H/\H<((O.c.aD.length:Nat):Int))<|gd (0<=H/\H<((O.c.aD.length:Nat):Int))<|gd (0<=H/\H<((O.c.aD.length:Nat):Int))<|some (O.c.now,O.c.aF,((O.c.aD.set H.toNat ({(O.c.aD.getD H.toNat aG.zero)with bI:=false})).set H.toNat ({((O.c.aD.set H.toNat ({(O.c.aD.getD H.toNat aG.zero)with bI:=false})).getD H.toNat aG.zero)with bJ:={bO.zero with}})).set H.toNat ({(((O.c.aD.set H.toNat ({(O.c.aD.getD H.toNat aG.zero)with bI:=false})).set H.toNat ({((O.c.aD.set H.toNat ({(O.c.aD.getD H.toNat aG.zero)with bI:=false})).getD H.toNat aG.zero)with bJ:={bO.zero with}})).getD H.toNat aG.zero)with since:=0}),O.ev)
instance aWc(O:Int)(H:bB):OkM (Bb O H) 231 [.ptr 0 0 0,.int i64 O] [(0,⟨false,4,bB.enc bB.zero,[[.int i64 H.c.now,la H.c.aF,.own 1 0 H.c.aD.length,.own 2 0 H.ev.length]]⟩),(1,sx H.c.aD),(2,sx H.ev)] 3 (λ r=>.tup []) (λ r=>[(0,⟨false,4,bB.enc bB.zero,[[.int i64 r.1,la r.2.1,.own 1 0 r.2.2.1.length,.own 2 0 r.2.2.2.length]]⟩),(1,sx r.2.2.1),(2,sx r.2.2.2)]) 3:=okm (Bb.eq_1 O H) (λ r=>[]) Tryz.f231 []
def Do(H:aA):Option aA:=gd (H.aT.length<=4294967296)<|gd (H.aN.length<=4294967296)<|gd (H.aW.length<=4294967296)<|some H
def aWd(H r:aA)(h:Do H=some r):MFn C 208 [ga H] [] 0 (.agg [.str r.aB.name,.int i64 r.aB.kind,.int i64 r.aB.aU,.int i64 r.aB.home,.own 0 0 r.aT.length,.own 1 0 r.aN.length,.own 2 0 r.aW.length,.int i64 r.gen]) [(0,sx r.aT),(1,sx r.aN),(2,sx r.aW)] 3:=by refine oZ Tryz.f208 [(3,1),(8,1),(13,1)] [.agg [.str r.aB.name,.int i64 r.aB.kind,.int i64 r.aB.aU,.int i64 r.aB.home,.own 0 0 r.aT.length,.own 1 0 r.aN.length,.own 2 0 r.aW.length,.int i64 r.gen]] λ E hG B hK=>?_;unfold Do at h;refine lW (lX hG ?_);refine lW ?_;obtain⟨O,h⟩:=mH h;refine lX hG ?_;refine lW ?_;obtain⟨U,h⟩:=mH h;refine lX hG ?_;refine lW ?_;obtain⟨Y,h⟩:=mH h;refine lX hG ?_;refine lW (lX hG ?_);refine mG ?_;exact mW [(0,3),(1,5),(2,7)] h
def Dp(H:Bool):ByteArray:=(if H then(⟨#[69]⟩:ByteArray)else(⟨#[]⟩:ByteArray))
@[go_sem] def aWe(H:Bool):St:=⟨[(26,.bool H)],[],0⟩
def Ga(H:Int)(O:Bool):ByteArray:=(if O then(⟨#[82]⟩:ByteArray)else(if decide (H=7)then(⟨#[82,87,79]⟩:ByteArray)else(if decide (H=9)then(⟨#[82,87]⟩:ByteArray)else(if decide (H=10)then(⟨#[82,69,80,71,76]⟩:ByteArray)else(if decide (H=11)then(⟨#[82,80,68]⟩:ByteArray)else(if decide (H=12)then(⟨#[69,83]⟩:ByteArray)else(if decide (H=13)then Dp (decide (H=13))else(if decide (H=14)then Dp (decide (H=14))else Dp (decide (H=15))))))))))
@[go_sem] def aWg(H:Int)(O:Bool):St:=⟨[(3,.int i64 H),(13,.bool O)],[],0⟩
def Gb(H:Int)(j1:Bool):ByteArray:=(if j1 then(⟨#[80,71,65]⟩:ByteArray)else(if decide (H=3)then(⟨#[80,71,65,68]⟩:ByteArray)else(if decide (H=5)then(⟨#[83,73]⟩:ByteArray)else(if decide (H=6)then Ga H (decide (H=6))else Ga H (decide (H=8))))))
@[go_sem] def aWi(H:Int)(j1:Bool):St:=⟨[(3,.int i64 H),(6,.bool j1)],[],0⟩
def mY(H:Int):ByteArray:=(if decide (H=1)then(⟨#[80,71,65,89]⟩:ByteArray)else(if decide (H=2)then Gb H (decide (H=2))else Gb H (decide (H=4))))
def aWj(H:Int):PFn C 25 [.int i64 H] (.str (mY H)):=by
 generalize h:mY H=r;refine oN Tryz.f25 [] λ E hG O hK=>?_;unfold mY at h;refine lW (lX hG ?_);refine lW (lW (lX hG ?_));refine oG (lW (lX hG ?_));refine mA rfl hG h (λ _ h=>?_) (λ _ h=>?_)
 · refine lW (lX hG ?_)
   refine mG ?_;exact uD h
 refine lW (lW (lX hG ?_));refine rN (aWi H) (λ v=>Gb H v=r) rfl hG h ?_ (λ _ h=>?_) (λ _ h=>?_)
 · intro j1 h
   unfold Gb at h;refine g_st ?_;refine mA rfl hG h (λ _ h=>?_) (λ _ h=>?_)
   · refine lW (lX hG ?_)
     refine mG ?_;exact uD h
   refine lW (lX hG ?_);refine mA rfl hG h (λ _ h=>?_) (λ _ h=>?_)
   · refine lW (lX hG ?_)
     refine mG ?_;exact uD h
   refine lW (lX hG ?_);refine mA rfl hG h (λ _ h=>?_) (λ _ h=>?_)
   · refine lW (lX hG ?_)
     refine mG ?_;exact uD h
   refine lW (lW (lX hG ?_));refine rN (aWg H) (λ v=>Ga H v=r) rfl hG h ?_ (λ _ h=>?_) (λ _ h=>?_)
   · intro U h
     unfold Ga at h;refine g_st ?_;refine mA rfl hG h (λ _ h=>?_) (λ _ h=>?_)
     · refine lW (lX hG ?_)
       refine mG ?_;exact uD h
     refine lW (lX hG ?_);refine mA rfl hG h (λ _ h=>?_) (λ _ h=>?_)
     · refine lW (lX hG ?_)
       refine mG ?_;exact uD h
     refine lW (lX hG ?_);refine mA rfl hG h (λ _ h=>?_) (λ _ h=>?_)
     · refine lW (lX hG ?_)
       refine mG ?_;exact uD h
     refine lW (lX hG ?_);refine mA rfl hG h (λ _ h=>?_) (λ _ h=>?_)
     · refine lW (lX hG ?_)
       refine mG ?_;exact uD h
     refine lW (lX hG ?_);refine mA rfl hG h (λ _ h=>?_) (λ _ h=>?_)
     · refine lW (lX hG ?_)
       refine mG ?_;exact uD h
     refine lW (lX hG ?_);refine mA rfl hG h (λ _ h=>?_) (λ _ h=>?_)
     · refine lW (lX hG ?_)
       refine mG ?_;exact uD h
     refine lW (lW (lX hG ?_));refine rN aWe (λ v=>Dp v=r) rfl hG h ?_ (λ _ h=>?_) (λ _ h=>?_)
     · intro Y h
       unfold Dp at h;refine g_st ?_;refine mA rfl hG h (λ _ h=>?_) (λ _ h=>?_)
       · refine lW (lX hG ?_)
         refine mG ?_;exact uD h
       refine mE ?_;refine lW (lX hG ?_);refine mG ?_;exact uD h
     · refine mE ?_
       exact mT hK [] (decide (H=13)) (by exact h)
     refine lW (lX hG ?_);refine mA rfl hG h (λ _ h=>?_) (λ _ h=>?_)
     · refine mE ?_
       exact mT hK [] (decide (H=14)) (by exact h)
     refine lX hG ?_;exact mT hK [] (decide (H=15)) (by exact h)
   · refine mE ?_
     exact mT hK [] (decide (H=6)) (by exact h)
   refine lX hG ?_;exact mT hK [] (decide (H=8)) (by exact h)
 · refine mE ?_
   exact mT hK [] (decide (H=2)) (by exact h)
 refine lX hG ?_;exact mT hK [] (decide (H=4)) (by exact h)
instance aWk(H:Int):OkT 25 [.int i64 H] (.str (mY H)):=⟨aWj H⟩
def SD(j1:Unit):Option Bool:=some true
def SE(O U:List aV)(H:Int):Option (Int⊕(Unit⊕Bool)):=(if decide (H<O.length)then gd (0<=H/\H<O.length)<|gd (0<=H/\H<U.length)<|(if !decide (O.getD H.toNat aV.zero=U.getD H.toNat aV.zero)then some (.inr (.inr false))else some (.inl (i64.wrap (H+1))))else some (.inr (.inl ())))
def w7(H O:List aV):Option Bool:=(if !decide ((H.length:Int)=(O.length:Int))then some false else(lY (SE H O) 0).bind (λ|.inl z=>SD z|.inr z=>some z))
@[reducible,instance]def aWn a0 a1:=mkJ (w7 a0 a1) 0 (@SD.eq_1) λ j1=>⟨[],[],0⟩
@[reducible,instance]def aWo (H O:List aV):=mkL x (@SE.eq_1 H O) λ U=>⟨[(0,la H),(1,la O),(5,.int i64 U)],[],0⟩
instance aWp(H O:List aV):OkP (w7 H O) 172 [la H,la O] .bool:=ok1 (w7.eq_1 H O) Tryz.f172 []
def Nj(j1:(List aK)):Option (List aK):=some j1
def Gc(O:List aX)(H:Int×(List aK)):Option ((Int×(List aK))⊕(List aK)):=(if decide (H.1<O.length)then gd (0<=H.1/\H.1<O.length)<|gd (H.2.length+1<=4294967296)<|some (.inl (i64.wrap (H.1+1),H.2++[(O.getD H.1.toNat aX.zero).aM]))else some (.inr H.2))
def Gd(H:List aX):Option (List aK):=(lY (Gc H) (0,[])).bind (λ z=>Nj z)
@[reducible,instance]def aWs a0:=mkJ (Gd a0) 0 (@Nj.eq_1) λ j1=>⟨[(3,.own 0 0 j1.length)],[(0,sx j1)],1⟩
@[reducible,instance]def aWt (H:List aX):=mkL x (@Gc.eq_1 H) λ O=>⟨[(3,.own 0 0 O.2.length),(6,la H),(7,.int i64 H.length),(8,.int i64 O.1)],[(0,sx O.2)],1⟩
end
end Ab
end Go.Proofs.YtfmnjkfhahfhgaaGreatDoor
