import Derived.Test.YtfmnjkfhahfhgaaGreatDoorAuto
import Derived.Test.YtfmnjkfhahfhgaaGreatDoorHand
import Derived.Test.YtfmnjkfhahfhgaaGreatDoorHm1
import Derived.Test.YtfmnjkfhahfhgaaGreatDoorHm2
import Derived.Test.YtfmnjkfhahfhgaaGreatDoorHm3
namespace Go.Proofs.YtfmnjkfhahfhgaaGreatDoor
namespace Ab
set_option linter.defProp false
open IntKind (i64 u64 u8)
set_option linter.unusedSimpArgs false
set_option linter.unusedVariables false
set_option maxRecDepth 100000
set_option maxHeartbeats 1000000
noncomputable section
variable {T : Type} (x : T)
def yJ:Option (List (Int×bN)):=some (i7 66 (⟨70,(-1),99,1⟩:bN) (i7 73 ({bN.zero with of:=69,low:=1,high:=99}) (i7 83 ({bN.zero with of:=68,high:=3}) (i7 89 ({bN.zero with of:=67,high:=7}) (i7 69 ({bN.zero with of:=66,high:=1073741824}) (i7 82 ({bN.zero with of:=65,high:=1073741824}) (i7 71 ({bN.zero with of:=64,high:=1073741824}) ([]:List (Int×bN)))))))))
instance Fq:OkM yJ 31 [] [] 0 (λ r=>.mp 0) (λ r=>[(0,⟨false,0,[A.int u8 0,A.bool true],r.map (mI u8 bN.enc)⟩)]) 1:=okm yJ.eq_1 (λ r=>[.mp 0]) Tryz.f31 []
def Iw(j1:Unit):Option Int:=some 0
def rH(O U:Arr Int 3)(H:Int):Option (Int⊕(Unit⊕Int)):=(if decide (H<3)then gd (0<=H/\H<3)<|gd (0<=H/\H<3)<|(if decide (Arr.get O H.toNat 0<Arr.get U H.toNat 0)then some (.inr (.inr (-1)))else gd (0<=H/\H<3)<|(if decide (Arr.get U H.toNat 0<Arr.get O H.toNat 0)then some (.inr (.inr 1))else some (.inl (i64.wrap (H+1)))))else some (.inr (.inl ())))
def Au(H O:Arr Int 3):Option Int:=(lS (rH H O) 0).bind (λ|.inl z=>Iw z|.inr z=>some z)
@[reducible,instance]def aWw a0 a1:=mkJ (Au a0 a1) 0 (@Iw.eq_1) λ j1=>⟨[],[],0⟩
@[reducible,instance]def aWx (H O:Arr Int 3):=mkL x (@rH.eq_1 H O) λ U=>⟨[(3,.ptr 0 0 0),(7,.agg (Arr.enc (eI i64) H)),(8,.int i64 U)],[(0,⟨false,3,Arr.enc (eI i64) (Arr.rep 3 0),[Arr.enc (eI i64) O]⟩)],1⟩
instance aWy(H O:Arr Int 3):OkP (Au H O) 223 [.agg (Arr.enc (eI i64) H),.agg (Arr.enc (eI i64) O)] (λ r=>.int i64 r):=ok1 (Au.eq_1 H O) Tryz.f223 []
def Ix(H:Int):Option (List aV):=gd (0<=H/\H<=4294967296) (some [])
def Z3:Lays8.n4 C.P ⟨λ|4=>312|n=>n,λ|22=>145|25=>179|n=>n,λ n=>n⟩ where
 mixed:=oB
 f4:=⟨Tryz.f312.name,by decide,Tryz.func312.trans (eA some (by kernel_rfl))⟩
 t0:=Tryz.underlying0
 a0:=Tryz.isAgg0
 z0:=Tryz.sizeOf0
 v0:=Tryz.zeroValue0
 t3:=Tryz.underlying3
 a3:=Tryz.isAgg3
 z3:=Tryz.sizeOf3
 v3:=Tryz.zeroValue3
 t4:=Tryz.underlying4
 a4:=Tryz.isAgg4
 z4:=Tryz.sizeOf4
 v4:=Tryz.zeroValue4
 t9:=Tryz.underlying9
 a9:=Tryz.isAgg9
 z9:=Tryz.sizeOf9
 v9:=Tryz.zeroValue9
 t20:=Tryz.underlying20
 a20:=Tryz.isAgg20
 z20:=Tryz.sizeOf20
 v20:=Tryz.zeroValue20
 t22:=Tryz.underlying145
 a22:=Tryz.isAgg145
 z22:=Tryz.sizeOf145
 v22:=Tryz.zeroValue145
def Z4(H:Int)(r:List aV)(h:Ix H=some r):MFn C 312 [.full [],.int i64 H] [] 0 (.own 0 0 r.length) [(0,sx r)] 1:=by obtain⟨⟨O,U⟩,h⟩:=lZ h;obtain rfl:=dW h;exact Z2 Z3 (by kernel_rfl) rfl _ H O U
def CA(H:List Int):Option (List Int):=gd (H.length<=4294967296)<|some H
def Z5(O:List Int)(r:(List Int))(h:CA O=some r):MFn C 160 [.sl (O.map (eI u8))] [] 0 (.own 0 0 r.length) [(0,⟨false,1,[A.int u8 0],r.map (eI u8)⟩)] 1:=by
 refine oR Tryz.f160 [(2,1),(2,1),(5,1)] [.own 0 0 r.length] λ E hG Y hK=>?_;unfold CA at h;refine lQ (lR hG ?_);refine lQ (lQ (lR hG ?_));intro b H;cases b
 · try refine g_st ?_
   refine H3 rfl hG ?_;refine lW ?_;refine lQ ?_;obtain⟨U,h⟩:=lZ h;refine lR hG ?_;refine lX ?_;exact mQ [(0,2)] h
 have ha:O=[]:=jV.1 (H rfl);subst ha
 replace h:some []=some r:=by simpa [gd]using h
 try refine g_st ?_
 refine Ag rfl hG ?_;refine lQ (lR hG ?_);refine lX ?_;exact mQ [(0,1)] h
instance aX2(H:List Int):OkM (CA H) 160 [.sl (H.map (eI u8))] [] 0 (λ r=>.own 0 0 r.length) (λ r=>[(0,⟨false,1,[A.int u8 0],r.map (eI u8)⟩)]) 1:=⟨Z5 H⟩
def Rz(j1:Unit):Option Bool:=some true
def RA(O U:List aV)(H:Int):Option (Int⊕(Unit⊕Bool)):=(if decide (H<O.length)then gd (0<=H/\H<O.length)<|gd (0<=H/\H<U.length)<|(if !decide (O.getD H.toNat aV.zero=U.getD H.toNat aV.zero)then some (.inr (.inr false))else some (.inl (i64.wrap (H+1))))else some (.inr (.inl ())))
def CB(H O:List aV):Option Bool:=(if !decide ((H.length:Int)=(O.length:Int))then some false else(lS (RA H O) 0).bind (λ|.inl z=>Rz z|.inr z=>some z))
@[reducible,instance]def aX5 a0 a1:=mkJ (CB a0 a1) 0 (@Rz.eq_1) λ j1=>⟨[],[],0⟩
@[reducible,instance]def aX6 (H O:List aV):=mkL x (@RA.eq_1 H O) λ U=>⟨[(0,la H),(1,la O),(12,.int i64 H.length),(13,.int i64 U)],[],0⟩
instance Z6(H O:List aV):OkP (CB H O) 123 [la H,la O] .bool:=ok1 (CB.eq_1 H O) Tryz.f123 []
def Mc(H O:aV):Bool:=(decide ({H with bS:=0}={O with bS:=0}))
instance aX9(H O:aV):OkT 175 [.agg (aV.enc H),.agg (aV.enc O)] (.bool (Mc H O)):=ok2 .bool (Mc.eq_1 H O) Tryz.f175 []
def RB(j1:Unit):Option Bool:=some true
def RC(O:(aR->aR->Option Bool))(U Y:List aR)(H:Int):Option (Int⊕(Unit⊕Bool)):=(if decide (H<U.length)then gd (0<=H/\H<U.length)<|gd (0<=H/\H<Y.length)<|(O (U.getD H.toNat aR.zero) (Y.getD H.toNat aR.zero)).bind λ v1=>(if !v1 then some (.inr (.inr false))else some (.inl (i64.wrap (H+1))))else some (.inr (.inl ())))
def CC(H:(aR->aR->Option Bool))(O U:List aR):Option Bool:=(if !decide ((O.length:Int)=(U.length:Int))then some false else(lS (RC H O U) 0).bind (λ|.inl z=>RB z|.inr z=>some z))
@[reducible,instance]def aXa (H:(aR->aR->Option Bool)) (O U:List aR):=mkJ (CC H O U) 0 (@RB.eq_1) λ j1=>⟨[],[],0⟩
@[reducible,instance]def aXb (H:(aR->aR->Option Bool)) (O U:List aR):=mkL x (@RC.eq_1 H O U) λ Y=>⟨[(1,la U),(2,.clo 124 []),(15,la O),(16,.int i64 O.length),(17,.int i64 Y)],[],0⟩
def Z7(H:(aR->aR->Option Bool))(hrc:∀(O:aR) (U:aR) (r:Bool),H O U=some r->PFn C 124 [ga O,ga U] (.bool r))(O U:List aR)(r:Bool)(h:CC H O U=some r):MFn C 176 [la O,la U,.clo 124 []] [] 0 (.bool r) [] 0:=by refine oR Tryz.f176 [] [.bool r] λ E hG Y hK=>?_;have hm:Mk (CC H O U):=trivial;unfold CC at h;exact gogo
def l9(H:Int):Bool:=(decide (97<=H)&&decide (H<=122))
instance aXc(H:Int):OkT 106 [.int u8 H] (.bool (l9 H)):=ok2 .bool (l9.eq_1 H) Tryz.f106 []
def Md(j1:Unit):Option Bool:=some false
def Fr(O:List aK)(U:aK)(H:Int):Option (Int⊕(Unit⊕Bool)):=(if decide (H<O.length)then gd (0<=H/\H<O.length)<|(if decide (O.getD H.toNat aK.zero=U)then some (.inr (.inr true))else some (.inl (i64.wrap (H+1))))else some (.inr (.inl ())))
def yK(H:List aK)(O:aK):Option Bool:=(lS (Fr H O) 0).bind (λ|.inl z=>Md z|.inr z=>some z)
@[reducible,instance]def aXf a0 a1:=mkJ (yK a0 a1) 0 (@Md.eq_1) λ j1=>⟨[],[],0⟩
@[reducible,instance]def aXg (H:List aK) (O:aK):=mkL x (@Fr.eq_1 H O) λ U=>⟨[(0,la H),(3,.ptr 0 0 0),(5,.int i64 U)],[(0,bx O)],1⟩
instance aXh(H:List aK)(O:aK):OkP (yK H O) 198 [la H,ga O] .bool:=ok1 (yK.eq_1 H O) Tryz.f198 []
def RD(j1:(List ByteArray)):Option (List ByteArray):=some j1
def Me(H:Int×(List ByteArray))(O:(List ByteArray)):Option ((Int×(List ByteArray))⊕(List ByteArray)):=some (.inl (i64.wrap (H.1+1),O))
def Fs(H:Int×(List ByteArray)):Option ((Int×(List ByteArray))⊕(List ByteArray)):=gd (decide (0<H.1)=true->0<=H.1/\H.1<((H.2.length:Nat):Int))<|gd (decide (0<H.1)=true->0<=i64.wrap (H.1-1)/\i64.wrap (H.1-1)<((H.2.length:Nat):Int))<|(if decide (0<H.1)&&Op.bytesLess (H.2.getD H.1.toNat ⟨#[]⟩).toList (H.2.getD (i64.wrap (H.1-1)).toNat ⟨#[]⟩).toList then gd (0<=H.1/\H.1<((H.2.length:Nat):Int))<|gd (0<=i64.wrap (H.1-1)/\i64.wrap (H.1-1)<((H.2.length:Nat):Int))<|gd (0<=H.1/\H.1<((H.2.length:Nat):Int))<|gd (0<=i64.wrap (H.1-1)/\i64.wrap (H.1-1)<((H.2.length:Nat):Int))<|some (.inl (i64.wrap (H.1-1),(H.2.set H.1.toNat (H.2.getD (i64.wrap (H.1-1)).toNat ⟨#[]⟩)).set (i64.wrap (H.1-1)).toNat (H.2.getD H.1.toNat ⟨#[]⟩)))else some (.inr H.2))
def Ft(O:List bM)(H:Int×(List ByteArray))(U:Bool):Option ((Int×(List ByteArray))⊕(List ByteArray)):=(if U then some (.inl (i64.wrap (H.1+1),H.2))else gd (0<=H.1/\H.1<O.length)<|gd (H.2.length+1<=4294967296)<|(lS Fs (i64.wrap (((H.2.length+1:Nat):Int)-1),H.2++[(O.getD H.1.toNat bM.zero).name])).bind (λ z=>Me H z))
def Fu(U:List bM)(O:Int×(List ByteArray))(H:Bool×Int):Option ((Bool×Int)⊕Bool):=(if decide (H.2<((O.2.length:Nat):Int))then gd ((!H.1)=true->0<=H.2/\H.2<((O.2.length:Nat):Int))<|gd ((!H.1)=true->0<=O.1/\O.1<U.length)<|some (.inl (H.1||((O.2.getD H.2.toNat ⟨#[]⟩).toList==((U.getD O.1.toNat bM.zero).name).toList),i64.wrap (H.2+1)))else some (.inr H.1))
def Fv(O:List bM)(H:Int×(List ByteArray)):Option ((Int×(List ByteArray))⊕(List ByteArray)):=(if decide (H.1<O.length)then(lS (Fu O H) (false,0)).bind (λ z=>Ft O H z)else some (.inr H.2))
def wP(H:List bM):Option (List ByteArray):=(lS (Fv H) (0,[])).bind (λ z=>RD z)
@[reducible,instance]def aXo a0:=mkJ (wP a0) 0 (@RD.eq_1) λ j1=>⟨[(3,.own 0 0 j1.length)],[(0,⟨false,1,[A.str ⟨#[]⟩],j1.map eS⟩)],1⟩
@[reducible,instance]def aXp (O:List bM) (H:Int×(List ByteArray)) j2:=mkJ (Ft O H j2) 4 (@Me.eq_1 H) λ U=>⟨[(0,la O),(3,.own 0 0 U.length),(4,.int i64 H.1)],[(0,⟨false,1,[A.str ⟨#[]⟩],U.map eS⟩)],1⟩
@[reducible,instance]def aXq (O:List bM) (U:Int×(List ByteArray)) j2:=mkL (Ft O U j2) (@Fs.eq_1) λ H=>⟨[(0,la O),(3,.own 0 0 H.2.length),(4,.int i64 U.1),(7,.int i64 H.1)],[(0,⟨false,1,[A.str ⟨#[]⟩],H.2.map eS⟩)],1⟩
@[reducible,instance]def aXr (O:List bM) (H:Int×(List ByteArray)):=mkJ (Fv O H) 2 (@Ft.eq_1 O H) λ U=>⟨[(0,la O),(3,.own 0 0 H.2.length),(4,.int i64 H.1),(5,.bool U)],[(0,⟨false,1,[A.str ⟨#[]⟩],H.2.map eS⟩)],1⟩
@[reducible,instance]def aXs (O:List bM) (H:Int×(List ByteArray)):=mkL x (@Fu.eq_1 O H) λ U=>⟨[(0,la O),(3,.own 0 0 H.2.length),(4,.int i64 H.1),(5,.bool U.1),(6,.int i64 U.2)],[(0,⟨false,1,[A.str ⟨#[]⟩],H.2.map eS⟩)],1⟩
@[reducible,instance]def aXt (O:List bM):=mkL x (@Fv.eq_1 O) λ H=>⟨[(0,la O),(3,.own 0 0 H.2.length),(4,.int i64 H.1)],[(0,⟨false,1,[A.str ⟨#[]⟩],H.2.map eS⟩)],1⟩
instance Z8(H:List bM):OkP (wP H) 154 [la H] (λ r=>.sl (r.map eS)):=ok1 (wP.eq_1 H) Tryz.f154 [(3,1)]
def RE(j1:Unit):Option Int:=some (-1)
def Iy(O:List bV)(U H:Int):Option (Int⊕(Unit⊕Int)):=(if decide (H<O.length)then gd (0<=H/\H<O.length)<|(if decide ((O.getD H.toNat bV.zero).label=U)then some (.inr (.inr H))else some (.inl (i64.wrap (H+1))))else some (.inr (.inl ())))
def yL(H:List bV)(O:Int):Option Int:=(lS (Iy H O) 0).bind (λ|.inl z=>RE z|.inr z=>some z)
@[reducible,instance]def aXx a0 a1:=mkJ (yL a0 a1) 0 (@RE.eq_1) λ j1=>⟨[],[],0⟩
@[reducible,instance]def aXy (H:List bV) (O:Int):=mkL x (@Iy.eq_1 H O) λ U=>⟨[(0,la H),(1,.int i64 O),(5,.int i64 U)],[],0⟩
instance Z9(H:List bV)(O:Int):OkP (yL H O) 155 [la H,.int i64 O] (λ r=>.int i64 r):=ok1 (yL.eq_1 H O) Tryz.f155 []
def RF(j1:Int×Int):Option (Int×Int):=some (j1.1,i64.wrap (j1.2+1))
def Iz(H:Int×Int×Int)(v1:Int×Int)(O:Int):Option ((Int×Int×Int)⊕((Int×Int)⊕(Int×Int))):=(if decide (24<i64.wrap (H.1+v1.1))then some (.inr (.inr (25,0)))else some (.inl (i64.wrap (H.1+v1.1),O,i64.wrap (H.2.2+1))))
def CD(O:(aR->Int->Option (Int×Int)))(U:aR)(Y:Int)(H:Int×Int×Int):Option ((Int×Int×Int)⊕((Int×Int)⊕(Int×Int))):=(if decide (H.2.2<U.bG.length)then gd (0<=H.2.2/\H.2.2<U.bG.length)<|(O (U.bG.getD H.2.2.toNat aR.zero) (i64.wrap (Y+1))).bind λ v1=>(if decide (H.2.1<v1.2)then Iz H v1 v1.2 else Iz H v1 H.2.1)else some (.inr (.inl (H.1,H.2.1))))
def CE(H:(aR->Int->Option (Int×Int)))(O:aR)(U:Int):Option (Int×Int):=(if decide (4<U)||decide (24<(O.bG.length:Int))then some (25,0)else(lS (CD H O U) (1,0,0)).bind (λ|.inl z=>RF z|.inr z=>some z))
def yM:Nat->(aR->Int->Option (Int×Int))
 |0=>λ _ _=>none
 |n+1=>CE (yM n)
def IA(H:aR)(O:Int):Option (Int×Int):=yM (_root_.SizeOf.sizeOf H+1) H O
@[reducible,instance]def aY4 (H:(aR->Int->Option (Int×Int))) (O:aR) (U:Int):=mkJ (CE H O U) 0 (@RF.eq_1) λ j1=>⟨[(6,.int i64 j1.1),(7,.int i64 j1.2)],[],0⟩
@[reducible,instance]def aY5 (O:(aR->Int->Option (Int×Int))) (U:aR) (Y:Int) (H:Int×Int×Int) (v1:Int×Int):=mkJ (CD O U Y H,v1) 999 (@Iz.eq_1 H v1) λ B=>⟨[(1,.int i64 Y),(2,.ptr 0 0 0),(6,.int i64 (i64.wrap (H.1+v1.1))),(7,.int i64 B),(8,.int i64 H.2.2)],[(0,bx U)],1⟩
@[reducible,instance]def aY6 (H:(aR->Int->Option (Int×Int))) (U:aR) (Y:Int):=mkL x (@CD.eq_1 H U Y) λ O=>⟨[(1,.int i64 Y),(2,.ptr 0 0 0),(6,.int i64 O.1),(7,.int i64 O.2.1),(8,.int i64 O.2.2)],[(0,bx U)],1⟩
abbrev IB(g:(aR->Int->Option (Int×Int))):Prop:=∀(H:aR) (O:Int),OkP (g H O) 250 [.agg (aR.enc H),.int i64 O] (λ r=>.tup [.int i64 r.1,.int i64 r.2])
theorem aY8(H:(aR->Int->Option (Int×Int)))(hrc:IB H):IB (CE H):=λ O U=>ok1 (CE.eq_1 H O U) Tryz.f250 []
theorem aY9:∀n,IB (yM n):=j6 (λ _ _=>⟨λ _ h=>nomatch h⟩) λ n=>aY8 _
instance aYa:IB IA:=λ H O=>aY9 _ H O
def RG(j1:(List aH)):Option (List aH):=some j1
def IC(O:List aA)(H:Int×(List aH)):Option ((Int×(List aH))⊕(List aH)):=(if decide (H.1<O.length)then gd (0<=H.1/\H.1<O.length)<|gd (H.2.length+1<=4294967296)<|some (.inl (i64.wrap (H.1+1),H.2++[(O.getD H.1.toNat aA.zero).aB]))else some (.inr H.2))
def m3(H:List aA):Option (List aH):=(lS (IC H) (0,[])).bind (λ z=>RG z)
@[reducible,instance]def aYd a0:=mkJ (m3 a0) 0 (@RG.eq_1) λ j1=>⟨[(3,.own 0 0 j1.length)],[(0,sx j1)],1⟩
@[reducible,instance]def aYe (O:List aA):=mkL x (@IC.eq_1 O) λ H=>⟨[(0,la O),(3,.own 0 0 H.2.length),(4,.int i64 H.1)],[(0,sx H.2)],1⟩
instance aYf(H:List aA):OkP (m3 H) 143 [la H] la:=ok1 (m3.eq_1 H) Tryz.f143 [(3,1)]
def Mf(j1:Unit):Option Bool:=some false
def Fw(Y:aR)(U:List aO)(O:List Bool)(H:Int):Option (Int⊕(Unit⊕Bool)):=(if decide (H<U.length)then gd (0<=H/\H<U.length)<|(if decide (U.getD H.toNat aO.zero=Y.bA)then gd (decide (H<O.length)=true->0<=H/\H<O.length)<|some (.inr (.inr (decide (H<O.length)&&O.getD H.toNat false)))else some (.inl (i64.wrap (H+1))))else some (.inr (.inl ())))
def RH(H:aR)(O:Int):Option Bool:=some (decide (H.k<=O))
def ID(O:(aR->List aO->List Bool->Option Bool))(U:aR)(Y:List aO)(B:List Bool)(H:Int×Int):Option ((Int×Int)⊕Int):=(if decide (H.2<U.bG.length)then gd (0<=H.2/\H.2<U.bG.length)<|(O (U.bG.getD H.2.toNat aR.zero) Y B).bind λ v1=>(if v1 then some (.inl (i64.wrap (H.1+1),i64.wrap (H.2+1)))else some (.inl (H.1,i64.wrap (H.2+1))))else some (.inr H.1))
def Av(O:(aR->List aO->List Bool->Option Bool))(H:aR)(U:List aO)(Y:List Bool):Option Bool:=(if decide (H.k=0)then(lS (Fw H U Y) 0).bind (λ|.inl z=>Mf z|.inr z=>some z)else(lS (ID O H U Y) (0,0)).bind (λ z=>RH H z))
def fr_ref08_holds:Nat->(aR->List aO->List Bool->Option Bool)
 |0=>λ _ _ _=>none
 |n+1=>Av (fr_ref08_holds n)
def f_ref08_holds(H:aR)(O:List aO)(U:List Bool):Option Bool:=fr_ref08_holds (_root_.SizeOf.sizeOf H+1) H O U
@[reducible,instance]def aYk (H:(aR->List aO->List Bool->Option Bool)) (O:aR) (U:List aO) (Y:List Bool):=mkJ (Av H O U Y) 0 (@Mf.eq_1) λ j1=>⟨[],[],0⟩
@[reducible,instance]def aYl (H:aR) (O:List aO) (U:List Bool):=mkL x (@Fw.eq_1 H O U) λ Y=>⟨[(1,la O),(2,.sl (U.map eB)),(3,.ptr 0 0 0),(7,.int i64 Y)],[(0,bx H)],1⟩
@[reducible,instance]def aYm (H:(aR->List aO->List Bool->Option Bool)) (O:aR) (U:List aO) (Y:List Bool):=mkJ (Av H O U Y) 2 (@RH.eq_1 O) λ B=>⟨[(3,.ptr 0 0 0),(8,.int i64 B)],[(0,bx O)],1⟩
@[reducible,instance]def aYn (H:(aR->List aO->List Bool->Option Bool)) (O:aR) (U:List aO) (Y:List Bool):=mkL x (@ID.eq_1 H O U Y) λ B=>⟨[(1,la U),(2,.sl (Y.map eB)),(3,.ptr 0 0 0),(8,.int i64 B.1),(9,.int i64 B.2)],[(0,bx O)],1⟩
abbrev IE(g:(aR->List aO->List Bool->Option Bool)):Prop:=∀(H:aR) (O:List aO) (U:List Bool),OkP (g H O U) 203 [.agg (aR.enc H),.sl (O.map aO.enc),.sl (U.map eB)] (λ r=>.bool r)
theorem aYp(H:(aR->List aO->List Bool->Option Bool))(hrc:IE H):IE (Av H):=λ O U Y=>ok1 (Av.eq_1 H O U Y) Tryz.f203 []
theorem aYq:∀n,IE (fr_ref08_holds n):=j6 (λ _ _ _=>⟨λ _ h=>nomatch h⟩) λ n=>aYp _
instance aYr:IE f_ref08_holds:=λ H O U=>aYq _ H O U
def yN(H:aA):Option aA:=gd (H.aS.length<=4294967296)<|gd (H.aN.length<=4294967296)<|gd (H.aW.length<=4294967296)<|some H
instance aYs(H:aA):OkP (yN H) 208 [ga H] ga:=ok1 (yN.eq_1 H) Tryz.f208 [(3,1),(8,1),(13,1)]
def wQ(H:List aA)(O:Int)(U:aA):Option (List aA):=gd (H.length<=4294967296)<|gd (0<=O/\O<((H.length:Nat):Int))<|some (H.set O.toNat U)
instance aYt(H:List aA)(O:Int)(U:aA):OkP (wQ H O U) 261 [la H,.int i64 O,ga U] la:=ok1 (wQ.eq_1 H O U) Tryz.f261 [(8,1)]
def Mg(H:List ByteArray)(O:ByteArray)(j1:Int):Option (List ByteArray):=gd (decide (j1<H.length)=true->0<=j1/\j1<H.length)<|(if decide (j1<H.length)&&((H.getD j1.toNat ⟨#[]⟩).toList==O.toList)then some H else gd (0<=0/\0<=j1/\j1<=H.length)<|gd ((H.take j1.toNat).length<=4294967296)<|gd ((H.take j1.toNat).length+1<=4294967296)<|gd (0<=j1/\j1<=(H.length:Int)/\(H.length:Int)<=(H.length:Int))<|gd ((H.take j1.toNat).length+1+(H.drop j1.toNat).length<=4294967296)<|some ((H.take j1.toNat++[O])++H.drop j1.toNat))
def IF(O:List ByteArray)(U:ByteArray)(H:Int):Option (Int⊕Int):=gd (decide (H<O.length)=true->0<=H/\H<O.length)<|(if decide (H<O.length)&&Op.bytesLess (O.getD H.toNat ⟨#[]⟩).toList U.toList then some (.inl (i64.wrap (H+1)))else some (.inr H))
def m4(H:List ByteArray)(O:ByteArray):Option (List ByteArray):=(lS (IF H O) 0).bind (λ z=>Mg H O z)
@[reducible,instance]def aYw (H:List ByteArray) (O:ByteArray):=mkJ (m4 H O) 0 (@Mg.eq_1 H O) λ j1=>⟨[(0,.sl (H.map eS)),(1,.str O),(5,.int i64 j1)],[],0⟩
@[reducible,instance]def aYx (H:List ByteArray) (O:ByteArray):=mkL x (@IF.eq_1 H O) λ U=>⟨[(0,.sl (H.map eS)),(1,.str O),(5,.int i64 U)],[],0⟩
instance aYy(H:List ByteArray)(O:ByteArray):OkP (m4 H O) 156 [.sl (H.map eS),.str O] (λ r=>.sl (r.map eS)):=ok1 (m4.eq_1 H O) Tryz.f156 []
def RI(j1:Unit):Option Bool:=some true
def RJ(O U:List aX)(H:Int):Option (Int⊕(Unit⊕Bool)):=(if decide (H<O.length)then gd (0<=H/\H<O.length)<|gd (0<=H/\H<U.length)<|(if !decide (O.getD H.toNat aX.zero=U.getD H.toNat aX.zero)then some (.inr (.inr false))else some (.inl (i64.wrap (H+1))))else some (.inr (.inl ())))
def Aw(H O:List aX):Option Bool:=(if !decide ((H.length:Int)=(O.length:Int))then some false else(lS (RJ H O) 0).bind (λ|.inl z=>RI z|.inr z=>some z))
@[reducible,instance]def aZ1 a0 a1:=mkJ (Aw a0 a1) 0 (@RI.eq_1) λ j1=>⟨[],[],0⟩
@[reducible,instance]def aZ2 (H O:List aX):=mkL x (@RJ.eq_1 H O) λ U=>⟨[(0,la H),(1,la O),(5,.int i64 U)],[],0⟩
instance aZ3(H O:List aX):OkP (Aw H O) 171 [la H,la O] .bool:=ok1 (Aw.eq_1 H O) Tryz.f171 []
def Fx(H:Int):Bool:=(decide (0<=H)&&decide (H<=1073741824))
instance aZ5(H:Int):OkT 52 [.int i64 H] (.bool (Fx H)):=ok2 .bool (Fx.eq_1 H) Tryz.f52 []
def CF(O H:Int):Option Bool:=gd ((qQ O&&qQ H)=true->0<=H/\H<6)<|some ((qQ O&&qQ H)&&Arr.get (L1 O) H.toNat false)
instance aZ6(H O:Int):OkP (CF H O) 303 [.int i64 H,.int i64 O] .bool:=ok1 (CF.eq_1 H O) Tryz.f303 []
def CG(H:aR):Option Int:=(Io H 1 0).bind λ v1=>some v1.1
instance aZ7(H:aR):OkP (CG H) 221 [ga H] (λ r=>.int i64 r):=ok1 (CG.eq_1 H) Tryz.f221 []
def Mh(H:(List aV)):Option (List aV):=some H
@[go_sem] def aZ8(H:(List aV)):St:=⟨[(6,.own 0 0 H.length)],[(0,sx H)],1⟩
def m6(O:List (List aV))(H:Int×(List aV)):Option ((Int×(List aV))⊕(List aV)):=(if decide (H.1<O.length)then gd (0<=H.1/\H.1<O.length)<|gd (H.2.length+(O.getD H.1.toNat []).length<=4294967296)<|some (.inl (i64.wrap (H.1+1),H.2++O.getD H.1.toNat []))else some (.inr H.2))
@[go_sem] def aZ9(O:List (List aV))(H:Int×(List aV)):St:=⟨[(6,.own 0 0 H.2.length),(25,.sl (O.map (eL aV.enc))),(26,.int i64 O.length),(27,.int i64 H.1)],[(0,sx H.2)],1⟩
def IG(H:List (List aV))(j1:Int):Option (List aV):=(Ix j1).bind λ v1=>(lS (m6 H) (0,v1)).bind (λ z=>Mh z)
@[go_sem] def aZa(H:List (List aV))(j1:Int):St:=⟨[(0,.sl (H.map (eL aV.enc))),(3,.int i64 j1)],[],0⟩
def m7(O:List (List aV))(H:Int×Int):Option ((Int×Int)⊕Int):=(if decide (H.2<O.length)then gd (0<=H.2/\H.2<O.length)<|(if decide (i64.wrap (H.1+((O.getD H.2.toNat []).length:Int))<0)then none else some (.inl (i64.wrap (H.1+((O.getD H.2.toNat []).length:Int)),i64.wrap (H.2+1))))else some (.inr H.1))
@[go_sem] def aZb(H:List (List aV))(O:Int×Int):St:=⟨[(0,.sl (H.map (eL aV.enc))),(3,.int i64 O.1),(9,.sl (H.map (eL aV.enc))),(10,.int i64 H.length),(11,.int i64 O.2)],[],0⟩
def Ax(H:List (List aV)):Option (List aV):=(lS (m7 H) (0,0)).bind (λ z=>IG H z)
def aZc(B:List (List aV))(r:(List aV))(h:Ax B=some r):PFn C 305 [.sl (B.map (eL aV.enc))] (la r):=by
 refine oC Tryz.f305 [] λ E hG hN hK=>?_;unfold Ax at h;refine lQ (lR hG ?_);refine lQ (lR hG ?_);refine lQ (lQ (lR hG ?_));refine pL (aZa B) (λ v=>IG B v=some r) ?_ ?_
 · intro j1 h
   unfold IG at h;refine g_st ?_;refine lQ (lR hG ?_);obtain⟨v1,F,h⟩:=lT h;refine mH [] [(0,0)] [0] (Z4 _ _ F) rfl rfl ?_;refine lQ (lQ (lR hG ?_));refine pL aZ8 (λ v=>Mh v=some r) ?_ ?_
   · intro j2 h
     unfold Mh at h;refine g_st ?_;refine lQ (lR hG ?_);refine lX ?_;exact nF h
   refine pX (aZ9 B) hK [(0,0)] h (λ M h g1 h0 O U=>?_);unfold m6 at O;refine g_st ?_;refine lQ (lR hG ?_);refine lQ ?_;refine lU rfl hG O (λ _ O=>?_) (λ _ O=>?_)
   · refine lW ?_
     refine lQ (nV (lQ ?_));obtain⟨z0,O⟩:=lZ O;refine lR hG ?_;obtain⟨u0,O⟩:=lZ O;refine lR hG ?_;refine lR hG ?_;exact oL hK [(0,1)] O
   refine nX ?_;cases O;cases U _ rfl;exact mM hK [(0,0)] g1.2 (by exact h)
 refine pX (aZb B) hK [] h (λ x0 h g2 y0 H Y=>?_);unfold m7 at H;refine g_st ?_;refine lQ (lR hG ?_);refine lQ ?_;refine lU rfl hG H (λ _ H=>?_) (λ _ H=>?_)
 · refine lW ?_
   refine lQ (nV (lQ ?_));obtain⟨v0,H⟩:=lZ H;refine lR hG ?_;refine lQ (lR hG ?_);refine lQ (lR hG ?_);refine lU rfl hG H (λ _ H=>?_) (λ _ H=>?_)
   .exact Zm H
   refine lW ?_;refine lR hG ?_;exact oL hK [] H
 refine nX ?_;cases H;cases Y _ rfl;exact mM hK [] g2.1 (by exact h)
instance aZd(H:List (List aV)):OkP (Ax H) 305 [.sl (H.map (eL aV.enc))] la:=⟨aZc H⟩
def m8(O U:Int)(H:aU):Option (Int×aU):=(if !decide (H.err=0)then some (0,H)else(uE H.b).bind λ v1=>(if !decide (v1.2.2=0)then some (0,{H with err:=v1.2.2})else gd (0<=v1.2.1/\v1.2.1<=(H.b.length:Int)/\(H.b.length:Int)<=(H.b.length:Int))<|(if decide (O<v1.1)then some (0,{{H with b:=(H.b.drop v1.2.1.toNat)}with err:=U})else some (i64.wrap v1.1,{H with b:=(H.b.drop v1.2.1.toNat)}))))
instance RK(H O:Int)(U:aU):OkM (m8 H O U) 29 [.ptr 0 0 0,.int u64 H,.int i64 O] [(0,bx U)] 1 (λ r=>.int i64 r.1) (λ r=>[(0,bx r.2)]) 1:=okm (m8.eq_1 H O U) (λ r=>[.int i64 r.1]) Tryz.f29 []
def Mi(H:bE)(v1:Int×Int×Int)(j1:Int):Option (Int×bE):=(if !decide (j1=0)then some (0,{H with bR:={H.bR with err:=j1}})else gd (0<=v1.2.1/\v1.2.1<=(H.bR.rest.length:Int)/\(H.bR.rest.length:Int)<=(H.bR.rest.length:Int))<|some (i64.wrap v1.1,{H with bR:={H.bR with rest:=(H.bR.rest.drop v1.2.1.toNat)}}))
def CH(O U:Int)(H:bE):Option (Int×bE):=(if !decide (H.bR.err=0)then some (0,H)else(uE H.bR.rest).bind λ v1=>(if decide (v1.2.2=0)&&decide (u64.wrap O<v1.1)then Mi H v1 U else Mi H v1 v1.2.2))
@[reducible,instance]def aZf a0 a1 (H:bE) (v1:Int×Int×Int):=mkJ (CH a0 a1 H,v1) 999 (@Mi.eq_1 H v1) λ j1=>⟨[(0,.ptr 0 0 0),(7,.int u64 v1.1),(8,.int i64 v1.2.1),(9,.int i64 j1)],[(0,bx H)],1⟩
instance aZg(H O:Int)(U:bE):OkM (CH H O U) 217 [.ptr 0 0 0,.int i64 H,.int i64 O] [(0,bx U)] 1 (λ r=>.int i64 r.1) (λ r=>[(0,bx r.2)]) 1:=okm (CH.eq_1 H O U) (λ r=>[.int i64 r.1]) Tryz.f217 []
def m9(H:Int):Option aK:=(uD H 8).bind λ v1=>some (⟨v1.tmod 4,1,i64.wrap (1+i64.wrap (v1.tdiv 4))⟩:aK)
instance aZh(H:Int):OkP (m9 H) 18 [.int i64 H] ga:=ok1 (m9.eq_1 H) Tryz.f18 []
def tH(H:aA)(O:aK):Option (aC×Bool):=(vF H.aN O).bind λ v1=>(if decide (0<=v1)then gd (0<=v1/\v1<H.aN.length)<|some ((H.aN.getD v1.toNat aV.zero).aJ,true)else(vF H.aW O).bind λ v2=>(if decide (0<=v2)then gd (0<=v2/\v2<H.aW.length)<|some ((H.aW.getD v2.toNat aV.zero).aJ,true)else some ({aC.zero with},false)))
instance aZi(H:aA)(O:aK):OkP (tH H O) 201 [ga H,ga O] (λ r=>.tup [ga r.1,.bool r.2]):=ok1 (tH.eq_1 H O) Tryz.f201 []
def Fy(H O:aQ):Option Bool:=(if (decide (H.aL=O.aL)&&decide (H.label=O.label))&&decide (H.cost=O.cost)then wM H.lower O.lower else some false).bind λ v1=>some (((decide (H.aL=O.aL)&&decide (H.label=O.label))&&decide (H.cost=O.cost))&&v1)
instance aZj(H O:aQ):OkP (Fy H O) 78 [ga H,ga O] .bool:=ok1 (Fy.eq_1 H O) Tryz.f78 []
def qE(H:List Int)(O:Int):Option (List Int):=(sF H (u64.wrap O)).bind λ v1=>some v1
instance aZk(H:List Int)(O:Int):OkP (qE H O) 112 [.sl (H.map (eI u8)),.int i64 O] (λ r=>.sl (r.map (eI u8))):=ok1 (qE.eq_1 H O) Tryz.f112 [(8,1)]
def Ay(O:List Int)(H:ByteArray):Option (List Int):=(pG O (u64.wrap (H.size:Int))).bind λ v1=>gd (v1.length+H.toList.length<=4294967296)<|some (v1++(H.toList.map λ b=>(b.toNat:Int)))
instance aZl(H:List Int)(O:ByteArray):OkP (Ay H O) 60 [.sl (H.map (eI u8)),.str O] (λ r=>.sl (r.map (eI u8))):=ok1 (Ay.eq_1 H O) Tryz.f60 []
def yO(O:List Int)(H:aK):Option (List Int):=(if !(oU H)then gd (O.length<=4294967296)<|some O else(sF O (u64.wrap H.site)).bind λ v1=>(sF v1 (u64.wrap H.inc)).bind λ v2=>(sF v2 (u64.wrap H.num)).bind λ v3=>some v3)
instance aZm(H:List Int)(O:aK):OkP (yO H O) 59 [.sl (H.map (eI u8)),ga O] (λ r=>.sl (r.map (eI u8))):=ok1 (yO.eq_1 H O) Tryz.f59 [(8,1),(15,1),(19,1),(23,1)]
end
end Ab
end Go.Proofs.YtfmnjkfhahfhgaaGreatDoor
