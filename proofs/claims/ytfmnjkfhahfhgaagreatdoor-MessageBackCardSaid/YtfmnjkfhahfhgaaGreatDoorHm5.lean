import Derived.Test.YtfmnjkfhahfhgaaGreatDoorAuto
import Derived.Test.YtfmnjkfhahfhgaaGreatDoorHand
import Derived.Test.YtfmnjkfhahfhgaaGreatDoorHm1
import Derived.Test.YtfmnjkfhahfhgaaGreatDoorHm2
import Derived.Test.YtfmnjkfhahfhgaaGreatDoorHm3
namespace Go.Proofs.YtfmnjkfhahfhgaaGreatDoor
namespace Ab
set_option linter.defProp false
open IntKind (i64 u64 u8)
set_option linter.unusedSimpArgs false
set_option linter.unusedVariables false
set_option maxRecDepth 100000
set_option maxHeartbeats 1000000
noncomputable section
variable {T : Type} (x : T)
def zV:Option (List (Int×bM)):=some (r8 66 (⟨70,(-1),99,1⟩:bM) (r8 73 ({bM.zero with of:=69,low:=1,high:=99}) (r8 83 ({bM.zero with of:=68,high:=3}) (r8 89 ({bM.zero with of:=67,high:=7}) (r8 69 ({bM.zero with of:=66,high:=1073741824}) (r8 82 ({bM.zero with of:=65,high:=1073741824}) (r8 71 ({bM.zero with of:=64,high:=1073741824}) ([]:List (Int×bM)))))))))
instance Ge:OkM zV 31 [] [] 0 (λ r=>.mp 0) (λ r=>[(0,⟨false,0,[A.int u8 0,A.bool true],r.map (mI u8 bM.enc)⟩)]) 1:=okm zV.eq_1 (λ r=>[.mp 0]) Tryz.f31 []
def Jz(j1:Unit):Option Int:=some 0
def rX(O U:Arr Int 3)(H:Int):Option (Int⊕(Unit⊕Int)):=(if decide (H<3)then gd (0<=H/\H<3)<|gd (0<=H/\H<3)<|(if decide (Arr.get O H.toNat 0<Arr.get U H.toNat 0)then some (.inr (.inr (-1)))else gd (0<=H/\H<3)<|(if decide (Arr.get U H.toNat 0<Arr.get O H.toNat 0)then some (.inr (.inr 1))else some (.inl (i64.wrap (H+1)))))else some (.inr (.inl ())))
def Bc(H O:Arr Int 3):Option Int:=(lY (rX H O) 0).bind (λ|.inl z=>Jz z|.inr z=>some z)
@[reducible,instance]def aWz a0 a1:=mkJ (Bc a0 a1) 0 (@Jz.eq_1) λ j1=>⟨[],[],0⟩
@[reducible,instance]def aX0 (H O:Arr Int 3):=mkL x (@rX.eq_1 H O) λ U=>⟨[(3,.ptr 0 0 0),(7,.agg (Arr.enc (eI i64) H)),(8,.int i64 U)],[(0,⟨false,3,Arr.enc (eI i64) (Arr.rep 3 0),[Arr.enc (eI i64) O]⟩)],1⟩
instance aX1(H O:Arr Int 3):OkP (Bc H O) 223 [.agg (Arr.enc (eI i64) H),.agg (Arr.enc (eI i64) O)] (λ r=>.int i64 r):=ok1 (Bc.eq_1 H O) Tryz.f223 []
def JA(H:Int):Option (List aV):=gd (0<=H/\H<=4294967296) (some [])
def aX2:Lays8.n4 C.P ⟨λ|4=>312|n=>n,λ|22=>145|25=>179|n=>n,λ n=>n⟩ where
 mixed:=oL
 f4:=⟨Tryz.f312.name,by decide,Tryz.func312.trans (dZ some (by kernel_rfl))⟩
 t0:=Tryz.underlying0
 a0:=Tryz.isAgg0
 z0:=Tryz.sizeOf0
 v0:=Tryz.zeroValue0
 t3:=Tryz.underlying3
 a3:=Tryz.isAgg3
 z3:=Tryz.sizeOf3
 v3:=Tryz.zeroValue3
 t4:=Tryz.underlying4
 a4:=Tryz.isAgg4
 z4:=Tryz.sizeOf4
 v4:=Tryz.zeroValue4
 t9:=Tryz.underlying9
 a9:=Tryz.isAgg9
 z9:=Tryz.sizeOf9
 v9:=Tryz.zeroValue9
 t20:=Tryz.underlying20
 a20:=Tryz.isAgg20
 z20:=Tryz.sizeOf20
 v20:=Tryz.zeroValue20
 t22:=Tryz.underlying145
 a22:=Tryz.isAgg145
 z22:=Tryz.sizeOf145
 v22:=Tryz.zeroValue145
def aX3(H:Int)(r:List aV)(h:JA H=some r):MFn C 312 [.full [],.int i64 H] [] 0 (.own 0 0 r.length) [(0,sx r)] 1:=by obtain⟨⟨O,U⟩,h⟩:=mH h;obtain rfl:=dY h;exact aWx aX2 (by kernel_rfl) rfl _ H O U
def Dq(H:List Int):Option (List Int):=gd (H.length<=4294967296)<|some H
def aX4(O:List Int)(r:(List Int))(h:Dq O=some r):MFn C 160 [.sl (O.map (eI u8))] [] 0 (.own 0 0 r.length) [(0,⟨false,1,[A.int u8 0],r.map (eI u8)⟩)] 1:=by
 refine oZ Tryz.f160 [(2,1),(2,1),(5,1)] [.own 0 0 r.length] λ E hG Y hK=>?_;unfold Dq at h;refine lW (lX hG ?_);refine lW (lW (lX hG ?_));intro b H;cases b
 · try refine g_st ?_
   refine I8 rfl hG ?_;refine mE ?_;refine lW ?_;obtain⟨U,h⟩:=mH h;refine lX hG ?_;refine mG ?_;exact mW [(0,2)] h
 have ha:O=[]:=kA.1 (H rfl);subst ha
 replace h:some []=some r:=by simpa [gd]using h
 try refine g_st ?_
 refine AY rfl hG ?_;refine lW (lX hG ?_);refine mG ?_;exact mW [(0,1)] h
instance aX5(H:List Int):OkM (Dq H) 160 [.sl (H.map (eI u8))] [] 0 (λ r=>.own 0 0 r.length) (λ r=>[(0,⟨false,1,[A.int u8 0],r.map (eI u8)⟩)]) 1:=⟨aX4 H⟩
def SG(j1:Unit):Option Bool:=some true
def SH(O U:List aV)(H:Int):Option (Int⊕(Unit⊕Bool)):=(if decide (H<O.length)then gd (0<=H/\H<O.length)<|gd (0<=H/\H<U.length)<|(if !decide (O.getD H.toNat aV.zero=U.getD H.toNat aV.zero)then some (.inr (.inr false))else some (.inl (i64.wrap (H+1))))else some (.inr (.inl ())))
def Dr(H O:List aV):Option Bool:=(if !decide ((H.length:Int)=(O.length:Int))then some false else(lY (SH H O) 0).bind (λ|.inl z=>SG z|.inr z=>some z))
@[reducible,instance]def aX8 a0 a1:=mkJ (Dr a0 a1) 0 (@SG.eq_1) λ j1=>⟨[],[],0⟩
@[reducible,instance]def aX9 (H O:List aV):=mkL x (@SH.eq_1 H O) λ U=>⟨[(0,la H),(1,la O),(12,.int i64 H.length),(13,.int i64 U)],[],0⟩
instance aXa(H O:List aV):OkP (Dr H O) 123 [la H,la O] .bool:=ok1 (Dr.eq_1 H O) Tryz.f123 []
def Nk(H O:aV):Bool:=(decide ({H with bS:=0}={O with bS:=0}))
instance aXc(H O:aV):OkT 175 [.agg (aV.enc H),.agg (aV.enc O)] (.bool (Nk H O)):=ok2 .bool (Nk.eq_1 H O) Tryz.f175 []
def SI(j1:Unit):Option Bool:=some true
def SJ(O:(aS->aS->Option Bool))(U Y:List aS)(H:Int):Option (Int⊕(Unit⊕Bool)):=(if decide (H<U.length)then gd (0<=H/\H<U.length)<|gd (0<=H/\H<Y.length)<|(O (U.getD H.toNat aS.zero) (Y.getD H.toNat aS.zero)).bind λ v1=>(if !v1 then some (.inr (.inr false))else some (.inl (i64.wrap (H+1))))else some (.inr (.inl ())))
def Ds(H:(aS->aS->Option Bool))(O U:List aS):Option Bool:=(if !decide ((O.length:Int)=(U.length:Int))then some false else(lY (SJ H O U) 0).bind (λ|.inl z=>SI z|.inr z=>some z))
@[reducible,instance]def aXd (H:(aS->aS->Option Bool)) (O U:List aS):=mkJ (Ds H O U) 0 (@SI.eq_1) λ j1=>⟨[],[],0⟩
@[reducible,instance]def aXe (H:(aS->aS->Option Bool)) (O U:List aS):=mkL x (@SJ.eq_1 H O U) λ Y=>⟨[(1,la U),(2,.clo 124 []),(15,la O),(16,.int i64 O.length),(17,.int i64 Y)],[],0⟩
def zV2(H:(aS->aS->Option Bool))(hrc:∀(O:aS) (U:aS) (r:Bool),H O U=some r->PFn C 124 [ga O,ga U] (.bool r))(O U:List aS)(r:Bool)(h:Ds H O U=some r):MFn C 176 [la O,la U,.clo 124 []] [] 0 (.bool r) [] 0:=by refine oZ Tryz.f176 [] [.bool r] λ E hG Y hK=>?_;have hm:Mk (Ds H O U):=trivial;unfold Ds at h;exact gogo
def w9(H:Int):Bool:=(decide (97<=H)&&decide (H<=122))
instance aXf(H:Int):OkT 106 [.int u8 H] (.bool (w9 H)):=ok2 .bool (w9.eq_1 H) Tryz.f106 []
def Nl(j1:Unit):Option Bool:=some false
def Gf(O:List aK)(U:aK)(H:Int):Option (Int⊕(Unit⊕Bool)):=(if decide (H<O.length)then gd (0<=H/\H<O.length)<|(if decide (O.getD H.toNat aK.zero=U)then some (.inr (.inr true))else some (.inl (i64.wrap (H+1))))else some (.inr (.inl ())))
def zW(H:List aK)(O:aK):Option Bool:=(lY (Gf H O) 0).bind (λ|.inl z=>Nl z|.inr z=>some z)
@[reducible,instance]def aXi a0 a1:=mkJ (zW a0 a1) 0 (@Nl.eq_1) λ j1=>⟨[],[],0⟩
@[reducible,instance]def aXj (H:List aK) (O:aK):=mkL x (@Gf.eq_1 H O) λ U=>⟨[(0,la H),(3,.ptr 0 0 0),(5,.int i64 U)],[(0,bx O)],1⟩
instance aXk(H:List aK)(O:aK):OkP (zW H O) 198 [la H,ga O] .bool:=ok1 (zW.eq_1 H O) Tryz.f198 []
def SK(j1:(List ByteArray)):Option (List ByteArray):=some j1
def Nm(H:Int×(List ByteArray))(O:(List ByteArray)):Option ((Int×(List ByteArray))⊕(List ByteArray)):=some (.inl (i64.wrap (H.1+1),O))
def Gg(H:Int×(List ByteArray)):Option ((Int×(List ByteArray))⊕(List ByteArray)):=gd (decide (0<H.1)=true->0<=H.1/\H.1<((H.2.length:Nat):Int))<|gd (decide (0<H.1)=true->0<=i64.wrap (H.1-1)/\i64.wrap (H.1-1)<((H.2.length:Nat):Int))<|(if decide (0<H.1)&&Op.bytesLess (H.2.getD H.1.toNat ⟨#[]⟩).toList (H.2.getD (i64.wrap (H.1-1)).toNat ⟨#[]⟩).toList then gd (0<=H.1/\H.1<((H.2.length:Nat):Int))<|gd (0<=i64.wrap (H.1-1)/\i64.wrap (H.1-1)<((H.2.length:Nat):Int))<|gd (0<=H.1/\H.1<((H.2.length:Nat):Int))<|gd (0<=i64.wrap (H.1-1)/\i64.wrap (H.1-1)<((H.2.length:Nat):Int))<|some (.inl (i64.wrap (H.1-1),(H.2.set H.1.toNat (H.2.getD (i64.wrap (H.1-1)).toNat ⟨#[]⟩)).set (i64.wrap (H.1-1)).toNat (H.2.getD H.1.toNat ⟨#[]⟩)))else some (.inr H.2))
def Gi(O:List bN)(H:Int×(List ByteArray))(U:Bool):Option ((Int×(List ByteArray))⊕(List ByteArray)):=(if U then some (.inl (i64.wrap (H.1+1),H.2))else gd (0<=H.1/\H.1<O.length)<|gd (H.2.length+1<=4294967296)<|(lY Gg (i64.wrap (((H.2.length+1:Nat):Int)-1),H.2++[(O.getD H.1.toNat bN.zero).name])).bind (λ z=>Nm H z))
def Gj(U:List bN)(O:Int×(List ByteArray))(H:Bool×Int):Option ((Bool×Int)⊕Bool):=(if decide (H.2<((O.2.length:Nat):Int))then gd ((!H.1)=true->0<=H.2/\H.2<((O.2.length:Nat):Int))<|gd ((!H.1)=true->0<=O.1/\O.1<U.length)<|some (.inl (H.1||((O.2.getD H.2.toNat ⟨#[]⟩).toList==((U.getD O.1.toNat bN.zero).name).toList),i64.wrap (H.2+1)))else some (.inr H.1))
def Gk(O:List bN)(H:Int×(List ByteArray)):Option ((Int×(List ByteArray))⊕(List ByteArray)):=(if decide (H.1<O.length)then(lY (Gj O H) (false,0)).bind (λ z=>Gi O H z)else some (.inr H.2))
def xR(H:List bN):Option (List ByteArray):=(lY (Gk H) (0,[])).bind (λ z=>SK z)
@[reducible,instance]def aXr a0:=mkJ (xR a0) 0 (@SK.eq_1) λ j1=>⟨[(3,.own 0 0 j1.length)],[(0,⟨false,1,[A.str ⟨#[]⟩],j1.map eS⟩)],1⟩
@[reducible,instance]def aXs (O:List bN) (H:Int×(List ByteArray)) j2:=mkJ (Gi O H j2) 4 (@Nm.eq_1 H) λ U=>⟨[(0,la O),(3,.own 0 0 U.length),(4,.int i64 H.1)],[(0,⟨false,1,[A.str ⟨#[]⟩],U.map eS⟩)],1⟩
@[reducible,instance]def aXt (O:List bN) (U:Int×(List ByteArray)) j2:=mkL (Gi O U j2) (@Gg.eq_1) λ H=>⟨[(0,la O),(3,.own 0 0 H.2.length),(4,.int i64 U.1),(7,.int i64 H.1)],[(0,⟨false,1,[A.str ⟨#[]⟩],H.2.map eS⟩)],1⟩
@[reducible,instance]def aXu (O:List bN) (H:Int×(List ByteArray)):=mkJ (Gk O H) 2 (@Gi.eq_1 O H) λ U=>⟨[(0,la O),(3,.own 0 0 H.2.length),(4,.int i64 H.1),(5,.bool U)],[(0,⟨false,1,[A.str ⟨#[]⟩],H.2.map eS⟩)],1⟩
@[reducible,instance]def aXv (O:List bN) (H:Int×(List ByteArray)):=mkL x (@Gj.eq_1 O H) λ U=>⟨[(0,la O),(3,.own 0 0 H.2.length),(4,.int i64 H.1),(5,.bool U.1),(6,.int i64 U.2)],[(0,⟨false,1,[A.str ⟨#[]⟩],H.2.map eS⟩)],1⟩
@[reducible,instance]def aXw (O:List bN):=mkL x (@Gk.eq_1 O) λ H=>⟨[(0,la O),(3,.own 0 0 H.2.length),(4,.int i64 H.1)],[(0,⟨false,1,[A.str ⟨#[]⟩],H.2.map eS⟩)],1⟩
instance aXx(H:List bN):OkP (xR H) 154 [la H] (λ r=>.sl (r.map eS)):=ok1 (xR.eq_1 H) Tryz.f154 [(3,1)]
def SM(j1:Unit):Option Int:=some (-1)
def JB(O:List bW)(U H:Int):Option (Int⊕(Unit⊕Int)):=(if decide (H<O.length)then gd (0<=H/\H<O.length)<|(if decide ((O.getD H.toNat bW.zero).label=U)then some (.inr (.inr H))else some (.inl (i64.wrap (H+1))))else some (.inr (.inl ())))
def zX(H:List bW)(O:Int):Option Int:=(lY (JB H O) 0).bind (λ|.inl z=>SM z|.inr z=>some z)
@[reducible,instance]def aY0 a0 a1:=mkJ (zX a0 a1) 0 (@SM.eq_1) λ j1=>⟨[],[],0⟩
@[reducible,instance]def aY1 (H:List bW) (O:Int):=mkL x (@JB.eq_1 H O) λ U=>⟨[(0,la H),(1,.int i64 O),(5,.int i64 U)],[],0⟩
instance aY2(H:List bW)(O:Int):OkP (zX H O) 155 [la H,.int i64 O] (λ r=>.int i64 r):=ok1 (zX.eq_1 H O) Tryz.f155 []
def SN(j1:Int×Int):Option (Int×Int):=some (j1.1,i64.wrap (j1.2+1))
def JC(H:Int×Int×Int)(v1:Int×Int)(O:Int):Option ((Int×Int×Int)⊕((Int×Int)⊕(Int×Int))):=(if decide (24<i64.wrap (H.1+v1.1))then some (.inr (.inr (25,0)))else some (.inl (i64.wrap (H.1+v1.1),O,i64.wrap (H.2.2+1))))
def Dt(O:(aS->Int->Option (Int×Int)))(U:aS)(Y:Int)(H:Int×Int×Int):Option ((Int×Int×Int)⊕((Int×Int)⊕(Int×Int))):=(if decide (H.2.2<U.bG.length)then gd (0<=H.2.2/\H.2.2<U.bG.length)<|(O (U.bG.getD H.2.2.toNat aS.zero) (i64.wrap (Y+1))).bind λ v1=>(if decide (H.2.1<v1.2)then JC H v1 v1.2 else JC H v1 H.2.1)else some (.inr (.inl (H.1,H.2.1))))
def Du(H:(aS->Int->Option (Int×Int)))(O:aS)(U:Int):Option (Int×Int):=(if decide (4<U)||decide (24<(O.bG.length:Int))then some (25,0)else(lY (Dt H O U) (1,0,0)).bind (λ|.inl z=>SN z|.inr z=>some z))
def zY:Nat->(aS->Int->Option (Int×Int))
 |0=>λ _ _=>none
 |n+1=>Du (zY n)
def JD(H:aS)(O:Int):Option (Int×Int):=zY (_root_.SizeOf.sizeOf H+1) H O
@[reducible,instance]def aY7 (H:(aS->Int->Option (Int×Int))) (O:aS) (U:Int):=mkJ (Du H O U) 0 (@SN.eq_1) λ j1=>⟨[(6,.int i64 j1.1),(7,.int i64 j1.2)],[],0⟩
@[reducible,instance]def aY8 (O:(aS->Int->Option (Int×Int))) (U:aS) (Y:Int) (H:Int×Int×Int) (v1:Int×Int):=mkJ (Dt O U Y H,v1) 999 (@JC.eq_1 H v1) λ B=>⟨[(1,.int i64 Y),(2,.ptr 0 0 0),(6,.int i64 (i64.wrap (H.1+v1.1))),(7,.int i64 B),(8,.int i64 H.2.2)],[(0,bx U)],1⟩
@[reducible,instance]def aY9 (H:(aS->Int->Option (Int×Int))) (U:aS) (Y:Int):=mkL x (@Dt.eq_1 H U Y) λ O=>⟨[(1,.int i64 Y),(2,.ptr 0 0 0),(6,.int i64 O.1),(7,.int i64 O.2.1),(8,.int i64 O.2.2)],[(0,bx U)],1⟩
abbrev JE(g:(aS->Int->Option (Int×Int))):Prop:=∀(H:aS) (O:Int),OkP (g H O) 250 [.agg (aS.enc H),.int i64 O] (λ r=>.tup [.int i64 r.1,.int i64 r.2])
theorem aYb(H:(aS->Int->Option (Int×Int)))(hrc:JE H):JE (Du H):=λ O U=>ok1 (Du.eq_1 H O U) Tryz.f250 []
theorem aYc:∀n,JE (zY n):=s6 (λ _ _=>⟨λ _ h=>nomatch h⟩) λ n=>aYb _
instance aYd:JE JD:=λ H O=>aYc _ H O
def SO(j1:(List aI)):Option (List aI):=some j1
def JF(O:List aA)(H:Int×(List aI)):Option ((Int×(List aI))⊕(List aI)):=(if decide (H.1<O.length)then gd (0<=H.1/\H.1<O.length)<|gd (H.2.length+1<=4294967296)<|some (.inl (i64.wrap (H.1+1),H.2++[(O.getD H.1.toNat aA.zero).aB]))else some (.inr H.2))
def x3(H:List aA):Option (List aI):=(lY (JF H) (0,[])).bind (λ z=>SO z)
@[reducible,instance]def aYg a0:=mkJ (x3 a0) 0 (@SO.eq_1) λ j1=>⟨[(3,.own 0 0 j1.length)],[(0,sx j1)],1⟩
@[reducible,instance]def aYh (O:List aA):=mkL x (@JF.eq_1 O) λ H=>⟨[(0,la O),(3,.own 0 0 H.2.length),(4,.int i64 H.1)],[(0,sx H.2)],1⟩
instance aYi(H:List aA):OkP (x3 H) 143 [la H] la:=ok1 (x3.eq_1 H) Tryz.f143 [(3,1)]
def Nn(j1:Unit):Option Bool:=some false
def Gl(Y:aS)(U:List aO)(O:List Bool)(H:Int):Option (Int⊕(Unit⊕Bool)):=(if decide (H<U.length)then gd (0<=H/\H<U.length)<|(if decide (U.getD H.toNat aO.zero=Y.aZ)then gd (decide (H<O.length)=true->0<=H/\H<O.length)<|some (.inr (.inr (decide (H<O.length)&&O.getD H.toNat false)))else some (.inl (i64.wrap (H+1))))else some (.inr (.inl ())))
def SP(H:aS)(O:Int):Option Bool:=some (decide (H.k<=O))
def JG(O:(aS->List aO->List Bool->Option Bool))(U:aS)(Y:List aO)(B:List Bool)(H:Int×Int):Option ((Int×Int)⊕Int):=(if decide (H.2<U.bG.length)then gd (0<=H.2/\H.2<U.bG.length)<|(O (U.bG.getD H.2.toNat aS.zero) Y B).bind λ v1=>(if v1 then some (.inl (i64.wrap (H.1+1),i64.wrap (H.2+1)))else some (.inl (H.1,i64.wrap (H.2+1))))else some (.inr H.1))
def Bd(O:(aS->List aO->List Bool->Option Bool))(H:aS)(U:List aO)(Y:List Bool):Option Bool:=(if decide (H.k=0)then(lY (Gl H U Y) 0).bind (λ|.inl z=>Nn z|.inr z=>some z)else(lY (JG O H U Y) (0,0)).bind (λ z=>SP H z))
def fr_ref08_holds:Nat->(aS->List aO->List Bool->Option Bool)
 |0=>λ _ _ _=>none
 |n+1=>Bd (fr_ref08_holds n)
def f_ref08_holds(H:aS)(O:List aO)(U:List Bool):Option Bool:=fr_ref08_holds (_root_.SizeOf.sizeOf H+1) H O U
@[reducible,instance]def aYo (H:(aS->List aO->List Bool->Option Bool)) (O:aS) (U:List aO) (Y:List Bool):=mkJ (Bd H O U Y) 0 (@Nn.eq_1) λ j1=>⟨[],[],0⟩
@[reducible,instance]def aYp (H:aS) (O:List aO) (U:List Bool):=mkL x (@Gl.eq_1 H O U) λ Y=>⟨[(1,la O),(2,.sl (U.map eB)),(3,.ptr 0 0 0),(7,.int i64 Y)],[(0,bx H)],1⟩
@[reducible,instance]def aYq (H:(aS->List aO->List Bool->Option Bool)) (O:aS) (U:List aO) (Y:List Bool):=mkJ (Bd H O U Y) 2 (@SP.eq_1 O) λ B=>⟨[(3,.ptr 0 0 0),(8,.int i64 B)],[(0,bx O)],1⟩
@[reducible,instance]def aYr (H:(aS->List aO->List Bool->Option Bool)) (O:aS) (U:List aO) (Y:List Bool):=mkL x (@JG.eq_1 H O U Y) λ B=>⟨[(1,la U),(2,.sl (Y.map eB)),(3,.ptr 0 0 0),(8,.int i64 B.1),(9,.int i64 B.2)],[(0,bx O)],1⟩
abbrev JH(g:(aS->List aO->List Bool->Option Bool)):Prop:=∀(H:aS) (O:List aO) (U:List Bool),OkP (g H O U) 203 [.agg (aS.enc H),.sl (O.map aO.enc),.sl (U.map eB)] (λ r=>.bool r)
theorem aYt(H:(aS->List aO->List Bool->Option Bool))(hrc:JH H):JH (Bd H):=λ O U Y=>ok1 (Bd.eq_1 H O U Y) Tryz.f203 []
theorem aYu:∀n,JH (fr_ref08_holds n):=s6 (λ _ _ _=>⟨λ _ h=>nomatch h⟩) λ n=>aYt _
instance aYv:JH f_ref08_holds:=λ H O U=>aYu _ H O U
def zZ(H:aA):Option aA:=gd (H.aT.length<=4294967296)<|gd (H.aN.length<=4294967296)<|gd (H.aW.length<=4294967296)<|some H
instance aYw(H:aA):OkP (zZ H) 208 [ga H] ga:=ok1 (zZ.eq_1 H) Tryz.f208 [(3,1),(8,1),(13,1)]
def xS(H:List aA)(O:Int)(U:aA):Option (List aA):=gd (H.length<=4294967296)<|gd (0<=O/\O<((H.length:Nat):Int))<|some (H.set O.toNat U)
instance aYx(H:List aA)(O:Int)(U:aA):OkP (xS H O U) 261 [la H,.int i64 O,ga U] la:=ok1 (xS.eq_1 H O U) Tryz.f261 [(8,1)]
def No(H:List ByteArray)(O:ByteArray)(j1:Int):Option (List ByteArray):=gd (decide (j1<H.length)=true->0<=j1/\j1<H.length)<|(if decide (j1<H.length)&&((H.getD j1.toNat ⟨#[]⟩).toList==O.toList)then some H else gd (0<=0/\0<=j1/\j1<=H.length)<|gd ((H.take j1.toNat).length<=4294967296)<|gd ((H.take j1.toNat).length+1<=4294967296)<|gd (0<=j1/\j1<=(H.length:Int)/\(H.length:Int)<=(H.length:Int))<|gd ((H.take j1.toNat).length+1+(H.drop j1.toNat).length<=4294967296)<|some ((H.take j1.toNat++[O])++H.drop j1.toNat))
def JI(O:List ByteArray)(U:ByteArray)(H:Int):Option (Int⊕Int):=gd (decide (H<O.length)=true->0<=H/\H<O.length)<|(if decide (H<O.length)&&Op.bytesLess (O.getD H.toNat ⟨#[]⟩).toList U.toList then some (.inl (i64.wrap (H+1)))else some (.inr H))
def x6(H:List ByteArray)(O:ByteArray):Option (List ByteArray):=(lY (JI H O) 0).bind (λ z=>No H O z)
@[reducible,instance]def aZ0 (H:List ByteArray) (O:ByteArray):=mkJ (x6 H O) 0 (@No.eq_1 H O) λ j1=>⟨[(0,.sl (H.map eS)),(1,.str O),(5,.int i64 j1)],[],0⟩
@[reducible,instance]def aZ1 (H:List ByteArray) (O:ByteArray):=mkL x (@JI.eq_1 H O) λ U=>⟨[(0,.sl (H.map eS)),(1,.str O),(5,.int i64 U)],[],0⟩
instance aZ2(H:List ByteArray)(O:ByteArray):OkP (x6 H O) 156 [.sl (H.map eS),.str O] (λ r=>.sl (r.map eS)):=ok1 (x6.eq_1 H O) Tryz.f156 []
def SQ(j1:Unit):Option Bool:=some true
def SR(O U:List aX)(H:Int):Option (Int⊕(Unit⊕Bool)):=(if decide (H<O.length)then gd (0<=H/\H<O.length)<|gd (0<=H/\H<U.length)<|(if !decide (O.getD H.toNat aX.zero=U.getD H.toNat aX.zero)then some (.inr (.inr false))else some (.inl (i64.wrap (H+1))))else some (.inr (.inl ())))
def Be(H O:List aX):Option Bool:=(if !decide ((H.length:Int)=(O.length:Int))then some false else(lY (SR H O) 0).bind (λ|.inl z=>SQ z|.inr z=>some z))
@[reducible,instance]def aZ5 a0 a1:=mkJ (Be a0 a1) 0 (@SQ.eq_1) λ j1=>⟨[],[],0⟩
@[reducible,instance]def aZ6 (H O:List aX):=mkL x (@SR.eq_1 H O) λ U=>⟨[(0,la H),(1,la O),(5,.int i64 U)],[],0⟩
instance aZ7(H O:List aX):OkP (Be H O) 171 [la H,la O] .bool:=ok1 (Be.eq_1 H O) Tryz.f171 []
def Gm(H:Int):Bool:=(decide (0<=H)&&decide (H<=1073741824))
instance aZ9(H:Int):OkT 52 [.int i64 H] (.bool (Gm H)):=ok2 .bool (Gm.eq_1 H) Tryz.f52 []
def Dv(O H:Int):Option Bool:=gd ((rB O&&rB H)=true->0<=H/\H<6)<|some ((rB O&&rB H)&&Arr.get (M8 O) H.toNat false)
instance aZa(H O:Int):OkP (Dv H O) 303 [.int i64 H,.int i64 O] .bool:=ok1 (Dv.eq_1 H O) Tryz.f303 []
def Dw(H:aS):Option Int:=(Js H 1 0).bind λ v1=>some v1.1
instance aZb(H:aS):OkP (Dw H) 221 [ga H] (λ r=>.int i64 r):=ok1 (Dw.eq_1 H) Tryz.f221 []
def Np(H:(List aV)):Option (List aV):=some H
@[go_sem] def aZc(H:(List aV)):St:=⟨[(6,.own 0 0 H.length)],[(0,sx H)],1⟩
def x7(O:List (List aV))(H:Int×(List aV)):Option ((Int×(List aV))⊕(List aV)):=(if decide (H.1<O.length)then gd (0<=H.1/\H.1<O.length)<|gd (H.2.length+(O.getD H.1.toNat []).length<=4294967296)<|some (.inl (i64.wrap (H.1+1),H.2++O.getD H.1.toNat []))else some (.inr H.2))
@[go_sem] def aZd(O:List (List aV))(H:Int×(List aV)):St:=⟨[(6,.own 0 0 H.2.length),(25,.sl (O.map (eL aV.enc))),(26,.int i64 O.length),(27,.int i64 H.1)],[(0,sx H.2)],1⟩
def JJ(H:List (List aV))(j1:Int):Option (List aV):=(JA j1).bind λ v1=>(lY (x7 H) (0,v1)).bind (λ z=>Np z)
@[go_sem] def aZe(H:List (List aV))(j1:Int):St:=⟨[(0,.sl (H.map (eL aV.enc))),(3,.int i64 j1)],[],0⟩
def x8(O:List (List aV))(H:Int×Int):Option ((Int×Int)⊕Int):=(if decide (H.2<O.length)then gd (0<=H.2/\H.2<O.length)<|(if decide (i64.wrap (H.1+((O.getD H.2.toNat []).length:Int))<0)then none else some (.inl (i64.wrap (H.1+((O.getD H.2.toNat []).length:Int)),i64.wrap (H.2+1))))else some (.inr H.1))
@[go_sem] def aZf(H:List (List aV))(O:Int×Int):St:=⟨[(0,.sl (H.map (eL aV.enc))),(3,.int i64 O.1),(9,.sl (H.map (eL aV.enc))),(10,.int i64 H.length),(11,.int i64 O.2)],[],0⟩
def Bf(H:List (List aV)):Option (List aV):=(lY (x8 H) (0,0)).bind (λ z=>JJ H z)
def aZg(B:List (List aV))(r:(List aV))(h:Bf B=some r):PFn C 305 [.sl (B.map (eL aV.enc))] (la r):=by
 refine oN Tryz.f305 [] λ E hG hN hK=>?_;unfold Bf at h;refine lW (lX hG ?_);refine lW (lX hG ?_);refine lW (lW (lX hG ?_));refine pU (aZe B) (λ v=>JJ B v=some r) ?_ ?_
 · intro j1 h
   unfold JJ at h;refine g_st ?_;refine lW (lX hG ?_);obtain⟨v1,F,h⟩:=lZ h;refine mO [] [(0,0)] [0] (aX3 _ _ F) rfl rfl ?_;refine lW (lW (lX hG ?_));refine pU aZc (λ v=>Np v=some r) ?_ ?_
   · intro j2 h
     unfold Np at h;refine g_st ?_;refine lW (lX hG ?_);refine mG ?_;exact nM h
   refine qH (aZd B) hK [(0,0)] h (λ M h g1 h0 O U=>?_);unfold x7 at O;refine g_st ?_;refine lW (lX hG ?_);refine lW ?_;refine mA rfl hG O (λ _ O=>?_) (λ _ O=>?_)
   · refine mE ?_
     refine lW (oG (lW ?_));obtain⟨z0,O⟩:=mH O;refine lX hG ?_;obtain⟨u0,O⟩:=mH O;refine lX hG ?_;refine lX hG ?_;exact oU hK [(0,1)] O
   refine oI ?_;cases O;cases U _ rfl;exact mT hK [(0,0)] g1.2 (by exact h)
 refine qH (aZf B) hK [] h (λ x0 h g2 y0 H Y=>?_);unfold x8 at H;refine g_st ?_;refine lW (lX hG ?_);refine lW ?_;refine mA rfl hG H (λ _ H=>?_) (λ _ H=>?_)
 · refine mE ?_
   refine lW (oG (lW ?_));obtain⟨v0,H⟩:=mH H;refine lX hG ?_;refine lW (lX hG ?_);refine lW (lX hG ?_);refine mA rfl hG H (λ _ H=>?_) (λ _ H=>?_)
   .exact aPt H
   refine mE ?_;refine lX hG ?_;exact oU hK [] H
 refine oI ?_;cases H;cases Y _ rfl;exact mT hK [] g2.1 (by exact h)
instance aZh(H:List (List aV)):OkP (Bf H) 305 [.sl (H.map (eL aV.enc))] la:=⟨aZg H⟩
def sF(O U:Int)(H:aR):Option (Int×aR):=(if !decide (H.err=0)then some (0,H)else(sE H.b).bind λ v1=>(if !decide (v1.2.2=0)then some (0,{H with err:=v1.2.2})else gd (0<=v1.2.1/\v1.2.1<=(H.b.length:Int)/\(H.b.length:Int)<=(H.b.length:Int))<|(if decide (O<v1.1)then some (0,{{H with b:=(H.b.drop v1.2.1.toNat)}with err:=U})else some (i64.wrap v1.1,{H with b:=(H.b.drop v1.2.1.toNat)}))))
instance SS(H O:Int)(U:aR):OkM (sF H O U) 29 [.ptr 0 0 0,.int u64 H,.int i64 O] [(0,bx U)] 1 (λ r=>.int i64 r.1) (λ r=>[(0,bx r.2)]) 1:=okm (sF.eq_1 H O U) (λ r=>[.int i64 r.1]) Tryz.f29 []
def JK(H:bE)(v1:Int×Int×Int)(j1:Int):Option (Int×bE):=(if !decide (j1=0)then some (0,{H with bR:={H.bR with err:=j1}})else gd (0<=v1.2.1/\v1.2.1<=(H.bR.rest.length:Int)/\(H.bR.rest.length:Int)<=(H.bR.rest.length:Int))<|some (i64.wrap v1.1,{H with bR:={H.bR with rest:=(H.bR.rest.drop v1.2.1.toNat)}}))
def x9(O U:Int)(H:bE):Option (Int×bE):=(if !decide (H.bR.err=0)then some (0,H)else(sE H.bR.rest).bind λ v1=>(if decide (v1.2.2=0)&&decide (u64.wrap O<v1.1)then JK H v1 U else JK H v1 v1.2.2))
@[reducible,instance]def aZj a0 a1 (H:bE) (v1:Int×Int×Int):=mkJ (x9 a0 a1 H,v1) 999 (@JK.eq_1 H v1) λ j1=>⟨[(0,.ptr 0 0 0),(7,.int u64 v1.1),(8,.int i64 v1.2.1),(9,.int i64 j1)],[(0,bx H)],1⟩
instance aZk(H O:Int)(U:bE):OkM (x9 H O U) 217 [.ptr 0 0 0,.int i64 H,.int i64 O] [(0,bx U)] 1 (λ r=>.int i64 r.1) (λ r=>[(0,bx r.2)]) 1:=okm (x9.eq_1 H O U) (λ r=>[.int i64 r.1]) Tryz.f217 []
def y3(H:Int):Option aK:=(wF H 8).bind λ v1=>some (⟨v1.tmod 4,1,i64.wrap (1+i64.wrap (v1.tdiv 4))⟩:aK)
instance aZl(H:Int):OkP (y3 H) 18 [.int i64 H] ga:=ok1 (y3.eq_1 H) Tryz.f18 []
def uG(H:aA)(O:aK):Option (aC×Bool):=(wG H.aN O).bind λ v1=>(if decide (0<=v1)then gd (0<=v1/\v1<H.aN.length)<|some ((H.aN.getD v1.toNat aV.zero).aJ,true)else(wG H.aW O).bind λ v2=>(if decide (0<=v2)then gd (0<=v2/\v2<H.aW.length)<|some ((H.aW.getD v2.toNat aV.zero).aJ,true)else some ({aC.zero with},false)))
instance aZm(H:aA)(O:aK):OkP (uG H O) 201 [ga H,ga O] (λ r=>.tup [ga r.1,.bool r.2]):=ok1 (uG.eq_1 H O) Tryz.f201 []
def Gn(H O:aP):Option Bool:=(if (decide (H.aM=O.aM)&&decide (H.label=O.label))&&decide (H.cost=O.cost)then xO H.lower O.lower else some false).bind λ v1=>some (((decide (H.aM=O.aM)&&decide (H.label=O.label))&&decide (H.cost=O.cost))&&v1)
instance aZn(H O:aP):OkP (Gn H O) 78 [ga H,ga O] .bool:=ok1 (Gn.eq_1 H O) Tryz.f78 []
def qO(H:List Int)(O:Int):Option (List Int):=(sZ H (u64.wrap O)).bind λ v1=>some v1
instance aZo(H:List Int)(O:Int):OkP (qO H O) 112 [.sl (H.map (eI u8)),.int i64 O] (λ r=>.sl (r.map (eI u8))):=ok1 (qO.eq_1 H O) Tryz.f112 [(8,1)]
def Bg(O:List Int)(H:ByteArray):Option (List Int):=(pQ O (u64.wrap (H.size:Int))).bind λ v1=>gd (v1.length+H.toList.length<=4294967296)<|some (v1++(H.toList.map λ b=>(b.toNat:Int)))
instance aZp(H:List Int)(O:ByteArray):OkP (Bg H O) 60 [.sl (H.map (eI u8)),.str O] (λ r=>.sl (r.map (eI u8))):=ok1 (Bg.eq_1 H O) Tryz.f60 []
def a7(O:List Int)(H:aK):Option (List Int):=(if !(pC H)then gd (O.length<=4294967296)<|some O else(sZ O (u64.wrap H.site)).bind λ v1=>(sZ v1 (u64.wrap H.inc)).bind λ v2=>(sZ v2 (u64.wrap H.num)).bind λ v3=>some v3)
instance aZq(H:List Int)(O:aK):OkP (a7 H O) 59 [.sl (H.map (eI u8)),ga O] (λ r=>.sl (r.map (eI u8))):=ok1 (a7.eq_1 H O) Tryz.f59 [(8,1),(15,1),(19,1),(23,1)]
end
end Ab
end Go.Proofs.YtfmnjkfhahfhgaaGreatDoor
