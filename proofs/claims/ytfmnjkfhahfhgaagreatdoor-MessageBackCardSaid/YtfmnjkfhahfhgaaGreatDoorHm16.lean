import Derived.Test.YtfmnjkfhahfhgaaGreatDoorHm9
import Derived.Test.YtfmnjkfhahfhgaaGreatDoorHm10
import Derived.Test.YtfmnjkfhahfhgaaGreatDoorHm13
import Derived.Test.YtfmnjkfhahfhgaaGreatDoorSort
namespace Go.Proofs.YtfmnjkfhahfhgaaGreatDoor
namespace Ab
set_option linter.defProp false
open IntKind (i64 u64 u8)
set_option linter.unusedSimpArgs false
set_option linter.unusedVariables false
set_option maxRecDepth 100000
set_option maxHeartbeats 1000000
noncomputable section
variable {T T1 T2 : Type} (x : T) (v1 : T1) (v2 : T2)
def DU(U:aI)(O H:aC):Option Bool:=(if (!(nS U O))||(!(nS U H))then some false else(if oQ O||oQ H then some (oQ H)else(if decide (U.kind=1)then(Dv O.mode H.mode).bind λ v1=>some v1 else some (decide (H.aU<=O.aU)))))
instance bFx(H:aI)(O U:aC):OkP (DU H O U) 287 [ga H,ga O,ga U] .bool:=ok1 (DU.eq_1 H O U) Tryz.f287 []
def rZ(U:aI)(H O:aC):Bool:=(if (!(uL U H))||(!(uL U O))then false else(if nX O then true else(if nX H then false else(if decide (U.kind=1)then(y4 H.mode O.mode)else(decide (O.aU<=H.aU))))))
instance bFy(H:aI)(O U:aC):OkT 204 [.agg (aI.enc H),.agg (aC.enc O),.agg (aC.enc U)] (.bool (rZ H O U)):=ok2 .bool (rZ.eq_1 H O U) Tryz.f204 []
def BB(H:aA):Option (List aK):=(A6 H.aT).bind λ v1=>(Ba H).bind λ v2=>gd (v1.length+v2.length<=4294967296)<|(b5 (v1++v2)).bind λ v3=>some v3
instance bFz(H:aA):OkP (BB H) 134 [ga H] la:=ok1 (BB.eq_1 H) Tryz.f134 []
def Tp(H:Unit):Option Bool:=some true
def DV(O:bA)(H:Int):Option (Int⊕(Unit⊕Bool)):=(if decide (H<O.bH.length)then gd (0<=H/\H<O.bH.length)<|gd (((!(((decide ((O.bH.getD H.toNat bW.zero).label<1)||decide (99<(O.bH.getD H.toNat bW.zero).label))||decide ((O.bH.getD H.toNat bW.zero).at_<0))||decide ((O.aQ.length:Int)<(O.bH.getD H.toNat bW.zero).at_)))&&decide (0<H))=true->0<=i64.wrap (H-1)/\i64.wrap (H-1)<(O.bH.length:Int))<|(if !((((decide ((O.bH.getD H.toNat bW.zero).label<1)||decide (99<(O.bH.getD H.toNat bW.zero).label))||decide ((O.bH.getD H.toNat bW.zero).at_<0))||decide ((O.aQ.length:Int)<(O.bH.getD H.toNat bW.zero).at_))||(decide (0<H)&&decide ((O.bH.getD H.toNat bW.zero).at_<(O.bH.getD (i64.wrap (H-1)).toNat bW.zero).at_)))then zX O.bH ((O.bH.getD H.toNat bW.zero).label)else some 0).bind λ v2=>(if ((((decide ((O.bH.getD H.toNat bW.zero).label<1)||decide (99<(O.bH.getD H.toNat bW.zero).label))||decide ((O.bH.getD H.toNat bW.zero).at_<0))||decide ((O.aQ.length:Int)<(O.bH.getD H.toNat bW.zero).at_))||(decide (0<H)&&decide ((O.bH.getD H.toNat bW.zero).at_<(O.bH.getD (i64.wrap (H-1)).toNat bW.zero).at_)))||(!decide (v2=H))then some (.inr (.inr false))else some (.inl (i64.wrap (H+1))))else some (.inr (.inl ())))
def GD(H:bA)(j1:Unit):Option Bool:=(xR H.aQ).bind λ v1=>(if decide (8<(v1.length:Int))then some false else(lY (DV H) 0).bind (λ|.inl z=>Tp z|.inr z=>some z))
def GE(O:bA)(H:Int):Option (Int⊕(Unit⊕Bool)):=(if decide (H<O.aQ.length)then gd (0<=H/\H<O.aQ.length)<|(vH (O.aQ.getD H.toNat bN.zero).name).bind λ v3=>gd (v3=true->0<=0/\0<=H/\H<=O.aQ.length)<|(if v3 then tN (O.aQ.take H.toNat) ((O.aQ.getD H.toNat bN.zero).name)else some aC.zero).bind λ v4=>(if ((!v3)||(!decide ((O.aQ.getD H.toNat bN.zero).before=v4)))||(!(b8 (O.aQ.getD H.toNat bN.zero).before (O.aQ.getD H.toNat bN.zero).after))then some (.inr (.inr false))else some (.inl (i64.wrap (H+1))))else some (.inr (.inl ())))
def uN(H:bA):Option Bool:=(if decide (72<(H.aQ.length:Int))||decide (4<(H.bH.length:Int))then some false else(lY (GE H) 0).bind (λ|.inl z=>GD H z|.inr z=>some z))
@[reducible,instance]def bG4 a0 j1:=mkJ (GD a0 j1,v1) 2 (@Tp.eq_1) λ H=>⟨[],[],0⟩
@[reducible,instance]def bG5 (H:bA):=mkL x (@DV.eq_1 H) λ O=>⟨[(1,.ptr 0 0 0),(5,.int i64 O)],[(0,bx H)],1⟩
@[reducible,instance]def bG6 (H:bA):=mkJ (uN H) 0 (@GD.eq_1 H) λ j1=>⟨[(1,.ptr 0 0 0)],[(0,bx H)],1⟩
@[reducible,instance]def bG7 (H:bA):=mkL x (@GE.eq_1 H) λ O=>⟨[(1,.ptr 0 0 0),(3,.int i64 O)],[(0,bx H)],1⟩
instance Tq(H:bA):OkP (uN H) 98 [ga H] .bool:=ok1 (uN.eq_1 H) Tryz.f98 []
def NB(O:aS)(H:List aO)(j1:Unit):Option (Nat⊕(Bool×(List aO))):=gd (H.length+1<=4294967296)<|some (.inr (true,H++[O.aZ]))
def Ke(U:aS)(O:List aO)(H:Int):Option (Int⊕(Unit⊕(Nat⊕(Bool×(List aO))))):=(if decide (H<((O.length:Nat):Int))then gd (0<=H/\H<((O.length:Nat):Int))<|(if decide (O.getD H.toNat aO.zero=U.aZ)then some (.inr (.inr (.inr (true,O))))else some (.inl (i64.wrap (H+1))))else some (.inr (.inl ())))
def Tr(H:(List aO)):Option (Nat⊕(Bool×(List aO))):=some (.inr (true,H))
def GF(O:(aS->List aO->Option (Nat⊕(Bool×(List aO)))))(U:aS)(H:Int×(List aO)):Option ((Int×(List aO))⊕((List aO)⊕(Nat⊕(Bool×(List aO))))):=(if decide (H.1<U.bG.length)then gd (0<=H.1/\H.1<U.bG.length)<|(O (U.bG.getD H.1.toNat aS.zero) H.2).bind λ v2=>match v2 with | .inl v2=>some (.inr (.inr (.inl H.2.length))) | .inr v2=>(if !v2.1 then some (.inr (.inr (.inl H.2.length)))else some (.inl (i64.wrap (H.1+1),v2.2)))else some (.inr (.inl H.2)))
def wL(U:(aS->List aO->Option (Nat⊕(Bool×(List aO)))))(H:aS)(O:List aO):Option (Nat⊕(Bool×(List aO))):=(if decide ((H.bG.length:Int)=0)then(if decide (H.k=0)then vH H.aZ.name else some false).bind λ v1=>(if ((!decide (H.k=0))||(!v1))||(!(pR H.aZ.aJ))then some (.inr (false,O))else(lY (Ke H O) 0).bind (λ|.inl z=>NB H O z|.inr z=>some z))else(if (decide (H.k<1)||decide ((H.bG.length:Int)<H.k))||(!decide (H.aZ={aO.zero with}))then some (.inr (false,O))else(lY (GF U H) (0,O)).bind (λ|.inl z=>Tr z|.inr z=>some z)))
def wM:Nat->(aS->List aO->Option (Nat⊕(Bool×(List aO))))
 |0=>λ _ _=>none
 |n+1=>wL (wM n)
def z6(H:aS)(O:List aO):Option (Nat⊕(Bool×(List aO))):=wM (_root_.SizeOf.sizeOf H+1) H O
@[reducible,instance]def bGd (O:(aS->List aO->Option (Nat⊕(Bool×(List aO))))) (U:aS) (H:List aO):=mkJ (wL O U H,v1) 0 (@NB.eq_1 U H) λ j1=>⟨[(0,.own 1 0 H.length),(3,.ptr 2 0 0)],[(1,sx H),(2,bx U)],3⟩
@[reducible,instance]def bGe (O:aS) (H:List aO):=mkL x (@Ke.eq_1 O H) λ U=>⟨[(0,.own 1 0 H.length),(3,.ptr 2 0 0),(6,.int i64 U)],[(1,sx H),(2,bx O)],3⟩
@[reducible,instance]def bGf (H:(aS->List aO->Option (Nat⊕(Bool×(List aO))))) (U:aS) (Y:List aO):=mkJ (wL H U Y) 2 (@Tr.eq_1) λ O=>⟨[(0,.own 1 0 O.length)],[(1,sx O)],2⟩
@[reducible,instance]def bGg (H:(aS->List aO->Option (Nat⊕(Bool×(List aO))))) (U:aS):=mkL x (@GF.eq_1 H U) λ O=>⟨[(0,.own 1 0 O.2.length),(3,.ptr 2 0 0),(7,.int i64 O.1)],[(1,sx O.2),(2,bx U)],3⟩
abbrev DW(g:(aS->List aO->Option (Nat⊕(Bool×(List aO))))):Prop:=∀(O:aS) (H:List aO),OkL (g O H) 216 [.own 0 0 H.length,.agg (aS.enc O)] [(0,⟨false,3,aO.enc aO.zero,H.map aO.enc⟩)] 1 (λ r=>.tup [.own 1 0 r,.bool false]) (λ r=>[]) 2
abbrev DX(g:(aS->List aO->Option (Nat⊕(Bool×(List aO))))):Prop:=∀(O:aS) (H:List aO),OkR (g O H) 216 [.own 0 0 H.length,.agg (aS.enc O)] [(0,⟨false,3,aO.enc aO.zero,H.map aO.enc⟩)] 1 (λ r=>.tup [.own 1 0 r.2.length,.bool r.1]) (λ r=>[(1,⟨false,3,aO.enc aO.zero,r.2.map aO.enc⟩)]) 2
theorem bGj(H:(aS->List aO->Option (Nat⊕(Bool×(List aO)))))(Y:DW H)(B:DX H):DW (wL H):=λ O U=>⟨λ r h=>by
 refine oZ Tryz.f216 [(4,1)] [.own 1 0 r,.bool false] λ E hG F hK=>?_;have hm:Mk (wL H O U):=trivial;unfold wL at h;exact gogo⟩
theorem bGk(H:(aS->List aO->Option (Nat⊕(Bool×(List aO)))))(Y:DW H)(B:DX H):DX (wL H):=λ O U=>⟨λ r h=>by
 refine oZ Tryz.f216 [(4,1)] [.own 1 0 r.2.length,.bool r.1] λ E hG F hK=>?_;have hm:Mk (wL H O U):=trivial;unfold wL at h;exact gogo⟩
theorem Ts:∀n,DW (wM n)/\DX (wM n):=s6 (P:=λ g=>DW g/\DX g) ⟨λ _ _=>⟨λ _ h=>nomatch h⟩,λ _ _=>⟨λ _ h=>nomatch h⟩⟩ λ n h=>⟨bGj _ h.1 h.2,bGk _ h.1 h.2⟩
instance Tt:DW z6:=λ H O=>(Ts _).1 H O
instance Tu:DX z6:=λ H O=>(Ts _).2 H O
def Tv(j1:Unit):Option Bool:=some true
def Kf(O:aP)(H:Int):Option (Int⊕(Unit⊕Bool)):=(if decide (H<O.lower.length)then gd (0<=H/\H<O.lower.length)<|(vH (O.lower.getD H.toNat aO.zero).name).bind λ v1=>gd (((!((!v1)||((!(nX (O.lower.getD H.toNat aO.zero).aJ))&&(!(pR (O.lower.getD H.toNat aO.zero).aJ)))))&&decide (0<H))=true->0<=i64.wrap (H-1)/\i64.wrap (H-1)<(O.lower.length:Int))<|(if ((!v1)||((!(nX (O.lower.getD H.toNat aO.zero).aJ))&&(!(pR (O.lower.getD H.toNat aO.zero).aJ))))||(decide (0<H)&&(Op.bytesLess ((O.lower.getD H.toNat aO.zero).name).toList ((O.lower.getD (i64.wrap (H-1)).toNat aO.zero).name).toList||((O.lower.getD H.toNat aO.zero).name).toList==((O.lower.getD (i64.wrap (H-1)).toNat aO.zero).name).toList))then some (.inr (.inr false))else some (.inl (i64.wrap (H+1))))else some (.inr (.inl ())))
def d5(H:aP):Option Bool:=(if ((((!(pC H.aM))||((!decide (H.label=(-1)))&&(decide (H.label<1)||decide (99<H.label))))||decide (H.cost<1))||decide (1073741824<H.cost))||decide (8<(H.lower.length:Int))then some false else(lY (Kf H) 0).bind (λ|.inl z=>Tv z|.inr z=>some z))
@[reducible,instance]def bGq a0:=mkJ (d5 a0) 0 (@Tv.eq_1) λ j1=>⟨[],[],0⟩
@[reducible,instance]def bGr (H:aP):=mkL x (@Kf.eq_1 H) λ O=>⟨[(1,.ptr 0 0 0),(3,.int i64 O)],[(0,bx H)],1⟩
instance bGs(H:aP):OkP (d5 H) 57 [ga H] .bool:=ok1 (d5.eq_1 H) Tryz.f57 []
def Kg(j1:Unit):Option Bool:=some true
def GG(O U:aH)(H:Int):Option (Int⊕(Unit⊕Bool)):=(if decide (H<O.aY.length)then gd (0<=H/\H<O.aY.length)<|gd (0<=H/\H<U.aY.length)<|(Gq (O.aY.getD H.toNat bQ.zero) (U.aY.getD H.toNat bQ.zero)).bind λ v2=>(if !v2 then some (.inr (.inr false))else some (.inl (i64.wrap (H+1))))else some (.inr (.inl ())))
def wN(H O:aH):Option Bool:=(Br H.aF O.aF).bind λ v1=>(if (!v1)||(!decide ((H.aY.length:Int)=(O.aY.length:Int)))then some false else(lY (GG H O) 0).bind (λ|.inl z=>Kg z|.inr z=>some z))
@[reducible,instance]def bGv a0 a1:=mkJ (wN a0 a1,v1) 0 (@Kg.eq_1) λ j1=>⟨[],[],0⟩
@[reducible,instance]def bGw (H O:aH):=mkL x (@GG.eq_1 H O) λ U=>⟨[(2,.ptr 0 0 0),(3,.ptr 1 0 0),(5,.int i64 U)],[(0,bx H),(1,bx O)],2⟩
instance bGx(H O:aH):OkP (wN H O) 34 [ga H,ga O] .bool:=ok1 (wN.eq_1 H O) Tryz.f34 []
def Tw(j1:Unit):Option Bool:=some true
def BC(O:List aV)(H:Int):Option (Int⊕(Unit⊕Bool)):=(if decide (H<O.length)then gd (0<=H/\H<O.length)<|(if pI (O.getD H.toNat aV.zero)then zS O ((O.getD H.toNat aV.zero).aM)else some 0).bind λ v1=>(if (!(pI (O.getD H.toNat aV.zero)))||(!decide (v1=H))then some (.inr (.inr false))else some (.inl (i64.wrap (H+1))))else some (.inr (.inl ())))
def z7(H:List aV):Option Bool:=(if decide (8<(H.length:Int))then some false else(lY (BC H) 0).bind (λ|.inl z=>Tw z|.inr z=>some z))
@[reducible,instance]def bH0 a0:=mkJ (z7 a0) 0 (@Tw.eq_1) λ j1=>⟨[],[],0⟩
@[reducible,instance]def bH1 (H:List aV):=mkL x (@BC.eq_1 H) λ O=>⟨[(0,la H),(8,la H),(9,.int i64 H.length),(10,.int i64 O)],[],0⟩
instance bH2(H:List aV):OkP (z7 H) 288 [la H] .bool:=ok1 (z7.eq_1 H) Tryz.f288 []
def bH3:SlLaysF0.n6 C.P ⟨λ|6=>258|15=>278|14=>277|28=>298|29=>299|20=>290|21=>291|22=>292|23=>293|24=>294|25=>295|26=>296|27=>297|46=>306|47=>307|48=>308|49=>309|50=>310|57=>313|n=>n,λ|22=>119|24=>27|25=>161|39=>171|53=>337|55=>78|46=>330|45=>329|50=>334|66=>341|70=>88|76=>351|77=>306|n=>n,λ n=>n⟩ where
 mixed:=oL
 f6:=⟨Tryz.f258.name,by decide,Tryz.func258.trans (dZ some (by kernel_rfl))⟩
 f14:=⟨Tryz.f277.name,by decide,Tryz.func277.trans (dZ some (by kernel_rfl))⟩
 f15:=Tryz.func278.trans (dZ some (by kernel_rfl))
 f20:=⟨Tryz.f290.name,by decide,Tryz.func290.trans (dZ some (by kernel_rfl))⟩
 f21:=⟨Tryz.f291.name,by decide,Tryz.func291.trans (dZ some (by kernel_rfl))⟩
 f22:=⟨Tryz.f292.name,by decide,Tryz.func292.trans (dZ some (by kernel_rfl))⟩
 f23:=⟨Tryz.f293.name,by decide,Tryz.func293.trans (dZ some (by kernel_rfl))⟩
 f24:=⟨Tryz.f294.name,by decide,Tryz.func294.trans (dZ some (by kernel_rfl))⟩
 f25:=⟨Tryz.f295.name,by decide,Tryz.func295.trans (dZ some (by kernel_rfl))⟩
 f26:=⟨Tryz.f296.name,by decide,Tryz.func296.trans (dZ some (by kernel_rfl))⟩
 f27:=⟨Tryz.f297.name,by decide,Tryz.func297.trans (dZ some (by kernel_rfl))⟩
 f28:=Tryz.func298.trans (dZ some (by kernel_rfl))
 f29:=Tryz.func299.trans (dZ some (by kernel_rfl))
 f46:=⟨Tryz.f306.name,by decide,Tryz.func306.trans (dZ some (by kernel_rfl))⟩
 f47:=Tryz.func307.trans (dZ some (by kernel_rfl))
 f48:=Tryz.func308.trans (dZ some (by kernel_rfl))
 f49:=⟨Tryz.f309.name,by decide,Tryz.func309.trans (dZ some (by kernel_rfl))⟩
 f50:=⟨Tryz.f310.name,by decide,Tryz.func310.trans (dZ some (by kernel_rfl))⟩
 f57:=⟨Tryz.f313.name,by decide,Tryz.func313.trans (dZ some (by kernel_rfl))⟩
 t0:=Tryz.underlying0
 a0:=Tryz.isAgg0
 z0:=Tryz.sizeOf0
 v0:=Tryz.zeroValue0
 t3:=Tryz.underlying3
 a3:=Tryz.isAgg3
 z3:=Tryz.sizeOf3
 v3:=Tryz.zeroValue3
 t4:=Tryz.underlying4
 a4:=Tryz.isAgg4
 z4:=Tryz.sizeOf4
 v4:=Tryz.zeroValue4
 t5:=Tryz.underlying5
 a5:=Tryz.isAgg5
 z5:=Tryz.sizeOf5
 v5:=Tryz.zeroValue5
 t9:=Tryz.underlying9
 a9:=Tryz.isAgg9
 z9:=Tryz.sizeOf9
 v9:=Tryz.zeroValue9
 t22:=Tryz.underlying119
 a22:=Tryz.isAgg119
 z22:=Tryz.sizeOf119
 v22:=Tryz.zeroValue119
 t25:=Tryz.underlying161
 a25:=Tryz.isAgg161
 z25:=Tryz.sizeOf161
 v25:=Tryz.zeroValue161
 t39:=Tryz.underlying171
 a39:=Tryz.isAgg171
 z39:=Tryz.sizeOf171
 v39:=Tryz.zeroValue171
 t45:=Tryz.underlying329
 a45:=Tryz.isAgg329
 z45:=Tryz.sizeOf329
 v45:=Tryz.zeroValue329
 t46:=Tryz.underlying330
 a46:=Tryz.isAgg330
 z46:=Tryz.sizeOf330
 v46:=Tryz.zeroValue330
 t50:=Tryz.underlying334
 a50:=Tryz.isAgg334
 z50:=Tryz.sizeOf334
 v50:=Tryz.zeroValue334
 t53:=Tryz.underlying337
 a53:=Tryz.isAgg337
 z53:=Tryz.sizeOf337
 v53:=Tryz.zeroValue337
 t55:=Tryz.underlying78
 a55:=Tryz.isAgg78
 z55:=Tryz.sizeOf78
 v55:=Tryz.zeroValue78
 t66:=Tryz.underlying341
 a66:=Tryz.isAgg341
 z66:=Tryz.sizeOf341
 v66:=Tryz.zeroValue341
 t70:=Tryz.underlying88
 a70:=Tryz.isAgg88
 z70:=Tryz.sizeOf88
 v70:=Tryz.zeroValue88
 t76:=Tryz.underlying351
 a76:=Tryz.isAgg351
 z76:=Tryz.sizeOf351
 v76:=Tryz.zeroValue351
 t77:=Tryz.underlying306
 a77:=Tryz.isAgg306
 z77:=Tryz.sizeOf306
 v77:=Tryz.zeroValue306
def DY(H:List aK):Option (List aK):=gd (H.length<=4294967296) (some (H.mergeSort λ x y=>!decide (y.site<x.site\/y.site=x.site/\(y.inc<x.inc\/y.inc=x.inc/\y.num<x.num))))
def bH4(H r:List aK)(h:DY H=some r):r.length=H.length:=by obtain⟨_,h⟩:=mH h;obtain rfl:=dY h;exact List.length_mergeSort _
def bH5(H r:List aK)(h:DY H=some r):MFn C 258 [.own 0 0 H.length,.clo 182 []] [(0,sx H)] 1 (.tup []) [(0,sx r)] 1:=by
 obtain⟨hl,h⟩:=mH h;obtain rfl:=dY h;haveI:Inhabited aK:=⟨aK.zero⟩;have e:(λ x y:aK=>!decide (y.site<x.site\/y.site=x.site/\(y.inc<x.inc\/y.inc=x.inc/\y.num<x.num)))=λ x y=>!(ltOf cmpS) y x:=by funext x y;rw[Gy];exact dZ not (jB.2 kZ)
 rw[e];exact bDc bH3 aK.enc 3 aK.len Om (λ x=>(aK.laws x).2.1) Tryz.isAgg27 Tryz.sizeOf27 cmpS bDe 182 (λ x y=>(SY x y).ok _ (bDg x y)) (enters_of Tryz.func182 (by kernel_rfl) rfl) rfl _ H hl (λ x _ y _=>bDf x y)
def NC(H:(List Int)):Option (List Int):=some H
def GH(O:aA)(H:(List Int)×Int):Option (((List Int)×Int)⊕(List Int)):=(if decide (H.2<O.aW.length)then gd (0<=H.2/\H.2<O.aW.length)<|(wK H.1 (O.aW.getD H.2.toNat aV.zero).aM).bind λ v5=>(rC v5 [((O.aW.getD H.2.toNat aV.zero).aJ).mode,((O.aW.getD H.2.toNat aV.zero).aJ).aU,(O.aW.getD H.2.toNat aV.zero).bC,(O.aW.getD H.2.toNat aV.zero).bS]).bind λ v6=>some (.inl (v6,i64.wrap (H.2+1)))else some (.inr H.1))
def Kh(H:aA)(O:(List Int)):Option (List Int):=(rC O [(H.aW.length:Int)]).bind λ v4=>(lY (GH H) (v4,0)).bind (λ z=>NC z)
def GI(O:aA)(H:(List Int)×Int):Option (((List Int)×Int)⊕(List Int)):=(if decide (H.2<O.aN.length)then gd (0<=H.2/\H.2<O.aN.length)<|(wK H.1 (O.aN.getD H.2.toNat aV.zero).aM).bind λ U=>(rC U [((O.aN.getD H.2.toNat aV.zero).aJ).mode,((O.aN.getD H.2.toNat aV.zero).aJ).aU]).bind λ Y=>some (.inl (Y,i64.wrap (H.2+1)))else some (.inr H.1))
def Ki(H:aA)(j1:(List Int)):Option (List Int):=(rC j1 [(H.aN.length:Int)]).bind λ v3=>(lY (GI H) (v3,0)).bind (λ z=>Kh H z)
def GJ(O:aA)(H:(List Int)×Int):Option (((List Int)×Int)⊕(List Int)):=(if decide (H.2<O.aT.length)then gd (0<=H.2/\H.2<O.aT.length)<|(wK H.1 (O.aT.getD H.2.toNat aX.zero).aM).bind λ Y=>(rC Y [((O.aT.getD H.2.toNat aX.zero).aJ).mode,((O.aT.getD H.2.toNat aX.zero).aJ).aU]).bind λ U=>some (.inl (U,i64.wrap (H.2+1)))else some (.inr H.1))
def BD(O:List Int)(H:aA):Option (List Int):=(Bh O H.aB.name).bind λ v1=>(rC v1 [H.aB.kind,H.aB.aU,H.aB.home,H.gen,(H.aT.length:Int)]).bind λ v2=>(lY (GJ H) (v2,0)).bind (λ z=>Ki H z)
@[reducible,instance]def bH7 a1 j2:=mkJ (Kh a1 j2,v1) 4 (@NC.eq_1) λ H=>⟨[(0,.sl (H.map (eI u8)))],[],0⟩
@[reducible,instance]def bH8 (H:aA):=mkL x (@GH.eq_1 H) λ O=>⟨[(0,.sl (O.1.map (eI u8))),(84,la H.aW),(85,.int i64 H.aW.length),(86,.int i64 O.2)],[],0⟩
@[reducible,instance]def bH9 (H:aA) j1:=mkJ (Ki H j1,v1) 2 (@Kh.eq_1 H) λ O=>⟨[(0,.sl (O.map (eI u8))),(3,.ptr 0 0 0)],[(0,bx H)],1⟩
@[reducible,instance]def bHa (H:aA):=mkL x (@GI.eq_1 H) λ O=>⟨[(0,.sl (O.1.map (eI u8))),(3,.ptr 0 0 0),(58,la H.aN),(59,.int i64 H.aN.length),(60,.int i64 O.2)],[(0,bx H)],1⟩
@[reducible,instance]def bHb a0 (H:aA):=mkJ ((BD a0 H,v1),v2) 0 (@Ki.eq_1 H) λ j1=>⟨[(0,.sl (j1.map (eI u8))),(3,.ptr 0 0 0)],[(0,bx H)],1⟩
@[reducible,instance]def bHc (H:aA):=mkL x (@GJ.eq_1 H) λ O=>⟨[(0,.sl (O.1.map (eI u8))),(3,.ptr 0 0 0),(32,la H.aT),(33,.int i64 H.aT.length),(34,.int i64 O.2)],[(0,bx H)],1⟩
instance bHd(H:List Int)(O:aA):OkP (BD H O) 158 [.sl (H.map (eI u8)),ga O] (λ r=>.sl (r.map (eI u8))):=ok1 (BD.eq_1 H O) Tryz.f158 []
def z8(H:aR):Option (aK×aR):=(if !decide (H.err=0)then some ({aK.zero with},H)else(uK H.b).bind λ v1=>(if !decide (v1.2.2=0)then some ({aK.zero with},{H with err:=v1.2.2})else gd (0<=v1.2.1/\v1.2.1<=(H.b.length:Int)/\(H.b.length:Int)<=(H.b.length:Int))<|some (v1.1,{H with b:=(H.b.drop v1.2.1.toNat)})))
instance bHe(H:aR):OkM (z8 H) 71 [.ptr 0 0 0] [(0,bx H)] 1 (λ r=>ga r.1) (λ r=>[(0,bx r.2)]) 1:=okm (z8.eq_1 H) (λ r=>[ga r.1]) Tryz.f71 []
def xZ(H:bV):Option (aK×bV):=gd (0<=H.at_/\H.at_<=(H.all.length:Int)/\(H.all.length:Int)<=(H.all.length:Int))<|(uK (H.all.drop H.at_.toNat)).bind λ v1=>some (v1.1,{{H with at_:=(i64.wrap (H.at_+v1.2.1))}with err:=v1.2.2})
instance bHf(H:bV):OkM (xZ H) 168 [.ptr 0 0 0] [(0,bx H)] 1 (λ r=>ga r.1) (λ r=>[(0,bx r.2)]) 1:=okm (xZ.eq_1 H) (λ r=>[ga r.1]) Tryz.f168 []
def Tx(j1:Unit):Option Bool:=some true
def Ty(O U:List bQ)(H:Int):Option (Int⊕(Unit⊕Bool)):=(if decide (H<O.length)then gd (0<=H/\H<O.length)<|gd (0<=H/\H<U.length)<|(J3 (O.getD H.toNat bQ.zero) (U.getD H.toNat bQ.zero)).bind λ v1=>(if !v1 then some (.inr (.inr false))else some (.inl (i64.wrap (H+1))))else some (.inr (.inl ())))
def DZ(H O:List bQ):Option Bool:=(if !decide ((H.length:Int)=(O.length:Int))then some false else(lY (Ty H O) 0).bind (λ|.inl z=>Tx z|.inr z=>some z))
@[reducible,instance]def bHg a0 a1:=mkJ (DZ a0 a1) 0 (@Tx.eq_1) λ j1=>⟨[],[],0⟩
@[reducible,instance]def bHh (H O:List bQ):=mkL x (@Ty.eq_1 H O) λ U=>⟨[(1,la O),(2,.clo 83 []),(15,la H),(16,.int i64 H.length),(17,.int i64 U)],[],0⟩
instance zV5(H O:List bQ):OkM (DZ H O) 82 [la H,la O,.clo 83 []] [] 0 .bool (λ r=>[]) 0:=okm (DZ.eq_1 H O) (λ r=>[.bool r]) Tryz.f82 []
def BE(H:aI):Option Bool:=(vH H.name).bind λ v1=>some (((v1&&zU H)&&decide (0<=H.home))&&decide (H.home<4))
instance bHi(H:aI):OkP (BE H) 185 [ga H] .bool:=ok1 (BE.eq_1 H) Tryz.f185 []
end
end Ab
end Go.Proofs.YtfmnjkfhahfhgaaGreatDoor
