import Derived.Test.YtfmnjkfhahfhgaaGreatDoorHm9
import Derived.Test.YtfmnjkfhahfhgaaGreatDoorHm10
import Derived.Test.YtfmnjkfhahfhgaaGreatDoorHm13
import Derived.Test.YtfmnjkfhahfhgaaGreatDoorSort
namespace Go.Proofs.YtfmnjkfhahfhgaaGreatDoor
namespace Ab
set_option linter.defProp false
open IntKind (i64 u64 u8)
set_option linter.unusedSimpArgs false
set_option linter.unusedVariables false
set_option maxRecDepth 100000
set_option maxHeartbeats 1000000
noncomputable section
variable {T T1 T2 : Type} (x : T) (v1 : T1) (v2 : T2)
def C6(U:aH)(O H:aC):Option Bool:=(if (!(nK U O))||(!(nK U H))then some false else(if oG O||oG H then some (oG H)else(if decide (U.kind=1)then(CF O.mode H.mode).bind λ v1=>some v1 else some (decide (H.aT<=O.aT)))))
instance bFo(H:aH)(O U:aC):OkP (C6 H O U) 287 [ga H,ga O,ga U] .bool:=ok1 (C6.eq_1 H O U) Tryz.f287 []
def rJ(U:aH)(H O:aC):Bool:=(if (!(tM U H))||(!(tM U O))then false else(if nP O then true else(if nP H then false else(if decide (U.kind=1)then(n5 H.mode O.mode)else(decide (O.aT<=H.aT))))))
instance bFp(H:aH)(O U:aC):OkT 204 [.agg (aH.enc H),.agg (aC.enc O),.agg (aC.enc U)] (.bool (rJ H O U)):=ok2 .bool (rJ.eq_1 H O U) Tryz.f204 []
def AT(H:aA):Option (List aK):=(Ao H.aS).bind λ v1=>(As H).bind λ v2=>gd (v1.length+v2.length<=4294967296)<|(yT (v1++v2)).bind λ v3=>some v3
instance bFq(H:aA):OkP (AT H) 134 [ga H] la:=ok1 (AT.eq_1 H) Tryz.f134 []
def Sk(H:Unit):Option Bool:=some true
def C7(O:aZ)(H:Int):Option (Int⊕(Unit⊕Bool)):=(if decide (H<O.bH.length)then gd (0<=H/\H<O.bH.length)<|gd (((!(((decide ((O.bH.getD H.toNat bV.zero).label<1)||decide (99<(O.bH.getD H.toNat bV.zero).label))||decide ((O.bH.getD H.toNat bV.zero).at_<0))||decide ((O.aP.length:Int)<(O.bH.getD H.toNat bV.zero).at_)))&&decide (0<H))=true->0<=i64.wrap (H-1)/\i64.wrap (H-1)<(O.bH.length:Int))<|(if !((((decide ((O.bH.getD H.toNat bV.zero).label<1)||decide (99<(O.bH.getD H.toNat bV.zero).label))||decide ((O.bH.getD H.toNat bV.zero).at_<0))||decide ((O.aP.length:Int)<(O.bH.getD H.toNat bV.zero).at_))||(decide (0<H)&&decide ((O.bH.getD H.toNat bV.zero).at_<(O.bH.getD (i64.wrap (H-1)).toNat bV.zero).at_)))then yL O.bH ((O.bH.getD H.toNat bV.zero).label)else some 0).bind λ v2=>(if ((((decide ((O.bH.getD H.toNat bV.zero).label<1)||decide (99<(O.bH.getD H.toNat bV.zero).label))||decide ((O.bH.getD H.toNat bV.zero).at_<0))||decide ((O.aP.length:Int)<(O.bH.getD H.toNat bV.zero).at_))||(decide (0<H)&&decide ((O.bH.getD H.toNat bV.zero).at_<(O.bH.getD (i64.wrap (H-1)).toNat bV.zero).at_)))||(!decide (v2=H))then some (.inr (.inr false))else some (.inl (i64.wrap (H+1))))else some (.inr (.inl ())))
def FO(H:aZ)(j1:Unit):Option Bool:=(wP H.aP).bind λ v1=>(if decide (8<(v1.length:Int))then some false else(lS (C7 H) 0).bind (λ|.inl z=>Sk z|.inr z=>some z))
def FP(O:aZ)(H:Int):Option (Int⊕(Unit⊕Bool)):=(if decide (H<O.aP.length)then gd (0<=H/\H<O.aP.length)<|(uI (O.aP.getD H.toNat bM.zero).name).bind λ v3=>gd (v3=true->0<=0/\0<=H/\H<=O.aP.length)<|(if v3 then sP (O.aP.take H.toNat) ((O.aP.getD H.toNat bM.zero).name)else some aC.zero).bind λ v4=>(if ((!v3)||(!decide ((O.aP.getD H.toNat bM.zero).before=v4)))||(!(yV (O.aP.getD H.toNat bM.zero).before (O.aP.getD H.toNat bM.zero).after))then some (.inr (.inr false))else some (.inl (i64.wrap (H+1))))else some (.inr (.inl ())))
def tO(H:aZ):Option Bool:=(if decide (72<(H.aP.length:Int))||decide (4<(H.bH.length:Int))then some false else(lS (FP H) 0).bind (λ|.inl z=>FO H z|.inr z=>some z))
@[reducible,instance]def bFv a0 j1:=mkJ (FO a0 j1,v1) 2 (@Sk.eq_1) λ H=>⟨[],[],0⟩
@[reducible,instance]def bFw (H:aZ):=mkL x (@C7.eq_1 H) λ O=>⟨[(1,.ptr 0 0 0),(5,.int i64 O)],[(0,bx H)],1⟩
@[reducible,instance]def bFx (H:aZ):=mkJ (tO H) 0 (@FO.eq_1 H) λ j1=>⟨[(1,.ptr 0 0 0)],[(0,bx H)],1⟩
@[reducible,instance]def bFy (H:aZ):=mkL x (@FP.eq_1 H) λ O=>⟨[(1,.ptr 0 0 0),(3,.int i64 O)],[(0,bx H)],1⟩
instance Sl(H:aZ):OkP (tO H) 98 [ga H] .bool:=ok1 (tO.eq_1 H) Tryz.f98 []
def Mw(O:aR)(H:List aO)(j1:Unit):Option (Nat⊕(Bool×(List aO))):=gd (H.length+1<=4294967296)<|some (.inr (true,H++[O.bA]))
def Ja(U:aR)(O:List aO)(H:Int):Option (Int⊕(Unit⊕(Nat⊕(Bool×(List aO))))):=(if decide (H<((O.length:Nat):Int))then gd (0<=H/\H<((O.length:Nat):Int))<|(if decide (O.getD H.toNat aO.zero=U.bA)then some (.inr (.inr (.inr (true,O))))else some (.inl (i64.wrap (H+1))))else some (.inr (.inl ())))
def Sm(H:(List aO)):Option (Nat⊕(Bool×(List aO))):=some (.inr (true,H))
def FQ(O:(aR->List aO->Option (Nat⊕(Bool×(List aO)))))(U:aR)(H:Int×(List aO)):Option ((Int×(List aO))⊕((List aO)⊕(Nat⊕(Bool×(List aO))))):=(if decide (H.1<U.bG.length)then gd (0<=H.1/\H.1<U.bG.length)<|(O (U.bG.getD H.1.toNat aR.zero) H.2).bind λ v2=>match v2 with | .inl v2=>some (.inr (.inr (.inl H.2.length))) | .inr v2=>(if !v2.1 then some (.inr (.inr (.inl H.2.length)))else some (.inl (i64.wrap (H.1+1),v2.2)))else some (.inr (.inl H.2)))
def vI(U:(aR->List aO->Option (Nat⊕(Bool×(List aO)))))(H:aR)(O:List aO):Option (Nat⊕(Bool×(List aO))):=(if decide ((H.bG.length:Int)=0)then(if decide (H.k=0)then uI H.bA.name else some false).bind λ v1=>(if ((!decide (H.k=0))||(!v1))||(!(pH H.bA.aJ))then some (.inr (false,O))else(lS (Ja H O) 0).bind (λ|.inl z=>Mw H O z|.inr z=>some z))else(if (decide (H.k<1)||decide ((H.bG.length:Int)<H.k))||(!decide (H.bA={aO.zero with}))then some (.inr (false,O))else(lS (FQ U H) (0,O)).bind (λ|.inl z=>Sm z|.inr z=>some z)))
def vJ:Nat->(aR->List aO->Option (Nat⊕(Bool×(List aO))))
 |0=>λ _ _=>none
 |n+1=>vI (vJ n)
def o8(H:aR)(O:List aO):Option (Nat⊕(Bool×(List aO))):=vJ (_root_.SizeOf.sizeOf H+1) H O
@[reducible,instance]def bG4 (O:(aR->List aO->Option (Nat⊕(Bool×(List aO))))) (U:aR) (H:List aO):=mkJ (vI O U H,v1) 0 (@Mw.eq_1 U H) λ j1=>⟨[(0,.own 1 0 H.length),(3,.ptr 2 0 0)],[(1,sx H),(2,bx U)],3⟩
@[reducible,instance]def bG5 (O:aR) (H:List aO):=mkL x (@Ja.eq_1 O H) λ U=>⟨[(0,.own 1 0 H.length),(3,.ptr 2 0 0),(6,.int i64 U)],[(1,sx H),(2,bx O)],3⟩
@[reducible,instance]def bG6 (H:(aR->List aO->Option (Nat⊕(Bool×(List aO))))) (U:aR) (Y:List aO):=mkJ (vI H U Y) 2 (@Sm.eq_1) λ O=>⟨[(0,.own 1 0 O.length)],[(1,sx O)],2⟩
@[reducible,instance]def bG7 (H:(aR->List aO->Option (Nat⊕(Bool×(List aO))))) (U:aR):=mkL x (@FQ.eq_1 H U) λ O=>⟨[(0,.own 1 0 O.2.length),(3,.ptr 2 0 0),(7,.int i64 O.1)],[(1,sx O.2),(2,bx U)],3⟩
abbrev C8(g:(aR->List aO->Option (Nat⊕(Bool×(List aO))))):Prop:=∀(O:aR) (H:List aO),OkL (g O H) 216 [.own 0 0 H.length,.agg (aR.enc O)] [(0,⟨false,3,aO.enc aO.zero,H.map aO.enc⟩)] 1 (λ r=>.tup [.own 1 0 r,.bool false]) (λ r=>[]) 2
abbrev C9(g:(aR->List aO->Option (Nat⊕(Bool×(List aO))))):Prop:=∀(O:aR) (H:List aO),OkR (g O H) 216 [.own 0 0 H.length,.agg (aR.enc O)] [(0,⟨false,3,aO.enc aO.zero,H.map aO.enc⟩)] 1 (λ r=>.tup [.own 1 0 r.2.length,.bool r.1]) (λ r=>[(1,⟨false,3,aO.enc aO.zero,r.2.map aO.enc⟩)]) 2
theorem bGa(H:(aR->List aO->Option (Nat⊕(Bool×(List aO)))))(Y:C8 H)(B:C9 H):C8 (vI H):=λ O U=>⟨λ r h=>by
 refine oR Tryz.f216 [(4,1)] [.own 1 0 r,.bool false] λ E hG F hK=>?_;have hm:Mk (vI H O U):=trivial;unfold vI at h;exact gogo⟩
theorem bGb(H:(aR->List aO->Option (Nat⊕(Bool×(List aO)))))(Y:C8 H)(B:C9 H):C9 (vI H):=λ O U=>⟨λ r h=>by
 refine oR Tryz.f216 [(4,1)] [.own 1 0 r.2.length,.bool r.1] λ E hG F hK=>?_;have hm:Mk (vI H O U):=trivial;unfold vI at h;exact gogo⟩
theorem Sn:∀n,C8 (vJ n)/\C9 (vJ n):=j6 (P:=λ g=>C8 g/\C9 g) ⟨λ _ _=>⟨λ _ h=>nomatch h⟩,λ _ _=>⟨λ _ h=>nomatch h⟩⟩ λ n h=>⟨bGa _ h.1 h.2,bGb _ h.1 h.2⟩
instance So:C8 o8:=λ H O=>(Sn _).1 H O
instance Sp:C9 o8:=λ H O=>(Sn _).2 H O
def Sq(j1:Unit):Option Bool:=some true
def Jb(O:aQ)(H:Int):Option (Int⊕(Unit⊕Bool)):=(if decide (H<O.lower.length)then gd (0<=H/\H<O.lower.length)<|(uI (O.lower.getD H.toNat aO.zero).name).bind λ v1=>gd (((!((!v1)||((!(nP (O.lower.getD H.toNat aO.zero).aJ))&&(!(pH (O.lower.getD H.toNat aO.zero).aJ)))))&&decide (0<H))=true->0<=i64.wrap (H-1)/\i64.wrap (H-1)<(O.lower.length:Int))<|(if ((!v1)||((!(nP (O.lower.getD H.toNat aO.zero).aJ))&&(!(pH (O.lower.getD H.toNat aO.zero).aJ))))||(decide (0<H)&&(Op.bytesLess ((O.lower.getD H.toNat aO.zero).name).toList ((O.lower.getD (i64.wrap (H-1)).toNat aO.zero).name).toList||((O.lower.getD H.toNat aO.zero).name).toList==((O.lower.getD (i64.wrap (H-1)).toNat aO.zero).name).toList))then some (.inr (.inr false))else some (.inl (i64.wrap (H+1))))else some (.inr (.inl ())))
def yX(H:aQ):Option Bool:=(if ((((!(oU H.aL))||((!decide (H.label=(-1)))&&(decide (H.label<1)||decide (99<H.label))))||decide (H.cost<1))||decide (1073741824<H.cost))||decide (8<(H.lower.length:Int))then some false else(lS (Jb H) 0).bind (λ|.inl z=>Sq z|.inr z=>some z))
@[reducible,instance]def bGh a0:=mkJ (yX a0) 0 (@Sq.eq_1) λ j1=>⟨[],[],0⟩
@[reducible,instance]def bGi (H:aQ):=mkL x (@Jb.eq_1 H) λ O=>⟨[(1,.ptr 0 0 0),(3,.int i64 O)],[(0,bx H)],1⟩
instance bGj(H:aQ):OkP (yX H) 57 [ga H] .bool:=ok1 (yX.eq_1 H) Tryz.f57 []
def Jc(j1:Unit):Option Bool:=some true
def FR(O U:aI)(H:Int):Option (Int⊕(Unit⊕Bool)):=(if decide (H<O.aY.length)then gd (0<=H/\H<O.aY.length)<|gd (0<=H/\H<U.aY.length)<|(FA (O.aY.getD H.toNat bQ.zero) (U.aY.getD H.toNat bQ.zero)).bind λ v2=>(if !v2 then some (.inr (.inr false))else some (.inl (i64.wrap (H+1))))else some (.inr (.inl ())))
def vK(H O:aI):Option Bool:=(AI H.aF O.aF).bind λ v1=>(if (!v1)||(!decide ((H.aY.length:Int)=(O.aY.length:Int)))then some false else(lS (FR H O) 0).bind (λ|.inl z=>Jc z|.inr z=>some z))
@[reducible,instance]def bGm a0 a1:=mkJ (vK a0 a1,v1) 0 (@Jc.eq_1) λ j1=>⟨[],[],0⟩
@[reducible,instance]def bGn (H O:aI):=mkL x (@FR.eq_1 H O) λ U=>⟨[(2,.ptr 0 0 0),(3,.ptr 1 0 0),(5,.int i64 U)],[(0,bx H),(1,bx O)],2⟩
instance bGo(H O:aI):OkP (vK H O) 34 [ga H,ga O] .bool:=ok1 (vK.eq_1 H O) Tryz.f34 []
def Sr(j1:Unit):Option Bool:=some true
def AU(O:List aV)(H:Int):Option (Int⊕(Unit⊕Bool)):=(if decide (H<O.length)then gd (0<=H/\H<O.length)<|(if oY (O.getD H.toNat aV.zero)then yG O ((O.getD H.toNat aV.zero).aL)else some 0).bind λ v1=>(if (!(oY (O.getD H.toNat aV.zero)))||(!decide (v1=H))then some (.inr (.inr false))else some (.inl (i64.wrap (H+1))))else some (.inr (.inl ())))
def o9(H:List aV):Option Bool:=(if decide (8<(H.length:Int))then some false else(lS (AU H) 0).bind (λ|.inl z=>Sr z|.inr z=>some z))
@[reducible,instance]def bGq a0:=mkJ (o9 a0) 0 (@Sr.eq_1) λ j1=>⟨[],[],0⟩
@[reducible,instance]def bGr (H:List aV):=mkL x (@AU.eq_1 H) λ O=>⟨[(0,la H),(8,la H),(9,.int i64 H.length),(10,.int i64 O)],[],0⟩
instance bGs(H:List aV):OkP (o9 H) 288 [la H] .bool:=ok1 (o9.eq_1 H) Tryz.f288 []
def bGt:SlLaysF0.n6 C.P ⟨λ|6=>258|15=>278|14=>277|28=>298|29=>299|20=>290|21=>291|22=>292|23=>293|24=>294|25=>295|26=>296|27=>297|46=>306|47=>307|48=>308|49=>309|50=>310|57=>313|n=>n,λ|22=>119|24=>27|25=>161|39=>171|53=>337|55=>78|46=>330|45=>329|50=>334|66=>341|70=>88|76=>351|77=>306|n=>n,λ n=>n⟩ where
 mixed:=oB
 f6:=⟨Tryz.f258.name,by decide,Tryz.func258.trans (eA some (by kernel_rfl))⟩
 f14:=⟨Tryz.f277.name,by decide,Tryz.func277.trans (eA some (by kernel_rfl))⟩
 f15:=Tryz.func278.trans (eA some (by kernel_rfl))
 f20:=⟨Tryz.f290.name,by decide,Tryz.func290.trans (eA some (by kernel_rfl))⟩
 f21:=⟨Tryz.f291.name,by decide,Tryz.func291.trans (eA some (by kernel_rfl))⟩
 f22:=⟨Tryz.f292.name,by decide,Tryz.func292.trans (eA some (by kernel_rfl))⟩
 f23:=⟨Tryz.f293.name,by decide,Tryz.func293.trans (eA some (by kernel_rfl))⟩
 f24:=⟨Tryz.f294.name,by decide,Tryz.func294.trans (eA some (by kernel_rfl))⟩
 f25:=⟨Tryz.f295.name,by decide,Tryz.func295.trans (eA some (by kernel_rfl))⟩
 f26:=⟨Tryz.f296.name,by decide,Tryz.func296.trans (eA some (by kernel_rfl))⟩
 f27:=⟨Tryz.f297.name,by decide,Tryz.func297.trans (eA some (by kernel_rfl))⟩
 f28:=Tryz.func298.trans (eA some (by kernel_rfl))
 f29:=Tryz.func299.trans (eA some (by kernel_rfl))
 f46:=⟨Tryz.f306.name,by decide,Tryz.func306.trans (eA some (by kernel_rfl))⟩
 f47:=Tryz.func307.trans (eA some (by kernel_rfl))
 f48:=Tryz.func308.trans (eA some (by kernel_rfl))
 f49:=⟨Tryz.f309.name,by decide,Tryz.func309.trans (eA some (by kernel_rfl))⟩
 f50:=⟨Tryz.f310.name,by decide,Tryz.func310.trans (eA some (by kernel_rfl))⟩
 f57:=⟨Tryz.f313.name,by decide,Tryz.func313.trans (eA some (by kernel_rfl))⟩
 t0:=Tryz.underlying0
 a0:=Tryz.isAgg0
 z0:=Tryz.sizeOf0
 v0:=Tryz.zeroValue0
 t3:=Tryz.underlying3
 a3:=Tryz.isAgg3
 z3:=Tryz.sizeOf3
 v3:=Tryz.zeroValue3
 t4:=Tryz.underlying4
 a4:=Tryz.isAgg4
 z4:=Tryz.sizeOf4
 v4:=Tryz.zeroValue4
 t5:=Tryz.underlying5
 a5:=Tryz.isAgg5
 z5:=Tryz.sizeOf5
 v5:=Tryz.zeroValue5
 t9:=Tryz.underlying9
 a9:=Tryz.isAgg9
 z9:=Tryz.sizeOf9
 v9:=Tryz.zeroValue9
 t22:=Tryz.underlying119
 a22:=Tryz.isAgg119
 z22:=Tryz.sizeOf119
 v22:=Tryz.zeroValue119
 t25:=Tryz.underlying161
 a25:=Tryz.isAgg161
 z25:=Tryz.sizeOf161
 v25:=Tryz.zeroValue161
 t39:=Tryz.underlying171
 a39:=Tryz.isAgg171
 z39:=Tryz.sizeOf171
 v39:=Tryz.zeroValue171
 t45:=Tryz.underlying329
 a45:=Tryz.isAgg329
 z45:=Tryz.sizeOf329
 v45:=Tryz.zeroValue329
 t46:=Tryz.underlying330
 a46:=Tryz.isAgg330
 z46:=Tryz.sizeOf330
 v46:=Tryz.zeroValue330
 t50:=Tryz.underlying334
 a50:=Tryz.isAgg334
 z50:=Tryz.sizeOf334
 v50:=Tryz.zeroValue334
 t53:=Tryz.underlying337
 a53:=Tryz.isAgg337
 z53:=Tryz.sizeOf337
 v53:=Tryz.zeroValue337
 t55:=Tryz.underlying78
 a55:=Tryz.isAgg78
 z55:=Tryz.sizeOf78
 v55:=Tryz.zeroValue78
 t66:=Tryz.underlying341
 a66:=Tryz.isAgg341
 z66:=Tryz.sizeOf341
 v66:=Tryz.zeroValue341
 t70:=Tryz.underlying88
 a70:=Tryz.isAgg88
 z70:=Tryz.sizeOf88
 v70:=Tryz.zeroValue88
 t76:=Tryz.underlying351
 a76:=Tryz.isAgg351
 z76:=Tryz.sizeOf351
 v76:=Tryz.zeroValue351
 t77:=Tryz.underlying306
 a77:=Tryz.isAgg306
 z77:=Tryz.sizeOf306
 v77:=Tryz.zeroValue306
def Da(H:List aK):Option (List aK):=gd (H.length<=4294967296) (some (H.mergeSort λ x y=>!decide (y.site<x.site\/y.site=x.site/\(y.inc<x.inc\/y.inc=x.inc/\y.num<x.num))))
def bGu(H r:List aK)(h:Da H=some r):r.length=H.length:=by obtain⟨_,h⟩:=lZ h;obtain rfl:=dW h;exact List.length_mergeSort _
def bGv(H r:List aK)(h:Da H=some r):MFn C 258 [.own 0 0 H.length,.clo 182 []] [(0,sx H)] 1 (.tup []) [(0,sx r)] 1:=by
 obtain⟨hl,h⟩:=lZ h;obtain rfl:=dW h;haveI:Inhabited aK:=⟨aK.zero⟩;have e:(λ x y:aK=>!decide (y.site<x.site\/y.site=x.site/\(y.inc<x.inc\/y.inc=x.inc/\y.num<x.num)))=λ x y=>!(ltOf cmpS) y x:=by funext x y;rw[FI];exact eA not (iW.2 kT)
 rw[e];exact bD5 bGt aK.enc 3 aK.len Om (λ x=>(aK.laws x).2.1) Tryz.isAgg27 Tryz.sizeOf27 cmpS bD7 182 (λ x y=>(RQ x y).ok _ (bD9 x y)) (enters_of Tryz.func182 (by kernel_rfl) rfl) rfl _ H hl (λ x _ y _=>bD8 x y)
def Mx(H:(List Int)):Option (List Int):=some H
def FS(O:aA)(H:(List Int)×Int):Option (((List Int)×Int)⊕(List Int)):=(if decide (H.2<O.aW.length)then gd (0<=H.2/\H.2<O.aW.length)<|(vH H.1 (O.aW.getD H.2.toNat aV.zero).aL).bind λ v5=>(qR v5 [((O.aW.getD H.2.toNat aV.zero).aJ).mode,((O.aW.getD H.2.toNat aV.zero).aJ).aT,(O.aW.getD H.2.toNat aV.zero).bD,(O.aW.getD H.2.toNat aV.zero).bS]).bind λ v6=>some (.inl (v6,i64.wrap (H.2+1)))else some (.inr H.1))
def Jd(H:aA)(O:(List Int)):Option (List Int):=(qR O [(H.aW.length:Int)]).bind λ v4=>(lS (FS H) (v4,0)).bind (λ z=>Mx z)
def FT(O:aA)(H:(List Int)×Int):Option (((List Int)×Int)⊕(List Int)):=(if decide (H.2<O.aN.length)then gd (0<=H.2/\H.2<O.aN.length)<|(vH H.1 (O.aN.getD H.2.toNat aV.zero).aL).bind λ U=>(qR U [((O.aN.getD H.2.toNat aV.zero).aJ).mode,((O.aN.getD H.2.toNat aV.zero).aJ).aT]).bind λ Y=>some (.inl (Y,i64.wrap (H.2+1)))else some (.inr H.1))
def Je(H:aA)(j1:(List Int)):Option (List Int):=(qR j1 [(H.aN.length:Int)]).bind λ v3=>(lS (FT H) (v3,0)).bind (λ z=>Jd H z)
def FU(O:aA)(H:(List Int)×Int):Option (((List Int)×Int)⊕(List Int)):=(if decide (H.2<O.aS.length)then gd (0<=H.2/\H.2<O.aS.length)<|(vH H.1 (O.aS.getD H.2.toNat aX.zero).aL).bind λ Y=>(qR Y [((O.aS.getD H.2.toNat aX.zero).aJ).mode,((O.aS.getD H.2.toNat aX.zero).aJ).aT]).bind λ U=>some (.inl (U,i64.wrap (H.2+1)))else some (.inr H.1))
def AV(O:List Int)(H:aA):Option (List Int):=(Az O H.aB.name).bind λ v1=>(qR v1 [H.aB.kind,H.aB.aT,H.aB.home,H.gen,(H.aS.length:Int)]).bind λ v2=>(lS (FU H) (v2,0)).bind (λ z=>Je H z)
@[reducible,instance]def bGx a1 j2:=mkJ (Jd a1 j2,v1) 4 (@Mx.eq_1) λ H=>⟨[(0,.sl (H.map (eI u8)))],[],0⟩
@[reducible,instance]def bGy (H:aA):=mkL x (@FS.eq_1 H) λ O=>⟨[(0,.sl (O.1.map (eI u8))),(84,la H.aW),(85,.int i64 H.aW.length),(86,.int i64 O.2)],[],0⟩
@[reducible,instance]def bGz (H:aA) j1:=mkJ (Je H j1,v1) 2 (@Jd.eq_1 H) λ O=>⟨[(0,.sl (O.map (eI u8))),(3,.ptr 0 0 0)],[(0,bx H)],1⟩
@[reducible,instance]def bH0 (H:aA):=mkL x (@FT.eq_1 H) λ O=>⟨[(0,.sl (O.1.map (eI u8))),(3,.ptr 0 0 0),(58,la H.aN),(59,.int i64 H.aN.length),(60,.int i64 O.2)],[(0,bx H)],1⟩
@[reducible,instance]def bH1 a0 (H:aA):=mkJ ((AV a0 H,v1),v2) 0 (@Je.eq_1 H) λ j1=>⟨[(0,.sl (j1.map (eI u8))),(3,.ptr 0 0 0)],[(0,bx H)],1⟩
@[reducible,instance]def bH2 (H:aA):=mkL x (@FU.eq_1 H) λ O=>⟨[(0,.sl (O.1.map (eI u8))),(3,.ptr 0 0 0),(32,la H.aS),(33,.int i64 H.aS.length),(34,.int i64 O.2)],[(0,bx H)],1⟩
instance bH3(H:List Int)(O:aA):OkP (AV H O) 158 [.sl (H.map (eI u8)),ga O] (λ r=>.sl (r.map (eI u8))):=ok1 (AV.eq_1 H O) Tryz.f158 []
def Jf(H:aU):Option (aK×aU):=(if !decide (H.err=0)then some ({aK.zero with},H)else(AN H.b).bind λ v1=>(if !decide (v1.2.2=0)then some ({aK.zero with},{H with err:=v1.2.2})else gd (0<=v1.2.1/\v1.2.1<=(H.b.length:Int)/\(H.b.length:Int)<=(H.b.length:Int))<|some (v1.1,{H with b:=(H.b.drop v1.2.1.toNat)})))
instance bH4(H:aU):OkM (Jf H) 71 [.ptr 0 0 0] [(0,bx H)] 1 (λ r=>ga r.1) (λ r=>[(0,bx r.2)]) 1:=okm (Jf.eq_1 H) (λ r=>[ga r.1]) Tryz.f71 []
def Jg(H:bW):Option (aK×bW):=gd (0<=H.at_/\H.at_<=(H.all.length:Int)/\(H.all.length:Int)<=(H.all.length:Int))<|(AN (H.all.drop H.at_.toNat)).bind λ v1=>some (v1.1,{{H with at_:=(i64.wrap (H.at_+v1.2.1))}with err:=v1.2.2})
instance bH5(H:bW):OkM (Jg H) 168 [.ptr 0 0 0] [(0,bx H)] 1 (λ r=>ga r.1) (λ r=>[(0,bx r.2)]) 1:=okm (Jg.eq_1 H) (λ r=>[ga r.1]) Tryz.f168 []
def Ss(j1:Unit):Option Bool:=some true
def Su(O U:List bQ)(H:Int):Option (Int⊕(Unit⊕Bool)):=(if decide (H<O.length)then gd (0<=H/\H<O.length)<|gd (0<=H/\H<U.length)<|(IZ (O.getD H.toNat bQ.zero) (U.getD H.toNat bQ.zero)).bind λ v1=>(if !v1 then some (.inr (.inr false))else some (.inl (i64.wrap (H+1))))else some (.inr (.inl ())))
def Db(H O:List bQ):Option Bool:=(if !decide ((H.length:Int)=(O.length:Int))then some false else(lS (Su H O) 0).bind (λ|.inl z=>Ss z|.inr z=>some z))
@[reducible,instance]def bH6 a0 a1:=mkJ (Db a0 a1) 0 (@Ss.eq_1) λ j1=>⟨[],[],0⟩
@[reducible,instance]def bH7 (H O:List bQ):=mkL x (@Su.eq_1 H O) λ U=>⟨[(1,la O),(2,.clo 83 []),(15,la H),(16,.int i64 H.length),(17,.int i64 U)],[],0⟩
instance zS8(H O:List bQ):OkM (Db H O) 82 [la H,la O,.clo 83 []] [] 0 .bool (λ r=>[]) 0:=okm (Db.eq_1 H O) (λ r=>[.bool r]) Tryz.f82 []
def AX(H:aH):Option Bool:=(uI H.name).bind λ v1=>some (((v1&&yI H)&&decide (0<=H.home))&&decide (H.home<4))
instance bH8(H:aH):OkP (AX H) 185 [ga H] .bool:=ok1 (AX.eq_1 H) Tryz.f185 []
end
end Ab
end Go.Proofs.YtfmnjkfhahfhgaaGreatDoor
