import Derived.Test.YtfmnjkfhahfhgaaGreatDoorHm10
import Derived.Test.YtfmnjkfhahfhgaaGreatDoorSort
namespace Go.Proofs.YtfmnjkfhahfhgaaGreatDoor
namespace Ab
open Tryz
set_option linter.all false
open IntKind (i64 u64 u8)
set_option maxRecDepth 100000
set_option maxHeartbeats 1000000
noncomputable section
variable {T T1 T2 : Type} (x : T) (v1 : T1) (v2 : T2)
def ltS(x y:aK):Prop:=x.site<y.site\/x.site=y.site/\(x.inc<y.inc\/x.inc=y.inc/\x.num<y.num)
instance(x y:aK):Decidable (ltS x y):=by unfold ltS;infer_instance
def cmpS(x y:aK):Int:=if ltS x y then-1 else if ltS y x then 1 else 0
def HF(x y:aK):ltOf cmpS x y=decide (ltS x y):=by
 unfold ltOf cmpS
 by_cases h:ltS x y
 .simp[h]
 .by_cases H:ltS y x<;>simp[h,H]
def bDc:Go.Sort.SWO (ltOf cmpS) where
 irrefl x:=by rw[HF];simp[ltS]
 trans x y z h1 h2:=by rw[HF,cB]at*;unfold ltS at*;omega
 ntrans x y z h1 h2:=by rw[HF,dE]at*;unfold ltS at*;omega
def bDd(x y:aK)(H:ltOf cmpS x y=false)(O:ltOf cmpS y x=false):x=y:=by rw[HF,dE]at*;unfold ltS at*;rw[aK.ext_iff];omega
def bDe(p q:aK):yQ p q=some (cmpS p q):=by
 unfold yQ Cf;have e:∀(x y z:Int) (i:Nat) (h:[x,y,z].length=3),Arr.get (⟨[x,y,z],h⟩:Arr Int 3) i 0=match i with|0=>x|1=>y|_=>z:=by
  intro x y z i h
  match i with
  |0=>rfl
  |1=>rfl
  |2=>rfl
  |n+3=>
    have:¬(n+3<3):=om
    simp[Arr.get,pB,this]
 have w1:i64.wrap (0+1)=1:=by decide
 have w2:i64.wrap (1+1)=2:=by decide
 have w3:i64.wrap (2+1)=3:=by decide
 have s3:sE ⟨[p.site,p.inc,p.num],rfl⟩ ⟨[q.site,q.inc,q.num],rfl⟩ 3=some (.inr (.inl ())):=by unfold sE;simp
 have s2:sE ⟨[p.site,p.inc,p.num],rfl⟩ ⟨[q.site,q.inc,q.num],rfl⟩ 2=some (if p.num<q.num then .inr (.inr (-1))else if q.num<p.num then .inr (.inr 1)else .inl 3):=by
  unfold sE;rw[cA Om,mL Om,mL Om,mL Om];simp only[e,show(2:Int).toNat=2 from rfl,cB,w3]
  by_cases h:p.num<q.num
  .simp[h]
  .by_cases H:q.num<p.num<;>simp[h,H]
 have F:sE ⟨[p.site,p.inc,p.num],rfl⟩ ⟨[q.site,q.inc,q.num],rfl⟩ 1=some (if p.inc<q.inc then .inr (.inr (-1))else if q.inc<p.inc then .inr (.inr 1)else .inl 2):=by
  unfold sE;rw[cA Om,mL Om,mL Om,mL Om];simp only[e,show(1:Int).toNat=1 from rfl,cB,w2]
  by_cases h:p.inc<q.inc
  .simp[h]
  .by_cases H:q.inc<p.inc<;>simp[h,H]
 have O:sE ⟨[p.site,p.inc,p.num],rfl⟩ ⟨[q.site,q.inc,q.num],rfl⟩ 0=some (if p.site<q.site then .inr (.inr (-1))else if q.site<p.site then .inr (.inr 1)else .inl 1):=by
  unfold sE;rw[cA Om,mL Om,mL Om,mL Om];simp only[e,show(0:Int).toNat=0 from rfl,cB,w1]
  by_cases h:p.site<q.site
  .simp[h]
  .by_cases H:q.site<p.site<;>simp[h,H]
 unfold cmpS ltS
 by_cases U:p.site<q.site
 .rw[mP,O];simp[U]
 · by_cases B:q.site<p.site
   · rw[mP,O]
     have:¬p.site=q.site:=om
     simp[U,B,this]
   · have Y:p.site=q.site:=om
     by_cases M:p.inc<q.inc
     .rw[mP,O];simp only[U,B,cI];rw[mP,F];simp[M,Y]
     · by_cases b2:q.inc<p.inc
       · have:¬p.inc=q.inc:=om
         rw[mP,O];simp only[U,B,cI];rw[mP,F];simp[M,b2,Y,this]
       · have H:p.inc=q.inc:=om
         rw[mP,O];simp only[U,B,cI];rw[mP,F];simp only[M,b2,cI];rw[mP,s2]
         by_cases c1:p.num<q.num
         .simp[c1,Y,H]
         · by_cases c2:q.num<p.num
           .simp[c1,c2,Y,H]
           .simp only[c1,c2,cI];rw[mP,s3];simp[Y,H,KC]
def Ui(j1:(List Int)):Option (List Int):=some j1
def yS(O:aK)(H:Int×(List Int)):Option ((Int×(List Int))⊕(List Int)):=(if decide (H.1<3)then gd (0<=H.1/\H.1<3)<|(pN H.2 (u64.wrap (Arr.get (⟨[O.site,O.inc,O.num],rfl⟩:Arr Int 3) H.1.toNat 0))).bind λ v1=>some (.inl (i64.wrap (H.1+1),v1))else some (.inr H.2))
def AS(H:List Int)(O:aK):Option (List Int):=gd (H.length<=4294967296)<|(if !(mV O)then some H else(mF (yS O) (0,H)).bind (λ z=>Ui z))
abbrev bDg a0 a1:=mkJ (AS a0 a1) 0 (@Ui.eq_1) λ j1=>⟨[(5,.own 0 0 j1.length)],[(0,⟨false,1,[A.int u8 0],j1.map (eI u8)⟩)],1⟩
abbrev bDh (H:aK):=mkL x (@yS.eq_1 H) λ O=>⟨[(5,.own 0 0 O.2.length),(20,.agg (Arr.enc (eI i64) (⟨[H.site,H.inc,H.num],rfl⟩:Arr Int 3))),(21,.int i64 O.1)],[(0,⟨false,1,[A.int u8 0],O.2.map (eI u8)⟩)],1⟩
attribute[instance]bDg bDh
instance bDi(H:List Int)(O:aK):OkM (AS H O) 102 [.sl (H.map (eI u8)),ga O] [] 0 (λ r=>.own 0 0 r.length) (λ r=>[(0,⟨false,1,[A.int u8 0],r.map (eI u8)⟩)]) 1:=okm (AS.eq_1 H O) (λ r=>[.own 0 0 r.length]) f102 [(4,1)]
def HG(j1:Int×(Arr Int 3)):Option (aK×Int×Int):=(if !(mV (⟨Arr.get j1.2 0 0,Arr.get j1.2 1 0,Arr.get j1.2 2 0⟩:aK))then some ({aK.zero with},0,2)else some ((⟨Arr.get j1.2 0 0,Arr.get j1.2 1 0,Arr.get j1.2 2 0⟩:aK),j1.1,0))
def qK(O:List Int)(H:Int×Int×(Arr Int 3)):Option ((Int×Int×(Arr Int 3))⊕((Int×(Arr Int 3))⊕(aK×Int×Int))):=(if decide (H.2.1<3)then gd (0<=H.1/\H.1<=(O.length:Int)/\(O.length:Int)<=(O.length:Int))<|(sL (O.drop H.1.toNat)).bind λ v1=>(if !decide (v1.2.2=0)then some (.inr (.inr ({aK.zero with},0,v1.2.2)))else gd (0<=H.2.1/\H.2.1<3)<|some (.inl (i64.wrap (H.1+v1.2.1),i64.wrap (H.2.1+1),Arr.put H.2.2 H.2.1.toNat (i64.wrap (if 1073741824<v1.1 then 1073741824 else v1.1)))))else some (.inr (.inl (H.1,H.2.2))))
def tM(H:List Int):Option (aK×Int×Int):=(mF (qK H) (0,0,Arr.rep 3 0)).bind (λ|.inl z=>HG z|.inr z=>some z)
abbrev bDk a0:=mkJ (tM a0) 0 (@HG.eq_1) λ j1=>⟨[(2,.ptr 0 0 0),(5,.ptr 1 0 0),(6,.int i64 j1.1)],[(0,bx aK.zero),(1,⟨false,3,Arr.enc (eI i64) (Arr.rep 3 0),[Arr.enc (eI i64) j1.2]⟩)],2⟩
abbrev bDl (O:List Int):=mkL x (@qK.eq_1 O) λ H=>⟨[(0,.sl (O.map (eI u8))),(2,.ptr 0 0 0),(5,.ptr 1 0 0),(6,.int i64 H.1),(12,.int i64 H.2.1)],[(0,bx aK.zero),(1,⟨false,3,Arr.enc (eI i64) (Arr.rep 3 0),[Arr.enc (eI i64) H.2.2]⟩)],2⟩
attribute[instance]bDk bDl
instance bDm(H:List Int):OkP (tM H) 115 [.sl (H.map (eI u8))] (λ r=>.tup [ga r.1,.int i64 r.2.1,.int i64 r.2.2]):=ok1 (tM.eq_1 H) f115 []
def uV(H:aX):Option (ByteArray×aX):=(if !decide (H.bC.err=0)then some ((⟨#[]⟩:ByteArray),H)else(vV H.bC.rest).bind λ v1=>(if !decide (v1.2.2=0)then some ((⟨#[]⟩:ByteArray),{H with bC:={H.bC with err:=v1.2.2}})else gd (0<=v1.2.1/\v1.2.1<=(H.bC.rest.length:Int)/\(H.bC.rest.length:Int)<=(H.bC.rest.length:Int))<|some (v1.1,{H with bC:={H.bC with rest:=(H.bC.rest.drop v1.2.1.toNat)}})))
instance Uj(H:aX):OkM (uV H) 218 [.ptr 0 0 0] [(0,bx H)] 1 (λ r=>.str r.1) (λ r=>[(0,bx r.2)]) 1:=okm (uV.eq_1 H) (λ r=>[.str r.1]) f218 []
def CD(H O:bR):Option Bool:=(if decide (H.aM=O.aM)&&decide (H.gen=O.gen)then KR H.bU O.bU else some false).bind λ v1=>some ((decide (H.aM=O.aM)&&decide (H.gen=O.gen))&&v1)
instance bDo(H O:bR):OkP (CD H O) 83 [ga H,ga O] .bool:=ok1 (CD.eq_1 H O) f83 []
def Uk(j1:Unit):Option Bool:=some true
def ER(O:ByteArray)(H:Int):Option (Int⊕(Unit⊕Bool)):=(if decide (H<(O.size:Int))then gd (0<=H/\H<(O.size:Int))<|(if !(uT ((O.toList.getD H.toNat 0).toNat:Int))then some (.inr (.inr false))else some (.inl (i64.wrap (H+1))))else some (.inr (.inl ())))
def vX(H:ByteArray):Option Bool:=gd ((!(decide ((H.size:Int)<1)||decide (12<(H.size:Int))))=true->0<=0/\0<(H.size:Int))<|(if ((decide ((H.size:Int)<1)||decide (12<(H.size:Int)))||(!(AJ ((H.toList.getD 0 0).toNat:Int))))||AG H then some false else(mF (ER H) 0).bind (λ|.inl z=>Uk z|.inr z=>some z))
abbrev bDq a0:=mkJ (vX a0) 0 (@Uk.eq_1) λ j1=>⟨[],[],0⟩
abbrev bDr (H:ByteArray):=mkL x (@ER.eq_1 H) λ O=>⟨[(0,.str H),(3,.int i64 O)],[],0⟩
attribute[instance]bDq bDr
instance Ul(H:ByteArray):OkP (vX H) 54 [.str H] .bool:=ok1 (vX.eq_1 H) f54 []
def uW(H:aJ)(O:aC):Bool:=(l5 H&&(oG O||qW H O))
instance bDt(H:aJ)(O:aC):OkT 242 [.agg (aJ.enc H),.agg (aC.enc O)] (.bool (uW H O)):=ok2 .bool (uW.eq_1 H O) f242 []
def n8(H O:aC):Bool:=(if (!(pX O))||decide (H=O)then false else(if decide (H={aC.zero with})then true else(if !(pX H)then false else(if !decide (H.mode=0)then(AQ O.mode H.mode)else(decide (H.aU<O.aU))))))
instance bDu(H O:aC):OkT 153 [.agg (aC.enc H),.agg (aC.enc O)] (.bool (n8 H O)):=ok2 .bool (n8.eq_1 H O) f153 []
def Um(H:bD)(j1:(List aG)):Option (Int×bD):=some (0,(⟨(⟨H.c.now,H.c.aF,j1⟩:bF),H.ev⟩:bD))
def K2(H:Int×(List aG)):Option ((Int×(List aG))⊕(List aG)):=gd (decide (0<H.1)=true->0<=i64.wrap (H.1-1)/\i64.wrap (H.1-1)<((H.2.length:Nat):Int))<|gd (decide (0<H.1)=true->0<=H.1/\H.1<((H.2.length:Nat):Int))<|(if decide (0<H.1)&&decide (0<vW (H.2.getD (i64.wrap (H.1-1)).toNat aG.zero).aM (H.2.getD H.1.toNat aG.zero).aM)then gd (0<=H.1/\H.1<((H.2.length:Nat):Int))<|gd (0<=i64.wrap (H.1-1)/\i64.wrap (H.1-1)<((H.2.length:Nat):Int))<|gd (0<=H.1/\H.1<((H.2.length:Nat):Int))<|gd (0<=i64.wrap (H.1-1)/\i64.wrap (H.1-1)<((H.2.length:Nat):Int))<|some (.inl (i64.wrap (H.1-1),(H.2.set H.1.toNat (H.2.getD (i64.wrap (H.1-1)).toNat aG.zero)).set (i64.wrap (H.1-1)).toNat (H.2.getD H.1.toNat aG.zero)))else some (.inr H.2))
def AT(O:aK)(U:Int)(H:bD):Option (Int×bD):=(if ((!(pJ O))||decide (U<1))||decide (1000<U)then some (1,H)else(yN H.c.aD O).bind λ v1=>(if decide (0<=v1)then some (11,H)else(if decide (((H.c.aD.length:Nat):Int)=8)then some (4,H)else gd (H.c.aD.length+1<=4294967296)<|(mF K2 (i64.wrap (((H.c.aD.length+1:Nat):Int)-1),H.c.aD++[{aG.zero with aM:=O,cost:=U}])).bind (λ z=>Um H z))))
abbrev bDx a0 a1 (H:bD):=mkJ (AT a0 a1 H,v1) 0 (@Um.eq_1 H) λ j1=>⟨[(0,.ptr 0 0 0),(7,.own 3 0 j1.length)],[(0,⟨false,4,bD.enc bD.zero,[[.int i64 H.c.now,la H.c.aF,.own 1 0 H.c.aD.length,.own 4 0 H.ev.length]]⟩),(3,sx j1),(4,sx H.ev)],5⟩
abbrev bDy a0 a1 (H:bD):=mkL (AT a0 a1 H,v1) (@K2.eq_1) λ O=>⟨[(0,.ptr 0 0 0),(7,.own 3 0 O.2.length),(8,.int i64 O.1)],[(0,⟨false,4,bD.enc bD.zero,[[.int i64 H.c.now,la H.c.aF,.own 1 0 H.c.aD.length,.own 4 0 H.ev.length]]⟩),(3,sx O.2),(4,sx H.ev)],5⟩
attribute[instance]bDx bDy
instance bDz(O:aK)(U:Int)(H:bD):OkM (AT O U H) 186 [.ptr 0 0 0,ga O,.int i64 U] [(0,⟨false,4,bD.enc bD.zero,[[.int i64 H.c.now,la H.c.aF,.own 1 0 H.c.aD.length,.own 2 0 H.ev.length]]⟩),(1,sx H.c.aD),(2,sx H.ev)] 3 (λ r=>.int i64 r.1) (λ r=>[(0,⟨false,4,bD.enc bD.zero,[[.int i64 r.2.c.now,la r.2.c.aF,.own 3 0 r.2.c.aD.length,.own 4 0 r.2.ev.length]]⟩),(3,sx r.2.c.aD),(4,sx r.2.ev)]) 5:=okm (AT.eq_1 O U H) (λ r=>[.int i64 r.1]) f186 []
def AU(H:aA)(O:aK):Option Bool:=(uR H O).bind λ v1=>(if !v1.2 then sF H O else some aC.zero).bind λ v2=>some (v1.2||(!(oG v2)))
instance bE0(H:aA)(O:aK):OkP (AU H O) 150 [ga H,ga O] .bool:=ok1 (AU.eq_1 H O) f150 []
def ES(H:aJ):Option Bool:=(wY H.name).bind λ v1=>some (((v1&&oI H)&&decide (0<=H.home))&&decide (H.home<4))
instance bE1(H:aJ):OkP (ES H) 268 [ga H] .bool:=ok1 (ES.eq_1 H) f268 []
def oB(H:aJ)(O:aC):Bool:=(oI H&&(oW O||mS H O))
instance bE2(H:aJ)(O:aC):OkT 300 [.agg (aJ.enc H),.agg (aC.enc O)] (.bool (oB H O)):=ok2 .bool (oB.eq_1 H O) f300 []
def CE(H:aO):Option Bool:=(wY H.name).bind λ v1=>some (v1&&(mS ({aJ.zero with kind:=1,aU:=1}) H.aI||mS ({aJ.zero with kind:=2,aU:=8}) H.aI))
instance bE3(H:aO):OkP (CE H) 255 [ga H] .bool:=⟨λ r h=>by
 refine oT f255 [] λ E hG O hK=>?_;have hm:Mk (CE H):=trivial;unfold CE at h;exact gogo⟩
def Un(j1:(List Int)):Option (List Int):=some j1
def yT(O:aK)(H:(List Int)×Int):Option (((List Int)×Int)⊕(List Int)):=(if decide (H.2<3)then gd (0<=H.2/\H.2<3)<|(uQ H.1 (u64.wrap (Arr.get (⟨[O.site,O.inc,O.num],rfl⟩:Arr Int 3) H.2.toNat 0))).bind λ v1=>some (.inl (v1,i64.wrap (H.2+1)))else some (.inr H.1))
def wZ(H:List Int)(O:aK):Option (List Int):=gd (H.length<=4294967296)<|(if !(mV O)then some H else(mF (yT O) (H,0)).bind (λ z=>Un z))
abbrev bE5 (H:List Int) (O:aK):=mkJ (wZ H O) 0 (@Un.eq_1) λ j1=>⟨[(5,.sl (j1.map (eI u8)))],[],0⟩
abbrev bE6 (H:aK):=mkL x (@yT.eq_1 H) λ O=>⟨[(5,.sl (O.1.map (eI u8))),(20,.agg (Arr.enc (eI i64) (⟨[H.site,H.inc,H.num],rfl⟩:Arr Int 3))),(21,.int i64 O.2)],[],0⟩
attribute[instance]bE5 bE6
instance bE7(H:List Int)(O:aK):OkP (wZ H O) 102 [.sl (H.map (eI u8)),ga O] (λ r=>.sl (r.map (eI u8))):=⟨λ r h=>by
 refine oT f102 [(27,1)] λ E hG Y hK=>?_;have hm:Mk (wZ H O):=trivial;unfold wZ at h;refine zq ?_;refine mD ?_;obtain⟨U,h⟩:=mM h;refine mE hG ?_;refine g_gh (.fz [1]) ?_;exact gogo⟩
def uX:List ByteArray:=[(⟨#[97]⟩:ByteArray),(⟨#[98]⟩:ByteArray),(⟨#[99]⟩:ByteArray),(⟨#[100]⟩:ByteArray)]
def Ow(j1:bM×(List aJ)):Option ((List aJ)×bM):=(nY 8 j1.1).bind λ v1=>(nY 4 v1.2).bind λ v2=>gd (j1.2.length+1<=4294967296)<|(nY 3 v2.2).bind λ v3=>(nY 4 v3.2).bind λ v4=>gd (j1.2.length+1+1<=4294967296)<|some ((j1.2++[(⟨(⟨#[112]⟩:ByteArray),2,i64.wrap (1+v1.1),v2.1⟩:aJ)])++[(⟨(⟨#[113]⟩:ByteArray),2,i64.wrap (1+v3.1),v4.1⟩:aJ)],v4.2)
def ET(H:Int×bM×(List aJ)):Option ((Int×bM×(List aJ))⊕(bM×(List aJ))):=(if decide (H.1<uX.length)then gd (0<=H.1/\H.1<uX.length)<|(nY 4 H.2.1).bind λ v5=>gd (H.2.2.length+1<=4294967296)<|some (.inl (i64.wrap (H.1+1),v5.2,H.2.2++[(⟨uX.getD H.1.toNat ⟨#[]⟩,1,1,v5.1⟩:aJ)]))else some (.inr (H.2.1,H.2.2)))
def AV(H:bM):Option ((List aJ)×bM):=(mF ET (0,H,[])).bind (λ z=>Ow z)
abbrev bE9 (H:bM):=mkJ (AV H) 0 (@Ow.eq_1) λ j1=>⟨[(0,.ptr 0 0 0),(3,.own 1 0 j1.2.length)],[(0,bx j1.1),(1,sx j1.2)],2⟩
abbrev bEa:=mkL x (@ET.eq_1) λ H=>⟨[(0,.ptr 0 0 0),(3,.own 1 0 H.2.2.length),(4,.full (uX.map eS)),(5,.int i64 H.1)],[(0,bx H.2.1),(1,sx H.2.2)],2⟩
attribute[instance]bE9 bEa
instance bEb(H:bM):OkM (AV H) 40 [.ptr 0 0 0] [(0,bx H)] 1 (λ r=>la r.1) (λ r=>[(0,bx r.2)]) 1:=⟨λ r h=>by
 refine pF f40 [(3,1)] [la r.1] λ E hG B hK=>?_;have hm:Mk (AV H):=trivial;unfold AV at h;refine zq ?_;refine zq ?_;refine zq ?_;refine g_gh (.cast 4 (.full (uX.map eS))) ?_;refine mD (zq ?_);refine yK hm h (λ j1 hm h=>?_) ?_
 · try refine g_st ?_
   refine zq ?_;obtain⟨v1,O,h⟩:=mG h;have hm:=mkP hm v1;refine mU [(0,0)] [] [0] ((qP 8 j1.1).ok _ O) rfl rfl ?_;obtain⟨v2,hv2,h⟩:=mG h;have hm:=mkP hm v2;obtain⟨U,h⟩:=mM h;refine mU [(0,0)] [] [0] ((qP 4 v1.2).ok _ hv2) rfl rfl ?_;refine zq ?_;obtain⟨v3,hv3,h⟩:=mG h;have hm:=mkP hm v3;refine mU [(0,0)] [] [0] ((qP 3 v2.2).ok _ hv3) rfl rfl ?_;obtain⟨v4,hv4,h⟩:=mG h;have hm:=mkP hm v4;obtain⟨Y,h⟩:=mM h;refine mU [(0,0)] [] [0] ((qP 4 v3.2).ok _ hv4) rfl rfl ?_;refine g_gh (.fz [3]) ?_;exact gogo
 exact gogo⟩
def n9(H:aJ)(O:Int):Option aC:=(if decide (H.kind=1)then(Cp O).bind λ v1=>some ({aC.zero with mode:=v1})else(vR O H.aU).bind λ v2=>some ({aC.zero with aU:=(i64.wrap (1+v2))}))
instance Ox(H:aJ)(O:Int):OkP (n9 H O) 19 [ga H,.int i64 O] ga:=ok1 (n9.eq_1 H O) f19 []
def Oy(H:aK)(O:aC)(j1:Bool×(List bA)):Option (List bA):=(if !j1.1 then gd (j1.2.length+1<=4294967296)<|some (j1.2++[(⟨H,O⟩:bA)])else some j1.2)
def HH(O:List bA)(U:aK)(Y:aC)(H:Bool×Int×(List bA)):Option ((Bool×Int×(List bA))⊕(Bool×(List bA))):=(if decide (H.2.1<O.length)then gd (0<=H.2.1/\H.2.1<O.length)<|(if decide ((O.getD H.2.1.toNat bA.zero).aM=U)then some (.inl (H.1,i64.wrap (H.2.1+1),H.2.2))else gd ((!H.1)=true->0<=H.2.1/\H.2.1<O.length)<|(if (!H.1)&&decide (0<vW (O.getD H.2.1.toNat bA.zero).aM U)then gd (H.2.2.length+1<=4294967296)<|gd (0<=H.2.1/\H.2.1<O.length)<|gd (H.2.2.length+1+1<=4294967296)<|some (.inl (true,i64.wrap (H.2.1+1),(H.2.2++[(⟨U,Y⟩:bA)])++[O.getD H.2.1.toNat bA.zero]))else gd (0<=H.2.1/\H.2.1<O.length)<|gd (H.2.2.length+1<=4294967296)<|some (.inl (H.1,i64.wrap (H.2.1+1),H.2.2++[O.getD H.2.1.toNat bA.zero]))))else some (.inr (H.1,H.2.2)))
def yU(U:List bA)(O:aK)(H:aC):Option (List bA):=(mF (HH U O H) (oG H,0,[])).bind (λ z=>Oy O H z)
abbrev bEf a0 (H:aK) (O:aC):=mkJ (yU a0 H O) 0 (@Oy.eq_1 H O) λ j1=>⟨[(4,.ptr 0 0 0),(5,.ptr 1 0 0),(7,.own 2 0 j1.2.length),(8,.bool j1.1)],[(0,bx H),(1,bx O),(2,sx j1.2)],3⟩
abbrev bEg (O:List bA) (U:aK) (Y:aC):=mkL x (@HH.eq_1 O U Y) λ H=>⟨[(0,la O),(4,.ptr 0 0 0),(5,.ptr 1 0 0),(7,.own 2 0 H.2.2.length),(8,.bool H.1),(9,.int i64 H.2.1)],[(0,bx U),(1,bx Y),(2,sx H.2.2)],3⟩
attribute[instance]bEf bEg
instance bEh(H:List bA)(O:aK)(U:aC):OkP (yU H O U) 209 [la H,ga O,ga U] la:=ok1 (yU.eq_1 H O U) f209 [(7,1)]
def Uo(j1:(List aO)):Option (List aO):=some j1
def K3(O:List aA)(U:aK)(H:Int×(List aO)):Option ((Int×(List aO))⊕(List aO)):=(if decide (H.1<O.length)then gd (0<=H.1/\H.1<O.length)<|(uR (O.getD H.1.toNat aA.zero) U).bind λ v1=>(if v1.2 then gd (0<=H.1/\H.1<O.length)<|gd (H.2.length+1<=4294967296)<|some (.inl (i64.wrap (H.1+1),H.2++[(⟨((O.getD H.1.toNat aA.zero).aB).name,v1.1⟩:aO)]))else some (.inl (i64.wrap (H.1+1),H.2)))else some (.inr H.2))
def CF(H:List aA)(O:aK):Option (List aO):=(mF (K3 H O) (0,[])).bind (λ z=>Uo z)
abbrev bEk a0 a1:=mkJ (CF a0 a1) 0 (@Uo.eq_1) λ j1=>⟨[(5,.own 0 0 j1.length)],[(0,sx j1)],1⟩
abbrev bEl (O:List aA) (U:aK):=mkL x (@K3.eq_1 O U) λ H=>⟨[(0,la O),(3,.ptr 0 0 0),(5,.own 1 0 H.2.length),(6,.int i64 H.1)],[(0,bx U),(1,sx H.2)],2⟩
attribute[instance]bEk bEl
instance bEm(H:List aA)(O:aK):OkP (CF H O) 141 [la H,ga O] la:=ok1 (CF.eq_1 H O) f141 [(5,1)]
def Up(j1:Unit):Option Int:=some 0
def K4(O U H:Int):Option (Int⊕(Unit⊕Int)):=(if decide (H<=5)then(if AQ H O&&AQ H U then some (.inr (.inr H))else some (.inl (i64.wrap (H+1))))else some (.inr (.inl ())))
def EU(H O:Int):Option Int:=(mF (K4 H O) 1).bind (λ|.inl z=>Up z|.inr z=>some z)
abbrev bEp a0 a1:=mkJ (EU a0 a1) 0 (@Up.eq_1) λ j1=>⟨[],[],0⟩
abbrev bEq (H O:Int):=mkL x (@K4.eq_1 H O) λ U=>⟨[(0,.int i64 H),(1,.int i64 O),(5,.int i64 U)],[],0⟩
attribute[instance]bEp bEq
instance bEr(H O:Int):OkP (EU H O) 243 [.int i64 H,.int i64 O] (λ r=>.int i64 r):=ok1 (EU.eq_1 H O) f243 []
def Uq(j1:(List aK)):Option (List aK):=some j1
def Ur(H:Int×(List aK))(O:(List aK)):Option ((Int×(List aK))⊕(List aK)):=some (.inl (i64.wrap (H.1+1),O))
def Us(H:Int×(List aK)):Option ((Int×(List aK))⊕(List aK)):=gd (decide (0<H.1)=true->0<=i64.wrap (H.1-1)/\i64.wrap (H.1-1)<((H.2.length:Nat):Int))<|gd (decide (0<H.1)=true->0<=H.1/\H.1<((H.2.length:Nat):Int))<|(if decide (0<H.1)&&decide (0<vW (H.2.getD (i64.wrap (H.1-1)).toNat aK.zero) (H.2.getD H.1.toNat aK.zero))then gd (0<=i64.wrap (H.1-1)/\i64.wrap (H.1-1)<((H.2.length:Nat):Int))<|gd (0<=H.1/\H.1<((H.2.length:Nat):Int))<|gd (0<=i64.wrap (H.1-1)/\i64.wrap (H.1-1)<((H.2.length:Nat):Int))<|gd (0<=H.1/\H.1<((H.2.length:Nat):Int))<|some (.inl (i64.wrap (H.1-1),(H.2.set (i64.wrap (H.1-1)).toNat (H.2.getD H.1.toNat aK.zero)).set H.1.toNat (H.2.getD (i64.wrap (H.1-1)).toNat aK.zero)))else some (.inr H.2))
def K5(O:List aK)(H:Int×(List aK)):Option ((Int×(List aK))⊕(List aK)):=(if decide (H.1<O.length)then gd (0<=H.1/\H.1<O.length)<|(l7 H.2 (O.getD H.1.toNat aK.zero)).bind λ v1=>(if v1 then some (.inl (i64.wrap (H.1+1),H.2))else gd (0<=H.1/\H.1<O.length)<|gd (H.2.length+1<=4294967296)<|(mF Us (((H.2.length:Nat):Int),H.2++[O.getD H.1.toNat aK.zero])).bind (λ z=>Ur H z))else some (.inr H.2))
def HI(H:List aK):Option (List aK):=(mF (K5 H) (0,[])).bind (λ z=>Uq z)
abbrev bEw a0:=mkJ (HI a0) 0 (@Uq.eq_1) λ j1=>⟨[(3,.own 0 0 j1.length)],[(0,sx j1)],1⟩
abbrev bEx (O:List aK) (H:Int×(List aK)):=mkJ (K5 O H,v1) 2 (@Ur.eq_1 H) λ U=>⟨[(0,la O),(3,.own 0 0 U.length),(4,.int i64 H.1)],[(0,sx U)],1⟩
abbrev bEy (O:List aK) (U:Int×(List aK)):=mkL (K5 O U,v1) (@Us.eq_1) λ H=>⟨[(0,la O),(3,.own 0 0 H.2.length),(4,.int i64 U.1),(5,.int i64 H.1)],[(0,sx H.2)],1⟩
abbrev bEz (O:List aK):=mkL x (@K5.eq_1 O) λ H=>⟨[(0,la O),(3,.own 0 0 H.2.length),(4,.int i64 H.1)],[(0,sx H.2)],1⟩
attribute[instance]bEw bEx bEy bEz
instance bF0(H:List aK):OkM (HI H) 135 [la H] [] 0 (λ r=>.own 0 0 r.length) (λ r=>[(0,sx r)]) 1:=okm (HI.eq_1 H) (λ r=>[.own 0 0 r.length]) f135 [(2,1),(3,1)]
def Oz(j1:Bool):Option Bool:=some j1
@[go_sem] def bF2(j1:Bool):St:=⟨[(5,.bool j1)],[],0⟩
def K6(O:List aC)(H:Int×Int×(Arr Bool 6))(U:Unit):Option ((Int×Int×(Arr Bool 6))⊕Bool):=gd (0<=(O.getD H.2.1.toNat aC.zero).mode/\(O.getD H.2.1.toNat aC.zero).mode<6)<|some (.inl (i64.wrap (H.1+(O.getD H.2.1.toNat aC.zero).aU),i64.wrap (H.2.1+1),Arr.put H.2.2 ((O.getD H.2.1.toNat aC.zero).mode).toNat true))
@[go_sem] def bF4(U:aJ)(O:List aC)(H:Int×Int×(Arr Bool 6))(Y:Unit):St:=⟨[(2,.ptr 0 0 0),(5,.bool true),(6,.ptr 1 0 0),(7,.int i64 (i64.wrap (H.1+(O.getD H.2.1.toNat aC.zero).aU))),(9,.ptr 2 0 0),(15,la O),(16,.int i64 O.length),(17,.int i64 H.2.1)],[(0,bx U),(1,⟨false,6,Arr.enc eB (Arr.rep 6 false),[Arr.enc eB H.2.2]⟩),(2,bx (O.getD H.2.1.toNat aC.zero))],3⟩
def EV(U:List aC)(O:Int×Int×(Arr Bool 6))(H:Int):Option (Int⊕(Unit⊕Bool)):=(if decide (H<6)then gd (0<=H/\H<6)<|(if Arr.get O.2.2 H.toNat false then Ez H ((U.getD O.2.1.toNat aC.zero).mode)else some false).bind λ v1=>(if Arr.get O.2.2 H.toNat false&&(!v1)then some (.inr (.inr false))else some (.inl (i64.wrap (H+1))))else some (.inr (.inl ())))
@[go_sem] def bF5(U:aJ)(O:List aC)(H:Int×Int×(Arr Bool 6))(Y:Int):St:=⟨[(2,.ptr 0 0 0),(5,.bool true),(6,.ptr 1 0 0),(7,.int i64 (i64.wrap (H.1+(O.getD H.2.1.toNat aC.zero).aU))),(9,.ptr 2 0 0),(15,la O),(16,.int i64 O.length),(17,.int i64 H.2.1),(41,.agg (Arr.enc eB H.2.2)),(42,.int i64 Y)],[(0,bx U),(1,⟨false,6,Arr.enc eB (Arr.rep 6 false),[Arr.enc eB H.2.2]⟩),(2,bx (O.getD H.2.1.toNat aC.zero))],3⟩
def HJ(U:aJ)(O:List aC)(H:Int×Int×(Arr Bool 6)):Option ((Int×Int×(Arr Bool 6))⊕Bool):=(if decide (H.2.1<O.length)then gd (0<=H.2.1/\H.2.1<O.length)<|(if (!(oB U (O.getD H.2.1.toNat aC.zero)))||decide (U.aU<i64.wrap (H.1+(O.getD H.2.1.toNat aC.zero).aU))then some (.inr false)else(if decide ((O.getD H.2.1.toNat aC.zero).mode=0)then some (.inl (i64.wrap (H.1+(O.getD H.2.1.toNat aC.zero).aU),i64.wrap (H.2.1+1),H.2.2))else(mF (EV O H) 0).bind (λ|.inl z=>K6 O H z|.inr z=>some (.inr z))))else some (.inr true))
@[go_sem] def bF6(U:aJ)(O:List aC)(H:Int×Int×(Arr Bool 6)):St:=⟨[(2,.ptr 0 0 0),(5,.bool true),(6,.ptr 1 0 0),(7,.int i64 H.1),(15,la O),(16,.int i64 O.length),(17,.int i64 H.2.1)],[(0,bx U),(1,⟨false,6,Arr.enc eB (Arr.rep 6 false),[Arr.enc eB H.2.2]⟩)],2⟩
def CG(H:aJ)(O:List aC):Option Bool:=(if !(oI H)then some false else(mF (HJ H O) (0,0,Arr.rep 6 false)).bind (λ z=>Oz z))
def bF7(F:aJ)(B:List aC)(r:Bool)(h:CG F B=some r):PFn C 283 [ga F,la B] (.bool r):=by
 refine oT f283 [] λ E hG hN hK=>?_;unfold CG at h;refine zq ?_;refine Z5 ?_;refine mD (zq ?_);refine nK (λ hg=>(aRn F).ok) ?_;refine mJ rfl hG h (λ _ h=>?_) (λ _ h=>?_)
 · refine zq ?_
   refine mO ?_;exact nU h
 refine mN ?_;refine zq ?_;refine zq ?_;refine zq ?_;refine mD ?_;refine aPl ?_;refine mD (zq ?_);refine qA bF2 (λ v=>Oz v=some r) ?_ ?_
 · intro j1 h
   unfold Oz at h;refine g_st ?_;refine zq ?_;refine mO ?_;exact nU h
 refine qO (bF6 F B) hK [(0,0),(1,1)] h (λ y0 h M h0 H U=>?_);unfold HJ at H;refine g_st ?_;refine zq ?_;refine mD ?_;refine mJ rfl hG H (λ _ H=>?_) (λ _ H=>?_)
 · refine mN ?_
   refine mD (oM (mD ?_));obtain⟨p0,H⟩:=mM H;refine mE hG ?_;refine mD (zq ?_);refine nK (λ hg=>(bE2 F (B.getD M.2.1.toNat aC.zero)).ok) ?_;refine mJ rfl hG H (λ _ H=>?_) (λ _ H=>?_)
   · refine zq ?_
     refine oO ?_;cases H;cases U _ rfl;exact nA hK [] false (by exact h)
   refine mN ?_;refine zq ?_;refine mD (zq ?_);refine mJ rfl hG H (λ _ H=>?_) (λ _ H=>?_)
   · refine oO ?_
     refine mE hG ?_;exact pA hK [(0,0),(1,1)] H
   refine mN ?_;refine mD (zq ?_);refine qA (bF4 F B M) (λ v=>K6 B M v=some h0) ?_ ?_
   · intro j2 H
     unfold K6 at H;refine g_st ?_;obtain⟨q0,H⟩:=mM H;refine mE hG ?_;refine mE hG ?_;exact pA hK [(0,0),(1,1)] H
   refine qO (bF5 F B M) hK [(0,0),(1,1),(2,2)] H (λ z0 H g2 u0 O Y=>?_);unfold EV at O;refine g_st ?_;refine zq ?_;refine mD ?_;refine mJ rfl hG O (λ _ O=>?_) (λ _ O=>?_)
   · refine mN ?_
     refine mD (oM (mD ?_));obtain⟨r0,O⟩:=mM O;refine mE hG ?_;refine zq ?_;obtain⟨v1,x0,O⟩:=mG O;refine nK (λ hg=>(aZs g2 (B.getD M.2.1.toNat aC.zero).mode).ok _ (uM hg x0)) ?_;refine mJ rfl hG O (λ _ O=>?_) (λ _ O=>?_)
     · refine zq ?_
       refine oO ?_;obtain rfl:=dH O;have hx:=Y _ rfl;subst hx
       try dsimp only at H
       cases H;cases U _ rfl;exact nA hK [] false (by exact h)
     refine mN ?_;refine mE hG ?_;exact pA hK [(0,0),(1,1),(2,2)] O
   refine oO ?_;obtain rfl:=dH O;have hx:=Y _ rfl;subst hx
   try dsimp only at H
   exact nA hK [(0,0),(1,1),(2,2)] () (by exact H)
 refine oO ?_;cases H;cases U _ rfl;exact nA hK [] true (by exact h)
instance bF8(H:aJ)(O:List aC):OkP (CG H O) 283 [ga H,la O] .bool:=⟨bF7 H O⟩
def uY(H:aX):Option (aK×aX):=(if !decide (H.bC.err=0)then some ({aK.zero with},H)else(tM H.bC.rest).bind λ v1=>(if !decide (v1.2.2=0)then some ({aK.zero with},{H with bC:={H.bC with err:=v1.2.2}})else gd (0<=v1.2.1/\v1.2.1<=(H.bC.rest.length:Int)/\(H.bC.rest.length:Int)<=(H.bC.rest.length:Int))<|some (v1.1,{H with bC:={H.bC with rest:=(H.bC.rest.drop v1.2.1.toNat)}})))
instance bF9(H:aX):OkM (uY H) 165 [.ptr 0 0 0] [(0,bx H)] 1 (λ r=>ga r.1) (λ r=>[(0,bx r.2)]) 1:=okm (uY.eq_1 H) (λ r=>[ga r.1]) f165 []
def CH(H O:aA):Option Bool:=(if decide (H.gen=O.gen)then Cy H O else some false).bind λ v1=>(if decide (H.gen=O.gen)&&v1 then AI H.aW O.aW else some false).bind λ v2=>some ((decide (H.gen=O.gen)&&v1)&&v2)
instance bFa(H O:aA):OkP (CH H O) 81 [ga H,ga O] .bool:=ok1 (CH.eq_1 H O) f81 []
def OA(v1:Int×bM)(j1:(List aO)):Option (aR×bM):=(KY j1 2 v1.2).bind λ v2=>some (v2.1,v2.2)
def K7(O:List aJ)(v1:Int×bM)(H:Int×(List aO)):Option ((Int×(List aO))⊕(List aO)):=(if decide (H.1<O.length)then gd (0<=H.1/\H.1<O.length)<|gd (0<=H.1/\H.1<O.length)<|gd (0<=u64.wrap (i64.wrap (3*H.1)))<|(n9 (O.getD H.1.toNat aJ.zero) (v1.1.fdiv (2^(Nat.min (u64.wrap (i64.wrap (3*H.1))).toNat i64.bits)))).bind λ v3=>gd (H.2.length+1<=4294967296)<|some (.inl (i64.wrap (H.1+1),H.2++[(⟨(O.getD H.1.toNat aJ.zero).name,v3⟩:aO)]))else some (.inr H.2))
def CI(H:List aJ)(O:bM):Option (aR×bM):=(nY 1048576 O).bind λ v1=>(mF (K7 H v1) (0,[])).bind (λ z=>OA v1 z)
abbrev bFd a0 a1 (v1:Int×bM):=mkJ (CI a0 a1,v1) 0 (@OA.eq_1 v1) λ j1=>⟨[(0,.ptr 0 0 0),(4,.ptr 1 0 0),(6,.own 2 0 j1.length)],[(0,bx v1.2),(1,bx aR.zero),(2,sx j1)],3⟩
abbrev bFe (O:List aJ) (v1:Int×bM):=mkL x (@K7.eq_1 O v1) λ H=>⟨[(0,.ptr 0 0 0),(1,la O),(4,.ptr 1 0 0),(5,.int i64 v1.1),(6,.own 2 0 H.2.length),(7,.int i64 H.1)],[(0,bx v1.2),(1,bx aR.zero),(2,sx H.2)],3⟩
attribute[instance]bFd bFe
instance bFf(H:List aJ)(O:bM):OkM (CI H O) 130 [.ptr 0 0 0,la H] [(0,bx O)] 1 (λ r=>ga r.1) (λ r=>[(0,bx r.2)]) 1:=okm (CI.eq_1 H O) (λ r=>[ga r.1]) f130 [(6,1)]
def Ut(j1:Unit):Option Bool:=some true
def K8(O:List aV)(H:Int):Option (Int⊕(Unit⊕Bool)):=(if decide (H<O.length)then gd (0<=H/\H<O.length)<|gd (yR (O.getD H.toNat aV.zero)=true->0<=H/\H<O.length)<|(if yR (O.getD H.toNat aV.zero)then wX O ((O.getD H.toNat aV.zero).aM)else some 0).bind λ v1=>(if (!(yR (O.getD H.toNat aV.zero)))||(!decide (v1=H))then some (.inr (.inr false))else some (.inl (i64.wrap (H+1))))else some (.inr (.inl ())))
def AX(H:List aV):Option Bool:=(if decide (8<(H.length:Int))then some false else(mF (K8 H) 0).bind (λ|.inl z=>Ut z|.inr z=>some z))
abbrev bFi a0:=mkJ (AX a0) 0 (@Ut.eq_1) λ j1=>⟨[],[],0⟩
abbrev bFj (H:List aV):=mkL x (@K8.eq_1 H) λ O=>⟨[(0,la H),(3,.int i64 O)],[],0⟩
attribute[instance]bFi bFj
instance bFk(H:List aV):OkP (AX H) 247 [la H] .bool:=ok1 (AX.eq_1 H) f247 []
def Uu(j1:(List Int)):Option (List Int):=some j1
def HK(O:(List Int->aR->Option (List Int)))(U:aR)(H:(List Int)×Int):Option (((List Int)×Int)⊕(List Int)):=(if decide (H.2<U.bG.length)then gd (0<=H.2/\H.2<U.bG.length)<|(O H.1 (U.bG.getD H.2.toNat aR.zero)).bind λ v5=>some (.inl (v5,i64.wrap (H.2+1)))else some (.inr H.1))
def EW(O:(List Int->aR->Option (List Int)))(U:List Int)(H:aR):Option (List Int):=(qV U H.k).bind λ v1=>(if decide (H.k=0)then(Ck v1 H.aZ.name).bind λ v2=>(n7 v2 H.aZ.aI).bind λ v3=>some v3 else(qV v1 (H.bG.length:Int)).bind λ v4=>(mF (HK O H) (v4,0)).bind (λ z=>Uu z))
def EX:Nat->(List Int->aR->Option (List Int))
 |0=>λ _ _=>none
 |n+1=>EW (EX n)
def K9(O:List Int)(H:aR):Option (List Int):=EX (_root_.SizeOf.sizeOf H+1) O H
abbrev bFp (H:(List Int->aR->Option (List Int))) (O:List Int) (U:aR):=mkJ ((EW H O U,v1),v2) 0 (@Uu.eq_1) λ j1=>⟨[(0,.sl (j1.map (eI u8)))],[],0⟩
abbrev bFq (H:(List Int->aR->Option (List Int))) (O:aR):=mkL x (@HK.eq_1 H O) λ U=>⟨[(0,.sl (U.1.map (eI u8))),(3,.ptr 0 0 0),(5,.int i64 U.2)],[(0,bx O)],1⟩
attribute[instance]bFp bFq
abbrev La(g:(List Int->aR->Option (List Int))):Prop:=∀(H:List Int) (O:aR),OkP (g H O) 114 [.sl (H.map (eI u8)),.agg (aR.enc O)] (λ r=>.sl (r.map (eI u8)))
theorem bFs(H:(List Int->aR->Option (List Int)))(hrc:La H):La (EW H):=λ O U=>ok1 (EW.eq_1 H O U) f114 []
theorem bFt:∀n,La (EX n):=Ay (λ _ _=>⟨λ _ h=>nomatch h⟩) λ n=>bFs _
instance bFu:La K9:=λ H O=>bFt _ H O
def EY(U:aJ)(O H:aC):Option Bool:=(if (!(oB U O))||(!(oB U H))then some false else(if oW O||oW H then some (oW H)else(if decide (U.kind=1)then(Ex O.mode H.mode).bind λ v1=>some v1 else some (decide (H.aU<=O.aU)))))
instance bFv(H:aJ)(O U:aC):OkP (EY H O U) 287 [ga H,ga O,ga U] .bool:=ok1 (EY.eq_1 H O U) f287 []
def sG(U:aJ)(H O:aC):Bool:=(if (!(uW U H))||(!(uW U O))then false else(if oG O then true else(if oG H then false else(if decide (U.kind=1)then(AQ H.mode O.mode)else(decide (O.aU<=H.aU))))))
instance bFw(H:aJ)(O U:aC):OkT 204 [.agg (aJ.enc H),.agg (aC.enc O),.agg (aC.enc U)] (.bool (sG H O U)):=ok2 .bool (sG.eq_1 H O U) f204 []
def CJ(H:aA):Option (List aK):=(B8 H.aS).bind λ v1=>(Cd H).bind λ v2=>gd (v1.length+v2.length<=4294967296)<|(n5 (v1++v2)).bind λ v3=>some v3
instance bFx(H:aA):OkP (CJ H) 134 [ga H] la:=ok1 (CJ.eq_1 H) f134 []
def Uv(H:Unit):Option Bool:=some true
def EZ(O:bB)(H:Int):Option (Int⊕(Unit⊕Bool)):=(if decide (H<O.bI.length)then gd (0<=H/\H<O.bI.length)<|gd (((!(((decide ((O.bI.getD H.toNat bV.zero).label<1)||decide (99<(O.bI.getD H.toNat bV.zero).label))||decide ((O.bI.getD H.toNat bV.zero).at_<0))||decide ((O.aQ.length:Int)<(O.bI.getD H.toNat bV.zero).at_)))&&decide (0<H))=true->0<=i64.wrap (H-1)/\i64.wrap (H-1)<(O.bI.length:Int))<|(if !((((decide ((O.bI.getD H.toNat bV.zero).label<1)||decide (99<(O.bI.getD H.toNat bV.zero).label))||decide ((O.bI.getD H.toNat bV.zero).at_<0))||decide ((O.aQ.length:Int)<(O.bI.getD H.toNat bV.zero).at_))||(decide (0<H)&&decide ((O.bI.getD H.toNat bV.zero).at_<(O.bI.getD (i64.wrap (H-1)).toNat bV.zero).at_)))then l8 O.bI ((O.bI.getD H.toNat bV.zero).label)else some 0).bind λ v2=>(if ((((decide ((O.bI.getD H.toNat bV.zero).label<1)||decide (99<(O.bI.getD H.toNat bV.zero).label))||decide ((O.bI.getD H.toNat bV.zero).at_<0))||decide ((O.aQ.length:Int)<(O.bI.getD H.toNat bV.zero).at_))||(decide (0<H)&&decide ((O.bI.getD H.toNat bV.zero).at_<(O.bI.getD (i64.wrap (H-1)).toNat bV.zero).at_)))||(!decide (v2=H))then some (.inr (.inr false))else some (.inl (i64.wrap (H+1))))else some (.inr (.inl ())))
def HL(H:bB)(j1:Unit):Option Bool:=(yO H.aQ).bind λ v1=>(if decide (8<(v1.length:Int))then some false else(mF (EZ H) 0).bind (λ|.inl z=>Uv z|.inr z=>some z))
def HM(O:bB)(H:Int):Option (Int⊕(Unit⊕Bool)):=(if decide (H<O.aQ.length)then gd (0<=H/\H<O.aQ.length)<|(vX (O.aQ.getD H.toNat bO.zero).name).bind λ v3=>gd (v3=true->0<=0/\0<=H/\H<=O.aQ.length)<|(if v3 then tX (O.aQ.take H.toNat) ((O.aQ.getD H.toNat bO.zero).name)else some aC.zero).bind λ v4=>(if ((!v3)||(!decide ((O.aQ.getD H.toNat bO.zero).before=v4)))||(!(n8 (O.aQ.getD H.toNat bO.zero).before (O.aQ.getD H.toNat bO.zero).after))then some (.inr (.inr false))else some (.inl (i64.wrap (H+1))))else some (.inr (.inl ())))
def uZ(H:bB):Option Bool:=(if decide (72<(H.aQ.length:Int))||decide (4<(H.bI.length:Int))then some false else(mF (HM H) 0).bind (λ|.inl z=>HL H z|.inr z=>some z))
abbrev bG2 a0 j1:=mkJ (HL a0 j1,v1) 2 (@Uv.eq_1) λ H=>⟨[],[],0⟩
abbrev bG3 (H:bB):=mkL x (@EZ.eq_1 H) λ O=>⟨[(1,.ptr 0 0 0),(5,.int i64 O)],[(0,bx H)],1⟩
abbrev bG4 (H:bB):=mkJ (uZ H) 0 (@HL.eq_1 H) λ j1=>⟨[(1,.ptr 0 0 0)],[(0,bx H)],1⟩
abbrev bG5 (H:bB):=mkL x (@HM.eq_1 H) λ O=>⟨[(1,.ptr 0 0 0),(3,.int i64 O)],[(0,bx H)],1⟩
attribute[instance]bG2 bG3 bG4 bG5
instance Uw(H:bB):OkP (uZ H) 98 [ga H] .bool:=ok1 (uZ.eq_1 H) f98 []
def OB(O:aR)(H:List aO)(j1:Unit):Option (Nat⊕(Bool×(List aO))):=gd (H.length+1<=4294967296)<|some (.inr (true,H++[O.aZ]))
def Lb(U:aR)(O:List aO)(H:Int):Option (Int⊕(Unit⊕(Nat⊕(Bool×(List aO))))):=(if decide (H<((O.length:Nat):Int))then gd (0<=H/\H<((O.length:Nat):Int))<|(if decide (O.getD H.toNat aO.zero=U.aZ)then some (.inr (.inr (.inr (true,O))))else some (.inl (i64.wrap (H+1))))else some (.inr (.inl ())))
def Ux(H:(List aO)):Option (Nat⊕(Bool×(List aO))):=some (.inr (true,H))
def HN(O:(aR->List aO->Option (Nat⊕(Bool×(List aO)))))(U:aR)(H:Int×(List aO)):Option ((Int×(List aO))⊕((List aO)⊕(Nat⊕(Bool×(List aO))))):=(if decide (H.1<U.bG.length)then gd (0<=H.1/\H.1<U.bG.length)<|(O (U.bG.getD H.1.toNat aR.zero) H.2).bind λ v2=>match v2 with | .inl v2=>some (.inr (.inr (.inl H.2.length))) | .inr v2=>(if !v2.1 then some (.inr (.inr (.inl H.2.length)))else some (.inl (i64.wrap (H.1+1),v2.2)))else some (.inr (.inl H.2)))
def xA(U:(aR->List aO->Option (Nat⊕(Bool×(List aO)))))(H:aR)(O:List aO):Option (Nat⊕(Bool×(List aO))):=(if decide ((H.bG.length:Int)=0)then(if decide (H.k=0)then vX H.aZ.name else some false).bind λ v1=>(if ((!decide (H.k=0))||(!v1))||(!(pX H.aZ.aI))then some (.inr (false,O))else(mF (Lb H O) 0).bind (λ|.inl z=>OB H O z|.inr z=>some z))else(if (decide (H.k<1)||decide ((H.bG.length:Int)<H.k))||(!decide (H.aZ={aO.zero with}))then some (.inr (false,O))else(mF (HN U H) (0,O)).bind (λ|.inl z=>Ux z|.inr z=>some z)))
def xB:Nat->(aR->List aO->Option (Nat⊕(Bool×(List aO))))
 |0=>λ _ _=>none
 |n+1=>xA (xB n)
def AY(H:aR)(O:List aO):Option (Nat⊕(Bool×(List aO))):=xB (_root_.SizeOf.sizeOf H+1) H O
abbrev bGb (O:(aR->List aO->Option (Nat⊕(Bool×(List aO))))) (U:aR) (H:List aO):=mkJ (xA O U H,v1) 0 (@OB.eq_1 U H) λ j1=>⟨[(0,.own 1 0 H.length),(3,.ptr 2 0 0)],[(1,sx H),(2,bx U)],3⟩
abbrev bGc (O:aR) (H:List aO):=mkL x (@Lb.eq_1 O H) λ U=>⟨[(0,.own 1 0 H.length),(3,.ptr 2 0 0),(6,.int i64 U)],[(1,sx H),(2,bx O)],3⟩
abbrev bGd (H:(aR->List aO->Option (Nat⊕(Bool×(List aO))))) (U:aR) (Y:List aO):=mkJ (xA H U Y) 2 (@Ux.eq_1) λ O=>⟨[(0,.own 1 0 O.length)],[(1,sx O)],2⟩
abbrev bGe (H:(aR->List aO->Option (Nat⊕(Bool×(List aO))))) (U:aR):=mkL x (@HN.eq_1 H U) λ O=>⟨[(0,.own 1 0 O.2.length),(3,.ptr 2 0 0),(7,.int i64 O.1)],[(1,sx O.2),(2,bx U)],3⟩
attribute[instance]bGb bGc bGd bGe
abbrev E0(g:(aR->List aO->Option (Nat⊕(Bool×(List aO))))):Prop:=∀(O:aR) (H:List aO),OkL (g O H) 216 [.own 0 0 H.length,.agg (aR.enc O)] [(0,⟨false,3,aO.enc aO.zero,H.map aO.enc⟩)] 1 (λ r=>.tup [.own 1 0 r,.bool false]) (λ r=>[]) 2
abbrev E1(g:(aR->List aO->Option (Nat⊕(Bool×(List aO))))):Prop:=∀(O:aR) (H:List aO),OkR (g O H) 216 [.own 0 0 H.length,.agg (aR.enc O)] [(0,⟨false,3,aO.enc aO.zero,H.map aO.enc⟩)] 1 (λ r=>.tup [.own 1 0 r.2.length,.bool r.1]) (λ r=>[(1,⟨false,3,aO.enc aO.zero,r.2.map aO.enc⟩)]) 2
theorem bGh(H:(aR->List aO->Option (Nat⊕(Bool×(List aO)))))(Y:E0 H)(B:E1 H):E0 (xA H):=λ O U=>⟨λ r h=>by
 refine pF f216 [(4,1)] [.own 1 0 r,.bool false] λ E hG F hK=>?_;have hm:Mk (xA H O U):=trivial;unfold xA at h;exact gogo⟩
theorem bGi(H:(aR->List aO->Option (Nat⊕(Bool×(List aO)))))(Y:E0 H)(B:E1 H):E1 (xA H):=λ O U=>⟨λ r h=>by
 refine pF f216 [(4,1)] [.own 1 0 r.2.length,.bool r.1] λ E hG F hK=>?_;have hm:Mk (xA H O U):=trivial;unfold xA at h;exact gogo⟩
theorem Uy:∀n,E0 (xB n)/\E1 (xB n):=Ay (P:=λ g=>E0 g/\E1 g) ⟨λ _ _=>⟨λ _ h=>nomatch h⟩,λ _ _=>⟨λ _ h=>nomatch h⟩⟩ λ n h=>⟨bGh _ h.1 h.2,bGi _ h.1 h.2⟩
instance Uz:E0 AY:=λ H O=>(Uy _).1 H O
instance UA:E1 AY:=λ H O=>(Uy _).2 H O
def UB(j1:Unit):Option Bool:=some true
def Lc(O:aP)(H:Int):Option (Int⊕(Unit⊕Bool)):=(if decide (H<O.lower.length)then gd (0<=H/\H<O.lower.length)<|(vX (O.lower.getD H.toNat aO.zero).name).bind λ v1=>gd (((!((!v1)||((!(oG (O.lower.getD H.toNat aO.zero).aI))&&(!(pX (O.lower.getD H.toNat aO.zero).aI)))))&&decide (0<H))=true->0<=i64.wrap (H-1)/\i64.wrap (H-1)<(O.lower.length:Int))<|(if ((!v1)||((!(oG (O.lower.getD H.toNat aO.zero).aI))&&(!(pX (O.lower.getD H.toNat aO.zero).aI))))||(decide (0<H)&&(Op.bytesLess ((O.lower.getD H.toNat aO.zero).name).toList ((O.lower.getD (i64.wrap (H-1)).toNat aO.zero).name).toList||((O.lower.getD H.toNat aO.zero).name).toList==((O.lower.getD (i64.wrap (H-1)).toNat aO.zero).name).toList))then some (.inr (.inr false))else some (.inl (i64.wrap (H+1))))else some (.inr (.inl ())))
def o4(H:aP):Option Bool:=(if ((((!(pJ H.aM))||((!decide (H.label=(-1)))&&(decide (H.label<1)||decide (99<H.label))))||decide (H.cost<1))||decide (1073741824<H.cost))||decide (8<(H.lower.length:Int))then some false else(mF (Lc H) 0).bind (λ|.inl z=>UB z|.inr z=>some z))
abbrev bGo a0:=mkJ (o4 a0) 0 (@UB.eq_1) λ j1=>⟨[],[],0⟩
abbrev bGp (H:aP):=mkL x (@Lc.eq_1 H) λ O=>⟨[(1,.ptr 0 0 0),(3,.int i64 O)],[(0,bx H)],1⟩
attribute[instance]bGo bGp
instance bGq(H:aP):OkP (o4 H) 57 [ga H] .bool:=ok1 (o4.eq_1 H) Tryz.f57 []
def Ld(j1:Unit):Option Bool:=some true
def HO(O U:aH)(H:Int):Option (Int⊕(Unit⊕Bool)):=(if decide (H<O.aY.length)then gd (0<=H/\H<O.aY.length)<|gd (0<=H/\H<U.aY.length)<|(Hx (O.aY.getD H.toNat bR.zero) (U.aY.getD H.toNat bR.zero)).bind λ v2=>(if !v2 then some (.inr (.inr false))else some (.inl (i64.wrap (H+1))))else some (.inr (.inl ())))
def xC(H O:aH):Option Bool:=(Cz H.aF O.aF).bind λ v1=>(if (!v1)||(!decide ((H.aY.length:Int)=(O.aY.length:Int)))then some false else(mF (HO H O) 0).bind (λ|.inl z=>Ld z|.inr z=>some z))
abbrev bGt a0 a1:=mkJ (xC a0 a1,v1) 0 (@Ld.eq_1) λ j1=>⟨[],[],0⟩
abbrev bGu (H O:aH):=mkL x (@HO.eq_1 H O) λ U=>⟨[(2,.ptr 0 0 0),(3,.ptr 1 0 0),(5,.int i64 U)],[(0,bx H),(1,bx O)],2⟩
attribute[instance]bGt bGu
instance bGv(H O:aH):OkP (xC H O) 34 [ga H,ga O] .bool:=ok1 (xC.eq_1 H O) f34 []
def UC(j1:Unit):Option Bool:=some true
def CK(O:List aV)(H:Int):Option (Int⊕(Unit⊕Bool)):=(if decide (H<O.length)then gd (0<=H/\H<O.length)<|(if pO (O.getD H.toNat aV.zero)then j9 O ((O.getD H.toNat aV.zero).aM)else some 0).bind λ v1=>(if (!(pO (O.getD H.toNat aV.zero)))||(!decide (v1=H))then some (.inr (.inr false))else some (.inl (i64.wrap (H+1))))else some (.inr (.inl ())))
def AZ(H:List aV):Option Bool:=(if decide (8<(H.length:Int))then some false else(mF (CK H) 0).bind (λ|.inl z=>UC z|.inr z=>some z))
abbrev bGy a0:=mkJ (AZ a0) 0 (@UC.eq_1) λ j1=>⟨[],[],0⟩
abbrev bGz (H:List aV):=mkL x (@CK.eq_1 H) λ O=>⟨[(0,la H),(8,la H),(9,.int i64 H.length),(10,.int i64 O)],[],0⟩
attribute[instance]bGy bGz
instance bH0(H:List aV):OkP (AZ H) 288 [la H] .bool:=ok1 (AZ.eq_1 H) f288 []
def bH1:SlLaysF0.n6 C.P ⟨λ|6=>258|15=>278|14=>277|28=>298|29=>299|20=>290|21=>291|22=>292|23=>293|24=>294|25=>295|26=>296|27=>297|46=>306|47=>307|48=>308|49=>309|50=>310|57=>313|n=>n,λ|22=>119|24=>27|25=>161|39=>171|53=>337|55=>78|46=>330|45=>329|50=>334|66=>341|70=>88|76=>351|77=>306|n=>n,λ n=>n⟩ where
 mixed:=oS
 f6:=⟨f258.name,by decide,func258.trans (dZ some (by kernel_rfl))⟩
 f14:=⟨f277.name,by decide,func277.trans (dZ some (by kernel_rfl))⟩
 f15:=func278.trans (dZ some (by kernel_rfl))
 f20:=⟨f290.name,by decide,func290.trans (dZ some (by kernel_rfl))⟩
 f21:=⟨f291.name,by decide,func291.trans (dZ some (by kernel_rfl))⟩
 f22:=⟨f292.name,by decide,func292.trans (dZ some (by kernel_rfl))⟩
 f23:=⟨f293.name,by decide,func293.trans (dZ some (by kernel_rfl))⟩
 f24:=⟨f294.name,by decide,func294.trans (dZ some (by kernel_rfl))⟩
 f25:=⟨f295.name,by decide,func295.trans (dZ some (by kernel_rfl))⟩
 f26:=⟨f296.name,by decide,func296.trans (dZ some (by kernel_rfl))⟩
 f27:=⟨f297.name,by decide,func297.trans (dZ some (by kernel_rfl))⟩
 f28:=func298.trans (dZ some (by kernel_rfl))
 f29:=func299.trans (dZ some (by kernel_rfl))
 f46:=⟨f306.name,by decide,func306.trans (dZ some (by kernel_rfl))⟩
 f47:=func307.trans (dZ some (by kernel_rfl))
 f48:=func308.trans (dZ some (by kernel_rfl))
 f49:=⟨f309.name,by decide,func309.trans (dZ some (by kernel_rfl))⟩
 f50:=⟨f310.name,by decide,func310.trans (dZ some (by kernel_rfl))⟩
 f57:=⟨f313.name,by decide,func313.trans (dZ some (by kernel_rfl))⟩
 t0:=underlying0
 a0:=isAgg0
 z0:=sizeOf0
 v0:=zeroValue0
 t3:=underlying3
 a3:=isAgg3
 z3:=sizeOf3
 v3:=zeroValue3
 t4:=underlying4
 a4:=isAgg4
 z4:=sizeOf4
 v4:=zeroValue4
 t5:=underlying5
 a5:=isAgg5
 z5:=sizeOf5
 v5:=zeroValue5
 t9:=underlying9
 a9:=isAgg9
 z9:=sizeOf9
 v9:=zeroValue9
 t22:=underlying119
 a22:=isAgg119
 z22:=sizeOf119
 v22:=zeroValue119
 t25:=underlying161
 a25:=isAgg161
 z25:=sizeOf161
 v25:=zeroValue161
 t39:=underlying171
 a39:=isAgg171
 z39:=sizeOf171
 v39:=zeroValue171
 t45:=underlying329
 a45:=isAgg329
 z45:=sizeOf329
 v45:=zeroValue329
 t46:=underlying330
 a46:=isAgg330
 z46:=sizeOf330
 v46:=zeroValue330
 t50:=underlying334
 a50:=isAgg334
 z50:=sizeOf334
 v50:=zeroValue334
 t53:=underlying337
 a53:=isAgg337
 z53:=sizeOf337
 v53:=zeroValue337
 t55:=underlying78
 a55:=isAgg78
 z55:=sizeOf78
 v55:=zeroValue78
 t66:=underlying341
 a66:=isAgg341
 z66:=sizeOf341
 v66:=zeroValue341
 t70:=underlying88
 a70:=isAgg88
 z70:=sizeOf88
 v70:=zeroValue88
 t76:=underlying351
 a76:=isAgg351
 z76:=sizeOf351
 v76:=zeroValue351
 t77:=underlying306
 a77:=isAgg306
 z77:=sizeOf306
 v77:=zeroValue306
def E2(H:List aK):Option (List aK):=gd (H.length<=4294967296) (some (H.mergeSort λ x y=>!decide (y.site<x.site\/y.site=x.site/\(y.inc<x.inc\/y.inc=x.inc/\y.num<x.num))))
def bH2(H r:List aK)(h:E2 H=some r):r.length=H.length:=by obtain⟨_,h⟩:=mM h;obtain rfl:=dH h;exact List.length_mergeSort _
def bH3(H r:List aK)(h:E2 H=some r):MFn C 258 [.own 0 0 H.length,.clo 182 []] [(0,sx H)] 1 (.tup []) [(0,sx r)] 1:=by
 obtain⟨hl,h⟩:=mM h;obtain rfl:=dH h;haveI:Inhabited aK:=⟨aK.zero⟩;have e:(λ x y:aK=>!decide (y.site<x.site\/y.site=x.site/\(y.inc<x.inc\/y.inc=x.inc/\y.num<x.num)))=λ x y=>!(ltOf cmpS) y x:=by funext x y;rw[HF];exact dZ not (jG.2 lE)
 rw[e];exact bDa bH1 aK.enc 3 aK.len Om (λ x=>(aK.laws x).2.1) isAgg27 sizeOf27 cmpS bDc 182 (λ x y=>(T0 x y).ok _ (bDe x y)) (enters_of func182 (by kernel_rfl) rfl) rfl _ H hl (λ x _ y _=>bDd x y)
def OC(H:(List Int)):Option (List Int):=some H
def HP(O:aA)(H:(List Int)×Int):Option (((List Int)×Int)⊕(List Int)):=(if decide (H.2<O.aW.length)then gd (0<=H.2/\H.2<O.aW.length)<|(wZ H.1 (O.aW.getD H.2.toNat aV.zero).aM).bind λ v5=>(rJ v5 [((O.aW.getD H.2.toNat aV.zero).aI).mode,((O.aW.getD H.2.toNat aV.zero).aI).aU,(O.aW.getD H.2.toNat aV.zero).bE,(O.aW.getD H.2.toNat aV.zero).bS]).bind λ v6=>some (.inl (v6,i64.wrap (H.2+1)))else some (.inr H.1))
def Lf(H:aA)(O:(List Int)):Option (List Int):=(rJ O [(H.aW.length:Int)]).bind λ v4=>(mF (HP H) (v4,0)).bind (λ z=>OC z)
def HQ(O:aA)(H:(List Int)×Int):Option (((List Int)×Int)⊕(List Int)):=(if decide (H.2<O.aN.length)then gd (0<=H.2/\H.2<O.aN.length)<|(wZ H.1 (O.aN.getD H.2.toNat aV.zero).aM).bind λ U=>(rJ U [((O.aN.getD H.2.toNat aV.zero).aI).mode,((O.aN.getD H.2.toNat aV.zero).aI).aU]).bind λ Y=>some (.inl (Y,i64.wrap (H.2+1)))else some (.inr H.1))
def Lg(H:aA)(j1:(List Int)):Option (List Int):=(rJ j1 [(H.aN.length:Int)]).bind λ v3=>(mF (HQ H) (v3,0)).bind (λ z=>Lf H z)
def HR(O:aA)(H:(List Int)×Int):Option (((List Int)×Int)⊕(List Int)):=(if decide (H.2<O.aS.length)then gd (0<=H.2/\H.2<O.aS.length)<|(wZ H.1 (O.aS.getD H.2.toNat bA.zero).aM).bind λ Y=>(rJ Y [((O.aS.getD H.2.toNat bA.zero).aI).mode,((O.aS.getD H.2.toNat bA.zero).aI).aU]).bind λ U=>some (.inl (U,i64.wrap (H.2+1)))else some (.inr H.1))
def CL(O:List Int)(H:aA):Option (List Int):=(Cl O H.aB.name).bind λ v1=>(rJ v1 [H.aB.kind,H.aB.aU,H.aB.home,H.gen,(H.aS.length:Int)]).bind λ v2=>(mF (HR H) (v2,0)).bind (λ z=>Lg H z)
abbrev bH7 a1 j2:=mkJ (Lf a1 j2,v1) 4 (@OC.eq_1) λ H=>⟨[(0,.sl (H.map (eI u8)))],[],0⟩
abbrev bH8 (H:aA):=mkL x (@HP.eq_1 H) λ O=>⟨[(0,.sl (O.1.map (eI u8))),(84,la H.aW),(85,.int i64 H.aW.length),(86,.int i64 O.2)],[],0⟩
abbrev bH9 (H:aA) j1:=mkJ (Lg H j1,v1) 2 (@Lf.eq_1 H) λ O=>⟨[(0,.sl (O.map (eI u8))),(3,.ptr 0 0 0)],[(0,bx H)],1⟩
abbrev bHa (H:aA):=mkL x (@HQ.eq_1 H) λ O=>⟨[(0,.sl (O.1.map (eI u8))),(3,.ptr 0 0 0),(58,la H.aN),(59,.int i64 H.aN.length),(60,.int i64 O.2)],[(0,bx H)],1⟩
abbrev bHb a0 (H:aA):=mkJ ((CL a0 H,v1),v2) 0 (@Lg.eq_1 H) λ j1=>⟨[(0,.sl (j1.map (eI u8))),(3,.ptr 0 0 0)],[(0,bx H)],1⟩
abbrev bHc (H:aA):=mkL x (@HR.eq_1 H) λ O=>⟨[(0,.sl (O.1.map (eI u8))),(3,.ptr 0 0 0),(32,la H.aS),(33,.int i64 H.aS.length),(34,.int i64 O.2)],[(0,bx H)],1⟩
attribute[instance]bH7 bH8 bH9 bHa bHb bHc
instance bHd(H:List Int)(O:aA):OkP (CL H O) 158 [.sl (H.map (eI u8)),ga O] (λ r=>.sl (r.map (eI u8))):=ok1 (CL.eq_1 H O) f158 []
def A0(H:aT):Option (aK×aT):=(if !decide (H.err=0)then some ({aK.zero with},H)else(tM H.b).bind λ v1=>(if !decide (v1.2.2=0)then some ({aK.zero with},{H with err:=v1.2.2})else gd (0<=v1.2.1/\v1.2.1<=(H.b.length:Int)/\(H.b.length:Int)<=(H.b.length:Int))<|some (v1.1,{H with b:=(H.b.drop v1.2.1.toNat)})))
instance bHe(H:aT):OkM (A0 H) 71 [.ptr 0 0 0] [(0,bx H)] 1 (λ r=>ga r.1) (λ r=>[(0,bx r.2)]) 1:=okm (A0.eq_1 H) (λ r=>[ga r.1]) f71 []
def o5(H:bW):Option (aK×bW):=gd (0<=H.at_/\H.at_<=(H.all.length:Int)/\(H.all.length:Int)<=(H.all.length:Int))<|(tM (H.all.drop H.at_.toNat)).bind λ v1=>some (v1.1,{{H with at_:=(i64.wrap (H.at_+v1.2.1))}with err:=v1.2.2})
instance bHf(H:bW):OkM (o5 H) 168 [.ptr 0 0 0] [(0,bx H)] 1 (λ r=>ga r.1) (λ r=>[(0,bx r.2)]) 1:=okm (o5.eq_1 H) (λ r=>[ga r.1]) f168 []
def UD(j1:Unit):Option Bool:=some true
def HS(O U:List bR)(H:Int):Option (Int⊕(Unit⊕Bool)):=(if decide (H<O.length)then gd (0<=H/\H<O.length)<|gd (0<=H/\H<U.length)<|(CD (O.getD H.toNat bR.zero) (U.getD H.toNat bR.zero)).bind λ v1=>(if !v1 then some (.inr (.inr false))else some (.inl (i64.wrap (H+1))))else some (.inr (.inl ())))
def A1(H O:List bR):Option Bool:=(if !decide ((H.length:Int)=(O.length:Int))then some false else(mF (HS H O) 0).bind (λ|.inl z=>UD z|.inr z=>some z))
abbrev bHg a0 a1:=mkJ (A1 a0 a1) 0 (@UD.eq_1) λ j1=>⟨[],[],0⟩
abbrev bHh (H O:List bR):=mkL x (@HS.eq_1 H O) λ U=>⟨[(1,la O),(2,.clo 83 []),(15,la H),(16,.int i64 H.length),(17,.int i64 U)],[],0⟩
attribute[instance]bHg bHh
instance zW6(H O:List bR):OkM (A1 H O) 82 [la H,la O,.clo 83 []] [] 0 .bool (λ r=>[]) 0:=okm (A1.eq_1 H O) (λ r=>[.bool r]) f82 []
def CM(H:aJ):Option Bool:=(vX H.name).bind λ v1=>some (((v1&&l5 H)&&decide (0<=H.home))&&decide (H.home<4))
instance bHi(H:aJ):OkP (CM H) 185 [ga H] .bool:=ok1 (CM.eq_1 H) f185 []
def UE(j1:Unit):Option Bool:=some true
def HT(O U:List aA)(H:Int):Option (Int⊕(Unit⊕Bool)):=(if decide (H<O.length)then gd (0<=H/\H<O.length)<|gd (0<=H/\H<U.length)<|(CH (O.getD H.toNat aA.zero) (U.getD H.toNat aA.zero)).bind λ v1=>(if !v1 then some (.inr (.inr false))else some (.inl (i64.wrap (H+1))))else some (.inr (.inl ())))
def A2(H O:List aA):Option Bool:=(if !decide ((H.length:Int)=(O.length:Int))then some false else(mF (HT H O) 0).bind (λ|.inl z=>UE z|.inr z=>some z))
abbrev bHj a0 a1:=mkJ (A2 a0 a1) 0 (@UE.eq_1) λ j1=>⟨[],[],0⟩
abbrev bHk (H O:List aA):=mkL x (@HT.eq_1 H O) λ U=>⟨[(1,la O),(2,.clo 81 []),(15,la H),(16,.int i64 H.length),(17,.int i64 U)],[],0⟩
attribute[instance]bHj bHk
instance zS2(H O:List aA):OkM (A2 H O) 80 [la H,la O,.clo 81 []] [] 0 .bool (λ r=>[]) 0:=okm (A2.eq_1 H O) (λ r=>[.bool r]) f80 []
def E3(H:List aJ)(j1:bM×bP):Option (bP×bM):=(CI H j1.1).bind λ v3=>some ({j1.2 with bU:=v3.1},v3.2)
@[go_sem] def bHl(H:List aJ)(j1:bM×bP):St:=⟨[(0,.ptr 0 0 0),(1,la H),(4,.ptr 1 0 0),(5,.ptr 2 0 0)],[(0,bx j1.1),(1,bx bP.zero),(2,bx j1.2)],3⟩
def CN(H:List aJ)(O:bM):Option (bP×bM):=(nY 8 O).bind λ v1=>(nY 5 v1.2).bind λ v2=>(if decide (v2.1=1)then(nY 20 v2.2).bind λ v4=>E3 H (v4.2,{{bP.zero with bE:=v1.1}with limit:=(i64.wrap (1+v4.1))})else E3 H (v2.2,{bP.zero with bE:=v1.1}))
def bHm(H:List aJ)(O:bM)(r:bP×bM)(h:CN H O=some r):MFn C 87 [.ptr 0 0 0,la H] [(0,bx O)] 1 (ga r.1) [(0,bx r.2)] 1:=by
 refine pF f87 [] [ga r.1] λ E hG Y hK=>?_;unfold CN at h;refine zq ?_;refine zq ?_;obtain⟨v1,U,h⟩:=mG h;refine mU [(0,0)] [] [0] ((qP 8 O).ok _ U) rfl rfl ?_;refine mD (zq ?_);obtain⟨v2,hv2,h⟩:=mG h;refine mU [(0,0)] [] [0] ((qP 5 v1.2).ok _ hv2) rfl rfl ?_;refine rV (bHl H) (λ v=>E3 H v=some r) rfl hG h ?_ (λ _ h=>?_) (λ _ h=>?_)
 · intro j1 h
   unfold E3 at h;refine g_st ?_;refine zq ?_;obtain⟨v3,hv3,h⟩:=mG h;refine mU [(0,0)] [] [0] ((bFf H j1.1).ok _ hv3) rfl rfl ?_;refine zq ?_;refine mO ?_;exact nD [(0,0)] h
 · refine mE hG ?_
   obtain⟨v4,hv4,h⟩:=mG h;refine mU [(0,0)] [] [0] ((qP 20 v2.2).ok _ hv4) rfl rfl ?_;exact nA hK [(0,0),(1,1),(2,2)] (v4.2,{{bP.zero with bE:=v1.1}with limit:=(i64.wrap (1+v4.1))}) (by exact h)
 refine mN ?_;exact nA hK [(0,0),(1,1),(2,2)] (v2.2,{bP.zero with bE:=v1.1}) (by exact h)
instance bHn(H:List aJ)(O:bM):OkM (CN H O) 87 [.ptr 0 0 0,la H] [(0,bx O)] 1 (λ r=>ga r.1) (λ r=>[(0,bx r.2)]) 1:=⟨bHm H O⟩
def UF(j1:Unit):Option Bool:=some true
def Lh(O:List aJ)(H:Int):Option (Int⊕(Unit⊕Bool)):=(if decide (H<O.length)then gd (0<=H/\H<O.length)<|(CM (O.getD H.toNat aJ.zero)).bind λ v1=>gd ((v1&&decide (0<H))=true->0<=i64.wrap (H-1)/\i64.wrap (H-1)<(O.length:Int))<|gd ((v1&&decide (0<H))=true->0<=H/\H<O.length)<|(if (!v1)||(decide (0<H)&&(!Op.bytesLess ((O.getD (i64.wrap (H-1)).toNat aJ.zero).name).toList ((O.getD H.toNat aJ.zero).name).toList))then some (.inr (.inr false))else some (.inl (i64.wrap (H+1))))else some (.inr (.inl ())))
def A3(H:List aJ):Option Bool:=(if decide (8<(H.length:Int))then some false else(mF (Lh H) 0).bind (λ|.inl z=>UF z|.inr z=>some z))
abbrev bHq a0:=mkJ (A3 a0) 0 (@UF.eq_1) λ j1=>⟨[],[],0⟩
abbrev bHr (H:List aJ):=mkL x (@Lh.eq_1 H) λ O=>⟨[(0,la H),(3,.int i64 O)],[],0⟩
attribute[instance]bHq bHr
instance bHs(H:List aJ):OkP (A3 H) 131 [la H] .bool:=ok1 (A3.eq_1 H) f131 []
def HU(H:aR)(j1:Unit):Option (Nat⊕((List aO)×Bool)):=gd (1<=4294967296)<|some (.inr ([H.aZ],true))
@[go_sem] def UG(H:aR)(j1:Unit):St:=⟨[(0,.own 0 0 0),(3,.ptr 1 0 0)],[(0,⟨false,3,aO.enc aO.zero,[].map aO.enc⟩),(1,bx H)],2⟩
def Li(O:aR)(H:Int):Option (Int⊕(Unit⊕(Nat⊕((List aO)×Bool)))):=(if decide (H<0)then gd (0<=H/\H<(0:Int))<|(if decide (([].getD H.toNat aO.zero)=O.aZ)then some (.inr (.inr (.inr ([],true))))else some (.inl (i64.wrap (H+1))))else some (.inr (.inl ())))
@[go_sem] def UH(H:aR)(O:Int):St:=⟨[(0,.own 0 0 0),(3,.ptr 1 0 0),(6,.int i64 O)],[(0,⟨false,3,aO.enc aO.zero,[].map aO.enc⟩),(1,bx H)],2⟩
def HV(H:(List aO)):Option (Nat⊕((List aO)×Bool)):=some (.inr (H,true))
@[go_sem] def UI(H:(List aO)):St:=⟨[(0,.own 0 0 H.length)],[(0,sx H)],1⟩
def E4(O:aR)(H:Int×(List aO)):Option ((Int×(List aO))⊕((List aO)⊕(Nat⊕((List aO)×Bool)))):=(if decide (H.1<O.bG.length)then gd (0<=H.1/\H.1<O.bG.length)<|(AY (O.bG.getD H.1.toNat aR.zero) H.2).bind λ v2=>match v2 with | .inl v2=>some (.inr (.inr (.inl H.2.length))) | .inr v2=>(if !v2.1 then some (.inr (.inr (.inl H.2.length)))else some (.inl (i64.wrap (H.1+1),v2.2)))else some (.inr (.inl H.2)))
@[go_sem] def UJ(O:aR)(H:Int×(List aO)):St:=⟨[(0,.own 0 0 H.2.length),(3,.ptr 1 0 0),(7,.int i64 H.1)],[(0,sx H.2),(1,bx O)],2⟩
def A4(O:(aR->Option (Nat⊕((List aO)×Bool))))(H:aR):Option (Nat⊕((List aO)×Bool)):=(if decide ((H.bG.length:Int)=0)then(if decide (H.k=0)then vX H.aZ.name else some false).bind λ v1=>(if ((!decide (H.k=0))||(!v1))||(!(pX H.aZ.aI))then some (.inr ([],false))else(mF (Li H) 0).bind (λ|.inl z=>HU H z|.inr z=>some z))else(if (decide (H.k<1)||decide ((H.bG.length:Int)<H.k))||(!decide (H.aZ={aO.zero with}))then some (.inr ([],false))else(mF (E4 H) (0,[])).bind (λ|.inl z=>HV z|.inr z=>some z)))
def E5:Nat->(aR->Option (Nat⊕((List aO)×Bool)))
 |0=>λ _=>none
 |n+1=>A4 (E5 n)
def CO(H:aR):Option (Nat⊕((List aO)×Bool)):=E5 (_root_.SizeOf.sizeOf H+1) H
def bI2(F:(aR->Option (Nat⊕((List aO)×Bool))))(x0:∀(U:aR) (r:Nat),F U=some (.inl r)->MFn C 216 [.full ([].map aO.enc),ga U] [] 0 (.tup [.own 0 0 r,.bool false]) [] 1)(y0:∀(U:aR) (r:(List aO)×Bool),F U=some (.inr r)->MFn C 216 [.full ([].map aO.enc),ga U] [] 0 (.tup [la r.1,.bool r.2]) [] 0)(U:aR)(r:Nat)(h:A4 F U=some (.inl r)):MFn C 216 [.full ([].map aO.enc),ga U] [] 0 (.tup [.own 0 0 r,.bool false]) [] 1:=by
 refine pF f216 [] [.own 0 0 r,.bool false] λ E hG hN hK=>?_;unfold A4 at h;refine g_gh (.own0 0 3 (aO.enc aO.zero)) ?_;refine zq ?_;refine mD (zq ?_);refine mJ rfl hG h (λ _ h=>?_) (λ _ h=>?_)
 · refine mD (zq ?_)
   obtain⟨v1,h0,h⟩:=mG h;refine nK (λ hg=>(Ul U.aZ.name).ok _ (uM hg h0)) ?_;refine nK (λ hg=>(TZ U.aZ.aI).ok) ?_;refine mJ rfl hG h (λ _ h=>?_) (λ _ h=>?_)
   · refine zq ?_
     refine g_gh (.fz [0]) ?_;refine mO ?_;exact nomatch h
   refine mN ?_;refine mD (zq ?_);refine qA (UG U) (λ v=>HU U v=some (.inl r)) ?_ ?_
   · intro j1 h
     unfold HU at h;refine g_st ?_;refine mD ?_;obtain⟨r0,h⟩:=mM h;refine mE hG ?_;refine g_gh (.fz [2]) ?_;refine mO ?_;exact nomatch h
   refine qO (UH U) hK [(0,0),(1,1)] h (λ z0 h g1 u0 O B=>?_);unfold Li at O;refine g_st ?_;refine mD (zq ?_);refine mJ rfl hG O (λ _ O=>?_) (λ _ O=>?_)
   · refine mN ?_
     refine mD (oM (mD ?_));obtain⟨s0,O⟩:=mM O;refine i9 oS hG ?_;refine mJ rfl hG O (λ _ O=>?_) (λ _ O=>?_)
     · refine zq ?_
       refine g_gh (.fz [0]) ?_;refine mO ?_;cases O;cases B _ rfl;exact nomatch h
     refine mN ?_;refine mE hG ?_;exact pA hK [(0,0),(1,1)] O
   refine oO ?_;cases O;cases B _ rfl;exact nA hK [(0,0),(1,1)] () (by exact h)
 refine mN ?_;refine mD (zq ?_);refine mJ rfl hG h (λ _ h=>?_) (λ _ h=>?_)
 · refine zq ?_
   refine g_gh (.fz [0]) ?_;refine mO ?_;exact nomatch h
 refine mN ?_;refine mD (zq ?_);refine qA UI (λ v=>HV v=some (.inl r)) ?_ ?_
 · intro j2 h
   unfold HV at h;refine g_st ?_;refine zq ?_;refine g_gh (.fz [0]) ?_;refine mO ?_;exact nomatch h
 refine qO (UJ U) hK [(0,0),(1,1)] h (λ p0 h M q0 H Y=>?_);unfold E4 at H;refine g_st ?_;refine mD (zq ?_);refine mJ rfl hG H (λ _ H=>?_) (λ _ H=>?_)
 · refine mN ?_
   refine mD (oM (mD ?_));obtain⟨t0,H⟩:=mM H;refine mE hG ?_;obtain⟨v2,hv2,H⟩:=mG H;rcases v2 with v2|v2
   · dsimp only at H
     refine mU [(0,0)] [(1,2)] [0,1] ((Uz (U.bG.getD M.1.toNat aR.zero) M.2).ok _ hv2) rfl rfl ?_;refine mD (zq ?_);refine BZ rfl hG ?_;refine zq ?_;refine mO ?_;cases H;cases Y _ rfl;exact nD [(0,0)] (N3 h)
   dsimp only at H;refine mU [(0,0)] [(1,2)] [0,1] ((UA (U.bG.getD M.1.toNat aR.zero) M.2).ok _ hv2) rfl rfl ?_;refine mD (zq ?_);refine mJ rfl hG H (λ _ H=>?_) (λ _ H=>?_)
   · refine zq ?_
     refine mO ?_;cases H;cases Y _ rfl;exact nD [(0,0)] (N3 h)
   refine mN ?_;refine mE hG ?_;refine mE hG ?_;exact pA hK [(0,2),(1,1)] H
 refine oO ?_;cases H;cases Y _ rfl;exact nA hK [(0,0)] M.2 (by exact h)
def bI3(F:(aR->Option (Nat⊕((List aO)×Bool))))(x0:∀(U:aR) (r:Nat),F U=some (.inl r)->MFn C 216 [.full ([].map aO.enc),ga U] [] 0 (.tup [.own 0 0 r,.bool false]) [] 1)(y0:∀(U:aR) (r:(List aO)×Bool),F U=some (.inr r)->MFn C 216 [.full ([].map aO.enc),ga U] [] 0 (.tup [la r.1,.bool r.2]) [] 0)(U:aR)(r:(List aO)×Bool)(h:A4 F U=some (.inr r)):MFn C 216 [.full ([].map aO.enc),ga U] [] 0 (.tup [la r.1,.bool r.2]) [] 0:=by
 refine pF f216 [] [la r.1,.bool r.2] λ E hG hN hK=>?_;unfold A4 at h;refine g_gh (.own0 0 3 (aO.enc aO.zero)) ?_;refine zq ?_;refine mD (zq ?_);refine mJ rfl hG h (λ _ h=>?_) (λ _ h=>?_)
 · refine mD (zq ?_)
   obtain⟨v1,h0,h⟩:=mG h;refine nK (λ hg=>(Ul U.aZ.name).ok _ (uM hg h0)) ?_;refine nK (λ hg=>(TZ U.aZ.aI).ok) ?_;refine mJ rfl hG h (λ _ h=>?_) (λ _ h=>?_)
   · refine zq ?_
     refine g_gh (.fz [0]) ?_;refine mO ?_;exact nD [] (Eh h)
   refine mN ?_;refine mD (zq ?_);refine qA (UG U) (λ v=>HU U v=some (.inr r)) ?_ ?_
   · intro j1 h
     unfold HU at h;refine g_st ?_;refine mD ?_;obtain⟨r0,h⟩:=mM h;refine mE hG ?_;refine g_gh (.fz [2]) ?_;refine mO ?_;exact nD [] (Eh h)
   refine qO (UH U) hK [(0,0),(1,1)] h (λ z0 h g1 u0 O B=>?_);unfold Li at O;refine g_st ?_;refine mD (zq ?_);refine mJ rfl hG O (λ _ O=>?_) (λ _ O=>?_)
   · refine mN ?_
     refine mD (oM (mD ?_));obtain⟨s0,O⟩:=mM O;refine i9 oS hG ?_;refine mJ rfl hG O (λ _ O=>?_) (λ _ O=>?_)
     · refine zq ?_
       refine g_gh (.fz [0]) ?_;refine mO ?_;cases O;cases B _ rfl;exact nD [] (Eh h)
     refine mN ?_;refine mE hG ?_;exact pA hK [(0,0),(1,1)] O
   refine oO ?_;cases O;cases B _ rfl;exact nA hK [(0,0),(1,1)] () (by exact h)
 refine mN ?_;refine mD (zq ?_);refine mJ rfl hG h (λ _ h=>?_) (λ _ h=>?_)
 · refine zq ?_
   refine g_gh (.fz [0]) ?_;refine mO ?_;exact nD [] (Eh h)
 refine mN ?_;refine mD (zq ?_);refine qA UI (λ v=>HV v=some (.inr r)) ?_ ?_
 · intro j2 h
   unfold HV at h;refine g_st ?_;refine zq ?_;refine g_gh (.fz [0]) ?_;refine mO ?_;exact nD [] (Eh h)
 refine qO (UJ U) hK [(0,0),(1,1)] h (λ p0 h M q0 H Y=>?_);unfold E4 at H;refine g_st ?_;refine mD (zq ?_);refine mJ rfl hG H (λ _ H=>?_) (λ _ H=>?_)
 · refine mN ?_
   refine mD (oM (mD ?_));obtain⟨t0,H⟩:=mM H;refine mE hG ?_;obtain⟨v2,hv2,H⟩:=mG H;rcases v2 with v2|v2
   · dsimp only at H
     refine mU [(0,0)] [(1,2)] [0,1] ((Uz (U.bG.getD M.1.toNat aR.zero) M.2).ok _ hv2) rfl rfl ?_;refine mD (zq ?_);refine BZ rfl hG ?_;refine zq ?_;refine mO ?_;cases H;cases Y _ rfl;exact nomatch h
   dsimp only at H;refine mU [(0,0)] [(1,2)] [0,1] ((UA (U.bG.getD M.1.toNat aR.zero) M.2).ok _ hv2) rfl rfl ?_;refine mD (zq ?_);refine mJ rfl hG H (λ _ H=>?_) (λ _ H=>?_)
   · refine zq ?_
     refine mO ?_;cases H;cases Y _ rfl;exact nomatch h
   refine mN ?_;refine mE hG ?_;refine mE hG ?_;exact pA hK [(0,2),(1,1)] H
 refine oO ?_;cases H;cases Y _ rfl;exact nA hK [(0,0)] M.2 (by exact h)
def E6:∀(n:Nat),(∀(H:aR) (r:Nat),E5 n H=some (.inl r)->MFn C 216 [.full ([].map aO.enc),ga H] [] 0 (.tup [.own 0 0 r,.bool false]) [] 1)/\(∀(H:aR) (r:(List aO)×Bool),E5 n H=some (.inr r)->MFn C 216 [.full ([].map aO.enc),ga H] [] 0 (.tup [la r.1,.bool r.2]) [] 0)
 |0=>⟨(λ _ _ h=>nomatch h),(λ _ _ h=>nomatch h)⟩
 |n+1=>⟨bI2 (E5 n) (E6 n).1 (E6 n).2,bI3 (E5 n) (E6 n).1 (E6 n).2⟩
def bI5(H:aR)(r:Nat)(h:CO H=some (.inl r)):MFn C 216 [.full ([].map aO.enc),ga H] [] 0 (.tup [.own 0 0 r,.bool false]) [] 1:=(E6 _).1 H r h
def bI6(H:aR)(r:(List aO)×Bool)(h:CO H=some (.inr r)):MFn C 216 [.full ([].map aO.enc),ga H] [] 0 (.tup [la r.1,.bool r.2]) [] 0:=(E6 _).2 H r h
def E7(H:bB)(O:Int):Option (bB×Int):=(uZ H).bind λ v1=>(if !v1 then some ({bB.zero with},2)else(if decide (O<1)||decide (99<O)then some ({bB.zero with},1)else(l8 H.bI O).bind λ v2=>(if decide (0<=v2)then some ({bB.zero with},11)else(if decide ((H.bI.length:Int)=4)then some ({bB.zero with},4)else gd (H.aQ.length<=4294967296)<|gd (H.bI.length<=4294967296)<|gd (H.bI.length+1<=4294967296)<|some ((⟨H.aQ,H.bI++[(⟨O,(H.aQ.length:Int)⟩:bV)]⟩:bB),0)))))
instance bI7(H:bB)(O:Int):OkP (E7 H O) 193 [ga H,.int i64 O] (λ r=>.tup [ga r.1,.int i64 r.2]):=ok1 (E7.eq_1 H O) f193 [(28,1),(32,1),(43,2)]
end
end Ab
end Go.Proofs.YtfmnjkfhahfhgaaGreatDoor
