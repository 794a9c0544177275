import Derived.Test.YtfmnjkfhahfhgaaGreatDoorHm5
import Derived.Test.YtfmnjkfhahfhgaaGreatDoorHm9
import Derived.Test.YtfmnjkfhahfhgaaGreatDoorSort
import Derived.Test.YtfmnjkfhahfhgaaGreatDoorHm10
namespace Go.Proofs.YtfmnjkfhahfhgaaGreatDoor
namespace Ab
set_option linter.defProp false
open IntKind (i64 u64 u8)
set_option linter.unusedSimpArgs false
set_option linter.unusedVariables false
set_option maxRecDepth 100000
set_option maxHeartbeats 1000000
noncomputable section
variable {T T1 T2 : Type} (x : T) (v1 : T1) (v2 : T2)
def ltS(x y:aK):Prop:=x.site<y.site\/x.site=y.site/\(x.inc<y.inc\/x.inc=y.inc/\x.num<y.num)
instance(x y:aK):Decidable (ltS x y):=by unfold ltS;infer_instance
def cmpS(x y:aK):Int:=if ltS x y then-1 else if ltS y x then 1 else 0
def FI(x y:aK):ltOf cmpS x y=decide (ltS x y):=by
 unfold ltOf cmpS
 by_cases h:ltS x y
 .simp[h]
 .by_cases H:ltS y x<;>simp[h,H]
def bD7:Go.Sort.SWO (ltOf cmpS) where
 irrefl x:=by rw[FI];simp[ltS]
 trans x y z h1 h2:=by rw[FI,cD]at*;unfold ltS at*;omega
 ntrans x y z h1 h2:=by rw[FI,dL]at*;unfold ltS at*;omega
def bD8(x y:aK)(H:ltOf cmpS x y=false)(O:ltOf cmpS y x=false):x=y:=by rw[FI,dL]at*;unfold ltS at*;rw[aK.ext_iff];omega
def bD9(p q:aK):wR p q=some (cmpS p q):=by
 unfold wR Au;have e:∀(x y z:Int) (i:Nat) (h:[x,y,z].length=3),Arr.get (⟨[x,y,z],h⟩:Arr Int 3) i 0=match i with|0=>x|1=>y|_=>z:=by
  intro x y z i h
  match i with
  |0=>rfl
  |1=>rfl
  |2=>rfl
  |n+3=>
    have:¬(n+3<3):=om
    simp[Arr.get,oN,this]
 have w1:i64.wrap (0+1)=1:=by decide
 have w2:i64.wrap (1+1)=2:=by decide
 have w3:i64.wrap (2+1)=3:=by decide
 have s3:rH ⟨[p.site,p.inc,p.num],rfl⟩ ⟨[q.site,q.inc,q.num],rfl⟩ 3=some (.inr (.inl ())):=by unfold rH;simp
 have s2:rH ⟨[p.site,p.inc,p.num],rfl⟩ ⟨[q.site,q.inc,q.num],rfl⟩ 2=some (if p.num<q.num then .inr (.inr (-1))else if q.num<p.num then .inr (.inr 1)else .inl 3):=by
  unfold rH;rw[cA Om,lV Om,lV Om,lV Om];simp only[e,show(2:Int).toNat=2 from rfl,cD,w3]
  by_cases h:p.num<q.num
  .simp[h]
  .by_cases H:q.num<p.num<;>simp[h,H]
 have F:rH ⟨[p.site,p.inc,p.num],rfl⟩ ⟨[q.site,q.inc,q.num],rfl⟩ 1=some (if p.inc<q.inc then .inr (.inr (-1))else if q.inc<p.inc then .inr (.inr 1)else .inl 2):=by
  unfold rH;rw[cA Om,lV Om,lV Om,lV Om];simp only[e,show(1:Int).toNat=1 from rfl,cD,w2]
  by_cases h:p.inc<q.inc
  .simp[h]
  .by_cases H:q.inc<p.inc<;>simp[h,H]
 have O:rH ⟨[p.site,p.inc,p.num],rfl⟩ ⟨[q.site,q.inc,q.num],rfl⟩ 0=some (if p.site<q.site then .inr (.inr (-1))else if q.site<p.site then .inr (.inr 1)else .inl 1):=by
  unfold rH;rw[cA Om,lV Om,lV Om,lV Om];simp only[e,show(0:Int).toNat=0 from rfl,cD,w1]
  by_cases h:p.site<q.site
  .simp[h]
  .by_cases H:q.site<p.site<;>simp[h,H]
 unfold cmpS ltS
 by_cases U:p.site<q.site
 .rw[mF,O];simp[U]
 · by_cases B:q.site<p.site
   · rw[mF,O]
     have:¬p.site=q.site:=om
     simp[U,B,this]
   · have Y:p.site=q.site:=om
     by_cases M:p.inc<q.inc
     .rw[mF,O];simp only[U,B,cH];rw[mF,F];simp[M,Y]
     · by_cases b2:q.inc<p.inc
       · have:¬p.inc=q.inc:=om
         rw[mF,O];simp only[U,B,cH];rw[mF,F];simp[M,b2,Y,this]
       · have H:p.inc=q.inc:=om
         rw[mF,O];simp only[U,B,cH];rw[mF,F];simp only[M,b2,cH];rw[mF,s2]
         by_cases c1:p.num<q.num
         .simp[c1,Y,H]
         · by_cases c2:q.num<p.num
           .simp[c1,c2,Y,H]
           .simp only[c1,c2,cH];rw[mF,s3];simp[Y,H,Iw]
def R5(j1:(List Int)):Option (List Int):=some j1
def wT(O:aK)(H:Int×(List Int)):Option ((Int×(List Int))⊕(List Int)):=(if decide (H.1<3)then gd (0<=H.1/\H.1<3)<|(oX H.2 (u64.wrap (Arr.get (⟨[O.site,O.inc,O.num],rfl⟩:Arr Int 3) H.1.toNat 0))).bind λ v1=>some (.inl (i64.wrap (H.1+1),v1))else some (.inr H.2))
def n7(H:List Int)(O:aK):Option (List Int):=gd (H.length<=4294967296)<|(if !(mL O)then some H else(lS (wT O) (0,H)).bind (λ z=>R5 z))
@[reducible,instance]def bDb a0 a1:=mkJ (n7 a0 a1) 0 (@R5.eq_1) λ j1=>⟨[(5,.own 0 0 j1.length)],[(0,⟨false,1,[A.int u8 0],j1.map (eI u8)⟩)],1⟩
@[reducible,instance]def bDc (H:aK):=mkL x (@wT.eq_1 H) λ O=>⟨[(5,.own 0 0 O.2.length),(20,.agg (Arr.enc (eI i64) (⟨[H.site,H.inc,H.num],rfl⟩:Arr Int 3))),(21,.int i64 O.1)],[(0,⟨false,1,[A.int u8 0],O.2.map (eI u8)⟩)],1⟩
instance bDd(H:List Int)(O:aK):OkM (n7 H O) 102 [.sl (H.map (eI u8)),ga O] [] 0 (λ r=>.own 0 0 r.length) (λ r=>[(0,⟨false,1,[A.int u8 0],r.map (eI u8)⟩)]) 1:=okm (n7.eq_1 H O) (λ r=>[.own 0 0 r.length]) Tryz.f102 [(4,1)]
def R6(j1:Int×(Arr Int 3)):Option (aK×Int×Int):=(if !(mL (⟨Arr.get j1.2 0 0,Arr.get j1.2 1 0,Arr.get j1.2 2 0⟩:aK))then some ({aK.zero with},0,2)else some ((⟨Arr.get j1.2 0 0,Arr.get j1.2 1 0,Arr.get j1.2 2 0⟩:aK),j1.1,0))
def R7(O:List Int)(H:Int×Int×(Arr Int 3)):Option ((Int×Int×(Arr Int 3))⊕((Int×(Arr Int 3))⊕(aK×Int×Int))):=(if decide (H.2.1<3)then gd (0<=H.1/\H.1<=(O.length:Int)/\(O.length:Int)<=(O.length:Int))<|(uE (O.drop H.1.toNat)).bind λ v1=>(if !decide (v1.2.2=0)then some (.inr (.inr ({aK.zero with},0,v1.2.2)))else gd (0<=H.2.1/\H.2.1<3)<|some (.inl (i64.wrap (H.1+v1.2.1),i64.wrap (H.2.1+1),Arr.put H.2.2 H.2.1.toNat (i64.wrap (if 1073741824<v1.1 then 1073741824 else v1.1)))))else some (.inr (.inl (H.1,H.2.2))))
def AN(H:List Int):Option (aK×Int×Int):=(lS (R7 H) (0,0,Arr.rep 3 0)).bind (λ|.inl z=>R6 z|.inr z=>some z)
@[reducible,instance]def bDg a0:=mkJ (AN a0) 0 (@R6.eq_1) λ j1=>⟨[(2,.ptr 0 0 0),(5,.ptr 1 0 0),(6,.int i64 j1.1)],[(0,bx aK.zero),(1,⟨false,3,Arr.enc (eI i64) (Arr.rep 3 0),[Arr.enc (eI i64) j1.2]⟩)],2⟩
@[reducible,instance]def bDh (O:List Int):=mkL x (@R7.eq_1 O) λ H=>⟨[(0,.sl (O.map (eI u8))),(2,.ptr 0 0 0),(5,.ptr 1 0 0),(6,.int i64 H.1),(12,.int i64 H.2.1)],[(0,bx aK.zero),(1,⟨false,3,Arr.enc (eI i64) (Arr.rep 3 0),[Arr.enc (eI i64) H.2.2]⟩)],2⟩
instance bDi(H:List Int):OkP (AN H) 115 [.sl (H.map (eI u8))] (λ r=>.tup [ga r.1,.int i64 r.2.1,.int i64 r.2.2]):=ok1 (AN.eq_1 H) Tryz.f115 []
def FJ(H:bE):Option (ByteArray×bE):=(if !decide (H.bR.err=0)then some ((⟨#[]⟩:ByteArray),H)else(CS H.bR.rest).bind λ v1=>(if !decide (v1.2.2=0)then some ((⟨#[]⟩:ByteArray),{H with bR:={H.bR with err:=v1.2.2}})else gd (0<=v1.2.1/\v1.2.1<=(H.bR.rest.length:Int)/\(H.bR.rest.length:Int)<=(H.bR.rest.length:Int))<|some (v1.1,{H with bR:={H.bR with rest:=(H.bR.rest.drop v1.2.1.toNat)}})))
instance R8(H:bE):OkM (FJ H) 218 [.ptr 0 0 0] [(0,bx H)] 1 (λ r=>.str r.1) (λ r=>[(0,bx r.2)]) 1:=okm (FJ.eq_1 H) (λ r=>[.str r.1]) Tryz.f218 []
def IZ(H O:bQ):Option Bool:=(if decide (H.aL=O.aL)&&decide (H.gen=O.gen)then Mm H.bU O.bU else some false).bind λ v1=>some ((decide (H.aL=O.aL)&&decide (H.gen=O.gen))&&v1)
instance bDk(H O:bQ):OkP (IZ H O) 83 [ga H,ga O] .bool:=ok1 (IZ.eq_1 H O) Tryz.f83 []
def R9(j1:Unit):Option Bool:=some true
def CZ(O:ByteArray)(H:Int):Option (Int⊕(Unit⊕Bool)):=(if decide (H<(O.size:Int))then gd (0<=H/\H<(O.size:Int))<|(if !(tJ ((O.toList.getD H.toNat 0).toNat:Int))then some (.inr (.inr false))else some (.inl (i64.wrap (H+1))))else some (.inr (.inl ())))
def uI(H:ByteArray):Option Bool:=gd ((!(decide ((H.size:Int)<1)||decide (12<(H.size:Int))))=true->0<=0/\0<(H.size:Int))<|(if ((decide ((H.size:Int)<1)||decide (12<(H.size:Int)))||(!(l9 ((H.toList.getD 0 0).toNat:Int))))||l7 H then some false else(lS (CZ H) 0).bind (λ|.inl z=>R9 z|.inr z=>some z))
@[reducible,instance]def bDm a0:=mkJ (uI a0) 0 (@R9.eq_1) λ j1=>⟨[],[],0⟩
@[reducible,instance]def bDn (H:ByteArray):=mkL x (@CZ.eq_1 H) λ O=>⟨[(0,.str H),(3,.int i64 O)],[],0⟩
instance Sa(H:ByteArray):OkP (uI H) 54 [.str H] .bool:=ok1 (uI.eq_1 H) Tryz.f54 []
def tM(H:aH)(O:aC):Bool:=(yI H&&(nP O||qF H O))
instance bDp(H:aH)(O:aC):OkT 242 [.agg (aH.enc H),.agg (aC.enc O)] (.bool (tM H O)):=ok2 .bool (tM.eq_1 H O) Tryz.f242 []
def yV(H O:aC):Bool:=(if (!(pH O))||decide (H=O)then false else(if decide (H={aC.zero with})then true else(if !(pH H)then false else(if !decide (H.mode=0)then(n5 O.mode H.mode)else(decide (H.aT<O.aT))))))
instance bDq(H O:aC):OkT 153 [.agg (aC.enc H),.agg (aC.enc O)] (.bool (yV H O)):=ok2 .bool (yV.eq_1 H O) Tryz.f153 []
def Sb(H:bB)(j1:(List aG)):Option (Int×bB):=some (0,(⟨(⟨H.c.now,H.c.aF,j1⟩:bC),H.ev⟩:bB))
def I0(H:Int×(List aG)):Option ((Int×(List aG))⊕(List aG)):=gd (decide (0<H.1)=true->0<=i64.wrap (H.1-1)/\i64.wrap (H.1-1)<((H.2.length:Nat):Int))<|gd (decide (0<H.1)=true->0<=H.1/\H.1<((H.2.length:Nat):Int))<|(if decide (0<H.1)&&decide (0<uH (H.2.getD (i64.wrap (H.1-1)).toNat aG.zero).aL (H.2.getD H.1.toNat aG.zero).aL)then gd (0<=H.1/\H.1<((H.2.length:Nat):Int))<|gd (0<=i64.wrap (H.1-1)/\i64.wrap (H.1-1)<((H.2.length:Nat):Int))<|gd (0<=H.1/\H.1<((H.2.length:Nat):Int))<|gd (0<=i64.wrap (H.1-1)/\i64.wrap (H.1-1)<((H.2.length:Nat):Int))<|some (.inl (i64.wrap (H.1-1),(H.2.set H.1.toNat (H.2.getD (i64.wrap (H.1-1)).toNat aG.zero)).set (i64.wrap (H.1-1)).toNat (H.2.getD H.1.toNat aG.zero)))else some (.inr H.2))
def n8(O:aK)(U:Int)(H:bB):Option (Int×bB):=(if ((!(oU O))||decide (U<1))||decide (1000<U)then some (1,H)else(wO H.c.aD O).bind λ v1=>(if decide (0<=v1)then some (11,H)else(if decide (((H.c.aD.length:Nat):Int)=8)then some (4,H)else gd (H.c.aD.length+1<=4294967296)<|(lS I0 (i64.wrap (((H.c.aD.length+1:Nat):Int)-1),H.c.aD++[{aG.zero with aL:=O,cost:=U}])).bind (λ z=>Sb H z))))
@[reducible,instance]def bDs a0 a1 (H:bB):=mkJ (n8 a0 a1 H,v1) 0 (@Sb.eq_1 H) λ j1=>⟨[(0,.ptr 0 0 0),(7,.own 3 0 j1.length)],[(0,⟨false,4,bB.enc bB.zero,[[.int i64 H.c.now,la H.c.aF,.own 1 0 H.c.aD.length,.own 4 0 H.ev.length]]⟩),(3,sx j1),(4,sx H.ev)],5⟩
@[reducible,instance]def bDt a0 a1 (H:bB):=mkL (n8 a0 a1 H,v1) (@I0.eq_1) λ O=>⟨[(0,.ptr 0 0 0),(7,.own 3 0 O.2.length),(8,.int i64 O.1)],[(0,⟨false,4,bB.enc bB.zero,[[.int i64 H.c.now,la H.c.aF,.own 1 0 H.c.aD.length,.own 4 0 H.ev.length]]⟩),(3,sx O.2),(4,sx H.ev)],5⟩
instance bDu(O:aK)(U:Int)(H:bB):OkM (n8 O U H) 186 [.ptr 0 0 0,ga O,.int i64 U] [(0,⟨false,4,bB.enc bB.zero,[[.int i64 H.c.now,la H.c.aF,.own 1 0 H.c.aD.length,.own 2 0 H.ev.length]]⟩),(1,sx H.c.aD),(2,sx H.ev)] 3 (λ r=>.int i64 r.1) (λ r=>[(0,⟨false,4,bB.enc bB.zero,[[.int i64 r.2.c.now,la r.2.c.aF,.own 3 0 r.2.c.aD.length,.own 4 0 r.2.ev.length]]⟩),(3,sx r.2.c.aD),(4,sx r.2.ev)]) 5:=okm (n8.eq_1 O U H) (λ r=>[.int i64 r.1]) Tryz.f186 []
def n9(H:aA)(O:aK):Option Bool:=(tH H O).bind λ v1=>(if !v1.2 then rI H O else some aC.zero).bind λ v2=>some (v1.2||(!(nP v2)))
instance bDv(H:aA)(O:aK):OkP (n9 H O) 150 [ga H,ga O] .bool:=ok1 (n9.eq_1 H O) Tryz.f150 []
def C0(H:aH):Option Bool:=(vG H.name).bind λ v1=>some (((v1&&nQ H)&&decide (0<=H.home))&&decide (H.home<4))
instance bDw(H:aH):OkP (C0 H) 268 [ga H] .bool:=ok1 (C0.eq_1 H) Tryz.f268 []
def nK(H:aH)(O:aC):Bool:=(nQ H&&(oG O||mE H O))
instance bDx(H:aH)(O:aC):OkT 300 [.agg (aH.enc H),.agg (aC.enc O)] (.bool (nK H O)):=ok2 .bool (nK.eq_1 H O) Tryz.f300 []
def AO(H:aO):Option Bool:=(vG H.name).bind λ v1=>some (v1&&(mE ({aH.zero with kind:=1,aT:=1}) H.aJ||mE ({aH.zero with kind:=2,aT:=8}) H.aJ))
instance bDy(H:aO):OkP (AO H) 255 [ga H] .bool:=⟨λ r h=>by
 refine oC Tryz.f255 [] λ E hG O hK=>?_;have hm:Mk (AO H):=trivial;unfold AO at h;exact gogo⟩
def Sc(j1:(List Int)):Option (List Int):=some j1
def wU(O:aK)(H:(List Int)×Int):Option (((List Int)×Int)⊕(List Int)):=(if decide (H.2<3)then gd (0<=H.2/\H.2<3)<|(tG H.1 (u64.wrap (Arr.get (⟨[O.site,O.inc,O.num],rfl⟩:Arr Int 3) H.2.toNat 0))).bind λ v1=>some (.inl (v1,i64.wrap (H.2+1)))else some (.inr H.1))
def vH(H:List Int)(O:aK):Option (List Int):=gd (H.length<=4294967296)<|(if !(mL O)then some H else(lS (wU O) (H,0)).bind (λ z=>Sc z))
@[reducible,instance]def bE0 (H:List Int) (O:aK):=mkJ (vH H O) 0 (@Sc.eq_1) λ j1=>⟨[(5,.sl (j1.map (eI u8)))],[],0⟩
@[reducible,instance]def bE1 (H:aK):=mkL x (@wU.eq_1 H) λ O=>⟨[(5,.sl (O.1.map (eI u8))),(20,.agg (Arr.enc (eI i64) (⟨[H.site,H.inc,H.num],rfl⟩:Arr Int 3))),(21,.int i64 O.2)],[],0⟩
instance bE2(H:List Int)(O:aK):OkP (vH H O) 102 [.sl (H.map (eI u8)),ga O] (λ r=>.sl (r.map (eI u8))):=⟨λ r h=>by
 refine oC Tryz.f102 [(27,1)] λ E hG Y hK=>?_;have hm:Mk (vH H O):=trivial;unfold vH at h;refine lQ (lR hG ?_);refine lQ ?_;obtain⟨U,h⟩:=lZ h;refine lR hG ?_;refine g_gh (.fz [1]) ?_;exact gogo⟩
def tN:List ByteArray:=[(⟨#[97]⟩:ByteArray),(⟨#[98]⟩:ByteArray),(⟨#[99]⟩:ByteArray),(⟨#[100]⟩:ByteArray)]
def Mr(j1:bK×(List aH)):Option ((List aH)×bK):=(nI 8 j1.1).bind λ v1=>(nI 4 v1.2).bind λ v2=>gd (j1.2.length+1<=4294967296)<|(nI 3 v2.2).bind λ v3=>(nI 4 v3.2).bind λ v4=>gd (j1.2.length+1+1<=4294967296)<|some ((j1.2++[(⟨(⟨#[112]⟩:ByteArray),2,i64.wrap (1+v1.1),v2.1⟩:aH)])++[(⟨(⟨#[113]⟩:ByteArray),2,i64.wrap (1+v3.1),v4.1⟩:aH)],v4.2)
def C1(H:Int×bK×(List aH)):Option ((Int×bK×(List aH))⊕(bK×(List aH))):=(if decide (H.1<tN.length)then gd (0<=H.1/\H.1<tN.length)<|(nI 4 H.2.1).bind λ v5=>gd (H.2.2.length+1<=4294967296)<|some (.inl (i64.wrap (H.1+1),v5.2,H.2.2++[(⟨tN.getD H.1.toNat ⟨#[]⟩,1,1,v5.1⟩:aH)]))else some (.inr (H.2.1,H.2.2)))
def o4(H:bK):Option ((List aH)×bK):=(lS C1 (0,H,[])).bind (λ z=>Mr z)
@[reducible,instance]def bE4 (H:bK):=mkJ (o4 H) 0 (@Mr.eq_1) λ j1=>⟨[(0,.ptr 0 0 0),(3,.own 1 0 j1.2.length)],[(0,bx j1.1),(1,sx j1.2)],2⟩
@[reducible,instance]def bE5:=mkL x (@C1.eq_1) λ H=>⟨[(0,.ptr 0 0 0),(3,.own 1 0 H.2.2.length),(4,.full (tN.map eS)),(5,.int i64 H.1)],[(0,bx H.2.1),(1,sx H.2.2)],2⟩
instance bE6(H:bK):OkM (o4 H) 40 [.ptr 0 0 0] [(0,bx H)] 1 (λ r=>la r.1) (λ r=>[(0,bx r.2)]) 1:=⟨λ r h=>by
 refine oR Tryz.f40 [(3,1)] [la r.1] λ E hG B hK=>?_;have hm:Mk (o4 H):=trivial;unfold o4 at h;refine lQ (lR hG ?_);refine lQ (lR hG ?_);refine lQ (lR hG ?_);refine g_gh (.cast 4 (.full (tN.map eS))) ?_;refine lQ (lQ (lR hG ?_));refine wL hm h (λ j1 hm h=>?_) ?_
 · try refine g_st ?_
   refine lQ (lR hG ?_);obtain⟨v1,O,h⟩:=lT h;have hm:=mkP hm v1;refine mH [(0,0)] [] [0] ((pY 8 j1.1).ok _ O) rfl rfl ?_;obtain⟨v2,hv2,h⟩:=lT h;have hm:=mkP hm v2;obtain⟨U,h⟩:=lZ h;refine mH [(0,0)] [] [0] ((pY 4 v1.2).ok _ hv2) rfl rfl ?_;refine lQ (lR hG ?_);obtain⟨v3,hv3,h⟩:=lT h;have hm:=mkP hm v3;refine mH [(0,0)] [] [0] ((pY 3 v2.2).ok _ hv3) rfl rfl ?_;obtain⟨v4,hv4,h⟩:=lT h;have hm:=mkP hm v4;obtain⟨Y,h⟩:=lZ h;refine mH [(0,0)] [] [0] ((pY 4 v3.2).ok _ hv4) rfl rfl ?_;refine g_gh (.fz [3]) ?_;exact gogo
 exact gogo⟩
def yW(H:aH)(O:Int):Option aC:=(if decide (H.kind=1)then(AC O).bind λ v1=>some ({aC.zero with mode:=v1})else(uD O H.aT).bind λ v2=>some ({aC.zero with aT:=(i64.wrap (1+v2))}))
instance Ms(H:aH)(O:Int):OkP (yW H O) 19 [ga H,.int i64 O] ga:=ok1 (yW.eq_1 H O) Tryz.f19 []
def Mt(H:aK)(O:aC)(j1:Bool×(List aX)):Option (List aX):=(if !j1.1 then gd (j1.2.length+1<=4294967296)<|some (j1.2++[(⟨H,O⟩:aX)])else some j1.2)
def FK(O:List aX)(U:aK)(Y:aC)(H:Bool×Int×(List aX)):Option ((Bool×Int×(List aX))⊕(Bool×(List aX))):=(if decide (H.2.1<O.length)then gd (0<=H.2.1/\H.2.1<O.length)<|(if decide ((O.getD H.2.1.toNat aX.zero).aL=U)then some (.inl (H.1,i64.wrap (H.2.1+1),H.2.2))else gd ((!H.1)=true->0<=H.2.1/\H.2.1<O.length)<|(if (!H.1)&&decide (0<uH (O.getD H.2.1.toNat aX.zero).aL U)then gd (H.2.2.length+1<=4294967296)<|gd (0<=H.2.1/\H.2.1<O.length)<|gd (H.2.2.length+1+1<=4294967296)<|some (.inl (true,i64.wrap (H.2.1+1),(H.2.2++[(⟨U,Y⟩:aX)])++[O.getD H.2.1.toNat aX.zero]))else gd (0<=H.2.1/\H.2.1<O.length)<|gd (H.2.2.length+1<=4294967296)<|some (.inl (H.1,i64.wrap (H.2.1+1),H.2.2++[O.getD H.2.1.toNat aX.zero]))))else some (.inr (H.1,H.2.2)))
def wV(U:List aX)(O:aK)(H:aC):Option (List aX):=(lS (FK U O H) (nP H,0,[])).bind (λ z=>Mt O H z)
@[reducible,instance]def bEa a0 (H:aK) (O:aC):=mkJ (wV a0 H O) 0 (@Mt.eq_1 H O) λ j1=>⟨[(4,.ptr 0 0 0),(5,.ptr 1 0 0),(7,.own 2 0 j1.2.length),(8,.bool j1.1)],[(0,bx H),(1,bx O),(2,sx j1.2)],3⟩
@[reducible,instance]def bEb (O:List aX) (U:aK) (Y:aC):=mkL x (@FK.eq_1 O U Y) λ H=>⟨[(0,la O),(4,.ptr 0 0 0),(5,.ptr 1 0 0),(7,.own 2 0 H.2.2.length),(8,.bool H.1),(9,.int i64 H.2.1)],[(0,bx U),(1,bx Y),(2,sx H.2.2)],3⟩
instance bEc(H:List aX)(O:aK)(U:aC):OkP (wV H O U) 209 [la H,ga O,ga U] la:=ok1 (wV.eq_1 H O U) Tryz.f209 [(7,1)]
def Sd(j1:(List aO)):Option (List aO):=some j1
def I1(O:List aA)(U:aK)(H:Int×(List aO)):Option ((Int×(List aO))⊕(List aO)):=(if decide (H.1<O.length)then gd (0<=H.1/\H.1<O.length)<|(tH (O.getD H.1.toNat aA.zero) U).bind λ v1=>(if v1.2 then gd (0<=H.1/\H.1<O.length)<|gd (H.2.length+1<=4294967296)<|some (.inl (i64.wrap (H.1+1),H.2++[(⟨((O.getD H.1.toNat aA.zero).aB).name,v1.1⟩:aO)]))else some (.inl (i64.wrap (H.1+1),H.2)))else some (.inr H.2))
def AP(H:List aA)(O:aK):Option (List aO):=(lS (I1 H O) (0,[])).bind (λ z=>Sd z)
@[reducible,instance]def bEf a0 a1:=mkJ (AP a0 a1) 0 (@Sd.eq_1) λ j1=>⟨[(5,.own 0 0 j1.length)],[(0,sx j1)],1⟩
@[reducible,instance]def bEg (O:List aA) (U:aK):=mkL x (@I1.eq_1 O U) λ H=>⟨[(0,la O),(3,.ptr 0 0 0),(5,.own 1 0 H.2.length),(6,.int i64 H.1)],[(0,bx U),(1,sx H.2)],2⟩
instance bEh(H:List aA)(O:aK):OkP (AP H O) 141 [la H,ga O] la:=ok1 (AP.eq_1 H O) Tryz.f141 [(5,1)]
def Se(j1:Unit):Option Int:=some 0
def I2(O U H:Int):Option (Int⊕(Unit⊕Int)):=(if decide (H<=5)then(if n5 H O&&n5 H U then some (.inr (.inr H))else some (.inl (i64.wrap (H+1))))else some (.inr (.inl ())))
def C2(H O:Int):Option Int:=(lS (I2 H O) 1).bind (λ|.inl z=>Se z|.inr z=>some z)
@[reducible,instance]def bEk a0 a1:=mkJ (C2 a0 a1) 0 (@Se.eq_1) λ j1=>⟨[],[],0⟩
@[reducible,instance]def bEl (H O:Int):=mkL x (@I2.eq_1 H O) λ U=>⟨[(0,.int i64 H),(1,.int i64 O),(5,.int i64 U)],[],0⟩
instance bEm(H O:Int):OkP (C2 H O) 243 [.int i64 H,.int i64 O] (λ r=>.int i64 r):=ok1 (C2.eq_1 H O) Tryz.f243 []
def Sf(j1:(List aK)):Option (List aK):=some j1
def Sg(H:Int×(List aK))(O:(List aK)):Option ((Int×(List aK))⊕(List aK)):=some (.inl (i64.wrap (H.1+1),O))
def Sh(H:Int×(List aK)):Option ((Int×(List aK))⊕(List aK)):=gd (decide (0<H.1)=true->0<=i64.wrap (H.1-1)/\i64.wrap (H.1-1)<((H.2.length:Nat):Int))<|gd (decide (0<H.1)=true->0<=H.1/\H.1<((H.2.length:Nat):Int))<|(if decide (0<H.1)&&decide (0<uH (H.2.getD (i64.wrap (H.1-1)).toNat aK.zero) (H.2.getD H.1.toNat aK.zero))then gd (0<=i64.wrap (H.1-1)/\i64.wrap (H.1-1)<((H.2.length:Nat):Int))<|gd (0<=H.1/\H.1<((H.2.length:Nat):Int))<|gd (0<=i64.wrap (H.1-1)/\i64.wrap (H.1-1)<((H.2.length:Nat):Int))<|gd (0<=H.1/\H.1<((H.2.length:Nat):Int))<|some (.inl (i64.wrap (H.1-1),(H.2.set (i64.wrap (H.1-1)).toNat (H.2.getD H.1.toNat aK.zero)).set H.1.toNat (H.2.getD (i64.wrap (H.1-1)).toNat aK.zero)))else some (.inr H.2))
def I3(O:List aK)(H:Int×(List aK)):Option ((Int×(List aK))⊕(List aK)):=(if decide (H.1<O.length)then gd (0<=H.1/\H.1<O.length)<|(yK H.2 (O.getD H.1.toNat aK.zero)).bind λ v1=>(if v1 then some (.inl (i64.wrap (H.1+1),H.2))else gd (0<=H.1/\H.1<O.length)<|gd (H.2.length+1<=4294967296)<|(lS Sh (((H.2.length:Nat):Int),H.2++[O.getD H.1.toNat aK.zero])).bind (λ z=>Sg H z))else some (.inr H.2))
def FL(H:List aK):Option (List aK):=(lS (I3 H) (0,[])).bind (λ z=>Sf z)
@[reducible,instance]def bEq a0:=mkJ (FL a0) 0 (@Sf.eq_1) λ j1=>⟨[(3,.own 0 0 j1.length)],[(0,sx j1)],1⟩
@[reducible,instance]def bEr (O:List aK) (H:Int×(List aK)):=mkJ (I3 O H,v1) 2 (@Sg.eq_1 H) λ U=>⟨[(0,la O),(3,.own 0 0 U.length),(4,.int i64 H.1)],[(0,sx U)],1⟩
@[reducible,instance]def bEs (O:List aK) (U:Int×(List aK)):=mkL (I3 O U,v1) (@Sh.eq_1) λ H=>⟨[(0,la O),(3,.own 0 0 H.2.length),(4,.int i64 U.1),(5,.int i64 H.1)],[(0,sx H.2)],1⟩
@[reducible,instance]def bEt (O:List aK):=mkL x (@I3.eq_1 O) λ H=>⟨[(0,la O),(3,.own 0 0 H.2.length),(4,.int i64 H.1)],[(0,sx H.2)],1⟩
instance bEu(H:List aK):OkM (FL H) 135 [la H] [] 0 (λ r=>.own 0 0 r.length) (λ r=>[(0,sx r)]) 1:=okm (FL.eq_1 H) (λ r=>[.own 0 0 r.length]) Tryz.f135 [(2,1),(3,1)]
def Mu(j1:Bool):Option Bool:=some j1
@[go_sem] def bEw(j1:Bool):St:=⟨[(5,.bool j1)],[],0⟩
def I4(O:List aC)(H:Int×Int×(Arr Bool 6))(U:Unit):Option ((Int×Int×(Arr Bool 6))⊕Bool):=gd (0<=(O.getD H.2.1.toNat aC.zero).mode/\(O.getD H.2.1.toNat aC.zero).mode<6)<|some (.inl (i64.wrap (H.1+(O.getD H.2.1.toNat aC.zero).aT),i64.wrap (H.2.1+1),Arr.put H.2.2 ((O.getD H.2.1.toNat aC.zero).mode).toNat true))
@[go_sem] def bEx(U:aH)(O:List aC)(H:Int×Int×(Arr Bool 6))(Y:Unit):St:=⟨[(2,.ptr 0 0 0),(5,.bool true),(6,.ptr 1 0 0),(7,.int i64 (i64.wrap (H.1+(O.getD H.2.1.toNat aC.zero).aT))),(9,.ptr 2 0 0),(15,la O),(16,.int i64 O.length),(17,.int i64 H.2.1)],[(0,bx U),(1,⟨false,6,Arr.enc eB (Arr.rep 6 false),[Arr.enc eB H.2.2]⟩),(2,bx (O.getD H.2.1.toNat aC.zero))],3⟩
def C3(U:List aC)(O:Int×Int×(Arr Bool 6))(H:Int):Option (Int⊕(Unit⊕Bool)):=(if decide (H<6)then gd (0<=H/\H<6)<|(if Arr.get O.2.2 H.toNat false then CI H ((U.getD O.2.1.toNat aC.zero).mode)else some false).bind λ v1=>(if Arr.get O.2.2 H.toNat false&&(!v1)then some (.inr (.inr false))else some (.inl (i64.wrap (H+1))))else some (.inr (.inl ())))
@[go_sem] def bEy(U:aH)(O:List aC)(H:Int×Int×(Arr Bool 6))(Y:Int):St:=⟨[(2,.ptr 0 0 0),(5,.bool true),(6,.ptr 1 0 0),(7,.int i64 (i64.wrap (H.1+(O.getD H.2.1.toNat aC.zero).aT))),(9,.ptr 2 0 0),(15,la O),(16,.int i64 O.length),(17,.int i64 H.2.1),(41,.agg (Arr.enc eB H.2.2)),(42,.int i64 Y)],[(0,bx U),(1,⟨false,6,Arr.enc eB (Arr.rep 6 false),[Arr.enc eB H.2.2]⟩),(2,bx (O.getD H.2.1.toNat aC.zero))],3⟩
def FM(U:aH)(O:List aC)(H:Int×Int×(Arr Bool 6)):Option ((Int×Int×(Arr Bool 6))⊕Bool):=(if decide (H.2.1<O.length)then gd (0<=H.2.1/\H.2.1<O.length)<|(if (!(nK U (O.getD H.2.1.toNat aC.zero)))||decide (U.aT<i64.wrap (H.1+(O.getD H.2.1.toNat aC.zero).aT))then some (.inr false)else(if decide ((O.getD H.2.1.toNat aC.zero).mode=0)then some (.inl (i64.wrap (H.1+(O.getD H.2.1.toNat aC.zero).aT),i64.wrap (H.2.1+1),H.2.2))else(lS (C3 O H) 0).bind (λ|.inl z=>I4 O H z|.inr z=>some (.inr z))))else some (.inr true))
@[go_sem] def bEz(U:aH)(O:List aC)(H:Int×Int×(Arr Bool 6)):St:=⟨[(2,.ptr 0 0 0),(5,.bool true),(6,.ptr 1 0 0),(7,.int i64 H.1),(15,la O),(16,.int i64 O.length),(17,.int i64 H.2.1)],[(0,bx U),(1,⟨false,6,Arr.enc eB (Arr.rep 6 false),[Arr.enc eB H.2.2]⟩)],2⟩
def AQ(H:aH)(O:List aC):Option Bool:=(if !(nQ H)then some false else(lS (FM H O) (0,0,Arr.rep 6 false)).bind (λ z=>Mu z))
def bF0(F:aH)(B:List aC)(r:Bool)(h:AQ F B=some r):PFn C 283 [ga F,la B] (.bool r):=by
 refine oC Tryz.f283 [] λ E hG hN hK=>?_;unfold AQ at h;refine lQ (lR hG ?_);refine X3 ?_;refine lQ (lQ (lR hG ?_));refine mW (λ hg=>(Zw F).ok) ?_;refine lU rfl hG h (λ _ h=>?_) (λ _ h=>?_)
 · refine lQ (lR hG ?_)
   refine lX ?_;exact nF h
 refine lW ?_;refine lQ (lR hG ?_);refine lQ (lR hG ?_);refine lQ (lR hG ?_);refine lQ ?_;refine Zl ?_;refine lQ (lQ (lR hG ?_));refine pL bEw (λ v=>Mu v=some r) ?_ ?_
 · intro j1 h
   unfold Mu at h;refine g_st ?_;refine lQ (lR hG ?_);refine lX ?_;exact nF h
 refine pX (bEz F B) hK [(0,0),(1,1)] h (λ y0 h M h0 H U=>?_);unfold FM at H;refine g_st ?_;refine lQ (lR hG ?_);refine lQ ?_;refine lU rfl hG H (λ _ H=>?_) (λ _ H=>?_)
 · refine lW ?_
   refine lQ (nV (lQ ?_));obtain⟨v0,H⟩:=lZ H;refine lR hG ?_;refine lQ (lQ (lR hG ?_));refine mW (λ hg=>(bDx F (B.getD M.2.1.toNat aC.zero)).ok) ?_;refine lU rfl hG H (λ _ H=>?_) (λ _ H=>?_)
   · refine lQ (lR hG ?_)
     refine nX ?_;cases H;cases U _ rfl;exact mM hK [] false (by exact h)
   refine lW ?_;refine lQ (lR hG ?_);refine lQ (lQ (lR hG ?_));refine lU rfl hG H (λ _ H=>?_) (λ _ H=>?_)
   · refine nX ?_
     refine lR hG ?_;exact oL hK [(0,0),(1,1)] H
   refine lW ?_;refine lQ (lQ (lR hG ?_));refine pL (bEx F B M) (λ v=>I4 B M v=some h0) ?_ ?_
   · intro j2 H
     unfold I4 at H;refine g_st ?_;obtain⟨p0,H⟩:=lZ H;refine lR hG ?_;refine lR hG ?_;exact oL hK [(0,0),(1,1)] H
   refine pX (bEy F B M) hK [(0,0),(1,1),(2,2)] H (λ z0 H g2 u0 O Y=>?_);unfold C3 at O;refine g_st ?_;refine lQ (lR hG ?_);refine lQ ?_;refine lU rfl hG O (λ _ O=>?_) (λ _ O=>?_)
   · refine lW ?_
     refine lQ (nV (lQ ?_));obtain⟨q0,O⟩:=lZ O;refine lR hG ?_;refine lQ (lR hG ?_);obtain⟨v1,x0,O⟩:=lT O;refine mW (λ hg=>(aZo g2 (B.getD M.2.1.toNat aC.zero).mode).ok _ (tB hg x0)) ?_;refine lU rfl hG O (λ _ O=>?_) (λ _ O=>?_)
     · refine lQ (lR hG ?_)
       refine nX ?_;obtain rfl:=dW O;have hx:=Y _ rfl;subst hx
       try dsimp only at H
       cases H;cases U _ rfl;exact mM hK [] false (by exact h)
     refine lW ?_;refine lR hG ?_;exact oL hK [(0,0),(1,1),(2,2)] O
   refine nX ?_;obtain rfl:=dW O;have hx:=Y _ rfl;subst hx
   try dsimp only at H
   exact mM hK [(0,0),(1,1),(2,2)] () (by exact H)
 refine nX ?_;cases H;cases U _ rfl;exact mM hK [] true (by exact h)
instance bF1(H:aH)(O:List aC):OkP (AQ H O) 283 [ga H,la O] .bool:=⟨bF0 H O⟩
def AR(H:bE):Option (aK×bE):=(if !decide (H.bR.err=0)then some ({aK.zero with},H)else(AN H.bR.rest).bind λ v1=>(if !decide (v1.2.2=0)then some ({aK.zero with},{H with bR:={H.bR with err:=v1.2.2}})else gd (0<=v1.2.1/\v1.2.1<=(H.bR.rest.length:Int)/\(H.bR.rest.length:Int)<=(H.bR.rest.length:Int))<|some (v1.1,{H with bR:={H.bR with rest:=(H.bR.rest.drop v1.2.1.toNat)}})))
instance bF2(H:bE):OkM (AR H) 165 [.ptr 0 0 0] [(0,bx H)] 1 (λ r=>ga r.1) (λ r=>[(0,bx r.2)]) 1:=okm (AR.eq_1 H) (λ r=>[ga r.1]) Tryz.f165 []
def I5(H O:aA):Option Bool:=(if decide (H.gen=O.gen)then FE H O else some false).bind λ v1=>(if decide (H.gen=O.gen)&&v1 then CB H.aW O.aW else some false).bind λ v2=>some ((decide (H.gen=O.gen)&&v1)&&v2)
instance bF3(H O:aA):OkP (I5 H O) 81 [ga H,ga O] .bool:=ok1 (I5.eq_1 H O) Tryz.f81 []
def Mv(v1:Int×bK)(j1:(List aO)):Option (aR×bK):=(IV j1 2 v1.2).bind λ v2=>some (v2.1,v2.2)
def I6(O:List aH)(v1:Int×bK)(H:Int×(List aO)):Option ((Int×(List aO))⊕(List aO)):=(if decide (H.1<O.length)then gd (0<=H.1/\H.1<O.length)<|gd (0<=H.1/\H.1<O.length)<|gd (0<=u64.wrap (i64.wrap (3*H.1)))<|(yW (O.getD H.1.toNat aH.zero) (v1.1.fdiv (2^(Nat.min (u64.wrap (i64.wrap (3*H.1))).toNat i64.bits)))).bind λ v3=>gd (H.2.length+1<=4294967296)<|some (.inl (i64.wrap (H.1+1),H.2++[(⟨(O.getD H.1.toNat aH.zero).name,v3⟩:aO)]))else some (.inr H.2))
def AS(H:List aH)(O:bK):Option (aR×bK):=(nI 1048576 O).bind λ v1=>(lS (I6 H v1) (0,[])).bind (λ z=>Mv v1 z)
@[reducible,instance]def bF6 a0 a1 (v1:Int×bK):=mkJ (AS a0 a1,v1) 0 (@Mv.eq_1 v1) λ j1=>⟨[(0,.ptr 0 0 0),(4,.ptr 1 0 0),(6,.own 2 0 j1.length)],[(0,bx v1.2),(1,bx aR.zero),(2,sx j1)],3⟩
@[reducible,instance]def bF7 (O:List aH) (v1:Int×bK):=mkL x (@I6.eq_1 O v1) λ H=>⟨[(0,.ptr 0 0 0),(1,la O),(4,.ptr 1 0 0),(5,.int i64 v1.1),(6,.own 2 0 H.2.length),(7,.int i64 H.1)],[(0,bx v1.2),(1,bx aR.zero),(2,sx H.2)],3⟩
instance bF8(H:List aH)(O:bK):OkM (AS H O) 130 [.ptr 0 0 0,la H] [(0,bx O)] 1 (λ r=>ga r.1) (λ r=>[(0,bx r.2)]) 1:=okm (AS.eq_1 H O) (λ r=>[ga r.1]) Tryz.f130 [(6,1)]
def Si(j1:Unit):Option Bool:=some true
def I7(O:List aV)(H:Int):Option (Int⊕(Unit⊕Bool)):=(if decide (H<O.length)then gd (0<=H/\H<O.length)<|gd (wS (O.getD H.toNat aV.zero)=true->0<=H/\H<O.length)<|(if wS (O.getD H.toNat aV.zero)then vF O ((O.getD H.toNat aV.zero).aL)else some 0).bind λ v1=>(if (!(wS (O.getD H.toNat aV.zero)))||(!decide (v1=H))then some (.inr (.inr false))else some (.inl (i64.wrap (H+1))))else some (.inr (.inl ())))
def o5(H:List aV):Option Bool:=(if decide (8<(H.length:Int))then some false else(lS (I7 H) 0).bind (λ|.inl z=>Si z|.inr z=>some z))
@[reducible,instance]def bFb a0:=mkJ (o5 a0) 0 (@Si.eq_1) λ j1=>⟨[],[],0⟩
@[reducible,instance]def bFc (H:List aV):=mkL x (@I7.eq_1 H) λ O=>⟨[(0,la H),(3,.int i64 O)],[],0⟩
instance bFd(H:List aV):OkP (o5 H) 247 [la H] .bool:=ok1 (o5.eq_1 H) Tryz.f247 []
def Sj(j1:(List Int)):Option (List Int):=some j1
def FN(O:(List Int->aR->Option (List Int)))(U:aR)(H:(List Int)×Int):Option (((List Int)×Int)⊕(List Int)):=(if decide (H.2<U.bG.length)then gd (0<=H.2/\H.2<U.bG.length)<|(O H.1 (U.bG.getD H.2.toNat aR.zero)).bind λ v5=>some (.inl (v5,i64.wrap (H.2+1)))else some (.inr H.1))
def C4(O:(List Int->aR->Option (List Int)))(U:List Int)(H:aR):Option (List Int):=(qE U H.k).bind λ v1=>(if decide (H.k=0)then(Ay v1 H.bA.name).bind λ v2=>(yU v2 H.bA.aJ).bind λ v3=>some v3 else(qE v1 (H.bG.length:Int)).bind λ v4=>(lS (FN O H) (v4,0)).bind (λ z=>Sj z))
def C5:Nat->(List Int->aR->Option (List Int))
 |0=>λ _ _=>none
 |n+1=>C4 (C5 n)
def I8(O:List Int)(H:aR):Option (List Int):=C5 (_root_.SizeOf.sizeOf H+1) O H
@[reducible,instance]def bFi (H:(List Int->aR->Option (List Int))) (O:List Int) (U:aR):=mkJ ((C4 H O U,v1),v2) 0 (@Sj.eq_1) λ j1=>⟨[(0,.sl (j1.map (eI u8)))],[],0⟩
@[reducible,instance]def bFj (H:(List Int->aR->Option (List Int))) (O:aR):=mkL x (@FN.eq_1 H O) λ U=>⟨[(0,.sl (U.1.map (eI u8))),(3,.ptr 0 0 0),(5,.int i64 U.2)],[(0,bx O)],1⟩
abbrev I9(g:(List Int->aR->Option (List Int))):Prop:=∀(H:List Int) (O:aR),OkP (g H O) 114 [.sl (H.map (eI u8)),.agg (aR.enc O)] (λ r=>.sl (r.map (eI u8)))
theorem bFl(H:(List Int->aR->Option (List Int)))(hrc:I9 H):I9 (C4 H):=λ O U=>ok1 (C4.eq_1 H O U) Tryz.f114 []
theorem bFm:∀n,I9 (C5 n):=j6 (λ _ _=>⟨λ _ h=>nomatch h⟩) λ n=>bFl _
instance bFn:I9 I8:=λ H O=>bFm _ H O
end
end Ab
end Go.Proofs.YtfmnjkfhahfhgaaGreatDoor
