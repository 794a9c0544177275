import Derived.Test.YtfmnjkfhahfhgaaGreatDoorHm5
import Derived.Test.YtfmnjkfhahfhgaaGreatDoorHm9
import Derived.Test.YtfmnjkfhahfhgaaGreatDoorSort
import Derived.Test.YtfmnjkfhahfhgaaGreatDoorHm10
namespace Go.Proofs.YtfmnjkfhahfhgaaGreatDoor
namespace Ab
set_option linter.defProp false
open IntKind (i64 u64 u8)
set_option linter.unusedSimpArgs false
set_option linter.unusedVariables false
set_option maxRecDepth 100000
set_option maxHeartbeats 1000000
noncomputable section
variable {T T1 T2 : Type} (x : T) (v1 : T1) (v2 : T2)
def ltS(x y:aK):Prop:=x.site<y.site\/x.site=y.site/\(x.inc<y.inc\/x.inc=y.inc/\x.num<y.num)
instance(x y:aK):Decidable (ltS x y):=by unfold ltS;infer_instance
def cmpS(x y:aK):Int:=if ltS x y then-1 else if ltS y x then 1 else 0
def Gy(x y:aK):ltOf cmpS x y=decide (ltS x y):=by
 unfold ltOf cmpS
 by_cases h:ltS x y
 .simp[h]
 .by_cases H:ltS y x<;>simp[h,H]
def bDe:Go.Sort.SWO (ltOf cmpS) where
 irrefl x:=by rw[Gy];simp[ltS]
 trans x y z h1 h2:=by rw[Gy,cC]at*;unfold ltS at*;omega
 ntrans x y z h1 h2:=by rw[Gy,dF]at*;unfold ltS at*;omega
def bDf(x y:aK)(H:ltOf cmpS x y=false)(O:ltOf cmpS y x=false):x=y:=by rw[Gy,dF]at*;unfold ltS at*;rw[aK.ext_iff];omega
def bDg(p q:aK):xT p q=some (cmpS p q):=by
 unfold xT Bc;have e:∀(x y z:Int) (i:Nat) (h:[x,y,z].length=3),Arr.get (⟨[x,y,z],h⟩:Arr Int 3) i 0=match i with|0=>x|1=>y|_=>z:=by
  intro x y z i h
  match i with
  |0=>rfl
  |1=>rfl
  |2=>rfl
  |n+3=>
    have:¬(n+3<3):=om
    simp[Arr.get,oV,this]
 have w1:i64.wrap (0+1)=1:=by decide
 have w2:i64.wrap (1+1)=2:=by decide
 have w3:i64.wrap (2+1)=3:=by decide
 have s3:rX ⟨[p.site,p.inc,p.num],rfl⟩ ⟨[q.site,q.inc,q.num],rfl⟩ 3=some (.inr (.inl ())):=by unfold rX;simp
 have s2:rX ⟨[p.site,p.inc,p.num],rfl⟩ ⟨[q.site,q.inc,q.num],rfl⟩ 2=some (if p.num<q.num then .inr (.inr (-1))else if q.num<p.num then .inr (.inr 1)else .inl 3):=by
  unfold rX;rw[cB Om,mD Om,mD Om,mD Om];simp only[e,show(2:Int).toNat=2 from rfl,cC,w3]
  by_cases h:p.num<q.num
  .simp[h]
  .by_cases H:q.num<p.num<;>simp[h,H]
 have F:rX ⟨[p.site,p.inc,p.num],rfl⟩ ⟨[q.site,q.inc,q.num],rfl⟩ 1=some (if p.inc<q.inc then .inr (.inr (-1))else if q.inc<p.inc then .inr (.inr 1)else .inl 2):=by
  unfold rX;rw[cB Om,mD Om,mD Om,mD Om];simp only[e,show(1:Int).toNat=1 from rfl,cC,w2]
  by_cases h:p.inc<q.inc
  .simp[h]
  .by_cases H:q.inc<p.inc<;>simp[h,H]
 have O:rX ⟨[p.site,p.inc,p.num],rfl⟩ ⟨[q.site,q.inc,q.num],rfl⟩ 0=some (if p.site<q.site then .inr (.inr (-1))else if q.site<p.site then .inr (.inr 1)else .inl 1):=by
  unfold rX;rw[cB Om,mD Om,mD Om,mD Om];simp only[e,show(0:Int).toNat=0 from rfl,cC,w1]
  by_cases h:p.site<q.site
  .simp[h]
  .by_cases H:q.site<p.site<;>simp[h,H]
 unfold cmpS ltS
 by_cases U:p.site<q.site
 .rw[mJ,O];simp[U]
 · by_cases B:q.site<p.site
   · rw[mJ,O]
     have:¬p.site=q.site:=om
     simp[U,B,this]
   · have Y:p.site=q.site:=om
     by_cases M:p.inc<q.inc
     .rw[mJ,O];simp only[U,B,cI];rw[mJ,F];simp[M,Y]
     · by_cases b2:q.inc<p.inc
       · have:¬p.inc=q.inc:=om
         rw[mJ,O];simp only[U,B,cI];rw[mJ,F];simp[M,b2,Y,this]
       · have H:p.inc=q.inc:=om
         rw[mJ,O];simp only[U,B,cI];rw[mJ,F];simp only[M,b2,cI];rw[mJ,s2]
         by_cases c1:p.num<q.num
         .simp[c1,Y,H]
         · by_cases c2:q.num<p.num
           .simp[c1,c2,Y,H]
           .simp only[c1,c2,cI];rw[mJ,s3];simp[Y,H,Jz]
def Tc(j1:(List Int)):Option (List Int):=some j1
def xW(O:aK)(H:Int×(List Int)):Option ((Int×(List Int))⊕(List Int)):=(if decide (H.1<3)then gd (0<=H.1/\H.1<3)<|(pH H.2 (u64.wrap (Arr.get (⟨[O.site,O.inc,O.num],rfl⟩:Arr Int 3) H.1.toNat 0))).bind λ v1=>some (.inl (i64.wrap (H.1+1),v1))else some (.inr H.2))
def y5(H:List Int)(O:aK):Option (List Int):=gd (H.length<=4294967296)<|(if !(mP O)then some H else(lY (xW O) (0,H)).bind (λ z=>Tc z))
@[reducible,instance]def bDi a0 a1:=mkJ (y5 a0 a1) 0 (@Tc.eq_1) λ j1=>⟨[(5,.own 0 0 j1.length)],[(0,⟨false,1,[A.int u8 0],j1.map (eI u8)⟩)],1⟩
@[reducible,instance]def bDj (H:aK):=mkL x (@xW.eq_1 H) λ O=>⟨[(5,.own 0 0 O.2.length),(20,.agg (Arr.enc (eI i64) (⟨[H.site,H.inc,H.num],rfl⟩:Arr Int 3))),(21,.int i64 O.1)],[(0,⟨false,1,[A.int u8 0],O.2.map (eI u8)⟩)],1⟩
instance bDk(H:List Int)(O:aK):OkM (y5 H O) 102 [.sl (H.map (eI u8)),ga O] [] 0 (λ r=>.own 0 0 r.length) (λ r=>[(0,⟨false,1,[A.int u8 0],r.map (eI u8)⟩)]) 1:=okm (y5.eq_1 H O) (λ r=>[.own 0 0 r.length]) Tryz.f102 [(4,1)]
def J2(j1:Int×(Arr Int 3)):Option (aK×Int×Int):=(if !(mP (⟨Arr.get j1.2 0 0,Arr.get j1.2 1 0,Arr.get j1.2 2 0⟩:aK))then some ({aK.zero with},0,2)else some ((⟨Arr.get j1.2 0 0,Arr.get j1.2 1 0,Arr.get j1.2 2 0⟩:aK),j1.1,0))
def rP(O:List Int)(H:Int×Int×(Arr Int 3)):Option ((Int×Int×(Arr Int 3))⊕((Int×(Arr Int 3))⊕(aK×Int×Int))):=(if decide (H.2.1<3)then gd (0<=H.1/\H.1<=(O.length:Int)/\(O.length:Int)<=(O.length:Int))<|(sE (O.drop H.1.toNat)).bind λ v1=>(if !decide (v1.2.2=0)then some (.inr (.inr ({aK.zero with},0,v1.2.2)))else gd (0<=H.2.1/\H.2.1<3)<|some (.inl (i64.wrap (H.1+v1.2.1),i64.wrap (H.2.1+1),Arr.put H.2.2 H.2.1.toNat (i64.wrap (if 1073741824<v1.1 then 1073741824 else v1.1)))))else some (.inr (.inl (H.1,H.2.2))))
def uK(H:List Int):Option (aK×Int×Int):=(lY (rP H) (0,0,Arr.rep 3 0)).bind (λ|.inl z=>J2 z|.inr z=>some z)
@[reducible,instance]def bDm a0:=mkJ (uK a0) 0 (@J2.eq_1) λ j1=>⟨[(2,.ptr 0 0 0),(5,.ptr 1 0 0),(6,.int i64 j1.1)],[(0,bx aK.zero),(1,⟨false,3,Arr.enc (eI i64) (Arr.rep 3 0),[Arr.enc (eI i64) j1.2]⟩)],2⟩
@[reducible,instance]def bDn (O:List Int):=mkL x (@rP.eq_1 O) λ H=>⟨[(0,.sl (O.map (eI u8))),(2,.ptr 0 0 0),(5,.ptr 1 0 0),(6,.int i64 H.1),(12,.int i64 H.2.1)],[(0,bx aK.zero),(1,⟨false,3,Arr.enc (eI i64) (Arr.rep 3 0),[Arr.enc (eI i64) H.2.2]⟩)],2⟩
instance bDo(H:List Int):OkP (uK H) 115 [.sl (H.map (eI u8))] (λ r=>.tup [ga r.1,.int i64 r.2.1,.int i64 r.2.2]):=ok1 (uK.eq_1 H) Tryz.f115 []
def Bw(H:bE):Option (ByteArray×bE):=(if !decide (H.bR.err=0)then some ((⟨#[]⟩:ByteArray),H)else(wI H.bR.rest).bind λ v1=>(if !decide (v1.2.2=0)then some ((⟨#[]⟩:ByteArray),{H with bR:={H.bR with err:=v1.2.2}})else gd (0<=v1.2.1/\v1.2.1<=(H.bR.rest.length:Int)/\(H.bR.rest.length:Int)<=(H.bR.rest.length:Int))<|some (v1.1,{H with bR:={H.bR with rest:=(H.bR.rest.drop v1.2.1.toNat)}})))
instance Td(H:bE):OkM (Bw H) 218 [.ptr 0 0 0] [(0,bx H)] 1 (λ r=>.str r.1) (λ r=>[(0,bx r.2)]) 1:=okm (Bw.eq_1 H) (λ r=>[.str r.1]) Tryz.f218 []
def J3(H O:bQ):Option Bool:=(if decide (H.aM=O.aM)&&decide (H.gen=O.gen)then Nr H.bU O.bU else some false).bind λ v1=>some ((decide (H.aM=O.aM)&&decide (H.gen=O.gen))&&v1)
instance bDq(H O:bQ):OkP (J3 H O) 83 [ga H,ga O] .bool:=ok1 (J3.eq_1 H O) Tryz.f83 []
def Te(j1:Unit):Option Bool:=some true
def DN(O:ByteArray)(H:Int):Option (Int⊕(Unit⊕Bool)):=(if decide (H<(O.size:Int))then gd (0<=H/\H<(O.size:Int))<|(if !(uI ((O.toList.getD H.toNat 0).toNat:Int))then some (.inr (.inr false))else some (.inl (i64.wrap (H+1))))else some (.inr (.inl ())))
def vH(H:ByteArray):Option Bool:=gd ((!(decide ((H.size:Int)<1)||decide (12<(H.size:Int))))=true->0<=0/\0<(H.size:Int))<|(if ((decide ((H.size:Int)<1)||decide (12<(H.size:Int)))||(!(w9 ((H.toList.getD 0 0).toNat:Int))))||w6 H then some false else(lY (DN H) 0).bind (λ|.inl z=>Te z|.inr z=>some z))
@[reducible,instance]def bDs a0:=mkJ (vH a0) 0 (@Te.eq_1) λ j1=>⟨[],[],0⟩
@[reducible,instance]def bDt (H:ByteArray):=mkL x (@DN.eq_1 H) λ O=>⟨[(0,.str H),(3,.int i64 O)],[],0⟩
instance Tf(H:ByteArray):OkP (vH H) 54 [.str H] .bool:=ok1 (vH.eq_1 H) Tryz.f54 []
def uL(H:aI)(O:aC):Bool:=(zU H&&(nX O||qP H O))
instance bDv(H:aI)(O:aC):OkT 242 [.agg (aI.enc H),.agg (aC.enc O)] (.bool (uL H O)):=ok2 .bool (uL.eq_1 H O) Tryz.f242 []
def b8(H O:aC):Bool:=(if (!(pR O))||decide (H=O)then false else(if decide (H={aC.zero with})then true else(if !(pR H)then false else(if !decide (H.mode=0)then(y4 O.mode H.mode)else(decide (H.aU<O.aU))))))
instance bDw(H O:aC):OkT 153 [.agg (aC.enc H),.agg (aC.enc O)] (.bool (b8 H O)):=ok2 .bool (b8.eq_1 H O) Tryz.f153 []
def Tg(H:bB)(j1:(List aG)):Option (Int×bB):=some (0,(⟨(⟨H.c.now,H.c.aF,j1⟩:bD),H.ev⟩:bB))
def J4(H:Int×(List aG)):Option ((Int×(List aG))⊕(List aG)):=gd (decide (0<H.1)=true->0<=i64.wrap (H.1-1)/\i64.wrap (H.1-1)<((H.2.length:Nat):Int))<|gd (decide (0<H.1)=true->0<=H.1/\H.1<((H.2.length:Nat):Int))<|(if decide (0<H.1)&&decide (0<vG (H.2.getD (i64.wrap (H.1-1)).toNat aG.zero).aM (H.2.getD H.1.toNat aG.zero).aM)then gd (0<=H.1/\H.1<((H.2.length:Nat):Int))<|gd (0<=i64.wrap (H.1-1)/\i64.wrap (H.1-1)<((H.2.length:Nat):Int))<|gd (0<=H.1/\H.1<((H.2.length:Nat):Int))<|gd (0<=i64.wrap (H.1-1)/\i64.wrap (H.1-1)<((H.2.length:Nat):Int))<|some (.inl (i64.wrap (H.1-1),(H.2.set H.1.toNat (H.2.getD (i64.wrap (H.1-1)).toNat aG.zero)).set (i64.wrap (H.1-1)).toNat (H.2.getD H.1.toNat aG.zero)))else some (.inr H.2))
def y6(O:aK)(U:Int)(H:bB):Option (Int×bB):=(if ((!(pC O))||decide (U<1))||decide (1000<U)then some (1,H)else(xQ H.c.aD O).bind λ v1=>(if decide (0<=v1)then some (11,H)else(if decide (((H.c.aD.length:Nat):Int)=8)then some (4,H)else gd (H.c.aD.length+1<=4294967296)<|(lY J4 (i64.wrap (((H.c.aD.length+1:Nat):Int)-1),H.c.aD++[{aG.zero with aM:=O,cost:=U}])).bind (λ z=>Tg H z))))
@[reducible,instance]def bDz a0 a1 (H:bB):=mkJ (y6 a0 a1 H,v1) 0 (@Tg.eq_1 H) λ j1=>⟨[(0,.ptr 0 0 0),(7,.own 3 0 j1.length)],[(0,⟨false,4,bB.enc bB.zero,[[.int i64 H.c.now,la H.c.aF,.own 1 0 H.c.aD.length,.own 4 0 H.ev.length]]⟩),(3,sx j1),(4,sx H.ev)],5⟩
@[reducible,instance]def bE0 a0 a1 (H:bB):=mkL (y6 a0 a1 H,v1) (@J4.eq_1) λ O=>⟨[(0,.ptr 0 0 0),(7,.own 3 0 O.2.length),(8,.int i64 O.1)],[(0,⟨false,4,bB.enc bB.zero,[[.int i64 H.c.now,la H.c.aF,.own 1 0 H.c.aD.length,.own 4 0 H.ev.length]]⟩),(3,sx O.2),(4,sx H.ev)],5⟩
instance bE1(O:aK)(U:Int)(H:bB):OkM (y6 O U H) 186 [.ptr 0 0 0,ga O,.int i64 U] [(0,⟨false,4,bB.enc bB.zero,[[.int i64 H.c.now,la H.c.aF,.own 1 0 H.c.aD.length,.own 2 0 H.ev.length]]⟩),(1,sx H.c.aD),(2,sx H.ev)] 3 (λ r=>.int i64 r.1) (λ r=>[(0,⟨false,4,bB.enc bB.zero,[[.int i64 r.2.c.now,la r.2.c.aF,.own 3 0 r.2.c.aD.length,.own 4 0 r.2.ev.length]]⟩),(3,sx r.2.c.aD),(4,sx r.2.ev)]) 5:=okm (y6.eq_1 O U H) (λ r=>[.int i64 r.1]) Tryz.f186 []
def y7(H:aA)(O:aK):Option Bool:=(uG H O).bind λ v1=>(if !v1.2 then rY H O else some aC.zero).bind λ v2=>some (v1.2||(!(nX v2)))
instance bE2(H:aA)(O:aK):OkP (y7 H O) 150 [ga H,ga O] .bool:=ok1 (y7.eq_1 H O) Tryz.f150 []
def DO(H:aI):Option Bool:=(wH H.name).bind λ v1=>some (((v1&&oB H)&&decide (0<=H.home))&&decide (H.home<4))
instance bE3(H:aI):OkP (DO H) 268 [ga H] .bool:=ok1 (DO.eq_1 H) Tryz.f268 []
def nS(H:aI)(O:aC):Bool:=(oB H&&(oQ O||mM H O))
instance bE4(H:aI)(O:aC):OkT 300 [.agg (aI.enc H),.agg (aC.enc O)] (.bool (nS H O)):=ok2 .bool (nS.eq_1 H O) Tryz.f300 []
def Bx(H:aO):Option Bool:=(wH H.name).bind λ v1=>some (v1&&(mM ({aI.zero with kind:=1,aU:=1}) H.aJ||mM ({aI.zero with kind:=2,aU:=8}) H.aJ))
instance bE5(H:aO):OkP (Bx H) 255 [ga H] .bool:=⟨λ r h=>by
 refine oN Tryz.f255 [] λ E hG O hK=>?_;have hm:Mk (Bx H):=trivial;unfold Bx at h;exact gogo⟩
def Th(j1:(List Int)):Option (List Int):=some j1
def xX(O:aK)(H:(List Int)×Int):Option (((List Int)×Int)⊕(List Int)):=(if decide (H.2<3)then gd (0<=H.2/\H.2<3)<|(uF H.1 (u64.wrap (Arr.get (⟨[O.site,O.inc,O.num],rfl⟩:Arr Int 3) H.2.toNat 0))).bind λ v1=>some (.inl (v1,i64.wrap (H.2+1)))else some (.inr H.1))
def wK(H:List Int)(O:aK):Option (List Int):=gd (H.length<=4294967296)<|(if !(mP O)then some H else(lY (xX O) (H,0)).bind (λ z=>Th z))
@[reducible,instance]def bE7 (H:List Int) (O:aK):=mkJ (wK H O) 0 (@Th.eq_1) λ j1=>⟨[(5,.sl (j1.map (eI u8)))],[],0⟩
@[reducible,instance]def bE8 (H:aK):=mkL x (@xX.eq_1 H) λ O=>⟨[(5,.sl (O.1.map (eI u8))),(20,.agg (Arr.enc (eI i64) (⟨[H.site,H.inc,H.num],rfl⟩:Arr Int 3))),(21,.int i64 O.2)],[],0⟩
instance bE9(H:List Int)(O:aK):OkP (wK H O) 102 [.sl (H.map (eI u8)),ga O] (λ r=>.sl (r.map (eI u8))):=⟨λ r h=>by
 refine oN Tryz.f102 [(27,1)] λ E hG Y hK=>?_;have hm:Mk (wK H O):=trivial;unfold wK at h;refine lW (lX hG ?_);refine lW ?_;obtain⟨U,h⟩:=mH h;refine lX hG ?_;refine g_gh (.fz [1]) ?_;exact gogo⟩
def uM:List ByteArray:=[(⟨#[97]⟩:ByteArray),(⟨#[98]⟩:ByteArray),(⟨#[99]⟩:ByteArray),(⟨#[100]⟩:ByteArray)]
def Nw(j1:bK×(List aI)):Option ((List aI)×bK):=(nQ 8 j1.1).bind λ v1=>(nQ 4 v1.2).bind λ v2=>gd (j1.2.length+1<=4294967296)<|(nQ 3 v2.2).bind λ v3=>(nQ 4 v3.2).bind λ v4=>gd (j1.2.length+1+1<=4294967296)<|some ((j1.2++[(⟨(⟨#[112]⟩:ByteArray),2,i64.wrap (1+v1.1),v2.1⟩:aI)])++[(⟨(⟨#[113]⟩:ByteArray),2,i64.wrap (1+v3.1),v4.1⟩:aI)],v4.2)
def DP(H:Int×bK×(List aI)):Option ((Int×bK×(List aI))⊕(bK×(List aI))):=(if decide (H.1<uM.length)then gd (0<=H.1/\H.1<uM.length)<|(nQ 4 H.2.1).bind λ v5=>gd (H.2.2.length+1<=4294967296)<|some (.inl (i64.wrap (H.1+1),v5.2,H.2.2++[(⟨uM.getD H.1.toNat ⟨#[]⟩,1,1,v5.1⟩:aI)]))else some (.inr (H.2.1,H.2.2)))
def y8(H:bK):Option ((List aI)×bK):=(lY DP (0,H,[])).bind (λ z=>Nw z)
@[reducible,instance]def bEb (H:bK):=mkJ (y8 H) 0 (@Nw.eq_1) λ j1=>⟨[(0,.ptr 0 0 0),(3,.own 1 0 j1.2.length)],[(0,bx j1.1),(1,sx j1.2)],2⟩
@[reducible,instance]def bEc:=mkL x (@DP.eq_1) λ H=>⟨[(0,.ptr 0 0 0),(3,.own 1 0 H.2.2.length),(4,.full (uM.map eS)),(5,.int i64 H.1)],[(0,bx H.2.1),(1,sx H.2.2)],2⟩
instance bEd(H:bK):OkM (y8 H) 40 [.ptr 0 0 0] [(0,bx H)] 1 (λ r=>la r.1) (λ r=>[(0,bx r.2)]) 1:=⟨λ r h=>by
 refine oZ Tryz.f40 [(3,1)] [la r.1] λ E hG B hK=>?_;have hm:Mk (y8 H):=trivial;unfold y8 at h;refine lW (lX hG ?_);refine lW (lX hG ?_);refine lW (lX hG ?_);refine g_gh (.cast 4 (.full (uM.map eS))) ?_;refine lW (lW (lX hG ?_));refine xN hm h (λ j1 hm h=>?_) ?_
 · try refine g_st ?_
   refine lW (lX hG ?_);obtain⟨v1,O,h⟩:=lZ h;have hm:=mkP hm v1;refine mO [(0,0)] [] [0] ((qI 8 j1.1).ok _ O) rfl rfl ?_;obtain⟨v2,hv2,h⟩:=lZ h;have hm:=mkP hm v2;obtain⟨U,h⟩:=mH h;refine mO [(0,0)] [] [0] ((qI 4 v1.2).ok _ hv2) rfl rfl ?_;refine lW (lX hG ?_);obtain⟨v3,hv3,h⟩:=lZ h;have hm:=mkP hm v3;refine mO [(0,0)] [] [0] ((qI 3 v2.2).ok _ hv3) rfl rfl ?_;obtain⟨v4,hv4,h⟩:=lZ h;have hm:=mkP hm v4;obtain⟨Y,h⟩:=mH h;refine mO [(0,0)] [] [0] ((qI 4 v3.2).ok _ hv4) rfl rfl ?_;refine g_gh (.fz [3]) ?_;exact gogo
 exact gogo⟩
def b9(H:aI)(O:Int):Option aC:=(if decide (H.kind=1)then(Bk O).bind λ v1=>some ({aC.zero with mode:=v1})else(wF O H.aU).bind λ v2=>some ({aC.zero with aU:=(i64.wrap (1+v2))}))
instance Nx(H:aI)(O:Int):OkP (b9 H O) 19 [ga H,.int i64 O] ga:=ok1 (b9.eq_1 H O) Tryz.f19 []
def Ny(H:aK)(O:aC)(j1:Bool×(List aX)):Option (List aX):=(if !j1.1 then gd (j1.2.length+1<=4294967296)<|some (j1.2++[(⟨H,O⟩:aX)])else some j1.2)
def Gz(O:List aX)(U:aK)(Y:aC)(H:Bool×Int×(List aX)):Option ((Bool×Int×(List aX))⊕(Bool×(List aX))):=(if decide (H.2.1<O.length)then gd (0<=H.2.1/\H.2.1<O.length)<|(if decide ((O.getD H.2.1.toNat aX.zero).aM=U)then some (.inl (H.1,i64.wrap (H.2.1+1),H.2.2))else gd ((!H.1)=true->0<=H.2.1/\H.2.1<O.length)<|(if (!H.1)&&decide (0<vG (O.getD H.2.1.toNat aX.zero).aM U)then gd (H.2.2.length+1<=4294967296)<|gd (0<=H.2.1/\H.2.1<O.length)<|gd (H.2.2.length+1+1<=4294967296)<|some (.inl (true,i64.wrap (H.2.1+1),(H.2.2++[(⟨U,Y⟩:aX)])++[O.getD H.2.1.toNat aX.zero]))else gd (0<=H.2.1/\H.2.1<O.length)<|gd (H.2.2.length+1<=4294967296)<|some (.inl (H.1,i64.wrap (H.2.1+1),H.2.2++[O.getD H.2.1.toNat aX.zero]))))else some (.inr (H.1,H.2.2)))
def xY(U:List aX)(O:aK)(H:aC):Option (List aX):=(lY (Gz U O H) (nX H,0,[])).bind (λ z=>Ny O H z)
@[reducible,instance]def bEh a0 (H:aK) (O:aC):=mkJ (xY a0 H O) 0 (@Ny.eq_1 H O) λ j1=>⟨[(4,.ptr 0 0 0),(5,.ptr 1 0 0),(7,.own 2 0 j1.2.length),(8,.bool j1.1)],[(0,bx H),(1,bx O),(2,sx j1.2)],3⟩
@[reducible,instance]def bEi (O:List aX) (U:aK) (Y:aC):=mkL x (@Gz.eq_1 O U Y) λ H=>⟨[(0,la O),(4,.ptr 0 0 0),(5,.ptr 1 0 0),(7,.own 2 0 H.2.2.length),(8,.bool H.1),(9,.int i64 H.2.1)],[(0,bx U),(1,bx Y),(2,sx H.2.2)],3⟩
instance bEj(H:List aX)(O:aK)(U:aC):OkP (xY H O U) 209 [la H,ga O,ga U] la:=ok1 (xY.eq_1 H O U) Tryz.f209 [(7,1)]
def Ti(j1:(List aO)):Option (List aO):=some j1
def J5(O:List aA)(U:aK)(H:Int×(List aO)):Option ((Int×(List aO))⊕(List aO)):=(if decide (H.1<O.length)then gd (0<=H.1/\H.1<O.length)<|(uG (O.getD H.1.toNat aA.zero) U).bind λ v1=>(if v1.2 then gd (0<=H.1/\H.1<O.length)<|gd (H.2.length+1<=4294967296)<|some (.inl (i64.wrap (H.1+1),H.2++[(⟨((O.getD H.1.toNat aA.zero).aB).name,v1.1⟩:aO)]))else some (.inl (i64.wrap (H.1+1),H.2)))else some (.inr H.2))
def By(H:List aA)(O:aK):Option (List aO):=(lY (J5 H O) (0,[])).bind (λ z=>Ti z)
@[reducible,instance]def bEm a0 a1:=mkJ (By a0 a1) 0 (@Ti.eq_1) λ j1=>⟨[(5,.own 0 0 j1.length)],[(0,sx j1)],1⟩
@[reducible,instance]def bEn (O:List aA) (U:aK):=mkL x (@J5.eq_1 O U) λ H=>⟨[(0,la O),(3,.ptr 0 0 0),(5,.own 1 0 H.2.length),(6,.int i64 H.1)],[(0,bx U),(1,sx H.2)],2⟩
instance bEo(H:List aA)(O:aK):OkP (By H O) 141 [la H,ga O] la:=ok1 (By.eq_1 H O) Tryz.f141 [(5,1)]
def Tj(j1:Unit):Option Int:=some 0
def J6(O U H:Int):Option (Int⊕(Unit⊕Int)):=(if decide (H<=5)then(if y4 H O&&y4 H U then some (.inr (.inr H))else some (.inl (i64.wrap (H+1))))else some (.inr (.inl ())))
def DQ(H O:Int):Option Int:=(lY (J6 H O) 1).bind (λ|.inl z=>Tj z|.inr z=>some z)
@[reducible,instance]def bEr a0 a1:=mkJ (DQ a0 a1) 0 (@Tj.eq_1) λ j1=>⟨[],[],0⟩
@[reducible,instance]def bEs (H O:Int):=mkL x (@J6.eq_1 H O) λ U=>⟨[(0,.int i64 H),(1,.int i64 O),(5,.int i64 U)],[],0⟩
instance bEt(H O:Int):OkP (DQ H O) 243 [.int i64 H,.int i64 O] (λ r=>.int i64 r):=ok1 (DQ.eq_1 H O) Tryz.f243 []
def Tk(j1:(List aK)):Option (List aK):=some j1
def Tl(H:Int×(List aK))(O:(List aK)):Option ((Int×(List aK))⊕(List aK)):=some (.inl (i64.wrap (H.1+1),O))
def Tm(H:Int×(List aK)):Option ((Int×(List aK))⊕(List aK)):=gd (decide (0<H.1)=true->0<=i64.wrap (H.1-1)/\i64.wrap (H.1-1)<((H.2.length:Nat):Int))<|gd (decide (0<H.1)=true->0<=H.1/\H.1<((H.2.length:Nat):Int))<|(if decide (0<H.1)&&decide (0<vG (H.2.getD (i64.wrap (H.1-1)).toNat aK.zero) (H.2.getD H.1.toNat aK.zero))then gd (0<=i64.wrap (H.1-1)/\i64.wrap (H.1-1)<((H.2.length:Nat):Int))<|gd (0<=H.1/\H.1<((H.2.length:Nat):Int))<|gd (0<=i64.wrap (H.1-1)/\i64.wrap (H.1-1)<((H.2.length:Nat):Int))<|gd (0<=H.1/\H.1<((H.2.length:Nat):Int))<|some (.inl (i64.wrap (H.1-1),(H.2.set (i64.wrap (H.1-1)).toNat (H.2.getD H.1.toNat aK.zero)).set H.1.toNat (H.2.getD (i64.wrap (H.1-1)).toNat aK.zero)))else some (.inr H.2))
def J7(O:List aK)(H:Int×(List aK)):Option ((Int×(List aK))⊕(List aK)):=(if decide (H.1<O.length)then gd (0<=H.1/\H.1<O.length)<|(zW H.2 (O.getD H.1.toNat aK.zero)).bind λ v1=>(if v1 then some (.inl (i64.wrap (H.1+1),H.2))else gd (0<=H.1/\H.1<O.length)<|gd (H.2.length+1<=4294967296)<|(lY Tm (((H.2.length:Nat):Int),H.2++[O.getD H.1.toNat aK.zero])).bind (λ z=>Tl H z))else some (.inr H.2))
def GA(H:List aK):Option (List aK):=(lY (J7 H) (0,[])).bind (λ z=>Tk z)
@[reducible,instance]def bEy a0:=mkJ (GA a0) 0 (@Tk.eq_1) λ j1=>⟨[(3,.own 0 0 j1.length)],[(0,sx j1)],1⟩
@[reducible,instance]def bEz (O:List aK) (H:Int×(List aK)):=mkJ (J7 O H,v1) 2 (@Tl.eq_1 H) λ U=>⟨[(0,la O),(3,.own 0 0 U.length),(4,.int i64 H.1)],[(0,sx U)],1⟩
@[reducible,instance]def bF0 (O:List aK) (U:Int×(List aK)):=mkL (J7 O U,v1) (@Tm.eq_1) λ H=>⟨[(0,la O),(3,.own 0 0 H.2.length),(4,.int i64 U.1),(5,.int i64 H.1)],[(0,sx H.2)],1⟩
@[reducible,instance]def bF1 (O:List aK):=mkL x (@J7.eq_1 O) λ H=>⟨[(0,la O),(3,.own 0 0 H.2.length),(4,.int i64 H.1)],[(0,sx H.2)],1⟩
instance bF2(H:List aK):OkM (GA H) 135 [la H] [] 0 (λ r=>.own 0 0 r.length) (λ r=>[(0,sx r)]) 1:=okm (GA.eq_1 H) (λ r=>[.own 0 0 r.length]) Tryz.f135 [(2,1),(3,1)]
def Nz(j1:Bool):Option Bool:=some j1
@[go_sem] def bF4(j1:Bool):St:=⟨[(5,.bool j1)],[],0⟩
def J8(O:List aC)(H:Int×Int×(Arr Bool 6))(U:Unit):Option ((Int×Int×(Arr Bool 6))⊕Bool):=gd (0<=(O.getD H.2.1.toNat aC.zero).mode/\(O.getD H.2.1.toNat aC.zero).mode<6)<|some (.inl (i64.wrap (H.1+(O.getD H.2.1.toNat aC.zero).aU),i64.wrap (H.2.1+1),Arr.put H.2.2 ((O.getD H.2.1.toNat aC.zero).mode).toNat true))
@[go_sem] def bF6(U:aI)(O:List aC)(H:Int×Int×(Arr Bool 6))(Y:Unit):St:=⟨[(2,.ptr 0 0 0),(5,.bool true),(6,.ptr 1 0 0),(7,.int i64 (i64.wrap (H.1+(O.getD H.2.1.toNat aC.zero).aU))),(9,.ptr 2 0 0),(15,la O),(16,.int i64 O.length),(17,.int i64 H.2.1)],[(0,bx U),(1,⟨false,6,Arr.enc eB (Arr.rep 6 false),[Arr.enc eB H.2.2]⟩),(2,bx (O.getD H.2.1.toNat aC.zero))],3⟩
def DR(U:List aC)(O:Int×Int×(Arr Bool 6))(H:Int):Option (Int⊕(Unit⊕Bool)):=(if decide (H<6)then gd (0<=H/\H<6)<|(if Arr.get O.2.2 H.toNat false then Dx H ((U.getD O.2.1.toNat aC.zero).mode)else some false).bind λ v1=>(if Arr.get O.2.2 H.toNat false&&(!v1)then some (.inr (.inr false))else some (.inl (i64.wrap (H+1))))else some (.inr (.inl ())))
@[go_sem] def bF7(U:aI)(O:List aC)(H:Int×Int×(Arr Bool 6))(Y:Int):St:=⟨[(2,.ptr 0 0 0),(5,.bool true),(6,.ptr 1 0 0),(7,.int i64 (i64.wrap (H.1+(O.getD H.2.1.toNat aC.zero).aU))),(9,.ptr 2 0 0),(15,la O),(16,.int i64 O.length),(17,.int i64 H.2.1),(41,.agg (Arr.enc eB H.2.2)),(42,.int i64 Y)],[(0,bx U),(1,⟨false,6,Arr.enc eB (Arr.rep 6 false),[Arr.enc eB H.2.2]⟩),(2,bx (O.getD H.2.1.toNat aC.zero))],3⟩
def GB(U:aI)(O:List aC)(H:Int×Int×(Arr Bool 6)):Option ((Int×Int×(Arr Bool 6))⊕Bool):=(if decide (H.2.1<O.length)then gd (0<=H.2.1/\H.2.1<O.length)<|(if (!(nS U (O.getD H.2.1.toNat aC.zero)))||decide (U.aU<i64.wrap (H.1+(O.getD H.2.1.toNat aC.zero).aU))then some (.inr false)else(if decide ((O.getD H.2.1.toNat aC.zero).mode=0)then some (.inl (i64.wrap (H.1+(O.getD H.2.1.toNat aC.zero).aU),i64.wrap (H.2.1+1),H.2.2))else(lY (DR O H) 0).bind (λ|.inl z=>J8 O H z|.inr z=>some (.inr z))))else some (.inr true))
@[go_sem] def bF8(U:aI)(O:List aC)(H:Int×Int×(Arr Bool 6)):St:=⟨[(2,.ptr 0 0 0),(5,.bool true),(6,.ptr 1 0 0),(7,.int i64 H.1),(15,la O),(16,.int i64 O.length),(17,.int i64 H.2.1)],[(0,bx U),(1,⟨false,6,Arr.enc eB (Arr.rep 6 false),[Arr.enc eB H.2.2]⟩)],2⟩
def Bz(H:aI)(O:List aC):Option Bool:=(if !(oB H)then some false else(lY (GB H O) (0,0,Arr.rep 6 false)).bind (λ z=>Nz z))
def bF9(F:aI)(B:List aC)(r:Bool)(h:Bz F B=some r):PFn C 283 [ga F,la B] (.bool r):=by
 refine oN Tryz.f283 [] λ E hG hN hK=>?_;unfold Bz at h;refine lW (lX hG ?_);refine Y9 ?_;refine lW (lW (lX hG ?_));refine nC (λ hg=>(aRk F).ok) ?_;refine mA rfl hG h (λ _ h=>?_) (λ _ h=>?_)
 · refine lW (lX hG ?_)
   refine mG ?_;exact nM h
 refine mE ?_;refine lW (lX hG ?_);refine lW (lX hG ?_);refine lW (lX hG ?_);refine lW ?_;refine aPi ?_;refine lW (lW (lX hG ?_));refine pU bF4 (λ v=>Nz v=some r) ?_ ?_
 · intro j1 h
   unfold Nz at h;refine g_st ?_;refine lW (lX hG ?_);refine mG ?_;exact nM h
 refine qH (bF8 F B) hK [(0,0),(1,1)] h (λ y0 h M h0 H U=>?_);unfold GB at H;refine g_st ?_;refine lW (lX hG ?_);refine lW ?_;refine mA rfl hG H (λ _ H=>?_) (λ _ H=>?_)
 · refine mE ?_
   refine lW (oG (lW ?_));obtain⟨v0,H⟩:=mH H;refine lX hG ?_;refine lW (lW (lX hG ?_));refine nC (λ hg=>(bE4 F (B.getD M.2.1.toNat aC.zero)).ok) ?_;refine mA rfl hG H (λ _ H=>?_) (λ _ H=>?_)
   · refine lW (lX hG ?_)
     refine oI ?_;cases H;cases U _ rfl;exact mT hK [] false (by exact h)
   refine mE ?_;refine lW (lX hG ?_);refine lW (lW (lX hG ?_));refine mA rfl hG H (λ _ H=>?_) (λ _ H=>?_)
   · refine oI ?_
     refine lX hG ?_;exact oU hK [(0,0),(1,1)] H
   refine mE ?_;refine lW (lW (lX hG ?_));refine pU (bF6 F B M) (λ v=>J8 B M v=some h0) ?_ ?_
   · intro j2 H
     unfold J8 at H;refine g_st ?_;obtain⟨p0,H⟩:=mH H;refine lX hG ?_;refine lX hG ?_;exact oU hK [(0,0),(1,1)] H
   refine qH (bF7 F B M) hK [(0,0),(1,1),(2,2)] H (λ z0 H g2 u0 O Y=>?_);unfold DR at O;refine g_st ?_;refine lW (lX hG ?_);refine lW ?_;refine mA rfl hG O (λ _ O=>?_) (λ _ O=>?_)
   · refine mE ?_
     refine lW (oG (lW ?_));obtain⟨q0,O⟩:=mH O;refine lX hG ?_;refine lW (lX hG ?_);obtain⟨v1,x0,O⟩:=lZ O;refine nC (λ hg=>(aZs g2 (B.getD M.2.1.toNat aC.zero).mode).ok _ (uB hg x0)) ?_;refine mA rfl hG O (λ _ O=>?_) (λ _ O=>?_)
     · refine lW (lX hG ?_)
       refine oI ?_;obtain rfl:=dY O;have hx:=Y _ rfl;subst hx
       try dsimp only at H
       cases H;cases U _ rfl;exact mT hK [] false (by exact h)
     refine mE ?_;refine lX hG ?_;exact oU hK [(0,0),(1,1),(2,2)] O
   refine oI ?_;obtain rfl:=dY O;have hx:=Y _ rfl;subst hx
   try dsimp only at H
   exact mT hK [(0,0),(1,1),(2,2)] () (by exact H)
 refine oI ?_;cases H;cases U _ rfl;exact mT hK [] true (by exact h)
instance bFa(H:aI)(O:List aC):OkP (Bz H O) 283 [ga H,la O] .bool:=⟨bF9 H O⟩
def d4(H:bE):Option (aK×bE):=(if !decide (H.bR.err=0)then some ({aK.zero with},H)else(uK H.bR.rest).bind λ v1=>(if !decide (v1.2.2=0)then some ({aK.zero with},{H with bR:={H.bR with err:=v1.2.2}})else gd (0<=v1.2.1/\v1.2.1<=(H.bR.rest.length:Int)/\(H.bR.rest.length:Int)<=(H.bR.rest.length:Int))<|some (v1.1,{H with bR:={H.bR with rest:=(H.bR.rest.drop v1.2.1.toNat)}})))
instance bFb(H:bE):OkM (d4 H) 165 [.ptr 0 0 0] [(0,bx H)] 1 (λ r=>ga r.1) (λ r=>[(0,bx r.2)]) 1:=okm (d4.eq_1 H) (λ r=>[ga r.1]) Tryz.f165 []
def J9(H O:aA):Option Bool:=(if decide (H.gen=O.gen)then Gu H O else some false).bind λ v1=>(if decide (H.gen=O.gen)&&v1 then Dr H.aW O.aW else some false).bind λ v2=>some ((decide (H.gen=O.gen)&&v1)&&v2)
instance bFc(H O:aA):OkP (J9 H O) 81 [ga H,ga O] .bool:=ok1 (J9.eq_1 H O) Tryz.f81 []
def NA(v1:Int×bK)(j1:(List aO)):Option (aS×bK):=(JY j1 2 v1.2).bind λ v2=>some (v2.1,v2.2)
def Ka(O:List aI)(v1:Int×bK)(H:Int×(List aO)):Option ((Int×(List aO))⊕(List aO)):=(if decide (H.1<O.length)then gd (0<=H.1/\H.1<O.length)<|gd (0<=H.1/\H.1<O.length)<|gd (0<=u64.wrap (i64.wrap (3*H.1)))<|(b9 (O.getD H.1.toNat aI.zero) (v1.1.fdiv (2^(Nat.min (u64.wrap (i64.wrap (3*H.1))).toNat i64.bits)))).bind λ v3=>gd (H.2.length+1<=4294967296)<|some (.inl (i64.wrap (H.1+1),H.2++[(⟨(O.getD H.1.toNat aI.zero).name,v3⟩:aO)]))else some (.inr H.2))
def BA(H:List aI)(O:bK):Option (aS×bK):=(nQ 1048576 O).bind λ v1=>(lY (Ka H v1) (0,[])).bind (λ z=>NA v1 z)
@[reducible,instance]def bFf a0 a1 (v1:Int×bK):=mkJ (BA a0 a1,v1) 0 (@NA.eq_1 v1) λ j1=>⟨[(0,.ptr 0 0 0),(4,.ptr 1 0 0),(6,.own 2 0 j1.length)],[(0,bx v1.2),(1,bx aS.zero),(2,sx j1)],3⟩
@[reducible,instance]def bFg (O:List aI) (v1:Int×bK):=mkL x (@Ka.eq_1 O v1) λ H=>⟨[(0,.ptr 0 0 0),(1,la O),(4,.ptr 1 0 0),(5,.int i64 v1.1),(6,.own 2 0 H.2.length),(7,.int i64 H.1)],[(0,bx v1.2),(1,bx aS.zero),(2,sx H.2)],3⟩
instance bFh(H:List aI)(O:bK):OkM (BA H O) 130 [.ptr 0 0 0,la H] [(0,bx O)] 1 (λ r=>ga r.1) (λ r=>[(0,bx r.2)]) 1:=okm (BA.eq_1 H O) (λ r=>[ga r.1]) Tryz.f130 [(6,1)]
def Tn(j1:Unit):Option Bool:=some true
def Kb(O:List aV)(H:Int):Option (Int⊕(Unit⊕Bool)):=(if decide (H<O.length)then gd (0<=H/\H<O.length)<|gd (xV (O.getD H.toNat aV.zero)=true->0<=H/\H<O.length)<|(if xV (O.getD H.toNat aV.zero)then wG O ((O.getD H.toNat aV.zero).aM)else some 0).bind λ v1=>(if (!(xV (O.getD H.toNat aV.zero)))||(!decide (v1=H))then some (.inr (.inr false))else some (.inl (i64.wrap (H+1))))else some (.inr (.inl ())))
def y9(H:List aV):Option Bool:=(if decide (8<(H.length:Int))then some false else(lY (Kb H) 0).bind (λ|.inl z=>Tn z|.inr z=>some z))
@[reducible,instance]def bFk a0:=mkJ (y9 a0) 0 (@Tn.eq_1) λ j1=>⟨[],[],0⟩
@[reducible,instance]def bFl (H:List aV):=mkL x (@Kb.eq_1 H) λ O=>⟨[(0,la H),(3,.int i64 O)],[],0⟩
instance bFm(H:List aV):OkP (y9 H) 247 [la H] .bool:=ok1 (y9.eq_1 H) Tryz.f247 []
def To(j1:(List Int)):Option (List Int):=some j1
def GC(O:(List Int->aS->Option (List Int)))(U:aS)(H:(List Int)×Int):Option (((List Int)×Int)⊕(List Int)):=(if decide (H.2<U.bG.length)then gd (0<=H.2/\H.2<U.bG.length)<|(O H.1 (U.bG.getD H.2.toNat aS.zero)).bind λ v5=>some (.inl (v5,i64.wrap (H.2+1)))else some (.inr H.1))
def DS(O:(List Int->aS->Option (List Int)))(U:List Int)(H:aS):Option (List Int):=(qO U H.k).bind λ v1=>(if decide (H.k=0)then(Bg v1 H.aZ.name).bind λ v2=>(b6 v2 H.aZ.aJ).bind λ v3=>some v3 else(qO v1 (H.bG.length:Int)).bind λ v4=>(lY (GC O H) (v4,0)).bind (λ z=>To z))
def DT:Nat->(List Int->aS->Option (List Int))
 |0=>λ _ _=>none
 |n+1=>DS (DT n)
def Kc(O:List Int)(H:aS):Option (List Int):=DT (_root_.SizeOf.sizeOf H+1) O H
@[reducible,instance]def bFr (H:(List Int->aS->Option (List Int))) (O:List Int) (U:aS):=mkJ ((DS H O U,v1),v2) 0 (@To.eq_1) λ j1=>⟨[(0,.sl (j1.map (eI u8)))],[],0⟩
@[reducible,instance]def bFs (H:(List Int->aS->Option (List Int))) (O:aS):=mkL x (@GC.eq_1 H O) λ U=>⟨[(0,.sl (U.1.map (eI u8))),(3,.ptr 0 0 0),(5,.int i64 U.2)],[(0,bx O)],1⟩
abbrev Kd(g:(List Int->aS->Option (List Int))):Prop:=∀(H:List Int) (O:aS),OkP (g H O) 114 [.sl (H.map (eI u8)),.agg (aS.enc O)] (λ r=>.sl (r.map (eI u8)))
theorem bFu(H:(List Int->aS->Option (List Int)))(hrc:Kd H):Kd (DS H):=λ O U=>ok1 (DS.eq_1 H O U) Tryz.f114 []
theorem bFv:∀n,Kd (DT n):=s6 (λ _ _=>⟨λ _ h=>nomatch h⟩) λ n=>bFu _
instance bFw:Kd Kc:=λ H O=>bFv _ H O
end
end Ab
end Go.Proofs.YtfmnjkfhahfhgaaGreatDoor
