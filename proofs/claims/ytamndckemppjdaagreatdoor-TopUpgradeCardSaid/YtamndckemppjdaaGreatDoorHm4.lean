import Derived.Test.YtamndckemppjdaaGreatDoorAuto
import Derived.Test.YtamndckemppjdaaGreatDoorStr
namespace Go.Proofs.YtamndckemppjdaaGreatDoor
namespace Ab
open IntKind (i64 u64 u8 u32)
set_option linter.unusedSimpArgs false
set_option linter.defProp false
set_option linter.unusedVariables false
set_option maxRecDepth 100000
set_option maxHeartbeats 4000000
noncomputable section
def zaA7(j1:Unit):Option aJ:=
 some ({aJ.zero with})
def zaA8(a0:List bF)(a1:aF)(g1:Int):Option (Int⊕(Unit⊕aJ)):=
 (if(decide (g1<(a0.length:Int)))=true then
  gd (0<=g1/\g1<(a0.length:Int))<|
  (if(decide ((a0.getD g1.toNat bF.zero).aZ=a1))=true then
   some (.inr (.inr ((a0.getD g1.toNat bF.zero).aY)))
  else
   some (.inl (i64.wrap (g1+1))))
 else
  some (.inr (.inl ())))
def zm0(a0:List bF)(a1:aF):Option aJ:=
 (zg8 (zaA8 a0 a1) 0).bind (λ|.inl z=>zaA7 z|.inr z=>some z)
@[reducible,instance] def zdI5 a0 a1:=mkJ (zm0 a0 a1) 0 (@zaA7.eq_1) λ(j1:Unit)=>⟨[(4,.ptr 0 0 0)],[(0,bx aJ.zero)],1⟩
@[reducible,instance] def zdI6 (a0:List bF) (a1:aF) {T:Type} (x:T):=mkL x (@zaA8.eq_1 a0 a1) λ(g1:Int)=>⟨[(3,.ptr 0 0 0),(4,.ptr 1 0 0),(7,la a0),(8,.int .i64 (a0.length:Int)),(9,.int .i64 g1)],[(0,bx a1),(1,bx aJ.zero)],2⟩
instance zca0(a0:List bF)(a1:aF):OkP (zm0 a0 a1) 226 [la a0,ga a1] (λ r=>ga r):=ok1 (zm0.eq_1 a0 a1) Tryz.f226 []
attribute [local irreducible] zm0
def zn3(a0:aC):Option (aW×Bool):=
 (if(decide (0<(a0.aV.length:Int)))=true then
  gd (0<=0/\0<(a0.aV.length:Int))<|
  some ((a0.aV.getD 0 aW.zero),true)
 else
  (if(decide (0<(a0.bO.length:Int)))=true then
   gd (0<=0/\0<(a0.bO.length:Int))<|
   some ((a0.bO.getD 0 aW.zero),true)
  else
   some ({aW.zero with},false)))
instance zbn4(a0:aC):OkP (zn3 a0) 189 [ga a0] (λ r=>.tup [ga r.1,.bool r.2]):=ok1 (zn3.eq_1 a0) Tryz.f189 []
attribute [local irreducible] zn3
def zar9(j1:(List (ByteArray×aJ))):Option (List (ByteArray×aJ)):=
 some j1
def zas0(a0:List bX)(g1:Int×(List (ByteArray×aJ))):Option ((Int×(List (ByteArray×aJ)))⊕(List (ByteArray×aJ))):=
 (if(decide (g1.1<(a0.length:Int)))=true then
  gd (0<=g1.1/\g1.1<(a0.length:Int))<|
  some (.inl ((i64.wrap (g1.1+1)),mput ((a0.getD g1.1.toNat bX.zero).name) ((a0.getD g1.1.toNat bX.zero).after) g1.2))
 else
  some (.inr g1.2))
def zi7(a0:List bX):Option (List (ByteArray×aJ)):=
 (zg8 (zas0 a0) (0,[])).bind (λ z=>zar9 z)
@[reducible,instance] def zds6 a0:=mkJ (zi7 a0) 0 (@zar9.eq_1) λ(j1:(List (ByteArray×aJ)))=>⟨[(3,.mp 0)],[(0,⟨false,0,[A.str ⟨#[]⟩,A.bool true],j1.map (mS aJ.enc)⟩)],1⟩
@[reducible,instance] def zds7 (a0:List bX) {T:Type} (x:T):=mkL x (@zas0.eq_1 a0) λ(g1:Int×(List (ByteArray×aJ)))=>⟨[(3,.mp 0),(7,la a0),(8,.int .i64 (a0.length:Int)),(9,.int .i64 g1.1)],[(0,⟨false,0,[A.str ⟨#[]⟩,A.bool true],g1.2.map (mS aJ.enc)⟩)],1⟩
instance zaV7(a0:List bX):OkM (zi7 a0) 169 [la a0] [] 0 (λ r=>.mp 0) (λ r=>[(0,⟨false,0,[A.str ⟨#[]⟩,A.bool true],r.map (mS aJ.enc)⟩)]) 1:=okm (zi7.eq_1 a0) (λ r=>[.mp 0]) Tryz.f169 []
attribute [local irreducible] zi7
def zg7(a0 a1:ByteArray):Option Int:=some (Go.Lib.compareBytes a0.data.toList a1.data.toList)
theorem zaK4:Lays.n106 C.P ⟨λ|106=>90|213=>141|265=>206|n=>n,λ|3=>3|9=>9|n=>n,λ n=>n⟩ where
 mixed:=zv9
 f106:=Tryz.func90.trans (dA some (by kernel_rfl))
 f213:=Tryz.func141.trans (dA some (by kernel_rfl))
 f265:=Tryz.func206.trans (dA some (by kernel_rfl))
 t3:=Tryz.underlying3
 a3:=Tryz.isAgg3
 z3:=Tryz.sizeOf3
 v3:=Tryz.zeroValue3
 t9:=Tryz.underlying9
 a9:=Tryz.isAgg9
 z9:=Tryz.sizeOf9
 v9:=Tryz.zeroValue9
theorem zaR5(a0 a1:ByteArray)(r:Int)(h:zg7 a0 a1=some r):PFn C 90 [.str a0,.str a1] (.int .i64 r):=by obtain rfl:=dP h;exact zbR1 zaK4 rfl a0 a1
instance zbD9(a0 a1:ByteArray):OkP (zg7 a0 a1) 90 [.str a0,.str a1] (λ r=>.int .i64 r):=⟨zaR5 a0 a1⟩
attribute [local irreducible] zg7
def zaf6(j1:Int×Int):Option (Int×Int):=
 some ((i64.wrap (j1.1+1)),j1.2)
def zaf7(a90:(aP->Int->Int->Option (Int×Int)))(a0:aP)(a1:Int)(g1:Int×Int×Int):Option ((Int×Int×Int)⊕((Int×Int)⊕(Int×Int))):=
 (if(decide (g1.2.1<(a0.bU.length:Int)))=true then
  gd (0<=g1.2.1/\g1.2.1<(a0.bU.length:Int))<|
  (a90 (a0.bU.getD g1.2.1.toNat aP.zero) (i64.wrap (a1+1)) g1.2.2).bind λ v1=>
  (if(decide (v1.1=0))=true then
   some (.inr (.inr (0,v1.2)))
  else
   some (.inl ((if g1.1<v1.1 then v1.1 else g1.1),i64.wrap (g1.2.1+1),v1.2)))
 else
  some (.inr (.inl (g1.1,g1.2.2))))
def zN0(a90:(aP->Int->Int->Option (Int×Int)))(a0:aP)(a1 a2:Int):Option (Int×Int):=
 (if(decide (4<a1)||decide (24<i64.wrap (a2+1)))=true then
  some (0,i64.wrap (a2+1))
 else
  (zg8 (zaf7 a90 a0 a1) (0,0,i64.wrap (a2+1))).bind (λ|.inl z=>zaf6 z|.inr z=>some z))
def zW4:Nat->(aP->Int->Int->Option (Int×Int))
 |0=>λ _ _ _=>none
 |n+1=>zN0 (zW4 n)
def zg5(a0:aP)(a1 a2:Int):Option (Int×Int):=zW4 (_root_.SizeOf.sizeOf a0+1) a0 a1 a2
@[reducible,instance] def zds8 (a90:(aP->Int->Int->Option (Int×Int))) (a0:aP) (a1 a2:Int):=mkJ (zN0 a90 a0 a1 a2) 0 (@zaf6.eq_1) λ(j1:Int×Int)=>⟨[(7,.int .i64 j1.1)],[(0,⟨false,1,[A.int .i64 0],[[A.int .i64 j1.2]]⟩)],1⟩
@[reducible,instance] def zds9 (a90:(aP->Int->Int->Option (Int×Int))) (a0:aP) (a1:Int) {T:Type} (x:T):=mkL x (@zaf7.eq_1 a90 a0 a1) λ(g1:Int×Int×Int)=>⟨[(1,.int .i64 a1),(2,.ptr 0 0 0),(7,.int .i64 g1.1),(25,la a0.bU),(26,.int .i64 (a0.bU.length:Int)),(27,.int .i64 g1.2.1)],[(0,⟨false,1,[A.int .i64 0],[[A.int .i64 g1.2.2]]⟩)],1⟩
abbrev zQ2(g:(aP->Int->Int->Option (Int×Int))):Prop:=∀(a0:aP) (a1:Int) (a2:Int),OkM (g a0 a1 a2) 191 [.agg (aP.enc a0),.int .i64 a1,.ptr 0 0 0] [(0,⟨false,1,[A.int .i64 0],[[A.int .i64 a2]]⟩)] 1 (λ r=>.int .i64 r.1) (λ r=>[(0,⟨false,1,[A.int .i64 0],[[A.int .i64 r.2]]⟩)]) 1
theorem zaH6(a90:(aP->Int->Int->Option (Int×Int)))(hrc:zQ2 a90):zQ2 (zN0 a90):=λ a0 a1 a2=>okm (zN0.eq_1 a90 a0 a1 a2) (λ r=>[.int .i64 r.1]) Tryz.f191 []
theorem zaH7:∀n,zQ2 (zW4 n):=zaE7 (λ _ _ _=>⟨λ _ h=>nomatch h⟩) λ n=>zaH6 _
instance zbw8:zQ2 zg5:=λ a0 a1 a2=>zaH7 _ a0 a1 a2
attribute [local irreducible] zg5
def zao3(a0:aO)(a1:List aO)(j1:Unit):Option (Int×(List aO)):=
 (if(decide (((a1.length:Nat):Int)=8))=true then
  some (4,a1)
 else
  gd (a1.length+1<=4294967296)<|
  some (0,(a1++[a0])))
def zao4(a0:aO)(a1:List aO)(g1:Int):Option (Int⊕(Unit⊕(Int×(List aO)))):=
 (if(decide (g1<((a1.length:Nat):Int)))=true then
  gd (0<=g1/\g1<((a1.length:Nat):Int))<|
  (if(decide (a0=a1.getD g1.toNat aO.zero))=true then
   some (.inr (.inr (0,a1)))
  else
   (if(a0.name.toList==((a1.getD g1.toNat aO.zero).name).toList)=true then
    some (.inr (.inr (13,a1)))
   else
    some (.inl (i64.wrap (g1+1)))))
 else
  some (.inr (.inl ())))
def zh7(a0:aO)(a1:List aO):Option (Int×(List aO)):=
 (zg8 (zao4 a0 a1) 0).bind (λ|.inl z=>zao3 a0 a1 z|.inr z=>some z)
@[reducible,instance] def zdt0 (a0:aO) (a1:List aO):=mkJ (zh7 a0 a1) 0 (@zao3.eq_1 a0 a1) λ(j1:Unit)=>⟨[(0,.ptr 0 0 0),(3,.ptr 2 0 0)],[(0,⟨false,1,[A.sl ([].map aO.enc)],[[.own 3 0 a1.length]]⟩),(2,bx a0),(3,sx a1)],4⟩
@[reducible,instance] def zdt1 (a0:aO) (a1:List aO) {T:Type} (x:T):=mkL x (@zao4.eq_1 a0 a1) λ(g1:Int)=>⟨[(0,.ptr 0 0 0),(3,.ptr 2 0 0),(9,.own 3 0 a1.length),(10,.int .i64 ((a1.length:Nat):Int)),(11,.int .i64 g1)],[(0,⟨false,1,[A.sl ([].map aO.enc)],[[.own 3 0 a1.length]]⟩),(2,bx a0),(3,sx a1)],4⟩
instance zaR6(a0:aO)(a1:List aO):OkM (zh7 a0 a1) 193 [.ptr 0 0 0,ga a0] [(0,⟨false,1,[A.sl ([].map aO.enc)],[[.own 1 0 a1.length]]⟩),(1,sx a1)] 2 (λ r=>.int .i64 r.1) (λ r=>[(0,⟨false,1,[A.sl ([].map aO.enc)],[[.own 2 0 r.2.length]]⟩),(2,sx r.2)]) 3:=okm (zh7.eq_1 a0 a1) (λ r=>[.int .i64 r.1]) Tryz.f193 []
attribute [local irreducible] zh7
def zg2(a0:Int)(a1:List aG)(a2:ByteArray):Option (Bool×(List aG)×ByteArray):=
 gd (0<=a0/\a0<(a1.length:Int))<|
 some ((!Op.bytesLess ((a1.getD a0.toNat aG.zero).name).toList a2.toList),a1,a2)
instance zbw9(a0:Int)(a1:List aG)(a2:ByteArray):OkM (zg2 a0 a1 a2) 302 [.int .i64 a0,.ptr 0 0 0,.ptr 1 0 0] [(0,⟨false,1,[A.sl ([].map aG.enc)],[[A.sl (a1.map aG.enc)]]⟩),(1,⟨false,1,[A.str ⟨#[]⟩],[[A.str a2]]⟩)] 2 (λ r=>.bool r.1) (λ r=>[(0,⟨false,1,[A.sl ([].map aG.enc)],[[A.sl (r.2.1.map aG.enc)]]⟩),(1,⟨false,1,[A.str ⟨#[]⟩],[[A.str r.2.2]]⟩)]) 2:=okm (zg2.eq_1 a0 a1 a2) (λ r=>[.bool r.1]) Tryz.f302 []
attribute [local irreducible] zg2
def zd9(a0:aO)(a1:aC):Option (Bool×aC):=
 some ((a0.name.toList==a1.aQ.name.toList),a1)
instance zbk7(a0:aO)(a1:aC):OkM (zd9 a0 a1) 233 [ga a0,.ptr 0 0 0] [(0,bx a1)] 1 (λ r=>.bool r.1) (λ r=>[(0,bx r.2)]) 1:=okm (zd9.eq_1 a0 a1) (λ r=>[.bool r.1]) Tryz.f233 []
attribute [local irreducible] zd9
def zy6(a0:bL):Bool:=
 ((((decide (a0.bT=0)&&decide (a0.limit=0))&&decide (a0.bQ.k=0))&&decide (a0.bQ.bV={aO.zero with}))&&decide ((a0.bQ.bU.length:Int)=0))
instance zbv0(a0:bL):OkT 176 [.agg (bL.enc a0)] (.bool (zy6 a0)):=ok2 (λ r=>.bool r) (zy6.eq_1 a0) Tryz.f176 []
def zaK5(a0 a1:aW):Int:=
 (if(decide (a1.bT<a0.bT)&&decide (a1.cC<3))=true then
  1
 else
  0)
instance zch5(a0 a1:aW):OkT 304 [.agg (aW.enc a0),.agg (aW.enc a1)] (.int .i64 (zaK5 a0 a1)):=ok2 (λ r=>.int .i64 r) (zaK5.eq_1 a0 a1) Tryz.f304 []
def zh5(a0:List aW)(a1:aC):Option ((List aW)×ByteArray×Int×Int×Int×(List aW)×Int×(List bF)×(List aW)×(List aW)):=
 some (a0,a1.aQ.name,a1.aQ.kind,a1.aQ.bJ,a1.aQ.home,a0,a1.gen,a1.bR,a1.aV,a1.bO)
instance zaN3(a0:List aW)(a1:aC):OkM (zh5 a0 a1) 266 [.ptr 0 0 0,.ptr 1 0 0] [(0,⟨false,1,[A.sl ([].map aW.enc)],[[A.sl (a0.map aW.enc)]]⟩),(1,⟨false,8,aC.enc aC.zero,[[.str a1.aQ.name,.int .i64 a1.aQ.kind,.int .i64 a1.aQ.bJ,.int .i64 a1.aQ.home,.own 2 0 a1.bR.length,.own 3 0 a1.aV.length,.own 4 0 a1.bO.length,.int .i64 a1.gen]]⟩),(2,sx a1.bR),(3,sx a1.aV),(4,sx a1.bO)] 5 (λ r=>.tup []) (λ r=>[(0,⟨false,1,[A.sl ([].map aW.enc)],[[A.sl (r.1.map aW.enc)]]⟩),(1,⟨false,8,aC.enc aC.zero,[[.str r.2.1,.int .i64 r.2.2.1,.int .i64 r.2.2.2.1,.int .i64 r.2.2.2.2.1,.own 2 0 r.2.2.2.2.2.2.2.1.length,.own 3 0 r.2.2.2.2.2.2.2.2.1.length,la r.2.2.2.2.2.1,.int .i64 r.2.2.2.2.2.2.1]]⟩),(2,sx r.2.2.2.2.2.2.2.1),(3,sx r.2.2.2.2.2.2.2.2.1),(4,sx r.2.2.2.2.2.2.2.2.2)]) 5:=okm (zh5.eq_1 a0 a1) (λ r=>[]) Tryz.f266 []
attribute [local irreducible] zh5
def zas1(a1:Int)(a2:aC)(j1:(List aC)):Option (List aC):=
 (if(decide (0<=a1))=true then
  gd (0<=a1/\a1<((j1.length:Nat):Int))<|
  some (j1.set a1.toNat a2)
 else
  some j1)
def zas2(a0:List aC)(g1:Int×(List aC)):Option ((Int×(List aC))⊕(List aC)):=
 (if(decide (g1.1<(a0.length:Int)))=true then
  gd (0<=g1.1/\g1.1<(a0.length:Int))<|
  gd (((a0.getD g1.1.toNat aC.zero).bR).length<=4294967296)<|
  gd ((({(a0.getD g1.1.toNat aC.zero)with bR:=(a0.getD g1.1.toNat aC.zero).bR}).aV).length<=4294967296)<|
  gd ((({{(a0.getD g1.1.toNat aC.zero)with bR:=(a0.getD g1.1.toNat aC.zero).bR}with aV:=({(a0.getD g1.1.toNat aC.zero)with bR:=(a0.getD g1.1.toNat aC.zero).bR}).aV}).bO).length<=4294967296)<|
  gd (0<=g1.1/\g1.1<((g1.2.length:Nat):Int))<|
  some (.inl ((i64.wrap (g1.1+1)),g1.2.set g1.1.toNat ({{{(a0.getD g1.1.toNat aC.zero)with bR:=(a0.getD g1.1.toNat aC.zero).bR}with aV:=({(a0.getD g1.1.toNat aC.zero)with bR:=(a0.getD g1.1.toNat aC.zero).bR}).aV}with bO:=({{(a0.getD g1.1.toNat aC.zero)with bR:=(a0.getD g1.1.toNat aC.zero).bR}with aV:=({(a0.getD g1.1.toNat aC.zero)with bR:=(a0.getD g1.1.toNat aC.zero).bR}).aV}).bO})))
 else
  some (.inr g1.2))
def zi8(a0:List aC)(a1:Int)(a2:aC):Option (List aC):=
 gd (0<=(a0.length:Int)/\(a0.length:Int)<=(a0.length:Int)/\(a0.length:Int)<=4294967296)<|
 (zg8 (zas2 a0) (0,List.replicate ((a0.length:Int).toNat) aC.zero)).bind (λ z=>zas1 a1 a2 z)
@[reducible,instance] def zdt2 a0 (a1:Int) (a2:aC):=mkJ (zi8 a0 a1 a2) 0 (@zas1.eq_1 a1 a2) λ(j1:(List aC))=>⟨[(1,.int .i64 a1),(5,.ptr 0 0 0),(7,.own 1 0 j1.length)],[(0,bx a2),(1,sx j1)],2⟩
@[reducible,instance] def zdt3 (a0:List aC) (a1:Int) (a2:aC):=mkL (zi8 a0 a1 a2) (@zas2.eq_1 a0) λ(g1:Int×(List aC))=>⟨[(1,.int .i64 a1),(5,.ptr 0 0 0),(7,.own 1 0 g1.2.length),(13,la a0),(14,.int .i64 (a0.length:Int)),(15,.int .i64 g1.1)],[(0,bx a2),(1,sx g1.2)],2⟩
instance zbR2(a0:List aC)(a1:Int)(a2:aC):OkP (zi8 a0 a1 a2) 218 [la a0,.int .i64 a1,ga a2] (λ r=>la r):=ok1 (zi8.eq_1 a0 a1 a2) Tryz.f218 [(22,2),(26,2),(30,2)]
attribute [local irreducible] zi8
def zk9(a0:bG)(a1 a2:Int):Option bG:=
 gd (0<=0/\0<=a1/\a1<=(a0.bB.length:Int)/\a1=a1)<|
 gd ((a0.bB.take a1.toNat).length<=4294967296)<|
 gd (0<=0/\0<=a2/\a2<=(a0.cB.length:Int)/\a2=a2)<|
 gd ((a0.cB.take a2.toNat).length<=4294967296)<|
 some (⟨(a0.bB.take a1.toNat),a0.cB.take a2.toNat⟩:bG)
theorem zaZ3(a0:bG)(a1 a2:Int)(r:bG)(h:zk9 a0 a1 a2=some r):MFn C 184 [ga a0,.int .i64 a1,.int .i64 a2] [] 0 (.agg [.own 0 0 r.bB.length,.own 1 0 r.cB.length]) [(0,sx r.bB),(1,sx r.cB)] 2:=by refine zK4 Tryz.f184 [(19,2)] [.agg [.own 0 0 r.bB.length,.own 1 0 r.cB.length]] λ E hG hN hK=>?_;unfold zk9 at h;refine za2 (za3 hG ?_);refine za2 ?_;obtain⟨hb1,h⟩:=ze5 h;obtain⟨hb2,h⟩:=ze5 h;obtain⟨hb3,h⟩:=ze5 h;obtain⟨hb4,h⟩:=ze5 h;refine zP1 zv9 hG ?_;refine zo3 ?_;exact zw8 [(0,2),(1,3)] h
attribute [local irreducible] zk9
def zb2(a0:List bF):Option (List bF):=
 gd (a0.length<=4294967296)<|
 some a0
theorem zae2(a0:List bF)(r:(List bF))(h:zb2 a0=some r):PFn C 65 [la a0] (la r):=by
 refine zx6 Tryz.f65 [(5,1)] λ E hG hN hK=>?_;unfold zb2 at h;refine za2 (za3 hG ?_);refine za2 (za2 (za3 hG ?_));intro b hnil;cases b
 · refine g_st ?_
   refine zaf1 rfl hG ?_;refine zh0 ?_;refine za2 ?_;obtain⟨hb1,h⟩:=ze5 h;refine za3 hG ?_;refine zo3 ?_;exact zt5 h
 have ha:a0=[]:=eX.1 (hnil rfl);subst ha
 replace h:some []=some r:=by simpa [gd]using h
 refine g_st ?_;refine zU6 rfl hG ?_;refine za2 (za3 hG ?_);refine zo3 ?_;exact zt5 h
instance zaR7(a0:List bF):OkP (zb2 a0) 65 [la a0] (λ r=>la r):=⟨zae2 a0⟩
attribute [local irreducible] zb2
def zN8(j2:Int×Int):Option Int:=
 (if(decide (256<=j2.1))=true then
  gd (0<=u8.wrap (j2.1.fdiv (2^8))/\u8.wrap (j2.1.fdiv (2^8))<((⟨#[0,1,2,2,3,3,3,3,4,4,4,4,4,4,4,4,5,5,5,5,5,5,5,5,5,5,5,5,5,5,5,5,6,6,6,6,6,6,6,6,6,6,6,6,6,6,6,6,6,6,6,6,6,6,6,6,6,6,6,6,6,6,6,6,7,7,7,7,7,7,7,7,7,7,7,7,7,7,7,7,7,7,7,7,7,7,7,7,7,7,7,7,7,7,7,7,7,7,7,7,7,7,7,7,7,7,7,7,7,7,7,7,7,7,7,7,7,7,7,7,7,7,7,7,7,7,7,7,8,8,8,8,8,8,8,8,8,8,8,8,8,8,8,8,8,8,8,8,8,8,8,8,8,8,8,8,8,8,8,8,8,8,8,8,8,8,8,8,8,8,8,8,8,8,8,8,8,8,8,8,8,8,8,8,8,8,8,8,8,8,8,8,8,8,8,8,8,8,8,8,8,8,8,8,8,8,8,8,8,8,8,8,8,8,8,8,8,8,8,8,8,8,8,8,8,8,8,8,8,8,8,8,8,8,8,8,8,8,8,8,8,8,8,8,8,8,8,8,8,8,8,8,8,8,8,8]⟩:ByteArray).size:Int))<|
  some (i64.wrap (i64.wrap (j2.2+8)+i64.wrap (((⟨#[0,1,2,2,3,3,3,3,4,4,4,4,4,4,4,4,5,5,5,5,5,5,5,5,5,5,5,5,5,5,5,5,6,6,6,6,6,6,6,6,6,6,6,6,6,6,6,6,6,6,6,6,6,6,6,6,6,6,6,6,6,6,6,6,7,7,7,7,7,7,7,7,7,7,7,7,7,7,7,7,7,7,7,7,7,7,7,7,7,7,7,7,7,7,7,7,7,7,7,7,7,7,7,7,7,7,7,7,7,7,7,7,7,7,7,7,7,7,7,7,7,7,7,7,7,7,7,7,8,8,8,8,8,8,8,8,8,8,8,8,8,8,8,8,8,8,8,8,8,8,8,8,8,8,8,8,8,8,8,8,8,8,8,8,8,8,8,8,8,8,8,8,8,8,8,8,8,8,8,8,8,8,8,8,8,8,8,8,8,8,8,8,8,8,8,8,8,8,8,8,8,8,8,8,8,8,8,8,8,8,8,8,8,8,8,8,8,8,8,8,8,8,8,8,8,8,8,8,8,8,8,8,8,8,8,8,8,8,8,8,8,8,8,8,8,8,8,8,8,8,8,8,8,8,8,8]⟩:ByteArray).toList.getD ((u8.wrap (j2.1.fdiv (2^8))).toNat) 0).toNat:Int)))
 else
  gd (0<=u8.wrap j2.1/\u8.wrap j2.1<((⟨#[0,1,2,2,3,3,3,3,4,4,4,4,4,4,4,4,5,5,5,5,5,5,5,5,5,5,5,5,5,5,5,5,6,6,6,6,6,6,6,6,6,6,6,6,6,6,6,6,6,6,6,6,6,6,6,6,6,6,6,6,6,6,6,6,7,7,7,7,7,7,7,7,7,7,7,7,7,7,7,7,7,7,7,7,7,7,7,7,7,7,7,7,7,7,7,7,7,7,7,7,7,7,7,7,7,7,7,7,7,7,7,7,7,7,7,7,7,7,7,7,7,7,7,7,7,7,7,7,8,8,8,8,8,8,8,8,8,8,8,8,8,8,8,8,8,8,8,8,8,8,8,8,8,8,8,8,8,8,8,8,8,8,8,8,8,8,8,8,8,8,8,8,8,8,8,8,8,8,8,8,8,8,8,8,8,8,8,8,8,8,8,8,8,8,8,8,8,8,8,8,8,8,8,8,8,8,8,8,8,8,8,8,8,8,8,8,8,8,8,8,8,8,8,8,8,8,8,8,8,8,8,8,8,8,8,8,8,8,8,8,8,8,8,8,8,8,8,8,8,8,8,8,8,8,8,8]⟩:ByteArray).size:Int))<|
  some (i64.wrap (j2.2+i64.wrap (((⟨#[0,1,2,2,3,3,3,3,4,4,4,4,4,4,4,4,5,5,5,5,5,5,5,5,5,5,5,5,5,5,5,5,6,6,6,6,6,6,6,6,6,6,6,6,6,6,6,6,6,6,6,6,6,6,6,6,6,6,6,6,6,6,6,6,7,7,7,7,7,7,7,7,7,7,7,7,7,7,7,7,7,7,7,7,7,7,7,7,7,7,7,7,7,7,7,7,7,7,7,7,7,7,7,7,7,7,7,7,7,7,7,7,7,7,7,7,7,7,7,7,7,7,7,7,7,7,7,7,8,8,8,8,8,8,8,8,8,8,8,8,8,8,8,8,8,8,8,8,8,8,8,8,8,8,8,8,8,8,8,8,8,8,8,8,8,8,8,8,8,8,8,8,8,8,8,8,8,8,8,8,8,8,8,8,8,8,8,8,8,8,8,8,8,8,8,8,8,8,8,8,8,8,8,8,8,8,8,8,8,8,8,8,8,8,8,8,8,8,8,8,8,8,8,8,8,8,8,8,8,8,8,8,8,8,8,8,8,8,8,8,8,8,8,8,8,8,8,8,8,8,8,8,8,8,8,8]⟩:ByteArray).toList.getD ((u8.wrap j2.1).toNat) 0).toNat:Int))))
@[go_sem] def zcr6(j2:Int×Int):St:=⟨[(0,.int .u64 j2.1),(2,.int .i64 j2.2)],[],0⟩
def zN9(j1:Int×Int):Option Int:=
 (if(decide (65536<=j1.1))=true then
  zN8 ((j1.1.fdiv (2^16)),i64.wrap (j1.2+16))
 else
  zN8 (j1.1,j1.2))
@[go_sem] def zcr7(j1:Int×Int):St:=⟨[(0,.int .u64 j1.1),(2,.int .i64 j1.2)],[],0⟩
def zg4(a0:Int):Option Int:=
 (if(decide (4294967296<=a0))=true then
  zN9 ((a0.fdiv (2^32)),32)
 else
  zN9 (a0,0))
theorem zas3(a0 r:Int)(h:zg4 a0=some r):PFn C 32 [.int .u64 a0] (.int .i64 r):=by
 refine zx6 Tryz.f32 [] λ E hG hN hK=>?_;unfold zg4 at h;refine za2 (za3 hG ?_);refine za2 (za2 (za3 hG ?_));refine zaE6 zcr7 (λ v=>zN9 v=some r) rfl hG h ?_ (λ _ h=>?_) (λ _ h=>?_)
 · intro j1 h
   unfold zN9 at h;refine g_st ?_;refine za2 (za2 (za3 hG ?_));refine zaE6 zcr6 (λ v=>zN8 v=some r) rfl hG h ?_ (λ _ h=>?_) (λ _ h=>?_)
   · intro j2 h
     unfold zN8 at h;refine g_st ?_;refine za2 (za2 (za3 hG ?_));refine zh3 rfl hG h (λ _ h=>?_) (λ _ h=>?_)
     · refine za2 (za3 hG ?_)
       refine za3 hG ?_;refine za2 ?_;obtain⟨hb1,h⟩:=ze5 h;refine za3 hG ?_;refine zo3 ?_;exact zt5 h
     refine zh0 ?_;refine za2 ?_;obtain⟨hb2,h⟩:=ze5 h;refine za3 hG ?_;refine zo3 ?_;exact zt5 h
   · refine za2 (za3 hG ?_)
     refine za3 hG ?_;exact zs8 hK [] ((j1.1.fdiv (2^16)),i64.wrap (j1.2+16)) (by exact h)
   refine zh0 ?_;exact zs8 hK [] (j1.1,j1.2) (by exact h)
 · refine za2 (za3 hG ?_)
   refine za3 hG ?_;exact zs8 hK [] ((a0.fdiv (2^32)),32) (by exact h)
 refine zh0 ?_;exact zs8 hK [] (a0,0) (by exact h)
instance zbE0(a0:Int):OkP (zg4 a0) 32 [.int .u64 a0] (λ r=>.int .i64 r):=⟨zas3 a0⟩
attribute [local irreducible] zg4
def zG3(a0:List aD):Int:=
 (a0.length:Int)
instance zaF1(a0:List aD):OkT 27 [.sl (a0.map aD.enc)] (.int .i64 (zG3 a0)):=ok2 (λ r=>.int .i64 r) (zG3.eq_1 a0) Tryz.f27 []
def za6(a0:List aG):Option (List aG):=
 gd (a0.length<=4294967296)<|
 some a0
theorem zT4(a0:List aG)(r:(List aG))(h:za6 a0=some r):PFn C 46 [la a0] (la r):=by
 refine zx6 Tryz.f46 [(5,1)] λ E hG hN hK=>?_;unfold za6 at h;refine za2 (za3 hG ?_);refine za2 (za2 (za3 hG ?_));intro b hnil;cases b
 · refine g_st ?_
   refine zaf1 rfl hG ?_;refine zh0 ?_;refine za2 ?_;obtain⟨hb1,h⟩:=ze5 h;refine za3 hG ?_;refine zo3 ?_;exact zt5 h
 have ha:a0=[]:=eX.1 (hnil rfl);subst ha
 replace h:some []=some r:=by simpa [gd]using h
 refine g_st ?_;refine zU6 rfl hG ?_;refine za2 (za3 hG ?_);refine zo3 ?_;exact zt5 h
attribute [local irreducible] za6
def zB3(j1:Bool):Bool:=
 (if j1=true then
  true
 else
  false)
def zS6(a0:ByteArray):Bool:=
 (if(a0.toList==(⟨#[97,108,108]⟩:ByteArray).toList)=true then
  zB3 (a0.toList==(⟨#[97,108,108]⟩:ByteArray).toList)
 else
  (if(a0.toList==(⟨#[97,110,121]⟩:ByteArray).toList)=true then
   zB3 (a0.toList==(⟨#[97,110,121]⟩:ByteArray).toList)
  else
   (if(a0.toList==(⟨#[111,102]⟩:ByteArray).toList)=true then
    zB3 (a0.toList==(⟨#[111,102]⟩:ByteArray).toList)
   else
    (if(a0.toList==(⟨#[112,114,105,111]⟩:ByteArray).toList)=true then
     zB3 (a0.toList==(⟨#[112,114,105,111]⟩:ByteArray).toList)
    else
     zB3 (a0.toList==(⟨#[108,105,109,105,116]⟩:ByteArray).toList)))))
@[reducible,instance] def zdI7 a0:=mkJ (zS6 a0) 999 (@zB3.eq_1) λ(j1:Bool)=>⟨[(4,.bool j1)],[],0⟩
instance zbE1(a0:ByteArray):OkT 158 [.str a0] (.bool (zS6 a0)):=ok2 (λ r=>.bool r) (zS6.eq_1 a0) Tryz.f158 []
def zT5(a0 a1 a2:Int):Bool:=
 (decide (a1<=a0)&&decide (a0<=a2))
instance zbR3(a0 a1 a2:Int):OkT 120 [.int .i64 a0,.int .i64 a1,.int .i64 a2] (.bool (zT5 a0 a1 a2)):=ok2 (λ r=>.bool r) (zT5.eq_1 a0 a1 a2) Tryz.f120 []
def zab9(j1:Unit):Option Int:=
 some 0
def zw9(a0 a1:Arr Int 3)(g1:Int):Option (Int⊕(Unit⊕Int)):=
 (if(decide (g1<3))=true then
  gd (0<=g1/\g1<3)<|
  gd (0<=g1/\g1<3)<|
  (if(decide (Arr.get a0 g1.toNat 0<Arr.get a1 g1.toNat 0))=true then
   some (.inr (.inr (-1)))
  else
   gd (0<=g1/\g1<3)<|
   (if(decide (Arr.get a1 g1.toNat 0<Arr.get a0 g1.toNat 0))=true then
    some (.inr (.inr 1))
   else
    some (.inl (i64.wrap (g1+1)))))
 else
  some (.inr (.inl ())))
def zi9(a0 a1:Arr Int 3):Option Int:=
 (zg8 (zw9 a0 a1) 0).bind (λ|.inl z=>zab9 z|.inr z=>some z)
@[reducible,instance] def zdI8 a0 a1:=mkJ (zi9 a0 a1) 0 (@zab9.eq_1) λ(j1:Unit)=>⟨[],[],0⟩
@[reducible,instance] def zdI9 (a0 a1:Arr Int 3) {T:Type} (x:T):=mkL x (@zw9.eq_1 a0 a1) λ(g1:Int)=>⟨[(3,.ptr 0 0 0),(7,.agg (Arr.enc (eI .i64) a0)),(8,.int .i64 g1)],[(0,⟨false,3,Arr.enc (eI .i64) (Arr.rep 3 0),[Arr.enc (eI .i64) a1]⟩)],1⟩
instance zbR4(a0 a1:Arr Int 3):OkP (zi9 a0 a1) 79 [.agg (Arr.enc (eI .i64) a0),.agg (Arr.enc (eI .i64) a1)] (λ r=>.int .i64 r):=ok1 (zi9.eq_1 a0 a1) Tryz.f79 []
attribute [local irreducible] zi9
def zx9(a0:aJ):Bool:=
 (decide (a0={aJ.zero with}))
instance zas4(a0:aJ):OkT 228 [.agg (aJ.enc a0)] (.bool (zx9 a0)):=ok2 (λ r=>.bool r) (zx9.eq_1 a0) Tryz.f228 []
def zH2(a0:List aF)(j1:Unit):Option ((List aF)×(List aF)):=
 some (a0,a0)
def zH3(j2:Int×(List aF)):Option (Int⊕(Unit⊕((List aF)×(List aF)))):=
 gd (0<=j2.1/\j2.1<=((j2.2.length:Nat):Int)/\((j2.2.length:Nat):Int)<=((j2.2.length:Nat):Int))<|
 gd (0<=0/\0<=j2.1/\j2.1<=((j2.2.length:Nat):Int))<|
 some (.inr (.inr ((((j2.2.take j2.1.toNat++List.replicate (j2.2.length-j2.1.toNat) aF.zero++j2.2.drop (j2.1.toNat+(j2.2.length-j2.1.toNat))).drop 0).take j2.1.toNat),(j2.2.take j2.1.toNat++List.replicate (j2.2.length-j2.1.toNat) aF.zero++j2.2.drop (j2.1.toNat+(j2.2.length-j2.1.toNat))))))
def zH4(a0:List aF)(g1:Int)(g2:Int×Int×(List aF)):Option ((Int×Int×(List aF))⊕(Int×(List aF))):=
 (if(decide (g2.2.1<(((a0.length-g1.toNat):Nat):Int)))=true then
  gd (0<=g2.2.1/\g2.2.1<(((a0.length-g1.toNat):Nat):Int)/\g1.toNat+(a0.length-g1.toNat)<=g2.2.2.length)<|
  gd (0<=i64.wrap (g2.2.1-1)/\i64.wrap (g2.2.1-1)<(((a0.length-g1.toNat):Nat):Int)/\g1.toNat+(a0.length-g1.toNat)<=g2.2.2.length)<|
  (if(!decide (g2.2.2.getD (g1.toNat+g2.2.1.toNat) aF.zero=g2.2.2.getD (g1.toNat+(i64.wrap (g2.2.1-1)).toNat) aF.zero))=true then
   gd (0<=g2.2.1/\g2.2.1<(((a0.length-g1.toNat):Nat):Int)/\g1.toNat+(a0.length-g1.toNat)<=g2.2.2.length)<|
   gd (0<=g2.1/\g2.1<((g2.2.2.length:Nat):Int))<|
   some (.inl ((i64.wrap (g2.1+1)),i64.wrap (g2.2.1+1),g2.2.2.set g2.1.toNat (g2.2.2.getD (g1.toNat+g2.2.1.toNat) aF.zero)))
  else
   some (.inl (g2.1,i64.wrap (g2.2.1+1),g2.2.2)))
 else
  some (.inr (g2.1,g2.2.2)))
def zz1(a0:List aF)(g1:Int):Option (Int⊕(Unit⊕((List aF)×(List aF)))):=
 (if(decide (g1<((a0.length:Nat):Int)))=true then
  gd (0<=g1/\g1<((a0.length:Nat):Int))<|
  gd (0<=i64.wrap (g1-1)/\i64.wrap (g1-1)<((a0.length:Nat):Int))<|
  (if(decide (a0.getD g1.toNat aF.zero=a0.getD ((i64.wrap (g1-1)).toNat) aF.zero))=true then
   gd (0<=g1/\g1<=((a0.length:Nat):Int)/\((a0.length:Nat):Int)<=((a0.length:Nat):Int))<|
   (zg8 (zH4 a0 g1) (g1,1,a0)).bind (λ z=>zH3 z)
  else
   some (.inl (i64.wrap (g1+1))))
 else
  some (.inr (.inl ())))
def za9(a0:List aF):Option ((List aF)×(List aF)):=
 (if(decide (((a0.length:Nat):Int)<2))=true then
  some (a0,a0)
 else
  (zg8 (zz1 a0) 1).bind (λ|.inl z=>zH2 a0 z|.inr z=>some z))
@[reducible,instance] def zdt4 (a0:List aF):=mkJ (za9 a0) 0 (@zH2.eq_1 a0) λ(j1:Unit)=>⟨[(0,.own 0 0 a0.length)],[(0,sx a0)],1⟩
@[reducible,instance] def zdt5 (a0:List aF) (g1:Int):=mkJ (zz1 a0 g1) 2 (@zH3.eq_1) λ(j2:Int×(List aF))=>⟨[(0,.own 0 0 j2.2.length),(3,.int .i64 j2.1)],[(0,sx j2.2)],1⟩
@[reducible,instance] def zdt6 (a0:List aF) (g1:Int) {T:Type} (x:T):=mkL x (@zH4.eq_1 a0 g1) λ(g2:Int×Int×(List aF))=>⟨[(0,.own 0 0 g2.2.2.length),(3,.int .i64 g2.1),(4,.own 0 g1.toNat (a0.length-g1.toNat)),(5,.int .i64 g2.2.1)],[(0,sx g2.2.2)],1⟩
@[reducible,instance] def zdt7 (a0:List aF) {T:Type} (x:T):=mkL x (@zz1.eq_1 a0) λ(g1:Int)=>⟨[(0,.own 0 0 a0.length),(3,.int .i64 g1)],[(0,sx a0)],1⟩
instance zW5(a0:List aF):OkM (za9 a0) 161 [.own 0 0 a0.length] [(0,sx a0)] 1 (λ r=>la r.1) (λ r=>[(0,⟨true,3,aF.enc aF.zero,r.2.map aF.enc⟩)]) 1:=⟨λ r h=>by
 refine zK4 Tryz.f161 [] [la r.1] λ E hG hN hK=>?_;have hm:Mk (za9 a0):=trivial;unfold za9 at h;refine za2 (za3 hG ?_);refine za2 (za2 (za3 hG ?_));refine zh3 rfl hG h (λ _ h=>?_) (λ _ h=>?_)
 · refine za2 (za3 hG ?_)
   refine g_gh (.fz [0]) ?_;exact gogo
 refine zh0 ?_;refine za2 (za2 (za3 hG ?_));refine zQ7 hm h (λ j1 hm h=>?_) ?_
 · try refine g_st ?_
   refine za2 (za3 hG ?_);refine g_gh (.fz [0]) ?_;exact gogo
 refine zbu5 hm hK [(0,0)] h (λ g1 y hm kx h=>?_)
 try refine g_st ?_
 refine za2 (za2 (za3 hG ?_));refine zh3 rfl hG h (λ _ h=>?_) (λ _ h=>?_)
 · refine zh0 ?_
   refine za2 (zr6 (za2 ?_));obtain⟨hb8,h⟩:=ze5 h;obtain⟨hb9,h⟩:=ze5 h;refine zaj5 zv9 hG ?_;refine zh3 rfl hG h (λ _ h=>?_) (λ _ h=>?_)
   · refine za2 ?_
     obtain⟨hb7,h⟩:=ze5 h;refine za3 hG ?_;refine za2 (za2 (za3 hG ?_));refine zQ7 hm h (λ j2 hm h=>?_) ?_
     · try refine g_st ?_
       refine za2 ?_;obtain⟨hb2,h⟩:=ze5 h;refine za3 hG ?_;refine za2 ?_;obtain⟨hb1,h⟩:=ze5 h;refine za3 hG ?_;refine g_gh (.fz [0]) ?_;exact gogo
     exact gogo
   exact gogo
 exact gogo⟩
attribute [local irreducible] za9
def zL2(j1:Unit):Option Bool:=
 some true
def zL3(a0 a1:List aO)(g1:Int):Option (Int⊕(Unit⊕Bool)):=
 (if(decide (g1<(a0.length:Int)))=true then
  gd (0<=g1/\g1<(a0.length:Int))<|
  gd (0<=g1/\g1<(a1.length:Int))<|
  (if(!decide (a0.getD g1.toNat aO.zero=a1.getD g1.toNat aO.zero))=true then
   some (.inr (.inr false))
  else
   some (.inl (i64.wrap (g1+1))))
 else
  some (.inr (.inl ())))
def zb9(a0 a1:List aO):Option Bool:=
 (if(!decide ((a0.length:Int)=(a1.length:Int)))=true then
  some false
 else
  (zg8 (zL3 a0 a1) 0).bind (λ|.inl z=>zL2 z|.inr z=>some z))
@[reducible,instance] def zdt8 a0 a1:=mkJ (zb9 a0 a1) 0 (@zL2.eq_1) λ(j1:Unit)=>⟨[],[],0⟩
@[reducible,instance] def zdt9 (a0 a1:List aO) {T:Type} (x:T):=mkL x (@zL3.eq_1 a0 a1) λ(g1:Int)=>⟨[(0,la a0),(1,la a1),(12,.int .i64 (a0.length:Int)),(13,.int .i64 g1)],[],0⟩
instance zaT5(a0 a1:List aO):OkP (zb9 a0 a1) 178 [la a0,la a1] (λ r=>.bool r):=ok1 (zb9.eq_1 a0 a1) Tryz.f178 []
attribute [local irreducible] zb9
def zf1(a0:aC):Option aC:=
 gd (a0.bR.length<=4294967296)<|
 gd (a0.aV.length<=4294967296)<|
 gd (a0.bO.length<=4294967296)<|
 some a0
instance zaH8(a0:aC):OkP (zf1 a0) 94 [ga a0] (λ r=>ga r):=ok1 (zf1.eq_1 a0) Tryz.f94 []
attribute [local irreducible] zf1
def zj6(a0:aC):Option aC:=
 gd (a0.bR.length<=4294967296)<|
 gd (a0.aV.length<=4294967296)<|
 gd (a0.bO.length<=4294967296)<|
 some a0
theorem zaV8(a0 r:aC)(h:zj6 a0=some r):MFn C 195 [ga a0] [] 0 (.agg [.str r.aQ.name,.int .i64 r.aQ.kind,.int .i64 r.aQ.bJ,.int .i64 r.aQ.home,.own 0 0 r.bR.length,.own 1 0 r.aV.length,.own 2 0 r.bO.length,.int .i64 r.gen]) [(0,sx r.bR),(1,sx r.aV),(2,sx r.bO)] 3:=by refine zK4 Tryz.f195 [] [.agg [.str r.aQ.name,.int .i64 r.aQ.kind,.int .i64 r.aQ.bJ,.int .i64 r.aQ.home,.own 0 0 r.bR.length,.own 1 0 r.aV.length,.own 2 0 r.bO.length,.int .i64 r.gen]] λ E hG hN hK=>?_;unfold zj6 at h;refine za2 (za3 hG ?_);refine za2 ?_;obtain⟨hb3,h⟩:=ze5 h;refine za3 hG ?_;refine za2 ?_;obtain⟨hb2,h⟩:=ze5 h;refine za3 hG ?_;refine za2 ?_;obtain⟨hb1,h⟩:=ze5 h;refine za3 hG ?_;refine za2 (za3 hG ?_);refine zo3 ?_;exact zw8 [(0,2),(1,3),(2,4)] h
attribute [local irreducible] zj6
def zf2(a0:Int)(a1:aF)(a2:bM):Option (Int×(List aC)×(List aH)×(List bI)):=
 gd (a2.events.length+1<=4294967296)<|
 some (a2.central.now,a2.central.aB,a2.central.bA,(a2.events++[{bI.zero with kind:=a0,aZ:=a1}]))
instance zaF2(a0:Int)(a1:aF)(a2:bM):OkM (zf2 a0 a1 a2) 145 [.ptr 0 0 0,.int .i64 a0,ga a1] [(0,⟨false,4,bM.enc bM.zero,[[.int .i64 a2.central.now,la a2.central.aB,.own 1 0 a2.central.bA.length,.own 2 0 a2.events.length]]⟩),(1,sx a2.central.bA),(2,sx a2.events)] 3 (λ r=>.tup []) (λ r=>[(0,⟨false,4,bM.enc bM.zero,[[.int .i64 r.1,la r.2.1,.own 1 0 r.2.2.1.length,.own 3 0 r.2.2.2.length]]⟩),(1,sx r.2.2.1),(3,sx r.2.2.2)]) 4:=okm (zf2.eq_1 a0 a1 a2) (λ r=>[]) Tryz.f145 []
attribute [local irreducible] zf2
def zi3(a0:Nat)(a1:List aH):Option (List aH):=
 gd (a0<a1.length)<|
 some (((a1.set a0 ({(a1.getD a0 aH.zero)with bW:=false})).set a0 ({((a1.set a0 ({(a1.getD a0 aH.zero)with bW:=false})).getD a0 aH.zero)with aR:={bL.zero with}})).set a0 ({(((a1.set a0 ({(a1.getD a0 aH.zero)with bW:=false})).set a0 ({((a1.set a0 ({(a1.getD a0 aH.zero)with bW:=false})).getD a0 aH.zero)with aR:={bL.zero with}})).getD a0 aH.zero)with since:=0}))
theorem zaR8(a0:Nat)(a1:List aH)(r:(List aH))(h:zi3 a0 a1=some r):MFn C 212 [.ptr 0 a0 0] [(0,sx a1)] 1 (.tup []) [(0,sx r)] 1:=by refine zK4 Tryz.f212 [] [] λ E hG hN hK=>?_;unfold zi3 at h;obtain⟨hb1,h⟩:=ze5 h;refine za3 hG ?_;exact zw8 [(0,0)] h
attribute [local irreducible] zi3
def za8(a0:List aW):Option (List aW):=
 gd (a0.length<=4294967296)<|
 some a0
theorem zae3(a0:List aW)(r:(List aW))(h:za8 a0=some r):PFn C 66 [la a0] (la r):=by
 refine zx6 Tryz.f66 [(5,1)] λ E hG hN hK=>?_;unfold za8 at h;refine za2 (za3 hG ?_);refine za2 (za2 (za3 hG ?_));intro b hnil;cases b
 · refine g_st ?_
   refine zaf1 rfl hG ?_;refine zh0 ?_;refine za2 ?_;obtain⟨hb1,h⟩:=ze5 h;refine za3 hG ?_;refine zo3 ?_;exact zt5 h
 have ha:a0=[]:=eX.1 (hnil rfl);subst ha
 replace h:some []=some r:=by simpa [gd]using h
 refine g_st ?_;refine zU6 rfl hG ?_;refine za2 (za3 hG ?_);refine zo3 ?_;exact zt5 h
instance zaR9(a0:List aW):OkP (za8 a0) 66 [la a0] (λ r=>la r):=⟨zae3 a0⟩
attribute [local irreducible] za8
def za7(a0:List bY):Option (List bY):=
 some a0
instance zV1(a0:List bY):OkM (za7 a0) 72 [la a0] [] 0 (λ r=>.clo 123 [.ptr 0 0 0]) (λ r=>[(0,⟨false,1,[A.sl ([].map bY.enc)],[[A.sl (r.map bY.enc)]]⟩)]) 1:=okm (za7.eq_1 a0) (λ r=>[.clo 123 [.ptr 0 0 0]]) Tryz.f72 []
attribute [local irreducible] za7
def zx4(a0:List bY)(j1:Unit):Option (List bY):=
 some a0
@[go_sem] def zcr8(a0:List bY)(j1:Unit):St:=⟨[],[(0,⟨false,1,[A.sl ([].map bY.enc)],[[A.sl (a0.map bY.enc)]]⟩)],1⟩
def zD9(a0:List bY)(g1:Unit):Option (Unit⊕Unit):=
 (if(decide (0<=i64.wrap ((a0.length:Int)-1)))=true then
  none
 else
  some (.inr ()))
@[go_sem] def zcr9(a0:List bY)(g1:Unit):St:=⟨[(3,.int .i64 (i64.wrap ((a0.length:Int)-1)))],[(0,⟨false,1,[A.sl ([].map bY.enc)],[[A.sl (a0.map bY.enc)]]⟩)],1⟩
def za5(a0:List bY):Option (List bY):=
 (zg8 (zD9 a0) ()).bind (λ z=>zx4 a0 z)
theorem zT6(a0:List bY)(r:(List bY))(h:za5 a0=some r):YFn C 123 [.ptr 0 0 0] [(0,⟨false,1,[A.sl ([].map bY.enc)],[[A.sl (a0.map bY.enc)]]⟩)] 1 (.tup []) [(0,⟨false,1,[A.sl ([].map bY.enc)],[[A.sl (r.map bY.enc)]]⟩)] 1:=by
 refine zcR3 Tryz.f123 [(2003,1)] [] λ E hG hN hK=>?_;unfold za5 at h;refine za2 (za3 hG ?_);refine zs5 (zcr8 a0) (λ v=>zx4 a0 v=some r) ?_ ?_
 · intro j1 h
   unfold zx4 at h;refine g_st ?_;exact zw8 [(0,0)] h
 refine zz0 (zcr9 a0) hK [(0,0)] h (λ x_l1 h g1 y_l1 h_l1 hx_l1=>?_);unfold zD9 at h_l1;refine g_st ?_;refine za2 (za2 (za3 hG ?_));refine zh3 rfl hG h_l1 (λ _ h_l1=>?_) (λ _ h_l1=>?_)
 · refine zh0 ?_
   refine za2 (zr6 ?_);exact zV9 h_l1
 refine zv7 ?_;cases h_l1;cases hx_l1 _ rfl;exact zs8 hK [(0,0)] () (by exact h)
attribute [local irreducible] za5
def zO0(j1:Int×Int):Option Int:=
 (if(decide (256<=j1.1))=true then
  gd (0<=u8.wrap (j1.1.fdiv (2^8))/\u8.wrap (j1.1.fdiv (2^8))<((⟨#[0,1,2,2,3,3,3,3,4,4,4,4,4,4,4,4,5,5,5,5,5,5,5,5,5,5,5,5,5,5,5,5,6,6,6,6,6,6,6,6,6,6,6,6,6,6,6,6,6,6,6,6,6,6,6,6,6,6,6,6,6,6,6,6,7,7,7,7,7,7,7,7,7,7,7,7,7,7,7,7,7,7,7,7,7,7,7,7,7,7,7,7,7,7,7,7,7,7,7,7,7,7,7,7,7,7,7,7,7,7,7,7,7,7,7,7,7,7,7,7,7,7,7,7,7,7,7,7,8,8,8,8,8,8,8,8,8,8,8,8,8,8,8,8,8,8,8,8,8,8,8,8,8,8,8,8,8,8,8,8,8,8,8,8,8,8,8,8,8,8,8,8,8,8,8,8,8,8,8,8,8,8,8,8,8,8,8,8,8,8,8,8,8,8,8,8,8,8,8,8,8,8,8,8,8,8,8,8,8,8,8,8,8,8,8,8,8,8,8,8,8,8,8,8,8,8,8,8,8,8,8,8,8,8,8,8,8,8,8,8,8,8,8,8,8,8,8,8,8,8,8,8,8,8,8,8]⟩:ByteArray).size:Int))<|
  some (i64.wrap (i64.wrap (j1.2+8)+i64.wrap (((⟨#[0,1,2,2,3,3,3,3,4,4,4,4,4,4,4,4,5,5,5,5,5,5,5,5,5,5,5,5,5,5,5,5,6,6,6,6,6,6,6,6,6,6,6,6,6,6,6,6,6,6,6,6,6,6,6,6,6,6,6,6,6,6,6,6,7,7,7,7,7,7,7,7,7,7,7,7,7,7,7,7,7,7,7,7,7,7,7,7,7,7,7,7,7,7,7,7,7,7,7,7,7,7,7,7,7,7,7,7,7,7,7,7,7,7,7,7,7,7,7,7,7,7,7,7,7,7,7,7,8,8,8,8,8,8,8,8,8,8,8,8,8,8,8,8,8,8,8,8,8,8,8,8,8,8,8,8,8,8,8,8,8,8,8,8,8,8,8,8,8,8,8,8,8,8,8,8,8,8,8,8,8,8,8,8,8,8,8,8,8,8,8,8,8,8,8,8,8,8,8,8,8,8,8,8,8,8,8,8,8,8,8,8,8,8,8,8,8,8,8,8,8,8,8,8,8,8,8,8,8,8,8,8,8,8,8,8,8,8,8,8,8,8,8,8,8,8,8,8,8,8,8,8,8,8,8,8]⟩:ByteArray).toList.getD ((u8.wrap (j1.1.fdiv (2^8))).toNat) 0).toNat:Int)))
 else
  gd (0<=u8.wrap j1.1/\u8.wrap j1.1<((⟨#[0,1,2,2,3,3,3,3,4,4,4,4,4,4,4,4,5,5,5,5,5,5,5,5,5,5,5,5,5,5,5,5,6,6,6,6,6,6,6,6,6,6,6,6,6,6,6,6,6,6,6,6,6,6,6,6,6,6,6,6,6,6,6,6,7,7,7,7,7,7,7,7,7,7,7,7,7,7,7,7,7,7,7,7,7,7,7,7,7,7,7,7,7,7,7,7,7,7,7,7,7,7,7,7,7,7,7,7,7,7,7,7,7,7,7,7,7,7,7,7,7,7,7,7,7,7,7,7,8,8,8,8,8,8,8,8,8,8,8,8,8,8,8,8,8,8,8,8,8,8,8,8,8,8,8,8,8,8,8,8,8,8,8,8,8,8,8,8,8,8,8,8,8,8,8,8,8,8,8,8,8,8,8,8,8,8,8,8,8,8,8,8,8,8,8,8,8,8,8,8,8,8,8,8,8,8,8,8,8,8,8,8,8,8,8,8,8,8,8,8,8,8,8,8,8,8,8,8,8,8,8,8,8,8,8,8,8,8,8,8,8,8,8,8,8,8,8,8,8,8,8,8,8,8,8,8]⟩:ByteArray).size:Int))<|
  some (i64.wrap (j1.2+i64.wrap (((⟨#[0,1,2,2,3,3,3,3,4,4,4,4,4,4,4,4,5,5,5,5,5,5,5,5,5,5,5,5,5,5,5,5,6,6,6,6,6,6,6,6,6,6,6,6,6,6,6,6,6,6,6,6,6,6,6,6,6,6,6,6,6,6,6,6,7,7,7,7,7,7,7,7,7,7,7,7,7,7,7,7,7,7,7,7,7,7,7,7,7,7,7,7,7,7,7,7,7,7,7,7,7,7,7,7,7,7,7,7,7,7,7,7,7,7,7,7,7,7,7,7,7,7,7,7,7,7,7,7,8,8,8,8,8,8,8,8,8,8,8,8,8,8,8,8,8,8,8,8,8,8,8,8,8,8,8,8,8,8,8,8,8,8,8,8,8,8,8,8,8,8,8,8,8,8,8,8,8,8,8,8,8,8,8,8,8,8,8,8,8,8,8,8,8,8,8,8,8,8,8,8,8,8,8,8,8,8,8,8,8,8,8,8,8,8,8,8,8,8,8,8,8,8,8,8,8,8,8,8,8,8,8,8,8,8,8,8,8,8,8,8,8,8,8,8,8,8,8,8,8,8,8,8,8,8,8,8]⟩:ByteArray).toList.getD ((u8.wrap j1.1).toNat) 0).toNat:Int))))
@[go_sem] def zcs0(j1:Int×Int):St:=⟨[(0,.int .u32 j1.1),(2,.int .i64 j1.2)],[],0⟩
def zh2(a0:Int):Option Int:=
 (if(decide (65536<=a0))=true then
  zO0 ((a0.fdiv (2^16)),16)
 else
  zO0 (a0,0))
theorem zaS0(a0 r:Int)(h:zh2 a0=some r):PFn C 247 [.int .u32 a0] (.int .i64 r):=by
 refine zx6 Tryz.f247 [] λ E hG hN hK=>?_;unfold zh2 at h;refine za2 (za3 hG ?_);refine za2 (za2 (za3 hG ?_));refine zaE6 zcs0 (λ v=>zO0 v=some r) rfl hG h ?_ (λ _ h=>?_) (λ _ h=>?_)
 · intro j1 h
   unfold zO0 at h;refine g_st ?_;refine za2 (za2 (za3 hG ?_));refine zh3 rfl hG h (λ _ h=>?_) (λ _ h=>?_)
   · refine za2 (za3 hG ?_)
     refine za3 hG ?_;refine za2 ?_;obtain⟨hb1,h⟩:=ze5 h;refine za3 hG ?_;refine zo3 ?_;exact zt5 h
   refine zh0 ?_;refine za2 ?_;obtain⟨hb2,h⟩:=ze5 h;refine za3 hG ?_;refine zo3 ?_;exact zt5 h
 · refine za2 (za3 hG ?_)
   refine za3 hG ?_;exact zs8 hK [] ((a0.fdiv (2^16)),16) (by exact h)
 refine zh0 ?_;exact zs8 hK [] (a0,0) (by exact h)
instance zbE2(a0:Int):OkP (zh2 a0) 247 [.int .u32 a0] (λ r=>.int .i64 r):=⟨zaS0 a0⟩
attribute [local irreducible] zh2
def zj2(a0:aA)(a1:List aF):Option (aA×(List aF)×(List (Int×Bool))):=
 some (a0,a1,[])
theorem zaV9(a0:aA)(a1:List aF)(r:aA×(List aF)×(List (Int×Bool)))(h:zj2 a0 a1=some r):MFn C 26 [ga a0,la a1] [] 0 (.clo 53 [.ptr 0 0 0,.ptr 1 0 0,.ptr 2 0 0]) [(0,⟨false,1,[A.clo zF2 []],[[.mp 3]]⟩),(1,bx r.1),(2,⟨false,1,[A.sl ([].map aF.enc)],[[A.sl (r.2.1.map aF.enc)]]⟩),(3,⟨false,0,[A.int .i64 0,A.bool false],r.2.2.map (mI .i64 eB)⟩)] 4:=by refine zK4 Tryz.f26 [] [.clo 53 [.ptr 0 0 0,.ptr 1 0 0,.ptr 2 0 0]] λ E hG hN hK=>?_;unfold zj2 at h;refine za2 (za3 hG ?_);refine za2 (za3 hG ?_);refine za2 (za3 hG ?_);refine zo3 ?_;exact zw8 [(0,3),(1,0),(2,1),(3,2)] h
attribute [local irreducible] zj2
def zf3(a0:aO)(a1:aC):Option (Bool×aC):=
 some ((a0.name.toList==a1.aQ.name.toList),a1)
instance zbv1(a0:aO)(a1:aC):OkM (zf3 a0 a1) 165 [ga a0,.ptr 0 0 0] [(0,bx a1)] 1 (λ r=>.bool r.1) (λ r=>[(0,bx r.2)]) 1:=okm (zf3.eq_1 a0 a1) (λ r=>[.bool r.1]) Tryz.f165 []
attribute [local irreducible] zf3
def za1(a0 a1:Int):bC×Int:=
 (if(((decide (a0<0)||decide (4<=a0))||decide (a1<1))||decide (99<a1))=true then
  ({bC.zero with},1)
 else
  ({bC.zero with site:=a0,inc:=a1},0))
theorem zaW0(a0 a1:Int):PFn C 83 [.int .i64 a0,.int .i64 a1] (.tup [ga ((za1 a0 a1).1),.int .i64 ((za1 a0 a1).2)]):=by generalize h:za1 a0 a1=r;refine zx6 Tryz.f83 [] λ E hG hN hK=>?_;have hm:Mk (za1 a0 a1):=trivial;unfold za1 at h;exact gogo
instance zcd3(a0 a1:Int):OkT 83 [.int .i64 a0,.int .i64 a1] (.tup [.agg (bC.enc ((za1 a0 a1).1)),.int .i64 ((za1 a0 a1).2)]):=⟨zaW0 a0 a1⟩
end
end Ab
end Go.Proofs.YtamndckemppjdaaGreatDoor
