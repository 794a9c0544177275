import Derived.Test.YtdlfhmkmnjbihaaGreatDoorHm9
import Derived.Test.YtdlfhmkmnjbihaaGreatDoorHm12
import Derived.Test.YtdlfhmkmnjbihaaGreatDoorHm14
import Derived.Test.YtdlfhmkmnjbihaaGreatDoorSort
namespace Go.Proofs.YtdlfhmkmnjbihaaGreatDoor
namespace Ab
open IntKind (i64 u64 u8)
set_option linter.unusedSimpArgs false
set_option linter.defProp false
set_option linter.unusedVariables false
set_option maxRecDepth 100000
set_option maxHeartbeats 1000000
noncomputable section
attribute [local irreducible] zl5 zj8 zl7 zd1 zg5 zi1 zf5 zm6 zl8 zk4 ze1 ze6 zn5 zd4 zo3 za2 zg8 zg6 za5 zf6 ze4 zg3 zd7 zn0 zc9 zc6 zp8 zh0 zf7 zl6 zd5 zb1 ze0 zd6 za4 zj9 ze5 zh4 zd2 zb3 zf9 zd8 za8 zc3 ze2 zb9 zb2 zk9 za6 zc8 zd3 zk3 zf8 zd9 zk6 zi5 zq5 zc4 za9 ze7 zi3 zg0 zn1 zb7 zq4 zl4 zf1 zb6 zl1 ze8 zk7 zn7 zf2 zl0 zk0 zn8 ze9 zi6 zp3 zj5 zj0 zh2 zi7 zm7 zc5 zg1 zk1 zj1 za7 ze3 zf0 zo7 zm3 zo8 zm4 zo9 zj6 zf4 zm0 zc7 zg2 zr1 zt3 zp4 zf3 zj2 zk2 zr2 zq0 zg7 zj7 zh8 zi2 zj3 zu9 zh6 zm1
def zat8(j1:(List Int)):Option (List Int):=
 some j1
def zR8(a1:bB)(g1:Int×(List Int)):Option ((Int×(List Int))⊕(List Int)):=
 (if(decide (g1.1<(a1.lower.length:Int)))=true then
  gd (0<=g1.1/\g1.1<(a1.lower.length:Int))<|
  (zf1 g1.2 ((a1.lower.getD g1.1.toNat aO.zero).name)).bind λ v7=>
  (zb2 v7 (u64.wrap ((a1.lower.getD g1.1.toNat aO.zero).aJ).mode)).bind λ v8=>
  (zb2 v8 (u64.wrap ((a1.lower.getD g1.1.toNat aO.zero).aJ).aV)).bind λ v9=>
  some (.inl ((i64.wrap (g1.1+1)),v9))
 else
  some (.inr g1.2))
def zn4(a0:List Int)(a1:bB):Option (List Int):=
 (zb1 a0).bind λ v1=>
 (zj6 a1).bind λ v2=>
 (if(!v2)=true then
  some v1
 else
  (zi2 v1 a1.aI).bind λ v3=>
  (zb2 v3 (u64.wrap (i64.wrap (a1.label+1)))).bind λ v4=>
  (zb2 v4 (u64.wrap a1.cost)).bind λ v5=>
  (zb2 v5 (u64.wrap (a1.lower.length:Int))).bind λ v6=>
  (zc1 (zR8 a1) (0,v6)).bind (λ z=>zat8 z))
@[reducible,instance] def zeu7 a0 a1 {T1:Type} (v1:T1) {T2:Type} (v2:T2) {T3:Type} (v3:T3) {T4:Type} (v4:T4) {T5:Type} (v5:T5) {T6:Type} (v6:T6):=mkJ ((((((zn4 a0 a1,v1),v2),v3),v4),v5),v6) 0 (@zat8.eq_1) λ(j1:(List Int))=>⟨[(0,.own 0 0 j1.length)],[(0,⟨false,1,[A.int .u8 0],j1.map (eI .u8)⟩)],1⟩
@[reducible,instance] def zeu8 (a1:bB) {T:Type} (x:T):=mkL x (@zR8.eq_1 a1) λ(g1:Int×(List Int))=>⟨[(0,.own 0 0 g1.2.length),(35,la a1.lower),(36,.int .i64 (a1.lower.length:Int)),(37,.int .i64 g1.1)],[(0,⟨false,1,[A.int .u8 0],g1.2.map (eI .u8)⟩)],1⟩
instance zbz9(a0:List Int)(a1:bB):OkM (zn4 a0 a1) 200 [.sl (a0.map (eI .u8)),ga a1] [] 0 (λ r=>.own 0 0 r.length) (λ r=>[(0,⟨false,1,[A.int .u8 0],r.map (eI .u8)⟩)]) 1:=okm (zn4.eq_1 a0 a1) (λ r=>[.own 0 0 r.length]) Tryz.f200 [(4,1),(16,1),(44,1)]
attribute [local irreducible] zn4
def zt0(a0:aD)(a1 a2:aC):Option aC:=
 (if((!(zc0 a0 a1))||(!(zc0 a0 a2)))=true then
  some ({aC.zero with})
 else
  (if(zk5 a1)=true then
   some a2
  else
   (if(zk5 a2)=true then
    some a1
   else
    (if(decide (a0.kind=1))=true then
     (zu9 a1.mode a2.mode).bind λ v1=>
     some ({aC.zero with mode:=v1})
    else
     some ({aC.zero with aV:=(if a1.aV<a2.aV then a2.aV else a1.aV)})))))
instance zdy2(a0:aD)(a1 a2:aC):OkP (zt0 a0 a1 a2) 207 [ga a0,ga a1,ga a2] (λ r=>ga r):=ok1 (zt0.eq_1 a0 a1 a2) Tryz.f207 []
attribute [local irreducible] zt0
def zm5(a0:aA)(a1:aF):Option (aA×aF):=
 (zm4 a0.aL a1 ({aC.zero with})).bind λ v1=>
 some ({a0 with aL:=v1},a1)
instance zbn3(a0:aA)(a1:aF):OkM (zm5 a0 a1) 263 [.ptr 0 0 0,.ptr 1 0 0] [(0,bx a0),(1,bx a1)] 2 (λ r=>.tup []) (λ r=>[(0,bx r.1),(1,bx r.2)]) 2:=okm (zm5.eq_1 a0 a1) (λ r=>[]) Tryz.f263 []
attribute [local irreducible] zm5
def zaD7(j1:Unit):Option Bool:=
 some true
def zak1(g1:Int×Int)(j2:Unit):Option ((Int×Int)⊕(Unit⊕Bool)):=
 some (.inl (g1.1,i64.wrap (g1.2+1)))
def zF9(a1:List aC)(g1:Int×Int)(g2:Int):Option (Int⊕(Unit⊕Bool)):=
 (if(decide (g2<g1.2))=true then
  gd (0<=g1.2/\g1.2<(a1.length:Int))<|
  gd ((!(zh5 (a1.getD g1.2.toNat aC.zero)))=true->0<=g2/\g2<(a1.length:Int))<|
  gd (((!(zh5 (a1.getD g1.2.toNat aC.zero)))&&(!(zh5 (a1.getD g2.toNat aC.zero))))=true->0<=g1.2/\g1.2<(a1.length:Int))<|
  gd (((!(zh5 (a1.getD g1.2.toNat aC.zero)))&&(!(zh5 (a1.getD g2.toNat aC.zero))))=true->0<=g2/\g2<(a1.length:Int))<|
  (if(((!(zh5 (a1.getD g1.2.toNat aC.zero)))&&(!(zh5 (a1.getD g2.toNat aC.zero))))&&(!(zL8 ((a1.getD g1.2.toNat aC.zero).mode) ((a1.getD g2.toNat aC.zero).mode))))=true then
   some (.inr (.inr false))
  else
   some (.inl (i64.wrap (g2+1))))
 else
  some (.inr (.inl ())))
def zB5(a0:aD)(a1:List aC)(g1:Int×Int):Option ((Int×Int)⊕(Unit⊕Bool)):=
 (if(decide (g1.2<(a1.length:Int)))=true then
  gd (0<=g1.2/\g1.2<(a1.length:Int))<|
  (if(!(zv3 a0 (a1.getD g1.2.toNat aC.zero)))=true then
   some (.inr (.inr false))
  else
   (if(decide (a0.kind=2))=true then
    gd (0<=g1.2/\g1.2<(a1.length:Int))<|
    (if(decide (a0.aV<i64.wrap (g1.1+(a1.getD g1.2.toNat aC.zero).aV)))=true then
     some (.inr (.inr false))
    else
     some (.inl ((i64.wrap (g1.1+(a1.getD g1.2.toNat aC.zero).aV)),i64.wrap (g1.2+1))))
   else
    (zc1 (zF9 a1 g1) 0).bind (λ|.inl z=>zak1 g1 z|.inr z=>some (.inr (.inr z)))))
 else
  some (.inr (.inl ())))
def zl2(a0:aD)(a1:List aC):Option Bool:=
 (if(!(zJ1 a0))=true then
  some false
 else
  (zc1 (zB5 a0 a1) (0,0)).bind (λ|.inl z=>zaD7 z|.inr z=>some z))
@[reducible,instance] def zeu9 a0 a1:=mkJ (zl2 a0 a1) 0 (@zaD7.eq_1) λ(j1:Unit)=>⟨[],[],0⟩
@[reducible,instance] def zev0 (a0:aD) (a1:List aC) (g1:Int×Int):=mkJ (zB5 a0 a1 g1) 2 (@zak1.eq_1 g1) λ(j2:Unit)=>⟨[(1,la a1),(2,.ptr 0 0 0),(5,.int .i64 g1.1),(6,.int .i64 g1.2)],[(0,bx a0)],1⟩
@[reducible,instance] def zev1 (a0:aD) (a1:List aC) (g1:Int×Int):=mkL (zB5 a0 a1 g1) (@zF9.eq_1 a1 g1) λ(g2:Int)=>⟨[(1,la a1),(2,.ptr 0 0 0),(5,.int .i64 g1.1),(6,.int .i64 g1.2),(7,.int .i64 g2)],[(0,bx a0)],1⟩
@[reducible,instance] def zev2 (a0:aD) (a1:List aC) {T:Type} (x:T):=mkL x (@zB5.eq_1 a0 a1) λ(g1:Int×Int)=>⟨[(1,la a1),(2,.ptr 0 0 0),(5,.int .i64 g1.1),(6,.int .i64 g1.2)],[(0,bx a0)],1⟩
instance zcQ9(a0:aD)(a1:List aC):OkP (zl2 a0 a1) 273 [ga a0,la a1] (λ r=>.bool r):=ok1 (zl2.eq_1 a0 a1) Tryz.f273 []
attribute [local irreducible] zl2
def zba0(j1:Unit):Option Bool:=
 some true
def zaq9(a0:List aM)(g1:Int):Option (Int⊕(Unit⊕Bool)):=
 (if(decide (g1<(a0.length:Int)))=true then
  gd (0<=g1/\g1<(a0.length:Int))<|
  gd (zz6 (a0.getD g1.toNat aM.zero)=true->0<=g1/\g1<(a0.length:Int))<|
  ((if(zz6 (a0.getD g1.toNat aM.zero))=true then zk3 a0 ((a0.getD g1.toNat aM.zero).aI)else some 0)).bind λ v1=>
  (if((!(zz6 (a0.getD g1.toNat aM.zero)))||(!decide (v1=g1)))=true then
   some (.inr (.inr false))
  else
   some (.inl (i64.wrap (g1+1))))
 else
  some (.inr (.inl ())))
def zr5(a0:List aM):Option Bool:=
 (if(decide (8<(a0.length:Int)))=true then
  some false
 else
  (zc1 (zaq9 a0) 0).bind (λ|.inl z=>zba0 z|.inr z=>some z))
@[reducible,instance] def zev3 a0:=mkJ (zr5 a0) 0 (@zba0.eq_1) λ(j1:Unit)=>⟨[],[],0⟩
@[reducible,instance] def zev4 (a0:List aM) {T:Type} (x:T):=mkL x (@zaq9.eq_1 a0) λ(g1:Int)=>⟨[(0,la a0),(3,.int .i64 g1)],[],0⟩
instance zdy3(a0:List aM):OkP (zr5 a0) 226 [la a0] (λ r=>.bool r):=ok1 (zr5.eq_1 a0) Tryz.f226 []
attribute [local irreducible] zr5
def zaB5(a0:aZ)(a1:List aO)(j1:Unit):Option (Nat⊕(Bool×(List aO))):=
 gd (a1.length+1<=4294967296)<|
 some (.inr (true,(a1++[a0.aW])))
def zal4(a0:aZ)(a1:List aO)(g1:Int):Option (Int⊕(Unit⊕(Nat⊕(Bool×(List aO))))):=
 (if(decide (g1<((a1.length:Nat):Int)))=true then
  gd (0<=g1/\g1<((a1.length:Nat):Int))<|
  (if(decide (a1.getD g1.toNat aO.zero=a0.aW))=true then
   some (.inr (.inr (.inr (true,a1))))
  else
   some (.inl (i64.wrap (g1+1))))
 else
  some (.inr (.inl ())))
def zaU8(j2:(List aO)):Option (Nat⊕(Bool×(List aO))):=
 some (.inr (true,j2))
def zY8(a90:(aZ->List aO->Option (Nat⊕(Bool×(List aO)))))(a0:aZ)(g2:Int×(List aO)):Option ((Int×(List aO))⊕((List aO)⊕(Nat⊕(Bool×(List aO))))):=
 (if(decide (g2.1<(a0.bE.length:Int)))=true then
  gd (0<=g2.1/\g2.1<(a0.bE.length:Int))<|
  (a90 (a0.bE.getD g2.1.toNat aZ.zero) g2.2).bind λ v2=>match v2 with
  | .inl v2=>
   some (.inr (.inr (.inl g2.2.length)))
  | .inr v2=>
   (if(!v2.1)=true then
    some (.inr (.inr (.inl g2.2.length)))
   else
    some (.inl ((i64.wrap (g2.1+1)),v2.2)))
 else
  some (.inr (.inl g2.2)))
def zz4(a90:(aZ->List aO->Option (Nat⊕(Bool×(List aO)))))(a0:aZ)(a1:List aO):Option (Nat⊕(Bool×(List aO))):=
 (if(decide ((a0.bE.length:Int)=0))=true then
  ((if(decide (a0.k=0))=true then zg2 a0.aW.name else some false)).bind λ v1=>
  (if(((!decide (a0.k=0))||(!v1))||(!(zu4 a0.aW.aJ)))=true then
   some (.inr (false,a1))
  else
   (zc1 (zal4 a0 a1) 0).bind (λ|.inl z=>zaB5 a0 a1 z|.inr z=>some z))
 else
  (if((decide (a0.k<1)||decide ((a0.bE.length:Int)<a0.k))||(!decide (a0.aW={aO.zero with})))=true then
   some (.inr (false,a1))
  else
   (zc1 (zY8 a90 a0) (0,a1)).bind (λ|.inl z=>zaU8 z|.inr z=>some z)))
def zA6:Nat->(aZ->List aO->Option (Nat⊕(Bool×(List aO))))
 |0=>λ _ _=>none
 |n+1=>zz4 (zA6 n)
def zq3(a0:aZ)(a1:List aO):Option (Nat⊕(Bool×(List aO))):=zA6 (_root_.SizeOf.sizeOf a0+1) a0 a1
@[reducible,instance] def zev5 (a90:(aZ->List aO->Option (Nat⊕(Bool×(List aO))))) (a0:aZ) (a1:List aO) {T1:Type} (v1:T1):=mkJ (zz4 a90 a0 a1,v1) 0 (@zaB5.eq_1 a0 a1) λ(j1:Unit)=>⟨[(0,.own 1 0 a1.length),(3,.ptr 2 0 0)],[(1,sx a1),(2,bx a0)],3⟩
@[reducible,instance] def zev6 (a0:aZ) (a1:List aO) {T:Type} (x:T):=mkL x (@zal4.eq_1 a0 a1) λ(g1:Int)=>⟨[(0,.own 1 0 a1.length),(3,.ptr 2 0 0),(6,.int .i64 g1)],[(1,sx a1),(2,bx a0)],3⟩
@[reducible,instance] def zev7 (a90:(aZ->List aO->Option (Nat⊕(Bool×(List aO))))) (a0:aZ) (a1:List aO):=mkJ (zz4 a90 a0 a1) 2 (@zaU8.eq_1) λ(j2:(List aO))=>⟨[(0,.own 1 0 j2.length)],[(1,sx j2)],2⟩
@[reducible,instance] def zev8 (a90:(aZ->List aO->Option (Nat⊕(Bool×(List aO))))) (a0:aZ) {T:Type} (x:T):=mkL x (@zY8.eq_1 a90 a0) λ(g2:Int×(List aO))=>⟨[(0,.own 1 0 g2.2.length),(3,.ptr 2 0 0),(7,.int .i64 g2.1)],[(1,sx g2.2),(2,bx a0)],3⟩
abbrev zX1(g:(aZ->List aO->Option (Nat⊕(Bool×(List aO))))):Prop:=∀(a0:aZ) (a1:List aO),OkL (g a0 a1) 279 [.own 0 0 a1.length,.agg (aZ.enc a0)] [(0,⟨false,3,aO.enc aO.zero,a1.map aO.enc⟩)] 1 (λ r=>.tup [.own 1 0 r,.bool false]) (λ r=>[]) 2
abbrev zX2(g:(aZ->List aO->Option (Nat⊕(Bool×(List aO))))):Prop:=∀(a0:aZ) (a1:List aO),OkR (g a0 a1) 279 [.own 0 0 a1.length,.agg (aZ.enc a0)] [(0,⟨false,3,aO.enc aO.zero,a1.map aO.enc⟩)] 1 (λ r=>.tup [.own 1 0 r.2.length,.bool r.1]) (λ r=>[(1,⟨false,3,aO.enc aO.zero,r.2.map aO.enc⟩)]) 2
theorem zbF6(a90:(aZ->List aO->Option (Nat⊕(Bool×(List aO)))))(h0:zX1 a90)(h1:zX2 a90):zX1 (zz4 a90):=λ a0 a1=>⟨λ r h=>by
 refine zU4 Tryz.f279 [(4,1)] [.own 1 0 r,.bool false] λ E hG hN hK=>?_;have hm:Mk (zz4 a90 a0 a1):=trivial;unfold zz4 at h;exact gogo⟩
theorem zbF7(a90:(aZ->List aO->Option (Nat⊕(Bool×(List aO)))))(h0:zX1 a90)(h1:zX2 a90):zX2 (zz4 a90):=λ a0 a1=>⟨λ r h=>by
 refine zU4 Tryz.f279 [(4,1)] [.own 1 0 r.2.length,.bool r.1] λ E hG hN hK=>?_;have hm:Mk (zz4 a90 a0 a1):=trivial;unfold zz4 at h;exact gogo⟩
theorem zba1:∀n,zX1 (zA6 n)/\zX2 (zA6 n):=zbl7 (P:=λ g=>zX1 g/\zX2 g) ⟨λ _ _=>⟨λ _ h=>nomatch h⟩,λ _ _=>⟨λ _ h=>nomatch h⟩⟩ λ n h=>⟨zbF6 _ h.1 h.2,zbF7 _ h.1 h.2⟩
instance zaU9:zX1 zq3:=λ a0 a1=>(zba1 _).1 a0 a1
instance zaV0:zX2 zq3:=λ a0 a1=>(zba1 _).2 a0 a1
attribute [local irreducible] zq3
def zba2(a0:bC)(j1:(List bF)):Option bC:=
 some (⟨a0.aG,j1⟩:bC)
def zar0(a0:bC)(g1:Int×(List bF)):Option ((Int×(List bF))⊕(List bF)):=
 (if(decide (g1.1<(a0.tags.length:Int)))=true then
  gd (0<=g1.1/\g1.1<(a0.tags.length:Int))<|
  (zh4 a0.aG ((a0.tags.getD g1.1.toNat bF.zero).name)).bind λ v1=>
  gd (decide (0<=v1)=true->0<=v1/\v1<(a0.aG.length:Int))<|
  ((if(decide (0<=v1))=true then zr2 (a0.aG.getD v1.toNat aA.zero) ((a0.tags.getD g1.1.toNat bF.zero).aI)else some false)).bind λ v2=>
  (if(decide (0<=v1)&&v2)=true then
   gd (g1.2.length+1<=4294967296)<|
   some (.inl ((i64.wrap (g1.1+1)),(g1.2++[(a0.tags.getD g1.1.toNat bF.zero)])))
  else
   some (.inl ((i64.wrap (g1.1+1)),g1.2)))
 else
  some (.inr g1.2))
def zr6(a0:bC):Option bC:=
 (zc1 (zar0 a0) (0,[])).bind (λ z=>zba2 a0 z)
@[reducible,instance] def zev9 (a0:bC):=mkJ (zr6 a0) 0 (@zba2.eq_1 a0) λ(j1:(List bF))=>⟨[(1,.ptr 0 0 0),(2,.ptr 1 0 0),(3,.own 2 0 j1.length)],[(0,bx a0),(1,bx bC.zero),(2,sx j1)],3⟩
@[reducible,instance] def zew0 (a0:bC) {T:Type} (x:T):=mkL x (@zar0.eq_1 a0) λ(g1:Int×(List bF))=>⟨[(1,.ptr 0 0 0),(2,.ptr 1 0 0),(3,.own 2 0 g1.2.length),(8,la a0.tags),(9,.int .i64 (a0.tags.length:Int)),(10,.int .i64 g1.1)],[(0,bx a0),(1,bx bC.zero),(2,sx g1.2)],3⟩
instance zdy4(a0:bC):OkP (zr6 a0) 62 [ga a0] (λ r=>ga r):=ok1 (zr6.eq_1 a0) Tryz.f62 [(3,1)]
attribute [local irreducible] zr6
attribute [local irreducible] zn2 zv0 zj4 zs0 zo6 zt9 zm2 zs3 zn3 zs4 zr4 zr0 zv4 zq2
def zad5(a0:aZ)(j1:Unit):Option (Nat⊕((List aO)×Bool)):=
 gd (1<=4294967296)<|
 some (.inr ([a0.aW],true))
@[go_sem] def zdy5(a0:aZ)(j1:Unit):St:=⟨[(0,.own 0 0 0),(3,.ptr 1 0 0)],[(0,⟨false,3,aO.enc aO.zero,[].map aO.enc⟩),(1,bx a0)],2⟩
def zar1(a0:aZ)(g1:Int):Option (Int⊕(Unit⊕(Nat⊕((List aO)×Bool)))):=
 (if(decide (g1<0))=true then
  gd (0<=g1/\g1<(0:Int))<|
  (if(decide (([].getD g1.toNat aO.zero)=a0.aW))=true then
   some (.inr (.inr (.inr ([],true))))
  else
   some (.inl (i64.wrap (g1+1))))
 else
  some (.inr (.inl ())))
@[go_sem] def zdy6(a0:aZ)(g1:Int):St:=⟨[(0,.own 0 0 0),(3,.ptr 1 0 0),(6,.int .i64 g1)],[(0,⟨false,3,aO.enc aO.zero,[].map aO.enc⟩),(1,bx a0)],2⟩
def zad6(j2:(List aO)):Option (Nat⊕((List aO)×Bool)):=
 some (.inr (j2,true))
@[go_sem] def zdy7(j2:(List aO)):St:=⟨[(0,.own 0 0 j2.length)],[(0,sx j2)],1⟩
def zT5(a0:aZ)(g2:Int×(List aO)):Option ((Int×(List aO))⊕((List aO)⊕(Nat⊕((List aO)×Bool)))):=
 (if(decide (g2.1<(a0.bE.length:Int)))=true then
  gd (0<=g2.1/\g2.1<(a0.bE.length:Int))<|
  (zq3 (a0.bE.getD g2.1.toNat aZ.zero) g2.2).bind λ v2=>match v2 with
  | .inl v2=>
   some (.inr (.inr (.inl g2.2.length)))
  | .inr v2=>
   (if(!v2.1)=true then
    some (.inr (.inr (.inl g2.2.length)))
   else
    some (.inl ((i64.wrap (g2.1+1)),v2.2)))
 else
  some (.inr (.inl g2.2)))
@[go_sem] def zdy8(a0:aZ)(g2:Int×(List aO)):St:=⟨[(0,.own 0 0 g2.2.length),(3,.ptr 1 0 0),(7,.int .i64 g2.1)],[(0,sx g2.2),(1,bx a0)],2⟩
def zK3(a90:(aZ->Option (Nat⊕((List aO)×Bool))))(a0:aZ):Option (Nat⊕((List aO)×Bool)):=
 (if(decide ((a0.bE.length:Int)=0))=true then
  ((if(decide (a0.k=0))=true then zg2 a0.aW.name else some false)).bind λ v1=>
  (if(((!decide (a0.k=0))||(!v1))||(!(zu4 a0.aW.aJ)))=true then
   some (.inr ([],false))
  else
   (zc1 (zar1 a0) 0).bind (λ|.inl z=>zad5 a0 z|.inr z=>some z))
 else
  (if((decide (a0.k<1)||decide ((a0.bE.length:Int)<a0.k))||(!decide (a0.aW={aO.zero with})))=true then
   some (.inr ([],false))
  else
   (zc1 (zT5 a0) (0,[])).bind (λ|.inl z=>zad6 z|.inr z=>some z)))
def zad7:Nat->(aZ->Option (Nat⊕((List aO)×Bool)))
 |0=>λ _=>none
 |n+1=>zK3 (zad7 n)
def zw3(a0:aZ):Option (Nat⊕((List aO)×Bool)):=zad7 (_root_.SizeOf.sizeOf a0+1) a0
theorem zbL4(a90:(aZ->Option (Nat⊕((List aO)×Bool))))(hrc0:∀(a0:aZ) (r:Nat),a90 a0=some (.inl r)->MFn C 279 [.full ([].map aO.enc),ga a0] [] 0 (.tup [.own 0 0 r,.bool false]) [] 1)(hrc1:∀(a0:aZ) (r:(List aO)×Bool),a90 a0=some (.inr r)->MFn C 279 [.full ([].map aO.enc),ga a0] [] 0 (.tup [la r.1,.bool r.2]) [] 0)(a0:aZ)(r:Nat)(h:zK3 a90 a0=some (.inl r)):MFn C 279 [.full ([].map aO.enc),ga a0] [] 0 (.tup [.own 0 0 r,.bool false]) [] 1:=by
 refine zU4 Tryz.f279 [] [.own 0 0 r,.bool false] λ E hG hN hK=>?_;unfold zK3 at h;refine g_gh (.own0 0 3 (aO.enc aO.zero)) ?_;refine za0 (za1 hG ?_);refine za0 (za0 (za1 hG ?_));refine zh9 rfl hG h (λ _ h=>?_) (λ _ h=>?_)
 · refine za0 (za0 (za1 hG ?_))
   obtain⟨v1,hv1,h⟩:=zd0 h;refine zr3 (λ hg=>(zaQ3 a0.aW.name).ok _ (zbw6 hg hv1)) ?_;refine zr3 (λ hg=>(zbi0 a0.aW.aJ).ok) ?_;refine zh9 rfl hG h (λ _ h=>?_) (λ _ h=>?_)
   · refine za0 (za1 hG ?_)
     refine g_gh (.fz [0]) ?_;refine zm8 ?_;exact nomatch h
   refine zh7 ?_;refine za0 (za0 (za1 hG ?_));refine zB7 (zdy5 a0) (λ v=>zad5 a0 v=some (.inl r)) ?_ ?_
   · intro j1 h
     unfold zad5 at h;refine g_st ?_;refine za0 ?_;obtain⟨hb1,h⟩:=zg4 h;refine za1 hG ?_;refine g_gh (.fz [2]) ?_;refine zm8 ?_;exact nomatch h
   refine zat4 (zdy6 a0) hK [(0,0),(1,1)] h (λ x_l1 h g1 y_l1 h_l1 hx_l1=>?_);unfold zar1 at h_l1;refine g_st ?_;refine za0 (za0 (za1 hG ?_));refine zh9 rfl hG h_l1 (λ _ h_l1=>?_) (λ _ h_l1=>?_)
   · refine zh7 ?_
     refine za0 (zy9 (za0 ?_));obtain⟨hb2,h_l1⟩:=zg4 h_l1;refine zby9 zK6 hG ?_;refine zh9 rfl hG h_l1 (λ _ h_l1=>?_) (λ _ h_l1=>?_)
     · refine za0 (za1 hG ?_)
       refine g_gh (.fz [0]) ?_;refine zm8 ?_;cases h_l1;cases hx_l1 _ rfl;exact nomatch h
     refine zh7 ?_;refine za1 hG ?_;exact zU3 hK [(0,0),(1,1)] h_l1
   refine zE5 ?_;cases h_l1;cases hx_l1 _ rfl;exact zv9 hK [(0,0),(1,1)] () (by exact h)
 refine zh7 ?_;refine za0 (za0 (za1 hG ?_));refine zh9 rfl hG h (λ _ h=>?_) (λ _ h=>?_)
 · refine za0 (za1 hG ?_)
   refine g_gh (.fz [0]) ?_;refine zm8 ?_;exact nomatch h
 refine zh7 ?_;refine za0 (za0 (za1 hG ?_));refine zB7 zdy7 (λ v=>zad6 v=some (.inl r)) ?_ ?_
 · intro j2 h
   unfold zad6 at h;refine g_st ?_;refine za0 (za1 hG ?_);refine g_gh (.fz [0]) ?_;refine zm8 ?_;exact nomatch h
 refine zat4 (zdy8 a0) hK [(0,0),(1,1)] h (λ x_l2 h g2 y_l2 h_l2 hx_l2=>?_);unfold zT5 at h_l2;refine g_st ?_;refine za0 (za0 (za1 hG ?_));refine zh9 rfl hG h_l2 (λ _ h_l2=>?_) (λ _ h_l2=>?_)
 · refine zh7 ?_
   refine za0 (zy9 (za0 ?_));obtain⟨hb3,h_l2⟩:=zg4 h_l2;refine za1 hG ?_;obtain⟨v2,hv2,h_l2⟩:=zd0 h_l2;rcases v2 with v2|v2
   · dsimp only at h_l2
     refine zs8 [(0,0)] [(1,2)] [0,1] ((zaU9 (a0.bE.getD g2.1.toNat aZ.zero) g2.2).ok _ hv2) rfl rfl ?_;refine za0 (za0 (za1 hG ?_));refine zac1 rfl hG ?_;refine za0 (za1 hG ?_);refine zm8 ?_;cases h_l2;cases hx_l2 _ rfl;exact zx8 [(0,0)] (zcy0 h)
   dsimp only at h_l2;refine zs8 [(0,0)] [(1,2)] [0,1] ((zaV0 (a0.bE.getD g2.1.toNat aZ.zero) g2.2).ok _ hv2) rfl rfl ?_;refine za0 (za0 (za1 hG ?_));refine zh9 rfl hG h_l2 (λ _ h_l2=>?_) (λ _ h_l2=>?_)
   · refine za0 (za1 hG ?_)
     refine zm8 ?_;cases h_l2;cases hx_l2 _ rfl;exact zx8 [(0,0)] (zcy0 h)
   refine zh7 ?_;refine za1 hG ?_;refine za1 hG ?_;exact zU3 hK [(0,2),(1,1)] h_l2
 refine zE5 ?_;cases h_l2;cases hx_l2 _ rfl;exact zv9 hK [(0,0)] g2.2 (by exact h)
theorem zbL5(a90:(aZ->Option (Nat⊕((List aO)×Bool))))(hrc0:∀(a0:aZ) (r:Nat),a90 a0=some (.inl r)->MFn C 279 [.full ([].map aO.enc),ga a0] [] 0 (.tup [.own 0 0 r,.bool false]) [] 1)(hrc1:∀(a0:aZ) (r:(List aO)×Bool),a90 a0=some (.inr r)->MFn C 279 [.full ([].map aO.enc),ga a0] [] 0 (.tup [la r.1,.bool r.2]) [] 0)(a0:aZ)(r:(List aO)×Bool)(h:zK3 a90 a0=some (.inr r)):MFn C 279 [.full ([].map aO.enc),ga a0] [] 0 (.tup [la r.1,.bool r.2]) [] 0:=by
 refine zU4 Tryz.f279 [] [la r.1,.bool r.2] λ E hG hN hK=>?_;unfold zK3 at h;refine g_gh (.own0 0 3 (aO.enc aO.zero)) ?_;refine za0 (za1 hG ?_);refine za0 (za0 (za1 hG ?_));refine zh9 rfl hG h (λ _ h=>?_) (λ _ h=>?_)
 · refine za0 (za0 (za1 hG ?_))
   obtain⟨v1,hv1,h⟩:=zd0 h;refine zr3 (λ hg=>(zaQ3 a0.aW.name).ok _ (zbw6 hg hv1)) ?_;refine zr3 (λ hg=>(zbi0 a0.aW.aJ).ok) ?_;refine zh9 rfl hG h (λ _ h=>?_) (λ _ h=>?_)
   · refine za0 (za1 hG ?_)
     refine g_gh (.fz [0]) ?_;refine zm8 ?_;exact zx8 [] (zbs1 h)
   refine zh7 ?_;refine za0 (za0 (za1 hG ?_));refine zB7 (zdy5 a0) (λ v=>zad5 a0 v=some (.inr r)) ?_ ?_
   · intro j1 h
     unfold zad5 at h;refine g_st ?_;refine za0 ?_;obtain⟨hb1,h⟩:=zg4 h;refine za1 hG ?_;refine g_gh (.fz [2]) ?_;refine zm8 ?_;exact zx8 [] (zbs1 h)
   refine zat4 (zdy6 a0) hK [(0,0),(1,1)] h (λ x_l1 h g1 y_l1 h_l1 hx_l1=>?_);unfold zar1 at h_l1;refine g_st ?_;refine za0 (za0 (za1 hG ?_));refine zh9 rfl hG h_l1 (λ _ h_l1=>?_) (λ _ h_l1=>?_)
   · refine zh7 ?_
     refine za0 (zy9 (za0 ?_));obtain⟨hb2,h_l1⟩:=zg4 h_l1;refine zby9 zK6 hG ?_;refine zh9 rfl hG h_l1 (λ _ h_l1=>?_) (λ _ h_l1=>?_)
     · refine za0 (za1 hG ?_)
       refine g_gh (.fz [0]) ?_;refine zm8 ?_;cases h_l1;cases hx_l1 _ rfl;exact zx8 [] (zbs1 h)
     refine zh7 ?_;refine za1 hG ?_;exact zU3 hK [(0,0),(1,1)] h_l1
   refine zE5 ?_;cases h_l1;cases hx_l1 _ rfl;exact zv9 hK [(0,0),(1,1)] () (by exact h)
 refine zh7 ?_;refine za0 (za0 (za1 hG ?_));refine zh9 rfl hG h (λ _ h=>?_) (λ _ h=>?_)
 · refine za0 (za1 hG ?_)
   refine g_gh (.fz [0]) ?_;refine zm8 ?_;exact zx8 [] (zbs1 h)
 refine zh7 ?_;refine za0 (za0 (za1 hG ?_));refine zB7 zdy7 (λ v=>zad6 v=some (.inr r)) ?_ ?_
 · intro j2 h
   unfold zad6 at h;refine g_st ?_;refine za0 (za1 hG ?_);refine g_gh (.fz [0]) ?_;refine zm8 ?_;exact zx8 [] (zbs1 h)
 refine zat4 (zdy8 a0) hK [(0,0),(1,1)] h (λ x_l2 h g2 y_l2 h_l2 hx_l2=>?_);unfold zT5 at h_l2;refine g_st ?_;refine za0 (za0 (za1 hG ?_));refine zh9 rfl hG h_l2 (λ _ h_l2=>?_) (λ _ h_l2=>?_)
 · refine zh7 ?_
   refine za0 (zy9 (za0 ?_));obtain⟨hb3,h_l2⟩:=zg4 h_l2;refine za1 hG ?_;obtain⟨v2,hv2,h_l2⟩:=zd0 h_l2;rcases v2 with v2|v2
   · dsimp only at h_l2
     refine zs8 [(0,0)] [(1,2)] [0,1] ((zaU9 (a0.bE.getD g2.1.toNat aZ.zero) g2.2).ok _ hv2) rfl rfl ?_;refine za0 (za0 (za1 hG ?_));refine zac1 rfl hG ?_;refine za0 (za1 hG ?_);refine zm8 ?_;cases h_l2;cases hx_l2 _ rfl;exact nomatch h
   dsimp only at h_l2;refine zs8 [(0,0)] [(1,2)] [0,1] ((zaV0 (a0.bE.getD g2.1.toNat aZ.zero) g2.2).ok _ hv2) rfl rfl ?_;refine za0 (za0 (za1 hG ?_));refine zh9 rfl hG h_l2 (λ _ h_l2=>?_) (λ _ h_l2=>?_)
   · refine za0 (za1 hG ?_)
     refine zm8 ?_;cases h_l2;cases hx_l2 _ rfl;exact nomatch h
   refine zh7 ?_;refine za1 hG ?_;refine za1 hG ?_;exact zU3 hK [(0,2),(1,1)] h_l2
 refine zE5 ?_;cases h_l2;cases hx_l2 _ rfl;exact zv9 hK [(0,0)] g2.2 (by exact h)
theorem zX3:∀(n:Nat),(∀(a0:aZ) (r:Nat),zad7 n a0=some (.inl r)->MFn C 279 [.full ([].map aO.enc),ga a0] [] 0 (.tup [.own 0 0 r,.bool false]) [] 1)/\(∀(a0:aZ) (r:(List aO)×Bool),zad7 n a0=some (.inr r)->MFn C 279 [.full ([].map aO.enc),ga a0] [] 0 (.tup [la r.1,.bool r.2]) [] 0)
 |0=>⟨(λ _ _ h=>nomatch h),(λ _ _ h=>nomatch h)⟩
 |n+1=>⟨zbL4 (zad7 n) (zX3 n).1 (zX3 n).2,zbL5 (zad7 n) (zX3 n).1 (zX3 n).2⟩
theorem zbL6(a0:aZ)(r:Nat)(h:zw3 a0=some (.inl r)):MFn C 279 [.full ([].map aO.enc),ga a0] [] 0 (.tup [.own 0 0 r,.bool false]) [] 1:=(zX3 _).1 a0 r h
theorem zbL7(a0:aZ)(r:(List aO)×Bool)(h:zw3 a0=some (.inr r)):MFn C 279 [.full ([].map aO.enc),ga a0] [] 0 (.tup [la r.1,.bool r.2]) [] 0:=(zX3 _).2 a0 r h
attribute [local irreducible] zw3
def zaQ8(j1:(List aF)):Option (List aF):=
 (zg7 j1).bind λ v1=>
 some v1
def zaQ9(a0:List aA)(g1:Int×(List aF)):Option ((Int×(List aF))⊕(List aF)):=
 (if(decide (g1.1<(a0.length:Int)))=true then
  gd (0<=g1.1/\g1.1<(a0.length:Int))<|
  (zr4 (a0.getD g1.1.toNat aA.zero)).bind λ v2=>
  gd (g1.2.length+v2.length<=4294967296)<|
  some (.inl ((i64.wrap (g1.1+1)),(g1.2++v2)))
 else
  some (.inr g1.2))
def zu6(a0:List aA):Option (List aF):=
 (zc1 (zaQ9 a0) (0,[])).bind (λ z=>zaQ8 z)
@[reducible,instance] def zew1 a0:=mkJ (zu6 a0) 0 (@zaQ8.eq_1) λ(j1:(List aF))=>⟨[(3,.own 0 0 j1.length)],[(0,sx j1)],1⟩
@[reducible,instance] def zew2 (a0:List aA) {T:Type} (x:T):=mkL x (@zaQ9.eq_1 a0) λ(g1:Int×(List aF))=>⟨[(0,la a0),(3,.own 0 0 g1.2.length),(4,.int .i64 g1.1)],[(0,sx g1.2)],1⟩
instance zdc6(a0:List aA):OkM (zu6 a0) 28 [la a0] [] 0 (λ r=>.own 0 0 r.length) (λ r=>[(0,sx r)]) 1:=okm (zu6.eq_1 a0) (λ r=>[.own 0 0 r.length]) Tryz.f28 [(2,1),(3,1),(19,1)]
attribute [local irreducible] zu6
def zz3(a0:aD)(a1 a2:aC):Option aC:=
 (if((!(zv3 a0 a1))||(!(zv3 a0 a2)))=true then
  some ({aC.zero with})
 else
  (if(zq1 a0 a1 a2)=true then
   some a1
  else
   (if(zq1 a0 a2 a1)=true then
    some a2
   else
    (zt3 a1.mode a2.mode).bind λ v1=>
    some ({aC.zero with mode:=v1}))))
instance zco0(a0:aD)(a1 a2:aC):OkP (zz3 a0 a1 a2) 167 [ga a0,ga a1,ga a2] (λ r=>ga r):=ok1 (zz3.eq_1 a0 a1 a2) Tryz.f167 []
attribute [local irreducible] zz3
def zo2(a0:aD)(a1 a2:aC):Option Bool:=
 (if((!(zc0 a0 a1))||(!(zc0 a0 a2)))=true then
  some false
 else
  (if(zk5 a1||zk5 a2)=true then
   some (zk5 a2)
  else
   (if(decide (a0.kind=1))=true then
    (zl4 a1.mode a2.mode).bind λ v1=>
    some v1
   else
    some (decide (a2.aV<=a1.aV)))))
instance zba3(a0:aD)(a1 a2:aC):OkP (zo2 a0 a1 a2) 203 [ga a0,ga a1,ga a2] (λ r=>.bool r):=ok1 (zo2.eq_1 a0 a1 a2) Tryz.f203 []
attribute [local irreducible] zo2
theorem zan4:SlLaysF0.n6 C.P ⟨λ|6=>134|15=>183|14=>182|28=>242|29=>243|20=>234|21=>235|22=>236|23=>237|24=>238|25=>239|26=>240|27=>241|46=>268|47=>269|48=>270|49=>271|50=>272|57=>281|n=>n,λ|22=>67|24=>35|25=>134|39=>213|53=>238|55=>181|46=>232|45=>231|50=>96|66=>253|70=>177|76=>265|77=>266|n=>n,λ n=>n⟩ where
 mixed:=zK6
 f6:=⟨Tryz.f134.name,by decide,Tryz.func134.trans (dC some (by kernel_rfl))⟩
 f14:=⟨Tryz.f182.name,by decide,Tryz.func182.trans (dC some (by kernel_rfl))⟩
 f15:=Tryz.func183.trans (dC some (by kernel_rfl))
 f20:=⟨Tryz.f234.name,by decide,Tryz.func234.trans (dC some (by kernel_rfl))⟩
 f21:=⟨Tryz.f235.name,by decide,Tryz.func235.trans (dC some (by kernel_rfl))⟩
 f22:=⟨Tryz.f236.name,by decide,Tryz.func236.trans (dC some (by kernel_rfl))⟩
 f23:=⟨Tryz.f237.name,by decide,Tryz.func237.trans (dC some (by kernel_rfl))⟩
 f24:=⟨Tryz.f238.name,by decide,Tryz.func238.trans (dC some (by kernel_rfl))⟩
 f25:=⟨Tryz.f239.name,by decide,Tryz.func239.trans (dC some (by kernel_rfl))⟩
 f26:=⟨Tryz.f240.name,by decide,Tryz.func240.trans (dC some (by kernel_rfl))⟩
 f27:=⟨Tryz.f241.name,by decide,Tryz.func241.trans (dC some (by kernel_rfl))⟩
 f28:=Tryz.func242.trans (dC some (by kernel_rfl))
 f29:=Tryz.func243.trans (dC some (by kernel_rfl))
 f46:=⟨Tryz.f268.name,by decide,Tryz.func268.trans (dC some (by kernel_rfl))⟩
 f47:=Tryz.func269.trans (dC some (by kernel_rfl))
 f48:=Tryz.func270.trans (dC some (by kernel_rfl))
 f49:=⟨Tryz.f271.name,by decide,Tryz.func271.trans (dC some (by kernel_rfl))⟩
 f50:=⟨Tryz.f272.name,by decide,Tryz.func272.trans (dC some (by kernel_rfl))⟩
 f57:=⟨Tryz.f281.name,by decide,Tryz.func281.trans (dC some (by kernel_rfl))⟩
 t0:=Tryz.underlying0
 a0:=Tryz.isAgg0
 z0:=Tryz.sizeOf0
 v0:=Tryz.zeroValue0
 t3:=Tryz.underlying3
 a3:=Tryz.isAgg3
 z3:=Tryz.sizeOf3
 v3:=Tryz.zeroValue3
 t4:=Tryz.underlying4
 a4:=Tryz.isAgg4
 z4:=Tryz.sizeOf4
 v4:=Tryz.zeroValue4
 t5:=Tryz.underlying5
 a5:=Tryz.isAgg5
 z5:=Tryz.sizeOf5
 v5:=Tryz.zeroValue5
 t9:=Tryz.underlying9
 a9:=Tryz.isAgg9
 z9:=Tryz.sizeOf9
 v9:=Tryz.zeroValue9
 t22:=Tryz.underlying67
 a22:=Tryz.isAgg67
 z22:=Tryz.sizeOf67
 v22:=Tryz.zeroValue67
 t25:=Tryz.underlying134
 a25:=Tryz.isAgg134
 z25:=Tryz.sizeOf134
 v25:=Tryz.zeroValue134
 t39:=Tryz.underlying213
 a39:=Tryz.isAgg213
 z39:=Tryz.sizeOf213
 v39:=Tryz.zeroValue213
 t45:=Tryz.underlying231
 a45:=Tryz.isAgg231
 z45:=Tryz.sizeOf231
 v45:=Tryz.zeroValue231
 t46:=Tryz.underlying232
 a46:=Tryz.isAgg232
 z46:=Tryz.sizeOf232
 v46:=Tryz.zeroValue232
 t50:=Tryz.underlying96
 a50:=Tryz.isAgg96
 z50:=Tryz.sizeOf96
 v50:=Tryz.zeroValue96
 t53:=Tryz.underlying238
 a53:=Tryz.isAgg238
 z53:=Tryz.sizeOf238
 v53:=Tryz.zeroValue238
 t55:=Tryz.underlying181
 a55:=Tryz.isAgg181
 z55:=Tryz.sizeOf181
 v55:=Tryz.zeroValue181
 t66:=Tryz.underlying253
 a66:=Tryz.isAgg253
 z66:=Tryz.sizeOf253
 v66:=Tryz.zeroValue253
 t70:=Tryz.underlying177
 a70:=Tryz.isAgg177
 z70:=Tryz.sizeOf177
 v70:=Tryz.zeroValue177
 t76:=Tryz.underlying265
 a76:=Tryz.isAgg265
 z76:=Tryz.sizeOf265
 v76:=Tryz.zeroValue265
 t77:=Tryz.underlying266
 a77:=Tryz.isAgg266
 z77:=Tryz.sizeOf266
 v77:=Tryz.zeroValue266
def zb5(a0:List aF):Option (List aF):=gd (a0.length<=4294967296) (some (a0.mergeSort λ x y=>!decide (y.site<x.site\/y.site=x.site/\(y.inc<x.inc\/y.inc=x.inc/\y.num<x.num))))
theorem zam3(a0 r:List aF)(h:zb5 a0=some r):r.length=a0.length:=by obtain⟨_,h⟩:=zg4 h;obtain rfl:=dP h;exact List.length_mergeSort _
theorem zam4(a0 r:List aF)(h:zb5 a0=some r):MFn C 134 [.own 0 0 a0.length,.clo 82 []] [(0,sx a0)] 1 (.tup []) [(0,sx r)] 1:=by
 obtain⟨hl,h⟩:=zg4 h;obtain rfl:=dP h;haveI:Inhabited aF:=⟨aF.zero⟩;have e:(λ x y:aF=>!decide (y.site<x.site\/y.site=x.site/\(y.inc<x.inc\/y.inc=x.inc/\y.num<x.num)))=λ x y=>!(ltOf cmpS) y x:=by funext x y;rw[zaZ8];exact dC not (fZ.2 kG)
 rw[e];exact zdx6 zan4 aF.enc 3 aF.len (by decide) (λ x=>(aF.laws x).2.1) Tryz.isAgg35 Tryz.sizeOf35 cmpS zdx7 82 (λ x y=>(zaK4 x y).ok _ (zdM8 x y)) (enters_of Tryz.func82 (by kernel_rfl) rfl) rfl _ a0 hl (λ x _ y _=>zcT8 x y)
attribute [local irreducible] zb5
def zad8(j3:(List Int)):Option (List Int):=
 some j3
def zH5(a1:aA)(g1:(List Int)×Int):Option (((List Int)×Int)⊕(List Int)):=
 (if(decide (g1.2<(a1.aU.length:Int)))=true then
  gd (0<=g1.2/\g1.2<(a1.aU.length:Int))<|
  (zj2 g1.1 ((a1.aU.getD g1.2.toNat aM.zero).aI)).bind λ v5=>
  (zb6 v5 [((a1.aU.getD g1.2.toNat aM.zero).aJ).mode,((a1.aU.getD g1.2.toNat aM.zero).aJ).aV,(a1.aU.getD g1.2.toNat aM.zero).aX,(a1.aU.getD g1.2.toNat aM.zero).bG]).bind λ v6=>
  some (.inl (v6,i64.wrap (g1.2+1)))
 else
  some (.inr g1.1))
def zQ4(a1:aA)(j2:(List Int)):Option (List Int):=
 (zb6 j2 [(a1.aU.length:Int)]).bind λ v4=>
 (zc1 (zH5 a1) (v4,0)).bind (λ z=>zad8 z)
def zH6(a1:aA)(g2:(List Int)×Int):Option (((List Int)×Int)⊕(List Int)):=
 (if(decide (g2.2<(a1.aH.length:Int)))=true then
  gd (0<=g2.2/\g2.2<(a1.aH.length:Int))<|
  (zj2 g2.1 ((a1.aH.getD g2.2.toNat aM.zero).aI)).bind λ v7=>
  (zb6 v7 [((a1.aH.getD g2.2.toNat aM.zero).aJ).mode,((a1.aH.getD g2.2.toNat aM.zero).aJ).aV]).bind λ v8=>
  some (.inl (v8,i64.wrap (g2.2+1)))
 else
  some (.inr g2.1))
def zQ5(a1:aA)(j1:(List Int)):Option (List Int):=
 (zb6 j1 [(a1.aH.length:Int)]).bind λ v3=>
 (zc1 (zH6 a1) (v3,0)).bind (λ z=>zQ4 a1 z)
def zH7(a1:aA)(g3:(List Int)×Int):Option (((List Int)×Int)⊕(List Int)):=
 (if(decide (g3.2<(a1.aL.length:Int)))=true then
  gd (0<=g3.2/\g3.2<(a1.aL.length:Int))<|
  (zj2 g3.1 ((a1.aL.getD g3.2.toNat aT.zero).aI)).bind λ v9=>
  (zb6 v9 [((a1.aL.getD g3.2.toNat aT.zero).aJ).mode,((a1.aL.getD g3.2.toNat aT.zero).aJ).aV]).bind λ v10=>
  some (.inl (v10,i64.wrap (g3.2+1)))
 else
  some (.inr g3.1))
def zi8(a0:List Int)(a1:aA):Option (List Int):=
 (zj1 a0 a1.aB.name).bind λ v1=>
 (zb6 v1 [a1.aB.kind,a1.aB.aV,a1.aB.home,a1.gen,(a1.aL.length:Int)]).bind λ v2=>
 (zc1 (zH7 a1) (v2,0)).bind (λ z=>zQ5 a1 z)
@[reducible,instance] def zew3 a1 j2 {T1:Type} (v4:T1):=mkJ (zQ4 a1 j2,v4) 4 (@zad8.eq_1) λ(j3:(List Int))=>⟨[(0,.sl (j3.map (eI .u8)))],[],0⟩
@[reducible,instance] def zew4 (a1:aA) {T:Type} (x:T):=mkL x (@zH5.eq_1 a1) λ(g1:(List Int)×Int)=>⟨[(0,.sl (g1.1.map (eI .u8))),(84,la a1.aU),(85,.int .i64 (a1.aU.length:Int)),(86,.int .i64 g1.2)],[],0⟩
@[reducible,instance] def zew5 (a1:aA) j1 {T1:Type} (v3:T1):=mkJ (zQ5 a1 j1,v3) 2 (@zQ4.eq_1 a1) λ(j2:(List Int))=>⟨[(0,.sl (j2.map (eI .u8))),(3,.ptr 0 0 0)],[(0,bx a1)],1⟩
@[reducible,instance] def zew6 (a1:aA) {T:Type} (x:T):=mkL x (@zH6.eq_1 a1) λ(g2:(List Int)×Int)=>⟨[(0,.sl (g2.1.map (eI .u8))),(3,.ptr 0 0 0),(58,la a1.aH),(59,.int .i64 (a1.aH.length:Int)),(60,.int .i64 g2.2)],[(0,bx a1)],1⟩
@[reducible,instance] def zew7 a0 (a1:aA) {T1:Type} (v1:T1) {T2:Type} (v2:T2):=mkJ ((zi8 a0 a1,v1),v2) 0 (@zQ5.eq_1 a1) λ(j1:(List Int))=>⟨[(0,.sl (j1.map (eI .u8))),(3,.ptr 0 0 0)],[(0,bx a1)],1⟩
@[reducible,instance] def zew8 (a1:aA) {T:Type} (x:T):=mkL x (@zH7.eq_1 a1) λ(g3:(List Int)×Int)=>⟨[(0,.sl (g3.1.map (eI .u8))),(3,.ptr 0 0 0),(32,la a1.aL),(33,.int .i64 (a1.aL.length:Int)),(34,.int .i64 g3.2)],[(0,bx a1)],1⟩
instance zcD0(a0:List Int)(a1:aA):OkP (zi8 a0 a1) 252 [.sl (a0.map (eI .u8)),ga a1] (λ r=>.sl (r.map (eI .u8))):=ok1 (zi8.eq_1 a0 a1) Tryz.f252 []
attribute [local irreducible] zi8
def zaV1(j1:Unit):Option (aC×Bool):=
 some ({aC.zero with},false)
def zY9(a1:aF)(v1:(List aM))(g1:Int):Option (Int⊕(Unit⊕(aC×Bool))):=
 (if(decide (g1<(v1.length:Int)))=true then
  gd (0<=g1/\g1<(v1.length:Int))<|
  (if(decide ((v1.getD g1.toNat aM.zero).aI=a1))=true then
   some (.inr (.inr ((v1.getD g1.toNat aM.zero).aJ,true)))
  else
   some (.inl (i64.wrap (g1+1))))
 else
  some (.inr (.inl ())))
def zo4(a0:aA)(a1:aF):Option (aC×Bool):=
 (zo9 a0).bind λ v1=>
 (zc1 (zY9 a1 v1) 0).bind (λ|.inl z=>zaV1 z|.inr z=>some z)
@[reducible,instance] def zew9 a0 a1 {T1:Type} (v1:T1):=mkJ (zo4 a0 a1,v1) 0 (@zaV1.eq_1) λ(j1:Unit)=>⟨[(4,.ptr 0 0 0)],[(0,bx aC.zero)],1⟩
@[reducible,instance] def zex0 (a1:aF) (v1:(List aM)) {T:Type} (x:T):=mkL x (@zY9.eq_1 a1 v1) λ(g1:Int)=>⟨[(3,.ptr 0 0 0),(4,.ptr 1 0 0),(9,la v1),(10,.int .i64 (v1.length:Int)),(11,.int .i64 g1)],[(0,bx a1),(1,bx aC.zero)],2⟩
instance zaM1(a0:aA)(a1:aF):OkP (zo4 a0 a1) 94 [ga a0,ga a1] (λ r=>.tup [ga r.1,.bool r.2]):=ok1 (zo4.eq_1 a0 a1) Tryz.f94 []
attribute [local irreducible] zo4
def zn9(a0:aA)(a1:aF)(a2:aC):Option (aA×aF×aC):=
 (zm4 a0.aL a1 a2).bind λ v1=>
 some ({a0 with aL:=v1},a1,a2)
instance zbv1(a0:aA)(a1:aF)(a2:aC):OkM (zn9 a0 a1 a2) 214 [.ptr 0 0 0,.ptr 1 0 0,.ptr 2 0 0] [(0,bx a0),(1,bx a1),(2,bx a2)] 3 (λ r=>.tup []) (λ r=>[(0,bx r.1),(1,bx r.2.1),(2,bx r.2.2)]) 3:=okm (zn9.eq_1 a0 a1 a2) (λ r=>[]) Tryz.f214 []
attribute [local irreducible] zn9
def zg9(a0:aD):Option Bool:=
 (zg2 a0.name).bind λ v1=>
 some (((v1&&zJ1 a0)&&decide (0<=a0.home))&&decide (a0.home<4))
instance zcy5(a0:aD):OkP (zg9 a0) 77 [ga a0] (λ r=>.bool r):=ok1 (zg9.eq_1 a0) Tryz.f77 []
attribute [local irreducible] zg9
def zba4(j1:Unit):Option Bool:=
 some true
def zar2(a0:bB)(g1:Int):Option (Int⊕(Unit⊕Bool)):=
 (if(decide (g1<(a0.lower.length:Int)))=true then
  gd (0<=g1/\g1<(a0.lower.length:Int))<|
  (zg2 ((a0.lower.getD g1.toNat aO.zero).name)).bind λ v1=>
  gd (((!((!v1)||((!(zh5 ((a0.lower.getD g1.toNat aO.zero).aJ)))&&(!(zu4 ((a0.lower.getD g1.toNat aO.zero).aJ))))))&&decide (0<g1))=true->0<=i64.wrap (g1-1)/\i64.wrap (g1-1)<(a0.lower.length:Int))<|
  (if(((!v1)||((!(zh5 ((a0.lower.getD g1.toNat aO.zero).aJ)))&&(!(zu4 ((a0.lower.getD g1.toNat aO.zero).aJ)))))||(decide (0<g1)&&(Op.bytesLess ((a0.lower.getD g1.toNat aO.zero).name).toList ((a0.lower.getD ((i64.wrap (g1-1)).toNat) aO.zero).name).toList||((a0.lower.getD g1.toNat aO.zero).name).toList==((a0.lower.getD ((i64.wrap (g1-1)).toNat) aO.zero).name).toList)))=true then
   some (.inr (.inr false))
  else
   some (.inl (i64.wrap (g1+1))))
 else
  some (.inr (.inl ())))
def zr7(a0:bB):Option Bool:=
 (if(((((!(zl9 a0.aI))||((!decide (a0.label=(-1)))&&(decide (a0.label<1)||decide (99<a0.label))))||decide (a0.cost<1))||decide (1073741824<a0.cost))||decide (8<(a0.lower.length:Int)))=true then
  some false
 else
  (zc1 (zar2 a0) 0).bind (λ|.inl z=>zba4 z|.inr z=>some z))
@[reducible,instance] def zex1 a0:=mkJ (zr7 a0) 0 (@zba4.eq_1) λ(j1:Unit)=>⟨[],[],0⟩
@[reducible,instance] def zex2 (a0:bB) {T:Type} (x:T):=mkL x (@zar2.eq_1 a0) λ(g1:Int)=>⟨[(1,.ptr 0 0 0),(3,.int .i64 g1)],[(0,bx a0)],1⟩
instance zdy9(a0:bB):OkP (zr7 a0) 161 [ga a0] (λ r=>.bool r):=ok1 (zr7.eq_1 a0) Tryz.f161 []
attribute [local irreducible] zr7
def zbi5(j1:Unit):Option Bool:=
 some true
def zbi6(a0 a1:bC)(g1:Int):Option (Int⊕(Unit⊕Bool)):=
 (if(decide (g1<(a0.tags.length:Int)))=true then
  gd (0<=g1/\g1<(a0.tags.length:Int))<|
  gd (0<=g1/\g1<(a1.tags.length:Int))<|
  (if(!decide (a0.tags.getD g1.toNat bF.zero=a1.tags.getD g1.toNat bF.zero))=true then
   some (.inr (.inr false))
  else
   some (.inl (i64.wrap (g1+1))))
 else
  some (.inr (.inl ())))
def zs6(a0 a1:bC):Option Bool:=
 (zq0 a0.aG a1.aG).bind λ v1=>
 (if((!v1)||(!decide ((a0.tags.length:Int)=(a1.tags.length:Int))))=true then
  some false
 else
  (zc1 (zbi6 a0 a1) 0).bind (λ|.inl z=>zbi5 z|.inr z=>some z))
@[reducible,instance] def zex3 a0 a1 {T1:Type} (v1:T1):=mkJ (zs6 a0 a1,v1) 0 (@zbi5.eq_1) λ(j1:Unit)=>⟨[],[],0⟩
@[reducible,instance] def zex4 (a0 a1:bC) {T:Type} (x:T):=mkL x (@zbi6.eq_1 a0 a1) λ(g1:Int)=>⟨[(2,.ptr 0 0 0),(3,.ptr 1 0 0),(5,.int .i64 g1)],[(0,bx a0),(1,bx a1)],2⟩
instance zdI2(a0 a1:bC):OkP (zs6 a0 a1) 12 [ga a0,ga a1] (λ r=>.bool r):=ok1 (zs6.eq_1 a0 a1) Tryz.f12 []
attribute [local irreducible] zs6
end
end Ab
end Go.Proofs.YtdlfhmkmnjbihaaGreatDoor
