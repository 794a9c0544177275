import Derived.Test.YtamndckemppjdaaGreatDoorHm14
import Derived.Test.YtamndckemppjdaaGreatDoorHm19
namespace Go.Proofs.YtamndckemppjdaaGreatDoor
namespace Ab
open IntKind (i64 u64 u8 u32)
set_option linter.unusedSimpArgs false
set_option linter.defProp false
set_option linter.unusedVariables false
set_option maxRecDepth 100000
set_option maxHeartbeats 4000000
noncomputable section
attribute [local irreducible] zn9 zf4 zb7 ze8 zl6 zk8 zd0 zd6 zc8 zf7 zn2 zb8 zq7 zh1 zc1 zk5 zm2 zb4 zg1 za4 zk1 ze6 zb5 zd3 ze9 zd5 zm0 zn3 zi7 zg7 zg5 zh7 zg2 zd9 zh5 zi8 zk9 zb2 zg4 za6 zi9 za9 zb9 zf1 zj6 zf2 zi3 za8 za7 za5 zh2 zj2 zf3 zj8 zg3 zd7 zm3 zc5 zh9 zi0 zh4 zj1 zk2 zn8 zm1 zb6 zj0 zd8 zi5 zq5 zl0 zm9 zf0 zc3 zf5 zb0 zq0 zg9 zl7 zc0 zg6 zb1 zf8 zl8 zi1 zg0 zo7 zo1 zm5 zl3 zk4 zq6 zj3 zj5 zt8 zf9 zh8 zp0 zc7 ze2 ze4 ze3 zb3 zn4 zj9 zc6 zl9 zj4 zl1 zm8 zs3 zm4 ze1 zi4 zo8 zp7 zs6 zo0 zk6 zn6 zd4 f_formula_holds zc2 ze0
def zat1(a0:aG)(j1:(List aJ)):Option Bool:=
 (zl1 a0 j1).bind λ v1=>
 some v1
def zat2(a0:aG)(a1:List bF)(g1:Int×(List aJ)):Option ((Int×(List aJ))⊕((List aJ)⊕Bool)):=
 (if(decide (g1.1<(a1.length:Int)))=true then
  gd (0<=g1.1/\g1.1<(a1.length:Int))<|
  (if((!(zj7 ((a1.getD g1.1.toNat bF.zero).aZ)))||(!(zw4 a0 ((a1.getD g1.1.toNat bF.zero).aY))))=true then
   some (.inr (.inr false))
  else
   gd (decide (0<g1.1)=true->0<=i64.wrap (g1.1-1)/\i64.wrap (g1.1-1)<(a1.length:Int))<|
   ((if(decide (0<g1.1))=true then zd7 ((a1.getD ((i64.wrap (g1.1-1)).toNat) bF.zero).aZ) ((a1.getD g1.1.toNat bF.zero).aZ)else some 0)).bind λ v2=>
   (if(decide (0<g1.1)&&decide (0<=v2))=true then
    some (.inr (.inr false))
   else
    gd (g1.2.length+1<=4294967296)<|
    some (.inl ((i64.wrap (g1.1+1)),(g1.2++[(a1.getD g1.1.toNat bF.zero).aY])))))
 else
  some (.inr (.inl g1.2)))
def zr4(a0:aG)(a1:List bF):Option Bool:=
 (if((!(zJ1 a0))||decide (8<(a1.length:Int)))=true then
  some false
 else
  (zg8 (zat2 a0 a1) (0,[])).bind (λ|.inl z=>zat1 a0 z|.inr z=>some z))
@[reducible,instance] def zdK4 (a0:aG) a1:=mkJ (zr4 a0 a1) 0 (@zat1.eq_1 a0) λ(j1:(List aJ))=>⟨[(2,.ptr 0 0 0),(5,.own 1 0 j1.length)],[(0,bx a0),(1,sx j1)],2⟩
@[reducible,instance] def zdK5 (a0:aG) (a1:List bF) {T:Type} (x:T):=mkL x (@zat2.eq_1 a0 a1) λ(g1:Int×(List aJ))=>⟨[(1,la a1),(2,.ptr 0 0 0),(5,.own 1 0 g1.2.length),(16,la a1),(17,.int .i64 (a1.length:Int)),(18,.int .i64 g1.1)],[(0,bx a0),(1,sx g1.2)],2⟩
instance zbS1(a0:aG)(a1:List bF):OkP (zr4 a0 a1) 248 [ga a0,la a1] (λ r=>.bool r):=ok1 (zr4.eq_1 a0 a1) Tryz.f248 [(5,1)]
attribute [local irreducible] zr4
def zm7(a0:aP):Option Bool:=
 (zl7 a0).bind λ v1=>
 (if(!decide (v1=0))=true then
  (zo8 a0 []).bind λ v2=>
  some ((!decide (v1=0))&&v2.1)
 else
  some ((!decide (v1=0))&&false))
theorem zaM0(a0:aP)(r:Bool)(h:zm7 a0=some r):PFn C 75 [ga a0] (.bool r):=by
 refine zx6 Tryz.f75 [(3,3)] λ E hG hN hK=>?_;unfold zm7 at h;refine za2 (za3 hG ?_);refine za2 (za3 hG ?_);refine g_gh (.ownb 1 0 3 (aO.enc aO.zero)) ?_;refine za2 (za3 hG ?_);obtain⟨v1,hv1,h⟩:=zd2 h;refine zn1 (λ hg=>(zaZ5 a0).ok _ hv1) ?_;refine zbL4 h (λ hc h=>?_) (λ hc h=>?_)
 · obtain⟨v2,hv2,h⟩:=zd2 h
   refine zbB4 hc [(0,1),(1,2)] [(2,3)] [0,1,2] ((zaL6 a0 []).ok _ hv2) rfl rfl ?_;refine zo3 ?_;exact zt5 h
 refine zbB5 hc (.bool false) ?_;refine zo3 ?_;exact zt5 h
instance zbx4(a0:aP):OkP (zm7 a0) 75 [ga a0] (λ r=>.bool r):=⟨zaM0 a0⟩
attribute [local irreducible] zm7
def zad6(j1:Unit):Option Bool:=
 some true
def zad7(a1:aH)(v4:Int×aC)(g1:Int):Option (Int⊕(Unit⊕Bool)):=
 (if(decide (g1<(v4.2.bO.length:Int)))=true then
  gd (0<=g1/\g1<(v4.2.bO.length:Int))<|
  (zd7 ((v4.2.bO.getD g1.toNat aW.zero).aZ) a1.aZ).bind λ v7=>
  (if(decide (v7=0)&&(!decide ((v4.2.bO.getD g1.toNat aW.zero).bT=a1.aR.bT)))=true then
   some (.inr (.inr false))
  else
   some (.inl (i64.wrap (g1+1))))
 else
  some (.inr (.inl ())))
def zn5(a0:aC)(a1:aH)(a2:List aO):Option Bool:=
 (zm9 a1.bH a0.aQ.name).bind λ v1=>
 (zm3 a0 a1.aZ).bind λ v2=>
 (zp7 a0 a1.aZ).bind λ v3=>
 (zb6 a2 a0).bind λ v4=>
 gd ((!(decide (v4.1<0)))=true->0<=v4.1/\v4.1<(a2.length:Int))<|
 ((if(!(decide (v4.1<0)))=true then zm8 v4.2.aQ v1 ((a2.getD v4.1.toNat aO.zero).aY)else some false)).bind λ v5=>
 (if(decide (v4.1<0)||v5)=true then
  some (decide (v2=v1)&&(!v3.2))
 else
  gd (0<=v4.1/\v4.1<(a2.length:Int))<|
  (zs6 v4.2.aQ v1 ((a2.getD v4.1.toNat aO.zero).aY)).bind λ v6=>
  (if(!v3.2)=true then
   some (decide (v2=v6))
  else
   (if((!decide (v2=v1))||(!decide (v3.1=v6)))=true then
    some false
   else
    (zg8 (zad7 a1 v4) 0).bind (λ|.inl z=>zad6 z|.inr z=>some z))))
@[reducible,instance] def zdz1 a0 a1 a2 {T1:Type} (v1:T1) {T2:Type} (v2:T2) {T3:Type} (v3:T3) {T4:Type} (v4:T4) {T5:Type} (v5:T5) {T6:Type} (v6:T6):=mkJ ((((((zn5 a0 a1 a2,v1),v2),v3),v4),v5),v6) 0 (@zad6.eq_1) λ(j1:Unit)=>⟨[],[],0⟩
@[reducible,instance] def zdz2 (a1:aH) (v4:Int×aC) {T:Type} (x:T):=mkL x (@zad7.eq_1 a1 v4) λ(g1:Int)=>⟨[(4,.ptr 0 0 0),(78,la v4.2.bO),(79,.int .i64 (v4.2.bO.length:Int)),(80,.int .i64 g1)],[(0,bx a1)],1⟩
instance zbx5(a0:aC)(a1:aH)(a2:List aO):OkP (zn5 a0 a1 a2) 175 [ga a0,ga a1,la a2] (λ r=>.bool r):=ok1 (zn5.eq_1 a0 a1 a2) Tryz.f175 []
attribute [local irreducible] zn5
def zr2(a0:aC)(a1 a2:aJ)(a3:aF):Option (ByteArray×Int×Int×Int×Int×aJ×aJ×aF×(List bF)×(List aW)×(List aW)):=
 (zs6 a0.aQ a1 a2).bind λ v1=>
 gd (a0.aV.length+1<=4294967296)<|
 some (a0.aQ.name,a0.aQ.kind,a0.aQ.bJ,a0.aQ.home,a0.gen,a1,a2,a3,a0.bR,a0.bO,(a0.aV++[{aW.zero with aZ:=a3,aY:=v1}]))
instance zaN8(a0:aC)(a1 a2:aJ)(a3:aF):OkM (zr2 a0 a1 a2 a3) 264 [.ptr 0 0 0,.ptr 1 0 0,.ptr 2 0 0,.ptr 3 0 0] [(0,⟨false,8,aC.enc aC.zero,[[.str a0.aQ.name,.int .i64 a0.aQ.kind,.int .i64 a0.aQ.bJ,.int .i64 a0.aQ.home,.own 4 0 a0.bR.length,.own 5 0 a0.aV.length,.own 6 0 a0.bO.length,.int .i64 a0.gen]]⟩),(1,bx a1),(2,bx a2),(3,bx a3),(4,sx a0.bR),(5,sx a0.aV),(6,sx a0.bO)] 7 (λ r=>.tup []) (λ r=>[(0,⟨false,8,aC.enc aC.zero,[[.str r.1,.int .i64 r.2.1,.int .i64 r.2.2.1,.int .i64 r.2.2.2.1,.own 4 0 r.2.2.2.2.2.2.2.2.1.length,.own 7 0 r.2.2.2.2.2.2.2.2.2.2.length,.own 6 0 r.2.2.2.2.2.2.2.2.2.1.length,.int .i64 r.2.2.2.2.1]]⟩),(1,bx r.2.2.2.2.2.1),(2,bx r.2.2.2.2.2.2.1),(3,bx r.2.2.2.2.2.2.2.1),(4,sx r.2.2.2.2.2.2.2.2.1),(6,sx r.2.2.2.2.2.2.2.2.2.1),(7,sx r.2.2.2.2.2.2.2.2.2.2)]) 8:=okm (zr2.eq_1 a0 a1 a2 a3) (λ r=>[]) Tryz.f264 []
attribute [local irreducible] zr2
def zd1(a0:List aC):Option (List aC):=
 (ze0 ((a0.length:Nat):Int) a0).bind λ v1=>
 gd (v1.length=a0.length)<|
 some v1
instance zO4(a0:List aC):OkM (zd1 a0) 88 [.own 0 0 a0.length,.clo 89 []] [(0,sx a0)] 1 (λ r=>.tup []) (λ r=>[(0,sx r)]) 1:=okm (zd1.eq_1 a0) (λ r=>[]) Tryz.f88 []
attribute [local irreducible] zd1
attribute [local irreducible] zv1 zs7 zn7 zi2 zp1 zc9 zp8 zr9 zh6 zf6 zv6 zm6 zr1 zl4 zu4
def zq2(a0:aP):Option (List aO):=
 (zm7 a0).bind λ v1=>
 (if(!v1)=true then
  some []
 else
  (zm4 a0).bind λ v2=>
  some v2)
instance zaj8(a0:aP):OkP (zq2 a0) 125 [ga a0] (λ r=>la r):=ok1 (zq2.eq_1 a0) Tryz.f125 []
attribute [local irreducible] zq2
def zam3(j1:Unit):Option Int:=
 some 0
def zam4(a0:List aG)(v1:(List aO))(g1:Int):Option (Int⊕(Unit⊕Int)):=
 (if(decide (g1<(v1.length:Int)))=true then
  gd (0<=g1/\g1<(v1.length:Int))<|
  (zr1 a0 (v1.getD g1.toNat aO.zero)).bind λ v2=>
  (if(!decide (v2=0))=true then
   some (.inr (.inr v2))
  else
   some (.inl (i64.wrap (g1+1))))
 else
  some (.inr (.inl ())))
def zr7(a0:List aG)(a1:aP):Option Int:=
 (zq2 a1).bind λ v1=>
 (if(decide ((v1.length:Int)=0))=true then
  some 1
 else
  (zg8 (zam4 a0 v1) 0).bind (λ|.inl z=>zam3 z|.inr z=>some z))
@[reducible,instance] def zdz3 a0 a1 {T1:Type} (v1:T1):=mkJ (zr7 a0 a1,v1) 0 (@zam3.eq_1) λ(j1:Unit)=>⟨[],[],0⟩
@[reducible,instance] def zdz4 (a0:List aG) (v1:(List aO)) {T:Type} (x:T):=mkL x (@zam4.eq_1 a0 v1) λ(g1:Int)=>⟨[(0,la a0),(14,la v1),(15,.int .i64 (v1.length:Int)),(16,.int .i64 g1)],[],0⟩
instance zaS7(a0:List aG)(a1:aP):OkP (zr7 a0 a1) 149 [la a0,ga a1] (λ r=>.int .i64 r):=ok1 (zr7.eq_1 a0 a1) Tryz.f149 []
attribute [local irreducible] zr7
def zam5(j1:(List Bool)):Option (List Bool):=
 some j1
def zam6(a0:List aC)(a1:aH)(v1:(List aO))(g1:Int×(List Bool)):Option ((Int×(List Bool))⊕(List Bool)):=
 (if(decide (g1.1<(v1.length:Int)))=true then
  gd (0<=g1.1/\g1.1<(v1.length:Int))<|
  (zm2 a0 ((v1.getD g1.1.toNat aO.zero).name)).bind λ v2=>
  gd (decide (0<=v2)=true->0<=v2/\v2<(a0.length:Int))<|
  gd (decide (0<=v2)=true->0<=v2/\v2<(a0.length:Int))<|
  ((if(decide (0<=v2))=true then zm3 (a0.getD v2.toNat aC.zero) a1.aZ else some aJ.zero)).bind λ v3=>
  ((if(decide (0<=v2))=true then zm8 ((a0.getD v2.toNat aC.zero).aQ) v3 ((v1.getD g1.1.toNat aO.zero).aY)else some false)).bind λ v4=>
  gd (g1.2.length+1<=4294967296)<|
  some (.inl ((i64.wrap (g1.1+1)),(g1.2++[(decide (0<=v2)&&v4)])))
 else
  some (.inr g1.2))
def zr3(a0:List aC)(a1:aH):Option (List Bool):=
 (zq2 a1.aR.bQ).bind λ v1=>
 (zg8 (zam6 a0 a1 v1) (0,[])).bind (λ z=>zam5 z)
@[reducible,instance] def zdz5 a0 a1 {T1:Type} (v1:T1):=mkJ (zr3 a0 a1,v1) 0 (@zam5.eq_1) λ(j1:(List Bool))=>⟨[(5,.own 0 0 j1.length)],[(0,⟨false,1,[A.bool false],j1.map eB⟩)],1⟩
@[reducible,instance] def zdz6 (a0:List aC) (a1:aH) (v1:(List aO)) {T:Type} (x:T):=mkL x (@zam6.eq_1 a0 a1 v1) λ(g1:Int×(List Bool))=>⟨[(0,la a0),(3,.ptr 0 0 0),(5,.own 1 0 g1.2.length),(12,la v1),(13,.int .i64 (v1.length:Int)),(14,.int .i64 g1.1)],[(0,bx a1),(1,⟨false,1,[A.bool false],g1.2.map eB⟩)],2⟩
instance zaS8(a0:List aC)(a1:aH):OkP (zr3 a0 a1) 174 [la a0,ga a1] (λ r=>.sl (r.map eB)):=ok1 (zr3.eq_1 a0 a1) Tryz.f174 [(5,1)]
attribute [local irreducible] zr3
def zt0(a0:aP)(a1:List Bool):Option Bool:=
 (zq2 a0).bind λ v1=>
 ((if(decide (0<(v1.length:Int)))=true then f_formula_holds a0 v1 a1 else some false)).bind λ v2=>
 some (decide (0<(v1.length:Int))&&v2)
instance zbS2(a0:aP)(a1:List Bool):OkP (zt0 a0 a1) 173 [ga a0,.sl (a1.map eB)] (λ r=>.bool r):=ok1 (zt0.eq_1 a0 a1) Tryz.f173 []
attribute [local irreducible] zt0
def zat3(j1:(List Bool)):Option (List Bool):=
 some j1
def zat4(a0:aP)(v1:(List aO))(g1:Int×(List Bool)):Option ((Int×(List Bool))⊕(List Bool)):=
 (if(decide (0<=g1.1))=true then
  gd (0<=g1.1/\g1.1<((g1.2.length:Nat):Int))<|
  (if(!(g1.2.getD g1.1.toNat false))=true then
   some (.inl ((i64.wrap (g1.1-1)),g1.2))
  else
   gd (0<=g1.1/\g1.1<((g1.2.length:Nat):Int))<|
   (f_formula_holds a0 v1 (g1.2.set g1.1.toNat false)).bind λ v3=>
   (if(!v3)=true then
    gd (0<=g1.1/\g1.1<((g1.2.length:Nat):Int))<|
    some (.inl ((i64.wrap (g1.1-1)),(g1.2.set g1.1.toNat false).set g1.1.toNat true))
   else
    some (.inl ((i64.wrap (g1.1-1)),g1.2.set g1.1.toNat false))))
 else
  some (.inr g1.2))
def zt7(a0:aP)(a1:List Bool):Option (List Bool):=
 (zq2 a0).bind λ v1=>
 gd (0<=(v1.length:Int)/\(v1.length:Int)<=(v1.length:Int)/\(v1.length:Int)<=4294967296)<|
 ((if(!(decide ((v1.length:Int)=0)))=true then f_formula_holds a0 v1 a1 else some false)).bind λ v2=>
 (if(decide ((v1.length:Int)=0)||(!v2))=true then
  some (List.replicate ((v1.length:Int).toNat) false)
 else
  (zg8 (zat4 a0 v1) ((i64.wrap ((((v1.length:Int).toNat:Nat):Int)-1)),((List.replicate ((v1.length:Int).toNat) false).take 0++a1.take ((v1.length:Int).toNat)++(List.replicate ((v1.length:Int).toNat) false).drop (0+min a1.length ((v1.length:Int).toNat))))).bind (λ z=>zat3 z))
@[reducible,instance] def zdz7 a0 a1 {T1:Type} (v1:T1) {T2:Type} (v2:T2):=mkJ ((zt7 a0 a1,v1),v2) 0 (@zat3.eq_1) λ(j1:(List Bool))=>⟨[(6,.own 0 0 j1.length)],[(0,⟨false,1,[A.bool false],j1.map eB⟩)],1⟩
@[reducible,instance] def zdz8 (a0:aP) (v1:(List aO)) {T:Type} (x:T):=mkL x (@zat4.eq_1 a0 v1) λ(g1:Int×(List Bool))=>⟨[(2,.ptr 0 0 0),(5,la v1),(6,.own 1 0 g1.2.length),(7,.int .i64 g1.1)],[(0,bx a0),(1,⟨false,1,[A.bool false],g1.2.map eB⟩)],2⟩
instance zaZ6(a0:aP)(a1:List Bool):OkP (zt7 a0 a1) 261 [ga a0,.sl (a1.map eB)] (λ r=>.sl (r.map eB)):=ok1 (zt7.eq_1 a0 a1) Tryz.f261 []
attribute [local irreducible] zt7
def zah0(j1:(List Bool)):Option (List Bool):=
 some j1
def zah1(g1:Int×(List Bool))(j2:Bool):Option ((Int×(List Bool))⊕(List Bool)):=
 gd (g1.2.length+1<=4294967296)<|
 some (.inl ((i64.wrap (g1.1+1)),(g1.2++[(!j2)])))
def zah2(a0:aA)(a1:bK)(v1:(List aO))(g1:Int×(List Bool))(g2:Bool×Int):Option ((Bool×Int)⊕Bool):=
 (if(decide (g2.2<(a0.aB.length:Int)))=true then
  gd (0<=g2.2/\g2.2<(a0.aB.length:Int))<|
  (if((((a0.aB.getD g2.2.toNat aC.zero).aQ).name).toList==((v1.getD g1.1.toNat aO.zero).name).toList)=true then
   (zp7 (a0.aB.getD g2.2.toNat aC.zero) a1.aZ).bind λ v2=>
   some (.inl (v2.2,i64.wrap (g2.2+1)))
  else
   some (.inl (g2.1,i64.wrap (g2.2+1))))
 else
  some (.inr g2.1))
def zT0(a0:aA)(a1:bK)(v1:(List aO))(g1:Int×(List Bool)):Option ((Int×(List Bool))⊕(List Bool)):=
 (if(decide (g1.1<(v1.length:Int)))=true then
  gd (0<=g1.1/\g1.1<(v1.length:Int))<|
  (zg8 (zah2 a0 a1 v1 g1) (false,0)).bind (λ z=>zah1 g1 z)
 else
  some (.inr g1.2))
def zq9(a0:aA)(a1:bK):Option (List Bool):=
 (zq2 a1.bQ).bind λ v1=>
 (zg8 (zT0 a0 a1 v1) (0,[])).bind (λ z=>zah0 z)
@[reducible,instance] def zdz9 a0 a1 {T1:Type} (v1:T1):=mkJ (zq9 a0 a1,v1) 0 (@zah0.eq_1) λ(j1:(List Bool))=>⟨[(5,.own 0 0 j1.length)],[(0,⟨false,1,[A.bool false],j1.map eB⟩)],1⟩
@[reducible,instance] def zdA0 (a0:aA) (a1:bK) (v1:(List aO)) (g1:Int×(List Bool)):=mkJ (zT0 a0 a1 v1 g1) 2 (@zah1.eq_1 g1) λ(j2:Bool)=>⟨[(2,.ptr 0 0 0),(3,.ptr 1 0 0),(5,.own 2 0 g1.2.length),(8,.bool j2),(13,la v1),(14,.int .i64 (v1.length:Int)),(15,.int .i64 g1.1)],[(0,bx a0),(1,bx a1),(2,⟨false,1,[A.bool false],g1.2.map eB⟩)],3⟩
@[reducible,instance] def zdA1 (a0:aA) (a1:bK) (v1:(List aO)) (g1:Int×(List Bool)) {T:Type} (x:T):=mkL x (@zah2.eq_1 a0 a1 v1 g1) λ(g2:Bool×Int)=>⟨[(2,.ptr 0 0 0),(3,.ptr 1 0 0),(5,.own 2 0 g1.2.length),(7,.ptr 3 0 0),(8,.bool g2.1),(13,la v1),(14,.int .i64 (v1.length:Int)),(15,.int .i64 g1.1),(20,la a0.aB),(21,.int .i64 (a0.aB.length:Int)),(22,.int .i64 g2.2)],[(0,bx a0),(1,bx a1),(2,⟨false,1,[A.bool false],g1.2.map eB⟩),(3,bx (v1.getD g1.1.toNat aO.zero))],4⟩
@[reducible,instance] def zdA2 (a0:aA) (a1:bK) (v1:(List aO)) {T:Type} (x:T):=mkL x (@zT0.eq_1 a0 a1 v1) λ(g1:Int×(List Bool))=>⟨[(2,.ptr 0 0 0),(3,.ptr 1 0 0),(5,.own 2 0 g1.2.length),(13,la v1),(14,.int .i64 (v1.length:Int)),(15,.int .i64 g1.1)],[(0,bx a0),(1,bx a1),(2,⟨false,1,[A.bool false],g1.2.map eB⟩)],3⟩
instance zbC5(a0:aA)(a1:bK):OkP (zq9 a0 a1) 194 [ga a0,ga a1] (λ r=>.sl (r.map eB)):=ok1 (zq9.eq_1 a0 a1) Tryz.f194 [(5,1)]
attribute [local irreducible] zq9
def zX2(j3:aI):Option aI:=
 some j3
@[go_sem] def zcv2(j3:aI):St:=⟨[(6,.ptr 0 0 0),(14,.ptr 1 0 0)],[(0,bx aI.zero),(1,⟨false,6,aI.enc aI.zero,[[.int .i64 j3.aZ.site,.int .i64 j3.aZ.inc,.int .i64 j3.aZ.num,.int .i64 j3.label,.int .i64 j3.cost,.own 2 0 j3.lower.length]]⟩),(2,sx j3.lower)],3⟩
def zam7(v2:(List ByteArray)×(List ByteArray))(g1:Int×aI):Option ((Int×aI)⊕aI):=
 (if(decide (g1.1<(v2.1.length:Int)))=true then
  gd (0<=g1.1/\g1.1<(v2.1.length:Int))<|
  (zm9 bG.zero (v2.1.getD g1.1.toNat ⟨#[]⟩)).bind λ v3=>
  gd (g1.2.lower.length+1<=4294967296)<|
  some (.inl ((i64.wrap (g1.1+1)),(⟨(⟨g1.2.aZ.site,g1.2.aZ.inc,g1.2.aZ.num⟩:aF),g1.2.label,g1.2.cost,(g1.2.lower++[(⟨(v2.1.getD g1.1.toNat ⟨#[]⟩),v3⟩:aO)])⟩:aI)))
 else
  some (.inr g1.2))
@[go_sem] def zcv3(v2:(List ByteArray)×(List ByteArray))(g1:Int×aI):St:=⟨[(6,.ptr 0 0 0),(7,.ptr 1 0 0),(14,.ptr 2 0 0),(76,.sl (v2.1.map eS)),(77,.int .i64 (v2.1.length:Int)),(78,.int .i64 g1.1)],[(0,bx aI.zero),(1,bx bG.zero),(2,⟨false,6,aI.enc aI.zero,[[.int .i64 g1.2.aZ.site,.int .i64 g1.2.aZ.inc,.int .i64 g1.2.aZ.num,.int .i64 g1.2.label,.int .i64 g1.2.cost,.own 3 0 g1.2.lower.length]]⟩),(3,sx g1.2.lower)],4⟩
def zO5(a0:aH)(a2:Int)(j2:(List ByteArray)):Option aI:=
 (zh6 j2).bind λ v1=>
 gd (v1.length=j2.length)<|
 (zb5 v1).bind λ v2=>
 (zg8 (zam7 v2) (0,(⟨(⟨a0.aZ.site,a0.aZ.inc,a0.aZ.num⟩:aF),a2,i64.wrap (a0.cost*i64.wrap (((a0.bH.bB.drop ((bG.zero.bB.length:Int).toNat)).length:Int)+1)),[]⟩:aI))).bind (λ z=>zX2 z)
@[go_sem] def zcv4(a0:aH)(a2:Int)(j2:(List ByteArray)):St:=⟨[(2,.int .i64 a2),(3,.ptr 0 0 0),(6,.ptr 1 0 0),(7,.ptr 2 0 0),(8,la (a0.bH.bB.drop ((bG.zero.bB.length:Int).toNat))),(9,.own 3 0 j2.length)],[(0,bx a0),(1,bx aI.zero),(2,bx bG.zero),(3,⟨false,1,[A.str ⟨#[]⟩],j2.map eS⟩)],4⟩
def zX3(a0:aH)(a2:Int)(j4:(List ByteArray)):Option aI:=
 zO5 a0 a2 j4
@[go_sem] def zcv5(a0:aH)(a2:Int)(j4:(List ByteArray)):St:=⟨[(2,.int .i64 a2),(3,.ptr 0 0 0),(6,.ptr 1 0 0),(7,.ptr 2 0 0),(8,la (a0.bH.bB.drop ((bG.zero.bB.length:Int).toNat))),(9,.own 3 0 j4.length)],[(0,bx a0),(1,bx aI.zero),(2,bx bG.zero),(3,⟨false,1,[A.str ⟨#[]⟩],j4.map eS⟩)],4⟩
def zam8(v4:(List aO))(g2:Int×(List ByteArray)):Option ((Int×(List ByteArray))⊕(List ByteArray)):=
 (if(decide (g2.1<(v4.length:Int)))=true then
  gd (0<=g2.1/\g2.1<(v4.length:Int))<|
  gd (g2.2.length+1<=4294967296)<|
  some (.inl ((i64.wrap (g2.1+1)),(g2.2++[(v4.getD g2.1.toNat aO.zero).name])))
 else
  some (.inr g2.2))
@[go_sem] def zcv6(a0:aH)(a2:Int)(v4:(List aO))(g2:Int×(List ByteArray)):St:=⟨[(2,.int .i64 a2),(3,.ptr 0 0 0),(6,.ptr 1 0 0),(7,.ptr 2 0 0),(8,la (a0.bH.bB.drop ((bG.zero.bB.length:Int).toNat))),(9,.own 3 0 g2.2.length),(51,la v4),(52,.int .i64 (v4.length:Int)),(53,.int .i64 g2.1)],[(0,bx a0),(1,bx aI.zero),(2,bx bG.zero),(3,⟨false,1,[A.str ⟨#[]⟩],g2.2.map eS⟩)],4⟩
def zX4(a0:aH)(a2:Int)(j1:(List ByteArray)):Option aI:=
 (if a0.bW=true then
  (zq2 a0.aR.bQ).bind λ v4=>
  (zg8 (zam8 v4) (0,j1)).bind (λ z=>zX3 a0 a2 z)
 else
  zO5 a0 a2 j1)
@[go_sem] def zcv7(a0:aH)(a2:Int)(j1:(List ByteArray)):St:=⟨[(2,.int .i64 a2),(3,.ptr 0 0 0),(6,.ptr 1 0 0),(7,.ptr 2 0 0),(8,la (a0.bH.bB.drop ((bG.zero.bB.length:Int).toNat))),(9,.own 3 0 j1.length)],[(0,bx a0),(1,bx aI.zero),(2,bx bG.zero),(3,⟨false,1,[A.str ⟨#[]⟩],j1.map eS⟩)],4⟩
def zam9(a0:aH)(g3:Int×(List ByteArray)):Option ((Int×(List ByteArray))⊕(List ByteArray)):=
 (if(decide (g3.1<((a0.bH.bB.drop ((bG.zero.bB.length:Int).toNat)).length:Int)))=true then
  gd (0<=g3.1/\g3.1<((a0.bH.bB.drop ((bG.zero.bB.length:Int).toNat)).length:Int))<|
  gd (g3.2.length+1<=4294967296)<|
  some (.inl ((i64.wrap (g3.1+1)),(g3.2++[((a0.bH.bB.drop ((bG.zero.bB.length:Int).toNat)).getD g3.1.toNat bX.zero).name])))
 else
  some (.inr g3.2))
@[go_sem] def zcv8(a0:aH)(a2:Int)(g3:Int×(List ByteArray)):St:=⟨[(2,.int .i64 a2),(3,.ptr 0 0 0),(6,.ptr 1 0 0),(7,.ptr 2 0 0),(8,la (a0.bH.bB.drop ((bG.zero.bB.length:Int).toNat))),(9,.own 3 0 g3.2.length),(34,la (a0.bH.bB.drop ((bG.zero.bB.length:Int).toNat))),(35,.int .i64 ((a0.bH.bB.drop ((bG.zero.bB.length:Int).toNat)).length:Int)),(36,.int .i64 g3.1)],[(0,bx a0),(1,bx aI.zero),(2,bx bG.zero),(3,⟨false,1,[A.str ⟨#[]⟩],g3.2.map eS⟩)],4⟩
def zi6(a0:aH)(a1 a2:Int):Option aI:=
 (if(decide (a1=0))=true then
  none
 else
  gd (0<=(bG.zero.bB.length:Int)/\(bG.zero.bB.length:Int)<=(a0.bH.bB.length:Int)/\(a0.bH.bB.length:Int)<=(a0.bH.bB.length:Int))<|
  (zg8 (zam9 a0) (0,[])).bind (λ z=>zX4 a0 a2 z))
theorem zaS9(a0:aH)(a1 a2:Int)(r:aI)(h:zi6 a0 a1 a2=some r):PFn C 73 [ga a0,.int .i64 a1,.int .i64 a2] (ga r):=by
 refine zx6 Tryz.f73 [(2003,1),(9,1),(74,34),(14,34)] λ E hG hN hK=>?_;unfold zi6 at h;refine za2 (za3 hG ?_);refine za2 (za3 hG ?_);refine za2 (za2 (za3 hG ?_));refine zh3 rfl hG h (λ _ h=>?_) (λ _ h=>?_)
 .exact zV9 h
 refine zh0 ?_;refine za2 ?_;obtain⟨hb8,h⟩:=ze5 h;refine za3 hG ?_;refine za2 (za3 hG ?_);refine za2 (za2 (za3 hG ?_));refine zs5 (zcv7 a0 a2) (λ v=>zX4 a0 a2 v=some r) ?_ ?_
 · intro j1 h
   unfold zX4 at h;refine g_st ?_;refine za2 (za2 (za3 hG ?_));refine zaE6 (zcv4 a0 a2) (λ v=>zO5 a0 a2 v=some r) rfl hG h ?_ (λ _ h=>?_) (λ _ h=>?_)
   · intro j2 h
     unfold zO5 at h;refine g_st ?_;refine za2 (za3 hG ?_);obtain⟨v1,hv1,h⟩:=zd2 h;obtain⟨hb3,h⟩:=ze5 h;refine zs2 [(0,3)] [] [0] ((zah7 j2).ok _ hv1) rfl rfl ?_;refine za2 (za3 hG ?_);refine g_gh (.ownb 4 5 3 (aO.enc aO.zero)) ?_;refine za2 (za2 (za3 hG ?_));obtain⟨v2,hv2,h⟩:=zd2 h;refine zs2 [(0,3)] [] [0] ((zab8 v1).ok _ hv2) rfl rfl ?_;refine zs5 zcv2 (λ v=>zX2 v=some r) ?_ ?_
     · intro j3 h
       unfold zX2 at h;refine g_st ?_;refine za2 (za3 hG ?_);refine zo3 ?_;exact zt5 h
     refine zz0 (zcv3 v2) hK [(0,1),(1,2),(2,4),(3,5)] h (λ x_l1 h g1 y_l1 h_l1 hx_l1=>?_);unfold zam7 at h_l1;refine g_st ?_;refine za2 (za3 hG ?_);refine za2 ?_;refine zh3 rfl hG h_l1 (λ _ h_l1=>?_) (λ _ h_l1=>?_)
     · refine zh0 ?_
       refine za2 (zr6 (za2 ?_));obtain⟨hb2,h_l1⟩:=ze5 h_l1;refine za3 hG ?_;refine zP1 zv9 hG ?_;obtain⟨v3,hv3,h_l1⟩:=zd2 h_l1;obtain⟨hb1,h_l1⟩:=ze5 h_l1;refine zx8 (λ hg=>(zbk9 bG.zero (v2.1.getD g1.1.toNat ⟨#[]⟩)).ok _ hv3) ?_;refine za3 hG ?_;exact zy5 hK [(0,0),(1,1),(2,2),(3,4)] h_l1
     refine zv7 ?_;cases h_l1;cases hx_l1 _ rfl;exact zs8 hK [(0,0),(1,2),(2,3)] g1.2 (by exact h)
   · refine za2 (za3 hG ?_)
     obtain⟨v4,hv4,h⟩:=zd2 h;refine zn1 (λ hg=>(zaj8 a0.aR.bQ).ok _ hv4) ?_;refine zs5 (zcv5 a0 a2) (λ v=>zX3 a0 a2 v=some r) ?_ ?_
     · intro j4 h
       unfold zX3 at h;refine g_st ?_;exact zs8 hK [(0,0),(1,1),(2,2),(3,3)] j4 (by exact h)
     refine zz0 (zcv6 a0 a2 v4) hK [(0,0),(1,1),(2,2),(3,3)] h (λ x_l2 h g2 y_l2 h_l2 hx_l2=>?_);unfold zam8 at h_l2;refine g_st ?_;refine za2 (za3 hG ?_);refine za2 ?_;refine zh3 rfl hG h_l2 (λ _ h_l2=>?_) (λ _ h_l2=>?_)
     · refine zh0 ?_
       refine za2 (zr6 (za2 ?_));obtain⟨hb5,h_l2⟩:=ze5 h_l2;refine za3 hG ?_;obtain⟨hb4,h_l2⟩:=ze5 h_l2;refine za3 hG ?_;refine za3 hG ?_;exact zy5 hK [(0,0),(1,1),(2,2),(3,5)] h_l2
     refine zv7 ?_;cases h_l2;cases hx_l2 _ rfl;exact zs8 hK [(0,0),(1,1),(2,2),(3,3)] g2.2 (by exact h)
   refine zh0 ?_;exact zs8 hK [(0,0),(1,1),(2,2),(3,3)] j1 (by exact h)
 refine zz0 (zcv8 a0 a2) hK [(0,0),(1,1),(2,2),(3,3)] h (λ x_l3 h g3 y_l3 h_l3 hx_l3=>?_);unfold zam9 at h_l3;refine g_st ?_;refine za2 (za3 hG ?_);refine za2 ?_;refine zh3 rfl hG h_l3 (λ _ h_l3=>?_) (λ _ h_l3=>?_)
 · refine zh0 ?_
   refine za2 (zr6 (za2 ?_));obtain⟨hb7,h_l3⟩:=ze5 h_l3;refine za3 hG ?_;obtain⟨hb6,h_l3⟩:=ze5 h_l3;refine za3 hG ?_;refine za3 hG ?_;exact zy5 hK [(0,0),(1,1),(2,2),(3,5)] h_l3
 refine zv7 ?_;cases h_l3;cases hx_l3 _ rfl;exact zs8 hK [(0,0),(1,1),(2,2),(3,3)] g3.2 (by exact h)
attribute [local irreducible] zi6
def zq1(a0:List aF):Option (List aF):=
 gd (a0.length<=4294967296)<|
 (zd4 a0).bind λ v1=>
 (za9 v1).bind λ v2=>
 some v2.1
theorem zaT0(a0:List aF)(r:(List aF))(h:zq1 a0=some r):PFn C 105 [la a0] (la r):=by refine zx6 Tryz.f105 [] λ E hG hN hK=>?_;unfold zq1 at h;refine za2 (za3 hG ?_);refine za2 ?_;obtain⟨hb1,h⟩:=ze5 h;refine za3 hG ?_;refine za2 (za3 hG ?_);obtain⟨v1,hv1,h⟩:=zd2 h;have hl_v1:=zV5 a0 _ hv1;refine zs2 [(0,0)] [] [0] (zV6 _ _ hv1) rfl rfl ?_;refine za2 (za3 hG ?_);obtain⟨v2,hv2,h⟩:=zd2 h;refine zs2 [(0,0)] [] [0] ((zW5 v1).ok _ hv2) rfl rfl ?_;refine zo3 ?_;exact zt5 h
instance zbE5(a0:List aF):OkP (zq1 a0) 105 [la a0] (λ r=>la r):=⟨zaT0 a0⟩
attribute [local irreducible] zq1
def zax0(j1:(List aO)):Option (List aO):=
 some j1
def zax1(a0:List aC)(a1:aF)(g1:Int×(List aO)):Option ((Int×(List aO))⊕(List aO)):=
 (if(decide (g1.1<(a0.length:Int)))=true then
  gd (0<=g1.1/\g1.1<(a0.length:Int))<|
  (zp7 (a0.getD g1.1.toNat aC.zero) a1).bind λ v1=>
  (if v1.2=true then
   gd (g1.2.length+1<=4294967296)<|
   some (.inl ((i64.wrap (g1.1+1)),(g1.2++[(⟨((a0.getD g1.1.toNat aC.zero).aQ).name,v1.1⟩:aO)])))
  else
   some (.inl ((i64.wrap (g1.1+1)),g1.2)))
 else
  some (.inr g1.2))
def zt3(a0:List aC)(a1:aF):Option (List aO):=
 (zg8 (zax1 a0 a1) (0,[])).bind (λ z=>zax0 z)
@[reducible,instance] def zdA3 a0 a1:=mkJ (zt3 a0 a1) 0 (@zax0.eq_1) λ(j1:(List aO))=>⟨[(5,.own 0 0 j1.length)],[(0,sx j1)],1⟩
@[reducible,instance] def zdA4 (a0:List aC) (a1:aF) {T:Type} (x:T):=mkL x (@zax1.eq_1 a0 a1) λ(g1:Int×(List aO))=>⟨[(3,.ptr 0 0 0),(5,.own 1 0 g1.2.length),(10,la a0),(11,.int .i64 (a0.length:Int)),(12,.int .i64 g1.1)],[(0,bx a1),(1,sx g1.2)],2⟩
instance zbT7(a0:List aC)(a1:aF):OkP (zt3 a0 a1) 177 [la a0,ga a1] (λ r=>la r):=ok1 (zt3.eq_1 a0 a1) Tryz.f177 [(5,1)]
attribute [local irreducible] zt3
def zp4(a0:List aH)(a1:aF):Option Int:=
 (zc2 a0 a1).bind λ v1=>
 some v1.1
instance zaj9(a0:List aH)(a1:aF):OkP (zp4 a0 a1) 64 [la a0,ga a1] (λ r=>.int .i64 r):=ok1 (zp4.eq_1 a0 a1) Tryz.f64 []
attribute [local irreducible] zp4
def zaB8(a1:aW)(j1:Int×(List aW)):Option ((List aW)×Int×Int):=
 gd (0<=j1.1/\j1.1<((j1.2.length:Nat):Int))<|
 some ((j1.2.set j1.1.toNat a1),j1.1,0)
def zaB9(a1:aW)(g1:Int×(List aW)):Option ((Int×(List aW))⊕(Int×(List aW))):=
 gd (decide (0<g1.1)=true->0<=i64.wrap (g1.1-1)/\i64.wrap (g1.1-1)<((g1.2.length:Nat):Int))<|
 (if(decide (0<g1.1)&&decide (zaK5 a1 (g1.2.getD ((i64.wrap (g1.1-1)).toNat) aW.zero)=1))=true then
  gd (0<=i64.wrap (g1.1-1)/\i64.wrap (g1.1-1)<((g1.2.length:Nat):Int))<|
  gd (0<=g1.1/\g1.1<((g1.2.length:Nat):Int))<|
  gd (0<=g1.1/\g1.1<((g1.2.length:Nat):Int))<|
  gd (0<=g1.1/\g1.1<((g1.2.length:Nat):Int))<|
  some (.inl ((i64.wrap (g1.1-1)),(g1.2.set g1.1.toNat (g1.2.getD ((i64.wrap (g1.1-1)).toNat) aW.zero)).set g1.1.toNat ({((g1.2.set g1.1.toNat (g1.2.getD ((i64.wrap (g1.1-1)).toNat) aW.zero)).getD g1.1.toNat aW.zero)with cC:=(i64.wrap (((g1.2.set g1.1.toNat (g1.2.getD ((i64.wrap (g1.1-1)).toNat) aW.zero)).getD g1.1.toNat aW.zero).cC+1))})))
 else
  some (.inr (g1.1,g1.2)))
def zu5(a0:List aW)(a1:aW):Option ((List aW)×Int×Int):=
 (zs3 a0).bind λ v1=>
 (if(!v1)=true then
  some ([],0,2)
 else
  (if((!(zC4 a1))||(!decide (a1.cC=0)))=true then
   some ([],0,1)
  else
   (zn9 a0 a1.aZ).bind λ v2=>
   (if(decide (0<=v2))=true then
    some ([],0,11)
   else
    (if(decide ((a0.length:Int)=8))=true then
     some ([],0,4)
    else
     gd (0<=i64.wrap ((a0.length:Int)+1)/\i64.wrap ((a0.length:Int)+1)<=i64.wrap ((a0.length:Int)+1)/\i64.wrap ((a0.length:Int)+1)<=4294967296)<|
     (zg8 (zaB9 a1) ((a0.length:Int),((List.replicate ((i64.wrap ((a0.length:Int)+1)).toNat) aW.zero).take 0++a0.take ((i64.wrap ((a0.length:Int)+1)).toNat)++(List.replicate ((i64.wrap ((a0.length:Int)+1)).toNat) aW.zero).drop (0+min a0.length ((i64.wrap ((a0.length:Int)+1)).toNat))))).bind (λ z=>zaB8 a1 z)))))
@[reducible,instance] def zdA5 a0 (a1:aW) {T1:Type} (v1:T1) {T2:Type} (v2:T2):=mkJ ((zu5 a0 a1,v1),v2) 1 (@zaB8.eq_1 a1) λ(j1:Int×(List aW))=>⟨[(3,.ptr 0 0 0),(7,.own 1 0 j1.2.length),(8,.int .i64 j1.1)],[(0,bx a1),(1,sx j1.2)],2⟩
@[reducible,instance] def zdA6 (a1:aW) {T:Type} (x:T):=mkL x (@zaB9.eq_1 a1) λ(g1:Int×(List aW))=>⟨[(3,.ptr 0 0 0),(7,.own 1 0 g1.2.length),(8,.int .i64 g1.1)],[(0,bx a1),(1,sx g1.2)],2⟩
instance zbl1(a0:List aW)(a1:aW):OkP (zu5 a0 a1) 265 [la a0,ga a1] (λ r=>.tup [la r.1,.int .i64 r.2.1,.int .i64 r.2.2]):=ok1 (zu5.eq_1 a0 a1) Tryz.f265 []
attribute [local irreducible] zu5
def zl2(a0:aD)(a1:List aD):Option (List aD):=
 (zd5 a0 a1).bind λ v1=>
 (zd3 v1).bind λ v2=>
 gd (v2.2.length=v1.length)<|
 (zk6 (i64.wrap (v2.1-1)) v2.2).bind λ v3=>
 some v3
theorem zau9(a0:aD)(a1:List aD)(r:(List aD))(h:zl2 a0 a1=some r):MFn C 33 [.ipt 88 0 0 0,.ival 91 (aD.enc a0)] [(0,⟨false,1,[A.sl ([].map aD.enc)],[[.own 1 0 a1.length]]⟩),(1,sx a1)] 2 (.tup []) [(0,⟨false,1,[A.sl ([].map aD.enc)],[[.own 2 0 r.length]]⟩),(2,sx r)] 3:=by refine zK4 Tryz.f33 [(6,17600669),(9,17600054)] [] λ E hG hN hK=>?_;unfold zl2 at h;refine za2 (za3 hG ?_);obtain⟨v1,hv1,h⟩:=zd2 h;refine zs2 [(0,0),(1,1)] [(2,2)] [0,1,2] ((zar7 a0 a1).ok _ hv1) rfl rfl ?_;refine za3 hG ?_;obtain⟨v2,hv2,h⟩:=zd2 h;obtain⟨hb1,h⟩:=ze5 h;refine zs2 [(0,2)] [] [0] ((zau7 v1).ok _ hv2) rfl rfl ?_;obtain⟨v3,hv3,h⟩:=zd2 h;refine zs2 [(0,0),(1,2)] [] [0,1] (zaB3 _ _ _ hv3) rfl rfl ?_;exact zw8 [(0,0),(1,1),(2,2)] h
attribute [local irreducible] zl2
end
end Ab
end Go.Proofs.YtamndckemppjdaaGreatDoor
