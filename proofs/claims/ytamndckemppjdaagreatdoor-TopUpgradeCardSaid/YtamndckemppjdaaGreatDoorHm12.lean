import Derived.Test.YtamndckemppjdaaGreatDoorHm1
import Derived.Test.YtamndckemppjdaaGreatDoorHm2
import Derived.Test.YtamndckemppjdaaGreatDoorHm4
import Derived.Test.YtamndckemppjdaaGreatDoorIns
import Derived.Test.YtamndckemppjdaaGreatDoorHm7
import Derived.Test.YtamndckemppjdaaGreatDoorSort
import Derived.Test.YtamndckemppjdaaGreatDoorStr
namespace Go.Proofs.YtamndckemppjdaaGreatDoor
namespace Ab
open IntKind (i64 u64 u8 u32)
set_option linter.unusedSimpArgs false
set_option linter.defProp false
set_option linter.unusedVariables false
set_option maxRecDepth 100000
set_option maxHeartbeats 4000000
noncomputable section
attribute [local irreducible] zn9 zf4 zb7 ze8 zl6 zk8 zd0 zd6 zc8 zf7 zn2 zb8 zq7 zh1 zc1 zk5 zm2 zb4 zg1 za4 zk1 ze6 zb5 zd3 ze9 zd5 zm0 zn3 zi7 zg7 zg5 zh7 zg2 zd9 zh5 zi8 zk9 zb2 zg4 za6 zi9 za9 zb9 zf1 zj6 zf2 zi3 za8 za7 za5 zh2 zj2 zf3
def zq0(a0:Int):Option aF:=
 (zq7 a0 8).bind λ v1=>
 some (⟨(v1.tmod 4),1,i64.wrap (1+i64.wrap (v1.tdiv 4))⟩:aF)
instance zaW2(a0:Int):OkP (zq0 a0) 18 [.int .i64 a0] (λ r=>ga r):=ok1 (zq0.eq_1 a0) Tryz.f18 []
attribute [local irreducible] zq0
def zag1(j1:Unit):Option Bool:=
 some true
def zag2(a0:List bY)(a1:Int)(g1:Int×Int):Option ((Int×Int)⊕(Unit⊕Bool)):=
 (if(decide (g1.2<(a0.length:Int)))=true then
  gd (0<=g1.2/\g1.2<(a0.length:Int))<|
  gd ((!(decide ((a0.getD g1.2.toNat bY.zero).label<1)||decide (99<(a0.getD g1.2.toNat bY.zero).label)))=true->0<=0/\0<=g1.2/\g1.2<=(a0.length:Int))<|
  ((if(!(decide ((a0.getD g1.2.toNat bY.zero).label<1)||decide (99<(a0.getD g1.2.toNat bY.zero).label)))=true then zk5 (a0.take g1.2.toNat) ((a0.getD g1.2.toNat bY.zero).label)else some 0)).bind λ v1=>
  (if((decide ((a0.getD g1.2.toNat bY.zero).label<1)||decide (99<(a0.getD g1.2.toNat bY.zero).label))||decide (0<=v1))=true then
   some (.inr (.inr false))
  else
   (if(decide ((a0.getD g1.2.toNat bY.zero).at_<g1.1)||decide (a1<(a0.getD g1.2.toNat bY.zero).at_))=true then
    some (.inr (.inr false))
   else
    some (.inl ((a0.getD g1.2.toNat bY.zero).at_,i64.wrap (g1.2+1)))))
 else
  some (.inr (.inl ())))
def zg9(a0:List bY)(a1:Int):Option Bool:=
 (if(decide (4<(a0.length:Int)))=true then
  some false
 else
  (zg8 (zag2 a0 a1) (0,0)).bind (λ|.inl z=>zag1 z|.inr z=>some z))
@[reducible,instance] def zdv2 a0 a1:=mkJ (zg9 a0 a1) 0 (@zag1.eq_1) λ(j1:Unit)=>⟨[],[],0⟩
@[reducible,instance] def zdv3 (a0:List bY) (a1:Int) {T:Type} (x:T):=mkL x (@zag2.eq_1 a0 a1) λ(g1:Int×Int)=>⟨[(0,la a0),(1,.int .i64 a1),(5,.int .i64 g1.1),(11,la a0),(12,.int .i64 (a0.length:Int)),(13,.int .i64 g1.2)],[],0⟩
instance zbC3(a0:List bY)(a1:Int):OkP (zg9 a0 a1) 122 [la a0,.int .i64 a1] (λ r=>.bool r):=ok1 (zg9.eq_1 a0 a1) Tryz.f122 []
attribute [local irreducible] zg9
def zl7(a0:aP):Option Int:=
 (zg5 a0 1 0).bind λ v1=>
 some v1.1
instance zaZ5(a0:aP):OkP (zl7 a0) 130 [ga a0] (λ r=>.int .i64 r):=ok1 (zl7.eq_1 a0) Tryz.f130 []
attribute [local irreducible] zl7
def zc0(a0:List aO)(a1:aO):Option Bool:=
 (zb4 a0 a1).bind λ v1=>
 some (decide (0<=v1))
instance zZ6(a0:List aO)(a1:aO):OkP (zc0 a0 a1) 237 [la a0,ga a1] (λ r=>.bool r):=ok1 (zc0.eq_1 a0 a1) Tryz.f237 []
attribute [local irreducible] zc0
def zg6(a0:bZ)(a1:aO):Option Bool:=
 (zb4 a0.atoms a1).bind λ v1=>
 gd ((decide (0<=v1)&&decide (v1<(a0.set.length:Int)))=true->0<=v1/\v1<(a0.set.length:Int))<|
 some ((decide (0<=v1)&&decide (v1<(a0.set.length:Int)))&&a0.set.getD v1.toNat false)
instance zbx0(a0:bZ)(a1:aO):OkP (zg6 a0 a1) 283 [ga a0,ga a1] (λ r=>.bool r):=ok1 (zg6.eq_1 a0 a1) Tryz.f283 []
attribute [local irreducible] zg6
def zb1(a0:Int)(a1 a2:List aH):Option (List aH):=gd (0<=a0/\a0<=(a2.length:Int)) (bif a1.length==0 then some a2 else gd (a2.length+a1.length<=4294967296) (some (a2.take a0.toNat++a1++a2.drop a0.toNat)))
theorem zR4(a0:Int)(a1 a2:List aH)(r:(List aH))(h:zb1 a0 a1 a2=some r):MFn C 143 [.own 0 0 a2.length,.int .i64 a0,la a1] [(0,sx a2)] 1 (.own 1 0 r.length) [(1,sx r)] 2:=by
 obtain⟨⟨h0,h1⟩,h⟩:=ze5 h
 by_cases e:a1.length=0
 · refine(zB9 a0 a1 a2).ok r ?_
   rw[e]at h;simp at h;subst h;simp[za4,gd,h0,h1,e]
 have e':(a1.length==0)=false:=by simpa using e
 rw[e',cond_false]at h;obtain⟨hb,h⟩:=ze5 h
 by_cases e2:a0=(a2.length:Int)
 · refine(zB9 a0 a1 a2).ok r ?_
   subst e2;simp at h;have e3:a1≠[]:=λ h=>e (by simp[h]);simp[za4,gd,e,e3,h,hb]
 obtain⟨i,rfl⟩:=gN h0;cases h;have hl:(a2.take (i:Int).toNat++a1++a2.drop (i:Int).toNat).length=a2.length+a1.length:=by simp;omega
 have hh:=zch6 aH.enc aH.len (aH.enc aH.zero) i a1 a2 (by omega) (by omega) hb;rw[hl];simp only[Int.toNat_natCast];exact hh
attribute [local irreducible] zb1
def zf8(a0:bK):Option bK:=
 (ze8 a0.bQ).bind λ v1=>
 some ({a0 with bQ:=v1})
instance zbv3(a0:bK):OkP (zf8 a0) 36 [ga a0] (λ r=>ga r):=⟨λ r h=>by
 refine zx6 Tryz.f36 [] λ E hG hN hK=>?_;have hm:Mk (zf8 a0):=trivial;unfold zf8 at h;refine za2 (za3 hG ?_);refine za2 (za3 hG ?_);obtain⟨v1,hv1,h⟩:=zd2 h;have hm:=mkP hm v1;refine zn1 (λ hg=>(zaE8 a0.bQ).ok _ hv1) ?_;refine za2 (za3 hG ?_);refine zo3 ?_;exact zt5 h (by intro e;subst e;simp[aF.enc,aO.enc,aJ.enc])⟩
attribute [local irreducible] zf8
def zl8(a0:Int):Option Int:=
 (if false=true then
  (zh2 (u32.wrap a0)).bind λ v1=>
  some v1
 else
  (zg4 a0).bind λ v2=>
  some v2)
instance zbR6(a0:Int):OkP (zl8 a0) 187 [.int .u64 a0] (λ r=>.int .i64 r):=ok1 (zl8.eq_1 a0) Tryz.f187 []
attribute [local irreducible] zl8
def zq4(a0 a1:aD):Bool:=
 (if(!decide (a0.cost=a1.cost))=true then
  (decide (a0.cost<a1.cost))
 else
  (if(!decide (zz3 a0.set=zz3 a1.set))=true then
   (decide (zz3 a0.set<zz3 a1.set))
  else
   (!decide (zn0 .and .u64 (zn0 .and .u64 a0.set (zn0 .xor .u64 a0.set a1.set)) (u64.wrap (0-zn0 .xor .u64 a0.set a1.set))=0))))
theorem zas7(a0 a1:aD):PFn C 336 [ga a0,ga a1] (.bool (zq4 a0 a1)):=by
 generalize h:zq4 a0 a1=r;refine zx6 Tryz.f336 [] λ E hG hN hK=>?_;unfold zq4 at h;refine za2 (za3 hG ?_);refine za2 (za2 (za3 hG ?_));refine zh3 rfl hG h (λ _ h=>?_) (λ _ h=>?_)
 · refine za2 (za3 hG ?_)
   refine zo3 ?_;exact zaZ1 h
 refine zh0 ?_;refine za2 (zaj5 zv9 hG ?_);refine zD0 (λ hg=>(zaa7 a0.set).ok) ?_;refine zD0 (λ hg=>(zaa7 a1.set).ok) ?_;refine za2 (za2 (za3 hG ?_));refine zh3 rfl hG h (λ _ h=>?_) (λ _ h=>?_)
 · refine za2 (za3 hG ?_)
   refine zo3 ?_;exact zaZ1 h
 refine zh0 ?_;refine za2 (za3 hG ?_);refine za2 (za3 hG ?_);refine zo3 ?_;exact zaZ1 h
instance zbf2(a0 a1:aD):OkT 336 [.agg (aD.enc a0),.agg (aD.enc a1)] (.bool (zq4 a0 a1)):=⟨zas7 a0 a1⟩
def zi1(a0:aC)(a1:aF):Option (aC×aF):=
 (zk8 a0.aV a1).bind λ v1=>
 some ({a0 with aV:=v1.1},a1)
instance zaL1(a0:aC)(a1:aF):OkM (zi1 a0 a1) 224 [.ptr 0 0 0,.ptr 1 0 0] [(0,bx a0),(1,bx a1)] 2 (λ r=>.tup []) (λ r=>[(0,bx r.1),(1,bx r.2)]) 2:=okm (zi1.eq_1 a0 a1) (λ r=>[]) Tryz.f224 []
attribute [local irreducible] zi1
attribute [local irreducible] zj8 zg3 zd7 zm3 zc5 zh9 zi0 zh4 zj1 zk2 zn8 zm1 zb6 zj0 zd8 zi5 zq5 zl0 zm9 zf0 zc3 zf5 zb0
def zC4(a0:aW):Bool:=
 (((((zj7 a0.aZ&&(zw4 ({aG.zero with kind:=1,bJ:=1}) a0.aY||zw4 ({aG.zero with kind:=2,bJ:=8}) a0.aY))&&decide (0<=a0.bT))&&decide (a0.bT<=7))&&decide (0<=a0.cC))&&decide (a0.cC<=3))
theorem zaW3(a0:aW):PFn C 303 [ga a0] (.bool (zC4 a0)):=by generalize h:zC4 a0=r;refine zx6 Tryz.f303 [] λ E hG hN hK=>?_;have hm:Mk (zC4 a0):=trivial;unfold zC4 at h;exact gogo
instance zbH6(a0:aW):OkT 303 [.agg (aW.enc a0)] (.bool (zC4 a0)):=⟨zaW3 a0⟩
def zq6(a0:aC):Option (List aW):=
 (zc5 [a0.aV,a0.bO]).bind λ v1=>
 some v1
instance zca3(a0:aC):OkP (zq6 a0) 235 [ga a0] (λ r=>la r):=ok1 (zq6.eq_1 a0) Tryz.f235 []
attribute [local irreducible] zq6
def zj3(a0:aO):Option Bool:=
 (zg3 a0.name).bind λ v1=>
 some (v1&&(zw4 ({aG.zero with kind:=1,bJ:=1}) a0.aY||zw4 ({aG.zero with kind:=2,bJ:=8}) a0.aY))
instance zaL2(a0:aO):OkP (zj3 a0) 192 [ga a0] (λ r=>.bool r):=⟨λ r h=>by
 refine zx6 Tryz.f192 [] λ E hG hN hK=>?_;have hm:Mk (zj3 a0):=trivial;unfold zj3 at h;exact gogo⟩
attribute [local irreducible] zj3
def zad4(j1:(List aO)):Option (List aO):=
 some j1
def zad5(a90:(aP->List aO->Option (List aO)))(a0:aP)(g1:Int×(List aO)):Option ((Int×(List aO))⊕(List aO)):=
 (if(decide (g1.1<(a0.bU.length:Int)))=true then
  gd (0<=g1.1/\g1.1<(a0.bU.length:Int))<|
  (a90 (a0.bU.getD g1.1.toNat aP.zero) g1.2).bind λ v2=>
  some (.inl ((i64.wrap (g1.1+1)),v2))
 else
  some (.inr g1.2))
def zK0(a90:(aP->List aO->Option (List aO)))(a0:aP)(a1:List aO):Option (List aO):=
 (if(decide ((a0.bU.length:Int)=0))=true then
  (zc0 a1 a0.bV).bind λ v1=>
  (if v1=true then
   some a1
  else
   gd (a1.length+1<=4294967296)<|
   some (a1++[a0.bV]))
 else
  (zg8 (zad5 a90 a0) (0,a1)).bind (λ z=>zad4 z))
def zU2:Nat->(aP->List aO->Option (List aO))
 |0=>λ _ _=>none
 |n+1=>zK0 (zU2 n)
def zj5(a0:aP)(a1:List aO):Option (List aO):=zU2 (_root_.SizeOf.sizeOf a0+1) a0 a1
@[reducible,instance] def zdv4 (a90:(aP->List aO->Option (List aO))) (a0:aP) (a1:List aO):=mkJ (zK0 a90 a0 a1) 0 (@zad4.eq_1) λ(j1:(List aO))=>⟨[(0,.own 1 0 j1.length)],[(1,sx j1)],2⟩
@[reducible,instance] def zdv5 (a90:(aP->List aO->Option (List aO))) (a0:aP) {T:Type} (x:T):=mkL x (@zad5.eq_1 a90 a0) λ(g1:Int×(List aO))=>⟨[(0,.own 1 0 g1.2.length),(22,la a0.bU),(23,.int .i64 (a0.bU.length:Int)),(24,.int .i64 g1.1)],[(1,sx g1.2)],2⟩
abbrev zO2(g:(aP->List aO->Option (List aO))):Prop:=∀(a0:aP) (a1:List aO),OkM (g a0 a1) 185 [.own 0 0 a1.length,.agg (aP.enc a0)] [(0,⟨false,3,aO.enc aO.zero,a1.map aO.enc⟩)] 1 (λ r=>.own 1 0 r.length) (λ r=>[(1,⟨false,3,aO.enc aO.zero,r.map aO.enc⟩)]) 2
theorem zaF3(a90:(aP->List aO->Option (List aO)))(hrc:zO2 a90):zO2 (zK0 a90):=λ a0 a1=>okm (zK0.eq_1 a90 a0 a1) (λ r=>[.own 1 0 r.length]) Tryz.f185 [(4,1)]
theorem zaF4:∀n,zO2 (zU2 n):=zaE7 (λ _ _=>⟨λ _ h=>nomatch h⟩) λ n=>zaF3 _
instance zbv4:zO2 zj5:=λ a0 a1=>zaF4 _ a0 a1
attribute [local irreducible] zj5
def zaP4(j1:Unit):Option Int:=
 some 0
def zaP5(a0 a1 g1:Int):Option (Int⊕(Unit⊕Int)):=
 (if(decide (g1<=5))=true then
  (zn8 g1 a0).bind λ v1=>
  ((if v1=true then zn8 g1 a1 else some false)).bind λ v2=>
  (if(v1&&v2)=true then
   some (.inr (.inr g1))
  else
   some (.inl (i64.wrap (g1+1))))
 else
  some (.inr (.inl ())))
def zt8(a0 a1:Int):Option Int:=
 (zg8 (zaP5 a0 a1) 1).bind (λ|.inl z=>zaP4 z|.inr z=>some z)
@[reducible,instance] def zdv6 a0 a1:=mkJ (zt8 a0 a1) 0 (@zaP4.eq_1) λ(j1:Unit)=>⟨[],[],0⟩
@[reducible,instance] def zdv7 (a0 a1:Int) {T:Type} (x:T):=mkL x (@zaP5.eq_1 a0 a1) λ(g1:Int)=>⟨[(0,.int .i64 a0),(1,.int .i64 a1),(5,.int .i64 g1)],[],0⟩
instance zcn3(a0 a1:Int):OkP (zt8 a0 a1) 285 [.int .i64 a0,.int .i64 a1] (λ r=>.int .i64 r):=ok1 (zt8.eq_1 a0 a1) Tryz.f285 []
attribute [local irreducible] zt8
def zK1(j2:aM):Option aM:=
 some j2
@[go_sem] def zcs5(j2:aM):St:=⟨[(2,.ptr 0 0 0),(3,.ptr 1 0 0)],[(0,bx aM.zero),(1,⟨false,3,aM.enc aM.zero,[[.int .i64 j2.now,.own 2 0 j2.aB.length,.own 3 0 j2.bA.length]]⟩),(2,sx j2.aB),(3,sx j2.bA)],4⟩
def zU7(a0:aM)(g1:Int×aM):Option ((Int×aM)⊕aM):=
 (if(decide (g1.1<(a0.bA.length:Int)))=true then
  gd (0<=g1.1/\g1.1<(a0.bA.length:Int))<|
  (zf0 (a0.bA.getD g1.1.toNat aH.zero)).bind λ v1=>
  gd (g1.2.bA.length+1<=4294967296)<|
  some (.inl ((i64.wrap (g1.1+1)),(⟨g1.2.now,g1.2.aB,(g1.2.bA++[v1])⟩:aM)))
 else
  some (.inr g1.2))
@[go_sem] def zcs6(a0:aM)(g1:Int×aM):St:=⟨[(2,.ptr 0 0 0),(3,.ptr 1 0 0),(27,la a0.bA),(28,.int .i64 (a0.bA.length:Int)),(29,.int .i64 g1.1)],[(0,bx aM.zero),(1,⟨false,3,aM.enc aM.zero,[[.int .i64 g1.2.now,.own 2 0 g1.2.aB.length,.own 3 0 g1.2.bA.length]]⟩),(2,sx g1.2.aB),(3,sx g1.2.bA)],4⟩
def zK2(a0 j1:aM):Option aM:=
 (zg8 (zU7 a0) (0,j1)).bind (λ z=>zK1 z)
@[go_sem] def zcs7(a0 j1:aM):St:=⟨[(1,.ptr 0 0 0),(2,.ptr 1 0 0),(3,.ptr 2 0 0)],[(0,bx a0),(1,bx aM.zero),(2,⟨false,3,aM.enc aM.zero,[[.int .i64 j1.now,.own 3 0 j1.aB.length,.own 4 0 j1.bA.length]]⟩),(3,sx j1.aB),(4,sx j1.bA)],5⟩
def zU8(a0:aM)(g2:Int×aM):Option ((Int×aM)⊕aM):=
 (if(decide (g2.1<(a0.aB.length:Int)))=true then
  gd (0<=g2.1/\g2.1<(a0.aB.length:Int))<|
  (zf1 (a0.aB.getD g2.1.toNat aC.zero)).bind λ v2=>
  gd (g2.2.aB.length+1<=4294967296)<|
  some (.inl ((i64.wrap (g2.1+1)),(⟨g2.2.now,(g2.2.aB++[v2]),g2.2.bA⟩:aM)))
 else
  some (.inr g2.2))
@[go_sem] def zcs8(a0:aM)(g2:Int×aM):St:=⟨[(1,.ptr 0 0 0),(2,.ptr 1 0 0),(3,.ptr 2 0 0),(12,la a0.aB),(13,.int .i64 (a0.aB.length:Int)),(14,.int .i64 g2.1)],[(0,bx a0),(1,bx aM.zero),(2,⟨false,3,aM.enc aM.zero,[[.int .i64 g2.2.now,.own 3 0 g2.2.aB.length,.own 4 0 g2.2.bA.length]]⟩),(3,sx g2.2.aB),(4,sx g2.2.bA)],5⟩
def zf9(a0:aM):Option aM:=
 (zg8 (zU8 a0) (0,(⟨a0.now,[],[]⟩:aM))).bind (λ z=>zK2 a0 z)
theorem zas8(a0 r:aM)(h:zf9 a0=some r):MFn C 50 [ga a0] [] 0 (.agg [.int .i64 r.now,.own 0 0 r.aB.length,.own 1 0 r.bA.length]) [(0,sx r.aB),(1,sx r.bA)] 2:=by
 refine zK4 Tryz.f50 [(10,8),(3,8)] [.agg [.int .i64 r.now,.own 0 0 r.aB.length,.own 1 0 r.bA.length]] λ E hG hN hK=>?_;unfold zf9 at h;refine za2 (za3 hG ?_);refine za2 (za3 hG ?_);refine g_gh (.ownb 2 1 8 (aC.enc aC.zero)) ?_;refine g_gh (.ownb 2 2 16 (aH.enc aH.zero)) ?_;refine za2 (za2 (za3 hG ?_));refine zs5 (zcs7 a0) (λ v=>zK2 a0 v=some r) ?_ ?_
 · intro j1 h
   unfold zK2 at h;refine g_st ?_;refine za2 (za2 (za3 hG ?_));refine zs5 zcs5 (λ v=>zK1 v=some r) ?_ ?_
   · intro j2 h
     unfold zK1 at h;refine g_st ?_;refine za2 (za3 hG ?_);refine zo3 ?_;exact zw8 [(0,2),(1,3)] h
   refine zz0 (zcs6 a0) hK [(0,1),(1,2),(2,3),(3,4)] h (λ x_l1 h g1 y_l1 h_l1 hx_l1=>?_);unfold zU7 at h_l1;refine g_st ?_;refine za2 (za3 hG ?_);refine za2 ?_;refine zh3 rfl hG h_l1 (λ _ h_l1=>?_) (λ _ h_l1=>?_)
   · refine zh0 ?_
     refine za2 (zr6 (za2 ?_));obtain⟨hb2,h_l1⟩:=ze5 h_l1;refine za3 hG ?_;refine zP1 zv9 hG ?_;obtain⟨v1,hv1,h_l1⟩:=zd2 h_l1;obtain⟨hb1,h_l1⟩:=ze5 h_l1;refine zx8 (λ hg=>zad3 _ _ hv1) ?_;refine za3 hG ?_;exact zy5 hK [(0,0),(1,1),(2,2),(3,5)] h_l1
   refine zv7 ?_;cases h_l1;cases hx_l1 _ rfl;exact zs8 hK [(0,0),(1,1),(2,2),(3,3)] g1.2 (by exact h)
 refine zz0 (zcs8 a0) hK [(0,0),(1,1),(2,2),(3,3),(4,4)] h (λ x_l2 h g2 y_l2 h_l2 hx_l2=>?_);unfold zU8 at h_l2;refine g_st ?_;refine za2 (za3 hG ?_);refine za2 ?_;refine zh3 rfl hG h_l2 (λ _ h_l2=>?_) (λ _ h_l2=>?_)
 · refine zh0 ?_
   refine za2 (zr6 (za2 ?_));obtain⟨hb4,h_l2⟩:=ze5 h_l2;refine za3 hG ?_;refine zP1 zv9 hG ?_;obtain⟨v2,hv2,h_l2⟩:=zd2 h_l2;obtain⟨hb3,h_l2⟩:=ze5 h_l2;refine zx8 (λ hg=>(zaH8 (a0.aB.getD g2.1.toNat aC.zero)).ok _ hv2) ?_;refine za3 hG ?_;exact zy5 hK [(0,0),(1,1),(2,2),(3,6),(4,4)] h_l2
 refine zv7 ?_;cases h_l2;cases hx_l2 _ rfl;exact zs8 hK [(0,0),(1,1),(2,2),(3,3),(4,4)] g2.2 (by exact h)
attribute [local irreducible] zf9
def zZ7(j1:Unit):Option Bool:=
 some true
def zZ8(a0:aI)(g1:Int):Option (Int⊕(Unit⊕Bool)):=
 (if(decide (g1<(a0.lower.length:Int)))=true then
  gd (0<=g1/\g1<(a0.lower.length:Int))<|
  (zg3 ((a0.lower.getD g1.toNat aO.zero).name)).bind λ v1=>
  gd ((v1&&decide (0<g1))=true->0<=i64.wrap (g1-1)/\i64.wrap (g1-1)<(a0.lower.length:Int))<|
  (if((!v1)||(decide (0<g1)&&(!Op.bytesLess ((a0.lower.getD ((i64.wrap (g1-1)).toNat) aO.zero).name).toList ((a0.lower.getD g1.toNat aO.zero).name).toList)))=true then
   some (.inr (.inr false))
  else
   (if((!decide ((a0.lower.getD g1.toNat aO.zero).aY={aJ.zero with}))&&(!(zab1 ((a0.lower.getD g1.toNat aO.zero).aY))))=true then
    some (.inr (.inr false))
   else
    some (.inl (i64.wrap (g1+1)))))
 else
  some (.inr (.inl ())))
def zh8(a0:aI):Option Bool:=
 (if((!(zj7 a0.aZ))||((!decide (a0.label=(-1)))&&(decide (a0.label<1)||decide (99<a0.label))))=true then
  some false
 else
  (if((decide (a0.cost<1)||decide (1073741824<a0.cost))||decide (8<(a0.lower.length:Int)))=true then
   some false
  else
   (zg8 (zZ8 a0) 0).bind (λ|.inl z=>zZ7 z|.inr z=>some z)))
@[reducible,instance] def zdv8 a0:=mkJ (zh8 a0) 0 (@zZ7.eq_1) λ(j1:Unit)=>⟨[],[],0⟩
@[reducible,instance] def zdv9 (a0:aI) {T:Type} (x:T):=mkL x (@zZ8.eq_1 a0) λ(g1:Int)=>⟨[(1,.ptr 0 0 0),(39,la a0.lower),(40,.int .i64 (a0.lower.length:Int)),(41,.int .i64 g1)],[(0,bx a0)],1⟩
instance zaw5(a0:aI):OkP (zh8 a0) 52 [ga a0] (λ r=>.bool r):=ok1 (zh8.eq_1 a0) Tryz.f52 []
attribute [local irreducible] zh8
def zC1(a0:aG)(a1:aJ):Bool:=
 (zJ1 a0&&(zx9 a1||zw4 a0 a1))
instance zaN5(a0:aG)(a1:aJ):OkT 227 [.agg (aG.enc a0),.agg (aJ.enc a1)] (.bool (zC1 a0 a1)):=ok2 (λ r=>.bool r) (zC1.eq_1 a0 a1) Tryz.f227 []
def zp0(a0 a1:aJ):Option Bool:=
 (if((!(zab1 a1))||decide (a0=a1))=true then
  some false
 else
  (if(decide (a0={aJ.zero with}))=true then
   some true
  else
   (if(!(zab1 a0))=true then
    some false
   else
    (if((!decide (a0.mode=0))||(!decide (a1.mode=0)))=true then
     ((if((!decide (a0.mode=0))&&(!decide (a1.mode=0)))=true then zn8 a1.mode a0.mode else some false)).bind λ v1=>
     some (((!decide (a0.mode=0))&&(!decide (a1.mode=0)))&&v1)
    else
     some (decide (a0.bJ<a1.bJ))))))
instance zbT5(a0 a1:aJ):OkP (zp0 a0 a1) 121 [ga a0,ga a1] (λ r=>.bool r):=ok1 (zp0.eq_1 a0 a1) Tryz.f121 []
attribute [local irreducible] zp0
theorem zW7:SlLaysF0.n6 C.P ⟨λ|6=>170|15=>187|14=>231|28=>247|29=>32|20=>275|21=>276|22=>277|23=>278|24=>279|25=>280|26=>281|27=>282|46=>308|47=>289|48=>290|49=>309|50=>310|57=>315|n=>n,λ|22=>98|24=>38|25=>303|39=>179|53=>369|55=>89|46=>361|45=>360|50=>366|66=>395|70=>319|76=>416|77=>417|n=>n,λ n=>n⟩ where
 mixed:=zv9
 f6:=⟨Tryz.f170.name,by decide,Tryz.func170.trans (dA some (by kernel_rfl))⟩
 f14:=⟨Tryz.f231.name,by decide,Tryz.func231.trans (dA some (by kernel_rfl))⟩
 f15:=Tryz.func187.trans (dA some (by kernel_rfl))
 f20:=⟨Tryz.f275.name,by decide,Tryz.func275.trans (dA some (by kernel_rfl))⟩
 f21:=⟨Tryz.f276.name,by decide,Tryz.func276.trans (dA some (by kernel_rfl))⟩
 f22:=⟨Tryz.f277.name,by decide,Tryz.func277.trans (dA some (by kernel_rfl))⟩
 f23:=⟨Tryz.f278.name,by decide,Tryz.func278.trans (dA some (by kernel_rfl))⟩
 f24:=⟨Tryz.f279.name,by decide,Tryz.func279.trans (dA some (by kernel_rfl))⟩
 f25:=⟨Tryz.f280.name,by decide,Tryz.func280.trans (dA some (by kernel_rfl))⟩
 f26:=⟨Tryz.f281.name,by decide,Tryz.func281.trans (dA some (by kernel_rfl))⟩
 f27:=⟨Tryz.f282.name,by decide,Tryz.func282.trans (dA some (by kernel_rfl))⟩
 f28:=Tryz.func247.trans (dA some (by kernel_rfl))
 f29:=Tryz.func32.trans (dA some (by kernel_rfl))
 f46:=⟨Tryz.f308.name,by decide,Tryz.func308.trans (dA some (by kernel_rfl))⟩
 f47:=Tryz.func289.trans (dA some (by kernel_rfl))
 f48:=Tryz.func290.trans (dA some (by kernel_rfl))
 f49:=⟨Tryz.f309.name,by decide,Tryz.func309.trans (dA some (by kernel_rfl))⟩
 f50:=⟨Tryz.f310.name,by decide,Tryz.func310.trans (dA some (by kernel_rfl))⟩
 f57:=⟨Tryz.f315.name,by decide,Tryz.func315.trans (dA some (by kernel_rfl))⟩
 t0:=Tryz.underlying0
 a0:=Tryz.isAgg0
 z0:=Tryz.sizeOf0
 v0:=Tryz.zeroValue0
 t3:=Tryz.underlying3
 a3:=Tryz.isAgg3
 z3:=Tryz.sizeOf3
 v3:=Tryz.zeroValue3
 t4:=Tryz.underlying4
 a4:=Tryz.isAgg4
 z4:=Tryz.sizeOf4
 v4:=Tryz.zeroValue4
 t5:=Tryz.underlying5
 a5:=Tryz.isAgg5
 z5:=Tryz.sizeOf5
 v5:=Tryz.zeroValue5
 t9:=Tryz.underlying9
 a9:=Tryz.isAgg9
 z9:=Tryz.sizeOf9
 v9:=Tryz.zeroValue9
 t22:=Tryz.underlying98
 a22:=Tryz.isAgg98
 z22:=Tryz.sizeOf98
 v22:=Tryz.zeroValue98
 t25:=Tryz.underlying303
 a25:=Tryz.isAgg303
 z25:=Tryz.sizeOf303
 v25:=Tryz.zeroValue303
 t39:=Tryz.underlying179
 a39:=Tryz.isAgg179
 z39:=Tryz.sizeOf179
 v39:=Tryz.zeroValue179
 t45:=Tryz.underlying360
 a45:=Tryz.isAgg360
 z45:=Tryz.sizeOf360
 v45:=Tryz.zeroValue360
 t46:=Tryz.underlying361
 a46:=Tryz.isAgg361
 z46:=Tryz.sizeOf361
 v46:=Tryz.zeroValue361
 t50:=Tryz.underlying366
 a50:=Tryz.isAgg366
 z50:=Tryz.sizeOf366
 v50:=Tryz.zeroValue366
 t53:=Tryz.underlying369
 a53:=Tryz.isAgg369
 z53:=Tryz.sizeOf369
 v53:=Tryz.zeroValue369
 t55:=Tryz.underlying89
 a55:=Tryz.isAgg89
 z55:=Tryz.sizeOf89
 v55:=Tryz.zeroValue89
 t66:=Tryz.underlying395
 a66:=Tryz.isAgg395
 z66:=Tryz.sizeOf395
 v66:=Tryz.zeroValue395
 t70:=Tryz.underlying319
 a70:=Tryz.isAgg319
 z70:=Tryz.sizeOf319
 v70:=Tryz.zeroValue319
 t76:=Tryz.underlying416
 a76:=Tryz.isAgg416
 z76:=Tryz.sizeOf416
 v76:=Tryz.zeroValue416
 t77:=Tryz.underlying417
 a77:=Tryz.isAgg417
 z77:=Tryz.sizeOf417
 v77:=Tryz.zeroValue417
def zv4(x y:aO):Int:=Go.Lib.compareBytes x.name.data.toList y.name.data.toList
theorem zV2(x y:aO):zm1 x y=some (zv4 x y):=by unfold zm1 zg7;rfl
def zc7(a0:List aO):Option (List aO):=gd (a0.length<=4294967296/\a0.Pairwise λ x y=>zv4 x y<0\/zv4 y x<0) (some (zbY1 a0 λ x y=>!decide (zv4 y x<0)))
theorem zV3(a0 r:List aO)(h:zc7 a0=some r):r.length=a0.length:=by obtain⟨_,h⟩:=ze5 h;obtain rfl:=dP h;rw[zaV6];exact List.length_mergeSort _
theorem zV4(a0 r:List aO)(h:zc7 a0=some r):MFn C 170 [.own 0 0 a0.length,.clo 171 []] [(0,sx a0)] 1 (.tup []) [(0,sx r)] 1:=by obtain⟨⟨hl,hp⟩,h⟩:=ze5 h;obtain rfl:=dP h;rw[zaV6];exact zbB8 zW7 aO.enc 3 aO.len (by decide) (λ x=>by first|exact(aO.laws x).1|exact(aO.laws x).2.1) Tryz.isAgg38 Tryz.sizeOf38 zv4 (zch4 (λ x:aO=>x.name) zbZ9) 171 (λ x y=>(zaZ4 x y).ok _ (zV2 x y)) (enters_of Tryz.func171 (by kernel_rfl) rfl) rfl _ a0 hl (zbM0 hp)
attribute [local irreducible] zc7
def ze2(a0:List aF)(a1:aF):Option Bool:=
 (zc3 a0 a1).bind λ v1=>
 some v1
instance zaA9(a0:List aF)(a1:aF):OkP (ze2 a0 a1) 41 [la a0,ga a1] (λ r=>.bool r):=⟨λ r h=>by
 refine zx6 Tryz.f41 [] λ E hG hN hK=>?_;have hm:Mk (ze2 a0 a1):=trivial;unfold ze2 at h;exact gogo⟩
attribute [local irreducible] ze2
def ze4(a0 a1:Int)(a2:List aD):Option (Bool×(List aD)):=
 gd (0<=a0/\a0<((a2.length:Nat):Int))<|
 gd (0<=a1/\a1<((a2.length:Nat):Int))<|
 some ((zq4 (a2.getD a0.toNat aD.zero) (a2.getD a1.toNat aD.zero)),a2)
instance zM1(a0 a1:Int)(a2:List aD):OkM (ze4 a0 a1 a2) 332 [.own 0 0 a2.length,.int .i64 a0,.int .i64 a1] [(0,sx a2)] 1 (λ r=>.bool r.1) (λ r=>[(0,sx r.2)]) 1:=okm (ze4.eq_1 a0 a1 a2) (λ r=>[.bool r.1]) Tryz.f332 []
attribute [local irreducible] ze4
def zR9(j1:(List aC)):Option (List aC):=
 some j1
def zS0(a0:List aC)(g1:Int×(List aC)):Option ((Int×(List aC))⊕(List aC)):=
 (if(decide (g1.1<(a0.length:Int)))=true then
  gd (0<=g1.1/\g1.1<(a0.length:Int))<|
  (zh4 (a0.getD g1.1.toNat aC.zero)).bind λ v1=>
  gd (g1.2.length+1<=4294967296)<|
  some (.inl ((i64.wrap (g1.1+1)),(g1.2++[v1])))
 else
  some (.inr g1.2))
def ze3(a0:List aC):Option (List aC):=
 (zg8 (zS0 a0) (0,[])).bind (λ z=>zR9 z)
@[reducible,instance] def zdw0 (a0:List aC):=mkJ (ze3 a0) 0 (@zR9.eq_1) λ(j1:(List aC))=>⟨[(5,.own 0 0 j1.length)],[(0,sx j1)],1⟩
@[reducible,instance] def zdw1 (a0:List aC) {T:Type} (x:T):=mkL x (@zS0.eq_1 a0) λ(g1:Int×(List aC))=>⟨[(1,.clo 86 []),(5,.own 0 0 g1.2.length),(8,la a0),(9,.int .i64 (a0.length:Int)),(10,.int .i64 g1.1)],[(0,sx g1.2)],1⟩
instance zan8(a0:List aC):OkM (ze3 a0) 85 [la a0,.clo 86 []] [] 0 (λ r=>la r) (λ r=>[]) 0:=⟨λ r h=>by
 refine zK4 Tryz.f85 [(5,1)] [la r] λ E hG hN hK=>?_;have hm:Mk (ze3 a0):=trivial;unfold ze3 at h;refine za2 (za3 hG ?_);refine za2 (za3 hG ?_);refine za2 (za2 (za3 hG ?_));refine zQ7 hm h (λ j1 hm h=>?_) ?_
 · try refine g_st ?_
   refine za2 (za3 hG ?_);refine g_gh (.fz [0]) ?_;exact gogo
 exact gogo⟩
attribute [local irreducible] ze3
def zC5(j1:(List aC)):Option (List aC):=
 some j1
def zC6(g1:Int×(List aC))(j2:(List aC)):Option ((Int×(List aC))⊕(List aC)):=
 some (.inl ((i64.wrap (g1.1+1)),j2))
def zC7(a0:Int)(g2:Int×(List aC)):Option ((Int×(List aC))⊕(List aC)):=
 gd (decide (a0<g2.1)=true->0<=g2.1/\g2.1<((g2.2.length:Nat):Int))<|
 gd (decide (a0<g2.1)=true->0<=i64.wrap (g2.1-1)/\i64.wrap (g2.1-1)<((g2.2.length:Nat):Int))<|
 ((if(decide (a0<g2.1))=true then zj1 (g2.2.getD g2.1.toNat aC.zero) (g2.2.getD ((i64.wrap (g2.1-1)).toNat) aC.zero)else some 0)).bind λ v1=>
 (if(decide (a0<g2.1)&&decide (v1<0))=true then
  gd (0<=i64.wrap (g2.1-1)/\i64.wrap (g2.1-1)<((g2.2.length:Nat):Int))<|
  gd (0<=g2.1/\g2.1<((g2.2.length:Nat):Int))<|
  gd (0<=g2.1/\g2.1<((g2.2.length:Nat):Int))<|
  gd (0<=i64.wrap (g2.1-1)/\i64.wrap (g2.1-1)<((g2.2.length:Nat):Int))<|
  some (.inl ((i64.wrap (g2.1-1)),(g2.2.set g2.1.toNat (g2.2.getD ((i64.wrap (g2.1-1)).toNat) aC.zero)).set ((i64.wrap (g2.1-1)).toNat) (g2.2.getD g2.1.toNat aC.zero)))
 else
  some (.inr g2.2))
def zu8(a0 a1:Int)(g1:Int×(List aC)):Option ((Int×(List aC))⊕(List aC)):=
 (if(decide (g1.1<a1))=true then
  (zg8 (zC7 a0) (g1.1,g1.2)).bind (λ z=>zC6 g1 z)
 else
  some (.inr g1.2))
def zb3(a0 a1:Int)(a2:List aC):Option (List aC):=
 (zg8 (zu8 a0 a1) ((i64.wrap (a0+1)),a2)).bind (λ z=>zC5 z)
@[reducible,instance] def zdw2 a0 a1 a2:=mkJ (zb3 a0 a1 a2) 0 (@zC5.eq_1) λ(j1:(List aC))=>⟨[],[(0,sx j1)],1⟩
@[reducible,instance] def zdw3 (a0 a1:Int) (g1:Int×(List aC)):=mkJ (zu8 a0 a1 g1) 2 (@zC6.eq_1 g1) λ(j2:(List aC))=>⟨[(0,.own 0 0 j2.length),(1,.int .i64 a0),(2,.int .i64 a1),(3,.clo 89 []),(8,.int .i64 g1.1)],[(0,sx j2)],1⟩
@[reducible,instance] def zdw4 (a0 a1:Int) (g1:Int×(List aC)):=mkL (zu8 a0 a1 g1) (@zC7.eq_1 a0) λ(g2:Int×(List aC))=>⟨[(0,.own 0 0 g2.2.length),(1,.int .i64 a0),(2,.int .i64 a1),(3,.clo 89 []),(8,.int .i64 g1.1),(9,.int .i64 g2.1)],[(0,sx g2.2)],1⟩
@[reducible,instance] def zdw5 (a0 a1:Int) {T:Type} (x:T):=mkL x (@zu8.eq_1 a0 a1) λ(g1:Int×(List aC))=>⟨[(0,.own 0 0 g1.2.length),(1,.int .i64 a0),(2,.int .i64 a1),(3,.clo 89 []),(8,.int .i64 g1.1)],[(0,sx g1.2)],1⟩
instance zD1(a0 a1:Int)(a2:List aC):OkM (zb3 a0 a1 a2) 204 [.own 0 0 a2.length,.int .i64 a0,.int .i64 a1,.clo 89 []] [(0,sx a2)] 1 (λ r=>.tup []) (λ r=>[(0,sx r)]) 1:=okm (zb3.eq_1 a0 a1 a2) (λ r=>[]) Tryz.f204 []
attribute [local irreducible] zb3
def ltS(x y:aF):Prop:=x.site<y.site\/x.site=y.site/\(x.inc<y.inc\/x.inc=y.inc/\x.num<y.num)
instance(x y:aF):Decidable (ltS x y):=by unfold ltS;infer_instance
def cmpS(x y:aF):Int:=if ltS x y then-1 else if ltS y x then 1 else 0
theorem zaB0(x y:aF):ltOf cmpS x y=decide (ltS x y):=by
 unfold ltOf cmpS
 by_cases h:ltS x y
 .simp[h]
 .by_cases h2:ltS y x<;>simp[h,h2]
theorem zca4:Go.Sort.SWO (ltOf cmpS) where
 irrefl x:=by rw[zaB0];simp[ltS]
 trans x y z h1 h2:=by rw[zaB0,eV]at*;unfold ltS at*;omega
 ntrans x y z h1 h2:=by rw[zaB0,eD]at*;unfold ltS at*;omega
theorem zbH7(x y:aF)(h1:ltOf cmpS x y=false)(h2:ltOf cmpS y x=false):x=y:=by rw[zaB0,eD]at*;unfold ltS at*;rw[aF.ext_iff];omega
theorem zch7(p q:aF):zd7 p q=some (cmpS p q):=by
 unfold zd7 zi9;have e:∀(x y z:Int) (i:Nat) (h:[x,y,z].length=3),Arr.get (⟨[x,y,z],h⟩:Arr Int 3) i 0=match i with|0=>x|1=>y|_=>z:=by
  intro x y z i h
  match i with
  |0=>rfl
  |1=>rfl
  |2=>rfl
  |n+3=>
    have:¬(n+3<3):=by omega
    simp[Arr.get,zF8,this]
 have w1:i64.wrap (0+1)=1:=by decide
 have w2:i64.wrap (1+1)=2:=by decide
 have w3:i64.wrap (2+1)=3:=by decide
 have s3:zw9 ⟨[p.site,p.inc,p.num],rfl⟩ ⟨[q.site,q.inc,q.num],rfl⟩ 3=some (.inr (.inl ())):=by unfold zw9;simp
 have s2:zw9 ⟨[p.site,p.inc,p.num],rfl⟩ ⟨[q.site,q.inc,q.num],rfl⟩ 2=some (if p.num<q.num then .inr (.inr (-1))else if q.num<p.num then .inr (.inr 1)else .inl 3):=by
  unfold zw9;rw[cQ (by decide),zw6 (by decide),zw6 (by decide),zw6 (by decide)];simp only[e,show(2:Int).toNat=2 from rfl,eV,w3]
  by_cases h:p.num<q.num
  .simp[h]
  .by_cases h2:q.num<p.num<;>simp[h,h2]
 have s1:zw9 ⟨[p.site,p.inc,p.num],rfl⟩ ⟨[q.site,q.inc,q.num],rfl⟩ 1=some (if p.inc<q.inc then .inr (.inr (-1))else if q.inc<p.inc then .inr (.inr 1)else .inl 2):=by
  unfold zw9;rw[cQ (by decide),zw6 (by decide),zw6 (by decide),zw6 (by decide)];simp only[e,show(1:Int).toNat=1 from rfl,eV,w2]
  by_cases h:p.inc<q.inc
  .simp[h]
  .by_cases h2:q.inc<p.inc<;>simp[h,h2]
 have s0:zw9 ⟨[p.site,p.inc,p.num],rfl⟩ ⟨[q.site,q.inc,q.num],rfl⟩ 0=some (if p.site<q.site then .inr (.inr (-1))else if q.site<p.site then .inr (.inr 1)else .inl 1):=by
  unfold zw9;rw[cQ (by decide),zw6 (by decide),zw6 (by decide),zw6 (by decide)];simp only[e,show(0:Int).toNat=0 from rfl,eV,w1]
  by_cases h:p.site<q.site
  .simp[h]
  .by_cases h2:q.site<p.site<;>simp[h,h2]
 unfold cmpS ltS
 by_cases a1:p.site<q.site
 .rw[zt6,s0];simp[a1]
 · by_cases a2:q.site<p.site
   · rw[zt6,s0]
     have:¬p.site=q.site:=by omega
     simp[a1,a2,this]
   · have h1:p.site=q.site:=by omega
     by_cases b1:p.inc<q.inc
     .rw[zt6,s0];simp only[a1,a2,cV];rw[zt6,s1];simp[b1,h1]
     · by_cases b2:q.inc<p.inc
       · have:¬p.inc=q.inc:=by omega
         rw[zt6,s0];simp only[a1,a2,cV];rw[zt6,s1];simp[b1,b2,h1,this]
       · have h2:p.inc=q.inc:=by omega
         rw[zt6,s0];simp only[a1,a2,cV];rw[zt6,s1];simp only[b1,b2,cV];rw[zt6,s2]
         by_cases c1:p.num<q.num
         .simp[c1,h1,h2]
         · by_cases c2:q.num<p.num
           .simp[c1,c2,h1,h2]
           .simp only[c1,c2,cV];rw[zt6,s3];simp[h1,h2,zab9]
def zao5(a0:aP)(j1:Int):Option Bool:=
 some (decide (a0.k<=j1))
def zao6(a90:(aP->bZ->Option Bool))(a0:aP)(a1:bZ)(g1:Int×Int):Option ((Int×Int)⊕Int):=
 (if(decide (g1.2<(a0.bU.length:Int)))=true then
  gd (0<=g1.2/\g1.2<(a0.bU.length:Int))<|
  (a90 (a0.bU.getD g1.2.toNat aP.zero) a1).bind λ v2=>
  (if v2=true then
   some (.inl ((i64.wrap (g1.1+1)),i64.wrap (g1.2+1)))
  else
   some (.inl (g1.1,i64.wrap (g1.2+1))))
 else
  some (.inr g1.1))
def zS7(a90:(aP->bZ->Option Bool))(a0:aP)(a1:bZ):Option Bool:=
 (if(decide ((a0.bU.length:Int)=0))=true then
  (zg6 a1 a0.bV).bind λ v1=>
  some v1
 else
  (zg8 (zao6 a90 a0 a1) (0,0)).bind (λ z=>zao5 a0 z))
def zag3:Nat->(aP->bZ->Option Bool)
 |0=>λ _ _=>none
 |n+1=>zS7 (zag3 n)
def zn4(a0:aP)(a1:bZ):Option Bool:=zag3 (_root_.SizeOf.sizeOf a0+1) a0 a1
@[reducible,instance] def zdw6 (a90:(aP->bZ->Option Bool)) (a0:aP) (a1:bZ):=mkJ (zS7 a90 a0 a1) 0 (@zao5.eq_1 a0) λ(j1:Int)=>⟨[(2,.ptr 0 0 0),(5,.int .i64 j1)],[(0,bx a0)],1⟩
@[reducible,instance] def zdw7 (a90:(aP->bZ->Option Bool)) (a0:aP) (a1:bZ) {T:Type} (x:T):=mkL x (@zao6.eq_1 a90 a0 a1) λ(g1:Int×Int)=>⟨[(1,.bnd 283 (bZ.enc a1)),(2,.ptr 0 0 0),(5,.int .i64 g1.1),(17,la a0.bU),(18,.int .i64 (a0.bU.length:Int)),(19,.int .i64 g1.2)],[(0,bx a0)],1⟩
abbrev zZ0(g:(aP->bZ->Option Bool)):Prop:=∀(a0:aP) (a1:bZ),OkM (g a0 a1) 284 [.agg (aP.enc a0),.bnd 283 (bZ.enc a1)] [] 0 (λ r=>.bool r) (λ r=>[]) 0
theorem zaS3(a90:(aP->bZ->Option Bool))(hrc:zZ0 a90):zZ0 (zS7 a90):=λ a0 a1=>okm (zS7.eq_1 a90 a0 a1) (λ r=>[.bool r]) Tryz.f284 [(15,2)]
theorem zaS4:∀n,zZ0 (zag3 n):=zaE7 (λ _ _=>⟨λ _ h=>nomatch h⟩) λ n=>zaS3 _
instance zbH8:zZ0 zn4:=λ a0 a1=>zaS4 _ a0 a1
attribute [local irreducible] zn4
def zj9(a0:aH)(a1:aF):Option (Bool×aF):=
 (zd7 a0.aZ a1).bind λ v1=>
 some ((decide (v1=0)),a1)
instance zbx1(a0:aH)(a1:aF):OkM (zj9 a0 a1) 118 [ga a0,.ptr 0 0 0] [(0,bx a1)] 1 (λ r=>.bool r.1) (λ r=>[(0,bx r.2)]) 1:=okm (zj9.eq_1 a0 a1) (λ r=>[.bool r.1]) Tryz.f118 []
attribute [local irreducible] zj9
def zF5(j1:(List ByteArray)):Option (List ByteArray):=
 some j1
def zF6(g1:Int×(List ByteArray))(j2:(List ByteArray)):Option ((Int×(List ByteArray))⊕(List ByteArray)):=
 some (.inl ((i64.wrap (g1.1+1)),j2))
def zF7(a0:Int)(g2:Int×(List ByteArray)):Option ((Int×(List ByteArray))⊕(List ByteArray)):=
 gd (decide (a0<g2.1)=true->0<=g2.1/\g2.1<((g2.2.length:Nat):Int))<|
 gd (decide (a0<g2.1)=true->0<=i64.wrap (g2.1-1)/\i64.wrap (g2.1-1)<((g2.2.length:Nat):Int))<|
 (if(decide (a0<g2.1)&&zag0 (g2.2.getD g2.1.toNat ⟨#[]⟩) (g2.2.getD ((i64.wrap (g2.1-1)).toNat) ⟨#[]⟩))=true then
  gd (0<=i64.wrap (g2.1-1)/\i64.wrap (g2.1-1)<((g2.2.length:Nat):Int))<|
  gd (0<=g2.1/\g2.1<((g2.2.length:Nat):Int))<|
  gd (0<=g2.1/\g2.1<((g2.2.length:Nat):Int))<|
  gd (0<=i64.wrap (g2.1-1)/\i64.wrap (g2.1-1)<((g2.2.length:Nat):Int))<|
  some (.inl ((i64.wrap (g2.1-1)),(g2.2.set g2.1.toNat (g2.2.getD ((i64.wrap (g2.1-1)).toNat) ⟨#[]⟩)).set ((i64.wrap (g2.1-1)).toNat) (g2.2.getD g2.1.toNat ⟨#[]⟩)))
 else
  some (.inr g2.2))
def zw0(a0 a1:Int)(g1:Int×(List ByteArray)):Option ((Int×(List ByteArray))⊕(List ByteArray)):=
 (if(decide (g1.1<a1))=true then
  (zg8 (zF7 a0) (g1.1,g1.2)).bind (λ z=>zF6 g1 z)
 else
  some (.inr g1.2))
def zc6(a0 a1:Int)(a2:List ByteArray):Option (List ByteArray):=
 (zg8 (zw0 a0 a1) ((i64.wrap (a0+1)),a2)).bind (λ z=>zF5 z)
@[reducible,instance] def zdw8 a0 a1 a2:=mkJ (zc6 a0 a1 a2) 0 (@zF5.eq_1) λ(j1:(List ByteArray))=>⟨[],[(0,⟨false,1,[A.str ⟨#[]⟩],j1.map eS⟩)],1⟩
@[reducible,instance] def zdw9 (a0 a1:Int) (g1:Int×(List ByteArray)):=mkJ (zw0 a0 a1 g1) 2 (@zF6.eq_1 g1) λ(j2:(List ByteArray))=>⟨[(0,.own 0 0 j2.length),(1,.int .i64 a0),(2,.int .i64 a1),(6,.int .i64 g1.1)],[(0,⟨false,1,[A.str ⟨#[]⟩],j2.map eS⟩)],1⟩
@[reducible,instance] def zdx0 (a0 a1:Int) (g1:Int×(List ByteArray)):=mkL (zw0 a0 a1 g1) (@zF7.eq_1 a0) λ(g2:Int×(List ByteArray))=>⟨[(0,.own 0 0 g2.2.length),(1,.int .i64 a0),(2,.int .i64 a1),(6,.int .i64 g1.1),(7,.int .i64 g2.1)],[(0,⟨false,1,[A.str ⟨#[]⟩],g2.2.map eS⟩)],1⟩
@[reducible,instance] def zdx1 (a0 a1:Int) {T:Type} (x:T):=mkL x (@zw0.eq_1 a0 a1) λ(g1:Int×(List ByteArray))=>⟨[(0,.own 0 0 g1.2.length),(1,.int .i64 a0),(2,.int .i64 a1),(6,.int .i64 g1.1)],[(0,⟨false,1,[A.str ⟨#[]⟩],g1.2.map eS⟩)],1⟩
instance zaI0(a0 a1:Int)(a2:List ByteArray):OkM (zc6 a0 a1 a2) 238 [.own 0 0 a2.length,.int .i64 a0,.int .i64 a1] [(0,⟨false,1,[A.str ⟨#[]⟩],a2.map eS⟩)] 1 (λ r=>.tup []) (λ r=>[(0,⟨false,1,[A.str ⟨#[]⟩],r.map eS⟩)]) 1:=okm (zc6.eq_1 a0 a1 a2) (λ r=>[]) Tryz.f238 []
attribute [local irreducible] zc6
def zO3(a0 a1:Int):bD×Int:=
 (if(!decide ((zL4 a0 a1).2=0))=true then
  ({bD.zero with},(zL4 a0 a1).2)
 else
  ({bD.zero with token:=(zL4 a0 a1).1},0))
theorem zbv5(a0 a1:Int):PFn C 137 [.int .i64 a0,.int .i64 a1] (.tup [ga ((zO3 a0 a1).1),.int .i64 ((zO3 a0 a1).2)]):=by generalize h:zO3 a0 a1=r;refine zx6 Tryz.f137 [] λ E hG hN hK=>?_;have hm:Mk (zO3 a0 a1):=trivial;unfold zO3 at h;exact gogo
instance zcd5(a0 a1:Int):OkT 137 [.int .i64 a0,.int .i64 a1] (.tup [.agg (bD.enc ((zO3 a0 a1).1)),.int .i64 ((zO3 a0 a1).2)]):=⟨zbv5 a0 a1⟩
def zl9(a0 a1:bK):Option Int:=
 (zd7 a0.aZ a1.aZ).bind λ v1=>
 some v1
instance zbH9(a0 a1:bK):OkP (zl9 a0 a1) 92 [ga a0,ga a1] (λ r=>.int .i64 r):=ok1 (zl9.eq_1 a0 a1) Tryz.f92 []
attribute [local irreducible] zl9
def zag4(j1:(List aF)):Option (List aF):=
 some j1
def zag5(a0:List aF)(a1:aF)(g1:Int×(List aF)):Option ((Int×(List aF))⊕(List aF)):=
 (if(decide (g1.1<(a0.length:Int)))=true then
  gd (0<=g1.1/\g1.1<(a0.length:Int))<|
  (zd7 (a0.getD g1.1.toNat aF.zero) a1).bind λ v1=>
  (if(!decide (v1=0))=true then
   gd (g1.2.length+1<=4294967296)<|
   some (.inl ((i64.wrap (g1.1+1)),(g1.2++[(a0.getD g1.1.toNat aF.zero)])))
  else
   some (.inl ((i64.wrap (g1.1+1)),g1.2)))
 else
  some (.inr g1.2))
def zj4(a0:List aF)(a1:aF):Option (List aF):=
 (zg8 (zag5 a0 a1) (0,[])).bind (λ z=>zag4 z)
@[reducible,instance] def zdx2 a0 a1:=mkJ (zj4 a0 a1) 0 (@zag4.eq_1) λ(j1:(List aF))=>⟨[(5,.own 0 0 j1.length)],[(0,sx j1)],1⟩
@[reducible,instance] def zdx3 (a0:List aF) (a1:aF) {T:Type} (x:T):=mkL x (@zag5.eq_1 a0 a1) λ(g1:Int×(List aF))=>⟨[(3,.ptr 0 0 0),(5,.own 1 0 g1.2.length),(8,la a0),(9,.int .i64 (a0.length:Int)),(10,.int .i64 g1.1)],[(0,bx a1),(1,sx g1.2)],2⟩
instance zbC4(a0:List aF)(a1:aF):OkP (zj4 a0 a1) 45 [la a0,ga a1] (λ r=>la r):=ok1 (zj4.eq_1 a0 a1) Tryz.f45 [(5,1)]
attribute [local irreducible] zj4
end
end Ab
end Go.Proofs.YtamndckemppjdaaGreatDoor
