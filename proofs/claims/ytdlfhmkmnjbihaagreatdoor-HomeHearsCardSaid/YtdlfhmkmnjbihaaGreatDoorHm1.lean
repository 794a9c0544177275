import Derived.Test.YtdlfhmkmnjbihaaGreatDoorAuto
namespace Go.Proofs.YtdlfhmkmnjbihaaGreatDoor
namespace Ab
open IntKind (i64 u64 u8)
set_option linter.unusedSimpArgs false
set_option linter.defProp false
set_option linter.unusedVariables false
set_option maxRecDepth 100000
set_option maxHeartbeats 1000000
noncomputable section
def zbh4(j1:(List aD)):Option (List aD):=
 some j1
def zav3(a0:List aD)(a1:Int)(g1:Int×(List aD)):Option ((Int×(List aD))⊕(List aD)):=
 (if(decide (g1.1<(a0.length:Int)))=true then
  gd (0<=g1.1/\g1.1<(a0.length:Int))<|
  (if(decide ((a0.getD g1.1.toNat aD.zero).home=a1))=true then
   gd (g1.2.length+1<=4294967296)<|
   some (.inl ((i64.wrap (g1.1+1)),(g1.2++[(a0.getD g1.1.toNat aD.zero)])))
  else
   some (.inl ((i64.wrap (g1.1+1)),g1.2)))
 else
  some (.inr g1.2))
def zl5(a0:List aD)(a1:Int):Option (List aD):=
 (zc1 (zav3 a0 a1) (0,[])).bind (λ z=>zbh4 z)
@[reducible,instance] def zeG8 a0 a1:=mkJ (zl5 a0 a1) 0 (@zbh4.eq_1) λ(j1:(List aD))=>⟨[(5,.own 0 0 j1.length)],[(0,sx j1)],1⟩
@[reducible,instance] def zeG9 (a0:List aD) (a1:Int) {T:Type} (x:T):=mkL x (@zav3.eq_1 a0 a1) λ(g1:Int×(List aD))=>⟨[(1,.int .i64 a1),(5,.own 0 0 g1.2.length),(8,la a0),(9,.int .i64 (a0.length:Int)),(10,.int .i64 g1.1)],[(0,sx g1.2)],1⟩
instance zdG2(a0:List aD)(a1:Int):OkP (zl5 a0 a1) 35 [la a0,.int .i64 a1] (λ r=>la r):=ok1 (zl5.eq_1 a0 a1) Tryz.f35 [(5,1)]
attribute [local irreducible] zl5
def zK2(a0 a1 a2:Int):Bool:=
 (decide (a1<=a0)&&decide (a0<=a2))
instance zdi1(a0 a1 a2:Int):OkT 81 [.int .i64 a0,.int .i64 a1,.int .i64 a2] (.bool (zK2 a0 a1 a2)):=ok2 (λ r=>.bool r) (zK2.eq_1 a0 a1 a2) Tryz.f81 []
def zaZ5(j1:Unit):Option aC:=
 some ({aC.zero with})
def zL3(a0:List aT)(a1:aF)(g1:Int):Option (Int⊕(Unit⊕aC)):=
 (if(decide (g1<(a0.length:Int)))=true then
  gd (0<=g1/\g1<(a0.length:Int))<|
  (if(decide ((a0.getD g1.toNat aT.zero).aI=a1))=true then
   some (.inr (.inr ((a0.getD g1.toNat aT.zero).aJ)))
  else
   some (.inl (i64.wrap (g1+1))))
 else
  some (.inr (.inl ())))
def zj8(a0:List aT)(a1:aF):Option aC:=
 (zc1 (zL3 a0 a1) 0).bind (λ|.inl z=>zaZ5 z|.inr z=>some z)
@[reducible,instance] def zeH0 a0 a1:=mkJ (zj8 a0 a1) 0 (@zaZ5.eq_1) λ(j1:Unit)=>⟨[(4,.ptr 0 0 0)],[(0,bx aC.zero)],1⟩
@[reducible,instance] def zeH1 (a0:List aT) (a1:aF) {T:Type} (x:T):=mkL x (@zL3.eq_1 a0 a1) λ(g1:Int)=>⟨[(3,.ptr 0 0 0),(4,.ptr 1 0 0),(7,la a0),(8,.int .i64 (a0.length:Int)),(9,.int .i64 g1)],[(0,bx a1),(1,bx aC.zero)],2⟩
instance zdw1(a0:List aT)(a1:aF):OkP (zj8 a0 a1) 150 [la a0,ga a1] (λ r=>ga r):=ok1 (zj8.eq_1 a0 a1) Tryz.f150 []
attribute [local irreducible] zj8
def zbl8(j1:Unit):Option Int:=
 some (-1)
def zam7(a0:List aM)(a1:aF)(g1:Int):Option (Int⊕(Unit⊕Int)):=
 (if(decide (g1<(a0.length:Int)))=true then
  gd (0<=g1/\g1<(a0.length:Int))<|
  (if(decide ((a0.getD g1.toNat aM.zero).aI=a1))=true then
   some (.inr (.inr g1))
  else
   some (.inl (i64.wrap (g1+1))))
 else
  some (.inr (.inl ())))
def zl7(a0:List aM)(a1:aF):Option Int:=
 (zc1 (zam7 a0 a1) 0).bind (λ|.inl z=>zbl8 z|.inr z=>some z)
@[reducible,instance] def zeH2 a0 a1:=mkJ (zl7 a0 a1) 0 (@zbl8.eq_1) λ(j1:Unit)=>⟨[],[],0⟩
@[reducible,instance] def zeH3 (a0:List aM) (a1:aF) {T:Type} (x:T):=mkL x (@zam7.eq_1 a0 a1) λ(g1:Int)=>⟨[(3,.ptr 0 0 0),(7,la a0),(8,.int .i64 (a0.length:Int)),(9,.int .i64 g1)],[(0,bx a1)],1⟩
instance zcy3(a0:List aM)(a1:aF):OkP (zl7 a0 a1) 213 [la a0,ga a1] (λ r=>.int .i64 r):=ok1 (zl7.eq_1 a0 a1) Tryz.f213 []
attribute [local irreducible] zl7
def zaP6(a0:Int):(Arr Bool 6):=
 (if(decide (a0=5))=true then
  (Arr.put (Arr.put (Arr.put (Arr.put (Arr.put (Arr.rep 6 false) 5 true) 4 true) 3 true) 2 true) 1 true)
 else
  (if(decide (a0=4))=true then
   (Arr.put (Arr.put (Arr.put (Arr.put (Arr.rep 6 false) 4 true) 3 true) 2 true) 1 true)
  else
   (if(decide (a0=2))=true then
    (Arr.put (Arr.put (Arr.rep 6 false) 2 true) 1 true)
   else
    (if(decide (a0=1))=true then
     (Arr.put (Arr.rep 6 false) 1 true)
    else
     (if(decide (a0=3))=true then
      (Arr.put (Arr.put (Arr.rep 6 false) 3 true) 1 true)
     else
      (Arr.rep 6 false))))))
instance zdp4(a0:Int):OkT 277 [.int .i64 a0] (.agg (Arr.enc eB (zaP6 a0))):=ok2 (λ r=>.agg (Arr.enc eB r)) (zaP6.eq_1 a0) Tryz.f277 []
def zu0(f:Nat):Option Nat:=bif Nat.beq f 187 then some 0 else bif Nat.beq f 188 then some 1 else bif Nat.beq f 189 then some 2 else bif Nat.beq f 190 then some 3 else bif Nat.beq f 191 then some 4 else bif Nat.beq f 192 then some 5 else bif Nat.beq f 193 then some 6 else none
def zi9(m:aK)(k:Nat):Int:=match k with|0=>m.gen|1=>m.round|2=>m.epoch|3=>m.aX|4=>m.site|5=>m.inc|_=>m.label
def zC5(m:aK)(k:Nat)(n:Int):aK:=match k with|0=>{m with gen:=n}|1=>{m with round:=n}|2=>{m with epoch:=n}|3=>{m with aX:=n}|4=>{m with site:=n}|5=>{m with inc:=n}|_=>{m with label:=n}
def zaN2(k:Nat):Nat:=match k with|0=>4|1=>10|2=>11|3=>8|4=>12|5=>9|_=>13
@[go_sem] theorem zee3(m:aK)(k:Nat):sub (aK.enc m) (zaN2 k) 1=[.int .i64 (zi9 m k)]:=match k with|0=>rfl|1=>rfl|2=>rfl|3=>rfl|4=>rfl|5=>rfl|_+6=>rfl
@[go_sem] theorem zee4(m:aK)(k:Nat)(n:Int):upd (aK.enc m) (zaN2 k) [.int .i64 n]=aK.enc (zC5 m k n):=match k with|0=>rfl|1=>rfl|2=>rfl|3=>rfl|4=>rfl|5=>rfl|_+6=>rfl
@[go_sem] theorem zeg7(k:Nat):(zaN2 k+1<=18)=True:=eq_true (match k with|0=>(by show 4+1<=18;decide)|1=>(by show 10+1<=18;decide)|2=>(by show 11+1<=18;decide)|3=>(by show 8+1<=18;decide)|4=>(by show 12+1<=18;decide)|5=>(by show 9+1<=18;decide)|_+6=>(by show 13+1<=18;decide))
theorem zbj5(m:aK):MFn C 187 [.ptr 0 0 0] [(0,bx m)] 1 (.ptr 0 0 4) [(0,bx m)] 1:=by refine zU4 Tryz.f187 [] [.ptr 0 0 4] λ E hG hN hK=>?_;refine za0 (za1 hG ?_);refine za0 (za1 hG ?_);refine zm8 ?_;obtain⟨r,h⟩:∃r:Unit,some ()=some r:=⟨(),rfl⟩;exact zx8 [(0,0)] h
theorem zbj6(m:aK):MFn C 188 [.ptr 0 0 0] [(0,bx m)] 1 (.ptr 0 0 10) [(0,bx m)] 1:=by refine zU4 Tryz.f188 [] [.ptr 0 0 10] λ E hG hN hK=>?_;refine za0 (za1 hG ?_);refine za0 (za1 hG ?_);refine zm8 ?_;obtain⟨r,h⟩:∃r:Unit,some ()=some r:=⟨(),rfl⟩;exact zx8 [(0,0)] h
theorem zbj7(m:aK):MFn C 189 [.ptr 0 0 0] [(0,bx m)] 1 (.ptr 0 0 11) [(0,bx m)] 1:=by refine zU4 Tryz.f189 [] [.ptr 0 0 11] λ E hG hN hK=>?_;refine za0 (za1 hG ?_);refine za0 (za1 hG ?_);refine zm8 ?_;obtain⟨r,h⟩:∃r:Unit,some ()=some r:=⟨(),rfl⟩;exact zx8 [(0,0)] h
theorem zbj8(m:aK):MFn C 190 [.ptr 0 0 0] [(0,bx m)] 1 (.ptr 0 0 8) [(0,bx m)] 1:=by refine zU4 Tryz.f190 [] [.ptr 0 0 8] λ E hG hN hK=>?_;refine za0 (za1 hG ?_);refine za0 (za1 hG ?_);refine zm8 ?_;obtain⟨r,h⟩:∃r:Unit,some ()=some r:=⟨(),rfl⟩;exact zx8 [(0,0)] h
theorem zbj9(m:aK):MFn C 191 [.ptr 0 0 0] [(0,bx m)] 1 (.ptr 0 0 12) [(0,bx m)] 1:=by refine zU4 Tryz.f191 [] [.ptr 0 0 12] λ E hG hN hK=>?_;refine za0 (za1 hG ?_);refine za0 (za1 hG ?_);refine zm8 ?_;obtain⟨r,h⟩:∃r:Unit,some ()=some r:=⟨(),rfl⟩;exact zx8 [(0,0)] h
theorem zbk0(m:aK):MFn C 192 [.ptr 0 0 0] [(0,bx m)] 1 (.ptr 0 0 9) [(0,bx m)] 1:=by refine zU4 Tryz.f192 [] [.ptr 0 0 9] λ E hG hN hK=>?_;refine za0 (za1 hG ?_);refine za0 (za1 hG ?_);refine zm8 ?_;obtain⟨r,h⟩:∃r:Unit,some ()=some r:=⟨(),rfl⟩;exact zx8 [(0,0)] h
theorem zbk1(m:aK):MFn C 193 [.ptr 0 0 0] [(0,bx m)] 1 (.ptr 0 0 13) [(0,bx m)] 1:=by refine zU4 Tryz.f193 [] [.ptr 0 0 13] λ E hG hN hK=>?_;refine za0 (za1 hG ?_);refine za0 (za1 hG ?_);refine zm8 ?_;obtain⟨r,h⟩:∃r:Unit,some ()=some r:=⟨(),rfl⟩;exact zx8 [(0,0)] h
theorem zaM5{f k:Nat}(h:zu0 f=some k):f=187/\k=0\/f=188/\k=1\/f=189/\k=2\/f=190/\k=3\/f=191/\k=4\/f=192/\k=5\/f=193/\k=6:=by
 unfold zu0 at h
 by_cases e:f=187
 .subst e;obtain rfl:=dP (show some 0=some k from h);exact .inl ⟨rfl,rfl⟩
 rw[show Nat.beq f 187=false from cY.2 λ he=>e (fA he),cond_false]at h
 by_cases e:f=188
 .subst e;obtain rfl:=dP (show some 1=some k from h);exact .inr (.inl ⟨rfl,rfl⟩)
 rw[show Nat.beq f 188=false from cY.2 λ he=>e (fA he),cond_false]at h
 by_cases e:f=189
 .subst e;obtain rfl:=dP (show some 2=some k from h);exact .inr (.inr (.inl ⟨rfl,rfl⟩))
 rw[show Nat.beq f 189=false from cY.2 λ he=>e (fA he),cond_false]at h
 by_cases e:f=190
 .subst e;obtain rfl:=dP (show some 3=some k from h);exact .inr (.inr (.inr (.inl ⟨rfl,rfl⟩)))
 rw[show Nat.beq f 190=false from cY.2 λ he=>e (fA he),cond_false]at h
 by_cases e:f=191
 .subst e;obtain rfl:=dP (show some 4=some k from h);exact .inr (.inr (.inr (.inr (.inl ⟨rfl,rfl⟩))))
 rw[show Nat.beq f 191=false from cY.2 λ he=>e (fA he),cond_false]at h
 by_cases e:f=192
 .subst e;obtain rfl:=dP (show some 5=some k from h);exact .inr (.inr (.inr (.inr (.inr (.inl ⟨rfl,rfl⟩)))))
 rw[show Nat.beq f 192=false from cY.2 λ he=>e (fA he),cond_false]at h
 by_cases e:f=193
 .subst e;obtain rfl:=dP (show some 6=some k from h);exact .inr (.inr (.inr (.inr (.inr (.inr ⟨rfl,rfl⟩)))))
 rw[show Nat.beq f 193=false from cY.2 λ he=>e (fA he),cond_false]at h;cases h
theorem zak9(f:Nat)(m:aK)(k:Nat)(h:zu0 f=some k):MFn C f [.ptr 0 0 0] [(0,bx m)] 1 (.ptr 0 0 (zaN2 k)) [(0,bx m)] 1:=by
 rcases zaM5 h with⟨rfl,rfl⟩|⟨rfl,rfl⟩|⟨rfl,rfl⟩|⟨rfl,rfl⟩|⟨rfl,rfl⟩|⟨rfl,rfl⟩|⟨rfl,rfl⟩
 .exact zbj5 m
 .exact zbj6 m
 .exact zbj7 m
 .exact zbj8 m
 .exact zbj9 m
 .exact zbk0 m
 .exact zbk1 m
theorem zC6{f k:Nat}(h:zu0 f=some k):zD6 C.P f=true:=by rcases zaM5 h with⟨rfl,rfl⟩|⟨rfl,rfl⟩|⟨rfl,rfl⟩|⟨rfl,rfl⟩|⟨rfl,rfl⟩|⟨rfl,rfl⟩|⟨rfl,rfl⟩<;>kernel_rfl
def zaA3(j1:Int×Int):Option (Int×Int):=
 some ((i64.wrap (j1.1+1)),j1.2)
def zJ0(a90:(aZ->Int->Int->Option (Int×Int)))(a0:aZ)(a1:Int)(g1:Int×Int×Int):Option ((Int×Int×Int)⊕((Int×Int)⊕(Int×Int))):=
 (if(decide (g1.2.1<(a0.bE.length:Int)))=true then
  gd (0<=g1.2.1/\g1.2.1<(a0.bE.length:Int))<|
  (a90 (a0.bE.getD g1.2.1.toNat aZ.zero) (i64.wrap (a1+1)) g1.2.2).bind λ v1=>
  (if(decide (v1.1=0))=true then
   some (.inr (.inr (0,v1.2)))
  else
   some (.inl ((if g1.1<v1.1 then v1.1 else g1.1),i64.wrap (g1.2.1+1),v1.2)))
 else
  some (.inr (.inl (g1.1,g1.2.2))))
def zF7(a90:(aZ->Int->Int->Option (Int×Int)))(a0:aZ)(a1 a2:Int):Option (Int×Int):=
 (if(decide (4<a1)||decide (24<i64.wrap (a2+1)))=true then
  some (0,i64.wrap (a2+1))
 else
  (zc1 (zJ0 a90 a0 a1) (0,0,i64.wrap (a2+1))).bind (λ|.inl z=>zaA3 z|.inr z=>some z))
def zx9:Nat->(aZ->Int->Int->Option (Int×Int))
 |0=>λ _ _ _=>none
 |n+1=>zF7 (zx9 n)
def zd1(a0:aZ)(a1 a2:Int):Option (Int×Int):=zx9 (_root_.SizeOf.sizeOf a0+1) a0 a1 a2
@[reducible,instance] def zeh9 (a90:(aZ->Int->Int->Option (Int×Int))) (a0:aZ) (a1 a2:Int):=mkJ (zF7 a90 a0 a1 a2) 0 (@zaA3.eq_1) λ(j1:Int×Int)=>⟨[(7,.int .i64 j1.1)],[(0,⟨false,1,[A.int .i64 0],[[A.int .i64 j1.2]]⟩)],1⟩
@[reducible,instance] def zei0 (a90:(aZ->Int->Int->Option (Int×Int))) (a0:aZ) (a1:Int) {T:Type} (x:T):=mkL x (@zJ0.eq_1 a90 a0 a1) λ(g1:Int×Int×Int)=>⟨[(1,.int .i64 a1),(2,.ptr 0 0 0),(7,.int .i64 g1.1),(25,la a0.bE),(26,.int .i64 (a0.bE.length:Int)),(27,.int .i64 g1.2.1)],[(0,⟨false,1,[A.int .i64 0],[[A.int .i64 g1.2.2]]⟩)],1⟩
abbrev zac2(g:(aZ->Int->Int->Option (Int×Int))):Prop:=∀(a0:aZ) (a1:Int) (a2:Int),OkM (g a0 a1 a2) 283 [.agg (aZ.enc a0),.int .i64 a1,.ptr 0 0 0] [(0,⟨false,1,[A.int .i64 0],[[A.int .i64 a2]]⟩)] 1 (λ r=>.int .i64 r.1) (λ r=>[(0,⟨false,1,[A.int .i64 0],[[A.int .i64 r.2]]⟩)]) 1
theorem zbk2(a90:(aZ->Int->Int->Option (Int×Int)))(hrc:zac2 a90):zac2 (zF7 a90):=λ a0 a1 a2=>okm (zF7.eq_1 a90 a0 a1 a2) (λ r=>[.int .i64 r.1]) Tryz.f283 []
theorem zbk3:∀n,zac2 (zx9 n):=zbl7 (λ _ _ _=>⟨λ _ h=>nomatch h⟩) λ n=>zbk2 _
instance zcC5:zac2 zd1:=λ a0 a1 a2=>zbk3 _ a0 a1 a2
attribute [local irreducible] zd1
def zaU2(j1:(List aY)):Option (List aY):=
 some j1
def zal0(a0:ByteArray)(a1:List aT)(g1:Int×(List aY)):Option ((Int×(List aY))⊕(List aY)):=
 (if(decide (g1.1<(a1.length:Int)))=true then
  gd (0<=g1.1/\g1.1<(a1.length:Int))<|
  gd (g1.2.length+1<=4294967296)<|
  some (.inl ((i64.wrap (g1.1+1)),(g1.2++[(⟨1,(a1.getD g1.1.toNat aT.zero).aI,a0,(a1.getD g1.1.toNat aT.zero).aJ⟩:aY)])))
 else
  some (.inr g1.2))
def zg5(a0:ByteArray)(a1:List aT):Option (List aY):=
 (zc1 (zal0 a0 a1) (0,[])).bind (λ z=>zaU2 z)
@[reducible,instance] def zei1 (a0:ByteArray) (a1:List aT):=mkJ (zg5 a0 a1) 0 (@zaU2.eq_1) λ(j1:(List aY))=>⟨[(2,.own 0 0 j1.length)],[(0,sx j1)],1⟩
@[reducible,instance] def zei2 (a0:ByteArray) (a1:List aT) {T:Type} (x:T):=mkL x (@zal0.eq_1 a0 a1) λ(g1:Int×(List aY))=>⟨[(0,.str a0),(2,.own 0 0 g1.2.length),(9,la a1),(10,.int .i64 (a1.length:Int)),(11,.int .i64 g1.1)],[(0,sx g1.2)],1⟩
instance zdi2(a0:ByteArray)(a1:List aT):OkM (zg5 a0 a1) 149 [.str a0,la a1,.full ([].map aY.enc)] [] 0 (λ r=>la r) (λ r=>[]) 0:=⟨λ r h=>by
 refine zU4 Tryz.f149 [] [la r] λ E hG hN hK=>?_;have hm:Mk (zg5 a0 a1):=trivial;unfold zg5 at h;refine g_gh (.own0 2 7 (aY.enc aY.zero)) ?_;refine za0 (za1 hG ?_);refine za0 (za0 (za1 hG ?_));refine zaJ2 hm h (λ j1 hm h=>?_) ?_
 · try refine g_st ?_
   refine za0 (za1 hG ?_);refine g_gh (.fz [0]) ?_;exact gogo
 exact gogo⟩
attribute [local irreducible] zg5
def zaE5(a0:List aM)(j1:(List aM)):Option ((List aM)×Bool):=
 some (j1,decide (((j1.length:Nat):Int)<(a0.length:Int)))
def zad1(a0:List aM)(a1:aF)(g1:Int×(List aM)):Option ((Int×(List aM))⊕(List aM)):=
 (if(decide (g1.1<(a0.length:Int)))=true then
  gd (0<=g1.1/\g1.1<(a0.length:Int))<|
  (if(!decide ((a0.getD g1.1.toNat aM.zero).aI=a1))=true then
   gd (g1.2.length+1<=4294967296)<|
   some (.inl ((i64.wrap (g1.1+1)),(g1.2++[(a0.getD g1.1.toNat aM.zero)])))
  else
   some (.inl ((i64.wrap (g1.1+1)),g1.2)))
 else
  some (.inr g1.2))
def zi1(a0:List aM)(a1:aF):Option ((List aM)×Bool):=
 (zc1 (zad1 a0 a1) (0,[])).bind (λ z=>zaE5 a0 z)
@[reducible,instance] def zei3 (a0:List aM) a1:=mkJ (zi1 a0 a1) 0 (@zaE5.eq_1 a0) λ(j1:(List aM))=>⟨[(0,la a0),(6,.own 0 0 j1.length)],[(0,sx j1)],1⟩
@[reducible,instance] def zei4 (a0:List aM) (a1:aF) {T:Type} (x:T):=mkL x (@zad1.eq_1 a0 a1) λ(g1:Int×(List aM))=>⟨[(0,la a0),(3,.ptr 0 0 0),(6,.own 1 0 g1.2.length),(9,la a0),(10,.int .i64 (a0.length:Int)),(11,.int .i64 g1.1)],[(0,bx a1),(1,sx g1.2)],2⟩
instance zdw2(a0:List aM)(a1:aF):OkP (zi1 a0 a1) 211 [la a0,ga a1] (λ r=>.tup [la r.1,.bool r.2]):=ok1 (zi1.eq_1 a0 a1) Tryz.f211 [(6,1)]
attribute [local irreducible] zi1
def zaN3(a0:aF)(a1:ByteArray)(a2:aC):aY:=
 (⟨3,a0,a1,a2⟩:aY)
instance zdG3(a0:aF)(a1:ByteArray)(a2:aC):OkT 155 [.agg (aF.enc a0),.str a1,.agg (aC.enc a2)] (.agg (aY.enc (zaN3 a0 a1 a2))):=ok2 (λ r=>.agg (aY.enc r)) (zaN3.eq_1 a0 a1 a2) Tryz.f155 []
def zO0(a0:Int):Bool:=
 (decide (97<=a0)&&decide (a0<=122))
instance zdp5(a0:Int):OkT 176 [.int .u8 a0] (.bool (zO0 a0)):=ok2 (λ r=>.bool r) (zO0.eq_1 a0) Tryz.f176 []
def zaw8(j1:(List aC)):Option (List aC):=
 some j1
def zU5(a0:List aT)(g1:Int×(List aC)):Option ((Int×(List aC))⊕(List aC)):=
 (if(decide (g1.1<(a0.length:Int)))=true then
  gd (0<=g1.1/\g1.1<(a0.length:Int))<|
  gd (g1.2.length+1<=4294967296)<|
  some (.inl ((i64.wrap (g1.1+1)),(g1.2++[(a0.getD g1.1.toNat aT.zero).aJ])))
 else
  some (.inr g1.2))
def zf5(a0:List aT):Option (List aC):=
 (zc1 (zU5 a0) (0,[])).bind (λ z=>zaw8 z)
@[reducible,instance] def zei5 a0:=mkJ (zf5 a0) 0 (@zaw8.eq_1) λ(j1:(List aC))=>⟨[(3,.own 0 0 j1.length)],[(0,sx j1)],1⟩
@[reducible,instance] def zei6 (a0:List aT) {T:Type} (x:T):=mkL x (@zU5.eq_1 a0) λ(g1:Int×(List aC))=>⟨[(0,la a0),(3,.own 0 0 g1.2.length),(4,.int .i64 g1.1)],[(0,sx g1.2)],1⟩
instance zdi3(a0:List aT):OkP (zf5 a0) 274 [la a0] (λ r=>la r):=ok1 (zf5.eq_1 a0) Tryz.f274 [(3,1)]
attribute [local irreducible] zf5
def zbl9(j1:Unit):Option aC:=
 some ({aC.zero with})
def zaA4(a0:List aT)(a1:aF)(g1:Int):Option (Int⊕(Unit⊕aC)):=
 (if(decide (g1<(a0.length:Int)))=true then
  gd (0<=g1/\g1<(a0.length:Int))<|
  (if(decide ((a0.getD g1.toNat aT.zero).aI=a1))=true then
   gd (0<=g1/\g1<(a0.length:Int))<|
   some (.inr (.inr ((a0.getD g1.toNat aT.zero).aJ)))
  else
   some (.inl (i64.wrap (g1+1))))
 else
  some (.inr (.inl ())))
def zm6(a0:List aT)(a1:aF):Option aC:=
 (zc1 (zaA4 a0 a1) 0).bind (λ|.inl z=>zbl9 z|.inr z=>some z)
@[reducible,instance] def zei7 a0 a1:=mkJ (zm6 a0 a1) 0 (@zbl9.eq_1) λ(j1:Unit)=>⟨[(4,.ptr 0 0 0)],[(0,bx aC.zero)],1⟩
@[reducible,instance] def zei8 (a0:List aT) (a1:aF) {T:Type} (x:T):=mkL x (@zaA4.eq_1 a0 a1) λ(g1:Int)=>⟨[(0,la a0),(3,.ptr 0 0 0),(4,.ptr 1 0 0),(5,.int .i64 g1)],[(0,bx a1),(1,bx aC.zero)],2⟩
instance zdM1(a0:List aT)(a1:aF):OkP (zm6 a0 a1) 71 [la a0,ga a1] (λ r=>ga r):=ok1 (zm6.eq_1 a0 a1) Tryz.f71 []
attribute [local irreducible] zm6
def zl8(a0:aA):Option (aM×Bool):=
 (if(decide (0<(a0.aH.length:Int)))=true then
  gd (0<=0/\0<(a0.aH.length:Int))<|
  some ((a0.aH.getD 0 aM.zero),true)
 else
  (if(decide (0<(a0.aU.length:Int)))=true then
   gd (0<=0/\0<(a0.aU.length:Int))<|
   some ((a0.aU.getD 0 aM.zero),true)
  else
   some ({aM.zero with},false)))
instance zdG4(a0:aA):OkP (zl8 a0) 246 [ga a0] (λ r=>.tup [ga r.1,.bool r.2]):=ok1 (zl8.eq_1 a0) Tryz.f246 []
attribute [local irreducible] zl8
def zaE6(j2:(List aF)):Option (List aF):=
 some j2
def zaq1(a0:aA)(g1:Int×(List aF)):Option ((Int×(List aF))⊕(List aF)):=
 (if(decide (g1.1<(a0.aU.length:Int)))=true then
  gd (0<=g1.1/\g1.1<(a0.aU.length:Int))<|
  gd (g1.2.length+1<=4294967296)<|
  some (.inl ((i64.wrap (g1.1+1)),(g1.2++[(a0.aU.getD g1.1.toNat aM.zero).aI])))
 else
  some (.inr g1.2))
def zaq2(a0:aA)(j1:(List aF)):Option (List aF):=
 (zc1 (zaq1 a0) (0,j1)).bind (λ z=>zaE6 z)
def zaq3(a0:aA)(g2:Int×(List aF)):Option ((Int×(List aF))⊕(List aF)):=
 (if(decide (g2.1<(a0.aH.length:Int)))=true then
  gd (0<=g2.1/\g2.1<(a0.aH.length:Int))<|
  gd (g2.2.length+1<=4294967296)<|
  some (.inl ((i64.wrap (g2.1+1)),(g2.2++[(a0.aH.getD g2.1.toNat aM.zero).aI])))
 else
  some (.inr g2.2))
def zk4(a0:aA):Option (List aF):=
 (zc1 (zaq3 a0) (0,[])).bind (λ z=>zaq2 a0 z)
@[reducible,instance] def zei9 a0 j1:=mkJ (zaq2 a0 j1) 2 (@zaE6.eq_1) λ(j2:(List aF))=>⟨[(3,.own 0 0 j2.length)],[(0,sx j2)],1⟩
@[reducible,instance] def zej0 (a0:aA) {T:Type} (x:T):=mkL x (@zaq1.eq_1 a0) λ(g1:Int×(List aF))=>⟨[(1,.ptr 0 0 0),(3,.own 1 0 g1.2.length),(5,.int .i64 g1.1)],[(0,bx a0),(1,sx g1.2)],2⟩
@[reducible,instance] def zej1 (a0:aA):=mkJ (zk4 a0) 0 (@zaq2.eq_1 a0) λ(j1:(List aF))=>⟨[(1,.ptr 0 0 0),(3,.own 1 0 j1.length)],[(0,bx a0),(1,sx j1)],2⟩
@[reducible,instance] def zej2 (a0:aA) {T:Type} (x:T):=mkL x (@zaq3.eq_1 a0) λ(g2:Int×(List aF))=>⟨[(1,.ptr 0 0 0),(3,.own 1 0 g2.2.length),(4,.int .i64 g2.1)],[(0,bx a0),(1,sx g2.2)],2⟩
instance zdw3(a0:aA):OkP (zk4 a0) 70 [ga a0] (λ r=>la r):=ok1 (zk4.eq_1 a0) Tryz.f70 [(3,1)]
attribute [local irreducible] zk4
def zam8(a0:Int):Bool:=
 (decide (0<=a0)&&decide (a0<=1073741824))
instance zdp6(a0:Int):OkT 158 [.int .i64 a0] (.bool (zam8 a0)):=ok2 (λ r=>.bool r) (zam8.eq_1 a0) Tryz.f158 []
def ze1(a0:List aA)(a1:Int)(a2:aA):Option (List aA):=
 gd (a0.length<=4294967296)<|
 gd (0<=a1/\a1<((a0.length:Nat):Int))<|
 some (a0.set a1.toNat a2)
instance zbK7(a0:List aA)(a1:Int)(a2:aA):OkP (ze1 a0 a1 a2) 113 [la a0,.int .i64 a1,ga a2] (λ r=>la r):=ok1 (ze1.eq_1 a0 a1 a2) Tryz.f113 [(8,1)]
attribute [local irreducible] ze1
def zaU3(j1:(List aY)):Option (List aY):=
 some j1
def zal1(a0:ByteArray)(a1:List aT)(g1:Int×(List aY)):Option ((Int×(List aY))⊕(List aY)):=
 (if(decide (g1.1<(a1.length:Int)))=true then
  gd (0<=g1.1/\g1.1<(a1.length:Int))<|
  gd (0<=g1.1/\g1.1<(a1.length:Int))<|
  gd (g1.2.length+1<=4294967296)<|
  some (.inl ((i64.wrap (g1.1+1)),(g1.2++[(⟨1,(a1.getD g1.1.toNat aT.zero).aI,a0,(a1.getD g1.1.toNat aT.zero).aJ⟩:aY)])))
 else
  some (.inr g1.2))
def ze6(a0:ByteArray)(a1:List aT):Option (List aY):=
 (zc1 (zal1 a0 a1) (0,[])).bind (λ z=>zaU3 z)
@[reducible,instance] def zej3 a0 a1:=mkJ (ze6 a0 a1) 0 (@zaU3.eq_1) λ(j1:(List aY))=>⟨[(5,.own 0 0 j1.length)],[(0,sx j1)],1⟩
@[reducible,instance] def zej4 (a0:ByteArray) (a1:List aT) {T:Type} (x:T):=mkL x (@zal1.eq_1 a0 a1) λ(g1:Int×(List aY))=>⟨[(0,.str a0),(1,la a1),(5,.own 0 0 g1.2.length),(6,.int .i64 g1.1)],[(0,sx g1.2)],1⟩
instance zbT3(a0:ByteArray)(a1:List aT):OkP (ze6 a0 a1) 114 [.str a0,la a1] (λ r=>la r):=ok1 (ze6.eq_1 a0 a1) Tryz.f114 [(5,1)]
attribute [local irreducible] ze6
def zbm0(j1:Unit):Option Int:=
 some 0
def zaA5(a0:bC)(a1:aF)(a2:ByteArray)(g1:Int):Option (Int⊕(Unit⊕Int)):=
 (if(decide (g1<(a0.tags.length:Int)))=true then
  gd (0<=g1/\g1<(a0.tags.length:Int))<|
  (if(decide ((a0.tags.getD g1.toNat bF.zero).aI=a1)&&(((a0.tags.getD g1.toNat bF.zero).name).toList==a2.toList))=true then
   some (.inr (.inr ((a0.tags.getD g1.toNat bF.zero).gen)))
  else
   some (.inl (i64.wrap (g1+1))))
 else
  some (.inr (.inl ())))
def zn5(a0:bC)(a1:aF)(a2:ByteArray):Option Int:=
 (zc1 (zaA5 a0 a1 a2) 0).bind (λ|.inl z=>zbm0 z|.inr z=>some z)
@[reducible,instance] def zej5 a0 a1 a2:=mkJ (zn5 a0 a1 a2) 0 (@zbm0.eq_1) λ(j1:Unit)=>⟨[],[],0⟩
@[reducible,instance] def zej6 (a0:bC) (a1:aF) (a2:ByteArray) {T:Type} (x:T):=mkL x (@zaA5.eq_1 a0 a1 a2) λ(g1:Int)=>⟨[(2,.str a2),(4,.ptr 0 0 0),(10,la a0.tags),(11,.int .i64 (a0.tags.length:Int)),(12,.int .i64 g1)],[(0,bx a1)],1⟩
instance zdM2(a0:bC)(a1:aF)(a2:ByteArray):OkP (zn5 a0 a1 a2) 115 [ga a0,ga a1,.str a2] (λ r=>.int .i64 r):=ok1 (zn5.eq_1 a0 a1 a2) Tryz.f115 []
attribute [local irreducible] zn5
def zd4(a0:bJ):Option (Bool×bJ):=
 some ((decide (a0.at_<(a0.l.length:Int))),a0)
instance zcH4(a0:bJ):OkM (zd4 a0) 22 [.ptr 0 0 0] [(0,bx a0)] 1 (λ r=>.bool r.1) (λ r=>[(0,bx r.2)]) 1:=okm (zd4.eq_1 a0) (λ r=>[.bool r.1]) Tryz.f22 []
attribute [local irreducible] zd4
end
end Ab
end Go.Proofs.YtdlfhmkmnjbihaaGreatDoor
