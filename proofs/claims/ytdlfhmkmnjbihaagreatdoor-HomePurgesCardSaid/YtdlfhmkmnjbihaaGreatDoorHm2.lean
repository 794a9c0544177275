import Derived.Test.YtdlfhmkmnjbihaaGreatDoorHand
namespace Go.Proofs.YtdlfhmkmnjbihaaGreatDoor
namespace Ab
open IntKind (i64 u64 u8)
set_option linter.unusedSimpArgs false
set_option linter.defProp false
set_option linter.unusedVariables false
set_option maxRecDepth 100000
set_option maxHeartbeats 1000000
noncomputable section
def zaM4:List aD:=[(⟨(⟨#[97]⟩:ByteArray),1,1,1⟩:aD)]
def zY1:(List aD):=
 zaM4
theorem zbW3:PFn C 31 [] (la zY1):=by generalize h:zY1=r;refine zW0 Tryz.f31 [] λ E hG hN hK=>?_;have hm:Mk zY1:=trivial;unfold zY1 at h;refine za0 (za1 hG ?_);refine za0 (za1 hG ?_);refine g_gh (.cast 0 (.full (zaM4.map aD.enc))) ?_;refine g_gh (.unfs 0) ?_;exact gogo
instance zcZ9:OkT 31 [] (.sl ((zY1).map aD.enc)):=⟨zbW3⟩
def zM5(a0 a1 a2:Int):Bool:=
 (decide (a1<=a0)&&decide (a0<=a2))
instance zcM8(a0 a1 a2:Int):OkT 81 [.int .i64 a0,.int .i64 a1,.int .i64 a2] (.bool (zM5 a0 a1 a2)):=ok2 (λ r=>.bool r) (zM5.eq_1 a0 a1 a2) Tryz.f81 []
def zaY2(j1:Unit):Option Int:=
 some (-1)
def zac7(a0:List aM)(a1:aF)(g1:Int):Option (Int⊕(Unit⊕Int)):=
 (if(decide (g1<(a0.length:Int)))=true then
  gd (0<=g1/\g1<(a0.length:Int))<|
  (if(decide ((a0.getD g1.toNat aM.zero).aI=a1))=true then
   some (.inr (.inr g1))
  else
   some (.inl (i64.wrap (g1+1))))
 else
  some (.inr (.inl ())))
def zk2(a0:List aM)(a1:aF):Option Int:=
 (zc0 (zac7 a0 a1) 0).bind (λ|.inl z=>zaY2 z|.inr z=>some z)
@[reducible,instance] def zeb3 a0 a1:=mkJ (zk2 a0 a1) 0 (@zaY2.eq_1) λ(j1:Unit)=>⟨[],[],0⟩
@[reducible,instance] def zeb4 (a0:List aM) (a1:aF) {T:Type} (x:T):=mkL x (@zac7.eq_1 a0 a1) λ(g1:Int)=>⟨[(3,.ptr 0 0 0),(7,la a0),(8,.int .i64 (a0.length:Int)),(9,.int .i64 g1)],[(0,bx a1)],1⟩
instance zci0(a0:List aM)(a1:aF):OkP (zk2 a0 a1) 213 [la a0,ga a1] (λ r=>.int .i64 r):=ok1 (zk2.eq_1 a0 a1) Tryz.f213 []
attribute [local irreducible] zk2
def zaD6(a0:Int):(Arr Bool 6):=
 (if(decide (a0=5))=true then
  (Arr.put (Arr.put (Arr.put (Arr.put (Arr.put (Arr.rep 6 false) 5 true) 4 true) 3 true) 2 true) 1 true)
 else
  (if(decide (a0=4))=true then
   (Arr.put (Arr.put (Arr.put (Arr.put (Arr.rep 6 false) 4 true) 3 true) 2 true) 1 true)
  else
   (if(decide (a0=2))=true then
    (Arr.put (Arr.put (Arr.rep 6 false) 2 true) 1 true)
   else
    (if(decide (a0=1))=true then
     (Arr.put (Arr.rep 6 false) 1 true)
    else
     (if(decide (a0=3))=true then
      (Arr.put (Arr.put (Arr.rep 6 false) 3 true) 1 true)
     else
      (Arr.rep 6 false))))))
instance zcS8(a0:Int):OkT 277 [.int .i64 a0] (.agg (Arr.enc eB (zaD6 a0))):=ok2 (λ r=>.agg (Arr.enc eB r)) (zaD6.eq_1 a0) Tryz.f277 []
def zaw8(j1:(List aF)):Option (List aF):=
 some j1
def zaw9(a0:List aO)(g1:Int×(List aF)):Option ((Int×(List aF))⊕(List aF)):=
 (if(decide (g1.1<(a0.length:Int)))=true then
  gd (0<=g1.1/\g1.1<(a0.length:Int))<|
  gd (g1.2.length+1<=4294967296)<|
  some (.inl ((i64.wrap (g1.1+1)),(g1.2++[(a0.getD g1.1.toNat aO.zero).aI])))
 else
  some (.inr g1.2))
def zd1(a0:List aO):Option (List aF):=
 (zc0 (zaw9 a0) (0,[])).bind (λ z=>zaw8 z)
@[reducible,instance] def zdI1 a0:=mkJ (zd1 a0) 0 (@zaw8.eq_1) λ(j1:(List aF))=>⟨[(3,.own 0 0 j1.length)],[(0,sx j1)],1⟩
@[reducible,instance] def zdI2 (a0:List aO) {T:Type} (x:T):=mkL x (@zaw9.eq_1 a0) λ(g1:Int×(List aF))=>⟨[(3,.own 0 0 g1.2.length),(6,la a0),(7,.int .i64 (a0.length:Int)),(8,.int .i64 g1.1)],[(0,sx g1.2)],1⟩
instance zcw9(a0:List aO):OkM (zd1 a0) 85 [la a0] [] 0 (λ r=>.own 0 0 r.length) (λ r=>[(0,sx r)]) 1:=okm (zd1.eq_1 a0) (λ r=>[.own 0 0 r.length]) Tryz.f85 [(2,1),(3,1)]
attribute [local irreducible] zd1
def za7(a0:Int):Option (List aM):=gd (0<=a0/\a0<=4294967296) (some [])
theorem zal8:Lays8.n4 C.P ⟨λ|4=>244|n=>n,λ|22=>64|25=>125|n=>n,λ n=>n⟩ where
 mixed:=zC5
 f4:=⟨Tryz.f244.name,by decide,Tryz.func244.trans (cU some (by kernel_rfl))⟩
 t0:=Tryz.underlying0
 a0:=Tryz.isAgg0
 z0:=Tryz.sizeOf0
 v0:=Tryz.zeroValue0
 t3:=Tryz.underlying3
 a3:=Tryz.isAgg3
 z3:=Tryz.sizeOf3
 v3:=Tryz.zeroValue3
 t4:=Tryz.underlying4
 a4:=Tryz.isAgg4
 z4:=Tryz.sizeOf4
 v4:=Tryz.zeroValue4
 t9:=Tryz.underlying9
 a9:=Tryz.isAgg9
 z9:=Tryz.sizeOf9
 v9:=Tryz.zeroValue9
 t20:=Tryz.underlying20
 a20:=Tryz.isAgg20
 z20:=Tryz.sizeOf20
 v20:=Tryz.zeroValue20
 t22:=Tryz.underlying64
 a22:=Tryz.isAgg64
 z22:=Tryz.sizeOf64
 v22:=Tryz.zeroValue64
theorem zaj1(a0:Int)(r:List aM)(h:za7 a0=some r):MFn C 244 [.full [],.int .i64 a0] [] 0 (.own 0 0 r.length) [(0,sx r)] 1:=by obtain⟨⟨h0,h1⟩,h⟩:=ze3 h;obtain rfl:=cR h;exact zcZ8 zal8 (by kernel_rfl) rfl _ a0 h0 h1
attribute [local irreducible] za7
def zq2(f:Nat):Option Nat:=bif Nat.beq f 187 then some 0 else bif Nat.beq f 188 then some 1 else bif Nat.beq f 189 then some 2 else bif Nat.beq f 190 then some 3 else bif Nat.beq f 191 then some 4 else bif Nat.beq f 192 then some 5 else bif Nat.beq f 193 then some 6 else none
def zm3(m:aJ)(k:Nat):Int:=match k with|0=>m.gen|1=>m.round|2=>m.epoch|3=>m.aV|4=>m.site|5=>m.inc|_=>m.label
def zK2(m:aJ)(k:Nat)(n:Int):aJ:=match k with|0=>{m with gen:=n}|1=>{m with round:=n}|2=>{m with epoch:=n}|3=>{m with aV:=n}|4=>{m with site:=n}|5=>{m with inc:=n}|_=>{m with label:=n}
def zaB1(k:Nat):Nat:=match k with|0=>4|1=>10|2=>11|3=>8|4=>12|5=>9|_=>13
@[go_sem] theorem zdE3(m:aJ)(k:Nat):sub (aJ.enc m) (zaB1 k) 1=[.int .i64 (zm3 m k)]:=match k with|0=>rfl|1=>rfl|2=>rfl|3=>rfl|4=>rfl|5=>rfl|_+6=>rfl
@[go_sem] theorem zdE4(m:aJ)(k:Nat)(n:Int):upd (aJ.enc m) (zaB1 k) [.int .i64 n]=aJ.enc (zK2 m k n):=match k with|0=>rfl|1=>rfl|2=>rfl|3=>rfl|4=>rfl|5=>rfl|_+6=>rfl
@[go_sem] theorem zdG7(k:Nat):(zaB1 k+1<=18)=True:=eq_true (match k with|0=>(by show 4+1<=18;decide)|1=>(by show 10+1<=18;decide)|2=>(by show 11+1<=18;decide)|3=>(by show 8+1<=18;decide)|4=>(by show 12+1<=18;decide)|5=>(by show 9+1<=18;decide)|_+6=>(by show 13+1<=18;decide))
theorem zaW3(m:aJ):MFn C 187 [.ptr 0 0 0] [(0,bx m)] 1 (.ptr 0 0 4) [(0,bx m)] 1:=by refine zZ4 Tryz.f187 [] [.ptr 0 0 4] λ E hG hN hK=>?_;refine za0 (za1 hG ?_);refine za0 (za1 hG ?_);refine zm2 ?_;obtain⟨r,h⟩:∃r:Unit,some ()=some r:=⟨(),rfl⟩;exact zE4 [(0,0)] h
theorem zaW4(m:aJ):MFn C 188 [.ptr 0 0 0] [(0,bx m)] 1 (.ptr 0 0 10) [(0,bx m)] 1:=by refine zZ4 Tryz.f188 [] [.ptr 0 0 10] λ E hG hN hK=>?_;refine za0 (za1 hG ?_);refine za0 (za1 hG ?_);refine zm2 ?_;obtain⟨r,h⟩:∃r:Unit,some ()=some r:=⟨(),rfl⟩;exact zE4 [(0,0)] h
theorem zaW5(m:aJ):MFn C 189 [.ptr 0 0 0] [(0,bx m)] 1 (.ptr 0 0 11) [(0,bx m)] 1:=by refine zZ4 Tryz.f189 [] [.ptr 0 0 11] λ E hG hN hK=>?_;refine za0 (za1 hG ?_);refine za0 (za1 hG ?_);refine zm2 ?_;obtain⟨r,h⟩:∃r:Unit,some ()=some r:=⟨(),rfl⟩;exact zE4 [(0,0)] h
theorem zaW6(m:aJ):MFn C 190 [.ptr 0 0 0] [(0,bx m)] 1 (.ptr 0 0 8) [(0,bx m)] 1:=by refine zZ4 Tryz.f190 [] [.ptr 0 0 8] λ E hG hN hK=>?_;refine za0 (za1 hG ?_);refine za0 (za1 hG ?_);refine zm2 ?_;obtain⟨r,h⟩:∃r:Unit,some ()=some r:=⟨(),rfl⟩;exact zE4 [(0,0)] h
theorem zaW7(m:aJ):MFn C 191 [.ptr 0 0 0] [(0,bx m)] 1 (.ptr 0 0 12) [(0,bx m)] 1:=by refine zZ4 Tryz.f191 [] [.ptr 0 0 12] λ E hG hN hK=>?_;refine za0 (za1 hG ?_);refine za0 (za1 hG ?_);refine zm2 ?_;obtain⟨r,h⟩:∃r:Unit,some ()=some r:=⟨(),rfl⟩;exact zE4 [(0,0)] h
theorem zaW8(m:aJ):MFn C 192 [.ptr 0 0 0] [(0,bx m)] 1 (.ptr 0 0 9) [(0,bx m)] 1:=by refine zZ4 Tryz.f192 [] [.ptr 0 0 9] λ E hG hN hK=>?_;refine za0 (za1 hG ?_);refine za0 (za1 hG ?_);refine zm2 ?_;obtain⟨r,h⟩:∃r:Unit,some ()=some r:=⟨(),rfl⟩;exact zE4 [(0,0)] h
theorem zaW9(m:aJ):MFn C 193 [.ptr 0 0 0] [(0,bx m)] 1 (.ptr 0 0 13) [(0,bx m)] 1:=by refine zZ4 Tryz.f193 [] [.ptr 0 0 13] λ E hG hN hK=>?_;refine za0 (za1 hG ?_);refine za0 (za1 hG ?_);refine zm2 ?_;obtain⟨r,h⟩:∃r:Unit,some ()=some r:=⟨(),rfl⟩;exact zE4 [(0,0)] h
theorem zaA1{f k:Nat}(h:zq2 f=some k):f=187/\k=0\/f=188/\k=1\/f=189/\k=2\/f=190/\k=3\/f=191/\k=4\/f=192/\k=5\/f=193/\k=6:=by
 unfold zq2 at h
 by_cases e:f=187
 .subst e;obtain rfl:=cR (show some 0=some k from h);exact .inl ⟨rfl,rfl⟩
 rw[show Nat.beq f 187=false from dO.2 λ he=>e (eU he),cond_false]at h
 by_cases e:f=188
 .subst e;obtain rfl:=cR (show some 1=some k from h);exact .inr (.inl ⟨rfl,rfl⟩)
 rw[show Nat.beq f 188=false from dO.2 λ he=>e (eU he),cond_false]at h
 by_cases e:f=189
 .subst e;obtain rfl:=cR (show some 2=some k from h);exact .inr (.inr (.inl ⟨rfl,rfl⟩))
 rw[show Nat.beq f 189=false from dO.2 λ he=>e (eU he),cond_false]at h
 by_cases e:f=190
 .subst e;obtain rfl:=cR (show some 3=some k from h);exact .inr (.inr (.inr (.inl ⟨rfl,rfl⟩)))
 rw[show Nat.beq f 190=false from dO.2 λ he=>e (eU he),cond_false]at h
 by_cases e:f=191
 .subst e;obtain rfl:=cR (show some 4=some k from h);exact .inr (.inr (.inr (.inr (.inl ⟨rfl,rfl⟩))))
 rw[show Nat.beq f 191=false from dO.2 λ he=>e (eU he),cond_false]at h
 by_cases e:f=192
 .subst e;obtain rfl:=cR (show some 5=some k from h);exact .inr (.inr (.inr (.inr (.inr (.inl ⟨rfl,rfl⟩)))))
 rw[show Nat.beq f 192=false from dO.2 λ he=>e (eU he),cond_false]at h
 by_cases e:f=193
 .subst e;obtain rfl:=cR (show some 6=some k from h);exact .inr (.inr (.inr (.inr (.inr (.inr ⟨rfl,rfl⟩)))))
 rw[show Nat.beq f 193=false from dO.2 λ he=>e (eU he),cond_false]at h;cases h
theorem zab1(f:Nat)(m:aJ)(k:Nat)(h:zq2 f=some k):MFn C f [.ptr 0 0 0] [(0,bx m)] 1 (.ptr 0 0 (zaB1 k)) [(0,bx m)] 1:=by
 rcases zaA1 h with⟨rfl,rfl⟩|⟨rfl,rfl⟩|⟨rfl,rfl⟩|⟨rfl,rfl⟩|⟨rfl,rfl⟩|⟨rfl,rfl⟩|⟨rfl,rfl⟩
 .exact zaW3 m
 .exact zaW4 m
 .exact zaW5 m
 .exact zaW6 m
 .exact zaW7 m
 .exact zaW8 m
 .exact zaW9 m
theorem zy6{f k:Nat}(h:zq2 f=some k):zz7 C.P f=true:=by rcases zaA1 h with⟨rfl,rfl⟩|⟨rfl,rfl⟩|⟨rfl,rfl⟩|⟨rfl,rfl⟩|⟨rfl,rfl⟩|⟨rfl,rfl⟩|⟨rfl,rfl⟩<;>kernel_rfl
def zd5(a0:aZ):Option Bool:=none
theorem zbl5(a0:aZ)(r:Bool)(h:zd5 a0=some r):PFn C 195 [ga a0] (.bool r):=nomatch (show(none:Option Bool)=some r from h)
instance zcx0(a0:aZ):OkP (zd5 a0) 195 [ga a0] (λ r=>.bool r):=⟨zbl5 a0⟩
attribute [local irreducible] zd5
def zd8(a0:aZ):Option ((List Int)×Int):=none
theorem zbg7(a0:aZ)(r:(List Int)×Int)(h:zd8 a0=some r):PFn C 199 [ga a0] (.tup [.sl (r.1.map (eI .u8)),.int .i64 r.2]):=nomatch (show(none:Option ((List Int)×Int))=some r from h)
attribute [local irreducible] zd8
def zO1(j1:Unit):Option Int:=
 some (-1)
def zs5(a0:List aF)(a1:aF)(g1:Int):Option (Int⊕(Unit⊕Int)):=
 (if(decide (g1<(a0.length:Int)))=true then
  gd (0<=g1/\g1<(a0.length:Int))<|
  (if(decide (a1=a0.getD g1.toNat aF.zero))=true then
   some (.inr (.inr g1))
  else
   some (.inl (i64.wrap (g1+1))))
 else
  some (.inr (.inl ())))
def za4(a0:List aF)(a1:aF):Option Int:=
 (zc0 (zs5 a0 a1) 0).bind (λ|.inl z=>zO1 z|.inr z=>some z)
@[reducible,instance] def zdI3 a0 a1:=mkJ (za4 a0 a1) 0 (@zO1.eq_1) λ(j1:Unit)=>⟨[],[],0⟩
@[reducible,instance] def zdI4 (a0:List aF) (a1:aF) {T:Type} (x:T):=mkL x (@zs5.eq_1 a0 a1) λ(g1:Int)=>⟨[(0,la a0),(3,.ptr 0 0 0),(7,.int .i64 (a0.length:Int)),(8,.int .i64 g1)],[(0,bx a1)],1⟩
instance zbo8(a0:List aF)(a1:aF):OkP (za4 a0 a1) 216 [la a0,ga a1] (λ r=>.int .i64 r):=ok1 (za4.eq_1 a0 a1) Tryz.f216 []
attribute [local irreducible] za4
def zK3(a0:Int):Bool:=
 (decide (97<=a0)&&decide (a0<=122))
instance zcS9(a0:Int):OkT 176 [.int .u8 a0] (.bool (zK3 a0)):=ok2 (λ r=>.bool r) (zK3.eq_1 a0) Tryz.f176 []
def zbj4(j1:(List aD)):Option (List aD):=
 some j1
def zav5(a0:List aD)(a1:Int)(g1:Int×(List aD)):Option ((Int×(List aD))⊕(List aD)):=
 (if(decide (g1.1<(a0.length:Int)))=true then
  gd (0<=g1.1/\g1.1<(a0.length:Int))<|
  (if(decide ((a0.getD g1.1.toNat aD.zero).home=a1))=true then
   gd (0<=g1.1/\g1.1<(a0.length:Int))<|
   gd (g1.2.length+1<=4294967296)<|
   some (.inl ((i64.wrap (g1.1+1)),(g1.2++[(a0.getD g1.1.toNat aD.zero)])))
  else
   some (.inl ((i64.wrap (g1.1+1)),g1.2)))
 else
  some (.inr g1.2))
def zo7(a0:List aD)(a1:Int):Option (List aD):=
 (zc0 (zav5 a0 a1) (0,[])).bind (λ z=>zbj4 z)
@[reducible,instance] def zdI5 a0 a1:=mkJ (zo7 a0 a1) 0 (@zbj4.eq_1) λ(j1:(List aD))=>⟨[(5,.own 0 0 j1.length)],[(0,sx j1)],1⟩
@[reducible,instance] def zdI6 (a0:List aD) (a1:Int) {T:Type} (x:T):=mkL x (@zav5.eq_1 a0 a1) λ(g1:Int×(List aD))=>⟨[(0,la a0),(1,.int .i64 a1),(5,.own 0 0 g1.2.length),(6,.int .i64 g1.1)],[(0,sx g1.2)],1⟩
instance zdr1(a0:List aD)(a1:Int):OkP (zo7 a0 a1) 38 [la a0,.int .i64 a1] (λ r=>la r):=ok1 (zo7.eq_1 a0 a1) Tryz.f38 [(5,1)]
attribute [local irreducible] zo7
def zJ1(a0 a1:Int):Int:=
 (if(decide (a0<a1))=true then
  (-1)
 else
  (if(decide (a1<a0))=true then
   1
  else
   0))
instance zda0(a0 a1:Int):OkT 138 [.int .i64 a0,.int .i64 a1] (.int .i64 (zJ1 a0 a1)):=ok2 (λ r=>.int .i64 r) (zJ1.eq_1 a0 a1) Tryz.f138 []
def zal9(j1:(List aC)):Option (List aC):=
 some j1
def zP2(a0:List aO)(g1:Int×(List aC)):Option ((Int×(List aC))⊕(List aC)):=
 (if(decide (g1.1<(a0.length:Int)))=true then
  gd (0<=g1.1/\g1.1<(a0.length:Int))<|
  gd (g1.2.length+1<=4294967296)<|
  some (.inl ((i64.wrap (g1.1+1)),(g1.2++[(a0.getD g1.1.toNat aO.zero).aK])))
 else
  some (.inr g1.2))
def ze9(a0:List aO):Option (List aC):=
 (zc0 (zP2 a0) (0,[])).bind (λ z=>zal9 z)
@[reducible,instance] def zdI7 a0:=mkJ (ze9 a0) 0 (@zal9.eq_1) λ(j1:(List aC))=>⟨[(3,.own 0 0 j1.length)],[(0,sx j1)],1⟩
@[reducible,instance] def zdI8 (a0:List aO) {T:Type} (x:T):=mkL x (@zP2.eq_1 a0) λ(g1:Int×(List aC))=>⟨[(0,la a0),(3,.own 0 0 g1.2.length),(4,.int .i64 g1.1)],[(0,sx g1.2)],1⟩
instance zcM9(a0:List aO):OkP (ze9 a0) 274 [la a0] (λ r=>la r):=ok1 (ze9.eq_1 a0) Tryz.f274 [(3,1)]
attribute [local irreducible] ze9
def zaY3(j1:Unit):Option aC:=
 some ({aC.zero with})
def zao7(a0:List aO)(a1:aF)(g1:Int):Option (Int⊕(Unit⊕aC)):=
 (if(decide (g1<(a0.length:Int)))=true then
  gd (0<=g1/\g1<(a0.length:Int))<|
  (if(decide ((a0.getD g1.toNat aO.zero).aI=a1))=true then
   gd (0<=g1/\g1<(a0.length:Int))<|
   some (.inr (.inr ((a0.getD g1.toNat aO.zero).aK)))
  else
   some (.inl (i64.wrap (g1+1))))
 else
  some (.inr (.inl ())))
def zl8(a0:List aO)(a1:aF):Option aC:=
 (zc0 (zao7 a0 a1) 0).bind (λ|.inl z=>zaY3 z|.inr z=>some z)
@[reducible,instance] def zdI9 a0 a1:=mkJ (zl8 a0 a1) 0 (@zaY3.eq_1) λ(j1:Unit)=>⟨[(4,.ptr 0 0 0)],[(0,bx aC.zero)],1⟩
@[reducible,instance] def zdJ0 (a0:List aO) (a1:aF) {T:Type} (x:T):=mkL x (@zao7.eq_1 a0 a1) λ(g1:Int)=>⟨[(0,la a0),(3,.ptr 0 0 0),(4,.ptr 1 0 0),(5,.int .i64 g1)],[(0,bx a1),(1,bx aC.zero)],2⟩
instance zdn0(a0:List aO)(a1:aF):OkP (zl8 a0 a1) 71 [la a0,ga a1] (λ r=>ga r):=ok1 (zl8.eq_1 a0 a1) Tryz.f71 []
attribute [local irreducible] zl8
def zas5(j2:(List aF)):Option (List aF):=
 some j2
def zaf6(a0:aA)(g1:Int×(List aF)):Option ((Int×(List aF))⊕(List aF)):=
 (if(decide (g1.1<(a0.aT.length:Int)))=true then
  gd (0<=g1.1/\g1.1<(a0.aT.length:Int))<|
  gd (g1.2.length+1<=4294967296)<|
  some (.inl ((i64.wrap (g1.1+1)),(g1.2++[(a0.aT.getD g1.1.toNat aM.zero).aI])))
 else
  some (.inr g1.2))
def zaf7(a0:aA)(j1:(List aF)):Option (List aF):=
 (zc0 (zaf6 a0) (0,j1)).bind (λ z=>zas5 z)
def zaf8(a0:aA)(g2:Int×(List aF)):Option ((Int×(List aF))⊕(List aF)):=
 (if(decide (g2.1<(a0.aH.length:Int)))=true then
  gd (0<=g2.1/\g2.1<(a0.aH.length:Int))<|
  gd (g2.2.length+1<=4294967296)<|
  some (.inl ((i64.wrap (g2.1+1)),(g2.2++[(a0.aH.getD g2.1.toNat aM.zero).aI])))
 else
  some (.inr g2.2))
def zi1(a0:aA):Option (List aF):=
 (zc0 (zaf8 a0) (0,[])).bind (λ z=>zaf7 a0 z)
@[reducible,instance] def zdJ1 a0 j1:=mkJ (zaf7 a0 j1) 2 (@zas5.eq_1) λ(j2:(List aF))=>⟨[(3,.own 0 0 j2.length)],[(0,sx j2)],1⟩
@[reducible,instance] def zdJ2 (a0:aA) {T:Type} (x:T):=mkL x (@zaf6.eq_1 a0) λ(g1:Int×(List aF))=>⟨[(1,.ptr 0 0 0),(3,.own 1 0 g1.2.length),(5,.int .i64 g1.1)],[(0,bx a0),(1,sx g1.2)],2⟩
@[reducible,instance] def zdJ3 (a0:aA):=mkJ (zi1 a0) 0 (@zaf7.eq_1 a0) λ(j1:(List aF))=>⟨[(1,.ptr 0 0 0),(3,.own 1 0 j1.length)],[(0,bx a0),(1,sx j1)],2⟩
@[reducible,instance] def zdJ4 (a0:aA) {T:Type} (x:T):=mkL x (@zaf8.eq_1 a0) λ(g2:Int×(List aF))=>⟨[(1,.ptr 0 0 0),(3,.own 1 0 g2.2.length),(4,.int .i64 g2.1)],[(0,bx a0),(1,sx g2.2)],2⟩
instance zda1(a0:aA):OkP (zi1 a0) 70 [ga a0] (λ r=>la r):=ok1 (zi1.eq_1 a0) Tryz.f70 [(3,1)]
attribute [local irreducible] zi1
def zc1(a0:bB):Option (Bool×bB):=
 some ((decide (a0.at_<(a0.l.length:Int))),a0)
instance zax0(a0:bB):OkM (zc1 a0) 22 [.ptr 0 0 0] [(0,bx a0)] 1 (λ r=>.bool r.1) (λ r=>[(0,bx r.2)]) 1:=okm (zc1.eq_1 a0) (λ r=>[.bool r.1]) Tryz.f22 []
attribute [local irreducible] zc1
def zac8(a0:Int):Bool:=
 (decide (0<=a0)&&decide (a0<=1073741824))
instance zcT0(a0:Int):OkT 158 [.int .i64 a0] (.bool (zac8 a0)):=ok2 (λ r=>.bool r) (zac8.eq_1 a0) Tryz.f158 []
def zk8(a0:aZ):Option Bool:=none
theorem zbN4(a0:aZ)(r:Bool)(h:zk8 a0=some r):PFn C 160 [ga a0] (.bool r):=nomatch (show(none:Option Bool)=some r from h)
instance zcT1(a0:aZ):OkP (zk8 a0) 160 [ga a0] (λ r=>.bool r):=⟨zbN4 a0⟩
attribute [local irreducible] zk8
def zh8(a0:aA):Option aA:=
 gd (a0.aL.length<=4294967296)<|
 gd (a0.aH.length<=4294967296)<|
 gd (a0.aT.length<=4294967296)<|
 some a0
theorem zbv1(a0 r:aA)(h:zh8 a0=some r):MFn C 110 [ga a0] [] 0 (.agg [.str r.aB.name,.int .i64 r.aB.kind,.int .i64 r.aB.aU,.int .i64 r.aB.home,.own 0 0 r.aL.length,.own 1 0 r.aH.length,.own 2 0 r.aT.length,.int .i64 r.gen]) [(0,sx r.aL),(1,sx r.aH),(2,sx r.aT)] 3:=by refine zZ4 Tryz.f110 [(3,1),(8,1),(13,1)] [.agg [.str r.aB.name,.int .i64 r.aB.kind,.int .i64 r.aB.aU,.int .i64 r.aB.home,.own 0 0 r.aL.length,.own 1 0 r.aH.length,.own 2 0 r.aT.length,.int .i64 r.gen]] λ E hG hN hK=>?_;unfold zh8 at h;refine za0 (za1 hG ?_);refine za0 ?_;obtain⟨hb3,h⟩:=ze3 h;refine za1 hG ?_;refine za0 ?_;obtain⟨hb2,h⟩:=ze3 h;refine za1 hG ?_;refine za0 ?_;obtain⟨hb1,h⟩:=ze3 h;refine za1 hG ?_;refine za0 (za1 hG ?_);refine zm2 ?_;exact zE4 [(0,3),(1,5),(2,7)] h
attribute [local irreducible] zh8
def zd4(a0:List aA)(a1:Int)(a2:aA):Option (List aA):=
 gd (a0.length<=4294967296)<|
 gd (0<=a1/\a1<((a0.length:Nat):Int))<|
 some (a0.set a1.toNat a2)
instance zbv2(a0:List aA)(a1:Int)(a2:aA):OkP (zd4 a0 a1 a2) 113 [la a0,.int .i64 a1,ga a2] (λ r=>la r):=ok1 (zd4.eq_1 a0 a1 a2) Tryz.f113 [(8,1)]
attribute [local irreducible] zd4
def zaU8(j1:(List aD)):Option (List aD):=
 some j1
def zak4(a0:List aD)(a1:Int)(g1:Int×(List aD)):Option ((Int×(List aD))⊕(List aD)):=
 (if(decide (g1.1<(a0.length:Int)))=true then
  gd (0<=g1.1/\g1.1<(a0.length:Int))<|
  (if(decide ((a0.getD g1.1.toNat aD.zero).home=a1))=true then
   gd (g1.2.length+1<=4294967296)<|
   some (.inl ((i64.wrap (g1.1+1)),(g1.2++[(a0.getD g1.1.toNat aD.zero)])))
  else
   some (.inl ((i64.wrap (g1.1+1)),g1.2)))
 else
  some (.inr g1.2))
def zk5(a0:List aD)(a1:Int):Option (List aD):=
 (zc0 (zak4 a0 a1) (0,[])).bind (λ z=>zaU8 z)
@[reducible,instance] def zeb5 a0 a1:=mkJ (zk5 a0 a1) 0 (@zaU8.eq_1) λ(j1:(List aD))=>⟨[(5,.own 0 0 j1.length)],[(0,sx j1)],1⟩
@[reducible,instance] def zeb6 (a0:List aD) (a1:Int) {T:Type} (x:T):=mkL x (@zak4.eq_1 a0 a1) λ(g1:Int×(List aD))=>⟨[(1,.int .i64 a1),(5,.own 0 0 g1.2.length),(8,la a0),(9,.int .i64 (a0.length:Int)),(10,.int .i64 g1.1)],[(0,sx g1.2)],1⟩
instance zdh5(a0:List aD)(a1:Int):OkP (zk5 a0 a1) 35 [la a0,.int .i64 a1] (λ r=>la r):=ok1 (zk5.eq_1 a0 a1) Tryz.f35 [(5,1)]
attribute [local irreducible] zk5
def zO2(a0:aF)(a1 a2:Int):aJ:=
 {aJ.zero with kind:=1,aI:=a0,gen:=a1,aY:=(⟨(⟨#[97]⟩:ByteArray),{aC.zero with mode:=a2}⟩:bF)}
instance zda2(a0:aF)(a1 a2:Int):OkT 32 [.agg (aF.enc a0),.int .i64 a1,.int .i64 a2] (.agg (aJ.enc (zO2 a0 a1 a2))):=ok2 (λ r=>.agg (aJ.enc r)) (zO2.eq_1 a0 a1 a2) Tryz.f32 []
def zf8(a0:aC):Bool:=
 (decide (a0={aC.zero with}))
instance zaD7(a0:aC):OkT 204 [.agg (aC.enc a0)] (.bool (zf8 a0)):=ok2 (λ r=>.bool r) (zf8.eq_1 a0) Tryz.f204 []
def zJ0(a0:List aF)(j1:Unit):Option ((List aF)×(List aF)):=
 some (a0,a0)
def zy3(j2:Int×(List aF)):Option (Int⊕(Unit⊕((List aF)×(List aF)))):=
 gd (0<=j2.1/\j2.1<=((j2.2.length:Nat):Int)/\((j2.2.length:Nat):Int)<=((j2.2.length:Nat):Int))<|
 gd (0<=0/\0<=j2.1/\j2.1<=((j2.2.length:Nat):Int))<|
 some (.inr (.inr ((((j2.2.take j2.1.toNat++List.replicate (j2.2.length-j2.1.toNat) aF.zero++j2.2.drop (j2.1.toNat+(j2.2.length-j2.1.toNat))).drop 0).take j2.1.toNat),(j2.2.take j2.1.toNat++List.replicate (j2.2.length-j2.1.toNat) aF.zero++j2.2.drop (j2.1.toNat+(j2.2.length-j2.1.toNat))))))
def zt8(a0:List aF)(g1:Int)(g2:Int×Int×(List aF)):Option ((Int×Int×(List aF))⊕(Int×(List aF))):=
 (if(decide (g2.2.1<(((a0.length-g1.toNat):Nat):Int)))=true then
  gd (0<=g2.2.1/\g2.2.1<(((a0.length-g1.toNat):Nat):Int)/\g1.toNat+(a0.length-g1.toNat)<=g2.2.2.length)<|
  gd (0<=i64.wrap (g2.2.1-1)/\i64.wrap (g2.2.1-1)<(((a0.length-g1.toNat):Nat):Int)/\g1.toNat+(a0.length-g1.toNat)<=g2.2.2.length)<|
  (if(!decide (g2.2.2.getD (g1.toNat+g2.2.1.toNat) aF.zero=g2.2.2.getD (g1.toNat+(i64.wrap (g2.2.1-1)).toNat) aF.zero))=true then
   gd (0<=g2.2.1/\g2.2.1<(((a0.length-g1.toNat):Nat):Int)/\g1.toNat+(a0.length-g1.toNat)<=g2.2.2.length)<|
   gd (0<=g2.1/\g2.1<((g2.2.2.length:Nat):Int))<|
   some (.inl ((i64.wrap (g2.1+1)),i64.wrap (g2.2.1+1),g2.2.2.set g2.1.toNat (g2.2.2.getD (g1.toNat+g2.2.1.toNat) aF.zero)))
  else
   some (.inl (g2.1,i64.wrap (g2.2.1+1),g2.2.2)))
 else
  some (.inr (g2.1,g2.2.2)))
def zq7(a0:List aF)(g1:Int):Option (Int⊕(Unit⊕((List aF)×(List aF)))):=
 (if(decide (g1<((a0.length:Nat):Int)))=true then
  gd (0<=g1/\g1<((a0.length:Nat):Int))<|
  gd (0<=i64.wrap (g1-1)/\i64.wrap (g1-1)<((a0.length:Nat):Int))<|
  (if(decide (a0.getD g1.toNat aF.zero=a0.getD ((i64.wrap (g1-1)).toNat) aF.zero))=true then
   gd (0<=g1/\g1<=((a0.length:Nat):Int)/\((a0.length:Nat):Int)<=((a0.length:Nat):Int))<|
   (zc0 (zt8 a0 g1) (g1,1,a0)).bind (λ z=>zy3 z)
  else
   some (.inl (i64.wrap (g1+1))))
 else
  some (.inr (.inl ())))
def za2(a0:List aF):Option ((List aF)×(List aF)):=
 (if(decide (((a0.length:Nat):Int)<2))=true then
  some (a0,a0)
 else
  (zc0 (zq7 a0) 1).bind (λ|.inl z=>zJ0 a0 z|.inr z=>some z))
@[reducible,instance] def zdJ5 (a0:List aF):=mkJ (za2 a0) 0 (@zJ0.eq_1 a0) λ(j1:Unit)=>⟨[(0,.own 0 0 a0.length)],[(0,sx a0)],1⟩
@[reducible,instance] def zdJ6 (a0:List aF) (g1:Int):=mkJ (zq7 a0 g1) 2 (@zy3.eq_1) λ(j2:Int×(List aF))=>⟨[(0,.own 0 0 j2.2.length),(3,.int .i64 j2.1)],[(0,sx j2.2)],1⟩
@[reducible,instance] def zdJ7 (a0:List aF) (g1:Int) {T:Type} (x:T):=mkL x (@zt8.eq_1 a0 g1) λ(g2:Int×Int×(List aF))=>⟨[(0,.own 0 0 g2.2.2.length),(3,.int .i64 g2.1),(4,.own 0 g1.toNat (a0.length-g1.toNat)),(5,.int .i64 g2.2.1)],[(0,sx g2.2.2)],1⟩
@[reducible,instance] def zdJ8 (a0:List aF) {T:Type} (x:T):=mkL x (@zq7.eq_1 a0) λ(g1:Int)=>⟨[(0,.own 0 0 a0.length),(3,.int .i64 g1)],[(0,sx a0)],1⟩
instance zac9(a0:List aF):OkM (za2 a0) 135 [.own 0 0 a0.length] [(0,sx a0)] 1 (λ r=>la r.1) (λ r=>[(0,⟨true,3,aF.enc aF.zero,r.2.map aF.enc⟩)]) 1:=⟨λ r h=>by
 refine zZ4 Tryz.f135 [] [la r.1] λ E hG hN hK=>?_;have hm:Mk (za2 a0):=trivial;unfold za2 at h;refine za0 (za1 hG ?_);refine za0 (za0 (za1 hG ?_));refine ze5 rfl hG h (λ _ h=>?_) (λ _ h=>?_)
 · refine za0 (za1 hG ?_)
   refine g_gh (.fz [0]) ?_;exact gogo
 refine ze2 ?_;refine za0 (za0 (za1 hG ?_));refine zaw7 hm h (λ j1 hm h=>?_) ?_
 · try refine g_st ?_
   refine za0 (za1 hG ?_);refine g_gh (.fz [0]) ?_;exact gogo
 refine zdm9 hm hK [(0,0)] h (λ g1 y hm kx h=>?_)
 try refine g_st ?_
 refine za0 (za0 (za1 hG ?_));refine ze5 rfl hG h (λ _ h=>?_) (λ _ h=>?_)
 · refine ze2 ?_
   refine za0 (zw6 (za0 ?_));obtain⟨hb8,h⟩:=ze3 h;obtain⟨hb9,h⟩:=ze3 h;refine zbl3 zC5 hG ?_;refine ze5 rfl hG h (λ _ h=>?_) (λ _ h=>?_)
   · refine za0 ?_
     obtain⟨hb7,h⟩:=ze3 h;refine za1 hG ?_;refine za0 (za0 (za1 hG ?_));refine zaw7 hm h (λ j2 hm h=>?_) ?_
     · try refine g_st ?_
       refine za0 ?_;obtain⟨hb2,h⟩:=ze3 h;refine za1 hG ?_;refine za0 ?_;obtain⟨hb1,h⟩:=ze3 h;refine za1 hG ?_;refine g_gh (.fz [0]) ?_;exact gogo
     exact gogo
   exact gogo
 exact gogo⟩
attribute [local irreducible] za2
def zf9(a0:bC):Option Bool:=none
theorem zbq1(a0:bC)(r:Bool)(h:zf9 a0=some r):PFn C 196 [ga a0] (.bool r):=nomatch (show(none:Option Bool)=some r from h)
instance zcA4(a0:bC):OkP (zf9 a0) 196 [ga a0] (λ r=>.bool r):=⟨zbq1 a0⟩
attribute [local irreducible] zf9
def zt3(a0:Int):Int:=
 (if(decide (a0<0)||decide (1073741824<=a0))=true then
  1
 else
  (i64.wrap (a0+1)))
instance zaj2(a0:Int):OkT 258 [.int .i64 a0] (.int .i64 (zt3 a0)):=ok2 (λ r=>.int .i64 r) (zt3.eq_1 a0) Tryz.f258 []
def zam0(a1:Int)(a2:aA)(j1:(List aA)):Option (List aA):=
 (if(decide (0<=a1))=true then
  gd (0<=a1/\a1<((j1.length:Nat):Int))<|
  some (j1.set a1.toNat a2)
 else
  some j1)
def zP3(a0:List aA)(g1:Int×(List aA)):Option ((Int×(List aA))⊕(List aA)):=
 (if(decide (g1.1<(a0.length:Int)))=true then
  gd (0<=g1.1/\g1.1<(a0.length:Int))<|
  gd (((a0.getD g1.1.toNat aA.zero).aL).length<=4294967296)<|
  gd ((({(a0.getD g1.1.toNat aA.zero)with aL:=(a0.getD g1.1.toNat aA.zero).aL}).aH).length<=4294967296)<|
  gd ((({{(a0.getD g1.1.toNat aA.zero)with aL:=(a0.getD g1.1.toNat aA.zero).aL}with aH:=({(a0.getD g1.1.toNat aA.zero)with aL:=(a0.getD g1.1.toNat aA.zero).aL}).aH}).aT).length<=4294967296)<|
  gd (0<=g1.1/\g1.1<((g1.2.length:Nat):Int))<|
  some (.inl ((i64.wrap (g1.1+1)),g1.2.set g1.1.toNat ({{{(a0.getD g1.1.toNat aA.zero)with aL:=(a0.getD g1.1.toNat aA.zero).aL}with aH:=({(a0.getD g1.1.toNat aA.zero)with aL:=(a0.getD g1.1.toNat aA.zero).aL}).aH}with aT:=({{(a0.getD g1.1.toNat aA.zero)with aL:=(a0.getD g1.1.toNat aA.zero).aL}with aH:=({(a0.getD g1.1.toNat aA.zero)with aL:=(a0.getD g1.1.toNat aA.zero).aL}).aH}).aT})))
 else
  some (.inr g1.2))
def zc9(a0:List aA)(a1:Int)(a2:aA):Option (List aA):=
 gd (0<=(a0.length:Int)/\(a0.length:Int)<=(a0.length:Int)/\(a0.length:Int)<=4294967296)<|
 (zc0 (zP3 a0) (0,List.replicate ((a0.length:Int).toNat) aA.zero)).bind (λ z=>zam0 a1 a2 z)
@[reducible,instance] def zdJ9 a0 (a1:Int) (a2:aA):=mkJ (zc9 a0 a1 a2) 0 (@zam0.eq_1 a1 a2) λ(j1:(List aA))=>⟨[(1,.int .i64 a1),(5,.ptr 0 0 0),(7,.own 1 0 j1.length)],[(0,bx a2),(1,sx j1)],2⟩
@[reducible,instance] def zdK0 (a0:List aA) (a1:Int) (a2:aA):=mkL (zc9 a0 a1 a2) (@zP3.eq_1 a0) λ(g1:Int×(List aA))=>⟨[(1,.int .i64 a1),(5,.ptr 0 0 0),(7,.own 1 0 g1.2.length),(13,la a0),(14,.int .i64 (a0.length:Int)),(15,.int .i64 g1.1)],[(0,bx a2),(1,sx g1.2)],2⟩
instance zcN0(a0:List aA)(a1:Int)(a2:aA):OkP (zc9 a0 a1 a2) 148 [la a0,.int .i64 a1,ga a2] (λ r=>la r):=ok1 (zc9.eq_1 a0 a1 a2) Tryz.f148 [(22,2),(26,2),(30,2)]
attribute [local irreducible] zc9
def zaH2(j1:(List aS)):Option (List aS):=
 some j1
def zab2(a0:ByteArray)(a1:List aO)(g1:Int×(List aS)):Option ((Int×(List aS))⊕(List aS)):=
 (if(decide (g1.1<(a1.length:Int)))=true then
  gd (0<=g1.1/\g1.1<(a1.length:Int))<|
  gd (g1.2.length+1<=4294967296)<|
  some (.inl ((i64.wrap (g1.1+1)),(g1.2++[(⟨1,(a1.getD g1.1.toNat aO.zero).aI,a0,(a1.getD g1.1.toNat aO.zero).aK⟩:aS)])))
 else
  some (.inr g1.2))
def zf7(a0:ByteArray)(a1:List aO):Option (List aS):=
 (zc0 (zab2 a0 a1) (0,[])).bind (λ z=>zaH2 z)
@[reducible,instance] def zdK1 (a0:ByteArray) (a1:List aO):=mkJ (zf7 a0 a1) 0 (@zaH2.eq_1) λ(j1:(List aS))=>⟨[(2,.own 0 0 j1.length)],[(0,sx j1)],1⟩
@[reducible,instance] def zdK2 (a0:ByteArray) (a1:List aO) {T:Type} (x:T):=mkL x (@zab2.eq_1 a0 a1) λ(g1:Int×(List aS))=>⟨[(0,.str a0),(2,.own 0 0 g1.2.length),(9,la a1),(10,.int .i64 (a1.length:Int)),(11,.int .i64 g1.1)],[(0,sx g1.2)],1⟩
instance zcN1(a0:ByteArray)(a1:List aO):OkM (zf7 a0 a1) 149 [.str a0,la a1,.full ([].map aS.enc)] [] 0 (λ r=>la r) (λ r=>[]) 0:=⟨λ r h=>by
 refine zZ4 Tryz.f149 [] [la r] λ E hG hN hK=>?_;have hm:Mk (zf7 a0 a1):=trivial;unfold zf7 at h;refine g_gh (.own0 2 7 (aS.enc aS.zero)) ?_;refine za0 (za1 hG ?_);refine za0 (za0 (za1 hG ?_));refine zaw7 hm h (λ j1 hm h=>?_) ?_
 · try refine g_st ?_
   refine za0 (za1 hG ?_);refine g_gh (.fz [0]) ?_;exact gogo
 exact gogo⟩
attribute [local irreducible] zf7
def zr0(a0:aJ)(a1:aC)(a2:Bool):aW:=
 (⟨a0.aI.site,{aJ.zero with kind:=3,aI:=a0.aI,gen:=a0.gen,aY:=(⟨a0.aY.name,a1⟩:bF),done:=a2}⟩:aW)
instance zbN5(a0:aJ)(a1:aC)(a2:Bool):OkT 95 [.agg (aJ.enc a0),.agg (aC.enc a1),.bool a2] (.agg (aW.enc (zr0 a0 a1 a2))):=ok2 (λ r=>.agg (aW.enc r)) (zr0.eq_1 a0 a1 a2) Tryz.f95 []
def za3(a0:List aM):Option (List aM):=
 gd (a0.length<=4294967296)<|
 some a0
theorem zan6(a0:List aM)(r:(List aM))(h:za3 a0=some r):PFn C 152 [la a0] (la r):=by
 refine zW0 Tryz.f152 [(5,1)] λ E hG hN hK=>?_;unfold za3 at h;refine za0 (za1 hG ?_);refine za0 (za0 (za1 hG ?_));intro b hnil;cases b
 · try refine g_st ?_
   refine zaB0 rfl hG ?_;refine ze2 ?_;refine za0 ?_;obtain⟨hb1,h⟩:=ze3 h;refine za1 hG ?_;refine zm2 ?_;exact zt1 h
 have ha:a0=[]:=hZ.1 (hnil rfl);subst ha
 replace h:some []=some r:=by simpa [gd]using h
 try refine g_st ?_
 refine zak3 rfl hG ?_;refine za0 (za1 hG ?_);refine zm2 ?_;exact zt1 h
instance zbl6(a0:List aM):OkP (za3 a0) 152 [la a0] (λ r=>la r):=⟨zan6 a0⟩
attribute [local irreducible] za3
def zas6(a0:List aM)(j1:(List aM)):Option ((List aM)×Bool):=
 some (j1,decide (((j1.length:Nat):Int)<(a0.length:Int)))
def zW1(a0:List aM)(a1:aF)(g1:Int×(List aM)):Option ((Int×(List aM))⊕(List aM)):=
 (if(decide (g1.1<(a0.length:Int)))=true then
  gd (0<=g1.1/\g1.1<(a0.length:Int))<|
  (if(!decide ((a0.getD g1.1.toNat aM.zero).aI=a1))=true then
   gd (g1.2.length+1<=4294967296)<|
   some (.inl ((i64.wrap (g1.1+1)),(g1.2++[(a0.getD g1.1.toNat aM.zero)])))
  else
   some (.inl ((i64.wrap (g1.1+1)),g1.2)))
 else
  some (.inr g1.2))
def zh5(a0:List aM)(a1:aF):Option ((List aM)×Bool):=
 (zc0 (zW1 a0 a1) (0,[])).bind (λ z=>zas6 a0 z)
@[reducible,instance] def zdK3 (a0:List aM) a1:=mkJ (zh5 a0 a1) 0 (@zas6.eq_1 a0) λ(j1:(List aM))=>⟨[(0,la a0),(6,.own 0 0 j1.length)],[(0,sx j1)],1⟩
@[reducible,instance] def zdK4 (a0:List aM) (a1:aF) {T:Type} (x:T):=mkL x (@zW1.eq_1 a0 a1) λ(g1:Int×(List aM))=>⟨[(0,la a0),(3,.ptr 0 0 0),(6,.own 1 0 g1.2.length),(9,la a0),(10,.int .i64 (a0.length:Int)),(11,.int .i64 g1.1)],[(0,bx a1),(1,sx g1.2)],2⟩
instance zda3(a0:List aM)(a1:aF):OkP (zh5 a0 a1) 211 [la a0,ga a1] (λ r=>.tup [la r.1,.bool r.2]):=ok1 (zh5.eq_1 a0 a1) Tryz.f211 [(6,1)]
attribute [local irreducible] zh5
def zc5(a0:bA)(a1:Bool)(a2:bA):Option (Bool×Bool×bA):=
 some ((a1&&decide ({a0 with gen:=0}=a2)),a1,a2)
instance zcl2(a0:bA)(a1:Bool)(a2:bA):OkM (zc5 a0 a1 a2) 103 [ga a0,.ptr 0 0 0,.ptr 1 0 0] [(0,⟨false,1,[A.bool false],[[A.bool a1]]⟩),(1,bx a2)] 2 (λ r=>.bool r.1) (λ r=>[(0,⟨false,1,[A.bool false],[[A.bool r.2.1]]⟩),(1,bx r.2.2)]) 2:=okm (zc5.eq_1 a0 a1 a2) (λ r=>[.bool r.1]) Tryz.f103 []
attribute [local irreducible] zc5
def zE9(a0:aD):Bool:=
 ((decide (a0.kind=1)&&decide (a0.aU=1))||((decide (a0.kind=2)&&decide (1<=a0.aU))&&decide (a0.aU<=8)))
instance zcT2(a0:aD):OkT 123 [.agg (aD.enc a0)] (.bool (zE9 a0)):=ok2 (λ r=>.bool r) (zE9.eq_1 a0) Tryz.f123 []
def zax1(j1:Unit):Option Bool:=
 some true
def zax2(a0 a1:List aM)(g1:Int):Option (Int⊕(Unit⊕Bool)):=
 (if(decide (g1<(a0.length:Int)))=true then
  gd (0<=g1/\g1<(a0.length:Int))<|
  gd (0<=g1/\g1<(a1.length:Int))<|
  (if(!decide (a0.getD g1.toNat aM.zero=a1.getD g1.toNat aM.zero))=true then
   some (.inr (.inr false))
  else
   some (.inl (i64.wrap (g1+1))))
 else
  some (.inr (.inl ())))
def zc7(a0 a1:List aM):Option Bool:=
 (if(!decide ((a0.length:Int)=(a1.length:Int)))=true then
  some false
 else
  (zc0 (zax2 a0 a1) 0).bind (λ|.inl z=>zax1 z|.inr z=>some z))
@[reducible,instance] def zdK5 a0 a1:=mkJ (zc7 a0 a1) 0 (@zax1.eq_1) λ(j1:Unit)=>⟨[],[],0⟩
@[reducible,instance] def zdK6 (a0 a1:List aM) {T:Type} (x:T):=mkL x (@zax2.eq_1 a0 a1) λ(g1:Int)=>⟨[(0,la a0),(1,la a1),(5,.int .i64 g1)],[],0⟩
instance zcA5(a0 a1:List aM):OkP (zc7 a0 a1) 130 [la a0,la a1] (λ r=>.bool r):=ok1 (zc7.eq_1 a0 a1) Tryz.f130 []
attribute [local irreducible] zc7
def zn4(a0:aF):Bool:=
 (((((decide (0<=a0.site)&&decide (a0.site<4))&&decide (1<=a0.inc))&&decide (a0.inc<=99))&&decide (1<=a0.num))&&decide (a0.num<=999))
instance zbl7(a0:aF):OkT 46 [.agg (aF.enc a0)] (.bool (zn4 a0)):=ok2 (λ r=>.bool r) (zn4.eq_1 a0) Tryz.f46 []
def zd6(a0:aC):Bool:=
 (decide (a0={aC.zero with}))
instance zbW4(a0:aC):OkT 29 [.agg (aC.enc a0)] (.bool (zd6 a0)):=ok2 (λ r=>.bool r) (zd6.eq_1 a0) Tryz.f29 []
def zaU9(j1:Unit):Option Int:=
 some (-1)
def zak5(a0:List aA)(a1:ByteArray)(g1:Int):Option (Int⊕(Unit⊕Int)):=
 (if(decide (g1<(a0.length:Int)))=true then
  gd (0<=g1/\g1<(a0.length:Int))<|
  (if((((a0.getD g1.toNat aA.zero).aB).name).toList==a1.toList)=true then
   some (.inr (.inr g1))
  else
   some (.inl (i64.wrap (g1+1))))
 else
  some (.inr (.inl ())))
def zf6(a0:List aA)(a1:ByteArray):Option Int:=
 (zc0 (zak5 a0 a1) 0).bind (λ|.inl z=>zaU9 z|.inr z=>some z)
@[reducible,instance] def zdK7 a0 a1:=mkJ (zf6 a0 a1) 0 (@zaU9.eq_1) λ(j1:Unit)=>⟨[],[],0⟩
@[reducible,instance] def zdK8 (a0:List aA) (a1:ByteArray) {T:Type} (x:T):=mkL x (@zak5.eq_1 a0 a1) λ(g1:Int)=>⟨[(0,la a0),(1,.str a1),(5,.int .i64 g1)],[],0⟩
instance zbj5(a0:List aA)(a1:ByteArray):OkP (zf6 a0 a1) 26 [la a0,.str a1] (λ r=>.int .i64 r):=ok1 (zf6.eq_1 a0 a1) Tryz.f26 []
attribute [local irreducible] zf6
def zk9(a0:List Int)(a1:bC):Option (List Int):=none
theorem zbD4(a0:List Int)(a1:bC)(r:(List Int))(h:zk9 a0 a1=some r):MFn C 166 [.sl (a0.map (eI .u8)),ga a1] [] 0 (.own 0 0 r.length) [(0,⟨false,1,[A.int .u8 0],r.map (eI .u8)⟩)] 1:=nomatch (show(none:Option (List Int))=some r from h)
instance zcT3(a0:List Int)(a1:bC):OkM (zk9 a0 a1) 166 [.sl (a0.map (eI .u8)),ga a1] [] 0 (λ r=>.own 0 0 r.length) (λ r=>[(0,⟨false,1,[A.int .u8 0],r.map (eI .u8)⟩)]) 1:=⟨zbD4 a0 a1⟩
attribute [local irreducible] zk9
def zaH3(j1:(List aS)):Option (List aS):=
 some j1
def zab3(a0:ByteArray)(a1:List aO)(g1:Int×(List aS)):Option ((Int×(List aS))⊕(List aS)):=
 (if(decide (g1.1<(a1.length:Int)))=true then
  gd (0<=g1.1/\g1.1<(a1.length:Int))<|
  gd (0<=g1.1/\g1.1<(a1.length:Int))<|
  gd (g1.2.length+1<=4294967296)<|
  some (.inl ((i64.wrap (g1.1+1)),(g1.2++[(⟨1,(a1.getD g1.1.toNat aO.zero).aI,a0,(a1.getD g1.1.toNat aO.zero).aK⟩:aS)])))
 else
  some (.inr g1.2))
def zd9(a0:ByteArray)(a1:List aO):Option (List aS):=
 (zc0 (zab3 a0 a1) (0,[])).bind (λ z=>zaH3 z)
@[reducible,instance] def zdK9 a0 a1:=mkJ (zd9 a0 a1) 0 (@zaH3.eq_1) λ(j1:(List aS))=>⟨[(5,.own 0 0 j1.length)],[(0,sx j1)],1⟩
@[reducible,instance] def zdL0 (a0:ByteArray) (a1:List aO) {T:Type} (x:T):=mkL x (@zab3.eq_1 a0 a1) λ(g1:Int×(List aS))=>⟨[(0,.str a0),(1,la a1),(5,.own 0 0 g1.2.length),(6,.int .i64 g1.1)],[(0,sx g1.2)],1⟩
instance zbD5(a0:ByteArray)(a1:List aO):OkP (zd9 a0 a1) 114 [.str a0,la a1] (λ r=>la r):=ok1 (zd9.eq_1 a0 a1) Tryz.f114 [(5,1)]
attribute [local irreducible] zd9
def zaY4(j1:Unit):Option Int:=
 some 0
def zao8(a0:aX)(a1:aF)(a2:ByteArray)(g1:Int):Option (Int⊕(Unit⊕Int)):=
 (if(decide (g1<(a0.tags.length:Int)))=true then
  gd (0<=g1/\g1<(a0.tags.length:Int))<|
  (if(decide ((a0.tags.getD g1.toNat bA.zero).aI=a1)&&(((a0.tags.getD g1.toNat bA.zero).name).toList==a2.toList))=true then
   some (.inr (.inr ((a0.tags.getD g1.toNat bA.zero).gen)))
  else
   some (.inl (i64.wrap (g1+1))))
 else
  some (.inr (.inl ())))
def zm9(a0:aX)(a1:aF)(a2:ByteArray):Option Int:=
 (zc0 (zao8 a0 a1 a2) 0).bind (λ|.inl z=>zaY4 z|.inr z=>some z)
@[reducible,instance] def zdL1 a0 a1 a2:=mkJ (zm9 a0 a1 a2) 0 (@zaY4.eq_1) λ(j1:Unit)=>⟨[],[],0⟩
@[reducible,instance] def zdL2 (a0:aX) (a1:aF) (a2:ByteArray) {T:Type} (x:T):=mkL x (@zao8.eq_1 a0 a1 a2) λ(g1:Int)=>⟨[(2,.str a2),(4,.ptr 0 0 0),(10,la a0.tags),(11,.int .i64 (a0.tags.length:Int)),(12,.int .i64 g1)],[(0,bx a1)],1⟩
instance zdn1(a0:aX)(a1:aF)(a2:ByteArray):OkP (zm9 a0 a1 a2) 115 [ga a0,ga a1,.str a2] (λ r=>.int .i64 r):=ok1 (zm9.eq_1 a0 a1 a2) Tryz.f115 []
attribute [local irreducible] zm9
def zam1(j1:(List aF)):Option (List aF):=
 some j1
def zP4(a0:List aO)(g1:Int×(List aF)):Option ((Int×(List aF))⊕(List aF)):=
 (if(decide (g1.1<(a0.length:Int)))=true then
  gd (0<=g1.1/\g1.1<(a0.length:Int))<|
  gd (g1.2.length+1<=4294967296)<|
  some (.inl ((i64.wrap (g1.1+1)),(g1.2++[(a0.getD g1.1.toNat aO.zero).aI])))
 else
  some (.inr g1.2))
def zh3(a0:List aO):Option (List aF):=
 (zc0 (zP4 a0) (0,[])).bind (λ z=>zam1 z)
@[reducible,instance] def zdL3 a0:=mkJ (zh3 a0) 0 (@zam1.eq_1) λ(j1:(List aF))=>⟨[(3,.own 0 0 j1.length)],[(0,sx j1)],1⟩
@[reducible,instance] def zdL4 (a0:List aO) {T:Type} (x:T):=mkL x (@zP4.eq_1 a0) λ(g1:Int×(List aF))=>⟨[(3,.own 0 0 g1.2.length),(6,la a0),(7,.int .i64 (a0.length:Int)),(8,.int .i64 g1.1)],[(0,sx g1.2)],1⟩
attribute [local irreducible] zh3
end
end Ab
end Go.Proofs.YtdlfhmkmnjbihaaGreatDoor
