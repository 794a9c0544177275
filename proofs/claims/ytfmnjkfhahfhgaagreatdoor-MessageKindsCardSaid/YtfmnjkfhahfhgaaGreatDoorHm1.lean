import Derived.Test.YtfmnjkfhahfhgaaGreatDoorAuto
namespace Go.Proofs.YtfmnjkfhahfhgaaGreatDoor
namespace Ab
set_option linter.defProp false
open IntKind (i64 u64 u8)
set_option linter.unusedSimpArgs false
set_option linter.unusedVariables false
set_option maxRecDepth 100000
set_option maxHeartbeats 1000000
noncomputable section
variable {T : Type} (x : T)
def oF(f:Nat):Option Nat:=bif Nat.beq f 64 then some 0 else bif Nat.beq f 65 then some 1 else bif Nat.beq f 66 then some 2 else bif Nat.beq f 67 then some 3 else bif Nat.beq f 68 then some 4 else bif Nat.beq f 69 then some 5 else bif Nat.beq f 70 then some 6 else none
def nB(m:aM)(k:Nat):Int:=match k with|0=>m.gen|1=>m.round|2=>m.epoch|3=>m.bD|4=>m.site|5=>m.inc|_=>m.label
def tF(m:aM)(k:Nat)(n:Int):aM:=match k with|0=>{m with gen:=n}|1=>{m with round:=n}|2=>{m with epoch:=n}|3=>{m with bD:=n}|4=>{m with site:=n}|5=>{m with inc:=n}|_=>{m with label:=n}
def H6(k:Nat):Nat:=match k with|0=>4|1=>10|2=>11|3=>8|4=>12|5=>9|_=>13
@[go_sem] theorem aR4(m:aM)(k:Nat):sub (aM.enc m) (H6 k) 1=[.int i64 (nB m k)]:=match k with|0=>rfl|1=>rfl|2=>rfl|3=>rfl|4=>rfl|5=>rfl|_+6=>rfl
@[go_sem] theorem aR5(m:aM)(k:Nat)(n:Int):upd (aM.enc m) (H6 k) [.int i64 n]=aM.enc (tF m k n):=match k with|0=>rfl|1=>rfl|2=>rfl|3=>rfl|4=>rfl|5=>rfl|_+6=>rfl
@[go_sem] theorem aR6(k:Nat):(H6 k+1<=18)=True:=eq_true (match k with|0=>(by show 4+1<=18;decide)|1=>(by show 10+1<=18;decide)|2=>(by show 11+1<=18;decide)|3=>(by show 8+1<=18;decide)|4=>(by show 12+1<=18;decide)|5=>(by show 9+1<=18;decide)|_+6=>(by show 13+1<=18;decide))
def Zp(m:aM):MFn C 64 [.ptr 0 0 0] [(0,bx m)] 1 (.ptr 0 0 4) [(0,bx m)] 1:=by refine oR Tryz.f64 [] [.ptr 0 0 4] λ E hG H hK=>?_;refine lQ (lR hG ?_);refine lQ (lR hG ?_);refine lX ?_;obtain⟨r,h⟩:∃r:Unit,some ()=some r:=⟨(),rfl⟩;exact mQ [(0,0)] h
def Zq(m:aM):MFn C 65 [.ptr 0 0 0] [(0,bx m)] 1 (.ptr 0 0 10) [(0,bx m)] 1:=by refine oR Tryz.f65 [] [.ptr 0 0 10] λ E hG H hK=>?_;refine lQ (lR hG ?_);refine lQ (lR hG ?_);refine lX ?_;obtain⟨r,h⟩:∃r:Unit,some ()=some r:=⟨(),rfl⟩;exact mQ [(0,0)] h
def Zr(m:aM):MFn C 66 [.ptr 0 0 0] [(0,bx m)] 1 (.ptr 0 0 11) [(0,bx m)] 1:=by refine oR Tryz.f66 [] [.ptr 0 0 11] λ E hG H hK=>?_;refine lQ (lR hG ?_);refine lQ (lR hG ?_);refine lX ?_;obtain⟨r,h⟩:∃r:Unit,some ()=some r:=⟨(),rfl⟩;exact mQ [(0,0)] h
def Zs(m:aM):MFn C 67 [.ptr 0 0 0] [(0,bx m)] 1 (.ptr 0 0 8) [(0,bx m)] 1:=by refine oR Tryz.f67 [] [.ptr 0 0 8] λ E hG H hK=>?_;refine lQ (lR hG ?_);refine lQ (lR hG ?_);refine lX ?_;obtain⟨r,h⟩:∃r:Unit,some ()=some r:=⟨(),rfl⟩;exact mQ [(0,0)] h
def Zt(m:aM):MFn C 68 [.ptr 0 0 0] [(0,bx m)] 1 (.ptr 0 0 12) [(0,bx m)] 1:=by refine oR Tryz.f68 [] [.ptr 0 0 12] λ E hG H hK=>?_;refine lQ (lR hG ?_);refine lQ (lR hG ?_);refine lX ?_;obtain⟨r,h⟩:∃r:Unit,some ()=some r:=⟨(),rfl⟩;exact mQ [(0,0)] h
def Zu(m:aM):MFn C 69 [.ptr 0 0 0] [(0,bx m)] 1 (.ptr 0 0 9) [(0,bx m)] 1:=by refine oR Tryz.f69 [] [.ptr 0 0 9] λ E hG H hK=>?_;refine lQ (lR hG ?_);refine lQ (lR hG ?_);refine lX ?_;obtain⟨r,h⟩:∃r:Unit,some ()=some r:=⟨(),rfl⟩;exact mQ [(0,0)] h
def Zv(m:aM):MFn C 70 [.ptr 0 0 0] [(0,bx m)] 1 (.ptr 0 0 13) [(0,bx m)] 1:=by refine oR Tryz.f70 [] [.ptr 0 0 13] λ E hG H hK=>?_;refine lQ (lR hG ?_);refine lQ (lR hG ?_);refine lX ?_;obtain⟨r,h⟩:∃r:Unit,some ()=some r:=⟨(),rfl⟩;exact mQ [(0,0)] h
def Q5{f k:Nat}(h:oF f=some k):f=64/\k=0\/f=65/\k=1\/f=66/\k=2\/f=67/\k=3\/f=68/\k=4\/f=69/\k=5\/f=70/\k=6:=by
 unfold oF at h
 by_cases e:f=64
 .subst e;obtain rfl:=dW (show some 0=some k from h);exact .inl ⟨rfl,rfl⟩
 rw[show Nat.beq f 64=false from dG.2 λ H=>e (fL H),cond_false]at h
 by_cases e:f=65
 .subst e;obtain rfl:=dW (show some 1=some k from h);exact .inr (.inl ⟨rfl,rfl⟩)
 rw[show Nat.beq f 65=false from dG.2 λ H=>e (fL H),cond_false]at h
 by_cases e:f=66
 .subst e;obtain rfl:=dW (show some 2=some k from h);exact .inr (.inr (.inl ⟨rfl,rfl⟩))
 rw[show Nat.beq f 66=false from dG.2 λ H=>e (fL H),cond_false]at h
 by_cases e:f=67
 .subst e;obtain rfl:=dW (show some 3=some k from h);exact .inr (.inr (.inr (.inl ⟨rfl,rfl⟩)))
 rw[show Nat.beq f 67=false from dG.2 λ H=>e (fL H),cond_false]at h
 by_cases e:f=68
 .subst e;obtain rfl:=dW (show some 4=some k from h);exact .inr (.inr (.inr (.inr (.inl ⟨rfl,rfl⟩))))
 rw[show Nat.beq f 68=false from dG.2 λ H=>e (fL H),cond_false]at h
 by_cases e:f=69
 .subst e;obtain rfl:=dW (show some 5=some k from h);exact .inr (.inr (.inr (.inr (.inr (.inl ⟨rfl,rfl⟩)))))
 rw[show Nat.beq f 69=false from dG.2 λ H=>e (fL H),cond_false]at h
 by_cases e:f=70
 .subst e;obtain rfl:=dW (show some 6=some k from h);exact .inr (.inr (.inr (.inr (.inr (.inr ⟨rfl,rfl⟩)))))
 rw[show Nat.beq f 70=false from dG.2 λ H=>e (fL H),cond_false]at h;cases h
def Ah(f:Nat)(m:aM)(k:Nat)(h:oF f=some k):MFn C f [.ptr 0 0 0] [(0,bx m)] 1 (.ptr 0 0 (H6 k)) [(0,bx m)] 1:=by
 rcases Q5 h with⟨rfl,rfl⟩|⟨rfl,rfl⟩|⟨rfl,rfl⟩|⟨rfl,rfl⟩|⟨rfl,rfl⟩|⟨rfl,rfl⟩|⟨rfl,rfl⟩
 .exact Zp m
 .exact Zq m
 .exact Zr m
 .exact Zs m
 .exact Zt m
 .exact Zu m
 .exact Zv m
def sO{f k:Nat}(h:oF f=some k):oW C.P f=true:=by rcases Q5 h with⟨rfl,rfl⟩|⟨rfl,rfl⟩|⟨rfl,rfl⟩|⟨rfl,rfl⟩|⟨rfl,rfl⟩|⟨rfl,rfl⟩|⟨rfl,rfl⟩<;>kernel_rfl
def j7(H O U:Int):Bool:=(decide (O<=H)&&decide (H<=U))
instance aRf(H O U:Int):OkT 177 [.int i64 H,.int i64 O,.int i64 U] (.bool (j7 H O U)):=ok2 .bool (j7.eq_1 H O U) Tryz.f177 []
def Ai(j1:Bool):Bool:=(if j1 then true else false)
def Cp(H:ByteArray):Bool:=(if H.toList==(⟨#[97,108,108]⟩:ByteArray).toList then Ai (H.toList==(⟨#[97,108,108]⟩:ByteArray).toList)else(if H.toList==(⟨#[97,110,121]⟩:ByteArray).toList then Ai (H.toList==(⟨#[97,110,121]⟩:ByteArray).toList)else(if H.toList==(⟨#[111,102]⟩:ByteArray).toList then Ai (H.toList==(⟨#[111,102]⟩:ByteArray).toList)else(if H.toList==(⟨#[112,114,105,111]⟩:ByteArray).toList then Ai (H.toList==(⟨#[112,114,105,111]⟩:ByteArray).toList)else Ai (H.toList==(⟨#[108,105,109,105,116]⟩:ByteArray).toList)))))
@[reducible,instance]def aRg a0:=mkJ (Cp a0) 999 (@Ai.eq_1) λ j1=>⟨[(4,.bool j1)],[],0⟩
instance aRh(H:ByteArray):OkT 178 [.str H] (.bool (Cp H)):=ok2 .bool (Cp.eq_1 H) Tryz.f178 []
def nQ(H:aH):Bool:=(if decide (H.kind=1)then(decide (H.aT=1))else(if decide (H.kind=2)then(decide (1<=H.aT)&&decide (H.aT<=8))else false))
instance Zw(H:aH):OkT 282 [.agg (aH.enc H)] (.bool (nQ H)):=ok2 .bool (nQ.eq_1 H) Tryz.f282 []
def L1(H:Int):(Arr Bool 6):=(if decide (H=5)then(Arr.put (Arr.put (Arr.put (Arr.put (Arr.put (Arr.rep 6 false) 5 true) 4 true) 3 true) 2 true) 1 true)else(if decide (H=4)then(Arr.put (Arr.put (Arr.put (Arr.put (Arr.rep 6 false) 4 true) 3 true) 2 true) 1 true)else(if decide (H=2)then(Arr.put (Arr.put (Arr.rep 6 false) 2 true) 1 true)else(if decide (H=1)then(Arr.put (Arr.rep 6 false) 1 true)else(if decide (H=3)then(Arr.put (Arr.put (Arr.rep 6 false) 3 true) 1 true)else(Arr.rep 6 false))))))
instance aRk(H:Int):OkT 311 [.int i64 H] (.agg (Arr.enc eB (L1 H))):=ok2 (λ r=>.agg (Arr.enc eB r)) (L1.eq_1 H) Tryz.f311 []
def L2(O:aO)(H:List aO)(j1:Unit):Option (Int×(List aO)):=(if decide (((H.length:Nat):Int)=8)then some (4,H)else gd (H.length+1<=4294967296)<|some (0,H++[O]))
def E9(U:aO)(H:List aO)(O:Int):Option (Int⊕(Unit⊕(Int×(List aO)))):=(if decide (O<((H.length:Nat):Int))then gd (0<=O/\O<((H.length:Nat):Int))<|(if decide (U=H.getD O.toNat aO.zero)then some (.inr (.inr (0,H)))else(if U.name.toList==((H.getD O.toNat aO.zero).name).toList then some (.inr (.inr (13,H)))else some (.inl (i64.wrap (O+1)))))else some (.inr (.inl ())))
def Aj(H:aO)(O:List aO):Option (Int×(List aO)):=(lS (E9 H O) 0).bind (λ|.inl z=>L2 H O z|.inr z=>some z)
@[reducible,instance]def aRm (O:aO) (H:List aO):=mkJ (Aj O H) 0 (@L2.eq_1 O H) λ j1=>⟨[(0,.ptr 0 0 0),(3,.ptr 2 0 0)],[(0,⟨false,1,[A.sl ([].map aO.enc)],[[.own 3 0 H.length]]⟩),(2,bx O),(3,sx H)],4⟩
@[reducible,instance]def aRn (O:aO) (H:List aO):=mkL x (@E9.eq_1 O H) λ U=>⟨[(0,.ptr 0 0 0),(3,.ptr 2 0 0),(9,.own 3 0 H.length),(10,.int i64 ((H.length:Nat):Int)),(11,.int i64 U)],[(0,⟨false,1,[A.sl ([].map aO.enc)],[[.own 3 0 H.length]]⟩),(2,bx O),(3,sx H)],4⟩
instance Zx(O:aO)(H:List aO):OkM (Aj O H) 256 [.ptr 0 0 0,ga O] [(0,⟨false,1,[A.sl ([].map aO.enc)],[[.own 1 0 H.length]]⟩),(1,sx H)] 2 (λ r=>.int i64 r.1) (λ r=>[(0,⟨false,1,[A.sl ([].map aO.enc)],[[.own 2 0 r.2.length]]⟩),(2,sx r.2)]) 3:=okm (Aj.eq_1 O H) (λ r=>[.int i64 r.1]) Tryz.f256 []
def Q6(j1:(List aK)):Option (List aK):=some j1
def Q7(O:List aX)(H:Int×(List aK)):Option ((Int×(List aK))⊕(List aK)):=(if decide (H.1<O.length)then gd (0<=H.1/\H.1<O.length)<|gd (H.2.length+1<=4294967296)<|some (.inl (i64.wrap (H.1+1),H.2++[(O.getD H.1.toNat aX.zero).aL]))else some (.inr H.2))
def Ak(H:List aX):Option (List aK):=(lS (Q7 H) (0,[])).bind (λ z=>Q6 z)
@[reducible,instance]def aRr a0:=mkJ (Ak a0) 0 (@Q6.eq_1) λ j1=>⟨[(3,.own 0 0 j1.length)],[(0,sx j1)],1⟩
@[reducible,instance]def aRs (H:List aX):=mkL x (@Q7.eq_1 H) λ O=>⟨[(3,.own 0 0 O.2.length),(6,la H),(7,.int i64 H.length),(8,.int i64 O.1)],[(0,sx O.2)],1⟩
instance aRt(H:List aX):OkM (Ak H) 275 [la H] [] 0 (λ r=>.own 0 0 r.length) (λ r=>[(0,sx r)]) 1:=okm (Ak.eq_1 H) (λ r=>[.own 0 0 r.length]) Tryz.f275 [(2,1),(3,1)]
def H7(j1:Int×(List Int)):Option (List Int):=gd (j1.2.length+1<=4294967296)<|some (j1.2++[u8.wrap j1.1])
@[go_sem] def Zy(j1:Int×(List Int)):St:=⟨[(1,.int u64 j1.1),(5,.own 0 0 j1.2.length)],[(0,⟨false,1,[A.int u8 0],j1.2.map (eI u8)⟩)],1⟩
def Cq(H:Int×(List Int)):Option ((Int×(List Int))⊕(Int×(List Int))):=(if decide (127<H.1)then gd (H.2.length+1<=4294967296)<|some (.inl (H.1.fdiv (2^7),H.2++[nS .or u8 (u8.wrap (nS .and u64 H.1 127)) 128]))else some (.inr (H.1,H.2)))
@[go_sem] def Zz(H:Int×(List Int)):St:=⟨[(1,.int u64 H.1),(5,.own 0 0 H.2.length)],[(0,⟨false,1,[A.int u8 0],H.2.map (eI u8)⟩)],1⟩
def tG(H:List Int)(O:Int):Option (List Int):=gd (0<=0/\0<=(H.length:Int)/\(H.length:Int)<=(H.length:Int)/\(H.length:Int)=(H.length:Int))<|(if decide (127<O)then gd ((H.take (H.length:Int).toNat).length+1<=4294967296)<|(lS Cq (O.fdiv (2^7),H.take (H.length:Int).toNat++[nS .or u8 (u8.wrap (nS .and u64 O 127)) 128])).bind (λ z=>H7 z)else gd ((H.take (H.length:Int).toNat).length+1<=4294967296)<|some (H.take (H.length:Int).toNat++[u8.wrap O]))
def ZA(U:List Int)(Y:Int)(r:(List Int))(h:tG U Y=some r):PFn C 49 [.sl (U.map (eI u8)),.int u64 Y] (.sl (r.map (eI u8))):=by
 refine oC Tryz.f49 [] λ E hG hN hK=>?_;unfold tG at h;refine lQ (lR hG ?_);refine lQ ?_;obtain⟨h0,h⟩:=lZ h;refine lR hG ?_;refine lQ ?_;refine QE Zy (λ v=>H7 v=some r) ?_ ?_
 · intro j1 h
   unfold H7 at h;refine g_st ?_;refine lQ ?_;obtain⟨x0,h⟩:=lZ h;refine lR hG ?_;refine lX ?_;exact nF h
 refine QF (body:=Cq) (kk:=λ z=>H7 z) (r:=r) Zz hK ?_ (λ B h F M H O=>?_)
 · refine lQ (lQ (lR hG ?_))
   refine lU rfl hG h (λ _ h=>?_) (λ _ h=>?_)
   · refine lW ?_
     refine nV (lQ ?_);obtain⟨y0,h⟩:=lZ h;refine lR hG ?_;refine lR hG ?_;exact QJ hK [(0,0)] h
   refine nX ?_;refine .inr ?_;refine lQ ?_;obtain⟨z0,h⟩:=lZ h;refine lR hG ?_;refine lX ?_;exact nF h
 unfold Cq at H;refine g_st ?_;refine lQ (lQ (lR hG ?_));refine lU rfl hG H (λ _ H=>?_) (λ _ H=>?_)
 · refine lW ?_
   refine nV (lQ ?_);obtain⟨u0,H⟩:=lZ H;refine lR hG ?_;refine lR hG ?_;exact oL hK [(0,1)] H
 refine nX ?_;cases H;cases O _ rfl;refine .inl ?_;exact mM hK [(0,0)] (F.1,F.2) (by exact h)
instance aRy(H:List Int)(O:Int):OkP (tG H O) 49 [.sl (H.map (eI u8)),.int u64 O] (λ r=>.sl (r.map (eI u8))):=⟨ZA H O⟩
def Q8(j1:Unit):Option Bool:=some true
def Q9(O U:List aX)(H:Int):Option (Int⊕(Unit⊕Bool)):=(if decide (H<O.length)then gd (0<=H/\H<O.length)<|gd (0<=H/\H<U.length)<|(if !decide (O.getD H.toNat aX.zero=U.getD H.toNat aX.zero)then some (.inr (.inr false))else some (.inl (i64.wrap (H+1))))else some (.inr (.inl ())))
def Fa(H O:List aX):Option Bool:=(if !decide ((H.length:Int)=(O.length:Int))then some false else(lS (Q9 H O) 0).bind (λ|.inl z=>Q8 z|.inr z=>some z))
@[reducible,instance]def aS1 a0 a1:=mkJ (Fa a0 a1) 0 (@Q8.eq_1) λ j1=>⟨[],[],0⟩
@[reducible,instance]def aS2 (H O:List aX):=mkL x (@Q9.eq_1 H O) λ U=>⟨[(0,la H),(1,la O),(12,.int i64 H.length),(13,.int i64 U)],[],0⟩
instance ZB(H O:List aX):OkP (Fa H O) 173 [la H,la O] .bool:=ok1 (Fa.eq_1 H O) Tryz.f173 []
def uD(O H:Int):Option Int:=(if decide (H<1)then some 0 else gd (H≠0)<|(if decide (O.tmod H<0)then some (i64.wrap (O.tmod H+H))else some (O.tmod H)))
instance aS4(H O:Int):OkP (uD H O) 13 [.int i64 H,.int i64 O] (λ r=>.int i64 r):=ok1 (uD.eq_1 H O) Tryz.f13 []
def rX(H:Int):Bool:=(decide (1<=H)&&decide (H<=5))
instance aS5(H:Int):OkT 109 [.int i64 H] (.bool (rX H)):=ok2 .bool (rX.eq_1 H) Tryz.f109 []
def Ra(j1:Unit):Option Int:=some (-1)
def Rb(O:List aV)(U:aK)(H:Int):Option (Int⊕(Unit⊕Int)):=(if decide (H<O.length)then gd (0<=H/\H<O.length)<|(if decide ((O.getD H.toNat aV.zero).aL=U)then some (.inr (.inr H))else some (.inl (i64.wrap (H+1))))else some (.inr (.inl ())))
def vF(H:List aV)(O:aK):Option Int:=(lS (Rb H O) 0).bind (λ|.inl z=>Ra z|.inr z=>some z)
@[reducible,instance]def aS8 a0 a1:=mkJ (vF a0 a1) 0 (@Ra.eq_1) λ j1=>⟨[],[],0⟩
@[reducible,instance]def aS9 (H:List aV) (O:aK):=mkL x (@Rb.eq_1 H O) λ U=>⟨[(0,la H),(3,.ptr 0 0 0),(5,.int i64 U)],[(0,bx O)],1⟩
instance aSa(H:List aV)(O:aK):OkP (vF H O) 240 [la H,ga O] (λ r=>.int i64 r):=ok1 (vF.eq_1 H O) Tryz.f240 []
def Rc(j1:Unit):Option Int:=some (-1)
def H8(O:List aA)(U:ByteArray)(H:Int):Option (Int⊕(Unit⊕Int)):=(if decide (H<O.length)then gd (0<=H/\H<O.length)<|(if (((O.getD H.toNat aA.zero).aB).name).toList==U.toList then some (.inr (.inr H))else some (.inl (i64.wrap (H+1))))else some (.inr (.inl ())))
def rY(H:List aA)(O:ByteArray):Option Int:=(lS (H8 H O) 0).bind (λ|.inl z=>Rc z|.inr z=>some z)
@[reducible,instance]def aSd a0 a1:=mkJ (rY a0 a1) 0 (@Rc.eq_1) λ j1=>⟨[],[],0⟩
@[reducible,instance]def aSe (H:List aA) (O:ByteArray):=mkL x (@H8.eq_1 H O) λ U=>⟨[(0,la H),(1,.str O),(5,.int i64 U)],[],0⟩
instance Rd(H:List aA)(O:ByteArray):OkP (rY H O) 137 [la H,.str O] (λ r=>.int i64 r):=ok1 (rY.eq_1 H O) Tryz.f137 []
def L3(j1:Unit):Option Bool:=some true
def H9(O U:List aO)(H:Int):Option (Int⊕(Unit⊕Bool)):=(if decide (H<O.length)then gd (0<=H/\H<O.length)<|gd (0<=H/\H<U.length)<|(if !decide (O.getD H.toNat aO.zero=U.getD H.toNat aO.zero)then some (.inr (.inr false))else some (.inl (i64.wrap (H+1))))else some (.inr (.inl ())))
def wM(H O:List aO):Option Bool:=(if !decide ((H.length:Int)=(O.length:Int))then some false else(lS (H9 H O) 0).bind (λ|.inl z=>L3 z|.inr z=>some z))
@[reducible,instance]def aSi a0 a1:=mkJ (wM a0 a1) 0 (@L3.eq_1) λ j1=>⟨[],[],0⟩
@[reducible,instance]def aSj (H O:List aO):=mkL x (@H9.eq_1 H O) λ U=>⟨[(0,la H),(1,la O),(5,.int i64 U)],[],0⟩
instance aSk(H O:List aO):OkP (wM H O) 121 [la H,la O] .bool:=ok1 (wM.eq_1 H O) Tryz.f121 []
def Re(j1:Unit):Option (aH×Bool):=some ({aH.zero with},false)
def Ia(O:List aH)(U:ByteArray)(H:Int):Option (Int⊕(Unit⊕(aH×Bool))):=(if decide (H<O.length)then gd (0<=H/\H<O.length)<|(if ((O.getD H.toNat aH.zero).name).toList==U.toList then gd (0<=H/\H<O.length)<|some (.inr (.inr (O.getD H.toNat aH.zero,true)))else some (.inl (i64.wrap (H+1))))else some (.inr (.inl ())))
def Al(H:List aH)(O:ByteArray):Option (aH×Bool):=(lS (Ia H O) 0).bind (λ|.inl z=>Re z|.inr z=>some z)
@[reducible,instance]def aSn a0 a1:=mkJ (Al a0 a1) 0 (@Re.eq_1) λ j1=>⟨[(4,.ptr 0 0 0)],[(0,bx aH.zero)],1⟩
@[reducible,instance]def aSo (H:List aH) (O:ByteArray):=mkL x (@Ia.eq_1 H O) λ U=>⟨[(0,la H),(1,.str O),(4,.ptr 0 0 0),(6,.int i64 U)],[(0,bx aH.zero)],1⟩
instance aSp(H:List aH)(O:ByteArray):OkP (Al H O) 241 [la H,.str O] (λ r=>.tup [ga r.1,.bool r.2]):=ok1 (Al.eq_1 H O) Tryz.f241 []
def j8(O:Int)(U:aK)(H:bB):Option (Int×(List aA)×(List aG)×(List bL)):=gd (H.ev.length+1<=4294967296)<|some (H.c.now,H.c.aF,H.c.aD,H.ev++[{bL.zero with kind:=O,aL:=U}])
instance aSq(O:Int)(U:aK)(H:bB):OkM (j8 O U H) 227 [.ptr 0 0 0,.int i64 O,ga U] [(0,⟨false,4,bB.enc bB.zero,[[.int i64 H.c.now,la H.c.aF,.own 1 0 H.c.aD.length,.own 2 0 H.ev.length]]⟩),(1,sx H.c.aD),(2,sx H.ev)] 3 (λ r=>.tup []) (λ r=>[(0,⟨false,4,bB.enc bB.zero,[[.int i64 r.1,la r.2.1,.own 1 0 r.2.2.1.length,.own 3 0 r.2.2.2.length]]⟩),(1,sx r.2.2.1),(3,sx r.2.2.2)]) 4:=okm (j8.eq_1 O U H) (λ r=>[]) Tryz.f227 []
def L4(H:List aV)(j1:(List aV)):Option ((List aV)×Bool):=some (j1,decide (((j1.length:Nat):Int)<(H.length:Int)))
def Fb(O:List aV)(U:aK)(H:Int×(List aV)):Option ((Int×(List aV))⊕(List aV)):=(if decide (H.1<O.length)then gd (0<=H.1/\H.1<O.length)<|(if !decide ((O.getD H.1.toNat aV.zero).aL=U)then gd (0<=H.1/\H.1<O.length)<|gd (H.2.length+1<=4294967296)<|some (.inl (i64.wrap (H.1+1),H.2++[O.getD H.1.toNat aV.zero]))else some (.inl (i64.wrap (H.1+1),H.2)))else some (.inr H.2))
def wN(H:List aV)(O:aK):Option ((List aV)×Bool):=(lS (Fb H O) (0,[])).bind (λ z=>L4 H z)
@[reducible,instance]def aSt (H:List aV) a1:=mkJ (wN H a1) 0 (@L4.eq_1 H) λ j1=>⟨[(0,la H),(6,.own 0 0 j1.length)],[(0,sx j1)],1⟩
@[reducible,instance]def aSu (O:List aV) (U:aK):=mkL x (@Fb.eq_1 O U) λ H=>⟨[(0,la O),(3,.ptr 0 0 0),(6,.own 1 0 H.2.length),(7,.int i64 H.1)],[(0,bx U),(1,sx H.2)],2⟩
instance aSv(H:List aV)(O:aK):OkP (wN H O) 210 [la H,ga O] (λ r=>.tup [la r.1,.bool r.2]):=ok1 (wN.eq_1 H O) Tryz.f210 [(6,1)]
def oO(H:Int):Int:=(if decide (H<0)||decide (1073741824<=H)then 1 else(i64.wrap (H+1)))
instance aSw(H:Int):OkT 232 [.int i64 H] (.int i64 (oO H)):=ok2 (λ r=>.int i64 r) (oO.eq_1 H) Tryz.f232 []
def Rf(j1:Unit):Option (bQ×Bool):=some ({bQ.zero with},false)
def Ib(O:aI)(U:aK)(H:Int):Option (Int⊕(Unit⊕(bQ×Bool))):=(if decide (H<O.aY.length)then gd (0<=H/\H<O.aY.length)<|(if decide ((O.aY.getD H.toNat bQ.zero).aL=U)then gd (0<=H/\H<O.aY.length)<|some (.inr (.inr (O.aY.getD H.toNat bQ.zero,true)))else some (.inl (i64.wrap (H+1))))else some (.inr (.inl ())))
def yD(H:aI)(O:aK):Option (bQ×Bool):=(lS (Ib H O) 0).bind (λ|.inl z=>Rf z|.inr z=>some z)
@[reducible,instance]def aSz (H:aI) (O:aK):=mkJ (yD H O) 0 (@Rf.eq_1) λ j1=>⟨[(4,.ptr 0 0 0)],[(0,bx bQ.zero)],1⟩
@[reducible,instance]def aT0 (H:aI) (O:aK):=mkL x (@Ib.eq_1 H O) λ U=>⟨[(2,.ptr 0 0 0),(3,.ptr 1 0 0),(4,.ptr 2 0 0),(6,.int i64 U)],[(0,bx H),(1,bx O),(2,bx bQ.zero)],3⟩
instance aT1(H:aI)(O:aK):OkP (yD H O) 206 [ga H,ga O] (λ r=>.tup [ga r.1,.bool r.2]):=⟨λ r h=>by
 refine oC Tryz.f206 [] λ E hG B hK=>?_;have hm:Mk (yD H O):=trivial;unfold yD at h;refine lQ (lR hG ?_);refine lQ (lQ (lR hG ?_));refine wL hm h (λ j1 hm h=>?_) ?_
 · try refine g_st ?_
   refine lQ (lR hG ?_);refine lX ?_;exact nF h (by intro e;subst e;simp[aK.enc,aO.enc,aC.enc])
 refine QX hm hK [(0,0),(1,1),(2,2)] h (λ F y hm kx h=>?_)
 try refine g_st ?_
 refine lQ (lQ (lR hG ?_));refine lU rfl hG h (λ _ h=>?_) (λ _ h=>?_)
 · refine lW ?_
   refine lQ (nV (lQ ?_));obtain⟨U,h⟩:=lZ h;refine yC oB hG ?_;refine lU rfl hG h (λ _ h=>?_) (λ _ h=>?_)
   · refine lQ ?_
     obtain⟨Y,h⟩:=lZ h;refine lR hG ?_;refine lX ?_;obtain⟨hm,h⟩:=Q0 kx h
     clear kx
     try dsimp only at h
     exact nF h (by intro e;subst e;simp[aK.enc,aO.enc,aC.enc])
   exact gogo
 exact gogo⟩
end
end Ab
end Go.Proofs.YtfmnjkfhahfhgaaGreatDoor
