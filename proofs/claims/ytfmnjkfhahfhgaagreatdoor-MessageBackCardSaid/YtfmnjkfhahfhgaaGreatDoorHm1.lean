import Derived.Test.YtfmnjkfhahfhgaaGreatDoorAuto
namespace Go.Proofs.YtfmnjkfhahfhgaaGreatDoor
namespace Ab
set_option linter.defProp false
open IntKind (i64 u64 u8)
set_option linter.unusedSimpArgs false
set_option linter.unusedVariables false
set_option maxRecDepth 100000
set_option maxHeartbeats 1000000
noncomputable section
variable {T : Type} (x : T)
def oM(f:Nat):Option Nat:=bif Nat.beq f 64 then some 0 else bif Nat.beq f 65 then some 1 else bif Nat.beq f 66 then some 2 else bif Nat.beq f 67 then some 3 else bif Nat.beq f 68 then some 4 else bif Nat.beq f 69 then some 5 else bif Nat.beq f 70 then some 6 else none
def nI(m:aL)(k:Nat):Int:=match k with|0=>m.gen|1=>m.round|2=>m.epoch|3=>m.bC|4=>m.site|5=>m.inc|_=>m.label
def sP(m:aL)(k:Nat)(n:Int):aL:=match k with|0=>{m with gen:=n}|1=>{m with round:=n}|2=>{m with epoch:=n}|3=>{m with bC:=n}|4=>{m with site:=n}|5=>{m with inc:=n}|_=>{m with label:=n}
def Jb(k:Nat):Nat:=match k with|0=>4|1=>10|2=>11|3=>8|4=>12|5=>9|_=>13
@[go_sem] theorem aR6(m:aL)(k:Nat):sub (aL.enc m) (Jb k) 1=[.int i64 (nI m k)]:=match k with|0=>rfl|1=>rfl|2=>rfl|3=>rfl|4=>rfl|5=>rfl|_+6=>rfl
@[go_sem] theorem aR7(m:aL)(k:Nat)(n:Int):upd (aL.enc m) (Jb k) [.int i64 n]=aL.enc (sP m k n):=match k with|0=>rfl|1=>rfl|2=>rfl|3=>rfl|4=>rfl|5=>rfl|_+6=>rfl
@[go_sem] theorem aR8(k:Nat):(Jb k+1<=18)=True:=eq_true (match k with|0=>(by show 4+1<=18;decide)|1=>(by show 10+1<=18;decide)|2=>(by show 11+1<=18;decide)|3=>(by show 8+1<=18;decide)|4=>(by show 12+1<=18;decide)|5=>(by show 9+1<=18;decide)|_+6=>(by show 13+1<=18;decide))
def aR9(m:aL):MFn C 64 [.ptr 0 0 0] [(0,bx m)] 1 (.ptr 0 0 4) [(0,bx m)] 1:=by refine oZ Tryz.f64 [] [.ptr 0 0 4] λ E hG H hK=>?_;refine lW (lX hG ?_);refine lW (lX hG ?_);refine mG ?_;obtain⟨r,h⟩:∃r:Unit,some ()=some r:=⟨(),rfl⟩;exact mW [(0,0)] h
def aRa(m:aL):MFn C 65 [.ptr 0 0 0] [(0,bx m)] 1 (.ptr 0 0 10) [(0,bx m)] 1:=by refine oZ Tryz.f65 [] [.ptr 0 0 10] λ E hG H hK=>?_;refine lW (lX hG ?_);refine lW (lX hG ?_);refine mG ?_;obtain⟨r,h⟩:∃r:Unit,some ()=some r:=⟨(),rfl⟩;exact mW [(0,0)] h
def aRb(m:aL):MFn C 66 [.ptr 0 0 0] [(0,bx m)] 1 (.ptr 0 0 11) [(0,bx m)] 1:=by refine oZ Tryz.f66 [] [.ptr 0 0 11] λ E hG H hK=>?_;refine lW (lX hG ?_);refine lW (lX hG ?_);refine mG ?_;obtain⟨r,h⟩:∃r:Unit,some ()=some r:=⟨(),rfl⟩;exact mW [(0,0)] h
def aRc(m:aL):MFn C 67 [.ptr 0 0 0] [(0,bx m)] 1 (.ptr 0 0 8) [(0,bx m)] 1:=by refine oZ Tryz.f67 [] [.ptr 0 0 8] λ E hG H hK=>?_;refine lW (lX hG ?_);refine lW (lX hG ?_);refine mG ?_;obtain⟨r,h⟩:∃r:Unit,some ()=some r:=⟨(),rfl⟩;exact mW [(0,0)] h
def aRd(m:aL):MFn C 68 [.ptr 0 0 0] [(0,bx m)] 1 (.ptr 0 0 12) [(0,bx m)] 1:=by refine oZ Tryz.f68 [] [.ptr 0 0 12] λ E hG H hK=>?_;refine lW (lX hG ?_);refine lW (lX hG ?_);refine mG ?_;obtain⟨r,h⟩:∃r:Unit,some ()=some r:=⟨(),rfl⟩;exact mW [(0,0)] h
def aRe(m:aL):MFn C 69 [.ptr 0 0 0] [(0,bx m)] 1 (.ptr 0 0 9) [(0,bx m)] 1:=by refine oZ Tryz.f69 [] [.ptr 0 0 9] λ E hG H hK=>?_;refine lW (lX hG ?_);refine lW (lX hG ?_);refine mG ?_;obtain⟨r,h⟩:∃r:Unit,some ()=some r:=⟨(),rfl⟩;exact mW [(0,0)] h
def aRf(m:aL):MFn C 70 [.ptr 0 0 0] [(0,bx m)] 1 (.ptr 0 0 13) [(0,bx m)] 1:=by refine oZ Tryz.f70 [] [.ptr 0 0 13] λ E hG H hK=>?_;refine lW (lX hG ?_);refine lW (lX hG ?_);refine mG ?_;obtain⟨r,h⟩:∃r:Unit,some ()=some r:=⟨(),rfl⟩;exact mW [(0,0)] h
def Sc{f k:Nat}(h:oM f=some k):f=64/\k=0\/f=65/\k=1\/f=66/\k=2\/f=67/\k=3\/f=68/\k=4\/f=69/\k=5\/f=70/\k=6:=by
 unfold oM at h
 by_cases e:f=64
 .subst e;obtain rfl:=dY (show some 0=some k from h);exact .inl ⟨rfl,rfl⟩
 rw[show Nat.beq f 64=false from dJ.2 λ H=>e (fQ H),cond_false]at h
 by_cases e:f=65
 .subst e;obtain rfl:=dY (show some 1=some k from h);exact .inr (.inl ⟨rfl,rfl⟩)
 rw[show Nat.beq f 65=false from dJ.2 λ H=>e (fQ H),cond_false]at h
 by_cases e:f=66
 .subst e;obtain rfl:=dY (show some 2=some k from h);exact .inr (.inr (.inl ⟨rfl,rfl⟩))
 rw[show Nat.beq f 66=false from dJ.2 λ H=>e (fQ H),cond_false]at h
 by_cases e:f=67
 .subst e;obtain rfl:=dY (show some 3=some k from h);exact .inr (.inr (.inr (.inl ⟨rfl,rfl⟩)))
 rw[show Nat.beq f 67=false from dJ.2 λ H=>e (fQ H),cond_false]at h
 by_cases e:f=68
 .subst e;obtain rfl:=dY (show some 4=some k from h);exact .inr (.inr (.inr (.inr (.inl ⟨rfl,rfl⟩))))
 rw[show Nat.beq f 68=false from dJ.2 λ H=>e (fQ H),cond_false]at h
 by_cases e:f=69
 .subst e;obtain rfl:=dY (show some 5=some k from h);exact .inr (.inr (.inr (.inr (.inr (.inl ⟨rfl,rfl⟩)))))
 rw[show Nat.beq f 69=false from dJ.2 λ H=>e (fQ H),cond_false]at h
 by_cases e:f=70
 .subst e;obtain rfl:=dY (show some 6=some k from h);exact .inr (.inr (.inr (.inr (.inr (.inr ⟨rfl,rfl⟩)))))
 rw[show Nat.beq f 70=false from dJ.2 λ H=>e (fQ H),cond_false]at h;cases h
def AZ(f:Nat)(m:aL)(k:Nat)(h:oM f=some k):MFn C f [.ptr 0 0 0] [(0,bx m)] 1 (.ptr 0 0 (Jb k)) [(0,bx m)] 1:=by
 rcases Sc h with⟨rfl,rfl⟩|⟨rfl,rfl⟩|⟨rfl,rfl⟩|⟨rfl,rfl⟩|⟨rfl,rfl⟩|⟨rfl,rfl⟩|⟨rfl,rfl⟩
 .exact aR9 m
 .exact aRa m
 .exact aRb m
 .exact aRc m
 .exact aRd m
 .exact aRe m
 .exact aRf m
def tM{f k:Nat}(h:oM f=some k):pG C.P f=true:=by rcases Sc h with⟨rfl,rfl⟩|⟨rfl,rfl⟩|⟨rfl,rfl⟩|⟨rfl,rfl⟩|⟨rfl,rfl⟩|⟨rfl,rfl⟩|⟨rfl,rfl⟩<;>kernel_rfl
def s7(H O U:Int):Bool:=(decide (O<=H)&&decide (H<=U))
instance aRh(H O U:Int):OkT 177 [.int i64 H,.int i64 O,.int i64 U] (.bool (s7 H O U)):=ok2 .bool (s7.eq_1 H O U) Tryz.f177 []
def A0(j1:Bool):Bool:=(if j1 then true else false)
def Dh(H:ByteArray):Bool:=(if H.toList==(⟨#[97,108,108]⟩:ByteArray).toList then A0 (H.toList==(⟨#[97,108,108]⟩:ByteArray).toList)else(if H.toList==(⟨#[97,110,121]⟩:ByteArray).toList then A0 (H.toList==(⟨#[97,110,121]⟩:ByteArray).toList)else(if H.toList==(⟨#[111,102]⟩:ByteArray).toList then A0 (H.toList==(⟨#[111,102]⟩:ByteArray).toList)else(if H.toList==(⟨#[112,114,105,111]⟩:ByteArray).toList then A0 (H.toList==(⟨#[112,114,105,111]⟩:ByteArray).toList)else A0 (H.toList==(⟨#[108,105,109,105,116]⟩:ByteArray).toList)))))
@[reducible,instance]def aRi a0:=mkJ (Dh a0) 999 (@A0.eq_1) λ j1=>⟨[(4,.bool j1)],[],0⟩
instance aRj(H:ByteArray):OkT 178 [.str H] (.bool (Dh H)):=ok2 .bool (Dh.eq_1 H) Tryz.f178 []
def oB(H:aI):Bool:=(if decide (H.kind=1)then(decide (H.aU=1))else(if decide (H.kind=2)then(decide (1<=H.aU)&&decide (H.aU<=8))else false))
instance aRk(H:aI):OkT 282 [.agg (aI.enc H)] (.bool (oB H)):=ok2 .bool (oB.eq_1 H) Tryz.f282 []
def M8(H:Int):(Arr Bool 6):=(if decide (H=5)then(Arr.put (Arr.put (Arr.put (Arr.put (Arr.put (Arr.rep 6 false) 5 true) 4 true) 3 true) 2 true) 1 true)else(if decide (H=4)then(Arr.put (Arr.put (Arr.put (Arr.put (Arr.rep 6 false) 4 true) 3 true) 2 true) 1 true)else(if decide (H=2)then(Arr.put (Arr.put (Arr.rep 6 false) 2 true) 1 true)else(if decide (H=1)then(Arr.put (Arr.rep 6 false) 1 true)else(if decide (H=3)then(Arr.put (Arr.put (Arr.rep 6 false) 3 true) 1 true)else(Arr.rep 6 false))))))
instance aRm(H:Int):OkT 311 [.int i64 H] (.agg (Arr.enc eB (M8 H))):=ok2 (λ r=>.agg (Arr.enc eB r)) (M8.eq_1 H) Tryz.f311 []
def M9(O:aO)(H:List aO)(j1:Unit):Option (Int×(List aO)):=(if decide (((H.length:Nat):Int)=8)then some (4,H)else gd (H.length+1<=4294967296)<|some (0,H++[O]))
def FY(U:aO)(H:List aO)(O:Int):Option (Int⊕(Unit⊕(Int×(List aO)))):=(if decide (O<((H.length:Nat):Int))then gd (0<=O/\O<((H.length:Nat):Int))<|(if decide (U=H.getD O.toNat aO.zero)then some (.inr (.inr (0,H)))else(if U.name.toList==((H.getD O.toNat aO.zero).name).toList then some (.inr (.inr (13,H)))else some (.inl (i64.wrap (O+1)))))else some (.inr (.inl ())))
def A1(H:aO)(O:List aO):Option (Int×(List aO)):=(lY (FY H O) 0).bind (λ|.inl z=>M9 H O z|.inr z=>some z)
@[reducible,instance]def aRp (O:aO) (H:List aO):=mkJ (A1 O H) 0 (@M9.eq_1 O H) λ j1=>⟨[(0,.ptr 0 0 0),(3,.ptr 2 0 0)],[(0,⟨false,1,[A.sl ([].map aO.enc)],[[.own 3 0 H.length]]⟩),(2,bx O),(3,sx H)],4⟩
@[reducible,instance]def aRq (O:aO) (H:List aO):=mkL x (@FY.eq_1 O H) λ U=>⟨[(0,.ptr 0 0 0),(3,.ptr 2 0 0),(9,.own 3 0 H.length),(10,.int i64 ((H.length:Nat):Int)),(11,.int i64 U)],[(0,⟨false,1,[A.sl ([].map aO.enc)],[[.own 3 0 H.length]]⟩),(2,bx O),(3,sx H)],4⟩
instance aRr(O:aO)(H:List aO):OkM (A1 O H) 256 [.ptr 0 0 0,ga O] [(0,⟨false,1,[A.sl ([].map aO.enc)],[[.own 1 0 H.length]]⟩),(1,sx H)] 2 (λ r=>.int i64 r.1) (λ r=>[(0,⟨false,1,[A.sl ([].map aO.enc)],[[.own 2 0 r.2.length]]⟩),(2,sx r.2)]) 3:=okm (A1.eq_1 O H) (λ r=>[.int i64 r.1]) Tryz.f256 []
def Sd(j1:(List aK)):Option (List aK):=some j1
def Se(O:List aX)(H:Int×(List aK)):Option ((Int×(List aK))⊕(List aK)):=(if decide (H.1<O.length)then gd (0<=H.1/\H.1<O.length)<|gd (H.2.length+1<=4294967296)<|some (.inl (i64.wrap (H.1+1),H.2++[(O.getD H.1.toNat aX.zero).aM]))else some (.inr H.2))
def A2(H:List aX):Option (List aK):=(lY (Se H) (0,[])).bind (λ z=>Sd z)
@[reducible,instance]def aRu a0:=mkJ (A2 a0) 0 (@Sd.eq_1) λ j1=>⟨[(3,.own 0 0 j1.length)],[(0,sx j1)],1⟩
@[reducible,instance]def aRv (H:List aX):=mkL x (@Se.eq_1 H) λ O=>⟨[(3,.own 0 0 O.2.length),(6,la H),(7,.int i64 H.length),(8,.int i64 O.1)],[(0,sx O.2)],1⟩
instance aRw(H:List aX):OkM (A2 H) 275 [la H] [] 0 (λ r=>.own 0 0 r.length) (λ r=>[(0,sx r)]) 1:=okm (A2.eq_1 H) (λ r=>[.own 0 0 r.length]) Tryz.f275 [(2,1),(3,1)]
def Jc(j1:Int×(List Int)):Option (List Int):=gd (j1.2.length+1<=4294967296)<|some (j1.2++[u8.wrap j1.1])
@[go_sem] def aRy(j1:Int×(List Int)):St:=⟨[(1,.int u64 j1.1),(5,.own 0 0 j1.2.length)],[(0,⟨false,1,[A.int u8 0],j1.2.map (eI u8)⟩)],1⟩
def Di(H:Int×(List Int)):Option ((Int×(List Int))⊕(Int×(List Int))):=(if decide (127<H.1)then gd (H.2.length+1<=4294967296)<|some (.inl (H.1.fdiv (2^7),H.2++[oD .or u8 (u8.wrap (oD .and u64 H.1 127)) 128]))else some (.inr (H.1,H.2)))
@[go_sem] def aRz(H:Int×(List Int)):St:=⟨[(1,.int u64 H.1),(5,.own 0 0 H.2.length)],[(0,⟨false,1,[A.int u8 0],H.2.map (eI u8)⟩)],1⟩
def uF(H:List Int)(O:Int):Option (List Int):=gd (0<=0/\0<=(H.length:Int)/\(H.length:Int)<=(H.length:Int)/\(H.length:Int)=(H.length:Int))<|(if decide (127<O)then gd ((H.take (H.length:Int).toNat).length+1<=4294967296)<|(lY Di (O.fdiv (2^7),H.take (H.length:Int).toNat++[oD .or u8 (u8.wrap (oD .and u64 O 127)) 128])).bind (λ z=>Jc z)else gd ((H.take (H.length:Int).toNat).length+1<=4294967296)<|some (H.take (H.length:Int).toNat++[u8.wrap O]))
def aS0(U:List Int)(Y:Int)(r:(List Int))(h:uF U Y=some r):PFn C 49 [.sl (U.map (eI u8)),.int u64 Y] (.sl (r.map (eI u8))):=by
 refine oN Tryz.f49 [] λ E hG hN hK=>?_;unfold uF at h;refine lW (lX hG ?_);refine lW ?_;obtain⟨h0,h⟩:=mH h;refine lX hG ?_;refine lW ?_;refine RK aRy (λ v=>Jc v=some r) ?_ ?_
 · intro j1 h
   unfold Jc at h;refine g_st ?_;refine lW ?_;obtain⟨x0,h⟩:=mH h;refine lX hG ?_;refine mG ?_;exact nM h
 refine RL (body:=Di) (kk:=λ z=>Jc z) (r:=r) aRz hK ?_ (λ B h F M H O=>?_)
 · refine lW (lW (lX hG ?_))
   refine mA rfl hG h (λ _ h=>?_) (λ _ h=>?_)
   · refine mE ?_
     refine oG (lW ?_);obtain⟨y0,h⟩:=mH h;refine lX hG ?_;refine lX hG ?_;exact RP hK [(0,0)] h
   refine oI ?_;refine .inr ?_;refine lW ?_;obtain⟨z0,h⟩:=mH h;refine lX hG ?_;refine mG ?_;exact nM h
 unfold Di at H;refine g_st ?_;refine lW (lW (lX hG ?_));refine mA rfl hG H (λ _ H=>?_) (λ _ H=>?_)
 · refine mE ?_
   refine oG (lW ?_);obtain⟨u0,H⟩:=mH H;refine lX hG ?_;refine lX hG ?_;exact oU hK [(0,1)] H
 refine oI ?_;cases H;cases O _ rfl;refine .inl ?_;exact mT hK [(0,0)] (F.1,F.2) (by exact h)
instance aS1(H:List Int)(O:Int):OkP (uF H O) 49 [.sl (H.map (eI u8)),.int u64 O] (λ r=>.sl (r.map (eI u8))):=⟨aS0 H O⟩
def Sf(j1:Unit):Option Bool:=some true
def Sg(O U:List aX)(H:Int):Option (Int⊕(Unit⊕Bool)):=(if decide (H<O.length)then gd (0<=H/\H<O.length)<|gd (0<=H/\H<U.length)<|(if !decide (O.getD H.toNat aX.zero=U.getD H.toNat aX.zero)then some (.inr (.inr false))else some (.inl (i64.wrap (H+1))))else some (.inr (.inl ())))
def FZ(H O:List aX):Option Bool:=(if !decide ((H.length:Int)=(O.length:Int))then some false else(lY (Sg H O) 0).bind (λ|.inl z=>Sf z|.inr z=>some z))
@[reducible,instance]def aS4 a0 a1:=mkJ (FZ a0 a1) 0 (@Sf.eq_1) λ j1=>⟨[],[],0⟩
@[reducible,instance]def aS5 (H O:List aX):=mkL x (@Sg.eq_1 H O) λ U=>⟨[(0,la H),(1,la O),(12,.int i64 H.length),(13,.int i64 U)],[],0⟩
instance aS6(H O:List aX):OkP (FZ H O) 173 [la H,la O] .bool:=ok1 (FZ.eq_1 H O) Tryz.f173 []
def wF(O H:Int):Option Int:=(if decide (H<1)then some 0 else gd (H≠0)<|(if decide (O.tmod H<0)then some (i64.wrap (O.tmod H+H))else some (O.tmod H)))
instance aS7(H O:Int):OkP (wF H O) 13 [.int i64 H,.int i64 O] (λ r=>.int i64 r):=ok1 (wF.eq_1 H O) Tryz.f13 []
def sQ(H:Int):Bool:=(decide (1<=H)&&decide (H<=5))
instance aS8(H:Int):OkT 109 [.int i64 H] (.bool (sQ H)):=ok2 .bool (sQ.eq_1 H) Tryz.f109 []
def Sh(j1:Unit):Option Int:=some (-1)
def Si(O:List aV)(U:aK)(H:Int):Option (Int⊕(Unit⊕Int)):=(if decide (H<O.length)then gd (0<=H/\H<O.length)<|(if decide ((O.getD H.toNat aV.zero).aM=U)then some (.inr (.inr H))else some (.inl (i64.wrap (H+1))))else some (.inr (.inl ())))
def wG(H:List aV)(O:aK):Option Int:=(lY (Si H O) 0).bind (λ|.inl z=>Sh z|.inr z=>some z)
@[reducible,instance]def aSb a0 a1:=mkJ (wG a0 a1) 0 (@Sh.eq_1) λ j1=>⟨[],[],0⟩
@[reducible,instance]def aSc (H:List aV) (O:aK):=mkL x (@Si.eq_1 H O) λ U=>⟨[(0,la H),(3,.ptr 0 0 0),(5,.int i64 U)],[(0,bx O)],1⟩
instance aSd(H:List aV)(O:aK):OkP (wG H O) 240 [la H,ga O] (λ r=>.int i64 r):=ok1 (wG.eq_1 H O) Tryz.f240 []
def Sj(j1:Unit):Option Int:=some (-1)
def Jd(O:List aA)(U:ByteArray)(H:Int):Option (Int⊕(Unit⊕Int)):=(if decide (H<O.length)then gd (0<=H/\H<O.length)<|(if (((O.getD H.toNat aA.zero).aB).name).toList==U.toList then some (.inr (.inr H))else some (.inl (i64.wrap (H+1))))else some (.inr (.inl ())))
def sR(H:List aA)(O:ByteArray):Option Int:=(lY (Jd H O) 0).bind (λ|.inl z=>Sj z|.inr z=>some z)
@[reducible,instance]def aSg a0 a1:=mkJ (sR a0 a1) 0 (@Sj.eq_1) λ j1=>⟨[],[],0⟩
@[reducible,instance]def aSh (H:List aA) (O:ByteArray):=mkL x (@Jd.eq_1 H O) λ U=>⟨[(0,la H),(1,.str O),(5,.int i64 U)],[],0⟩
instance Sk(H:List aA)(O:ByteArray):OkP (sR H O) 137 [la H,.str O] (λ r=>.int i64 r):=ok1 (sR.eq_1 H O) Tryz.f137 []
def Na(j1:Unit):Option Bool:=some true
def Je(O U:List aO)(H:Int):Option (Int⊕(Unit⊕Bool)):=(if decide (H<O.length)then gd (0<=H/\H<O.length)<|gd (0<=H/\H<U.length)<|(if !decide (O.getD H.toNat aO.zero=U.getD H.toNat aO.zero)then some (.inr (.inr false))else some (.inl (i64.wrap (H+1))))else some (.inr (.inl ())))
def xO(H O:List aO):Option Bool:=(if !decide ((H.length:Int)=(O.length:Int))then some false else(lY (Je H O) 0).bind (λ|.inl z=>Na z|.inr z=>some z))
@[reducible,instance]def aSl a0 a1:=mkJ (xO a0 a1) 0 (@Na.eq_1) λ j1=>⟨[],[],0⟩
@[reducible,instance]def aSm (H O:List aO):=mkL x (@Je.eq_1 H O) λ U=>⟨[(0,la H),(1,la O),(5,.int i64 U)],[],0⟩
instance aSn(H O:List aO):OkP (xO H O) 121 [la H,la O] .bool:=ok1 (xO.eq_1 H O) Tryz.f121 []
def Sl(j1:Unit):Option (aI×Bool):=some ({aI.zero with},false)
def Jf(O:List aI)(U:ByteArray)(H:Int):Option (Int⊕(Unit⊕(aI×Bool))):=(if decide (H<O.length)then gd (0<=H/\H<O.length)<|(if ((O.getD H.toNat aI.zero).name).toList==U.toList then gd (0<=H/\H<O.length)<|some (.inr (.inr (O.getD H.toNat aI.zero,true)))else some (.inl (i64.wrap (H+1))))else some (.inr (.inl ())))
def A3(H:List aI)(O:ByteArray):Option (aI×Bool):=(lY (Jf H O) 0).bind (λ|.inl z=>Sl z|.inr z=>some z)
@[reducible,instance]def aSq a0 a1:=mkJ (A3 a0 a1) 0 (@Sl.eq_1) λ j1=>⟨[(4,.ptr 0 0 0)],[(0,bx aI.zero)],1⟩
@[reducible,instance]def aSr (H:List aI) (O:ByteArray):=mkL x (@Jf.eq_1 H O) λ U=>⟨[(0,la H),(1,.str O),(4,.ptr 0 0 0),(6,.int i64 U)],[(0,bx aI.zero)],1⟩
instance aSs(H:List aI)(O:ByteArray):OkP (A3 H O) 241 [la H,.str O] (λ r=>.tup [ga r.1,.bool r.2]):=ok1 (A3.eq_1 H O) Tryz.f241 []
def s8(O:Int)(U:aK)(H:bB):Option (Int×(List aA)×(List aG)×(List bL)):=gd (H.ev.length+1<=4294967296)<|some (H.c.now,H.c.aF,H.c.aD,H.ev++[{bL.zero with kind:=O,aM:=U}])
instance aSt(O:Int)(U:aK)(H:bB):OkM (s8 O U H) 227 [.ptr 0 0 0,.int i64 O,ga U] [(0,⟨false,4,bB.enc bB.zero,[[.int i64 H.c.now,la H.c.aF,.own 1 0 H.c.aD.length,.own 2 0 H.ev.length]]⟩),(1,sx H.c.aD),(2,sx H.ev)] 3 (λ r=>.tup []) (λ r=>[(0,⟨false,4,bB.enc bB.zero,[[.int i64 r.1,la r.2.1,.own 1 0 r.2.2.1.length,.own 3 0 r.2.2.2.length]]⟩),(1,sx r.2.2.1),(3,sx r.2.2.2)]) 4:=okm (s8.eq_1 O U H) (λ r=>[]) Tryz.f227 []
def Nb(H:List aV)(j1:(List aV)):Option ((List aV)×Bool):=some (j1,decide (((j1.length:Nat):Int)<(H.length:Int)))
def F0(O:List aV)(U:aK)(H:Int×(List aV)):Option ((Int×(List aV))⊕(List aV)):=(if decide (H.1<O.length)then gd (0<=H.1/\H.1<O.length)<|(if !decide ((O.getD H.1.toNat aV.zero).aM=U)then gd (0<=H.1/\H.1<O.length)<|gd (H.2.length+1<=4294967296)<|some (.inl (i64.wrap (H.1+1),H.2++[O.getD H.1.toNat aV.zero]))else some (.inl (i64.wrap (H.1+1),H.2)))else some (.inr H.2))
def xP(H:List aV)(O:aK):Option ((List aV)×Bool):=(lY (F0 H O) (0,[])).bind (λ z=>Nb H z)
@[reducible,instance]def aSw (H:List aV) a1:=mkJ (xP H a1) 0 (@Nb.eq_1 H) λ j1=>⟨[(0,la H),(6,.own 0 0 j1.length)],[(0,sx j1)],1⟩
@[reducible,instance]def aSx (O:List aV) (U:aK):=mkL x (@F0.eq_1 O U) λ H=>⟨[(0,la O),(3,.ptr 0 0 0),(6,.own 1 0 H.2.length),(7,.int i64 H.1)],[(0,bx U),(1,sx H.2)],2⟩
instance aSy(H:List aV)(O:aK):OkP (xP H O) 210 [la H,ga O] (λ r=>.tup [la r.1,.bool r.2]):=ok1 (xP.eq_1 H O) Tryz.f210 [(6,1)]
def oW(H:Int):Int:=(if decide (H<0)||decide (1073741824<=H)then 1 else(i64.wrap (H+1)))
instance aSz(H:Int):OkT 232 [.int i64 H] (.int i64 (oW H)):=ok2 (λ r=>.int i64 r) (oW.eq_1 H) Tryz.f232 []
def Sm(j1:Unit):Option (bQ×Bool):=some ({bQ.zero with},false)
def Jg(O:aH)(U:aK)(H:Int):Option (Int⊕(Unit⊕(bQ×Bool))):=(if decide (H<O.aY.length)then gd (0<=H/\H<O.aY.length)<|(if decide ((O.aY.getD H.toNat bQ.zero).aM=U)then gd (0<=H/\H<O.aY.length)<|some (.inr (.inr (O.aY.getD H.toNat bQ.zero,true)))else some (.inl (i64.wrap (H+1))))else some (.inr (.inl ())))
def zP(H:aH)(O:aK):Option (bQ×Bool):=(lY (Jg H O) 0).bind (λ|.inl z=>Sm z|.inr z=>some z)
@[reducible,instance]def aT2 (H:aH) (O:aK):=mkJ (zP H O) 0 (@Sm.eq_1) λ j1=>⟨[(4,.ptr 0 0 0)],[(0,bx bQ.zero)],1⟩
@[reducible,instance]def aT3 (H:aH) (O:aK):=mkL x (@Jg.eq_1 H O) λ U=>⟨[(2,.ptr 0 0 0),(3,.ptr 1 0 0),(4,.ptr 2 0 0),(6,.int i64 U)],[(0,bx H),(1,bx O),(2,bx bQ.zero)],3⟩
instance aT4(H:aH)(O:aK):OkP (zP H O) 206 [ga H,ga O] (λ r=>.tup [ga r.1,.bool r.2]):=⟨λ r h=>by
 refine oN Tryz.f206 [] λ E hG B hK=>?_;have hm:Mk (zP H O):=trivial;unfold zP at h;refine lW (lX hG ?_);refine lW (lW (lX hG ?_));refine xN hm h (λ j1 hm h=>?_) ?_
 · try refine g_st ?_
   refine lW (lX hG ?_);refine mG ?_;exact nM h (by intro e;subst e;simp[aK.enc,aO.enc,aC.enc])
 refine R4 hm hK [(0,0),(1,1),(2,2)] h (λ F y hm kx h=>?_)
 try refine g_st ?_
 refine lW (lW (lX hG ?_));refine mA rfl hG h (λ _ h=>?_) (λ _ h=>?_)
 · refine mE ?_
   refine lW (oG (lW ?_));obtain⟨U,h⟩:=mH h;refine zO oL hG ?_;refine mA rfl hG h (λ _ h=>?_) (λ _ h=>?_)
   · refine lW ?_
     obtain⟨Y,h⟩:=mH h;refine lX hG ?_;refine mG ?_;obtain⟨hm,h⟩:=R7 kx h
     clear kx
     try dsimp only at h
     exact nM h (by intro e;subst e;simp[aK.enc,aO.enc,aC.enc])
   exact gogo
 exact gogo⟩
end
end Ab
end Go.Proofs.YtfmnjkfhahfhgaaGreatDoor
