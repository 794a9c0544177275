import Derived.Test.YtfmnjkfhahfhgaaGreatDoorAuto
namespace Go.Proofs.YtfmnjkfhahfhgaaGreatDoor
namespace Ab
open Tryz
set_option linter.all false
open IntKind (i64 u64 u8)
set_option maxRecDepth 100000
set_option maxHeartbeats 1000000
noncomputable section
variable {T : Type} (x : T)
def oP(f:Nat):Option Nat:=bif Nat.beq f 64 then some 0 else bif Nat.beq f 65 then some 1 else bif Nat.beq f 66 then some 2 else bif Nat.beq f 67 then some 3 else bif Nat.beq f 68 then some 4 else bif Nat.beq f 69 then some 5 else bif Nat.beq f 70 then some 6 else none
def nQ(m:aL)(k:Nat):Int:=match k with|0=>m.gen|1=>m.round|2=>m.epoch|3=>m.bE|4=>m.site|5=>m.inc|_=>m.label
def sD(m:aL)(k:Nat)(n:Int):aL:=match k with|0=>{m with gen:=n}|1=>{m with round:=n}|2=>{m with epoch:=n}|3=>{m with bE:=n}|4=>{m with site:=n}|5=>{m with inc:=n}|_=>{m with label:=n}
def Kc(k:Nat):Nat:=match k with|0=>4|1=>10|2=>11|3=>8|4=>12|5=>9|_=>13
@[go_sem] theorem aR9(m:aL)(k:Nat):sub (aL.enc m) (Kc k) 1=[.int i64 (nQ m k)]:=match k with|0=>rfl|1=>rfl|2=>rfl|3=>rfl|4=>rfl|5=>rfl|_+6=>rfl
@[go_sem] theorem aRa(m:aL)(k:Nat)(n:Int):upd (aL.enc m) (Kc k) [.int i64 n]=aL.enc (sD m k n):=match k with|0=>rfl|1=>rfl|2=>rfl|3=>rfl|4=>rfl|5=>rfl|_+6=>rfl
@[go_sem] theorem aRb(k:Nat):(Kc k+1<=18)=True:=eq_true (match k with|0=>(by show 4+1<=18;decide)|1=>(by show 10+1<=18;decide)|2=>(by show 11+1<=18;decide)|3=>(by show 8+1<=18;decide)|4=>(by show 12+1<=18;decide)|5=>(by show 9+1<=18;decide)|_+6=>(by show 13+1<=18;decide))
def aRc(m:aL):MFn C 64 [.ptr 0 0 0] [(0,bx m)] 1 (.ptr 0 0 4) [(0,bx m)] 1:=by refine pF f64 [] [.ptr 0 0 4] λ E hG H hK=>?_;refine zq ?_;refine zq ?_;refine mO ?_;obtain⟨r,h⟩:∃r:Unit,some ()=some r:=⟨(),rfl⟩;exact nD [(0,0)] h
def aRd(m:aL):MFn C 65 [.ptr 0 0 0] [(0,bx m)] 1 (.ptr 0 0 10) [(0,bx m)] 1:=by refine pF f65 [] [.ptr 0 0 10] λ E hG H hK=>?_;refine zq ?_;refine zq ?_;refine mO ?_;obtain⟨r,h⟩:∃r:Unit,some ()=some r:=⟨(),rfl⟩;exact nD [(0,0)] h
def aRe(m:aL):MFn C 66 [.ptr 0 0 0] [(0,bx m)] 1 (.ptr 0 0 11) [(0,bx m)] 1:=by refine pF f66 [] [.ptr 0 0 11] λ E hG H hK=>?_;refine zq ?_;refine zq ?_;refine mO ?_;obtain⟨r,h⟩:∃r:Unit,some ()=some r:=⟨(),rfl⟩;exact nD [(0,0)] h
def aRf(m:aL):MFn C 67 [.ptr 0 0 0] [(0,bx m)] 1 (.ptr 0 0 8) [(0,bx m)] 1:=by refine pF f67 [] [.ptr 0 0 8] λ E hG H hK=>?_;refine zq ?_;refine zq ?_;refine mO ?_;obtain⟨r,h⟩:∃r:Unit,some ()=some r:=⟨(),rfl⟩;exact nD [(0,0)] h
def aRg(m:aL):MFn C 68 [.ptr 0 0 0] [(0,bx m)] 1 (.ptr 0 0 12) [(0,bx m)] 1:=by refine pF f68 [] [.ptr 0 0 12] λ E hG H hK=>?_;refine zq ?_;refine zq ?_;refine mO ?_;obtain⟨r,h⟩:∃r:Unit,some ()=some r:=⟨(),rfl⟩;exact nD [(0,0)] h
def aRh(m:aL):MFn C 69 [.ptr 0 0 0] [(0,bx m)] 1 (.ptr 0 0 9) [(0,bx m)] 1:=by refine pF f69 [] [.ptr 0 0 9] λ E hG H hK=>?_;refine zq ?_;refine zq ?_;refine mO ?_;obtain⟨r,h⟩:∃r:Unit,some ()=some r:=⟨(),rfl⟩;exact nD [(0,0)] h
def aRi(m:aL):MFn C 70 [.ptr 0 0 0] [(0,bx m)] 1 (.ptr 0 0 13) [(0,bx m)] 1:=by refine pF f70 [] [.ptr 0 0 13] λ E hG H hK=>?_;refine zq ?_;refine zq ?_;refine mO ?_;obtain⟨r,h⟩:∃r:Unit,some ()=some r:=⟨(),rfl⟩;exact nD [(0,0)] h
def Te{f k:Nat}(h:oP f=some k):f=64/\k=0\/f=65/\k=1\/f=66/\k=2\/f=67/\k=3\/f=68/\k=4\/f=69/\k=5\/f=70/\k=6:=by
 unfold oP at h
 by_cases e:f=64
 .subst e;obtain rfl:=dH (show some 0=some k from h);exact .inl ⟨rfl,rfl⟩
 rw[show Nat.beq f 64=false from dI.2 λ H=>e (fQ H),cond_false]at h
 by_cases e:f=65
 .subst e;obtain rfl:=dH (show some 1=some k from h);exact .inr (.inl ⟨rfl,rfl⟩)
 rw[show Nat.beq f 65=false from dI.2 λ H=>e (fQ H),cond_false]at h
 by_cases e:f=66
 .subst e;obtain rfl:=dH (show some 2=some k from h);exact .inr (.inr (.inl ⟨rfl,rfl⟩))
 rw[show Nat.beq f 66=false from dI.2 λ H=>e (fQ H),cond_false]at h
 by_cases e:f=67
 .subst e;obtain rfl:=dH (show some 3=some k from h);exact .inr (.inr (.inr (.inl ⟨rfl,rfl⟩)))
 rw[show Nat.beq f 67=false from dI.2 λ H=>e (fQ H),cond_false]at h
 by_cases e:f=68
 .subst e;obtain rfl:=dH (show some 4=some k from h);exact .inr (.inr (.inr (.inr (.inl ⟨rfl,rfl⟩))))
 rw[show Nat.beq f 68=false from dI.2 λ H=>e (fQ H),cond_false]at h
 by_cases e:f=69
 .subst e;obtain rfl:=dH (show some 5=some k from h);exact .inr (.inr (.inr (.inr (.inr (.inl ⟨rfl,rfl⟩)))))
 rw[show Nat.beq f 69=false from dI.2 λ H=>e (fQ H),cond_false]at h
 by_cases e:f=70
 .subst e;obtain rfl:=dH (show some 6=some k from h);exact .inr (.inr (.inr (.inr (.inr (.inr ⟨rfl,rfl⟩)))))
 rw[show Nat.beq f 70=false from dI.2 λ H=>e (fQ H),cond_false]at h;cases h
def B0(f:Nat)(m:aL)(k:Nat)(h:oP f=some k):MFn C f [.ptr 0 0 0] [(0,bx m)] 1 (.ptr 0 0 (Kc k)) [(0,bx m)] 1:=by
 rcases Te h with⟨rfl,rfl⟩|⟨rfl,rfl⟩|⟨rfl,rfl⟩|⟨rfl,rfl⟩|⟨rfl,rfl⟩|⟨rfl,rfl⟩|⟨rfl,rfl⟩
 .exact aRc m
 .exact aRd m
 .exact aRe m
 .exact aRf m
 .exact aRg m
 .exact aRh m
 .exact aRi m
def tW{f k:Nat}(h:oP f=some k):pM C.P f=true:=by rcases Te h with⟨rfl,rfl⟩|⟨rfl,rfl⟩|⟨rfl,rfl⟩|⟨rfl,rfl⟩|⟨rfl,rfl⟩|⟨rfl,rfl⟩|⟨rfl,rfl⟩<;>kernel_rfl
def j5(H O U:Int):Bool:=(decide (O<=H)&&decide (H<=U))
instance aRk(H O U:Int):OkT 177 [.int i64 H,.int i64 O,.int i64 U] (.bool (j5 H O U)):=ok2 .bool (j5.eq_1 H O U) f177 []
def B1(j1:Bool):Bool:=(if j1 then true else false)
def Ej(H:ByteArray):Bool:=(if H.toList==(⟨#[97,108,108]⟩:ByteArray).toList then B1 (H.toList==(⟨#[97,108,108]⟩:ByteArray).toList)else(if H.toList==(⟨#[97,110,121]⟩:ByteArray).toList then B1 (H.toList==(⟨#[97,110,121]⟩:ByteArray).toList)else(if H.toList==(⟨#[111,102]⟩:ByteArray).toList then B1 (H.toList==(⟨#[111,102]⟩:ByteArray).toList)else(if H.toList==(⟨#[112,114,105,111]⟩:ByteArray).toList then B1 (H.toList==(⟨#[112,114,105,111]⟩:ByteArray).toList)else B1 (H.toList==(⟨#[108,105,109,105,116]⟩:ByteArray).toList)))))
@[reducible,instance]def aRl a0:=mkJ (Ej a0) 999 (@B1.eq_1) λ j1=>⟨[(4,.bool j1)],[],0⟩
instance aRm(H:ByteArray):OkT 178 [.str H] (.bool (Ej H)):=ok2 .bool (Ej.eq_1 H) f178 []
def oI(H:aJ):Bool:=(if decide (H.kind=1)then(decide (H.aU=1))else(if decide (H.kind=2)then(decide (1<=H.aU)&&decide (H.aU<=8))else false))
instance aRn(H:aJ):OkT 282 [.agg (aJ.enc H)] (.bool (oI H)):=ok2 .bool (oI.eq_1 H) f282 []
def N7(H:Int):(Arr Bool 6):=(if decide (H=5)then(Arr.put (Arr.put (Arr.put (Arr.put (Arr.put (Arr.rep 6 false) 5 true) 4 true) 3 true) 2 true) 1 true)else(if decide (H=4)then(Arr.put (Arr.put (Arr.put (Arr.put (Arr.rep 6 false) 4 true) 3 true) 2 true) 1 true)else(if decide (H=2)then(Arr.put (Arr.put (Arr.rep 6 false) 2 true) 1 true)else(if decide (H=1)then(Arr.put (Arr.rep 6 false) 1 true)else(if decide (H=3)then(Arr.put (Arr.put (Arr.rep 6 false) 3 true) 1 true)else(Arr.rep 6 false))))))
instance aRp(H:Int):OkT 311 [.int i64 H] (.agg (Arr.enc eB (N7 H))):=ok2 (λ r=>.agg (Arr.enc eB r)) (N7.eq_1 H) f311 []
def N8(O:aO)(H:List aO)(j1:Unit):Option (Int×(List aO)):=(if decide (((H.length:Nat):Int)=8)then some (4,H)else gd (H.length+1<=4294967296)<|some (0,H++[O]))
def G7(U:aO)(H:List aO)(O:Int):Option (Int⊕(Unit⊕(Int×(List aO)))):=(if decide (O<((H.length:Nat):Int))then gd (0<=O/\O<((H.length:Nat):Int))<|(if decide (U=H.getD O.toNat aO.zero)then some (.inr (.inr (0,H)))else(if U.name.toList==((H.getD O.toNat aO.zero).name).toList then some (.inr (.inr (13,H)))else some (.inl (i64.wrap (O+1)))))else some (.inr (.inl ())))
def B2(H:aO)(O:List aO):Option (Int×(List aO)):=(mF (G7 H O) 0).bind (λ|.inl z=>N8 H O z|.inr z=>some z)
abbrev aRs (O:aO) (H:List aO):=mkJ (B2 O H) 0 (@N8.eq_1 O H) λ j1=>⟨[(0,.ptr 0 0 0),(3,.ptr 2 0 0)],[(0,⟨false,1,[A.sl ([].map aO.enc)],[[.own 3 0 H.length]]⟩),(2,bx O),(3,sx H)],4⟩
abbrev aRt (O:aO) (H:List aO):=mkL x (@G7.eq_1 O H) λ U=>⟨[(0,.ptr 0 0 0),(3,.ptr 2 0 0),(9,.own 3 0 H.length),(10,.int i64 ((H.length:Nat):Int)),(11,.int i64 U)],[(0,⟨false,1,[A.sl ([].map aO.enc)],[[.own 3 0 H.length]]⟩),(2,bx O),(3,sx H)],4⟩
attribute[instance]aRs aRt
instance aRu(O:aO)(H:List aO):OkM (B2 O H) 256 [.ptr 0 0 0,ga O] [(0,⟨false,1,[A.sl ([].map aO.enc)],[[.own 1 0 H.length]]⟩),(1,sx H)] 2 (λ r=>.int i64 r.1) (λ r=>[(0,⟨false,1,[A.sl ([].map aO.enc)],[[.own 2 0 r.2.length]]⟩),(2,sx r.2)]) 3:=okm (B2.eq_1 O H) (λ r=>[.int i64 r.1]) f256 []
def Tf(j1:(List aK)):Option (List aK):=some j1
def Tg(O:List bA)(H:Int×(List aK)):Option ((Int×(List aK))⊕(List aK)):=(if decide (H.1<O.length)then gd (0<=H.1/\H.1<O.length)<|gd (H.2.length+1<=4294967296)<|some (.inl (i64.wrap (H.1+1),H.2++[(O.getD H.1.toNat bA.zero).aM]))else some (.inr H.2))
def B3(H:List bA):Option (List aK):=(mF (Tg H) (0,[])).bind (λ z=>Tf z)
abbrev aRx a0:=mkJ (B3 a0) 0 (@Tf.eq_1) λ j1=>⟨[(3,.own 0 0 j1.length)],[(0,sx j1)],1⟩
abbrev aRy (H:List bA):=mkL x (@Tg.eq_1 H) λ O=>⟨[(3,.own 0 0 O.2.length),(6,la H),(7,.int i64 H.length),(8,.int i64 O.1)],[(0,sx O.2)],1⟩
attribute[instance]aRx aRy
instance aRz(H:List bA):OkM (B3 H) 275 [la H] [] 0 (λ r=>.own 0 0 r.length) (λ r=>[(0,sx r)]) 1:=okm (B3.eq_1 H) (λ r=>[.own 0 0 r.length]) f275 [(2,1),(3,1)]
def Kd(j1:Int×(List Int)):Option (List Int):=gd (j1.2.length+1<=4294967296)<|some (j1.2++[u8.wrap j1.1])
@[go_sem] def aS1(j1:Int×(List Int)):St:=⟨[(1,.int u64 j1.1),(5,.own 0 0 j1.2.length)],[(0,⟨false,1,[A.int u8 0],j1.2.map (eI u8)⟩)],1⟩
def Ek(H:Int×(List Int)):Option ((Int×(List Int))⊕(Int×(List Int))):=(if decide (127<H.1)then gd (H.2.length+1<=4294967296)<|some (.inl (H.1.fdiv (2^7),H.2++[nP .or u8 (u8.wrap (nP .and u64 H.1 127)) 128]))else some (.inr (H.1,H.2)))
@[go_sem] def aS2(H:Int×(List Int)):St:=⟨[(1,.int u64 H.1),(5,.own 0 0 H.2.length)],[(0,⟨false,1,[A.int u8 0],H.2.map (eI u8)⟩)],1⟩
def uQ(H:List Int)(O:Int):Option (List Int):=gd (0<=0/\0<=(H.length:Int)/\(H.length:Int)<=(H.length:Int)/\(H.length:Int)=(H.length:Int))<|(if decide (127<O)then gd ((H.take (H.length:Int).toNat).length+1<=4294967296)<|(mF Ek (O.fdiv (2^7),H.take (H.length:Int).toNat++[nP .or u8 (u8.wrap (nP .and u64 O 127)) 128])).bind (λ z=>Kd z)else gd ((H.take (H.length:Int).toNat).length+1<=4294967296)<|some (H.take (H.length:Int).toNat++[u8.wrap O]))
def aS3(U:List Int)(Y:Int)(r:(List Int))(h:uQ U Y=some r):PFn C 49 [.sl (U.map (eI u8)),.int u64 Y] (.sl (r.map (eI u8))):=by
 refine oT f49 [] λ E hG hN hK=>?_;unfold uQ at h;refine zq ?_;refine mD ?_;obtain⟨h0,h⟩:=mM h;refine mE hG ?_;refine mD ?_;refine SN aS1 (λ v=>Kd v=some r) ?_ ?_
 · intro j1 h
   unfold Kd at h;refine g_st ?_;refine mD ?_;obtain⟨x0,h⟩:=mM h;refine mE hG ?_;refine mO ?_;exact nU h
 refine SO (body:=Ek) (kk:=λ z=>Kd z) (r:=r) aS2 hK ?_ (λ B h F M H O=>?_)
 · refine mD (zq ?_)
   refine mJ rfl hG h (λ _ h=>?_) (λ _ h=>?_)
   · refine mN ?_
     refine oM (mD ?_);obtain⟨y0,h⟩:=mM h;refine mE hG ?_;refine mE hG ?_;exact SS hK [(0,0)] h
   refine oO ?_;refine .inr ?_;refine mD ?_;obtain⟨z0,h⟩:=mM h;refine mE hG ?_;refine mO ?_;exact nU h
 unfold Ek at H;refine g_st ?_;refine mD (zq ?_);refine mJ rfl hG H (λ _ H=>?_) (λ _ H=>?_)
 · refine mN ?_
   refine oM (mD ?_);obtain⟨u0,H⟩:=mM H;refine mE hG ?_;refine mE hG ?_;exact pA hK [(0,1)] H
 refine oO ?_;cases H;cases O _ rfl;refine .inl ?_;exact nA hK [(0,0)] (F.1,F.2) (by exact h)
instance aS4(H:List Int)(O:Int):OkP (uQ H O) 49 [.sl (H.map (eI u8)),.int u64 O] (λ r=>.sl (r.map (eI u8))):=⟨aS3 H O⟩
def Th(j1:Unit):Option Bool:=some true
def Ke(O U:List bA)(H:Int):Option (Int⊕(Unit⊕Bool)):=(if decide (H<O.length)then gd (0<=H/\H<O.length)<|gd (0<=H/\H<U.length)<|(if !decide (O.getD H.toNat bA.zero=U.getD H.toNat bA.zero)then some (.inr (.inr false))else some (.inl (i64.wrap (H+1))))else some (.inr (.inl ())))
def B4(H O:List bA):Option Bool:=(if !decide ((H.length:Int)=(O.length:Int))then some false else(mF (Ke H O) 0).bind (λ|.inl z=>Th z|.inr z=>some z))
abbrev aS6 a0 a1:=mkJ (B4 a0 a1) 0 (@Th.eq_1) λ j1=>⟨[],[],0⟩
abbrev aS7 (H O:List bA):=mkL x (@Ke.eq_1 H O) λ U=>⟨[(0,la H),(1,la O),(12,.int i64 H.length),(13,.int i64 U)],[],0⟩
attribute[instance]aS6 aS7
instance aS8(H O:List bA):OkP (B4 H O) 173 [la H,la O] .bool:=ok1 (B4.eq_1 H O) f173 []
def vR(O H:Int):Option Int:=(if decide (H<1)then some 0 else gd (H≠0)<|(if decide (O.tmod H<0)then some (i64.wrap (O.tmod H+H))else some (O.tmod H)))
instance aS9(H O:Int):OkP (vR H O) 13 [.int i64 H,.int i64 O] (λ r=>.int i64 r):=ok1 (vR.eq_1 H O) f13 []
def sX(H:Int):Bool:=(decide (1<=H)&&decide (H<=5))
instance aSa(H:Int):OkT 109 [.int i64 H] (.bool (sX H)):=ok2 .bool (sX.eq_1 H) f109 []
def Ti(j1:Unit):Option Int:=some (-1)
def Tj(O:List aV)(U:aK)(H:Int):Option (Int⊕(Unit⊕Int)):=(if decide (H<O.length)then gd (0<=H/\H<O.length)<|(if decide ((O.getD H.toNat aV.zero).aM=U)then some (.inr (.inr H))else some (.inl (i64.wrap (H+1))))else some (.inr (.inl ())))
def wX(H:List aV)(O:aK):Option Int:=(mF (Tj H O) 0).bind (λ|.inl z=>Ti z|.inr z=>some z)
abbrev aSd a0 a1:=mkJ (wX a0 a1) 0 (@Ti.eq_1) λ j1=>⟨[],[],0⟩
abbrev aSe (H:List aV) (O:aK):=mkL x (@Tj.eq_1 H O) λ U=>⟨[(0,la H),(3,.ptr 0 0 0),(5,.int i64 U)],[(0,bx O)],1⟩
attribute[instance]aSd aSe
instance aSf(H:List aV)(O:aK):OkP (wX H O) 240 [la H,ga O] (λ r=>.int i64 r):=ok1 (wX.eq_1 H O) f240 []
def Tk(j1:Unit):Option Int:=some (-1)
def Kf(O:List aA)(U:ByteArray)(H:Int):Option (Int⊕(Unit⊕Int)):=(if decide (H<O.length)then gd (0<=H/\H<O.length)<|(if (((O.getD H.toNat aA.zero).aB).name).toList==U.toList then some (.inr (.inr H))else some (.inl (i64.wrap (H+1))))else some (.inr (.inl ())))
def sY(H:List aA)(O:ByteArray):Option Int:=(mF (Kf H O) 0).bind (λ|.inl z=>Tk z|.inr z=>some z)
abbrev aSi a0 a1:=mkJ (sY a0 a1) 0 (@Tk.eq_1) λ j1=>⟨[],[],0⟩
abbrev aSj (H:List aA) (O:ByteArray):=mkL x (@Kf.eq_1 H O) λ U=>⟨[(0,la H),(1,.str O),(5,.int i64 U)],[],0⟩
attribute[instance]aSi aSj
instance Tl(H:List aA)(O:ByteArray):OkP (sY H O) 137 [la H,.str O] (λ r=>.int i64 r):=ok1 (sY.eq_1 H O) f137 []
def N9(j1:Unit):Option Bool:=some true
def Kg(O U:List aO)(H:Int):Option (Int⊕(Unit⊕Bool)):=(if decide (H<O.length)then gd (0<=H/\H<O.length)<|gd (0<=H/\H<U.length)<|(if !decide (O.getD H.toNat aO.zero=U.getD H.toNat aO.zero)then some (.inr (.inr false))else some (.inl (i64.wrap (H+1))))else some (.inr (.inl ())))
def yL(H O:List aO):Option Bool:=(if !decide ((H.length:Int)=(O.length:Int))then some false else(mF (Kg H O) 0).bind (λ|.inl z=>N9 z|.inr z=>some z))
abbrev aSn a0 a1:=mkJ (yL a0 a1) 0 (@N9.eq_1) λ j1=>⟨[],[],0⟩
abbrev aSo (H O:List aO):=mkL x (@Kg.eq_1 H O) λ U=>⟨[(0,la H),(1,la O),(5,.int i64 U)],[],0⟩
attribute[instance]aSn aSo
instance aSp(H O:List aO):OkP (yL H O) 121 [la H,la O] .bool:=ok1 (yL.eq_1 H O) f121 []
def Tm(j1:Unit):Option (aJ×Bool):=some ({aJ.zero with},false)
def Kh(O:List aJ)(U:ByteArray)(H:Int):Option (Int⊕(Unit⊕(aJ×Bool))):=(if decide (H<O.length)then gd (0<=H/\H<O.length)<|(if ((O.getD H.toNat aJ.zero).name).toList==U.toList then gd (0<=H/\H<O.length)<|some (.inr (.inr (O.getD H.toNat aJ.zero,true)))else some (.inl (i64.wrap (H+1))))else some (.inr (.inl ())))
def B5(H:List aJ)(O:ByteArray):Option (aJ×Bool):=(mF (Kh H O) 0).bind (λ|.inl z=>Tm z|.inr z=>some z)
abbrev aSs a0 a1:=mkJ (B5 a0 a1) 0 (@Tm.eq_1) λ j1=>⟨[(4,.ptr 0 0 0)],[(0,bx aJ.zero)],1⟩
abbrev aSt (H:List aJ) (O:ByteArray):=mkL x (@Kh.eq_1 H O) λ U=>⟨[(0,la H),(1,.str O),(4,.ptr 0 0 0),(6,.int i64 U)],[(0,bx aJ.zero)],1⟩
attribute[instance]aSs aSt
instance aSu(H:List aJ)(O:ByteArray):OkP (B5 H O) 241 [la H,.str O] (λ r=>.tup [ga r.1,.bool r.2]):=ok1 (B5.eq_1 H O) f241 []
def Az(O:Int)(U:aK)(H:bD):Option (Int×(List aA)×(List aG)×(List bN)):=gd (H.ev.length+1<=4294967296)<|some (H.c.now,H.c.aF,H.c.aD,H.ev++[{bN.zero with kind:=O,aM:=U}])
instance aSv(O:Int)(U:aK)(H:bD):OkM (Az O U H) 227 [.ptr 0 0 0,.int i64 O,ga U] [(0,⟨false,4,bD.enc bD.zero,[[.int i64 H.c.now,la H.c.aF,.own 1 0 H.c.aD.length,.own 2 0 H.ev.length]]⟩),(1,sx H.c.aD),(2,sx H.ev)] 3 (λ r=>.tup []) (λ r=>[(0,⟨false,4,bD.enc bD.zero,[[.int i64 r.1,la r.2.1,.own 1 0 r.2.2.1.length,.own 3 0 r.2.2.2.length]]⟩),(1,sx r.2.2.1),(3,sx r.2.2.2)]) 4:=okm (Az.eq_1 O U H) (λ r=>[]) f227 []
def Oa(H:List aV)(j1:(List aV)):Option ((List aV)×Bool):=some (j1,decide (((j1.length:Nat):Int)<(H.length:Int)))
def G8(O:List aV)(U:aK)(H:Int×(List aV)):Option ((Int×(List aV))⊕(List aV)):=(if decide (H.1<O.length)then gd (0<=H.1/\H.1<O.length)<|(if !decide ((O.getD H.1.toNat aV.zero).aM=U)then gd (0<=H.1/\H.1<O.length)<|gd (H.2.length+1<=4294967296)<|some (.inl (i64.wrap (H.1+1),H.2++[O.getD H.1.toNat aV.zero]))else some (.inl (i64.wrap (H.1+1),H.2)))else some (.inr H.2))
def yM(H:List aV)(O:aK):Option ((List aV)×Bool):=(mF (G8 H O) (0,[])).bind (λ z=>Oa H z)
abbrev aSy (H:List aV) a1:=mkJ (yM H a1) 0 (@Oa.eq_1 H) λ j1=>⟨[(0,la H),(6,.own 0 0 j1.length)],[(0,sx j1)],1⟩
abbrev aSz (O:List aV) (U:aK):=mkL x (@G8.eq_1 O U) λ H=>⟨[(0,la O),(3,.ptr 0 0 0),(6,.own 1 0 H.2.length),(7,.int i64 H.1)],[(0,bx U),(1,sx H.2)],2⟩
attribute[instance]aSy aSz
instance aT0(H:List aV)(O:aK):OkP (yM H O) 210 [la H,ga O] (λ r=>.tup [la r.1,.bool r.2]):=ok1 (yM.eq_1 H O) f210 [(6,1)]
def pC(H:Int):Int:=(if decide (H<0)||decide (1073741824<=H)then 1 else(i64.wrap (H+1)))
instance aT1(H:Int):OkT 232 [.int i64 H] (.int i64 (pC H)):=ok2 (λ r=>.int i64 r) (pC.eq_1 H) f232 []
def Tn(j1:Unit):Option (bR×Bool):=some ({bR.zero with},false)
def Ki(O:aH)(U:aK)(H:Int):Option (Int⊕(Unit⊕(bR×Bool))):=(if decide (H<O.aY.length)then gd (0<=H/\H<O.aY.length)<|(if decide ((O.aY.getD H.toNat bR.zero).aM=U)then gd (0<=H/\H<O.aY.length)<|some (.inr (.inr (O.aY.getD H.toNat bR.zero,true)))else some (.inl (i64.wrap (H+1))))else some (.inr (.inl ())))
def j6(H:aH)(O:aK):Option (bR×Bool):=(mF (Ki H O) 0).bind (λ|.inl z=>Tn z|.inr z=>some z)
abbrev aT4 (H:aH) (O:aK):=mkJ (j6 H O) 0 (@Tn.eq_1) λ j1=>⟨[(4,.ptr 0 0 0)],[(0,bx bR.zero)],1⟩
abbrev aT5 (H:aH) (O:aK):=mkL x (@Ki.eq_1 H O) λ U=>⟨[(2,.ptr 0 0 0),(3,.ptr 1 0 0),(4,.ptr 2 0 0),(6,.int i64 U)],[(0,bx H),(1,bx O),(2,bx bR.zero)],3⟩
attribute[instance]aT4 aT5
instance aT6(H:aH)(O:aK):OkP (j6 H O) 206 [ga H,ga O] (λ r=>.tup [ga r.1,.bool r.2]):=⟨λ r h=>by
 refine oT f206 [] λ E hG B hK=>?_;have hm:Mk (j6 H O):=trivial;unfold j6 at h;refine zq ?_;refine mD (zq ?_);refine yK hm h (λ j1 hm h=>?_) ?_
 · try refine g_st ?_
   refine zq ?_;refine mO ?_;exact nU h (by intro e;subst e;simp[aK.enc,aO.enc,aC.enc])
 refine S6 hm hK [(0,0),(1,1),(2,2)] h (λ F y hm kx h=>?_)
 try refine g_st ?_
 refine mD (zq ?_);refine mJ rfl hG h (λ _ h=>?_) (λ _ h=>?_)
 · refine mN ?_
   refine mD (oM (mD ?_));obtain⟨U,h⟩:=mM h;refine i9 oS hG ?_;refine mJ rfl hG h (λ _ h=>?_) (λ _ h=>?_)
   · refine mD ?_
     obtain⟨Y,h⟩:=mM h;refine mE hG ?_;refine mO ?_;obtain⟨hm,h⟩:=S9 kx h
     clear kx
     try dsimp only at h
     exact nU h (by intro e;subst e;simp[aK.enc,aO.enc,aC.enc])
   exact gogo
 exact gogo⟩
def AA(H:Int):Bool:=(decide (1<=H)&&decide (H<=15))
instance To(H:Int):OkT 30 [.int i64 H] (.bool (AA H)):=ok2 .bool (AA.eq_1 H) f30 []
def rI(H:Int):Bool:=(decide (1<=H)&&decide (H<=5))
instance aT8(H:Int):OkT 179 [.int i64 H] (.bool (rI H)):=ok2 .bool (rI.eq_1 H) f179 []
def oW(H:aC):Bool:=(decide (H={aC.zero with}))
instance aT9(H:aC):OkT 286 [.agg (aC.enc H)] (.bool (oW H)):=ok2 .bool (oW.eq_1 H) f286 []
def Em(H:aA):Option (aV×Bool):=(if decide (0<(H.aN.length:Int))then gd (0<=0/\0<(H.aN.length:Int))<|some (H.aN.getD 0 aV.zero,true)else(if decide (0<(H.aW.length:Int))then gd (0<=0/\0<(H.aW.length:Int))<|some (H.aW.getD 0 aV.zero,true)else some ({aV.zero with},false)))
instance aTa(H:aA):OkP (Em H) 252 [ga H] (λ r=>.tup [ga r.1,.bool r.2]):=ok1 (Em.eq_1 H) f252 []
def Tp(H:List aK)(j1:Unit):Option ((List aK)×(List aK)):=some (H,H)
def Ob(H:Int×(List aK)):Option (Int⊕(Unit⊕((List aK)×(List aK)))):=gd (0<=H.1/\H.1<=((H.2.length:Nat):Int)/\((H.2.length:Nat):Int)<=((H.2.length:Nat):Int))<|gd (0<=0/\0<=H.1/\H.1<=((H.2.length:Nat):Int))<|some (.inr (.inr (((H.2.take H.1.toNat++List.replicate (H.2.length-H.1.toNat) aK.zero++H.2.drop (H.1.toNat+(H.2.length-H.1.toNat))).drop 0).take H.1.toNat,H.2.take H.1.toNat++List.replicate (H.2.length-H.1.toNat) aK.zero++H.2.drop (H.1.toNat+(H.2.length-H.1.toNat)))))
def Kj(U:List aK)(O:Int)(H:Int×Int×(List aK)):Option ((Int×Int×(List aK))⊕(Int×(List aK))):=(if decide (H.2.1<(((U.length-O.toNat):Nat):Int))then gd (0<=H.2.1/\H.2.1<(((U.length-O.toNat):Nat):Int)/\O.toNat+(U.length-O.toNat)<=H.2.2.length)<|gd (0<=i64.wrap (H.2.1-1)/\i64.wrap (H.2.1-1)<(((U.length-O.toNat):Nat):Int)/\O.toNat+(U.length-O.toNat)<=H.2.2.length)<|(if !decide (H.2.2.getD (O.toNat+H.2.1.toNat) aK.zero=H.2.2.getD (O.toNat+(i64.wrap (H.2.1-1)).toNat) aK.zero)then gd (0<=H.2.1/\H.2.1<(((U.length-O.toNat):Nat):Int)/\O.toNat+(U.length-O.toNat)<=H.2.2.length)<|gd (0<=H.1/\H.1<((H.2.2.length:Nat):Int))<|some (.inl (i64.wrap (H.1+1),i64.wrap (H.2.1+1),H.2.2.set H.1.toNat (H.2.2.getD (O.toNat+H.2.1.toNat) aK.zero)))else some (.inl (H.1,i64.wrap (H.2.1+1),H.2.2)))else some (.inr (H.1,H.2.2)))
def G9(O:List aK)(H:Int):Option (Int⊕(Unit⊕((List aK)×(List aK)))):=(if decide (H<((O.length:Nat):Int))then gd (0<=H/\H<((O.length:Nat):Int))<|gd (0<=i64.wrap (H-1)/\i64.wrap (H-1)<((O.length:Nat):Int))<|(if decide (O.getD H.toNat aK.zero=O.getD (i64.wrap (H-1)).toNat aK.zero)then gd (0<=H/\H<=((O.length:Nat):Int)/\((O.length:Nat):Int)<=((O.length:Nat):Int))<|(mF (Kj O H) (H,1,O)).bind (λ z=>Ob z)else some (.inl (i64.wrap (H+1))))else some (.inr (.inl ())))
def AB(H:List aK):Option ((List aK)×(List aK)):=(if decide (((H.length:Nat):Int)<2)then some (H,H)else(mF (G9 H) 1).bind (λ|.inl z=>Tp H z|.inr z=>some z))
abbrev aTb (H:List aK):=mkJ (AB H) 0 (@Tp.eq_1 H) λ j1=>⟨[(0,.own 0 0 H.length)],[(0,sx H)],1⟩
abbrev aTc (O:List aK) (U:Int):=mkJ (G9 O U) 2 (@Ob.eq_1) λ H=>⟨[(0,.own 0 0 H.2.length),(3,.int i64 H.1)],[(0,sx H.2)],1⟩
abbrev aTd (U:List aK) (O:Int):=mkL x (@Kj.eq_1 U O) λ H=>⟨[(0,.own 0 0 H.2.2.length),(3,.int i64 H.1),(4,.own 0 O.toNat (U.length-O.toNat)),(5,.int i64 H.2.1)],[(0,sx H.2.2)],1⟩
abbrev aTe (H:List aK):=mkL x (@G9.eq_1 H) λ O=>⟨[(0,.own 0 0 H.length),(3,.int i64 O)],[(0,sx H)],1⟩
attribute[instance]aTb aTc aTd aTe
instance aTf(H:List aK):OkM (AB H) 259 [.own 0 0 H.length] [(0,sx H)] 1 (λ r=>la r.1) (λ r=>[(0,⟨true,3,aK.enc aK.zero,r.2.map aK.enc⟩)]) 1:=⟨λ r h=>by
 refine pF f259 [] [la r.1] λ E hG M hK=>?_;have hm:Mk (AB H):=trivial;unfold AB at h;refine zq ?_;refine mD (zq ?_);refine mJ rfl hG h (λ _ h=>?_) (λ _ h=>?_)
 · refine zq ?_
   refine g_gh (.fz [0]) ?_;exact gogo
 refine mN ?_;refine mD (zq ?_);refine yK hm h (λ j1 hm h=>?_) ?_
 · try refine g_st ?_
   refine zq ?_;refine g_gh (.fz [0]) ?_;exact gogo
 refine S6 hm hK [(0,0)] h (λ g1 y hm kx h=>?_)
 try refine g_st ?_
 refine mD (zq ?_);refine mJ rfl hG h (λ _ h=>?_) (λ _ h=>?_)
 · refine mN ?_
   refine mD (oM (mD ?_));obtain⟨O,h⟩:=mM h;obtain⟨U,h⟩:=mM h;refine i9 oS hG ?_;refine mJ rfl hG h (λ _ h=>?_) (λ _ h=>?_)
   · refine mD ?_
     obtain⟨Y,h⟩:=mM h;refine mE hG ?_;refine mD (zq ?_);refine yK hm h (λ j2 hm h=>?_) ?_
     · try refine g_st ?_
       refine mD ?_;obtain⟨B,h⟩:=mM h;refine mE hG ?_;refine mD ?_;obtain⟨F,h⟩:=mM h;refine mE hG ?_;refine g_gh (.fz [0]) ?_;exact gogo
     exact gogo
   exact gogo
 exact gogo⟩
def Kk(O:Int)(H:aL)(U:Bool):Option aL:=(if U then some ({H with state:={aH.zero with}})else(if decide (O=79)then some ({H with options:=[]})else some H))
@[go_sem] def aTg(H:Int)(O:aL)(U:Bool):St:=⟨[(0,.ptr 0 0 0),(4,.int u8 H),(23,.bool U)],[(0,bx O)],1⟩
def Kl(H:Int)(O:aL)(j1:Bool):Option aL:=(if j1 then some ({O with aZ:={aO.zero with}})else(if decide (H=68)then some ({O with done:=false})else(if decide (H=78)then Kk H O (decide (H=78))else Kk H O (decide (H=76)))))
@[go_sem] def aTh(H:Int)(O:aL)(j1:Bool):St:=⟨[(0,.ptr 0 0 0),(4,.int u8 H),(11,.bool j1)],[(0,bx O)],1⟩
def B6(H:Int)(O:aL):Option aL:=(if decide (H=80)then some ({O with aM:={aK.zero with}})else(if decide (H=65)then Kl H O (decide (H=65))else Kl H O (decide (H=97))))
def aTi(H:Int)(O r:aL)(h:B6 H O=some r):MFn C 85 [.ptr 0 0 0,.int u8 H] [(0,bx O)] 1 (.tup []) [(0,bx r)] 1:=by
 refine pF f85 [] [] λ E hG U hK=>?_;unfold B6 at h;refine zq ?_;refine oM (zq ?_);refine mJ rfl hG h (λ _ h=>?_) (λ _ h=>?_)
 · refine mE hG ?_
   exact nD [(0,0)] h
 refine mD (zq ?_);refine rV (aTh H O) (λ v=>Kl H O v=some r) rfl hG h ?_ (λ _ h=>?_) (λ _ h=>?_)
 · intro j1 h
   unfold Kl at h;refine g_st ?_;refine mJ rfl hG h (λ _ h=>?_) (λ _ h=>?_)
   · refine mE hG ?_
     exact nD [(0,0)] h
   refine zq ?_;refine mJ rfl hG h (λ _ h=>?_) (λ _ h=>?_)
   · refine mE hG ?_
     exact nD [(0,0)] h
   refine mD (zq ?_);refine rV (aTg H O) (λ v=>Kk H O v=some r) rfl hG h ?_ (λ _ h=>?_) (λ _ h=>?_)
   · intro Y h
     unfold Kk at h;refine g_st ?_;refine mJ rfl hG h (λ _ h=>?_) (λ _ h=>?_)
     · refine mE hG ?_
       exact nD [(0,0)] h
     refine zq ?_;refine mJ rfl hG h (λ _ h=>?_) (λ _ h=>?_)
     · refine mE hG ?_
       exact nD [(0,0)] h
     refine mN ?_;exact nD [(0,0)] h
   · refine mN ?_
     exact nA hK [(0,0)] (decide (H=78)) (by exact h)
   refine mE hG ?_;exact nA hK [(0,0)] (decide (H=76)) (by exact h)
 · refine mN ?_
   exact nA hK [(0,0)] (decide (H=65)) (by exact h)
 refine mE hG ?_;exact nA hK [(0,0)] (decide (H=97)) (by exact h)
def Tq(j1:Unit):Option (Int×Int×Int):=some (0,0,6)
def rW(O:List Int)(H:Int×Int):Option ((Int×Int)⊕(Unit⊕(Int×Int×Int))):=(if decide (H.2<10)then(if decide ((O.length:Int)<=H.2)then some (.inr (.inr (0,0,5)))else gd (0<=H.2/\H.2<O.length)<|(if decide (H.2=9)&&decide (1<O.getD H.2.toNat 0)then some (.inr (.inr (0,0,6)))else gd (0<=i64.wrap (7*H.2))<|(if !decide (nP .and u8 (O.getD H.2.toNat 0) 128=0)then some (.inl (nP .or u64 H.1 (u64.wrap (u64.wrap (nP .and u8 (O.getD H.2.toNat 0) 127)*2^(Nat.min (i64.wrap (7*H.2)).toNat u64.bits))),i64.wrap (H.2+1)))else(if decide (O.getD H.2.toNat 0=0)&&decide (0<H.2)then some (.inr (.inr (0,0,6)))else some (.inr (.inr (nP .or u64 H.1 (u64.wrap (u64.wrap (nP .and u8 (O.getD H.2.toNat 0) 127)*2^(Nat.min (i64.wrap (7*H.2)).toNat u64.bits))),i64.wrap (H.2+1),0)))))))else some (.inr (.inl ())))
def sL(H:List Int):Option (Int×Int×Int):=(mF (rW H) (0,0)).bind (λ|.inl z=>Tq z|.inr z=>some z)
abbrev aTk a0:=mkJ (sL a0) 0 (@Tq.eq_1) λ j1=>⟨[],[],0⟩
abbrev aTl (H:List Int):=mkL x (@rW.eq_1 H) λ O=>⟨[(0,.sl (H.map (eI u8))),(5,.int u64 O.1),(8,.int i64 O.2)],[],0⟩
attribute[instance]aTk aTl
instance aTm(H:List Int):OkP (sL H) 63 [.sl (H.map (eI u8))] (λ r=>.tup [.int u64 r.1,.int i64 r.2.1,.int i64 r.2.2]):=ok1 (sL.eq_1 H) f63 []
def Ha(H:bM):Option (Bool×bM):=some (decide (H.at_<(H.l.length:Int)),H)
instance aTn(H:bM):OkM (Ha H) 41 [.ptr 0 0 0] [(0,bx H)] 1 (λ r=>.bool r.1) (λ r=>[(0,bx r.2)]) 1:=okm (Ha.eq_1 H) (λ r=>[.bool r.1]) f41 []
def j7(H O:Int):Int:=(if decide (H<O)then(-1)else(if decide (O<H)then 1 else 0))
instance aTo(H O:Int):OkT 148 [.int i64 H,.int i64 O] (.int i64 (j7 H O)):=ok2 (λ r=>.int i64 r) (j7.eq_1 H O) f148 []
def Od(j1:(List aC)):Option (List aC):=some j1
def Hb(O:List bA)(H:Int×(List aC)):Option ((Int×(List aC))⊕(List aC)):=(if decide (H.1<O.length)then gd (0<=H.1/\H.1<O.length)<|gd (H.2.length+1<=4294967296)<|some (.inl (i64.wrap (H.1+1),H.2++[(O.getD H.1.toNat bA.zero).aI]))else some (.inr H.2))
def B7(H:List bA):Option (List aC):=(mF (Hb H) (0,[])).bind (λ z=>Od z)
abbrev aTr a0:=mkJ (B7 a0) 0 (@Od.eq_1) λ j1=>⟨[(3,.own 0 0 j1.length)],[(0,sx j1)],1⟩
abbrev aTs (O:List bA):=mkL x (@Hb.eq_1 O) λ H=>⟨[(0,la O),(3,.own 0 0 H.2.length),(4,.int i64 H.1)],[(0,sx H.2)],1⟩
attribute[instance]aTr aTs
instance aTt(H:List bA):OkP (B7 H) 266 [la H] la:=ok1 (B7.eq_1 H) f266 [(3,1)]
def Tr(j1:Unit):Option aC:=some ({aC.zero with})
def Kn(O:List bA)(U:aK)(H:Int):Option (Int⊕(Unit⊕aC)):=(if decide (H<O.length)then gd (0<=H/\H<O.length)<|(if decide ((O.getD H.toNat bA.zero).aM=U)then gd (0<=H/\H<O.length)<|some (.inr (.inr (O.getD H.toNat bA.zero).aI))else some (.inl (i64.wrap (H+1))))else some (.inr (.inl ())))
def j8(H:List bA)(O:aK):Option aC:=(mF (Kn H O) 0).bind (λ|.inl z=>Tr z|.inr z=>some z)
abbrev aTw a0 a1:=mkJ (j8 a0 a1) 0 (@Tr.eq_1) λ j1=>⟨[(4,.ptr 0 0 0)],[(0,bx aC.zero)],1⟩
abbrev aTx (H:List bA) (O:aK):=mkL x (@Kn.eq_1 H O) λ U=>⟨[(0,la H),(3,.ptr 0 0 0),(4,.ptr 1 0 0),(5,.int i64 U)],[(0,bx O),(1,bx aC.zero)],2⟩
attribute[instance]aTw aTx
instance aTy(H:List bA)(O:aK):OkP (j8 H O) 239 [la H,ga O] ga:=ok1 (j8.eq_1 H O) f239 []
def Eo(H:aA):Option (aV×Bool):=(if decide (0<(H.aN.length:Int))then gd (0<=0/\0<(H.aN.length:Int))<|some (H.aN.getD 0 aV.zero,true)else(if decide (0<(H.aW.length:Int))then gd (0<=0/\0<(H.aW.length:Int))<|some (H.aW.getD 0 aV.zero,true)else some ({aV.zero with},false)))
instance aTz(H:aA):OkP (Eo H) 248 [ga H] (λ r=>.tup [ga r.1,.bool r.2]):=ok1 (Eo.eq_1 H) f248 []
def Ts(j1:(List aK)):Option (List aK):=some j1
def Ko(O:List bA)(H:Int×(List aK)):Option ((Int×(List aK))⊕(List aK)):=(if decide (H.1<O.length)then gd (0<=H.1/\H.1<O.length)<|gd (H.2.length+1<=4294967296)<|some (.inl (i64.wrap (H.1+1),H.2++[(O.getD H.1.toNat bA.zero).aM]))else some (.inr H.2))
def B8(H:List bA):Option (List aK):=(mF (Ko H) (0,[])).bind (λ z=>Ts z)
abbrev aU2 a0:=mkJ (B8 a0) 0 (@Ts.eq_1) λ j1=>⟨[(3,.own 0 0 j1.length)],[(0,sx j1)],1⟩
abbrev aU3 (O:List bA):=mkL x (@Ko.eq_1 O) λ H=>⟨[(0,la O),(3,.own 0 0 H.2.length),(4,.int i64 H.1)],[(0,sx H.2)],1⟩
attribute[instance]aU2 aU3
instance aU4(H:List bA):OkM (B8 H) 196 [la H] [] 0 (λ r=>.own 0 0 r.length) (λ r=>[(0,sx r)]) 1:=okm (B8.eq_1 H) (λ r=>[.own 0 0 r.length]) f196 [(2,1),(3,1)]
def Tt(j1:Unit):Option Int:=some (-1)
def Kp(O:List aG)(U:aK)(H:Int):Option (Int⊕(Unit⊕Int)):=(if decide (H<O.length)then gd (0<=H/\H<O.length)<|(if decide ((O.getD H.toNat aG.zero).aM=U)then some (.inr (.inr H))else some (.inl (i64.wrap (H+1))))else some (.inr (.inl ())))
def yN(H:List aG)(O:aK):Option Int:=(mF (Kp H O) 0).bind (λ|.inl z=>Tt z|.inr z=>some z)
abbrev aU7 a0 a1:=mkJ (yN a0 a1) 0 (@Tt.eq_1) λ j1=>⟨[],[],0⟩
abbrev aU8 (H:List aG) (O:aK):=mkL x (@Kp.eq_1 H O) λ U=>⟨[(0,la H),(3,.ptr 0 0 0),(5,.int i64 U)],[(0,bx O)],1⟩
attribute[instance]aU7 aU8
instance aU9(H:List aG)(O:aK):OkP (yN H O) 92 [la H,ga O] (λ r=>.int i64 r):=ok1 (yN.eq_1 H O) f92 []
def Tu(j1:aC):Option aC:=some j1
def Kq(O:List bO)(U:ByteArray)(H:Int×aC):Option ((Int×aC)⊕aC):=(if decide (H.1<O.length)then gd (0<=H.1/\H.1<O.length)<|(if ((O.getD H.1.toNat bO.zero).name).toList==U.toList then gd (0<=H.1/\H.1<O.length)<|some (.inl (i64.wrap (H.1+1),(O.getD H.1.toNat bO.zero).after))else some (.inl (i64.wrap (H.1+1),H.2)))else some (.inr H.2))
def tX(H:List bO)(O:ByteArray):Option aC:=(mF (Kq H O) (0,aC.zero)).bind (λ z=>Tu z)
abbrev aUc a0 a1:=mkJ (tX a0 a1) 0 (@Tu.eq_1) λ j1=>⟨[(4,.ptr 0 0 0),(5,.ptr 1 0 0)],[(0,bx aC.zero),(1,bx j1)],2⟩
abbrev aUd (H:List bO) (O:ByteArray):=mkL x (@Kq.eq_1 H O) λ U=>⟨[(0,la H),(1,.str O),(4,.ptr 0 0 0),(5,.ptr 1 0 0),(6,.int i64 U.1)],[(0,bx aC.zero),(1,bx U.2)],2⟩
attribute[instance]aUc aUd
instance aUe(H:List bO)(O:ByteArray):OkP (tX H O) 152 [la H,.str O] ga:=ok1 (tX.eq_1 H O) f152 []
def Oe(j1:Unit):Option Bool:=some true
def Hc(O:(aR->aR->Option Bool))(U Y:aR)(H:Int):Option (Int⊕(Unit⊕Bool)):=(if decide (H<U.bG.length)then gd (0<=H/\H<U.bG.length)<|gd (0<=H/\H<Y.bG.length)<|(O (U.bG.getD H.toNat aR.zero) (Y.bG.getD H.toNat aR.zero)).bind λ v1=>(if !v1 then some (.inr (.inr false))else some (.inl (i64.wrap (H+1))))else some (.inr (.inl ())))
def AC(U:(aR->aR->Option Bool))(H O:aR):Option Bool:=(if ((!decide (H.k=O.k))||(!decide (H.aZ=O.aZ)))||(!decide ((H.bG.length:Int)=(O.bG.length:Int)))then some false else(mF (Hc U H O) 0).bind (λ|.inl z=>Oe z|.inr z=>some z))
def Ep:Nat->(aR->aR->Option Bool)
 |0=>λ _ _=>none
 |n+1=>AC (Ep n)
def B9(H O:aR):Option Bool:=Ep (_root_.SizeOf.sizeOf H+1) H O
abbrev aUi (H:(aR->aR->Option Bool)) (O U:aR):=mkJ (AC H O U) 0 (@Oe.eq_1) λ j1=>⟨[],[],0⟩
abbrev aUj (H:(aR->aR->Option Bool)) (O U:aR):=mkL x (@Hc.eq_1 H O U) λ Y=>⟨[(2,.ptr 0 0 0),(3,.ptr 1 0 0),(5,.int i64 Y)],[(0,bx O),(1,bx U)],2⟩
attribute[instance]aUi aUj
abbrev Kr(g:(aR->aR->Option Bool)):Prop:=∀(H:aR) (O:aR),OkP (g H O) 120 [.agg (aR.enc H),.agg (aR.enc O)] (λ r=>.bool r)
theorem aUl(H:(aR->aR->Option Bool))(hrc:Kr H):Kr (AC H):=λ O U=>ok1 (AC.eq_1 H O U) f120 []
theorem aUm:∀n,Kr (Ep n):=Ay (λ _ _=>⟨λ _ h=>nomatch h⟩) λ n=>aUl _
instance aUn:Kr B9:=λ H O=>aUm _ H O
def Hd(H:bF):Option bF:=gd (H.aF.length<=4294967296)<|gd (H.aD.length<=4294967296)<|some H
def aUo(H r:bF)(h:Hd H=some r):MFn C 132 [ga H] [] 0 (.agg [.int i64 r.now,.own 0 0 r.aF.length,.own 1 0 r.aD.length]) [(0,sx r.aF),(1,sx r.aD)] 2:=by refine pF f132 [(3,1),(8,1)] [.agg [.int i64 r.now,.own 0 0 r.aF.length,.own 1 0 r.aD.length]] λ E hG Y hK=>?_;unfold Hd at h;refine zq ?_;refine mD ?_;obtain⟨O,h⟩:=mM h;refine mE hG ?_;refine mD ?_;obtain⟨U,h⟩:=mM h;refine mE hG ?_;refine zq ?_;refine mO ?_;exact nD [(0,3),(1,5)] h
def Tv(H:bD)(j1:Int):Option (Int×Int×(List aA)×(List aG)×(List bN)):=some (j1,H.c.now,H.c.aF,H.c.aD,H.ev)
def Ks(O:bD)(H:Int×Int×Int):Option ((Int×Int×Int)⊕Int):=(if decide (H.2.2<((O.c.aD.length:Nat):Int))then gd (0<=H.2.2/\H.2.2<((O.c.aD.length:Nat):Int))<|(if (((O.c.aD.getD H.2.2.toNat aG.zero).bJ&&(!decide (((O.c.aD.getD H.2.2.toNat aG.zero).bK).limit=0)))&&decide (i64.wrap ((O.c.aD.getD H.2.2.toNat aG.zero).since+((O.c.aD.getD H.2.2.toNat aG.zero).bK).limit)<=O.c.now))&&(decide (H.1<0)||decide (i64.wrap ((O.c.aD.getD H.2.2.toNat aG.zero).since+((O.c.aD.getD H.2.2.toNat aG.zero).bK).limit)<H.2.1))then some (.inl (H.2.2,i64.wrap ((O.c.aD.getD H.2.2.toNat aG.zero).since+((O.c.aD.getD H.2.2.toNat aG.zero).bK).limit),i64.wrap (H.2.2+1)))else some (.inl (H.1,H.2.1,i64.wrap (H.2.2+1))))else some (.inr H.1))
def AD(H:bD):Option (Int×Int×(List aA)×(List aG)×(List bN)):=(mF (Ks H) ((-1),0,0)).bind (λ z=>Tv H z)
abbrev aUq (H:bD):=mkJ (AD H) 0 (@Tv.eq_1 H) λ j1=>⟨[(3,.int i64 j1)],[(0,⟨false,4,bD.enc bD.zero,[[.int i64 H.c.now,la H.c.aF,.own 1 0 H.c.aD.length,.own 2 0 H.ev.length]]⟩),(1,sx H.c.aD),(2,sx H.ev)],3⟩
abbrev aUr (H:bD):=mkL x (@Ks.eq_1 H) λ O=>⟨[(0,.ptr 0 0 0),(3,.int i64 O.1),(4,.int i64 O.2.1),(5,.int i64 O.2.2)],[(0,⟨false,4,bD.enc bD.zero,[[.int i64 H.c.now,la H.c.aF,.own 1 0 H.c.aD.length,.own 2 0 H.ev.length]]⟩),(1,sx H.c.aD),(2,sx H.ev)],3⟩
attribute[instance]aUq aUr
instance aUs(H:bD):OkM (AD H) 226 [.ptr 0 0 0] [(0,⟨false,4,bD.enc bD.zero,[[.int i64 H.c.now,la H.c.aF,.own 1 0 H.c.aD.length,.own 2 0 H.ev.length]]⟩),(1,sx H.c.aD),(2,sx H.ev)] 3 (λ r=>.int i64 r.1) (λ r=>[(0,⟨false,4,bD.enc bD.zero,[[.int i64 r.2.1,la r.2.2.1,.own 1 0 r.2.2.2.1.length,.own 2 0 r.2.2.2.2.length]]⟩),(1,sx r.2.2.2.1),(2,sx r.2.2.2.2)]) 3:=okm (AD.eq_1 H) (λ r=>[.int i64 r.1]) f226 []
def Tw(j1:Int×(List Int)):Option (List Int):=gd (j1.2.length+1<=4294967296)<|some (j1.2++[u8.wrap j1.1])
def Tx(H:Int×(List Int)):Option ((Int×(List Int))⊕(Int×(List Int))):=(if decide (128<=H.1)then gd (H.2.length+1<=4294967296)<|some (.inl (H.1.fdiv (2^7),H.2++[nP .or u8 (u8.wrap (nP .and u64 H.1 127)) 128]))else some (.inr (H.1,H.2)))
def pW(H:List Int)(O:Int):Option (List Int):=gd (H.length<=4294967296)<|(mF Tx (O,H)).bind (λ z=>Tw z)
abbrev aUv a0 a1:=mkJ (pW a0 a1) 0 (@Tw.eq_1) λ j1=>⟨[(1,.int u64 j1.1),(5,.own 0 0 j1.2.length)],[(0,⟨false,1,[A.int u8 0],j1.2.map (eI u8)⟩)],1⟩
abbrev aUw:=mkL x (@Tx.eq_1) λ H=>⟨[(1,.int u64 H.1),(5,.own 0 0 H.2.length)],[(0,⟨false,1,[A.int u8 0],H.2.map (eI u8)⟩)],1⟩
attribute[instance]aUv aUw
instance aUx(H:List Int)(O:Int):OkM (pW H O) 58 [.sl (H.map (eI u8)),.int u64 O] [] 0 (λ r=>.own 0 0 r.length) (λ r=>[(0,⟨false,1,[A.int u8 0],r.map (eI u8)⟩)]) 1:=okm (pW.eq_1 H O) (λ r=>[.own 0 0 r.length]) f58 [(4,1),(6,1)]
def He(j1:Int×(List Int)):Option (List Int):=gd (j1.2.length+1<=4294967296)<|some (j1.2++[u8.wrap j1.1])
def tK(H:Int×(List Int)):Option ((Int×(List Int))⊕(Int×(List Int))):=(if decide (128<=H.1)then gd (H.2.length+1<=4294967296)<|some (.inl (H.1.fdiv (2^7),H.2++[nP .or u8 (u8.wrap (nP .and u64 H.1 127)) 128]))else some (.inr (H.1,H.2)))
def tL(H:List Int)(O:Int):Option (List Int):=gd (H.length<=4294967296)<|(mF tK (O,H)).bind (λ z=>He z)
abbrev aUz a0 a1:=mkJ (tL a0 a1) 0 (@He.eq_1) λ j1=>⟨[(1,.int u64 j1.1),(5,.own 0 0 j1.2.length)],[(0,⟨false,1,[A.int u8 0],j1.2.map (eI u8)⟩)],1⟩
abbrev aV0:=mkL x (@tK.eq_1) λ H=>⟨[(1,.int u64 H.1),(5,.own 0 0 H.2.length)],[(0,⟨false,1,[A.int u8 0],H.2.map (eI u8)⟩)],1⟩
attribute[instance]aUz aV0
instance aV1(H:List Int)(O:Int):OkP (tL H O) 58 [.sl (H.map (eI u8)),.int u64 O] (λ r=>.sl (r.map (eI u8))):=ok1 (tL.eq_1 H O) f58 [(6,1)]
def Kt(H:List Int):Bool:=(decide ((H.length:Int)<=300))
instance aV3(H:List Int):OkT 6 [.sl (H.map (eI i64))] (.bool (Kt H)):=ok2 .bool (Kt.eq_1 H) f6 []
def Ty(j1:Unit):Option aC:=some ({aC.zero with})
def Ca(O:List bA)(U:aK)(H:Int):Option (Int⊕(Unit⊕aC)):=(if decide (H<O.length)then gd (0<=H/\H<O.length)<|(if decide ((O.getD H.toNat bA.zero).aM=U)then some (.inr (.inr (O.getD H.toNat bA.zero).aI))else some (.inl (i64.wrap (H+1))))else some (.inr (.inl ())))
def AE(H:List bA)(O:aK):Option aC:=(mF (Ca H O) 0).bind (λ|.inl z=>Ty z|.inr z=>some z)
abbrev aV5 a0 a1:=mkJ (AE a0 a1) 0 (@Ty.eq_1) λ j1=>⟨[(4,.ptr 0 0 0)],[(0,bx aC.zero)],1⟩
abbrev aV6 (H:List bA) (O:aK):=mkL x (@Ca.eq_1 H O) λ U=>⟨[(3,.ptr 0 0 0),(4,.ptr 1 0 0),(7,la H),(8,.int i64 H.length),(9,.int i64 U)],[(0,bx O),(1,bx aC.zero)],2⟩
attribute[instance]aV5 aV6
instance aV7(H:List bA)(O:aK):OkP (AE H O) 302 [la H,ga O] ga:=ok1 (AE.eq_1 H O) f302 []
def Tz(j1:Unit):Option Int:=some (-1)
def Hf(O:List aV)(U:aK)(H:Int):Option (Int⊕(Unit⊕Int)):=(if decide (H<O.length)then gd (0<=H/\H<O.length)<|(if decide ((O.getD H.toNat aV.zero).aM=U)then some (.inr (.inr H))else some (.inl (i64.wrap (H+1))))else some (.inr (.inl ())))
def j9(H:List aV)(O:aK):Option Int:=(mF (Hf H O) 0).bind (λ|.inl z=>Tz z|.inr z=>some z)
abbrev aVa a0 a1:=mkJ (j9 a0 a1) 0 (@Tz.eq_1) λ j1=>⟨[],[],0⟩
abbrev aVb (H:List aV) (O:aK):=mkL x (@Hf.eq_1 H O) λ U=>⟨[(3,.ptr 0 0 0),(7,la H),(8,.int i64 H.length),(9,.int i64 U)],[(0,bx O)],1⟩
attribute[instance]aVa aVb
instance aVc(H:List aV)(O:aK):OkP (j9 H O) 285 [la H,ga O] (λ r=>.int i64 r):=ok1 (j9.eq_1 H O) f285 []
def TA(j1:Int×Int):Option (Int×Int):=some (i64.wrap (j1.1+1),j1.2)
def Hg(O:(aR->Int->Int->Option (Int×Int)))(U:aR)(Y:Int)(H:Int×Int×Int):Option ((Int×Int×Int)⊕((Int×Int)⊕(Int×Int))):=(if decide (H.2.1<U.bG.length)then gd (0<=H.2.1/\H.2.1<U.bG.length)<|(O (U.bG.getD H.2.1.toNat aR.zero) (i64.wrap (Y+1)) H.2.2).bind λ v1=>(if decide (v1.1=0)then some (.inr (.inr (0,v1.2)))else some (.inl ((if H.1<v1.1 then v1.1 else H.1),i64.wrap (H.2.1+1),v1.2)))else some (.inr (.inl (H.1,H.2.2))))
def Er(H:(aR->Int->Int->Option (Int×Int)))(Y:aR)(U O:Int):Option (Int×Int):=(if decide (4<U)||decide (24<i64.wrap (O+1))then some (0,i64.wrap (O+1))else(mF (Hg H Y U) (0,0,i64.wrap (O+1))).bind (λ|.inl z=>TA z|.inr z=>some z))
def k9:Nat->(aR->Int->Int->Option (Int×Int))
 |0=>λ _ _ _=>none
 |n+1=>Er (k9 n)
def Ku(H:aR)(O U:Int):Option (Int×Int):=k9 (_root_.SizeOf.sizeOf H+1) H O U
abbrev aVe (H:(aR->Int->Int->Option (Int×Int))) (O:aR) (U Y:Int):=mkJ (Er H O U Y) 0 (@TA.eq_1) λ j1=>⟨[(7,.int i64 j1.1)],[(0,⟨false,1,[A.int i64 0],[[A.int i64 j1.2]]⟩)],1⟩
abbrev aVf (H:(aR->Int->Int->Option (Int×Int))) (O:aR) (Y:Int):=mkL x (@Hg.eq_1 H O Y) λ U=>⟨[(1,.int i64 Y),(2,.ptr 0 0 0),(7,.int i64 U.1),(25,la O.bG),(26,.int i64 O.bG.length),(27,.int i64 U.2.1)],[(0,⟨false,1,[A.int i64 0],[[A.int i64 U.2.2]]⟩)],1⟩
attribute[instance]aVe aVf
abbrev Kv(g:(aR->Int->Int->Option (Int×Int))):Prop:=∀(H:aR) (O:Int) (U:Int),OkM (g H O U) 254 [.agg (aR.enc H),.int i64 O,.ptr 0 0 0] [(0,⟨false,1,[A.int i64 0],[[A.int i64 U]]⟩)] 1 (λ r=>.int i64 r.1) (λ r=>[(0,⟨false,1,[A.int i64 0],[[A.int i64 r.2]]⟩)]) 1
theorem aVh(H:(aR->Int->Int->Option (Int×Int)))(hrc:Kv H):Kv (Er H):=λ O U Y=>okm (Er.eq_1 H O U Y) (λ r=>[.int i64 r.1]) f254 []
theorem aVi:∀n,Kv (k9 n):=Ay (λ _ _ _=>⟨λ _ h=>nomatch h⟩) λ n=>aVh _
instance aVj:Kv Ku:=λ H O U=>aVi _ H O U
def Kw(j1:Int×(List Int)):Option (List Int):=gd (j1.2.length+1<=4294967296)<|some (j1.2++[u8.wrap j1.1])
@[go_sem] def aVl(j1:Int×(List Int)):St:=⟨[(1,.int u64 j1.1),(5,.own 0 0 j1.2.length)],[(0,⟨false,1,[A.int u8 0],j1.2.map (eI u8)⟩)],1⟩
def Of(H:Int×(List Int)):Option ((Int×(List Int))⊕(Int×(List Int))):=(if decide (127<H.1)then gd (H.2.length+1<=4294967296)<|some (.inl (H.1.fdiv (2^7),H.2++[nP .or u8 (u8.wrap (nP .and u64 H.1 127)) 128]))else some (.inr (H.1,H.2)))
@[go_sem] def aVn(H:Int×(List Int)):St:=⟨[(1,.int u64 H.1),(5,.own 0 0 H.2.length)],[(0,⟨false,1,[A.int u8 0],H.2.map (eI u8)⟩)],1⟩
def pN(H:List Int)(O:Int):Option (List Int):=gd (0<=0/\0<=(H.length:Int)/\(H.length:Int)<=(H.length:Int)/\(H.length:Int)=(H.length:Int))<|(if decide (127<O)then gd ((H.take (H.length:Int).toNat).length+1<=4294967296)<|(mF Of (O.fdiv (2^7),H.take (H.length:Int).toNat++[nP .or u8 (u8.wrap (nP .and u64 O 127)) 128])).bind (λ z=>Kw z)else gd ((H.take (H.length:Int).toNat).length+1<=4294967296)<|some (H.take (H.length:Int).toNat++[u8.wrap O]))
def Cb(U:List Int)(Y:Int)(r:(List Int))(h:pN U Y=some r):MFn C 49 [.sl (U.map (eI u8)),.int u64 Y] [] 0 (.own 0 0 r.length) [(0,⟨false,1,[A.int u8 0],r.map (eI u8)⟩)] 1:=by
 refine pF f49 [(4,1)] [.own 0 0 r.length] λ E hG hN hK=>?_;unfold pN at h;refine zq ?_;refine mD ?_;obtain⟨h0,h⟩:=mM h;refine mE hG ?_;refine mD ?_;refine SN aVl (λ v=>Kw v=some r) ?_ ?_
 · intro j1 h
   unfold Kw at h;refine g_st ?_;refine mD ?_;obtain⟨x0,h⟩:=mM h;refine mE hG ?_;refine mO ?_;exact nD [(0,1)] h
 refine SO (body:=Of) (kk:=λ z=>Kw z) (r:=r) aVn hK ?_ (λ B h F M H O=>?_)
 · refine mD (zq ?_)
   refine mJ rfl hG h (λ _ h=>?_) (λ _ h=>?_)
   · refine mN ?_
     refine oM (mD ?_);obtain⟨y0,h⟩:=mM h;refine mE hG ?_;refine mE hG ?_;exact SS hK [(0,1)] h
   refine oO ?_;refine .inr ?_;refine mD ?_;obtain⟨z0,h⟩:=mM h;refine mE hG ?_;refine mO ?_;exact nD [(0,1)] h
 unfold Of at H;refine g_st ?_;refine mD (zq ?_);refine mJ rfl hG H (λ _ H=>?_) (λ _ H=>?_)
 · refine mN ?_
   refine oM (mD ?_);obtain⟨u0,H⟩:=mM H;refine mE hG ?_;refine mE hG ?_;exact pA hK [(0,1)] H
 refine oO ?_;cases H;cases O _ rfl;refine .inl ?_;exact nA hK [(0,0)] (F.1,F.2) (by exact h)
instance aVo(H:List Int)(O:Int):OkM (pN H O) 49 [.sl (H.map (eI u8)),.int u64 O] [] 0 (λ r=>.own 0 0 r.length) (λ r=>[(0,⟨false,1,[A.int u8 0],r.map (eI u8)⟩)]) 1:=⟨Cb H O⟩
def AF(H:aT):Option (Bool×aT):=(if !decide (H.err=0)then some (false,H)else(if decide ((H.b.length:Int)=0)then some (false,{H with err:=5})else gd (0<=0/\0<(H.b.length:Int))<|(if decide (1<H.b.getD 0 0)then some (false,{H with err:=6})else gd (0<=0/\0<(H.b.length:Int))<|gd (0<=1/\1<=(H.b.length:Int)/\(H.b.length:Int)<=(H.b.length:Int))<|some (decide (H.b.getD 0 0=1),{H with b:=(H.b.drop 1)}))))
instance aVp(H:aT):OkM (AF H) 73 [.ptr 0 0 0] [(0,bx H)] 1 (λ r=>.bool r.1) (λ r=>[(0,bx r.2)]) 1:=okm (AF.eq_1 H) (λ r=>[.bool r.1]) f73 []
def TD(j1:Unit):Option Bool:=some true
def Kx(O U:List aO)(H:Int):Option (Int⊕(Unit⊕Bool)):=(if decide (H<O.length)then gd (0<=H/\H<O.length)<|gd (0<=H/\H<U.length)<|(if !decide (O.getD H.toNat aO.zero=U.getD H.toNat aO.zero)then some (.inr (.inr false))else some (.inl (i64.wrap (H+1))))else some (.inr (.inl ())))
def Cc(H O:List aO):Option Bool:=(if !decide ((H.length:Int)=(O.length:Int))then some false else(mF (Kx H O) 0).bind (λ|.inl z=>TD z|.inr z=>some z))
abbrev aVr a0 a1:=mkJ (Cc a0 a1) 0 (@TD.eq_1) λ j1=>⟨[],[],0⟩
abbrev aVs (H O:List aO):=mkL x (@Kx.eq_1 H O) λ U=>⟨[(0,la H),(1,la O),(12,.int i64 H.length),(13,.int i64 U)],[],0⟩
attribute[instance]aVr aVs
instance aVt(H O:List aO):OkP (Cc H O) 79 [la H,la O] .bool:=ok1 (Cc.eq_1 H O) f79 []
def AG(H:ByteArray):Bool:=(((((H.toList==(⟨#[97,108,108]⟩:ByteArray).toList)||(H.toList==(⟨#[97,110,121]⟩:ByteArray).toList))||(H.toList==(⟨#[111,102]⟩:ByteArray).toList))||(H.toList==(⟨#[112,114,105,111]⟩:ByteArray).toList))||(H.toList==(⟨#[108,105,109,105,116]⟩:ByteArray).toList))
instance aVu(H:ByteArray):OkT 107 [.str H] (.bool (AG H)):=ok2 .bool (AG.eq_1 H) f107 []
def l5(H:aJ):Bool:=((decide (H.kind=1)&&decide (H.aU=1))||((decide (H.kind=2)&&decide (1<=H.aU))&&decide (H.aU<=8)))
instance aVv(H:aJ):OkT 199 [.agg (aJ.enc H)] (.bool (l5 H)):=ok2 .bool (l5.eq_1 H) f199 []
def pJ(H:aK):Bool:=(((((decide (0<=H.site)&&decide (H.site<4))&&decide (1<=H.inc))&&decide (H.inc<=99))&&decide (1<=H.num))&&decide (H.num<=999))
instance aVw(H:aK):OkT 51 [.agg (aK.enc H)] (.bool (pJ H)):=ok2 .bool (pJ.eq_1 H) f51 []
def oG(H:aC):Bool:=(decide (H={aC.zero with}))
instance aVx(H:aC):OkT 53 [.agg (aC.enc H)] (.bool (oG H)):=ok2 .bool (oG.eq_1 H) f53 []
def Og(H:(List aK)):Option (List aK):=some H
def Ky(O:aA)(H:Int×(List aK)):Option ((Int×(List aK))⊕(List aK)):=(if decide (H.1<O.aW.length)then gd (0<=H.1/\H.1<O.aW.length)<|gd (H.2.length+1<=4294967296)<|some (.inl (i64.wrap (H.1+1),H.2++[(O.aW.getD H.1.toNat aV.zero).aM]))else some (.inr H.2))
def Kz(H:aA)(j1:(List aK)):Option (List aK):=(mF (Ky H) (0,j1)).bind (λ z=>Og z)
def KA(O:aA)(H:Int×(List aK)):Option ((Int×(List aK))⊕(List aK)):=(if decide (H.1<O.aN.length)then gd (0<=H.1/\H.1<O.aN.length)<|gd (H.2.length+1<=4294967296)<|some (.inl (i64.wrap (H.1+1),H.2++[(O.aN.getD H.1.toNat aV.zero).aM]))else some (.inr H.2))
def Cd(H:aA):Option (List aK):=(mF (KA H) (0,[])).bind (λ z=>Kz H z)
abbrev aW2 a0 j1:=mkJ (Kz a0 j1) 2 (@Og.eq_1) λ H=>⟨[(3,.own 0 0 H.length)],[(0,sx H)],1⟩
abbrev aW3 (O:aA):=mkL x (@Ky.eq_1 O) λ H=>⟨[(1,.ptr 0 0 0),(3,.own 1 0 H.2.length),(5,.int i64 H.1)],[(0,bx O),(1,sx H.2)],2⟩
abbrev aW4 (H:aA):=mkJ (Cd H) 0 (@Kz.eq_1 H) λ j1=>⟨[(1,.ptr 0 0 0),(3,.own 1 0 j1.length)],[(0,bx H),(1,sx j1)],2⟩
abbrev aW5 (O:aA):=mkL x (@KA.eq_1 O) λ H=>⟨[(1,.ptr 0 0 0),(3,.own 1 0 H.2.length),(4,.int i64 H.1)],[(0,bx O),(1,sx H.2)],2⟩
attribute[instance]aW2 aW3 aW4 aW5
instance aW6(H:aA):OkP (Cd H) 197 [ga H] la:=ok1 (Cd.eq_1 H) f197 [(3,1)]
def TE(j1:(List bN)):Option (List bN):=some j1
def KB(U:ByteArray)(O:List bA)(H:Int×(List bN)):Option ((Int×(List bN))⊕(List bN)):=(if decide (H.1<O.length)then gd (0<=H.1/\H.1<O.length)<|gd (0<=H.1/\H.1<O.length)<|gd (H.2.length+1<=4294967296)<|some (.inl (i64.wrap (H.1+1),H.2++[(⟨1,(O.getD H.1.toNat bA.zero).aM,U,(O.getD H.1.toNat bA.zero).aI⟩:bN)]))else some (.inr H.2))
def vS(H:ByteArray)(O:List bA):Option (List bN):=(mF (KB H O) (0,[])).bind (λ z=>TE z)
abbrev aW9 a0 a1:=mkJ (vS a0 a1) 0 (@TE.eq_1) λ j1=>⟨[(5,.own 0 0 j1.length)],[(0,sx j1)],1⟩
abbrev aWa (O:ByteArray) (U:List bA):=mkL x (@KB.eq_1 O U) λ H=>⟨[(0,.str O),(1,la U),(5,.own 0 0 H.2.length),(6,.int i64 H.1)],[(0,sx H.2)],1⟩
attribute[instance]aW9 aWa
instance aWb(H:ByteArray)(O:List bA):OkP (vS H O) 262 [.str H,la O] la:=ok1 (vS.eq_1 H O) f262 [(5,1)]
def vT(U:List aA)(O:List bN)(H:bD):Option (Int×(List aA)×(List aG)×(List bN)):=gd (H.ev.length+O.length<=4294967296)<|some (H.c.now,U,H.c.aD,H.ev++O)
instance aWc(O:List aA)(U:List bN)(H:bD):OkM (vT O U H) 229 [.ptr 0 0 0,la O,la U] [(0,⟨false,4,bD.enc bD.zero,[[.int i64 H.c.now,la H.c.aF,.own 1 0 H.c.aD.length,.own 2 0 H.ev.length]]⟩),(1,sx H.c.aD),(2,sx H.ev)] 3 (λ r=>.tup []) (λ r=>[(0,⟨false,4,bD.enc bD.zero,[[.int i64 r.1,la r.2.1,.own 1 0 r.2.2.1.length,.own 3 0 r.2.2.2.length]]⟩),(1,sx r.2.2.1),(3,sx r.2.2.2)]) 4:=okm (vT.eq_1 O U H) (λ r=>[]) f229 []
def Ce(H:Int)(O:bD):Option (Int×(List aA)×(List aG)×(List bN)):=gd (0<=H/\H<((O.c.aD.length:Nat):Int))<|gd (0<=H/\H<((O.c.aD.length:Nat):Int))<|gd (0<=H/\H<((O.c.aD.length:Nat):Int))<|some (O.c.now,O.c.aF,((O.c.aD.set H.toNat ({(O.c.aD.getD H.toNat aG.zero)with bJ:=false})).set H.toNat ({((O.c.aD.set H.toNat ({(O.c.aD.getD H.toNat aG.zero)with bJ:=false})).getD H.toNat aG.zero)with bK:={bP.zero with}})).set H.toNat ({(((O.c.aD.set H.toNat ({(O.c.aD.getD H.toNat aG.zero)with bJ:=false})).set H.toNat ({((O.c.aD.set H.toNat ({(O.c.aD.getD H.toNat aG.zero)with bJ:=false})).getD H.toNat aG.zero)with bK:={bP.zero with}})).getD H.toNat aG.zero)with since:=0}),O.ev)
instance aWd(O:Int)(H:bD):OkM (Ce O H) 231 [.ptr 0 0 0,.int i64 O] [(0,⟨false,4,bD.enc bD.zero,[[.int i64 H.c.now,la H.c.aF,.own 1 0 H.c.aD.length,.own 2 0 H.ev.length]]⟩),(1,sx H.c.aD),(2,sx H.ev)] 3 (λ r=>.tup []) (λ r=>[(0,⟨false,4,bD.enc bD.zero,[[.int i64 r.1,la r.2.1,.own 1 0 r.2.2.1.length,.own 2 0 r.2.2.2.length]]⟩),(1,sx r.2.2.1),(2,sx r.2.2.2)]) 3:=okm (Ce.eq_1 O H) (λ r=>[]) f231 []
def Es(H:aA):Option aA:=gd (H.aS.length<=4294967296)<|gd (H.aN.length<=4294967296)<|gd (H.aW.length<=4294967296)<|some H
def aWe(H r:aA)(h:Es H=some r):MFn C 208 [ga H] [] 0 (.agg [.str r.aB.name,.int i64 r.aB.kind,.int i64 r.aB.aU,.int i64 r.aB.home,.own 0 0 r.aS.length,.own 1 0 r.aN.length,.own 2 0 r.aW.length,.int i64 r.gen]) [(0,sx r.aS),(1,sx r.aN),(2,sx r.aW)] 3:=by refine pF f208 [(3,1),(8,1),(13,1)] [.agg [.str r.aB.name,.int i64 r.aB.kind,.int i64 r.aB.aU,.int i64 r.aB.home,.own 0 0 r.aS.length,.own 1 0 r.aN.length,.own 2 0 r.aW.length,.int i64 r.gen]] λ E hG B hK=>?_;unfold Es at h;refine zq ?_;refine mD ?_;obtain⟨O,h⟩:=mM h;refine mE hG ?_;refine mD ?_;obtain⟨U,h⟩:=mM h;refine mE hG ?_;refine mD ?_;obtain⟨Y,h⟩:=mM h;refine mE hG ?_;refine zq ?_;refine mO ?_;exact nD [(0,3),(1,5),(2,7)] h
def Et(H:Bool):ByteArray:=(if H then(⟨#[69]⟩:ByteArray)else(⟨#[]⟩:ByteArray))
@[go_sem] def aWg(H:Bool):St:=⟨[(26,.bool H)],[],0⟩
def Hh(H:Int)(O:Bool):ByteArray:=(if O then(⟨#[82]⟩:ByteArray)else(if decide (H=7)then(⟨#[82,87,79]⟩:ByteArray)else(if decide (H=9)then(⟨#[82,87]⟩:ByteArray)else(if decide (H=10)then(⟨#[82,69,80,71,76]⟩:ByteArray)else(if decide (H=11)then(⟨#[82,80,68]⟩:ByteArray)else(if decide (H=12)then(⟨#[69,83]⟩:ByteArray)else(if decide (H=13)then Et (decide (H=13))else(if decide (H=14)then Et (decide (H=14))else Et (decide (H=15))))))))))
@[go_sem] def aWi(H:Int)(O:Bool):St:=⟨[(3,.int i64 H),(13,.bool O)],[],0⟩
def Hi(H:Int)(j1:Bool):ByteArray:=(if j1 then(⟨#[80,71,65]⟩:ByteArray)else(if decide (H=3)then(⟨#[80,71,65,68]⟩:ByteArray)else(if decide (H=5)then(⟨#[83,73]⟩:ByteArray)else(if decide (H=6)then Hh H (decide (H=6))else Hh H (decide (H=8))))))
@[go_sem] def aWk(H:Int)(j1:Bool):St:=⟨[(3,.int i64 H),(6,.bool j1)],[],0⟩
def nF(H:Int):ByteArray:=(if decide (H=1)then(⟨#[80,71,65,89]⟩:ByteArray)else(if decide (H=2)then Hi H (decide (H=2))else Hi H (decide (H=4))))
def aWl(H:Int):PFn C 25 [.int i64 H] (.str (nF H)):=by
 generalize h:nF H=r;refine oT f25 [] λ E hG O hK=>?_;unfold nF at h;refine zq ?_;refine mD (zq ?_);refine oM (zq ?_);refine mJ rfl hG h (λ _ h=>?_) (λ _ h=>?_)
 · refine zq ?_
   refine mO ?_;exact uO h
 refine mD (zq ?_);refine rV (aWk H) (λ v=>Hi H v=r) rfl hG h ?_ (λ _ h=>?_) (λ _ h=>?_)
 · intro j1 h
   unfold Hi at h;refine g_st ?_;refine mJ rfl hG h (λ _ h=>?_) (λ _ h=>?_)
   · refine zq ?_
     refine mO ?_;exact uO h
   refine zq ?_;refine mJ rfl hG h (λ _ h=>?_) (λ _ h=>?_)
   · refine zq ?_
     refine mO ?_;exact uO h
   refine zq ?_;refine mJ rfl hG h (λ _ h=>?_) (λ _ h=>?_)
   · refine zq ?_
     refine mO ?_;exact uO h
   refine mD (zq ?_);refine rV (aWi H) (λ v=>Hh H v=r) rfl hG h ?_ (λ _ h=>?_) (λ _ h=>?_)
   · intro U h
     unfold Hh at h;refine g_st ?_;refine mJ rfl hG h (λ _ h=>?_) (λ _ h=>?_)
     · refine zq ?_
       refine mO ?_;exact uO h
     refine zq ?_;refine mJ rfl hG h (λ _ h=>?_) (λ _ h=>?_)
     · refine zq ?_
       refine mO ?_;exact uO h
     refine zq ?_;refine mJ rfl hG h (λ _ h=>?_) (λ _ h=>?_)
     · refine zq ?_
       refine mO ?_;exact uO h
     refine zq ?_;refine mJ rfl hG h (λ _ h=>?_) (λ _ h=>?_)
     · refine zq ?_
       refine mO ?_;exact uO h
     refine zq ?_;refine mJ rfl hG h (λ _ h=>?_) (λ _ h=>?_)
     · refine zq ?_
       refine mO ?_;exact uO h
     refine zq ?_;refine mJ rfl hG h (λ _ h=>?_) (λ _ h=>?_)
     · refine zq ?_
       refine mO ?_;exact uO h
     refine mD (zq ?_);refine rV aWg (λ v=>Et v=r) rfl hG h ?_ (λ _ h=>?_) (λ _ h=>?_)
     · intro Y h
       unfold Et at h;refine g_st ?_;refine mJ rfl hG h (λ _ h=>?_) (λ _ h=>?_)
       · refine zq ?_
         refine mO ?_;exact uO h
       refine mN ?_;refine zq ?_;refine mO ?_;exact uO h
     · refine mN ?_
       exact nA hK [] (decide (H=13)) (by exact h)
     refine zq ?_;refine mJ rfl hG h (λ _ h=>?_) (λ _ h=>?_)
     · refine mN ?_
       exact nA hK [] (decide (H=14)) (by exact h)
     refine mE hG ?_;exact nA hK [] (decide (H=15)) (by exact h)
   · refine mN ?_
     exact nA hK [] (decide (H=6)) (by exact h)
   refine mE hG ?_;exact nA hK [] (decide (H=8)) (by exact h)
 · refine mN ?_
   exact nA hK [] (decide (H=2)) (by exact h)
 refine mE hG ?_;exact nA hK [] (decide (H=4)) (by exact h)
instance aWm(H:Int):OkT 25 [.int i64 H] (.str (nF H)):=⟨aWl H⟩
def TF(j1:Unit):Option Bool:=some true
def TG(O U:List aV)(H:Int):Option (Int⊕(Unit⊕Bool)):=(if decide (H<O.length)then gd (0<=H/\H<O.length)<|gd (0<=H/\H<U.length)<|(if !decide (O.getD H.toNat aV.zero=U.getD H.toNat aV.zero)then some (.inr (.inr false))else some (.inl (i64.wrap (H+1))))else some (.inr (.inl ())))
def AH(H O:List aV):Option Bool:=(if !decide ((H.length:Int)=(O.length:Int))then some false else(mF (TG H O) 0).bind (λ|.inl z=>TF z|.inr z=>some z))
abbrev aWp a0 a1:=mkJ (AH a0 a1) 0 (@TF.eq_1) λ j1=>⟨[],[],0⟩
abbrev aWq (H O:List aV):=mkL x (@TG.eq_1 H O) λ U=>⟨[(0,la H),(1,la O),(5,.int i64 U)],[],0⟩
attribute[instance]aWp aWq
instance aWr(H O:List aV):OkP (AH H O) 172 [la H,la O] .bool:=ok1 (AH.eq_1 H O) f172 []
def Oh(j1:(List aK)):Option (List aK):=some j1
def Hj(O:List bA)(H:Int×(List aK)):Option ((Int×(List aK))⊕(List aK)):=(if decide (H.1<O.length)then gd (0<=H.1/\H.1<O.length)<|gd (H.2.length+1<=4294967296)<|some (.inl (i64.wrap (H.1+1),H.2++[(O.getD H.1.toNat bA.zero).aM]))else some (.inr H.2))
def Hk(H:List bA):Option (List aK):=(mF (Hj H) (0,[])).bind (λ z=>Oh z)
abbrev aWu a0:=mkJ (Hk a0) 0 (@Oh.eq_1) λ j1=>⟨[(3,.own 0 0 j1.length)],[(0,sx j1)],1⟩
abbrev aWv (H:List bA):=mkL x (@Hj.eq_1 H) λ O=>⟨[(3,.own 0 0 O.2.length),(6,la H),(7,.int i64 H.length),(8,.int i64 O.1)],[(0,sx O.2)],1⟩
attribute[instance]aWu aWv
end
end Ab
end Go.Proofs.YtfmnjkfhahfhgaaGreatDoor
