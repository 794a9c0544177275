import Derived.Test.YtcggeefhhegeoaaGreatDoorHm13
import Derived.Test.YtcggeefhhegeoaaGreatDoorHm14
import Derived.Test.YtcggeefhhegeoaaGreatDoorHm15
import Derived.Test.YtcggeefhhegeoaaGreatDoorHm17
import Derived.Test.YtcggeefhhegeoaaGreatDoorHm18
import Derived.Test.YtcggeefhhegeoaaGreatDoorHm19
namespace Go.Proofs.YtcggeefhhegeoaaGreatDoor
namespace Ab
open IntKind (i64 u64 u8)
set_option linter.unusedSimpArgs false
set_option linter.unusedVariables false
set_option linter.defProp false
set_option maxRecDepth 100000
set_option maxHeartbeats 1000000
noncomputable section
attribute [local irreducible] zj2 za4 zd1 za7 zf7 zi6 zk5 zg4 zk6 zf3 zd2 zd8 zh9 zd6 zk1 za6 za0 ze0 zj7 zl9 zi3 zh5 zg2 zg8 zf8 zc5 ze1 ze2 zg9 zf5 ze3 zb0 za8 zh0 zi4 ze4 zn1 f_ref08_holds zj3 zc2 zn6 zm4 zm1 zd9 ze8 zk2 zm5 zh1 zj9 zl7 zd0 zi7 zf0 zf9 zl4 zn9 zm7 zb2 zc1 zh4 zq0 zp1 zk4 zb9 zo8 zd4 zm2 zh2 za5 za1 zb4 zh7 ze9 zm8 zk9 zd7 zd3 zi8 ze6 zq1 zi2 zc8 zo4 zo5 zb5 zi9 zf4 zh8 ze7 zm9 zp0 zp4 zp6 zi1 zf2 zq4 zr5 zt1 zg6 zs7 ze5 zj5 zc3 zb7 zk3 zq2 zl0 zr6 zc9 zq8 zh3 zh6 zi0 zl1 zj6 zp5 zs0 zq3 zn2 zc7 zb8 zl6 zr3 zs5 zd5 za3 zk7 zs1 zp2
def zap1 (j1:Unit):Option Bool :=
 some true
def zB0 (a0:Queue) (g1:Int):Option (Int⊕(Unit⊕Bool)) :=
 (if (decide (g1 < (a0.converts.length:Int)))=true then
  gd (0≤g1∧g1 < (a0.converts.length:Int)) <|
  (zn9 a0 ((a0.converts.getD g1.toNat Wait.zero).proc)).bind fun v1 =>
  (zm4 a0.converts ((a0.converts.getD g1.toNat Wait.zero).proc)).bind fun v2 =>
  (if ((!decide (v2=g1))||zl2 v1)=true then
   some (.inr (.inr false))
  else
   ((if (zb3 a0.resource ((a0.converts.getD g1.toNat Wait.zero).amount))=true then zp5 a0.resource ((a0.converts.getD g1.toNat Wait.zero).amount) v1 else some false)).bind fun v3 =>
   (if (((!(zb3 a0.resource ((a0.converts.getD g1.toNat Wait.zero).amount)))||(!v3))||decide ((a0.converts.getD g1.toNat Wait.zero).amount=v1))=true then
    some (.inr (.inr false))
   else
    (if ((!decide ((a0.converts.getD g1.toNat Wait.zero).priority=0))||(!decide ((a0.converts.getD g1.toNat Wait.zero).passed=0)))=true then
     some (.inr (.inr false))
    else
     some (.inl (i64.wrap (g1+1))))))
 else
  some (.inr (.inl ())))
def zp9 (a0:Queue):Option Bool :=
 (if (decide (8 < (a0.converts.length:Int)))=true then
  some false
 else
  (zc0 (zB0 a0) 0).bind (fun|.inl z=>zap1 z|.inr z=>some z))
@[reducible,instance] def zed1 a0:=mkJ (zp9 a0) 0 (@zap1.eq_1) fun (j1:Unit)=>⟨[],[],0⟩
@[reducible,instance] def zed2 (a0:Queue) {T:Type} (x:T):=mkL x (@zB0.eq_1 a0) fun (g1:Int)=>⟨[(1,.ptr 0 0 0),(11,la a0.converts),(12,.int .i64 (a0.converts.length:Int)),(13,.int .i64 g1)],[(0,bx a0)],1⟩
instance zcg0 (a0:Queue):OkP (zp9 a0) 175 [ga a0] (fun r=>.bool r):=ok1 (zp9.eq_1 a0) Tryz.f175 []
attribute [local irreducible] zp9
def zo9 (a0:Expr):Option Bool :=
 (zk4 a0).bind fun v1 =>
 (if (!decide (v1=0))=true then
  (zn2 a0 []).bind fun v2 =>
  some ((!decide (v1=0))&&v2.1)
 else
  some ((!decide (v1=0))&&false))
theorem zbd9 (a0:Expr) (r:Bool) (h:zo9 a0=some r):PFn C 67 [ga a0] (.bool r):=by
 refine zag9 Tryz.f67 [(3,3)] fun E hG hN hK=>?_
 unfold zo9 at h
 refine za2 (za9 hG ?_)
 refine za2 (za9 hG ?_)
 refine g_gh (.ownb 1 0 3 (Atom.enc Atom.zero)) ?_
 refine za2 (za9 hG ?_)
 obtain ⟨v1,hv1,h⟩:=zf1 h
 refine zu6 (fun hg=>(zbw6 a0).ok _ hv1) ?_
 refine zcE7 h (fun hc h=>?_) (fun hc h=>?_)
 · obtain ⟨v2,hv2,h⟩:=zf1 h
   refine zcn0 hc [(0,1),(1,2)] [(2,3)] [0,1,2] ((zbd7 a0 []).ok _ hv2) rfl rfl ?_
   refine zw3 ?_
   exact zW9 h
 refine zcn1 hc (.bool false) ?_
 refine zw3 ?_
 exact zW9 h
instance zcj7 (a0:Expr):OkP (zo9 a0) 67 [ga a0] (fun r=>.bool r):=⟨zbd9 a0⟩
attribute [local irreducible] zo9
def zF0 (j2:decoder×Expr):Option (Expr×decoder) :=
 some (j2.2,j2.1)
@[go_sem] def zds7  (j2:decoder×Expr):St:=⟨[(4,.ptr 1 0 0),(5,.ptr 2 0 0)],[(0,bx j2.1),(1,bx Expr.zero),(2,⟨false,5,Expr.enc Expr.zero,[[.int .i64 j2.2.k,.str j2.2.atom.name,.int .i64 j2.2.atom.amount.mode,.int .i64 j2.2.atom.amount.units,.own 3 0 j2.2.kids.length]]⟩),(3,sx j2.2.kids)],4⟩
def zA0 (a90:(Int→decoder→Option (Expr×decoder))) (a0:Int) (g1:Int×decoder×Expr):Option ((Int×decoder×Expr)⊕(decoder×Expr)) :=
 (if (decide (0 < g1.1)&&decide (g1.2.1.reader.err=0))=true then
  (a90 (i64.wrap (a0+1)) g1.2.1).bind fun v5 =>
  gd (g1.2.2.kids.length+1≤4294967296) <|
  some (.inl ((i64.wrap (g1.1 - 1)),v5.2,(⟨g1.2.2.k,(⟨g1.2.2.atom.name,(⟨g1.2.2.atom.amount.mode,g1.2.2.atom.amount.units⟩:Amount)⟩:Atom),(g1.2.2.kids++[v5.1])⟩:Expr)))
 else
  some (.inr (g1.2.1,g1.2.2)))
@[go_sem] def zds8 (a0:Int) (g1:Int×decoder×Expr):St:=⟨[(0,.ptr 0 0 0),(1,.int .i64 a0),(4,.ptr 1 0 0),(5,.ptr 2 0 0),(6,.int .i64 g1.1)],[(0,bx g1.2.1),(1,bx Expr.zero),(2,⟨false,5,Expr.enc Expr.zero,[[.int .i64 g1.2.2.k,.str g1.2.2.atom.name,.int .i64 g1.2.2.atom.amount.mode,.int .i64 g1.2.2.atom.amount.units,.own 3 0 g1.2.2.kids.length]]⟩),(3,sx g1.2.2.kids)],4⟩
def zA1 (a90:(Int→decoder→Option (Expr×decoder))) (a0:Int) (j1:decoder):Option (Expr×decoder) :=
 (zb7 j1).bind fun v1 =>
 (if (!decide (v1.2.reader.err=0))=true then
  some ((⟨v1.1,(⟨((⟨Expr.zero.k,(⟨Expr.zero.atom.name,(⟨Expr.zero.atom.amount.mode,Expr.zero.atom.amount.units⟩:Amount)⟩:Atom),[]⟩:Expr).atom).name,(⟨(((⟨Expr.zero.k,(⟨Expr.zero.atom.name,(⟨Expr.zero.atom.amount.mode,Expr.zero.atom.amount.units⟩:Amount)⟩:Atom),[]⟩:Expr).atom).amount).mode,(((⟨Expr.zero.k,(⟨Expr.zero.atom.name,(⟨Expr.zero.atom.amount.mode,Expr.zero.atom.amount.units⟩:Amount)⟩:Atom),[]⟩:Expr).atom).amount).units⟩:Amount)⟩:Atom),(⟨Expr.zero.k,(⟨Expr.zero.atom.name,(⟨Expr.zero.atom.amount.mode,Expr.zero.atom.amount.units⟩:Amount)⟩:Atom),[]⟩:Expr).kids⟩:Expr),v1.2)
 else
  (if (decide (v1.1=0))=true then
   (zc9 v1.2).bind fun v2 =>
   (zc7 v2.2).bind fun v3 =>
   some ((⟨v1.1,(⟨v2.1,(⟨v3.1.mode,v3.1.units⟩:Amount)⟩:Atom),(⟨Expr.zero.k,(⟨Expr.zero.atom.name,(⟨Expr.zero.atom.amount.mode,Expr.zero.atom.amount.units⟩:Amount)⟩:Atom),[]⟩:Expr).kids⟩:Expr),v3.2)
  else
   (zc3 24 v1.2).bind fun v4 =>
   (zc0 (zA0 a90 a0) (v4.1,v4.2,(⟨v1.1,(⟨((⟨Expr.zero.k,(⟨Expr.zero.atom.name,(⟨Expr.zero.atom.amount.mode,Expr.zero.atom.amount.units⟩:Amount)⟩:Atom),[]⟩:Expr).atom).name,(⟨(((⟨Expr.zero.k,(⟨Expr.zero.atom.name,(⟨Expr.zero.atom.amount.mode,Expr.zero.atom.amount.units⟩:Amount)⟩:Atom),[]⟩:Expr).atom).amount).mode,(((⟨Expr.zero.k,(⟨Expr.zero.atom.name,(⟨Expr.zero.atom.amount.mode,Expr.zero.atom.amount.units⟩:Amount)⟩:Atom),[]⟩:Expr).atom).amount).units⟩:Amount)⟩:Atom),(⟨Expr.zero.k,(⟨Expr.zero.atom.name,(⟨Expr.zero.atom.amount.mode,Expr.zero.atom.amount.units⟩:Amount)⟩:Atom),[]⟩:Expr).kids⟩:Expr))).bind (fun z=>zF0 z)))
@[go_sem] def zds9 (a0:Int) (j1:decoder):St:=⟨[(0,.ptr 0 0 0),(1,.int .i64 a0),(4,.ptr 1 0 0),(5,.ptr 2 0 0)],[(0,bx j1),(1,bx Expr.zero),(2,⟨false,5,Expr.enc Expr.zero,[[.int .i64 ((⟨Expr.zero.k,(⟨Expr.zero.atom.name,(⟨Expr.zero.atom.amount.mode,Expr.zero.atom.amount.units⟩:Amount)⟩:Atom),[]⟩:Expr).k),.str (((⟨Expr.zero.k,(⟨Expr.zero.atom.name,(⟨Expr.zero.atom.amount.mode,Expr.zero.atom.amount.units⟩:Amount)⟩:Atom),[]⟩:Expr).atom).name),.int .i64 ((((⟨Expr.zero.k,(⟨Expr.zero.atom.name,(⟨Expr.zero.atom.amount.mode,Expr.zero.atom.amount.units⟩:Amount)⟩:Atom),[]⟩:Expr).atom).amount).mode),.int .i64 ((((⟨Expr.zero.k,(⟨Expr.zero.atom.name,(⟨Expr.zero.atom.amount.mode,Expr.zero.atom.amount.units⟩:Amount)⟩:Atom),[]⟩:Expr).atom).amount).units),.own 3 0 (((⟨Expr.zero.k,(⟨Expr.zero.atom.name,(⟨Expr.zero.atom.amount.mode,Expr.zero.atom.amount.units⟩:Amount)⟩:Atom),[]⟩:Expr).kids).length)]]⟩),(3,sx ((⟨Expr.zero.k,(⟨Expr.zero.atom.name,(⟨Expr.zero.atom.amount.mode,Expr.zero.atom.amount.units⟩:Amount)⟩:Atom),[]⟩:Expr).kids))],4⟩
def zA7 (a90:(Int→decoder→Option (Expr×decoder))) (a0:Int) (a1:decoder):Option (Expr×decoder) :=
 (if (decide (a1.reader.err=0)&&decide (4 < a0))=true then
  zA1 a90 a0 ({ a1 with reader:={ a1.reader with err:=4 } })
 else
  zA1 a90 a0 a1)
def zv0:Nat→(Int→decoder→Option (Expr×decoder))
 | 0=>fun _ _=>none
 | n+1=>zA7 (zv0 n)
def zn7 (a0:Int) (a1:decoder):Option (Expr×decoder):=zv0 ((6 - a0).toNat+1) a0 a1
theorem zaF6 (a90:(Int→decoder→Option (Expr×decoder))) (hrc:∀ (a0:Int) (a1:decoder) (r:Expr×decoder),a90 a0 a1=some r→MFn C 37 [.ptr 0 0 0,.int .i64 a0] [(0,bx a1)] 1 (ga r.1) [(0,bx r.2)] 1) (a0:Int) (a1:decoder) (r:Expr×decoder) (h:zA7 a90 a0 a1=some r):MFn C 37 [.ptr 0 0 0,.int .i64 a0] [(0,bx a1)] 1 (ga r.1) [(0,bx r.2)] 1:=by
 refine zaC5 Tryz.f37 [(5,18)] [ga r.1] fun E hG hN hK=>?_
 unfold zA7 at h
 refine za2 (za9 hG ?_)
 refine za2 (za9 hG ?_)
 refine g_gh (.ownb 2 4 5 (Expr.enc Expr.zero)) ?_
 refine za2 (za2 (za9 hG ?_))
 refine zbh2 (zds9 a0) (fun v=>zA1 a90 a0 v=some r) rfl hG h ?_ (fun _ h=>?_) (fun _ h=>?_)
 · intro j1 h
   unfold zA1 at h
   refine g_st ?_
   refine za2 (za9 hG ?_)
   obtain ⟨v1,hv1,h⟩:=zf1 h
   refine zu2 [(0,0)] [] [0] ((zz9 j1).ok _ hv1) rfl rfl ?_
   refine za2 (za2 (za9 hG ?_))
   refine zo2 rfl hG h (fun _ h=>?_) (fun _ h=>?_)
   · refine za2 (za9 hG ?_)
     refine g_gh (.fz [3]) ?_
     refine zw3 ?_
     exact zS7 [(0,0)] h
   refine zn4 ?_
   refine za2 (za2 (za9 hG ?_))
   refine zo2 rfl hG h (fun _ h=>?_) (fun _ h=>?_)
   · refine za2 (za9 hG ?_)
     obtain ⟨v2,hv2,h⟩:=zf1 h
     refine zu2 [(0,0)] [] [0] ((zai4 v1.2).ok _ hv2) rfl rfl ?_
     refine za2 (za9 hG ?_)
     obtain ⟨v3,hv3,h⟩:=zf1 h
     refine zu2 [(0,0)] [] [0] ((zay7 v2.2).ok _ hv3) rfl rfl ?_
     refine za2 (za9 hG ?_)
     refine g_gh (.fz [3]) ?_
     refine zw3 ?_
     exact zS7 [(0,0)] h
   refine zn4 ?_
   refine za2 (za2 (za9 hG ?_))
   obtain ⟨v4,hv4,h⟩:=zf1 h
   refine zu2 [(0,0)] [] [0] ((zG1 24 v1.2).ok _ hv4) rfl rfl ?_
   refine zP5 zds7 (fun v=>zF0 v=some r) ?_ ?_
   · intro j2 h
     unfold zF0 at h
     refine g_st ?_
     refine za2 (za9 hG ?_)
     refine g_gh (.fz [3]) ?_
     refine zw3 ?_
     exact zS7 [(0,0)] h
   refine zao1 (zds8 a0) hK [(0,0),(1,1),(2,2),(3,3)] h (fun x_l1 h g1 y_l1 h_l1 hx_l1=>?_)
   unfold zA0 at h_l1
   refine g_st ?_
   refine za2 (za2 (za9 hG ?_))
   refine zo2 rfl hG h_l1 (fun _ h_l1=>?_) (fun _ h_l1=>?_)
   · refine zn4 ?_
     refine za2 (zI8 (zaF0 zL7 hG ?_))
     obtain ⟨v5,hv5,h_l1⟩:=zf1 h_l1
     obtain ⟨hb1,h_l1⟩:=zg5 h_l1
     refine zbL7 [(0,0)] [] [0] (hrc (i64.wrap (a0+1)) g1.2.1 _ hv5) rfl rfl ?_
     refine za9 hG ?_
     exact zX1 hK [(0,0),(1,1),(2,2),(3,4)] h_l1
   refine zR6 ?_
   cases h_l1
   cases hx_l1 _ rfl
   exact zI1 hK [(0,0),(1,1),(2,2),(3,3)] (g1.2.1,g1.2.2) (by exact h)
 · refine za9 hG ?_
   exact zI1 hK [(0,0),(1,1),(2,2),(3,3)] ({ a1 with reader:={ a1.reader with err:=4 } }) (by exact h)
 refine zn4 ?_
 exact zI1 hK [(0,0),(1,1),(2,2),(3,3)] a1 (by exact h)
theorem zah4:∀ (n:Nat) (a0:Int) (a1:decoder) (r:Expr×decoder),zv0 n a0 a1=some r→MFn C 37 [.ptr 0 0 0,.int .i64 a0] [(0,bx a1)] 1 (ga r.1) [(0,bx r.2)] 1
 | 0,_,_,_,h=>nomatch h
 | n+1,a0,a1,r,h=>zaF6 (zv0 n) (zah4 n) a0 a1 r h
instance zbE9 (a0:Int) (a1:decoder):OkM (zn7 a0 a1) 37 [.ptr 0 0 0,.int .i64 a0] [(0,bx a1)] 1 (fun r=>ga r.1) (fun r=>[(0,bx r.2)]) 1:=⟨fun r h=>zah4 _ a0 a1 r h⟩
attribute [local irreducible] zn7
def zaJ3 (j1:(List Proc)):Option (List Proc) :=
 (zi0 j1).bind fun v1 =>
 some v1
def zaJ4 (a0:List Queue) (g1:Int×(List Proc)):Option ((Int×(List Proc))⊕(List Proc)) :=
 (if (decide (g1.1 < (a0.length:Int)))=true then
  gd (0≤g1.1∧g1.1 < (a0.length:Int)) <|
  (zs1 (a0.getD g1.1.toNat Queue.zero)).bind fun v2 =>
  gd (g1.2.length+v2.length≤4294967296) <|
  some (.inl ((i64.wrap (g1.1+1)),(g1.2++v2)))
 else
  some (.inr g1.2))
def zw8 (a0:List Queue):Option (List Proc) :=
 (zc0 (zaJ4 a0) (0,[])).bind (fun z=>zaJ3 z)
@[reducible,instance] def zdS6 a0:=mkJ (zw8 a0) 0 (@zaJ3.eq_1) fun (j1:(List Proc))=>⟨[(3,.own 0 0 j1.length)],[(0,sx j1)],1⟩
@[reducible,instance] def zdS7 (a0:List Queue) {T:Type} (x:T):=mkL x (@zaJ4.eq_1 a0) fun (g1:Int×(List Proc))=>⟨[(0,la a0),(3,.own 0 0 g1.2.length),(4,.int .i64 g1.1)],[(0,sx g1.2)],1⟩
instance zcG0 (a0:List Queue):OkM (zw8 a0) 42 [la a0] [] 0 (fun r=>.own 0 0 r.length) (fun r=>[(0,sx r)]) 1:=okm (zw8.eq_1 a0) (fun r=>[.own 0 0 r.length]) Tryz.f42 [(2,1),(3,1),(19,1)]
attribute [local irreducible] zw8
@[go_sem] def zdS8  (j2:ref16Reader×Expr):St:=⟨[(4,.ptr 1 0 0),(5,.ptr 2 0 0)],[(0,bx j2.1),(1,bx Expr.zero),(2,⟨false,5,Expr.enc Expr.zero,[[.int .i64 j2.2.k,.str j2.2.atom.name,.int .i64 j2.2.atom.amount.mode,.int .i64 j2.2.atom.amount.units,.own 3 0 j2.2.kids.length]]⟩),(3,sx j2.2.kids)],4⟩
@[go_sem] def zdS9 (a0:Int) (v4:Int×ref16Reader) (g1:Int×ref16Reader×Expr):St:=⟨[(0,.ptr 0 0 0),(1,.int .i64 a0),(4,.ptr 1 0 0),(5,.ptr 2 0 0),(6,.int .i64 v4.1),(7,.int .i64 g1.1)],[(0,bx g1.2.1),(1,bx Expr.zero),(2,⟨false,5,Expr.enc Expr.zero,[[.int .i64 g1.2.2.k,.str g1.2.2.atom.name,.int .i64 g1.2.2.atom.amount.mode,.int .i64 g1.2.2.atom.amount.units,.own 3 0 g1.2.2.kids.length]]⟩),(3,sx g1.2.2.kids)],4⟩
@[go_sem] def zdT0 (a0:Int) (j1:ref16Reader):St:=⟨[(0,.ptr 0 0 0),(1,.int .i64 a0),(4,.ptr 1 0 0)],[(0,bx j1),(1,bx Expr.zero)],2⟩
attribute [local irreducible] zl5 zj4 zj1 zs4 zi5 zo6 zq7 zn5 zt7 zu4 zt0 zx1 zb1 zt2 zv3 zA2 zy3 zp3 zw1 zg0 zt8 zu8 zx2
def zv4 (a0:Expr):Option (List Atom) :=
 (zo9 a0).bind fun v1 =>
 (if (!v1)=true then
  some []
 else
  (zl6 a0).bind fun v2 =>
  some v2)
instance zcL6 (a0:Expr):OkP (zv4 a0) 45 [ga a0] (fun r=>la r):=ok1 (zv4.eq_1 a0) Tryz.f45 []
attribute [local irreducible] zv4
def zbe0 (j1:(List Queue)):Option ((List Queue)×Int) :=
 some (j1,0)
def zaw8 (a0:List Resource) (g1:Int×(List Queue)):Option ((Int×(List Queue))⊕(List Queue)) :=
 (if (decide (g1.1 < (a0.length:Int)))=true then
  gd (0≤g1.1∧g1.1 < (a0.length:Int)) <|
  gd (g1.2.length+1≤4294967296) <|
  some (.inl ((i64.wrap (g1.1+1)),(g1.2++[{ Queue.zero with resource:=(a0.getD g1.1.toNat Resource.zero) }])))
 else
  some (.inr g1.2))
def zL1 (a0:List Resource):Option ((List Queue)×Int) :=
 (zt7 a0).bind fun v1 =>
 (if (!v1)=true then
  some ([],1)
 else
  (zc0 (zaw8 a0) (0,[])).bind (fun z=>zbe0 z))
@[reducible,instance] def zdT1 a0 {T1:Type} (v1:T1):=mkJ (zL1 a0,v1) 0 (@zbe0.eq_1) fun (j1:(List Queue))=>⟨[(4,.own 0 0 j1.length)],[(0,sx j1)],1⟩
@[reducible,instance] def zdT2 (a0:List Resource) {T:Type} (x:T):=mkL x (@zaw8.eq_1 a0) fun (g1:Int×(List Queue))=>⟨[(0,la a0),(4,.own 0 0 g1.2.length),(5,.int .i64 g1.1)],[(0,sx g1.2)],1⟩
instance zdl6 (a0:List Resource):OkP (zL1 a0) 120 [la a0] (fun r=>.tup [la r.1,.int .i64 r.2]):=ok1 (zL1.eq_1 a0) Tryz.f120 [(4,1)]
attribute [local irreducible] zL1
def zJ4 (a0:Resource) (a1:List Hold) (a2:Proc) (a3:Amount):Option Bool :=
 (zt8 a0 a1).bind fun v1 =>
 ((if ((v1&&zm6 a2)&&zt6 a0 a3)=true then zr5 a1 a2 a3 else some [])).bind fun v2 =>
 ((if ((v1&&zm6 a2)&&zt6 a0 a3)=true then zt8 a0 v2 else some false)).bind fun v3 =>
 some (((v1&&zm6 a2)&&zt6 a0 a3)&&v3)
instance zdh7 (a0:Resource) (a1:List Hold) (a2:Proc) (a3:Amount):OkP (zJ4 a0 a1 a2 a3) 219 [ga a0,la a1,ga a2,ga a3] (fun r=>.bool r):=ok1 (zJ4.eq_1 a0 a1 a2 a3) Tryz.f219 []
attribute [local irreducible] zJ4
def zaZ8 (v1 v2:Amount) (v3:Amount×Bool) (j1:Unit):Option Bool :=
 some (decide (v2=v1)&&(!v3.2))
def zaZ9 (v1 v2:Amount) (v3:Amount×Bool) (v4:Amount) (j2:Unit):Option (Int⊕(Unit⊕Bool)) :=
 some (.inr (.inr (decide (v2=v1)&&decide (v3.1=v4))))
def zY3 (a0:Queue) (a1:Proce) (g2:Int):Option (Int⊕(Unit⊕Bool)) :=
 (if (decide (g2 < (a0.waits.length:Int)))=true then
  gd (0≤g2∧g2 < (a0.waits.length:Int)) <|
  gd (decide ((a0.waits.getD g2.toNat Wait.zero).proc=a1.proc)=true→0≤g2∧g2 < (a0.waits.length:Int)) <|
  (if (decide ((a0.waits.getD g2.toNat Wait.zero).proc=a1.proc)&&(!decide ((a0.waits.getD g2.toNat Wait.zero).priority=a1.request.priority)))=true then
   some (.inr (.inr false))
  else
   some (.inl (i64.wrap (g2+1))))
 else
  some (.inr (.inl ())))
def zY4 (a0:Queue) (a1:Proce) (a2:List Atom) (v1 v2:Amount) (v3:Amount×Bool) (g1:Int):Option (Int⊕(Unit⊕Bool)) :=
 (if (decide (g1 < (a2.length:Int)))=true then
  gd (0≤g1∧g1 < (a2.length:Int)) <|
  (if ((!(((a2.getD g1.toNat Atom.zero).name).toList == a0.resource.name.toList))||zs9 a0.resource v1 ((a2.getD g1.toNat Atom.zero).amount))=true then
   some (.inl (i64.wrap (g1+1)))
  else
   (zA2 a0.resource v1 ((a2.getD g1.toNat Atom.zero).amount)).bind fun v4 =>
   (if (!v3.2)=true then
    some (.inr (.inr (decide (v2=v4))))
   else
    (zc0 (zY3 a0 a1) 0).bind (fun|.inl z=>zaZ9 v1 v2 v3 v4 z|.inr z=>some (.inr (.inr z)))))
 else
  some (.inr (.inl ())))
def zG2 (a0:Queue) (a1:Proce) (a2:List Atom):Option Bool :=
 (zi6 a1.ledger.entries a0.resource.name).bind fun v1 =>
 (zi2 a0 a1.proc).bind fun v2 =>
 (zh4 a0 a1.proc).bind fun v3 =>
 (zc0 (zY4 a0 a1 a2 v1 v2 v3) 0).bind (fun|.inl z=>zaZ8 v1 v2 v3 z|.inr z=>some z)
@[reducible,instance] def zdT3 a0 a1 a2 (v1 v2:Amount) (v3:Amount×Bool):=mkJ (((zG2 a0 a1 a2,v1),v2),v3) 0 (@zaZ8.eq_1 v1 v2 v3) fun (j1:Unit)=>⟨[(7,.ptr 0 0 0),(8,.ptr 1 0 0),(10,.bool v3.2)],[(0,bx v1),(1,bx v2)],2⟩
@[reducible,instance] def zdT4 a0 a1 a2 (v1 v2:Amount) (v3:Amount×Bool) g1 (v4:Amount):=mkJ (zY4 a0 a1 a2 v1 v2 v3 g1,v4) 2 (@zaZ9.eq_1 v1 v2 v3 v4) fun (j2:Unit)=>⟨[(7,.ptr 0 0 0),(8,.ptr 1 0 0),(9,.ptr 2 0 0),(13,.ptr 3 0 0)],[(0,bx v1),(1,bx v2),(2,bx v3.1),(3,bx v4)],4⟩
@[reducible,instance] def zdT5 (a0:Queue) (a1:Proce) a2 (v1 v2:Amount) (v3:Amount×Bool) g1 (v4:Amount):=mkL (zY4 a0 a1 a2 v1 v2 v3 g1,v4) (@zY3.eq_1 a0 a1) fun (g2:Int)=>⟨[(3,.ptr 0 0 0),(4,.ptr 1 0 0),(7,.ptr 2 0 0),(8,.ptr 3 0 0),(9,.ptr 4 0 0),(13,.ptr 5 0 0),(14,.int .i64 g2)],[(0,bx a0),(1,bx a1),(2,bx v1),(3,bx v2),(4,bx v3.1),(5,bx v4)],6⟩
@[reducible,instance] def zdT6 (a0:Queue) (a1:Proce) (a2:List Atom) (v1 v2:Amount) (v3:Amount×Bool) {T:Type} (x:T):=mkL x (@zY4.eq_1 a0 a1 a2 v1 v2 v3) fun (g1:Int)=>⟨[(2,la a2),(3,.ptr 0 0 0),(4,.ptr 1 0 0),(7,.ptr 2 0 0),(8,.ptr 3 0 0),(9,.ptr 4 0 0),(10,.bool v3.2),(11,.int .i64 g1)],[(0,bx a0),(1,bx a1),(2,bx v1),(3,bx v2),(4,bx v3.1)],5⟩
instance zdh8 (a0:Queue) (a1:Proce) (a2:List Atom):OkP (zG2 a0 a1 a2) 161 [ga a0,ga a1,la a2] (fun r=>.bool r):=ok1 (zG2.eq_1 a0 a1 a2) Tryz.f161 []
attribute [local irreducible] zG2
end
end Ab
end Go.Proofs.YtcggeefhhegeoaaGreatDoor
