import Derived.Test.YtcggeefhhegeoaaGreatDoorHm9
import Derived.Test.YtcggeefhhegeoaaGreatDoorHm11
import Derived.Test.YtcggeefhhegeoaaGreatDoorHm12
namespace Go.Proofs.YtcggeefhhegeoaaGreatDoor
namespace Ab
open IntKind (i64 u64 u8)
set_option linter.unusedSimpArgs false
set_option linter.unusedVariables false
set_option linter.defProp false
set_option maxRecDepth 100000
set_option maxHeartbeats 1000000
noncomputable section
attribute [local irreducible] zj2 za4 zd1 za7 zf7 zi6 zk5 zg4 zk6 zf3 zd2 zd8 zh9 zd6 zk1 za6 za0 ze0 zj7 zl9 zi3 zh5 zg2 zg8 zf8 zc5 ze1 ze2 zg9 zf5 ze3 zb0 za8 zh0 zi4 ze4 zn1 f_ref08_holds zj3 zc2 zn6 zm4 zm1 zd9 ze8 zk2 zm5 zh1 zj9 zl7 zd0 zi7 zf0 zf9 zl4 zn9 zm7 zb2 zc1 zh4 zq0 zp1 zk4 zb9 zo8 zd4 zm2 zh2 za5 za1 zb4 zh7 ze9 zm8 zk9 zd7 zd3 zi8 ze6 zq1 zi2 zc8 zo4 zo5 zb5 zi9 zf4 zh8 ze7 zm9 zp0 zp4 ze5 zj5 zc3 zb7 zk3 zq2 zl0 zr6 zc9 zq8 zh3 zh6 zi0 zl1
def zag0 (j1:Bool):Option Bool :=
 some j1
@[go_sem] def zdx5  (j1:Bool):St:=⟨[(5,.bool j1)],[],0⟩
def zS9 (a1:List Amount) (g1:Int×Int×(Arr Bool 6)) (j2:Unit):Option ((Int×Int×(Arr Bool 6))⊕Bool) :=
 gd (0≤(a1.getD g1.2.1.toNat Amount.zero).mode∧(a1.getD g1.2.1.toNat Amount.zero).mode < 6) <|
 some (.inl ((i64.wrap (g1.1+(a1.getD g1.2.1.toNat Amount.zero).units)),i64.wrap (g1.2.1+1),Arr.put g1.2.2 (((a1.getD g1.2.1.toNat Amount.zero).mode).toNat) true))
@[go_sem] def zdx6 (a0:Resource) (a1:List Amount) (g1:Int×Int×(Arr Bool 6)) (j2:Unit):St:=⟨[(2,.ptr 0 0 0),(5,.bool true),(6,.ptr 1 0 0),(7,.int .i64 (i64.wrap (g1.1+(a1.getD g1.2.1.toNat Amount.zero).units))),(9,.ptr 2 0 0),(15,la a1),(16,.int .i64 (a1.length:Int)),(17,.int .i64 g1.2.1)],[(0,bx a0),(1,⟨false,6,Arr.enc eB (Arr.rep 6 false),[Arr.enc eB g1.2.2]⟩),(2,bx (a1.getD g1.2.1.toNat Amount.zero))],3⟩
def zD9 (a1:List Amount) (g1:Int×Int×(Arr Bool 6)) (g2:Int):Option (Int⊕(Unit⊕Bool)) :=
 (if (decide (g2 < 6))=true then
  gd (0≤g2∧g2 < 6) <|
  ((if (Arr.get g1.2.2 g2.toNat false)=true then zh2 g2 ((a1.getD g1.2.1.toNat Amount.zero).mode) else some false)).bind fun v1 =>
  (if (Arr.get g1.2.2 g2.toNat false&&(!v1))=true then
   some (.inr (.inr false))
  else
   some (.inl (i64.wrap (g2+1))))
 else
  some (.inr (.inl ())))
@[go_sem] def zdx7 (a0:Resource) (a1:List Amount) (g1:Int×Int×(Arr Bool 6)) (g2:Int):St:=⟨[(2,.ptr 0 0 0),(5,.bool true),(6,.ptr 1 0 0),(7,.int .i64 (i64.wrap (g1.1+(a1.getD g1.2.1.toNat Amount.zero).units))),(9,.ptr 2 0 0),(15,la a1),(16,.int .i64 (a1.length:Int)),(17,.int .i64 g1.2.1),(41,.agg (Arr.enc eB g1.2.2)),(42,.int .i64 g2)],[(0,bx a0),(1,⟨false,6,Arr.enc eB (Arr.rep 6 false),[Arr.enc eB g1.2.2]⟩),(2,bx (a1.getD g1.2.1.toNat Amount.zero))],3⟩
def zJ2 (a0:Resource) (a1:List Amount) (g1:Int×Int×(Arr Bool 6)):Option ((Int×Int×(Arr Bool 6))⊕Bool) :=
 (if (decide (g1.2.1 < (a1.length:Int)))=true then
  gd (0≤g1.2.1∧g1.2.1 < (a1.length:Int)) <|
  (if ((!(zc6 a0 (a1.getD g1.2.1.toNat Amount.zero)))||decide (a0.units < i64.wrap (g1.1+(a1.getD g1.2.1.toNat Amount.zero).units)))=true then
   some (.inr false)
  else
   (if (decide ((a1.getD g1.2.1.toNat Amount.zero).mode=0))=true then
    some (.inl ((i64.wrap (g1.1+(a1.getD g1.2.1.toNat Amount.zero).units)),i64.wrap (g1.2.1+1),g1.2.2))
   else
    (zc0 (zD9 a1 g1) 0).bind (fun|.inl z=>zS9 a1 g1 z|.inr z=>some (.inr z))))
 else
  some (.inr true))
@[go_sem] def zdx8 (a0:Resource) (a1:List Amount) (g1:Int×Int×(Arr Bool 6)):St:=⟨[(2,.ptr 0 0 0),(5,.bool true),(6,.ptr 1 0 0),(7,.int .i64 g1.1),(15,la a1),(16,.int .i64 (a1.length:Int)),(17,.int .i64 g1.2.1)],[(0,bx a0),(1,⟨false,6,Arr.enc eB (Arr.rep 6 false),[Arr.enc eB g1.2.2]⟩)],2⟩
def zj6 (a0:Resource) (a1:List Amount):Option Bool :=
 (if (!(zg3 a0))=true then
  some false
 else
  (zc0 (zJ2 a0 a1) (0,0,Arr.rep 6 false)).bind (fun z=>zag0 z))
theorem zbd3 (a0:Resource) (a1:List Amount) (r:Bool) (h:zj6 a0 a1=some r):PFn C 224 [ga a0,la a1] (.bool r):=by
 refine zag9 Tryz.f224 [] fun E hG hN hK=>?_
 unfold zj6 at h
 refine za2 (za9 hG ?_)
 refine zcT7 ?_
 refine za2 (za2 (za9 hG ?_))
 refine zu6 (fun hg=>(zbw2 a0).ok) ?_
 refine zo2 rfl hG h (fun _ h=>?_) (fun _ h=>?_)
 · refine za2 (za9 hG ?_)
   refine zw3 ?_
   exact zW9 h
 refine zn4 ?_
 refine za2 (za9 hG ?_)
 refine za2 (za9 hG ?_)
 refine za2 (za9 hG ?_)
 refine za2 ?_
 refine zdk3 ?_
 refine za2 (za2 (za9 hG ?_))
 refine zP5 zdx5 (fun v=>zag0 v=some r) ?_ ?_
 · intro j1 h
   unfold zag0 at h
   refine g_st ?_
   refine za2 (za9 hG ?_)
   refine zw3 ?_
   exact zW9 h
 refine zao1 (zdx8 a0 a1) hK [(0,0),(1,1)] h (fun x_l1 h g1 y_l1 h_l1 hx_l1=>?_)
 unfold zJ2 at h_l1
 refine g_st ?_
 refine za2 (za9 hG ?_)
 refine za2 ?_
 refine zo2 rfl hG h_l1 (fun _ h_l1=>?_) (fun _ h_l1=>?_)
 · refine zn4 ?_
   refine za2 (zI8 (za2 ?_))
   obtain ⟨hb3,h_l1⟩:=zg5 h_l1
   refine za9 hG ?_
   refine za2 (za2 (za9 hG ?_))
   refine zu6 (fun hg=>(zbj4 a0 (a1.getD g1.2.1.toNat Amount.zero)).ok) ?_
   refine zo2 rfl hG h_l1 (fun _ h_l1=>?_) (fun _ h_l1=>?_)
   · refine za2 (za9 hG ?_)
     refine zR6 ?_
     cases h_l1
     cases hx_l1 _ rfl
     exact zI1 hK [] false (by exact h)
   refine zn4 ?_
   refine za2 (za9 hG ?_)
   refine za2 (za2 (za9 hG ?_))
   refine zo2 rfl hG h_l1 (fun _ h_l1=>?_) (fun _ h_l1=>?_)
   · refine zR6 ?_
     refine za9 hG ?_
     exact zX1 hK [(0,0),(1,1)] h_l1
   refine zn4 ?_
   refine za2 (za2 (za9 hG ?_))
   refine zP5 (zdx6 a0 a1 g1) (fun v=>zS9 a1 g1 v=some y_l1) ?_ ?_
   · intro j2 h_l1
     unfold zS9 at h_l1
     refine g_st ?_
     obtain ⟨hb1,h_l1⟩:=zg5 h_l1
     refine za9 hG ?_
     refine za9 hG ?_
     exact zX1 hK [(0,0),(1,1)] h_l1
   refine zao1 (zdx7 a0 a1 g1) hK [(0,0),(1,1),(2,2)] h_l1 (fun x_l2 h_l1 g2 y_l2 h_l2 hx_l2=>?_)
   unfold zD9 at h_l2
   refine g_st ?_
   refine za2 (za9 hG ?_)
   refine za2 ?_
   refine zo2 rfl hG h_l2 (fun _ h_l2=>?_) (fun _ h_l2=>?_)
   · refine zn4 ?_
     refine za2 (zI8 (za2 ?_))
     obtain ⟨hb2,h_l2⟩:=zg5 h_l2
     refine za9 hG ?_
     refine za2 (za9 hG ?_)
     obtain ⟨v1,hv1,h_l2⟩:=zf1 h_l2
     refine zu6 (fun hg=>(zbn2 g2 ((a1.getD g1.2.1.toNat Amount.zero).mode)).ok _ (zaQ7 hg hv1)) ?_
     refine zo2 rfl hG h_l2 (fun _ h_l2=>?_) (fun _ h_l2=>?_)
     · refine za2 (za9 hG ?_)
       refine zR6 ?_
       obtain rfl:=Option.some.inj h_l2
       have hx:=hx_l2 _ rfl
       subst hx
       try dsimp only at h_l1
       cases h_l1
       cases hx_l1 _ rfl
       exact zI1 hK [] false (by exact h)
     refine zn4 ?_
     refine za9 hG ?_
     exact zX1 hK [(0,0),(1,1),(2,2)] h_l2
   refine zR6 ?_
   obtain rfl:=Option.some.inj h_l2
   have hx:=hx_l2 _ rfl
   subst hx
   try dsimp only at h_l1
   exact zI1 hK [(0,0),(1,1),(2,2)] () (by exact h_l1)
 refine zR6 ?_
 cases h_l1
 cases hx_l1 _ rfl
 exact zI1 hK [] true (by exact h)
instance zcj3 (a0:Resource) (a1:List Amount):OkP (zj6 a0 a1) 224 [ga a0,la a1] (fun r=>.bool r):=⟨zbd3 a0 a1⟩
attribute [local irreducible] zj6
def zp5 (a0:Resource) (a1 a2:Amount):Option Bool :=
 (if ((!(zc6 a0 a1))||(!(zc6 a0 a2)))=true then
  some false
 else
  (if (zl2 a1||zl2 a2)=true then
   some (zl2 a2)
  else
   (if (decide (a0.kind=1))=true then
    (zm7 a1.mode a2.mode).bind fun v1 =>
    some v1
   else
    some (decide (a2.units≤a1.units)))))
instance zcL4 (a0:Resource) (a1 a2:Amount):OkP (zp5 a0 a1 a2) 228 [ga a0,ga a1,ga a2] (fun r=>.bool r):=ok1 (zp5.eq_1 a0 a1 a2) Tryz.f228 []
attribute [local irreducible] zp5
def zay6 (j1:(List Proc)):Option (List Proc) :=
 some j1
def zac7 (v1:(List Wait)) (g1:Int×(List Proc)):Option ((Int×(List Proc))⊕(List Proc)) :=
 (if (decide (g1.1 < (v1.length:Int)))=true then
  gd (0≤g1.1∧g1.1 < (v1.length:Int)) <|
  gd (g1.2.length+1≤4294967296) <|
  some (.inl ((i64.wrap (g1.1+1)),(g1.2++[(v1.getD g1.1.toNat Wait.zero).proc])))
 else
  some (.inr g1.2))
def zs0 (a0:Queue):Option (List Proc) :=
 (zo5 a0).bind fun v1 =>
 (zc0 (zac7 v1) (0,[])).bind (fun z=>zay6 z)
@[reducible,instance] def zdM4 a0 {T1:Type} (v1:T1):=mkJ (zs0 a0,v1) 0 (@zay6.eq_1) fun (j1:(List Proc))=>⟨[(3,.own 0 0 j1.length)],[(0,sx j1)],1⟩
@[reducible,instance] def zdM5 (v1:(List Wait)) {T:Type} (x:T):=mkL x (@zac7.eq_1 v1) fun (g1:Int×(List Proc))=>⟨[(3,.own 0 0 g1.2.length),(7,la v1),(8,.int .i64 (v1.length:Int)),(9,.int .i64 g1.1)],[(0,sx g1.2)],1⟩
instance zcX6 (a0:Queue):OkP (zs0 a0) 146 [ga a0] (fun r=>la r):=ok1 (zs0.eq_1 a0) Tryz.f146 [(3,1)]
attribute [local irreducible] zs0
def zaN5 (j1:Unit):Option (Amount×Bool) :=
 some ({ Amount.zero with  },false)
def zZ1 (a1:Proc) (v1:(List Wait)) (g1:Int):Option (Int⊕(Unit⊕(Amount×Bool))) :=
 (if (decide (g1 < (v1.length:Int)))=true then
  gd (0≤g1∧g1 < (v1.length:Int)) <|
  (if (decide ((v1.getD g1.toNat Wait.zero).proc=a1))=true then
   some (.inr (.inr ((v1.getD g1.toNat Wait.zero).amount,true)))
  else
   some (.inl (i64.wrap (g1+1))))
 else
  some (.inr (.inl ())))
def zq3 (a0:Queue) (a1:Proc):Option (Amount×Bool) :=
 (zo5 a0).bind fun v1 =>
 (zc0 (zZ1 a1 v1) 0).bind (fun|.inl z=>zaN5 z|.inr z=>some z)
@[reducible,instance] def zdM6 a0 a1 {T1:Type} (v1:T1):=mkJ (zq3 a0 a1,v1) 0 (@zaN5.eq_1) fun (j1:Unit)=>⟨[(4,.ptr 0 0 0)],[(0,bx Amount.zero)],1⟩
@[reducible,instance] def zdM7 (a1:Proc) (v1:(List Wait)) {T:Type} (x:T):=mkL x (@zZ1.eq_1 a1 v1) fun (g1:Int)=>⟨[(3,.ptr 0 0 0),(4,.ptr 1 0 0),(9,la v1),(10,.int .i64 (v1.length:Int)),(11,.int .i64 g1)],[(0,bx a1),(1,bx Amount.zero)],2⟩
instance zcR1 (a0:Queue) (a1:Proc):OkP (zq3 a0 a1) 47 [ga a0,ga a1] (fun r=>.tup [ga r.1,.bool r.2]):=ok1 (zq3.eq_1 a0 a1) Tryz.f47 []
attribute [local irreducible] zq3
def zaZ6 (j1:(List Int)):Option (List Int) :=
 some j1
def zah1 (a90:(List Int→Expr→Option (List Int))) (a1:Expr) (g1:(List Int)×Int):Option (((List Int)×Int)⊕(List Int)) :=
 (if (decide (g1.2 < (a1.kids.length:Int)))=true then
  gd (0≤g1.2∧g1.2 < (a1.kids.length:Int)) <|
  (a90 g1.1 (a1.kids.getD g1.2.toNat Expr.zero)).bind fun v5 =>
  some (.inl (v5,i64.wrap (g1.2+1)))
 else
  some (.inr g1.1))
def zaw2 (a90:(List Int→Expr→Option (List Int))) (a0:List Int) (a1:Expr):Option (List Int) :=
 (zq0 a0 a1.k).bind fun v1 =>
 (if (decide (a1.k=0))=true then
  (zk9 v1 a1.atom.name).bind fun v2 =>
  (zp0 v2 a1.atom.amount).bind fun v3 =>
  some v3
 else
  (zq0 v1 (a1.kids.length:Int)).bind fun v4 =>
  (zc0 (zah1 a90 a1) (v4,0)).bind (fun z=>zaZ6 z))
def zaB0:Nat→(List Int→Expr→Option (List Int))
 | 0=>fun _ _=>none
 | n+1=>zaw2 (zaB0 n)
@[reducible,instance] def zdM8 (a90:(List Int→Expr→Option (List Int))) (a0:List Int) (a1:Expr) {T1:Type} (v1:T1) {T2:Type} (v4:T2):=mkJ ((zaw2 a90 a0 a1,v1),v4) 0 (@zaZ6.eq_1) fun (j1:(List Int))=>⟨[(0,.sl (j1.map (eI .u8)))],[],0⟩
@[reducible,instance] def zdM9 (a90:(List Int→Expr→Option (List Int))) (a1:Expr) {T:Type} (x:T):=mkL x (@zah1.eq_1 a90 a1) fun (g1:(List Int)×Int)=>⟨[(0,.sl (g1.1.map (eI .u8))),(3,.ptr 0 0 0),(5,.int .i64 g1.2)],[(0,bx a1)],1⟩
end
end Ab
end Go.Proofs.YtcggeefhhegeoaaGreatDoor
