import Derived.Test.YtenebhlnfjcffaaGreatDoorHm12
import Derived.Test.YtenebhlnfjcffaaGreatDoorHm8
namespace Go.Proofs.YtenebhlnfjcffaaGreatDoor
namespace Ab
open IntKind (i64 u64 u8)
set_option linter.unusedSimpArgs false
set_option linter.defProp false
set_option linter.unusedVariables false
set_option maxRecDepth 100000
set_option maxHeartbeats 1000000
noncomputable section
attribute [local irreducible] zl1 ze7 zb3 za2 zd2 zj6 zb4 za8 zl5 zg4 zi6 zi7 zk5 zh8 ze1 za5 za9 zf7 zj1 zh5 zj7 zf2 ze3 zp5 zk3 zf6 zf0 zd1 zd7 zc3 za6 zi1 zf8 zl9 zf9 f_ref08_holds ze5 zg0 zl0 zf3 zg5 zf1 zb0 za0 zh0 zl2 zk4 ze4 zb5 zd3 ze6 zg8 zn2 zm1 zd8 zg1 zk6 zj5 zh7 zl3 zd0 zh1 zp9 zc8 zi0 zc5 zi4 zo6 za7 ze2 za4 zj0 zc2 za1 zf4 zi5 ze8 zn7 ze0 zg9 zc7 zd9 zb7 zr4 zh6 zj3 zp3 zo0 zb9 zm6 zk9 zi3 zg2 zj4 zi8 zh2 zh4 zm7 zr9
def zW4 (j1:Bool):Option Bool :=
 some j1
@[go_sem] def zcZ2 (j1:Bool):St:=⟨[(5,.bool j1)],[],0⟩
def zM3 (a1:List aA) (g1:Int×Int×(Arr Bool 6)) (j2:Unit):Option ((Int×Int×(Arr Bool 6))⊕Bool) :=
 gd (0≤(a1.getD g1.2.1.toNat aA.zero).mode∧(a1.getD g1.2.1.toNat aA.zero).mode < 6) <|
 some (.inl ((i64.wrap (g1.1+(a1.getD g1.2.1.toNat aA.zero).aP)),i64.wrap (g1.2.1+1),Arr.put g1.2.2 (((a1.getD g1.2.1.toNat aA.zero).mode).toNat) true))
@[go_sem] def zcZ3 (a0:aC) (a1:List aA) (g1:Int×Int×(Arr Bool 6)) (j2:Unit):St:=⟨[(2,.ptr 0 0 0),(5,.bool true),(6,.ptr 1 0 0),(7,.int .i64 (i64.wrap (g1.1+(a1.getD g1.2.1.toNat aA.zero).aP))),(9,.ptr 2 0 0),(15,la a1),(16,.int .i64 (a1.length:Int)),(17,.int .i64 g1.2.1)],[(0,bx a0),(1,⟨false,6,Arr.enc eB (Arr.rep 6 false),[Arr.enc eB g1.2.2]⟩),(2,bx (a1.getD g1.2.1.toNat aA.zero))],3⟩
def zA4 (a1:List aA) (g1:Int×Int×(Arr Bool 6)) (g2:Int):Option (Int⊕(Unit⊕Bool)) :=
 (if (decide (g2 < 6))=true then
  gd (0≤g2∧g2 < 6) <|
  ((if (Arr.get g1.2.2 g2.toNat false)=true then zg1 g2 ((a1.getD g1.2.1.toNat aA.zero).mode) else some false)).bind fun v1 =>
  (if (Arr.get g1.2.2 g2.toNat false&&(!v1))=true then
   some (.inr (.inr false))
  else
   some (.inl (i64.wrap (g2+1))))
 else
  some (.inr (.inl ())))
@[go_sem] def zcZ4 (a0:aC) (a1:List aA) (g1:Int×Int×(Arr Bool 6)) (g2:Int):St:=⟨[(2,.ptr 0 0 0),(5,.bool true),(6,.ptr 1 0 0),(7,.int .i64 (i64.wrap (g1.1+(a1.getD g1.2.1.toNat aA.zero).aP))),(9,.ptr 2 0 0),(15,la a1),(16,.int .i64 (a1.length:Int)),(17,.int .i64 g1.2.1),(41,.agg (Arr.enc eB g1.2.2)),(42,.int .i64 g2)],[(0,bx a0),(1,⟨false,6,Arr.enc eB (Arr.rep 6 false),[Arr.enc eB g1.2.2]⟩),(2,bx (a1.getD g1.2.1.toNat aA.zero))],3⟩
def zE7 (a0:aC) (a1:List aA) (g1:Int×Int×(Arr Bool 6)):Option ((Int×Int×(Arr Bool 6))⊕Bool) :=
 (if (decide (g1.2.1 < (a1.length:Int)))=true then
  gd (0≤g1.2.1∧g1.2.1 < (a1.length:Int)) <|
  (if ((!(zd5 a0 (a1.getD g1.2.1.toNat aA.zero)))||decide (a0.aP < i64.wrap (g1.1+(a1.getD g1.2.1.toNat aA.zero).aP)))=true then
   some (.inr false)
  else
   (if (decide ((a1.getD g1.2.1.toNat aA.zero).mode=0))=true then
    some (.inl ((i64.wrap (g1.1+(a1.getD g1.2.1.toNat aA.zero).aP)),i64.wrap (g1.2.1+1),g1.2.2))
   else
    (zc6 (zA4 a1 g1) 0).bind (fun|.inl z=>zM3 a1 g1 z|.inr z=>some (.inr z))))
 else
  some (.inr true))
@[go_sem] def zcZ5 (a0:aC) (a1:List aA) (g1:Int×Int×(Arr Bool 6)):St:=⟨[(2,.ptr 0 0 0),(5,.bool true),(6,.ptr 1 0 0),(7,.int .i64 g1.1),(15,la a1),(16,.int .i64 (a1.length:Int)),(17,.int .i64 g1.2.1)],[(0,bx a0),(1,⟨false,6,Arr.enc eB (Arr.rep 6 false),[Arr.enc eB g1.2.2]⟩)],2⟩
def zh9 (a0:aC) (a1:List aA):Option Bool :=
 (if (!(zk8 a0))=true then
  some false
 else
  (zc6 (zE7 a0 a1) (0,0,Arr.rep 6 false)).bind (fun z=>zW4 z))
theorem zaM9 (a0:aC) (a1:List aA) (r:Bool) (h:zh9 a0 a1=some r):PFn C 259 [ga a0,la a1] (.bool r):=by
 refine zae3 Tryz.f259 [] fun E hG hN hK=>?_
 unfold zh9 at h
 refine zb2 (zc0 hG ?_)
 refine zcv0 ?_
 refine zb2 (zb2 (zc0 hG ?_))
 refine zA8 (fun hg=>(zbd0 a0).ok) ?_
 refine zs2 rfl hG h (fun _ h=>?_) (fun _ h=>?_)
 · refine zb2 (zc0 hG ?_)
   refine zy1 ?_
   exact zV4 h
 refine zr8 ?_
 refine zb2 (zc0 hG ?_)
 refine zb2 (zc0 hG ?_)
 refine zb2 (zc0 hG ?_)
 refine zb2 ?_
 refine zcM0 ?_
 refine zb2 (zb2 (zc0 hG ?_))
 refine zO1 zcZ2 (fun v=>zW4 v=some r) ?_ ?_
 · intro j1 h
   unfold zW4 at h
   refine g_st ?_
   refine zb2 (zc0 hG ?_)
   refine zy1 ?_
   exact zV4 h
 refine zam9 (zcZ5 a0 a1) hK [(0,0),(1,1)] h (fun x_l1 h g1 y_l1 h_l1 hx_l1=>?_)
 unfold zE7 at h_l1
 refine g_st ?_
 refine zb2 (zc0 hG ?_)
 refine zb2 ?_
 refine zs2 rfl hG h_l1 (fun _ h_l1=>?_) (fun _ h_l1=>?_)
 · refine zr8 ?_
   refine zb2 (zK3 (zb2 ?_))
   obtain ⟨hb3,h_l1⟩:=zm3 h_l1
   refine zc0 hG ?_
   refine zb2 (zb2 (zc0 hG ?_))
   refine zA8 (fun hg=>(zaR7 a0 (a1.getD g1.2.1.toNat aA.zero)).ok) ?_
   refine zs2 rfl hG h_l1 (fun _ h_l1=>?_) (fun _ h_l1=>?_)
   · refine zb2 (zc0 hG ?_)
     refine zO2 ?_
     cases h_l1
     cases hx_l1 _ rfl
     exact zS5 hK [] false (by exact h)
   refine zr8 ?_
   refine zb2 (zc0 hG ?_)
   refine zb2 (zb2 (zc0 hG ?_))
   refine zs2 rfl hG h_l1 (fun _ h_l1=>?_) (fun _ h_l1=>?_)
   · refine zO2 ?_
     refine zc0 hG ?_
     exact zX8 hK [(0,0),(1,1)] h_l1
   refine zr8 ?_
   refine zb2 (zb2 (zc0 hG ?_))
   refine zO1 (zcZ3 a0 a1 g1) (fun v=>zM3 a1 g1 v=some y_l1) ?_ ?_
   · intro j2 h_l1
     unfold zM3 at h_l1
     refine g_st ?_
     obtain ⟨hb1,h_l1⟩:=zm3 h_l1
     refine zc0 hG ?_
     refine zc0 hG ?_
     exact zX8 hK [(0,0),(1,1)] h_l1
   refine zam9 (zcZ4 a0 a1 g1) hK [(0,0),(1,1),(2,2)] h_l1 (fun x_l2 h_l1 g2 y_l2 h_l2 hx_l2=>?_)
   unfold zA4 at h_l2
   refine g_st ?_
   refine zb2 (zc0 hG ?_)
   refine zb2 ?_
   refine zs2 rfl hG h_l2 (fun _ h_l2=>?_) (fun _ h_l2=>?_)
   · refine zr8 ?_
     refine zb2 (zK3 (zb2 ?_))
     obtain ⟨hb2,h_l2⟩:=zm3 h_l2
     refine zc0 hG ?_
     refine zb2 (zc0 hG ?_)
     obtain ⟨v1,hv1,h_l2⟩:=zn1 h_l2
     refine zA8 (fun hg=>(zaV6 g2 ((a1.getD g1.2.1.toNat aA.zero).mode)).ok _ (zaD1 hg hv1)) ?_
     refine zs2 rfl hG h_l2 (fun _ h_l2=>?_) (fun _ h_l2=>?_)
     · refine zb2 (zc0 hG ?_)
       refine zO2 ?_
       obtain rfl:=dG h_l2
       have hx:=hx_l2 _ rfl
       subst hx
       try dsimp only at h_l1
       cases h_l1
       cases hx_l1 _ rfl
       exact zS5 hK [] false (by exact h)
     refine zr8 ?_
     refine zc0 hG ?_
     exact zX8 hK [(0,0),(1,1),(2,2)] h_l2
   refine zO2 ?_
   obtain rfl:=dG h_l2
   have hx:=hx_l2 _ rfl
   subst hx
   try dsimp only at h_l1
   exact zS5 hK [(0,0),(1,1),(2,2)] () (by exact h_l1)
 refine zO2 ?_
 cases h_l1
 cases hx_l1 _ rfl
 exact zS5 hK [] true (by exact h)
instance zbM6 (a0:aC) (a1:List aA):OkP (zh9 a0 a1) 259 [ga a0,la a1] (fun r=>.bool r):=⟨zaM9 a0 a1⟩
attribute [local irreducible] zh9
def zm8 (a0:aC) (a1 a2:aA):Option Bool :=
 (if ((!(zd5 a0 a1))||(!(zd5 a0 a2)))=true then
  some false
 else
  (if (zk2 a1||zk2 a2)=true then
   some (zk2 a2)
  else
   (if (decide (a0.kind=1))=true then
    (zj5 a1.mode a2.mode).bind fun v1 =>
    some v1
   else
    some (decide (a2.aP≤a1.aP)))))
instance zcm6 (a0:aC) (a1 a2:aA):OkP (zm8 a0 a1 a2) 232 [ga a0,ga a1,ga a2] (fun r=>.bool r):=ok1 (zm8.eq_1 a0 a1 a2) Tryz.f232 []
attribute [local irreducible] zm8
def zaJ3 (j1:Unit):Option Bool :=
 some true
def zL0 (a0:List aR) (g1:Int):Option (Int⊕(Unit⊕Bool)) :=
 (if (decide (g1 < (a0.length:Int)))=true then
  gd (0≤g1∧g1 < (a0.length:Int)) <|
  ((if (zs7 (a0.getD g1.toNat aR.zero))=true then zl0 a0 ((a0.getD g1.toNat aR.zero).aN) else some 0)).bind fun v1 =>
  (if ((!(zs7 (a0.getD g1.toNat aR.zero)))||(!decide (v1=g1)))=true then
   some (.inr (.inr false))
  else
   some (.inl (i64.wrap (g1+1))))
 else
  some (.inr (.inl ())))
def zq8 (a0:List aR):Option Bool :=
 (if (decide (8 < (a0.length:Int)))=true then
  some false
 else
  (zc6 (zL0 a0) 0).bind (fun|.inl z=>zaJ3 z|.inr z=>some z))
@[reducible,instance] def zdC1 a0:=mkJ (zq8 a0) 0 (@zaJ3.eq_1) fun (j1:Unit)=>⟨[],[],0⟩
@[reducible,instance] def zdC2 (a0:List aR) {T:Type} (x:T):=mkL x (@zL0.eq_1 a0) fun (g1:Int)=>⟨[(0,la a0),(8,la a0),(9,.int .i64 (a0.length:Int)),(10,.int .i64 g1)],[],0⟩
instance zcI6 (a0:List aR):OkP (zq8 a0) 262 [la a0] (fun r=>.bool r):=ok1 (zq8.eq_1 a0) Tryz.f262 []
attribute [local irreducible] zq8
def zv8 (j1:Unit):Option Bool :=
 some true
def zv9 (a0 a1:List bK) (g1:Int):Option (Int⊕(Unit⊕Bool)) :=
 (if (decide (g1 < (a0.length:Int)))=true then
  gd (0≤g1∧g1 < (a0.length:Int)) <|
  gd (0≤g1∧g1 < (a1.length:Int)) <|
  (zh2 (a0.getD g1.toNat bK.zero) (a1.getD g1.toNat bK.zero)).bind fun v1 =>
  (if (!v1)=true then
   some (.inr (.inr false))
  else
   some (.inl (i64.wrap (g1+1))))
 else
  some (.inr (.inl ())))
def za3 (a0 a1:List bK):Option Bool :=
 (if (!decide ((a0.length:Int)=(a1.length:Int)))=true then
  some false
 else
  (zc6 (zv9 a0 a1) 0).bind (fun|.inl z=>zv8 z|.inr z=>some z))
@[reducible,instance] def zdn7 a0 a1:=mkJ (za3 a0 a1) 0 (@zv8.eq_1) fun (j1:Unit)=>⟨[],[],0⟩
@[reducible,instance] def zdn8 (a0 a1:List bK) {T:Type} (x:T):=mkL x (@zv9.eq_1 a0 a1) fun (g1:Int)=>⟨[(1,la a1),(2,.clo 56 []),(15,la a0),(16,.int .i64 (a0.length:Int)),(17,.int .i64 g1)],[],0⟩
instance zH2 (a0 a1:List bK):OkM (za3 a0 a1) 55 [la a0,la a1,.clo 56 []] [] 0 (fun r=>.bool r) (fun r=>[]) 0:=okm (za3.eq_1 a0 a1) (fun r=>[.bool r]) Tryz.f55 []
attribute [local irreducible] za3
@[go_sem] theorem zdn9 (s:List Nat) (P:A→Prop):(∀ x ∈ s.map iE,∀ a ∈ x,P a)=(∀ i ∈ s,P (.int .i64 (i:Nat))):=propext ⟨fun h i hi=>h _ (cV.2 ⟨i,hi,rfl⟩) _ (.head _),fun h x hx a ha=>by
 obtain ⟨i,hi,rfl⟩:=cV.1 hx
 obtain rfl:a=.int .i64 (i:Nat):=by simpa [iE] using ha
 exact h i hi⟩
def zJ3 (j1:(List aD)):Option (List aD) :=
 (zb7 j1).bind fun v2 =>
 some v2
@[go_sem] def zcT4  (j1:(List aD)):St:=⟨[(3,.own 0 0 j1.length)],[(0,sx j1)],1⟩
def zJ4 (e0:ByteArray×aA) (g1:(List aD)):Option ((List aD)⊕(List aD)) :=
 (if (!decide (e0.2={ aA.zero with  }))=true then
  gd (g1.length+1≤4294967296) <|
  some (.inl (g1++[(⟨e0.1,e0.2⟩:aD)]))
 else
  some (.inl g1))
@[go_sem] def zcT5 (v1:(List (ByteArray×aA))) (s0:List Nat) (g1:(List aD)):St:=⟨[(3,.own 0 0 g1.length),(9,.it 1)],[(0,sx g1),(1,⟨false,0,[],[.mp 2,.int .i64 (v1.length:Int)] :: s0.map iE⟩),(2,⟨false,0,[A.str ⟨#[]⟩,A.bool true],v1.map (mS aA.enc)⟩)],3⟩
def zj8 (a0:bC):Option (List aD) :=
 (zf6 a0.aJ).bind fun v1 =>
 rngO v1 (⟨#[]⟩,aA.zero) zJ4 (fun g1:(List aD)=>g1) [] (fun z=>zJ3 z)
theorem zaV9 (a0:bC) (r:(List aD)) (h:zj8 a0=some r):PFn C 108 [ga a0] (la r):=by
 refine zae3 Tryz.f108 [(3,1),(10,220),(12,220)] fun E hG hN hK=>?_
 unfold zj8 at h
 refine zb2 (zc0 hG ?_)
 refine zb2 (zc0 hG ?_)
 refine zb2 (zb2 (zc0 hG ?_))
 obtain ⟨v1,hv1,h⟩:=zn1 h
 refine zB2 [] [(0,2)] [0] ((zaZ7 a0.aJ).ok _ hv1) rfl rfl ?_
 refine zO1 zcT4 (fun v=>zJ3 v=some r) ?_ ?_
 · intro j1 h
   unfold zJ3 at h
   refine g_st ?_
   refine zb2 (zc0 hG ?_)
   obtain ⟨v2,hv2,h⟩:=zn1 h
   have hl_v2:=zZ4 j1 _ hv2
   refine zB2 [(0,0)] [] [0] (zZ5 _ _ hv2) rfl rfl ?_
   refine zb2 (zc0 hG ?_)
   refine zy1 ?_
   exact zV4 h
 refine zcY8 (zcT5 v1) hK [(0,1),(1,3),(2,2)] h (fun s0 g1 hP_l1=>?_)
 refine g_st ?_
 refine zb2 (zc0 hG ?_)
 refine ⟨fun ix0 hi0 hns0=>?_,fun hall0=>?_⟩
 · obtain ⟨y_l1,h_l1,hP1_l1,hx_l1⟩:=zcw9 hP_l1 hi0 hns0
   unfold zJ4 at h_l1
   try refine g_st ?_
   refine zb2 ?_
   refine zaG2 rfl hG ?_
   refine zr8 ?_
   refine zK3 (zb2 (zc0 hG ?_))
   refine zb2 (zc0 hG ?_)
   refine zs2 rfl hG h_l1 (fun _ h_l1=>?_) (fun _ h_l1=>?_)
   · obtain ⟨hb1,h_l1⟩:=zm3 h_l1
     refine zc0 hG ?_
     exact zcg5 hK [(0,4),(1,1),(2,2)] h_l1 hP1_l1
   refine zr8 ?_
   exact zcg5 hK [(0,0),(1,1),(2,2)] h_l1 hP1_l1
 try refine g_st ?_
 refine zb2 ?_
 refine zbm6 rfl hG ?_
 refine zO2 ?_
 have h:=zcL9 hP_l1 hall0
 try dsimp only at h
 exact zS5 hK [(0,0)] g1 (by exact h)
instance zbW6 (a0:bC):OkP (zj8 a0) 108 [ga a0] (fun r=>la r):=⟨zaV9 a0⟩
attribute [local irreducible] zj8
def zaw6 (j1:Unit):Option Bool :=
 some true
def zW5 (a0:List aC) (g1:Int):Option (Int⊕(Unit⊕Bool)) :=
 (if (decide (g1 < (a0.length:Int)))=true then
  gd (0≤g1∧g1 < (a0.length:Int)) <|
  (ze0 (a0.getD g1.toNat aC.zero)).bind fun v1 =>
  gd ((v1&&decide (0 < g1))=true→0≤i64.wrap (g1 - 1)∧i64.wrap (g1 - 1) < (a0.length:Int)) <|
  (if ((!v1)||(decide (0 < g1)&&(!Op.bytesLess ((a0.getD ((i64.wrap (g1 - 1)).toNat) aC.zero).name).toList ((a0.getD g1.toNat aC.zero).name).toList)))=true then
   some (.inr (.inr false))
  else
   some (.inl (i64.wrap (g1+1))))
 else
  some (.inr (.inl ())))
def zn9 (a0:List aC):Option Bool :=
 (if (decide (8 < (a0.length:Int)))=true then
  some false
 else
  (zc6 (zW5 a0) 0).bind (fun|.inl z=>zaw6 z|.inr z=>some z))
@[reducible,instance] def zdo0 a0:=mkJ (zn9 a0) 0 (@zaw6.eq_1) fun (j1:Unit)=>⟨[],[],0⟩
@[reducible,instance] def zdo1 (a0:List aC) {T:Type} (x:T):=mkL x (@zW5.eq_1 a0) fun (g1:Int)=>⟨[(0,la a0),(8,la a0),(9,.int .i64 (a0.length:Int)),(10,.int .i64 g1)],[],0⟩
instance zcm7 (a0:List aC):OkP (zn9 a0) 278 [la a0] (fun r=>.bool r):=ok1 (zn9.eq_1 a0) Tryz.f278 []
attribute [local irreducible] zn9
def zg6 (a0:aC):Option Bool :=
 (zg2 a0.name).bind fun v1 =>
 some (((v1&&zE6 a0)&&decide (0≤a0.home))&&decide (a0.home < 4))
instance zbJ1 (a0:aC):OkP (zg6 a0) 192 [ga a0] (fun r=>.bool r):=ok1 (zg6.eq_1 a0) Tryz.f192 []
attribute [local irreducible] zg6
def zq4 (a0:aF):Option (List aH) :=
 (zg4 a0.bA).bind fun v1 =>
 (zi6 a0).bind fun v2 =>
 gd (v1.length+v2.length≤4294967296) <|
 (zh6 (v1++v2)).bind fun v3 =>
 some v3
instance zcz6 (a0:aF):OkP (zq4 a0) 115 [ga a0] (fun r=>la r):=ok1 (zq4.eq_1 a0) Tryz.f115 []
attribute [local irreducible] zq4
def zac6 (a1:aH) (a2:aA) (j1:Int×(List aT)):Option (List aT) :=
 (if (zk2 a2)=true then
  some j1.2
 else
  (if (decide (j1.1 < 0))=true then
   gd (j1.2.length+1≤4294967296) <|
   gd (0≤i64.wrap (((j1.2.length:Nat):Int)+1)∧i64.wrap (((j1.2.length:Nat):Int)+1)≤((j1.2.length+1:Nat):Int)∧((j1.2.length+1:Nat):Int)≤((j1.2.length+1:Nat):Int)) <|
   gd (0≤((j1.2.length:Nat):Int)∧((j1.2.length:Nat):Int)≤((j1.2.length+1:Nat):Int)∧((j1.2.length+1:Nat):Int)≤((j1.2.length+1:Nat):Int)) <|
   gd (0≤((j1.2.length:Nat):Int)∧((j1.2.length:Nat):Int) < ((j1.2.length+1:Nat):Int)) <|
   some (((j1.2++[{ aT.zero with  }]).take (i64.wrap (((j1.2.length:Nat):Int)+1)).toNat++(((j1.2++[{ aT.zero with  }]).drop (((j1.2.length:Nat):Int).toNat)).take (j1.2.length+1 - ((j1.2.length:Nat):Int).toNat)).take (j1.2.length+1 - (i64.wrap (((j1.2.length:Nat):Int)+1)).toNat)++(j1.2++[{ aT.zero with  }]).drop ((i64.wrap (((j1.2.length:Nat):Int)+1)).toNat+min (((j1.2++[{ aT.zero with  }]).drop (((j1.2.length:Nat):Int).toNat)).take (j1.2.length+1 - ((j1.2.length:Nat):Int).toNat)).length (j1.2.length+1 - (i64.wrap (((j1.2.length:Nat):Int)+1)).toNat))).set (((j1.2.length:Nat):Int).toNat) (⟨a1,a2⟩:aT))
  else
   gd (j1.2.length+1≤4294967296) <|
   gd (0≤i64.wrap (j1.1+1)∧i64.wrap (j1.1+1)≤((j1.2.length+1:Nat):Int)∧((j1.2.length+1:Nat):Int)≤((j1.2.length+1:Nat):Int)) <|
   gd (0≤j1.1∧j1.1≤((j1.2.length+1:Nat):Int)∧((j1.2.length+1:Nat):Int)≤((j1.2.length+1:Nat):Int)) <|
   gd (0≤j1.1∧j1.1 < ((j1.2.length+1:Nat):Int)) <|
   some (((j1.2++[{ aT.zero with  }]).take (i64.wrap (j1.1+1)).toNat++(((j1.2++[{ aT.zero with  }]).drop j1.1.toNat).take (j1.2.length+1 - j1.1.toNat)).take (j1.2.length+1 - (i64.wrap (j1.1+1)).toNat)++(j1.2++[{ aT.zero with  }]).drop ((i64.wrap (j1.1+1)).toNat+min (((j1.2++[{ aT.zero with  }]).drop j1.1.toNat).take (j1.2.length+1 - j1.1.toNat)).length (j1.2.length+1 - (i64.wrap (j1.1+1)).toNat))).set j1.1.toNat (⟨a1,a2⟩:aT))))
@[go_sem] def zcZ6 (a1:aH) (a2:aA) (j1:Int×(List aT)):St:=⟨[(4,.ptr 0 0 0),(5,.ptr 1 0 0),(7,.own 2 0 j1.2.length),(8,.int .i64 j1.1)],[(0,bx a1),(1,bx a2),(2,sx j1.2)],3⟩
def zN4 (a0:List aT) (a1:aH) (g1:Int×Int×(List aT)):Option ((Int×Int×(List aT))⊕(Int×(List aT))) :=
 (if (decide (g1.2.1 < (a0.length:Int)))=true then
  gd (0≤g1.2.1∧g1.2.1 < (a0.length:Int)) <|
  (if (decide ((a0.getD g1.2.1.toNat aT.zero).aN=a1))=true then
   some (.inl (g1.1,i64.wrap (g1.2.1+1),g1.2.2))
  else
   ((if (decide (g1.1 < 0))=true then zc8 ((a0.getD g1.2.1.toNat aT.zero).aN) a1 else some 0)).bind fun v1 =>
   (if (decide (g1.1 < 0)&&decide (0 < v1))=true then
    gd (g1.2.2.length+1≤4294967296) <|
    some (.inl (((g1.2.2.length:Nat):Int),i64.wrap (g1.2.1+1),(g1.2.2++[(a0.getD g1.2.1.toNat aT.zero)])))
   else
    gd (g1.2.2.length+1≤4294967296) <|
    some (.inl (g1.1,i64.wrap (g1.2.1+1),(g1.2.2++[(a0.getD g1.2.1.toNat aT.zero)])))))
 else
  some (.inr (g1.1,g1.2.2)))
@[go_sem] def zcZ7 (a0:List aT) (a1:aH) (a2:aA) (g1:Int×Int×(List aT)):St:=⟨[(4,.ptr 0 0 0),(5,.ptr 1 0 0),(7,.own 2 0 g1.2.2.length),(8,.int .i64 g1.1),(15,la a0),(16,.int .i64 (a0.length:Int)),(17,.int .i64 g1.2.1)],[(0,bx a1),(1,bx a2),(2,sx g1.2.2)],3⟩
def zo4 (a0:List aT) (a1:aH) (a2:aA):Option (List aT) :=
 gd (0≤0∧0≤i64.wrap ((a0.length:Int)+1)∧i64.wrap ((a0.length:Int)+1)≤4294967296) <|
 (zc6 (zN4 a0 a1) ((-1),0,List.replicate 0 aT.zero)).bind (fun z=>zac6 a1 a2 z)
theorem zbs4 (a0:List aT) (a1:aH) (a2:aA) (r:(List aT)) (h:zo4 a0 a1 a2=some r):PFn C 208 [la a0,ga a1,ga a2] (la r):=by
 refine zae3 Tryz.f208 [] fun E hG hN hK=>?_
 unfold zo4 at h
 refine zb2 (zc0 hG ?_)
 refine zb2 ?_
 obtain ⟨hb12,h⟩:=zm3 h
 refine zc0 hG ?_
 refine zb2 (zc0 hG ?_)
 refine zb2 (zb2 (zc0 hG ?_))
 refine zO1 (zcZ6 a1 a2) (fun v=>zac6 a1 a2 v=some r) ?_ ?_
 · intro j1 h
   unfold zac6 at h
   refine g_st ?_
   refine zb2 (zb2 (zc0 hG ?_))
   refine zA8 (fun hg=>(zbr8 a2).ok) ?_
   refine zs2 rfl hG h (fun _ h=>?_) (fun _ h=>?_)
   · refine zb2 (zc0 hG ?_)
     refine zy1 ?_
     exact zV4 h
   refine zr8 ?_
   refine zb2 (zb2 (zc0 hG ?_))
   refine zs2 rfl hG h (fun _ h=>?_) (fun _ h=>?_)
   · refine zc0 hG ?_
     refine zb2 ?_
     obtain ⟨hb4,h⟩:=zm3 h
     refine zc0 hG ?_
     refine zb2 ?_
     obtain ⟨hb2,h⟩:=zm3 h
     obtain ⟨hb3,h⟩:=zm3 h
     refine zbI4 zab9 hG ?_
     refine zb2 ?_
     obtain ⟨hb1,h⟩:=zm3 h
     refine zc0 hG ?_
     refine zb2 (zc0 hG ?_)
     refine zy1 ?_
     exact zV4 h
   refine zr8 ?_
   refine zb2 ?_
   obtain ⟨hb8,h⟩:=zm3 h
   refine zc0 hG ?_
   refine zb2 ?_
   obtain ⟨hb6,h⟩:=zm3 h
   obtain ⟨hb7,h⟩:=zm3 h
   refine zbI4 zab9 hG ?_
   refine zb2 ?_
   obtain ⟨hb5,h⟩:=zm3 h
   refine zc0 hG ?_
   refine zb2 (zc0 hG ?_)
   refine zy1 ?_
   exact zV4 h
 refine zam9 (zcZ7 a0 a1 a2) hK [(0,0),(1,1),(2,2)] h (fun x_l1 h g1 y_l1 h_l1 hx_l1=>?_)
 unfold zN4 at h_l1
 refine g_st ?_
 refine zb2 (zc0 hG ?_)
 refine zb2 ?_
 refine zs2 rfl hG h_l1 (fun _ h_l1=>?_) (fun _ h_l1=>?_)
 · refine zr8 ?_
   refine zb2 (zK3 (zb2 ?_))
   obtain ⟨hb11,h_l1⟩:=zm3 h_l1
   refine zc0 hG ?_
   refine zb2 (zb2 (zc0 hG ?_))
   refine zs2 rfl hG h_l1 (fun _ h_l1=>?_) (fun _ h_l1=>?_)
   · refine zO2 ?_
     refine zc0 hG ?_
     exact zX8 hK [(0,0),(1,1),(2,2)] h_l1
   refine zr8 ?_
   refine zb2 (zb2 (zc0 hG ?_))
   obtain ⟨v1,hv1,h_l1⟩:=zn1 h_l1
   refine zA8 (fun hg=>(zaq9 ((a0.getD g1.2.1.toNat aT.zero).aN) a1).ok _ (zaD1 hg hv1)) ?_
   refine zs2 rfl hG h_l1 (fun _ h_l1=>?_) (fun _ h_l1=>?_)
   · refine zc0 hG ?_
     obtain ⟨hb9,h_l1⟩:=zm3 h_l1
     refine zc0 hG ?_
     refine zc0 hG ?_
     exact zX8 hK [(0,0),(1,1),(2,4)] h_l1
   refine zr8 ?_
   obtain ⟨hb10,h_l1⟩:=zm3 h_l1
   refine zc0 hG ?_
   refine zc0 hG ?_
   exact zX8 hK [(0,0),(1,1),(2,4)] h_l1
 refine zO2 ?_
 cases h_l1
 cases hx_l1 _ rfl
 exact zS5 hK [(0,0),(1,1),(2,2)] (g1.1,g1.2.2) (by exact h)
instance zcs5 (a0:List aT) (a1:aH) (a2:aA):OkP (zo4 a0 a1 a2) 208 [la a0,ga a1,ga a2] (fun r=>la r):=⟨zbs4 a0 a1 a2⟩
attribute [local irreducible] zo4
def zaJ4 (j1:Int×(Arr Int 3)):Option (aH×Int×Int) :=
 (if (!(zc9 (⟨(Arr.get j1.2 0 0),Arr.get j1.2 1 0,Arr.get j1.2 2 0⟩:aH)))=true then
  some ({ aH.zero with  },0,2)
 else
  some ((⟨(Arr.get j1.2 0 0),Arr.get j1.2 1 0,Arr.get j1.2 2 0⟩:aH),j1.1,0))
def zaJ5 (a0:List Int) (g1:Int×Int×(Arr Int 3)):Option ((Int×Int×(Arr Int 3))⊕((Int×(Arr Int 3))⊕(aH×Int×Int))) :=
 (if (decide (g1.2.1 < 3))=true then
  gd (0≤g1.1∧g1.1≤(a0.length:Int)∧(a0.length:Int)≤(a0.length:Int)) <|
  (zk3 (a0.drop g1.1.toNat)).bind fun v1 =>
  (if (!decide (v1.2.2=0))=true then
   some (.inr (.inr ({ aH.zero with  },0,v1.2.2)))
  else
   gd (0≤g1.2.1∧g1.2.1 < 3) <|
   some (.inl ((i64.wrap (g1.1+v1.2.1)),i64.wrap (g1.2.1+1),Arr.put g1.2.2 g1.2.1.toNat (i64.wrap (if 1073741824 < v1.1 then 1073741824 else v1.1)))))
 else
  some (.inr (.inl (g1.1,g1.2.2))))
def zq9 (a0:List Int):Option (aH×Int×Int) :=
 (zc6 (zaJ5 a0) (0,0,Arr.rep 3 0)).bind (fun|.inl z=>zaJ4 z|.inr z=>some z)
@[reducible,instance] def zdo2 a0:=mkJ (zq9 a0) 0 (@zaJ4.eq_1) fun (j1:Int×(Arr Int 3))=>⟨[(2,.ptr 0 0 0),(5,.ptr 1 0 0),(6,.int .i64 j1.1)],[(0,bx aH.zero),(1,⟨false,3,Arr.enc (eI .i64) (Arr.rep 3 0),[Arr.enc (eI .i64) j1.2]⟩)],2⟩
@[reducible,instance] def zdo3 (a0:List Int) {T:Type} (x:T):=mkL x (@zaJ5.eq_1 a0) fun (g1:Int×Int×(Arr Int 3))=>⟨[(0,.sl (a0.map (eI .u8))),(2,.ptr 0 0 0),(5,.ptr 1 0 0),(6,.int .i64 g1.1),(12,.int .i64 g1.2.1)],[(0,bx aH.zero),(1,⟨false,3,Arr.enc (eI .i64) (Arr.rep 3 0),[Arr.enc (eI .i64) g1.2.2]⟩)],2⟩
instance zcI7 (a0:List Int):OkP (zq9 a0) 98 [.sl (a0.map (eI .u8))] (fun r=>.tup [ga r.1,.int .i64 r.2.1,.int .i64 r.2.2]):=ok1 (zq9.eq_1 a0) Tryz.f98 []
attribute [local irreducible] zq9
def zg7 (a0:bK) (a1:aH):Option (Bool×aH) :=
 (zc8 a0.aN a1).bind fun v1 =>
 some ((decide (v1=0)),a1)
instance zbE2 (a0:bK) (a1:aH):OkM (zg7 a0 a1) 84 [ga a0,.ptr 0 0 0] [(0,bx a1)] 1 (fun r=>.bool r.1) (fun r=>[(0,bx r.2)]) 1:=okm (zg7.eq_1 a0 a1) (fun r=>[.bool r.1]) Tryz.f84 []
attribute [local irreducible] zg7
def zag9 (j1:(List aD)):Option (List aD) :=
 some j1
def zT2 (a90:(aG→List aD→Option (List aD))) (a0:aG) (g1:Int×(List aD)):Option ((Int×(List aD))⊕(List aD)) :=
 (if (decide (g1.1 < (a0.aV.length:Int)))=true then
  gd (0≤g1.1∧g1.1 < (a0.aV.length:Int)) <|
  (a90 (a0.aV.getD g1.1.toNat aG.zero) g1.2).bind fun v2 =>
  some (.inl ((i64.wrap (g1.1+1)),v2))
 else
  some (.inr g1.2))
def zA5 (a90:(aG→List aD→Option (List aD))) (a0:aG) (a1:List aD):Option (List aD) :=
 (if (decide ((a0.aV.length:Int)=0))=true then
  (za7 a1 a0.aZ).bind fun v1 =>
  (if v1=true then
   some a1
  else
   gd (a1.length+1≤4294967296) <|
   some (a1++[a0.aZ]))
 else
  (zc6 (zT2 a90 a0) (0,a1)).bind (fun z=>zag9 z))
def zB8:Nat→(aG→List aD→Option (List aD))
 | 0=>fun _ _=>none
 | n+1=>zA5 (zB8 n)
def zh3 (a0:aG) (a1:List aD):Option (List aD):=zB8 (_root_.SizeOf.sizeOf a0+1) a0 a1
@[reducible,instance] def zdo4 (a90:(aG→List aD→Option (List aD))) (a0:aG) (a1:List aD):=mkJ (zA5 a90 a0 a1) 0 (@zag9.eq_1) fun (j1:(List aD))=>⟨[(0,.own 1 0 j1.length)],[(1,sx j1)],2⟩
@[reducible,instance] def zdo5 (a90:(aG→List aD→Option (List aD))) (a0:aG) {T:Type} (x:T):=mkL x (@zT2.eq_1 a90 a0) fun (g1:Int×(List aD))=>⟨[(0,.own 1 0 g1.2.length),(22,la a0.aV),(23,.int .i64 (a0.aV.length:Int)),(24,.int .i64 g1.1)],[(1,sx g1.2)],2⟩
abbrev zQ1 (g:(aG→List aD→Option (List aD))):Prop:=∀ (a0:aG) (a1:List aD),OkM (g a0 a1) 85 [.own 0 0 a1.length,.agg (aG.enc a0)] [(0,⟨false,3,aD.enc aD.zero,a1.map aD.enc⟩)] 1 (fun r=>.own 1 0 r.length) (fun r=>[(1,⟨false,3,aD.enc aD.zero,r.map aD.enc⟩)]) 2
theorem zaG7 (a90:(aG→List aD→Option (List aD))) (hrc:zQ1 a90):zQ1 (zA5 a90):=fun a0 a1=>okm (zA5.eq_1 a90 a0 a1) (fun r=>[.own 1 0 r.length]) Tryz.f85 [(4,1)]
theorem zaG8:∀ n,zQ1 (zB8 n):=zav6 (fun _ _=>⟨fun _ h=>nomatch h⟩) fun n=>zaG7 _
instance zbJ2:zQ1 zh3:=fun a0 a1=>zaG8 _ a0 a1
attribute [local irreducible] zh3
def zf5 (a0 a1:aF):Option Bool :=
 ((if (decide (a0.aB=a1.aB))=true then zb4 a0.bA a1.bA else some false)).bind fun v1 =>
 ((if (decide (a0.aB=a1.aB)&&v1)=true then zb0 a0.aL a1.aL else some false)).bind fun v2 =>
 ((if ((decide (a0.aB=a1.aB)&&v1)&&v2)=true then za1 a0.aS a1.aS else some false)).bind fun v3 =>
 some (((decide (a0.aB=a1.aB)&&v1)&&v2)&&v3)
instance zbE3 (a0 a1:aF):OkP (zf5 a0 a1) 99 [ga a0,ga a1] (fun r=>.bool r):=⟨fun r h=>by
 refine zae3 Tryz.f99 [] fun E hG hN hK=>?_
 have hm:Mk (zf5 a0 a1):=trivial
 unfold zf5 at h
 refine zb2 (zc0 hG ?_)
 refine zb2 (zc0 hG ?_)
 obtain ⟨v1,hv1,h⟩:=zn1 h
 have hm:=mkP hm v1
 refine zA8 (fun hg=>(zai0 a0.bA a1.bA).ok _ (zaD1 hg hv1)) ?_
 obtain ⟨v2,hv2,h⟩:=zn1 h
 have hm:=mkP hm v2
 refine zA8 (fun hg=>(zai3 a0.aL a1.aL).ok _ (zaD1 hg hv2)) ?_
 obtain ⟨v3,hv3,h⟩:=zn1 h
 have hm:=mkP hm v3
 refine zbr7 [] [] hv3 (fun hc=>(zH0 a0.aS a1.aS).ok _ hc) rfl ?_
 exact gogo⟩
attribute [local irreducible] zf5
def zm9 (a0:List aC) (a1:ByteArray):Option (Int×Bool) :=
 (zh7 (a0.length:Int) a0 a1).bind fun v1 =>
 gd (decide (v1.1 < (v1.2.1.length:Int))=true→0≤v1.1∧v1.1 < (v1.2.1.length:Int)) <|
 some (v1.1,(decide (v1.1 < (v1.2.1.length:Int))&&(((v1.2.1.getD v1.1.toNat aC.zero).name).toList == v1.2.2.toList)))
instance zcm8 (a0:List aC) (a1:ByteArray):OkP (zm9 a0 a1) 279 [la a0,.str a1] (fun r=>.tup [.int .i64 r.1,.bool r.2]):=ok1 (zm9.eq_1 a0 a1) Tryz.f279 []
attribute [local irreducible] zm9
def zaT1 (j1:Unit):Option Int :=
 some 0
def zX6 (a0 a1 g1:Int):Option (Int⊕(Unit⊕Int)) :=
 (if (decide (g1≤5))=true then
  (zj5 g1 a0).bind fun v1 =>
  ((if v1=true then zj5 g1 a1 else some false)).bind fun v2 =>
  (if (v1&&v2)=true then
   some (.inr (.inr g1))
  else
   some (.inl (i64.wrap (g1+1))))
 else
  some (.inr (.inl ())))
def zt4 (a0 a1:Int):Option Int :=
 (zc6 (zX6 a0 a1) 1).bind (fun|.inl z=>zaT1 z|.inr z=>some z)
@[reducible,instance] def zdo6 a0 a1:=mkJ (zt4 a0 a1) 0 (@zaT1.eq_1) fun (j1:Unit)=>⟨[],[],0⟩
@[reducible,instance] def zdo7 (a0 a1:Int) {T:Type} (x:T):=mkL x (@zX6.eq_1 a0 a1) fun (g1:Int)=>⟨[(0,.int .i64 a0),(1,.int .i64 a1),(5,.int .i64 g1)],[],0⟩
instance zcP3 (a0 a1:Int):OkP (zt4 a0 a1) 284 [.int .i64 a0,.int .i64 a1] (fun r=>.int .i64 r):=ok1 (zt4.eq_1 a0 a1) Tryz.f284 []
attribute [local irreducible] zt4
def zB3 (a0:aR):Bool :=
 (((((zq7 a0.aN&&zq0 a0.aI)&&decide (0≤a0.aW))&&decide (a0.aW≤7))&&decide (0≤a0.bO))&&decide (a0.bO≤3))
instance zca3 (a0:aR):OkT 308 [.agg (aR.enc a0)] (.bool (zB3 a0)):=ok2 (fun r=>.bool r) (zB3.eq_1 a0) Tryz.f308 []
end
end Ab
end Go.Proofs.YtenebhlnfjcffaaGreatDoor
