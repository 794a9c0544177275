import Derived.Test.YtcggeefhhegeoaaGreatDoorHm17
import Derived.Test.YtcggeefhhegeoaaGreatDoorHm18
import Derived.Test.YtcggeefhhegeoaaGreatDoorHm23
import Derived.Test.YtcggeefhhegeoaaGreatDoorHm19
namespace Go.Proofs.YtcggeefhhegeoaaGreatDoor
namespace Ab
open IntKind (i64 u64 u8)
set_option linter.unusedSimpArgs false
set_option linter.unusedVariables false
set_option linter.defProp false
set_option maxRecDepth 100000
set_option maxHeartbeats 1000000
noncomputable section
attribute [local irreducible] zj2 za4 zd1 za7 zf7 zi6 zk5 zg4 zk6 zf3 zd2 zd8 zh9 zd6 zk1 za6 za0 ze0 zj7 zl9 zi3 zh5 zg2 zg8 zf8 zc5 ze1 ze2 zg9 zf5 ze3 zb0 za8 zh0 zi4 ze4 zn1 f_ref08_holds zj3 zc2 zn6 zm4 zm1 zd9 ze8 zk2 zm5 zh1 zj9 zl7 zd0 zi7 zf0 zf9 zl4 zn9 zm7 zb2 zc1 zh4 zq0 zp1 zk4 zb9 zo8 zd4 zm2 zh2 za5 za1 zb4 zh7 ze9 zm8 zk9 zd7 zd3 zi8 ze6 zq1 zi2 zc8 zo4 zo5 zb5 zi9 zf4 zh8 ze7 zm9 zp0 zp4 zp6 zi1 zf2 zq4 zr5 zt1 zg6 zs7 ze5 zj5 zc3 zb7 zk3 zq2 zl0 zr6 zc9 zq8 zh3 zh6 zi0 zl1 zj6 zp5 zs0 zq3 zn2 zc7 zb8 zl6 zr3 zs5 zd5 za3 zk7 zs1 zp2 zl5 zj4 zj1 zs4 zi5 zo6 zq7 zn5 zt7 zu4 zt0 zx1 zb1 zt2 zv3 zA2 zy3
def zz1 (a0:Resource) (a1:List Hold) (a2:Proc) (a3:Amount):Option Bool :=
 (zq7 a0 a1).bind fun v1 =>
 some ((v1&&zb6 a2)&&zb3 a0 a3)
instance zcG1 (a0:Resource) (a1:List Hold) (a2:Proc) (a3:Amount):OkP (zz1 a0 a1 a2 a3) 177 [ga a0,la a1,ga a2,ga a3] (fun r=>.bool r):=ok1 (zz1.eq_1 a0 a1 a2 a3) Tryz.f177 []
attribute [local irreducible] zz1
def zw9 (a0:WaitState) (a1:Proc):Option (Need×Bool) :=
 (zn5 a0.needs a1).bind fun v1 =>
 (if (decide (0≤v1))=true then
  gd (0≤v1∧v1 < (a0.needs.length:Int)) <|
  (zd4 (a0.needs.getD v1.toNat Need.zero)).bind fun v2 =>
  some (v2,true)
 else
  some ({ Need.zero with  },false))
instance zbr7 (a0:WaitState) (a1:Proc):OkP (zw9 a0 a1) 23 [ga a0,ga a1] (fun r=>.tup [ga r.1,.bool r.2]):=⟨fun r h=>by
 refine zag9 Tryz.f23 [] fun E hG hN hK=>?_
 have hm:Mk (zw9 a0 a1):=trivial
 unfold zw9 at h
 refine za2 (za9 hG ?_)
 refine za2 (za2 (za9 hG ?_))
 obtain ⟨v1,hv1,h⟩:=zf1 h
 have hm:=mkP hm v1
 refine zu6 (fun hg=>(zbn4 a0.needs a1).ok _ hv1) ?_
 refine za2 (za9 hG ?_)
 refine zo2 rfl hG h (fun _ h=>?_) (fun _ h=>?_)
 · refine za2 ?_
   obtain ⟨hb1,h⟩:=zg5 h
   refine za9 hG ?_
   obtain ⟨v2,hv2,h⟩:=zf1 h
   have hm:=mkP hm v2
   refine zu6 (fun hg=>(zaV9 (a0.needs.getD v1.toNat Need.zero)).ok _ hv2) ?_
   refine zw3 ?_
   exact zW9 h (by intro e; subst e; simp [Proc.enc,Atom.enc,Amount.enc])
 refine zn4 ?_
 refine za2 (za9 hG ?_)
 refine zw3 ?_
 exact zW9 h (by intro e; subst e; simp [Proc.enc,Atom.enc,Amount.enc])⟩
attribute [local irreducible] zw9
def zs6 (a0 a1:WaitState):Option Bool :=
 (zb1 a0.queues a1.queues).bind fun v1 =>
 ((if v1=true then za3 a0.needs a1.needs else some false)).bind fun v2 =>
 some (v1&&v2)
instance zbr8 (a0 a1:WaitState):OkP (zs6 a0 a1) 11 [ga a0,ga a1] (fun r=>.bool r):=⟨fun r h=>by
 refine zag9 Tryz.f11 [] fun E hG hN hK=>?_
 have hm:Mk (zs6 a0 a1):=trivial
 unfold zs6 at h
 refine za2 (za9 hG ?_)
 refine za2 (za9 hG ?_)
 obtain ⟨v1,hv1,h⟩:=zf1 h
 have hm:=mkP hm v1
 refine zu2 [] [] [] ((zJ3 a0.queues a1.queues).ok _ hv1) rfl rfl ?_
 obtain ⟨v2,hv2,h⟩:=zf1 h
 have hm:=mkP hm v2
 refine zbr4 [] [] hv2 (fun hc=>(zN5 a0.needs a1.needs).ok _ hc) rfl ?_
 exact gogo⟩
attribute [local irreducible] zs6
def zz2 (a0:List Resource) (a1:Tape):Option (Command×Tape) :=
 (zb4 16 a1).bind fun v1 =>
 (zb4 6 v1.2).bind fun v2 =>
 (zp1 v2.1).bind fun v3 =>
 (if (decide (v1.1=0))=true then
  (zb4 9 v2.2).bind fun v4 =>
  some ({ { { Command.zero with proc:=v3 } with kind:=1 } with n:=(i64.wrap (1+v4.1)) },v4.2)
 else
  (if (decide (v1.1 < 9))=true then
   (zt2 a0 v2.2).bind fun v5 =>
   some ({ { { Command.zero with proc:=v3 } with kind:=2 } with request:=v5.1 },v5.2)
  else
   (if (decide (v1.1=9))=true then
    some ({ { Command.zero with proc:=v3 } with kind:=3 },v2.2)
   else
    (if (decide (v1.1=10))=true then
     (zb4 (a0.length:Int) v2.2).bind fun v6 =>
     gd (0≤v6.1∧v6.1 < (a0.length:Int)) <|
     some ({ { { Command.zero with proc:=v3 } with kind:=4 } with name:=(a0.getD v6.1.toNat Resource.zero).name },v6.2)
    else
     (if (decide (v1.1=11))=true then
      (zb4 4 v2.2).bind fun v7 =>
      some ({ { { Command.zero with proc:=v3 } with kind:=5 } with n:=(i64.wrap (1+v7.1)) },v7.2)
     else
      (if (decide (v1.1=12))=true then
       (zb4 5 v2.2).bind fun v8 =>
       some ({ { { Command.zero with proc:=v3 } with kind:=6 } with n:=v8.1 },v8.2)
      else
       (if (decide (v1.1=13))=true then
        some ({ { Command.zero with proc:=v3 } with kind:=7 },v2.2)
       else
        (if (decide (v1.1=14))=true then
         some ({ { Command.zero with proc:=v3 } with kind:=8 },v2.2)
        else
         (zb4 12 v2.2).bind fun v9 =>
         some ({ { { Command.zero with proc:=v3 } with kind:=9 } with n:=v9.1 },v9.2)))))))))
instance zcy0 (a0:List Resource) (a1:Tape):OkM (zz2 a0 a1) 119 [.ptr 0 0 0,la a0] [(0,bx a1)] 1 (fun r=>ga r.1) (fun r=>[(0,bx r.2)]) 1:=okm (zz2.eq_1 a0 a1) (fun r=>[ga r.1]) Tryz.f119 []
attribute [local irreducible] zz2
attribute [local irreducible] zp3 zw1 zg0 zt8 zu8 zx2 zp9 zo9 zn7 zw8 zv4 zL1 zJ4 zG2
def zaS1 (v1:(List Resource)×Tape) (j2:(List Command)):Option ((List Resource)×(List Command)) :=
 some (v1.1,j2)
def zam7 (v1:(List Resource)×Tape) (g1:Tape×(List Command)):Option ((Tape×(List Command))⊕(List Command)) :=
 (ze0 g1.1).bind fun v2 =>
 (if v2.1=true then
  (zz2 v1.1 v2.2).bind fun v3 =>
  gd (g1.2.length+1≤4294967296) <|
  some (.inl (v3.2,(g1.2++[v3.1])))
 else
  some (.inr g1.2))
def zam8 (v1:(List Resource)×Tape) (j1:Tape×(List Command)):Option ((List Resource)×(List Command)) :=
 (zc0 (zam7 v1) (j1.1,j1.2)).bind (fun z=>zaS1 v1 z)
def zam9 (g2:Int×Tape×(List Command)):Option ((Int×Tape×(List Command))⊕(Tape×(List Command))) :=
 (if (decide (g2.1 < 4))=true then
  (zp1 g2.1).bind fun v4 =>
  (zb4 9 g2.2.1).bind fun v5 =>
  gd (g2.2.2.length+1≤4294967296) <|
  some (.inl ((i64.wrap (g2.1+1)),v5.2,(g2.2.2++[{ Command.zero with kind:=1,proc:=v4,n:=(i64.wrap (1+v5.1)) }])))
 else
  some (.inr (g2.2.1,g2.2.2)))
def zO6 (a0:List Int):Option ((List Resource)×(List Command)) :=
 (zk3 ({ Tape.zero with l:=a0 })).bind fun v1 =>
 (zc0 zam9 (0,v1.2,[])).bind (fun z=>zam8 v1 z)
@[reducible,instance] def zdT7 (v1:(List Resource)×Tape) j1:=mkJ (zam8 v1 j1) 2 (@zaS1.eq_1 v1) fun (j2:(List Command))=>⟨[(5,la v1.1),(6,.own 0 0 j2.length)],[(0,sx j2)],1⟩
@[reducible,instance] def zdT8 (v1:(List Resource)×Tape) {T:Type} (x:T):=mkL x (@zam7.eq_1 v1) fun (g1:Tape×(List Command))=>⟨[(4,.ptr 0 0 0),(5,la v1.1),(6,.own 1 0 g1.2.length)],[(0,bx g1.1),(1,sx g1.2)],2⟩
@[reducible,instance] def zdT9 a0 (v1:(List Resource)×Tape):=mkJ (zO6 a0,v1) 0 (@zam8.eq_1 v1) fun (j1:Tape×(List Command))=>⟨[(4,.ptr 0 0 0),(5,la v1.1),(6,.own 1 0 j1.2.length)],[(0,bx j1.1),(1,sx j1.2)],2⟩
@[reducible,instance] def zdU0 a0 (v1:(List Resource)×Tape):=mkL (zO6 a0,v1) (@zam9.eq_1) fun (g2:Int×Tape×(List Command))=>⟨[(4,.ptr 0 0 0),(5,la v1.1),(6,.own 1 0 g2.2.2.length),(7,.int .i64 g2.1)],[(0,bx g2.2.1),(1,sx g2.2.2)],2⟩
instance zcY9 (a0:List Int):OkP (zO6 a0) 72 [.sl (a0.map (eI .i64))] (fun r=>.tup [la r.1,la r.2]):=ok1 (zO6.eq_1 a0) Tryz.f72 [(6,1)]
attribute [local irreducible] zO6
def zaj9 (a0:List Resource):Option (Central×Int) :=
 (zL1 a0).bind fun v1 =>
 (if (!decide (v1.2=0))=true then
  some ({ Central.zero with  },v1.2)
 else
  some ({ Central.zero with queues:=v1.1 },0))
instance zdl7 (a0:List Resource):OkP (zaj9 a0) 73 [la a0] (fun r=>.tup [ga r.1,.int .i64 r.2]):=ok1 (zaj9.eq_1 a0) Tryz.f73 []
attribute [local irreducible] zaj9
def zaz1 (j1:(List Proc)):Option (List Proc) :=
 (zl5 j1).bind fun v1 =>
 some v1
def zad7 (a0:List Queue) (g1:Int×(List Proc)):Option ((Int×(List Proc))⊕(List Proc)) :=
 (if (decide (g1.1 < (a0.length:Int)))=true then
  gd (0≤g1.1∧g1.1 < (a0.length:Int)) <|
  (zw1 (a0.getD g1.1.toNat Queue.zero)).bind fun v2 =>
  gd (g1.2.length+v2.length≤4294967296) <|
  some (.inl ((i64.wrap (g1.1+1)),(g1.2++v2)))
 else
  some (.inr g1.2))
def zB1 (a0:List Queue):Option (List Proc) :=
 (zc0 (zad7 a0) (0,[])).bind (fun z=>zaz1 z)
@[reducible,instance] def zdU1 a0:=mkJ (zB1 a0) 0 (@zaz1.eq_1) fun (j1:(List Proc))=>⟨[(3,.own 0 0 j1.length)],[(0,sx j1)],1⟩
@[reducible,instance] def zdU2 (a0:List Queue) {T:Type} (x:T):=mkL x (@zad7.eq_1 a0) fun (g1:Int×(List Proc))=>⟨[(3,.own 0 0 g1.2.length),(6,la a0),(7,.int .i64 (a0.length:Int)),(8,.int .i64 g1.1)],[(0,sx g1.2)],1⟩
instance zcZ0 (a0:List Queue):OkP (zB1 a0) 69 [la a0] (fun r=>la r):=ok1 (zB1.eq_1 a0) Tryz.f69 [(3,1)]
attribute [local irreducible] zB1
def zad8 (v2:(List Atom)×Bool) (j1:Unit):Option ((List Atom)×Bool) :=
 some (v2.1,true)
@[go_sem] def zdt0 (v2:(List Atom)×Bool) (j1:Unit):St:=⟨[(4,la v2.1)],[],0⟩
def zaz2 (g1:Int) (j2:Unit):Option (Int⊕(Unit⊕((List Atom)×Bool))) :=
 some (.inl (i64.wrap (g1+1)))
@[go_sem] def zdt1 (v2:(List Atom)×Bool) (g1:Int) (j2:Unit):St:=⟨[(4,la v2.1),(6,.int .i64 g1)],[],0⟩
def zU1 (v2:(List Atom)×Bool) (g1 g2:Int):Option (Int⊕(Unit⊕((List Atom)×Bool))) :=
 (if (decide (g2 < g1))=true then
  gd (0≤g1∧g1 < (v2.1.length:Int)) <|
  gd (0≤g2∧g2 < (v2.1.length:Int)) <|
  (if (((v2.1.getD g1.toNat Atom.zero).name).toList == ((v2.1.getD g2.toNat Atom.zero).name).toList)=true then
   some (.inr (.inr ([],false)))
  else
   some (.inl (i64.wrap (g2+1))))
 else
  some (.inr (.inl ())))
@[go_sem] def zdt2 (v2:(List Atom)×Bool) (g1 g2:Int):St:=⟨[(4,la v2.1),(6,.int .i64 g1),(7,.int .i64 g2)],[],0⟩
def zN6 (v2:(List Atom)×Bool) (g1:Int):Option (Int⊕(Unit⊕((List Atom)×Bool))) :=
 (if (decide (g1 < (v2.1.length:Int)))=true then
  (zc0 (zU1 v2 g1) 0).bind (fun|.inl z=>zaz2 g1 z|.inr z=>some (.inr (.inr z)))
 else
  some (.inr (.inl ())))
@[go_sem] def zdt3 (v2:(List Atom)×Bool) (g1:Int):St:=⟨[(4,la v2.1),(6,.int .i64 g1)],[],0⟩
def zn3 (a0:Expr):Option ((List Atom)×Bool) :=
 (zm8 a0).bind fun v1 =>
 (if (decide (v1=0))=true then
  some ([],false)
 else
  (zu4 a0).bind fun v2=>match v2 with
  | .inl v2 =>
   some ([],false)
  | .inr v2 =>
   (if ((!v2.2)||decide (8 < (v2.1.length:Int)))=true then
    some ([],false)
   else
    (zc0 (zN6 v2) 0).bind (fun|.inl z=>zad8 v2 z|.inr z=>some z)))
theorem zbM5 (a0:Expr) (r:(List Atom)×Bool) (h:zn3 a0=some r):PFn C 94 [ga a0] (.tup [la r.1,.bool r.2]):=by
 refine zag9 Tryz.f94 [] fun E hG hN hK=>?_
 unfold zn3 at h
 refine za2 (za9 hG ?_)
 refine za2 (za2 (za9 hG ?_))
 obtain ⟨v1,hv1,h⟩:=zf1 h
 refine zu6 (fun hg=>(zbM2 a0).ok _ hv1) ?_
 refine zo2 rfl hG h (fun _ h=>?_) (fun _ h=>?_)
 · refine za2 (za9 hG ?_)
   refine zw3 ?_
   exact zW9 h
 refine zn4 ?_
 refine za2 (za9 hG ?_)
 obtain ⟨v2,hv2,h⟩:=zf1 h
 rcases v2 with v2|v2
 · dsimp only at h
   refine zu2 [] [(0,1)] [0] (zbx0 _ _ hv2) rfl rfl ?_
   refine za2 (za2 (za9 hG ?_))
   refine zbG9 rfl hG ?_
   refine za2 (za9 hG ?_)
   refine zw3 ?_
   exact zW9 h
 dsimp only at h
 refine zu2 [] [] [] (zbx1 _ _ hv2) rfl rfl ?_
 refine za2 (za2 (za9 hG ?_))
 refine zo2 rfl hG h (fun _ h=>?_) (fun _ h=>?_)
 · refine za2 (za9 hG ?_)
   refine zw3 ?_
   exact zW9 h
 refine zn4 ?_
 refine za2 (za2 (za9 hG ?_))
 refine zP5 (zdt0 v2) (fun v=>zad8 v2 v=some r) ?_ ?_
 · intro j1 h
   unfold zad8 at h
   refine g_st ?_
   refine za2 (za9 hG ?_)
   refine zw3 ?_
   exact zW9 h
 refine zao1 (zdt3 v2) hK [] h (fun x_l1 h g1 y_l1 h_l1 hx_l1=>?_)
 unfold zN6 at h_l1
 refine g_st ?_
 refine za2 (za2 (za9 hG ?_))
 refine zo2 rfl hG h_l1 (fun _ h_l1=>?_) (fun _ h_l1=>?_)
 · refine zn4 ?_
   refine za2 (zI8 (za2 (za9 hG ?_)))
   refine zP5 (zdt1 v2 g1) (fun v=>zaz2 g1 v=some y_l1) ?_ ?_
   · intro j2 h_l1
     unfold zaz2 at h_l1
     refine g_st ?_
     refine za9 hG ?_
     exact zX1 hK [] h_l1
   refine zao1 (zdt2 v2 g1) hK [] h_l1 (fun x_l2 h_l1 g2 y_l2 h_l2 hx_l2=>?_)
   unfold zU1 at h_l2
   refine g_st ?_
   refine za2 (za2 (za9 hG ?_))
   refine zo2 rfl hG h_l2 (fun _ h_l2=>?_) (fun _ h_l2=>?_)
   · refine zn4 ?_
     refine za2 (zI8 (za2 ?_))
     obtain ⟨hb1,h_l2⟩:=zg5 h_l2
     obtain ⟨hb2,h_l2⟩:=zg5 h_l2
     refine zbc9 zL7 hG ?_
     refine zo2 rfl hG h_l2 (fun _ h_l2=>?_) (fun _ h_l2=>?_)
     · refine za2 (za9 hG ?_)
       refine zw3 ?_
       obtain rfl:=Option.some.inj h_l2
       have hx:=hx_l2 _ rfl
       subst hx
       try dsimp only at h_l1
       cases h_l1
       cases hx_l1 _ rfl
       exact zW9 h
     refine zn4 ?_
     refine za9 hG ?_
     exact zX1 hK [] h_l2
   refine zR6 ?_
   obtain rfl:=Option.some.inj h_l2
   have hx:=hx_l2 _ rfl
   subst hx
   try dsimp only at h_l1
   exact zI1 hK [] () (by exact h_l1)
 refine zR6 ?_
 cases h_l1
 cases hx_l1 _ rfl
 exact zI1 hK [] () (by exact h)
instance zcR4 (a0:Expr):OkP (zn3 a0) 94 [ga a0] (fun r=>.tup [la r.1,.bool r.2]):=⟨zbM5 a0⟩
attribute [local irreducible] zn3
def zy5 (a0:List Resource) (a1:Atom):Option Int :=
 (zt7 a0).bind fun v1 =>
 (if (!v1)=true then
  some 2
 else
  (zl7 a0 a1.name).bind fun v2 =>
  (if (!v2.2)=true then
   some 10
  else
   (if (!(zt6 v2.1 a1.amount))=true then
    some 12
   else
    some 0)))
instance zcL7 (a0:List Resource) (a1:Atom):OkP (zy5 a0 a1) 199 [la a0,ga a1] (fun r=>.int .i64 r):=ok1 (zy5.eq_1 a0 a1) Tryz.f199 []
attribute [local irreducible] zy5
def zO7 (a0:Expr) (a1:List Bool):Option Bool :=
 (zn3 a0).bind fun v1 =>
 ((if v1.2=true then f_ref08_holds a0 v1.1 a1 else some false)).bind fun v2 =>
 some (v1.2&&v2)
instance zcZ1 (a0:Expr) (a1:List Bool):OkP (zO7 a0 a1) 159 [ga a0,.sl (a1.map eB)] (fun r=>.bool r):=ok1 (zO7.eq_1 a0 a1) Tryz.f159 []
attribute [local irreducible] zO7
def zaS2 (j2:(List Bool)):Option (List Bool) :=
 some j2
def zad9 (a0:Expr) (v1:(List Atom)×Bool) (g1:Int×(List Bool)):Option ((Int×(List Bool))⊕(List Bool)) :=
 (if (decide (0≤g1.1))=true then
  gd (0≤g1.1∧g1.1 < ((g1.2.length:Nat):Int)) <|
  (if (g1.2.getD g1.1.toNat false)=true then
   gd (0≤g1.1∧g1.1 < ((g1.2.length:Nat):Int)) <|
   (f_ref08_holds a0 v1.1 (g1.2.set g1.1.toNat false)).bind fun v3 =>
   gd (0≤g1.1∧g1.1 < ((g1.2.length:Nat):Int)) <|
   some (.inl ((i64.wrap (g1.1 - 1)),(g1.2.set g1.1.toNat false).set g1.1.toNat (!v3)))
  else
   some (.inl ((i64.wrap (g1.1 - 1)),g1.2)))
 else
  some (.inr g1.2))
def zan0 (a0:Expr) (v1:(List Atom)×Bool) (j1:(List Bool)):Option (List Bool) :=
 (zc0 (zad9 a0 v1) ((i64.wrap ((v1.1.length:Int) - 1)),j1)).bind (fun z=>zaS2 z)
def zae0 (a1:List Bool) (v1:(List Atom)×Bool) (g2:Int×(List Bool)):Option ((Int×(List Bool))⊕(List Bool)) :=
 (if (decide (g2.1 < (v1.1.length:Int)))=true then
  gd (decide (g2.1 < (a1.length:Int))=true→0≤g2.1∧g2.1 < (a1.length:Int)) <|
  gd (0≤g2.1∧g2.1 < ((g2.2.length:Nat):Int)) <|
  some (.inl ((i64.wrap (g2.1+1)),g2.2.set g2.1.toNat (decide (g2.1 < (a1.length:Int))&&a1.getD g2.1.toNat false)))
 else
  some (.inr g2.2))
def zI2 (a0:Expr) (a1:List Bool):Option (List Bool) :=
 (zn3 a0).bind fun v1 =>
 gd (0≤(v1.1.length:Int)∧(v1.1.length:Int)≤(v1.1.length:Int)∧(v1.1.length:Int)≤4294967296) <|
 ((if v1.2=true then f_ref08_holds a0 v1.1 a1 else some false)).bind fun v2 =>
 (if ((!v1.2)||(!v2))=true then
  some (List.replicate ((v1.1.length:Int).toNat) false)
 else
  (zc0 (zae0 a1 v1) (0,List.replicate ((v1.1.length:Int).toNat) false)).bind (fun z=>zan0 a0 v1 z))
@[reducible,instance] def zdU3 a0 v1 j1:=mkJ (zan0 a0 v1 j1) 2 (@zaS2.eq_1) fun (j2:(List Bool))=>⟨[(7,.own 0 0 j2.length)],[(0,⟨false,1,[A.bool false],j2.map eB⟩)],1⟩
@[reducible,instance] def zdU4 (a0:Expr) (v1:(List Atom)×Bool) {T:Type} (x:T):=mkL x (@zad9.eq_1 a0 v1) fun (g1:Int×(List Bool))=>⟨[(2,.ptr 0 0 0),(5,la v1.1),(7,.own 1 0 g1.2.length),(9,.int .i64 g1.1)],[(0,bx a0),(1,⟨false,1,[A.bool false],g1.2.map eB⟩)],2⟩
@[reducible,instance] def zdU5 (a0:Expr) a1 (v1:(List Atom)×Bool) {T1:Type} (v2:T1):=mkJ ((zI2 a0 a1,v1),v2) 0 (@zan0.eq_1 a0 v1) fun (j1:(List Bool))=>⟨[(2,.ptr 0 0 0),(5,la v1.1),(7,.own 1 0 j1.length)],[(0,bx a0),(1,⟨false,1,[A.bool false],j1.map eB⟩)],2⟩
@[reducible,instance] def zdU6 (a0:Expr) (a1:List Bool) (v1:(List Atom)×Bool) {T1:Type} (v2:T1):=mkL ((zI2 a0 a1,v1),v2) (@zae0.eq_1 a1 v1) fun (g2:Int×(List Bool))=>⟨[(1,.sl (a1.map eB)),(2,.ptr 0 0 0),(5,la v1.1),(7,.own 1 0 g2.2.length),(8,.int .i64 g2.1)],[(0,bx a0),(1,⟨false,1,[A.bool false],g2.2.map eB⟩)],2⟩
instance zcZ2 (a0:Expr) (a1:List Bool):OkP (zI2 a0 a1) 251 [ga a0,.sl (a1.map eB)] (fun r=>.sl (r.map eB)):=ok1 (zI2.eq_1 a0 a1) Tryz.f251 []
attribute [local irreducible] zI2
end
end Ab
end Go.Proofs.YtcggeefhhegeoaaGreatDoor
