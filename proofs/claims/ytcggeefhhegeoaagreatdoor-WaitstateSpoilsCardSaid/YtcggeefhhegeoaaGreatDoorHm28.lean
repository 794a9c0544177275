import Derived.Test.YtcggeefhhegeoaaGreatDoorHm18
import Derived.Test.YtcggeefhhegeoaaGreatDoorHm23
namespace Go.Proofs.YtcggeefhhegeoaaGreatDoor
namespace Ab
open IntKind (i64 u64 u8)
set_option linter.unusedSimpArgs false
set_option linter.unusedVariables false
set_option linter.defProp false
set_option maxRecDepth 100000
set_option maxHeartbeats 1000000
noncomputable section
attribute [local irreducible] zk1 za4 zd6 za7 zg5 zj4 zl7 zg2 zl8 zg1 zd7 zk9 ze5 zi3 ze3 zi6 za8 za0 ze9 zl0 zn1 zi9 zi2 zg9 zh2 zg6 zc8 zf0 zh3 zg3 zf1 zb0 zb1 zh4 zj0 zf2 zo5 f_ref08_holds zk2 zc6 zn7 zn8 zn3 ze6 zf6 zm4 zn9 zh5 zl1 zm7 zd5 zj5 ze7 zf7 zo8 zo0 zb3 zc4 zi1 zj7 zp6 zq4 zl5 zb7 zn4 zd9 zj2 zp8 zh7 za6 za1 zb8 zi0 zf8 zo1 zj8 ze1 ze4 zd8 zj9 zf9 zr5 zi7 zd3 zp7 zi8 zq1 zb6 zk0 zg8 zj3 zg4 zo4 zm9 zf5 zq9 zi5 zg7 zr7 zt0 zu8 zh1 zu4 zf3 zk7 zb9 za9 zl2 zr6 zm0 ze8 zt1 zc7 zo9 zh8 zh9 zi4 zd4 zc5 zk8 zq8 zt5 zt9 zw6 zf4 zo6 zc3 zc1 zn5 zs8 zu3 zd1 za3 zl9 zt6 zq5 zm5 zk3 zm2 zu2 zj1 zq2 zv5 zr9 zr2 zv6 zw2 zu7 zz1 zb5 zu9 zw7 zB9 zA5 zn6
def zB2 (a0:aH) (a1:List aY) (a2:aJ) (a3:aC):Option Bool :=
 (zr9 a0 a1).bind fun v1 =>
 some ((v1&&zb2 a2)&&zb4 a0 a3)
instance zcL7 (a0:aH) (a1:List aY) (a2:aJ) (a3:aC):OkP (zB2 a0 a1 a2 a3) 177 [ga a0,la a1,ga a2,ga a3] (fun r=>.bool r):=ok1 (zB2.eq_1 a0 a1 a2 a3) Tryz.f177 []
attribute [local irreducible] zB2
def zy9 (a0:aL) (a1:aJ):Option (bN×Bool) :=
 (zr2 a0.bB a1).bind fun v1 =>
 (if (decide (0≤v1))=true then
  gd (0≤v1∧v1 < (a0.bB.length:Int)) <|
  (zd9 (a0.bB.getD v1.toNat bN.zero)).bind fun v2 =>
  some (v2,true)
 else
  some ({ bN.zero with  },false))
instance zbw4 (a0:aL) (a1:aJ):OkP (zy9 a0 a1) 23 [ga a0,ga a1] (fun r=>.tup [ga r.1,.bool r.2]):=⟨fun r h=>by
 refine zak7 Tryz.f23 [] fun E hG hN hK=>?_
 have hm:Mk (zy9 a0 a1):=trivial
 unfold zy9 at h
 refine za2 (za5 hG ?_)
 refine za2 (za2 (za5 hG ?_))
 obtain ⟨v1,hv1,h⟩:=zc2 h
 have hm:=mkP hm v1
 refine zw4 (fun hg=>(zbs1 a0.bB a1).ok _ hv1) ?_
 refine za2 (za5 hG ?_)
 refine zp0 rfl hG h (fun _ h=>?_) (fun _ h=>?_)
 · refine za2 ?_
   obtain ⟨hb1,h⟩:=zg0 h
   refine za5 hG ?_
   obtain ⟨v2,hv2,h⟩:=zc2 h
   have hm:=mkP hm v2
   refine zw4 (fun hg=>(zaZ8 (a0.bB.getD v1.toNat bN.zero)).ok _ hv2) ?_
   refine zx8 ?_
   exact zae1 h (by intro e; subst e; simp [aJ.enc,aM.enc,aC.enc])
 refine zo3 ?_
 refine za2 (za5 hG ?_)
 refine zx8 ?_
 exact zae1 h (by intro e; subst e; simp [aJ.enc,aM.enc,aC.enc])⟩
attribute [local irreducible] zy9
def zx0 (a0 a1:aL):Option Bool :=
 (zb5 a0.aF a1.aF).bind fun v1 =>
 ((if v1=true then za3 a0.bB a1.bB else some false)).bind fun v2 =>
 some (v1&&v2)
instance zbw5 (a0 a1:aL):OkP (zx0 a0 a1) 11 [ga a0,ga a1] (fun r=>.bool r):=⟨fun r h=>by
 refine zak7 Tryz.f11 [] fun E hG hN hK=>?_
 have hm:Mk (zx0 a0 a1):=trivial
 unfold zx0 at h
 refine za2 (za5 hG ?_)
 refine za2 (za5 hG ?_)
 obtain ⟨v1,hv1,h⟩:=zc2 h
 have hm:=mkP hm v1
 refine zs1 [] [] [] ((zL4 a0.aF a1.aF).ok _ hv1) rfl rfl ?_
 obtain ⟨v2,hv2,h⟩:=zc2 h
 have hm:=mkP hm v2
 refine zbw0 [] [] hv2 (fun hc=>(zP7 a0.bB a1.bB).ok _ hc) rfl ?_
 exact gogo⟩
attribute [local irreducible] zx0
def zB3 (a0:List aH) (a1:bP):Option (bQ×bP) :=
 (zb8 16 a1).bind fun v1 =>
 (zb8 6 v1.2).bind fun v2 =>
 (zq4 v2.1).bind fun v3 =>
 (if (decide (v1.1=0))=true then
  (zb8 9 v2.2).bind fun v4 =>
  some ({ { { bQ.zero with aP:=v3 } with kind:=1 } with n:=(i64.wrap (1+v4.1)) },v4.2)
 else
  (if (decide (v1.1 < 9))=true then
   (zu9 a0 v2.2).bind fun v5 =>
   some ({ { { bQ.zero with aP:=v3 } with kind:=2 } with bJ:=v5.1 },v5.2)
  else
   (if (decide (v1.1=9))=true then
    some ({ { bQ.zero with aP:=v3 } with kind:=3 },v2.2)
   else
    (if (decide (v1.1=10))=true then
     (zb8 (a0.length:Int) v2.2).bind fun v6 =>
     gd (0≤v6.1∧v6.1 < (a0.length:Int)) <|
     some ({ { { bQ.zero with aP:=v3 } with kind:=4 } with name:=(a0.getD v6.1.toNat aH.zero).name },v6.2)
    else
     (if (decide (v1.1=11))=true then
      (zb8 4 v2.2).bind fun v7 =>
      some ({ { { bQ.zero with aP:=v3 } with kind:=5 } with n:=(i64.wrap (1+v7.1)) },v7.2)
     else
      (if (decide (v1.1=12))=true then
       (zb8 5 v2.2).bind fun v8 =>
       some ({ { { bQ.zero with aP:=v3 } with kind:=6 } with n:=v8.1 },v8.2)
      else
       (if (decide (v1.1=13))=true then
        some ({ { bQ.zero with aP:=v3 } with kind:=7 },v2.2)
       else
        (if (decide (v1.1=14))=true then
         some ({ { bQ.zero with aP:=v3 } with kind:=8 },v2.2)
        else
         (zb8 12 v2.2).bind fun v9 =>
         some ({ { { bQ.zero with aP:=v3 } with kind:=9 } with n:=v9.1 },v9.2)))))))))
instance zcD5 (a0:List aH) (a1:bP):OkM (zB3 a0 a1) 119 [.ptr 0 0 0,la a0] [(0,bx a1)] 1 (fun r=>ga r.1) (fun r=>[(0,bx r.2)]) 1:=okm (zB3.eq_1 a0 a1) (fun r=>[ga r.1]) Tryz.f119 []
attribute [local irreducible] zB3
attribute [local irreducible] zq6 zy1 ze2 zv7 zw5 zz2 zr3 zq3 zm6 zy8 zu0 zA7 zN3 zL5 zI7
def zaV9 (v1:(List aH)×bP) (j2:(List bQ)):Option ((List aH)×(List bQ)) :=
 some (v1.1,j2)
def zaq0 (v1:(List aH)×bP) (g1:bP×(List bQ)):Option ((bP×(List bQ))⊕(List bQ)) :=
 (ze9 g1.1).bind fun v2 =>
 (if v2.1=true then
  (zB3 v1.1 v2.2).bind fun v3 =>
  gd (g1.2.length+1≤4294967296) <|
  some (.inl (v3.2,(g1.2++[v3.1])))
 else
  some (.inr g1.2))
def zaq1 (v1:(List aH)×bP) (j1:bP×(List bQ)):Option ((List aH)×(List bQ)) :=
 (zc0 (zaq0 v1) (j1.1,j1.2)).bind (fun z=>zaV9 v1 z)
def zaq2 (g2:Int×bP×(List bQ)):Option ((Int×bP×(List bQ))⊕(bP×(List bQ))) :=
 (if (decide (g2.1 < 4))=true then
  (zq4 g2.1).bind fun v4 =>
  (zb8 9 g2.2.1).bind fun v5 =>
  gd (g2.2.2.length+1≤4294967296) <|
  some (.inl ((i64.wrap (g2.1+1)),v5.2,(g2.2.2++[{ bQ.zero with kind:=1,aP:=v4,n:=(i64.wrap (1+v5.1)) }])))
 else
  some (.inr (g2.2.1,g2.2.2)))
def zR0 (a0:List Int):Option ((List aH)×(List bQ)) :=
 (zl2 ({ bP.zero with l:=a0 })).bind fun v1 =>
 (zc0 zaq2 (0,v1.2,[])).bind (fun z=>zaq1 v1 z)
@[reducible,instance] def zec2 (v1:(List aH)×bP) j1:=mkJ (zaq1 v1 j1) 2 (@zaV9.eq_1 v1) fun (j2:(List bQ))=>⟨[(5,la v1.1),(6,.own 0 0 j2.length)],[(0,sx j2)],1⟩
@[reducible,instance] def zec3 (v1:(List aH)×bP) {T:Type} (x:T):=mkL x (@zaq0.eq_1 v1) fun (g1:bP×(List bQ))=>⟨[(4,.ptr 0 0 0),(5,la v1.1),(6,.own 1 0 g1.2.length)],[(0,bx g1.1),(1,sx g1.2)],2⟩
@[reducible,instance] def zec4 a0 (v1:(List aH)×bP):=mkJ (zR0 a0,v1) 0 (@zaq1.eq_1 v1) fun (j1:bP×(List bQ))=>⟨[(4,.ptr 0 0 0),(5,la v1.1),(6,.own 1 0 j1.2.length)],[(0,bx j1.1),(1,sx j1.2)],2⟩
@[reducible,instance] def zec5 a0 (v1:(List aH)×bP):=mkL (zR0 a0,v1) (@zaq2.eq_1) fun (g2:Int×bP×(List bQ))=>⟨[(4,.ptr 0 0 0),(5,la v1.1),(6,.own 1 0 g2.2.2.length),(7,.int .i64 g2.1)],[(0,bx g2.2.1),(1,sx g2.2.2)],2⟩
instance zdf9 (a0:List Int):OkP (zR0 a0) 72 [.sl (a0.map (eI .i64))] (fun r=>.tup [la r.1,la r.2]):=ok1 (zR0.eq_1 a0) Tryz.f72 [(6,1)]
attribute [local irreducible] zR0
def zan2 (a0:List aH):Option (bD×Int) :=
 (zN3 a0).bind fun v1 =>
 (if (!decide (v1.2=0))=true then
  some ({ bD.zero with  },v1.2)
 else
  some ({ bD.zero with aF:=v1.1 },0))
instance zdt5 (a0:List aH):OkP (zan2 a0) 73 [la a0] (fun r=>.tup [ga r.1,.int .i64 r.2]):=ok1 (zan2.eq_1 a0) Tryz.f73 []
attribute [local irreducible] zan2
def zaC6 (j1:(List aJ)):Option (List aJ) :=
 (zm5 j1).bind fun v1 =>
 some v1
def zag7 (a0:List aB) (g1:Int×(List aJ)):Option ((Int×(List aJ))⊕(List aJ)) :=
 (if (decide (g1.1 < (a0.length:Int)))=true then
  gd (0≤g1.1∧g1.1 < (a0.length:Int)) <|
  (zy1 (a0.getD g1.1.toNat aB.zero)).bind fun v2 =>
  gd (g1.2.length+v2.length≤4294967296) <|
  some (.inl ((i64.wrap (g1.1+1)),(g1.2++v2)))
 else
  some (.inr g1.2))
def zD1 (a0:List aB):Option (List aJ) :=
 (zc0 (zag7 a0) (0,[])).bind (fun z=>zaC6 z)
@[reducible,instance] def zec6 a0:=mkJ (zD1 a0) 0 (@zaC6.eq_1) fun (j1:(List aJ))=>⟨[(3,.own 0 0 j1.length)],[(0,sx j1)],1⟩
@[reducible,instance] def zec7 (a0:List aB) {T:Type} (x:T):=mkL x (@zag7.eq_1 a0) fun (g1:Int×(List aJ))=>⟨[(3,.own 0 0 g1.2.length),(6,la a0),(7,.int .i64 (a0.length:Int)),(8,.int .i64 g1.1)],[(0,sx g1.2)],1⟩
instance zdg0 (a0:List aB):OkP (zD1 a0) 69 [la a0] (fun r=>la r):=ok1 (zD1.eq_1 a0) Tryz.f69 [(3,1)]
attribute [local irreducible] zD1
def zag8 (v2:(List aM)×Bool) (j1:Unit):Option ((List aM)×Bool) :=
 some (v2.1,true)
@[go_sem] def zdB2 (v2:(List aM)×Bool) (j1:Unit):St:=⟨[(4,la v2.1)],[],0⟩
def zaC7 (g1:Int) (j2:Unit):Option (Int⊕(Unit⊕((List aM)×Bool))) :=
 some (.inl (i64.wrap (g1+1)))
@[go_sem] def zdB3 (v2:(List aM)×Bool) (g1:Int) (j2:Unit):St:=⟨[(4,la v2.1),(6,.int .i64 g1)],[],0⟩
def zW9 (v2:(List aM)×Bool) (g1 g2:Int):Option (Int⊕(Unit⊕((List aM)×Bool))) :=
 (if (decide (g2 < g1))=true then
  gd (0≤g1∧g1 < (v2.1.length:Int)) <|
  gd (0≤g2∧g2 < (v2.1.length:Int)) <|
  (if (((v2.1.getD g1.toNat aM.zero).name).toList == ((v2.1.getD g2.toNat aM.zero).name).toList)=true then
   some (.inr (.inr ([],false)))
  else
   some (.inl (i64.wrap (g2+1))))
 else
  some (.inr (.inl ())))
@[go_sem] def zdB4 (v2:(List aM)×Bool) (g1 g2:Int):St:=⟨[(4,la v2.1),(6,.int .i64 g1),(7,.int .i64 g2)],[],0⟩
def zP8 (v2:(List aM)×Bool) (g1:Int):Option (Int⊕(Unit⊕((List aM)×Bool))) :=
 (if (decide (g1 < (v2.1.length:Int)))=true then
  (zc0 (zW9 v2 g1) 0).bind (fun|.inl z=>zaC7 g1 z|.inr z=>some (.inr (.inr z)))
 else
  some (.inr (.inl ())))
@[go_sem] def zdB5 (v2:(List aM)×Bool) (g1:Int):St:=⟨[(4,la v2.1),(6,.int .i64 g1)],[],0⟩
def zp1 (a0:aN):Option ((List aM)×Bool) :=
 (zo1 a0).bind fun v1 =>
 (if (decide (v1=0))=true then
  some ([],false)
 else
  (zw2 a0).bind fun v2=>match v2 with
  | .inl v2 =>
   some ([],false)
  | .inr v2 =>
   (if ((!v2.2)||decide (8 < (v2.1.length:Int)))=true then
    some ([],false)
   else
    (zc0 (zP8 v2) 0).bind (fun|.inl z=>zag8 v2 z|.inr z=>some z)))
theorem zbR7 (a0:aN) (r:(List aM)×Bool) (h:zp1 a0=some r):PFn C 94 [ga a0] (.tup [la r.1,.bool r.2]):=by
 refine zak7 Tryz.f94 [] fun E hG hN hK=>?_
 unfold zp1 at h
 refine za2 (za5 hG ?_)
 refine za2 (za2 (za5 hG ?_))
 obtain ⟨v1,hv1,h⟩:=zc2 h
 refine zw4 (fun hg=>(zbR2 a0).ok _ hv1) ?_
 refine zp0 rfl hG h (fun _ h=>?_) (fun _ h=>?_)
 · refine za2 (za5 hG ?_)
   refine zx8 ?_
   exact zae1 h
 refine zo3 ?_
 refine za2 (za5 hG ?_)
 obtain ⟨v2,hv2,h⟩:=zc2 h
 rcases v2 with v2|v2
 · dsimp only at h
   refine zs1 [] [(0,1)] [0] (zbB8 _ _ hv2) rfl rfl ?_
   refine za2 (za2 (za5 hG ?_))
   refine zbL9 rfl hG ?_
   refine za2 (za5 hG ?_)
   refine zx8 ?_
   exact zae1 h
 dsimp only at h
 refine zs1 [] [] [] (zbB9 _ _ hv2) rfl rfl ?_
 refine za2 (za2 (za5 hG ?_))
 refine zp0 rfl hG h (fun _ h=>?_) (fun _ h=>?_)
 · refine za2 (za5 hG ?_)
   refine zx8 ?_
   exact zae1 h
 refine zo3 ?_
 refine za2 (za2 (za5 hG ?_))
 refine zO2 (zdB2 v2) (fun v=>zag8 v2 v=some r) ?_ ?_
 · intro j1 h
   unfold zag8 at h
   refine g_st ?_
   refine za2 (za5 hG ?_)
   refine zx8 ?_
   exact zae1 h
 refine zam4 (zdB5 v2) hK [] h (fun x_l1 h g1 y_l1 h_l1 hx_l1=>?_)
 unfold zP8 at h_l1
 refine g_st ?_
 refine za2 (za2 (za5 hG ?_))
 refine zp0 rfl hG h_l1 (fun _ h_l1=>?_) (fun _ h_l1=>?_)
 · refine zo3 ?_
   refine za2 (zK9 (za2 (za5 hG ?_)))
   refine zO2 (zdB3 v2 g1) (fun v=>zaC7 g1 v=some y_l1) ?_ ?_
   · intro j2 h_l1
     unfold zaC7 at h_l1
     refine g_st ?_
     refine za5 hG ?_
     exact zX7 hK [] h_l1
   refine zam4 (zdB4 v2 g1) hK [] h_l1 (fun x_l2 h_l1 g2 y_l2 h_l2 hx_l2=>?_)
   unfold zW9 at h_l2
   refine g_st ?_
   refine za2 (za2 (za5 hG ?_))
   refine zp0 rfl hG h_l2 (fun _ h_l2=>?_) (fun _ h_l2=>?_)
   · refine zo3 ?_
     refine za2 (zK9 (za2 ?_))
     obtain ⟨hb1,h_l2⟩:=zg0 h_l2
     obtain ⟨hb2,h_l2⟩:=zg0 h_l2
     refine zbr4 zN6 hG ?_
     refine zp0 rfl hG h_l2 (fun _ h_l2=>?_) (fun _ h_l2=>?_)
     · refine za2 (za5 hG ?_)
       refine zx8 ?_
       obtain rfl:=dN h_l2
       have hx:=hx_l2 _ rfl
       subst hx
       try dsimp only at h_l1
       cases h_l1
       cases hx_l1 _ rfl
       exact zae1 h
     refine zo3 ?_
     refine za5 hG ?_
     exact zX7 hK [] h_l2
   refine zR8 ?_
   obtain rfl:=dN h_l2
   have hx:=hx_l2 _ rfl
   subst hx
   try dsimp only at h_l1
   exact zG8 hK [] () (by exact h_l1)
 refine zR8 ?_
 cases h_l1
 cases hx_l1 _ rfl
 exact zG8 hK [] () (by exact h)
instance zcY2 (a0:aN):OkP (zp1 a0) 94 [ga a0] (fun r=>.tup [la r.1,.bool r.2]):=⟨zbR7 a0⟩
attribute [local irreducible] zp1
def zA8 (a0:List aH) (a1:aM):Option Int :=
 (zv6 a0).bind fun v1 =>
 (if (!v1)=true then
  some 2
 else
  (zm7 a0 a1.name).bind fun v2 =>
  (if (!v2.2)=true then
   some 10
  else
   (if (!(zv4 v2.1 a1.aK))=true then
    some 12
   else
    some 0)))
instance zcR4 (a0:List aH) (a1:aM):OkP (zA8 a0 a1) 199 [la a0,ga a1] (fun r=>.int .i64 r):=ok1 (zA8.eq_1 a0 a1) Tryz.f199 []
attribute [local irreducible] zA8
def zR1 (a0:aN) (a1:List Bool):Option Bool :=
 (zp1 a0).bind fun v1 =>
 ((if v1.2=true then f_ref08_holds a0 v1.1 a1 else some false)).bind fun v2 =>
 some (v1.2&&v2)
instance zdg1 (a0:aN) (a1:List Bool):OkP (zR1 a0 a1) 159 [ga a0,.sl (a1.map eB)] (fun r=>.bool r):=ok1 (zR1.eq_1 a0 a1) Tryz.f159 []
attribute [local irreducible] zR1
def zaW0 (j2:(List Bool)):Option (List Bool) :=
 some j2
def zag9 (a0:aN) (v1:(List aM)×Bool) (g1:Int×(List Bool)):Option ((Int×(List Bool))⊕(List Bool)) :=
 (if (decide (0≤g1.1))=true then
  gd (0≤g1.1∧g1.1 < ((g1.2.length:Nat):Int)) <|
  (if (g1.2.getD g1.1.toNat false)=true then
   gd (0≤g1.1∧g1.1 < ((g1.2.length:Nat):Int)) <|
   (f_ref08_holds a0 v1.1 (g1.2.set g1.1.toNat false)).bind fun v3 =>
   gd (0≤g1.1∧g1.1 < ((g1.2.length:Nat):Int)) <|
   some (.inl ((i64.wrap (g1.1 - 1)),(g1.2.set g1.1.toNat false).set g1.1.toNat (!v3)))
  else
   some (.inl ((i64.wrap (g1.1 - 1)),g1.2)))
 else
  some (.inr g1.2))
def zaq3 (a0:aN) (v1:(List aM)×Bool) (j1:(List Bool)):Option (List Bool) :=
 (zc0 (zag9 a0 v1) ((i64.wrap ((v1.1.length:Int) - 1)),j1)).bind (fun z=>zaW0 z)
def zah0 (a1:List Bool) (v1:(List aM)×Bool) (g2:Int×(List Bool)):Option ((Int×(List Bool))⊕(List Bool)) :=
 (if (decide (g2.1 < (v1.1.length:Int)))=true then
  gd (decide (g2.1 < (a1.length:Int))=true→0≤g2.1∧g2.1 < (a1.length:Int)) <|
  gd (0≤g2.1∧g2.1 < ((g2.2.length:Nat):Int)) <|
  some (.inl ((i64.wrap (g2.1+1)),g2.2.set g2.1.toNat (decide (g2.1 < (a1.length:Int))&&a1.getD g2.1.toNat false)))
 else
  some (.inr g2.2))
def zK2 (a0:aN) (a1:List Bool):Option (List Bool) :=
 (zp1 a0).bind fun v1 =>
 gd (0≤(v1.1.length:Int)∧(v1.1.length:Int)≤(v1.1.length:Int)∧(v1.1.length:Int)≤4294967296) <|
 ((if v1.2=true then f_ref08_holds a0 v1.1 a1 else some false)).bind fun v2 =>
 (if ((!v1.2)||(!v2))=true then
  some (List.replicate ((v1.1.length:Int).toNat) false)
 else
  (zc0 (zah0 a1 v1) (0,List.replicate ((v1.1.length:Int).toNat) false)).bind (fun z=>zaq3 a0 v1 z))
@[reducible,instance] def zec8 a0 v1 j1:=mkJ (zaq3 a0 v1 j1) 2 (@zaW0.eq_1) fun (j2:(List Bool))=>⟨[(7,.own 0 0 j2.length)],[(0,⟨false,1,[A.bool false],j2.map eB⟩)],1⟩
@[reducible,instance] def zec9 (a0:aN) (v1:(List aM)×Bool) {T:Type} (x:T):=mkL x (@zag9.eq_1 a0 v1) fun (g1:Int×(List Bool))=>⟨[(2,.ptr 0 0 0),(5,la v1.1),(7,.own 1 0 g1.2.length),(9,.int .i64 g1.1)],[(0,bx a0),(1,⟨false,1,[A.bool false],g1.2.map eB⟩)],2⟩
@[reducible,instance] def zed0 (a0:aN) a1 (v1:(List aM)×Bool) {T1:Type} (v2:T1):=mkJ ((zK2 a0 a1,v1),v2) 0 (@zaq3.eq_1 a0 v1) fun (j1:(List Bool))=>⟨[(2,.ptr 0 0 0),(5,la v1.1),(7,.own 1 0 j1.length)],[(0,bx a0),(1,⟨false,1,[A.bool false],j1.map eB⟩)],2⟩
@[reducible,instance] def zed1 (a0:aN) (a1:List Bool) (v1:(List aM)×Bool) {T1:Type} (v2:T1):=mkL ((zK2 a0 a1,v1),v2) (@zah0.eq_1 a1 v1) fun (g2:Int×(List Bool))=>⟨[(1,.sl (a1.map eB)),(2,.ptr 0 0 0),(5,la v1.1),(7,.own 1 0 g2.2.length),(8,.int .i64 g2.1)],[(0,bx a0),(1,⟨false,1,[A.bool false],g2.2.map eB⟩)],2⟩
instance zdg2 (a0:aN) (a1:List Bool):OkP (zK2 a0 a1) 251 [ga a0,.sl (a1.map eB)] (fun r=>.sl (r.map eB)):=ok1 (zK2.eq_1 a0 a1) Tryz.f251 []
attribute [local irreducible] zK2
def zK3 (a0:aB):Option Bool :=
 (zf3 a0.aA).bind fun v1 =>
 ((if v1=true then zr9 a0.aA a0.aS else some false)).bind fun v2 =>
 ((if (v1&&v2)=true then zr3 a0 else some false)).bind fun v3 =>
 ((if ((v1&&v2)&&v3)=true then zq6 a0 else some false)).bind fun v4 =>
 some (((((v1&&v2)&&v3)&&v4)&&decide (0≤a0.gen))&&decide (a0.gen≤1073741824))
instance zdg3 (a0:aB):OkP (zK3 a0) 139 [ga a0] (fun r=>.bool r):=ok1 (zK3.eq_1 a0) Tryz.f139 []
attribute [local irreducible] zK3
def zaW1 (j2:Unit):Option Bool :=
 some true
def zaq4 (a0:aB) (g1:Int):Option (Int⊕(Unit⊕Bool)) :=
 (if (decide (g1 < (a0.aV.length:Int)))=true then
  gd (0≤g1∧g1 < (a0.aV.length:Int)) <|
  gd (zv4 a0.aA ((a0.aV.getD g1.toNat aX.zero).aK)=true→0≤g1∧g1 < (a0.aV.length:Int)) <|
  ((if (zv4 a0.aA ((a0.aV.getD g1.toNat aX.zero).aK))=true then zn9 a0.aS ((a0.aV.getD g1.toNat aX.zero).aP) else some aC.zero)).bind fun v4 =>
  (if ((!(zv4 a0.aA ((a0.aV.getD g1.toNat aX.zero).aK)))||(!(zn2 v4)))=true then
   some (.inr (.inr false))
  else
   some (.inl (i64.wrap (g1+1))))
 else
  some (.inr (.inl ())))
def zaq5 (a0:aB) (j1:Unit):Option Bool :=
 (zc0 (zaq4 a0) 0).bind (fun|.inl z=>zaW1 z|.inr z=>some z)
def zX0 (a0:aB) (g2:Int):Option (Int⊕(Unit⊕Bool)) :=
 (if (decide (g2 < (a0.aI.length:Int)))=true then
  gd (0≤g2∧g2 < (a0.aI.length:Int)) <|
  (zn9 a0.aS ((a0.aI.getD g2.toNat aX.zero).aP)).bind fun v5 =>
  ((if (!(((((zn2 v5||(!(zv4 a0.aA ((a0.aI.getD g2.toNat aX.zero).aK))))||(!(zu6 a0.aA ((a0.aI.getD g2.toNat aX.zero).aK) v5)))||decide ((a0.aI.getD g2.toNat aX.zero).aK=v5))||(!decide ((a0.aI.getD g2.toNat aX.zero).bH=0)))||(!decide ((a0.aI.getD g2.toNat aX.zero).bR=0))))=true then zl0 a0.aI ((a0.aI.getD g2.toNat aX.zero).aP) else some 0)).bind fun v6 =>
  (if ((((((zn2 v5||(!(zv4 a0.aA ((a0.aI.getD g2.toNat aX.zero).aK))))||(!(zu6 a0.aA ((a0.aI.getD g2.toNat aX.zero).aK) v5)))||decide ((a0.aI.getD g2.toNat aX.zero).aK=v5))||(!decide ((a0.aI.getD g2.toNat aX.zero).bH=0)))||(!decide ((a0.aI.getD g2.toNat aX.zero).bR=0)))||(!decide (v6=g2)))=true then
   some (.inr (.inr false))
  else
   some (.inl (i64.wrap (g2+1))))
 else
  some (.inr (.inl ())))
def zD2 (a0:aB):Option Bool :=
 (zj1 a0.aA).bind fun v1 =>
 ((if v1=true then zv7 a0.aA a0.aS else some false)).bind fun v2 =>
 ((if (!(((!v1)||(!v2))||decide (8 < (a0.aI.length:Int))))=true then zs8 a0.aV else some false)).bind fun v3 =>
 (if (((((((!v1)||(!v2))||decide (8 < (a0.aI.length:Int)))||(!v3))||decide (8 < i64.wrap ((a0.aS.length:Int)+(a0.aV.length:Int))))||decide (a0.gen < 0))||decide (1073741824 < a0.gen))=true then
  some false
 else
  (zc0 (zX0 a0) 0).bind (fun|.inl z=>zaq5 a0 z|.inr z=>some z))
@[reducible,instance] def zed2 a0 j1:=mkJ (zaq5 a0 j1) 2 (@zaW1.eq_1) fun (j2:Unit)=>⟨[],[],0⟩
@[reducible,instance] def zed3 (a0:aB) {T:Type} (x:T):=mkL x (@zaq4.eq_1 a0) fun (g1:Int)=>⟨[(1,.ptr 0 0 0),(3,.ptr 1 0 0),(7,.int .i64 g1)],[(0,bx a0),(1,bx a0.aA)],2⟩
@[reducible,instance] def zed4 (a0:aB) {T1:Type} (v1:T1) {T2:Type} (v2:T2) {T3:Type} (v3:T3):=mkJ (((zD2 a0,v1),v2),v3) 0 (@zaq5.eq_1 a0) fun (j1:Unit)=>⟨[(1,.ptr 0 0 0),(3,.ptr 1 0 0)],[(0,bx a0),(1,bx a0.aA)],2⟩
@[reducible,instance] def zed5 (a0:aB) {T:Type} (x:T):=mkL x (@zX0.eq_1 a0) fun (g2:Int)=>⟨[(1,.ptr 0 0 0),(3,.ptr 1 0 0),(4,.int .i64 g2)],[(0,bx a0),(1,bx a0.aA)],2⟩
instance zdg4 (a0:aB):OkP (zD2 a0) 168 [ga a0] (fun r=>.bool r):=ok1 (zD2.eq_1 a0) Tryz.f168 []
attribute [local irreducible] zD2
def zaC8 (j1:(List aJ)):Option (List aJ) :=
 (zh9 j1).bind fun v2 =>
 some v2
def zaq6 (a0:aL) (g1:Int×(List aJ)):Option ((Int×(List aJ))⊕(List aJ)) :=
 (if (decide (g1.1 < (a0.bB.length:Int)))=true then
  gd (0≤g1.1∧g1.1 < (a0.bB.length:Int)) <|
  gd (g1.2.length+1≤4294967296) <|
  some (.inl ((i64.wrap (g1.1+1)),(g1.2++[(a0.bB.getD g1.1.toNat bN.zero).aP])))
 else
  some (.inr g1.2))
def zI1 (a0:aL):Option (List aJ) :=
 (zy8 a0.aF).bind fun v1 =>
 (zc0 (zaq6 a0) (0,v1)).bind (fun z=>zaC8 z)
@[reducible,instance] def zed6 a0 {T1:Type} (v1:T1):=mkJ (zI1 a0,v1) 0 (@zaC8.eq_1) fun (j1:(List aJ))=>⟨[(3,.own 0 0 j1.length)],[(0,sx j1)],1⟩
@[reducible,instance] def zed7 (a0:aL) {T:Type} (x:T):=mkL x (@zaq6.eq_1 a0) fun (g1:Int×(List aJ))=>⟨[(1,.ptr 0 0 0),(3,.own 1 0 g1.2.length),(4,.int .i64 g1.1)],[(0,bx a0),(1,sx g1.2)],2⟩
instance zdg5 (a0:aL):OkP (zI1 a0) 12 [ga a0] (fun r=>la r):=ok1 (zI1.eq_1 a0) Tryz.f12 [(7,1)]
attribute [local irreducible] zI1
def zan3 (j1:(List aJ)):Option (List aJ) :=
 (zm5 j1).bind fun v2 =>
 some v2
def zab8 (a0:aL) (g1:Int×(List aJ)):Option ((Int×(List aJ))⊕(List aJ)) :=
 (if (decide (g1.1 < (a0.bB.length:Int)))=true then
  gd (0≤g1.1∧g1.1 < (a0.bB.length:Int)) <|
  gd (g1.2.length+1≤4294967296) <|
  some (.inl ((i64.wrap (g1.1+1)),(g1.2++[(a0.bB.getD g1.1.toNat bN.zero).aP])))
 else
  some (.inr g1.2))
def zx3 (a0:aL):Option (List aJ) :=
 (zD1 a0.aF).bind fun v1 =>
 gd (v1.length≤4294967296) <|
 (zc0 (zab8 a0) (0,v1)).bind (fun z=>zan3 z)
@[reducible,instance] def zed8 a0 {T1:Type} (v1:T1):=mkJ (zx3 a0,v1) 0 (@zan3.eq_1) fun (j1:(List aJ))=>⟨[(3,.own 0 0 j1.length)],[(0,sx j1)],1⟩
@[reducible,instance] def zed9 (a0:aL) {T:Type} (x:T):=mkL x (@zab8.eq_1 a0) fun (g1:Int×(List aJ))=>⟨[(3,.own 0 0 g1.2.length),(11,la a0.bB),(12,.int .i64 (a0.bB.length:Int)),(13,.int .i64 g1.1)],[(0,sx g1.2)],1⟩
instance zcD6 (a0:aL):OkP (zx3 a0) 25 [ga a0] (fun r=>la r):=ok1 (zx3.eq_1 a0) Tryz.f25 []
attribute [local irreducible] zx3
def zF4 (a0:aB):Option Bool :=
 (zD2 a0).bind fun v1 =>
 (if (!v1)=true then
  some false
 else
  (zn1 a0).bind fun v2 =>
  ((if v2.2=true then zL5 a0.aA a0.aS v2.1.aP v2.1.aK else some false)).bind fun v3 =>
  some ((!v2.2)||(!v3)))
instance zcR5 (a0:aB):OkP (zF4 a0) 169 [ga a0] (fun r=>.bool r):=ok1 (zF4.eq_1 a0) Tryz.f169 []
attribute [local irreducible] zF4
def zz3 (a0:aN):Option Bool :=
 (zp1 a0).bind fun v1 =>
 some v1.2
instance zcD7 (a0:aN):OkP (zz3 a0) 93 [ga a0] (fun r=>.bool r):=ok1 (zz3.eq_1 a0) Tryz.f93 []
attribute [local irreducible] zz3
def zL6 (a0:aH) (a1:List aY) (a2:aJ) (a3:aC):Option Bool :=
 (zB2 a0 a1 a2 a3).bind fun v1 =>
 ((if v1=true then zq9 a1 a2 a3 else some [])).bind fun v2 =>
 ((if v1=true then zr9 a0 v2 else some false)).bind fun v3 =>
 some (v1&&v3)
instance zcY3 (a0:aH) (a1:List aY) (a2:aJ) (a3:aC):OkP (zL6 a0 a1 a2 a3) 141 [ga a0,la a1,ga a2,ga a3] (fun r=>.bool r):=ok1 (zL6.eq_1 a0 a1 a2 a3) Tryz.f141 []
attribute [local irreducible] zL6
def zaN2 (j1:Unit):Option Int :=
 some 0
def zai7 (a0:List aH) (v1:(List aM)×Bool) (g1:Int):Option (Int⊕(Unit⊕Int)) :=
 (if (decide (g1 < (v1.1.length:Int)))=true then
  gd (0≤g1∧g1 < (v1.1.length:Int)) <|
  (zA8 a0 (v1.1.getD g1.toNat aM.zero)).bind fun v2 =>
  (if (!decide (v2=0))=true then
   some (.inr (.inr v2))
  else
   some (.inl (i64.wrap (g1+1))))
 else
  some (.inr (.inl ())))
def zC6 (a0:List aH) (a1:aN):Option Int :=
 (zp1 a1).bind fun v1 =>
 (if (!v1.2)=true then
  some 1
 else
  (zc0 (zai7 a0 v1) 0).bind (fun|.inl z=>zaN2 z|.inr z=>some z))
@[reducible,instance] def zee0 a0 a1 {T1:Type} (v1:T1):=mkJ (zC6 a0 a1,v1) 0 (@zaN2.eq_1) fun (j1:Unit)=>⟨[],[],0⟩
@[reducible,instance] def zee1 (a0:List aH) (v1:(List aM)×Bool) {T:Type} (x:T):=mkL x (@zai7.eq_1 a0 v1) fun (g1:Int)=>⟨[(0,la a0),(5,la v1.1),(7,.int .i64 g1)],[],0⟩
instance zcR6 (a0:List aH) (a1:aN):OkP (zC6 a0 a1) 157 [la a0,ga a1] (fun r=>.int .i64 r):=ok1 (zC6.eq_1 a0 a1) Tryz.f157 []
attribute [local irreducible] zC6
def zD3 (a0:aN):Option (List aM) :=
 (zp1 a0).bind fun v1 =>
 some v1.1
instance zdg6 (a0:aN):OkP (zD3 a0) 50 [ga a0] (fun r=>la r):=ok1 (zD3.eq_1 a0) Tryz.f50 []
attribute [local irreducible] zD3
end
end Ab
end Go.Proofs.YtcggeefhhegeoaaGreatDoor
