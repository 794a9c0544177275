import Derived.Test.YtcggeefhhegeoaaGreatDoorHm8
import Derived.Test.YtcggeefhhegeoaaGreatDoorHm11
namespace Go.Proofs.YtcggeefhhegeoaaGreatDoor
namespace Ab
open IntKind (i64 u64 u8)
set_option linter.unusedSimpArgs false
set_option linter.unusedVariables false
set_option linter.defProp false
set_option maxRecDepth 100000
set_option maxHeartbeats 1000000
noncomputable section
attribute [local irreducible] zj2 za4 zd1 za7 zf7 zi6 zk5 zg4 zk6 zf3 zd2 zd8 zh9 zd6 zk1 za6 za0 ze0 zj7 zl9 zi3 zh5 zg2 zg8 zf8 zc5 ze1 ze2 zg9 zf5 ze3 zb0 za8 zh0 zi4 ze4 zn1 f_ref08_holds zj3 zc2 zn6 zm4 zm1 zd9 ze8 zk2 zm5 zh1 zj9 zl7 zd0 zi7 zf0 zf9 zl4 zn9 zm7 zb2 zc1 zh4 zq0 zp1 zk4 zb9 zo8 zd4 zm2 zh2 za5 za1 zb4 zh7 ze9 zm8 zk9 zd7 zd3 zi8 ze6 zq1 zi2 zc8 zo4
def zam2 (a1:Proc) (a2:Amount) (j1:Int×(List Hold)):Option (List Hold) :=
 (if (zl2 a2)=true then
  some j1.2
 else
  (if (decide (j1.1 < 0))=true then
   gd (j1.2.length+1≤4294967296) <|
   gd (0≤i64.wrap (((j1.2.length:Nat):Int)+1)∧i64.wrap (((j1.2.length:Nat):Int)+1)≤((j1.2.length+1:Nat):Int)∧((j1.2.length+1:Nat):Int)≤((j1.2.length+1:Nat):Int)) <|
   gd (0≤((j1.2.length:Nat):Int)∧((j1.2.length:Nat):Int)≤((j1.2.length+1:Nat):Int)∧((j1.2.length+1:Nat):Int)≤((j1.2.length+1:Nat):Int)) <|
   gd (0≤((j1.2.length:Nat):Int)∧((j1.2.length:Nat):Int) < ((j1.2.length+1:Nat):Int)) <|
   some (((j1.2++[{ Hold.zero with  }]).take (i64.wrap (((j1.2.length:Nat):Int)+1)).toNat++(((j1.2++[{ Hold.zero with  }]).drop (((j1.2.length:Nat):Int).toNat)).take (j1.2.length+1 - ((j1.2.length:Nat):Int).toNat)).take (j1.2.length+1 - (i64.wrap (((j1.2.length:Nat):Int)+1)).toNat)++(j1.2++[{ Hold.zero with  }]).drop ((i64.wrap (((j1.2.length:Nat):Int)+1)).toNat+min (((j1.2++[{ Hold.zero with  }]).drop (((j1.2.length:Nat):Int).toNat)).take (j1.2.length+1 - ((j1.2.length:Nat):Int).toNat)).length (j1.2.length+1 - (i64.wrap (((j1.2.length:Nat):Int)+1)).toNat))).set (((j1.2.length:Nat):Int).toNat) (⟨a1,a2⟩:Hold))
  else
   gd (j1.2.length+1≤4294967296) <|
   gd (0≤i64.wrap (j1.1+1)∧i64.wrap (j1.1+1)≤((j1.2.length+1:Nat):Int)∧((j1.2.length+1:Nat):Int)≤((j1.2.length+1:Nat):Int)) <|
   gd (0≤j1.1∧j1.1≤((j1.2.length+1:Nat):Int)∧((j1.2.length+1:Nat):Int)≤((j1.2.length+1:Nat):Int)) <|
   gd (0≤j1.1∧j1.1 < ((j1.2.length+1:Nat):Int)) <|
   some (((j1.2++[{ Hold.zero with  }]).take (i64.wrap (j1.1+1)).toNat++(((j1.2++[{ Hold.zero with  }]).drop j1.1.toNat).take (j1.2.length+1 - j1.1.toNat)).take (j1.2.length+1 - (i64.wrap (j1.1+1)).toNat)++(j1.2++[{ Hold.zero with  }]).drop ((i64.wrap (j1.1+1)).toNat+min (((j1.2++[{ Hold.zero with  }]).drop j1.1.toNat).take (j1.2.length+1 - j1.1.toNat)).length (j1.2.length+1 - (i64.wrap (j1.1+1)).toNat))).set j1.1.toNat (⟨a1,a2⟩:Hold))))
@[go_sem] def zdx9 (a1:Proc) (a2:Amount) (j1:Int×(List Hold)):St:=⟨[(4,.ptr 0 0 0),(5,.ptr 1 0 0),(7,.own 2 0 j1.2.length),(8,.int .i64 j1.1)],[(0,bx a1),(1,bx a2),(2,sx j1.2)],3⟩
def zT8 (a0:List Hold) (a1:Proc) (g1:Int×Int×(List Hold)):Option ((Int×Int×(List Hold))⊕(Int×(List Hold))) :=
 (if (decide (g1.2.1 < (a0.length:Int)))=true then
  gd (0≤g1.2.1∧g1.2.1 < (a0.length:Int)) <|
  (if (decide ((a0.getD g1.2.1.toNat Hold.zero).proc=a1))=true then
   some (.inl (g1.1,i64.wrap (g1.2.1+1),g1.2.2))
  else
   ((if (decide (g1.1 < 0))=true then zd3 ((a0.getD g1.2.1.toNat Hold.zero).proc) a1 else some 0)).bind fun v1 =>
   (if (decide (g1.1 < 0)&&decide (0 < v1))=true then
    gd (g1.2.2.length+1≤4294967296) <|
    some (.inl (((g1.2.2.length:Nat):Int),i64.wrap (g1.2.1+1),(g1.2.2++[(a0.getD g1.2.1.toNat Hold.zero)])))
   else
    gd (g1.2.2.length+1≤4294967296) <|
    some (.inl (g1.1,i64.wrap (g1.2.1+1),(g1.2.2++[(a0.getD g1.2.1.toNat Hold.zero)])))))
 else
  some (.inr (g1.1,g1.2.2)))
@[go_sem] def zdy0 (a0:List Hold) (a1:Proc) (a2:Amount) (g1:Int×Int×(List Hold)):St:=⟨[(4,.ptr 0 0 0),(5,.ptr 1 0 0),(7,.own 2 0 g1.2.2.length),(8,.int .i64 g1.1),(15,la a0),(16,.int .i64 (a0.length:Int)),(17,.int .i64 g1.2.1)],[(0,bx a1),(1,bx a2),(2,sx g1.2.2)],3⟩
def zp6 (a0:List Hold) (a1:Proc) (a2:Amount):Option (List Hold) :=
 gd (0≤0∧0≤i64.wrap ((a0.length:Int)+1)∧i64.wrap ((a0.length:Int)+1)≤4294967296) <|
 (zc0 (zT8 a0 a1) ((-1),0,List.replicate 0 Hold.zero)).bind (fun z=>zam2 a1 a2 z)
theorem zbM4 (a0:List Hold) (a1:Proc) (a2:Amount) (r:(List Hold)) (h:zp6 a0 a1 a2=some r):PFn C 178 [la a0,ga a1,ga a2] (la r):=by
 refine zag9 Tryz.f178 [] fun E hG hN hK=>?_
 unfold zp6 at h
 refine za2 (za9 hG ?_)
 refine za2 ?_
 obtain ⟨hb12,h⟩:=zg5 h
 refine za9 hG ?_
 refine za2 (za9 hG ?_)
 refine za2 (za2 (za9 hG ?_))
 refine zP5 (zdx9 a1 a2) (fun v=>zam2 a1 a2 v=some r) ?_ ?_
 · intro j1 h
   unfold zam2 at h
   refine g_st ?_
   refine za2 (za2 (za9 hG ?_))
   refine zu6 (fun hg=>(zbL8 a2).ok) ?_
   refine zo2 rfl hG h (fun _ h=>?_) (fun _ h=>?_)
   · refine za2 (za9 hG ?_)
     refine zw3 ?_
     exact zW9 h
   refine zn4 ?_
   refine za2 (za2 (za9 hG ?_))
   refine zo2 rfl hG h (fun _ h=>?_) (fun _ h=>?_)
   · refine za9 hG ?_
     refine za2 ?_
     obtain ⟨hb4,h⟩:=zg5 h
     refine za9 hG ?_
     refine za2 ?_
     obtain ⟨hb2,h⟩:=zg5 h
     obtain ⟨hb3,h⟩:=zg5 h
     refine zaF0 zL7 hG ?_
     refine za2 ?_
     obtain ⟨hb1,h⟩:=zg5 h
     refine za9 hG ?_
     refine za2 (za9 hG ?_)
     refine zw3 ?_
     exact zW9 h
   refine zn4 ?_
   refine za2 ?_
   obtain ⟨hb8,h⟩:=zg5 h
   refine za9 hG ?_
   refine za2 ?_
   obtain ⟨hb6,h⟩:=zg5 h
   obtain ⟨hb7,h⟩:=zg5 h
   refine zaF0 zL7 hG ?_
   refine za2 ?_
   obtain ⟨hb5,h⟩:=zg5 h
   refine za9 hG ?_
   refine za2 (za9 hG ?_)
   refine zw3 ?_
   exact zW9 h
 refine zao1 (zdy0 a0 a1 a2) hK [(0,0),(1,1),(2,2)] h (fun x_l1 h g1 y_l1 h_l1 hx_l1=>?_)
 unfold zT8 at h_l1
 refine g_st ?_
 refine za2 (za9 hG ?_)
 refine za2 ?_
 refine zo2 rfl hG h_l1 (fun _ h_l1=>?_) (fun _ h_l1=>?_)
 · refine zn4 ?_
   refine za2 (zI8 (za2 ?_))
   obtain ⟨hb11,h_l1⟩:=zg5 h_l1
   refine za9 hG ?_
   refine za2 (za2 (za9 hG ?_))
   refine zo2 rfl hG h_l1 (fun _ h_l1=>?_) (fun _ h_l1=>?_)
   · refine zR6 ?_
     refine za9 hG ?_
     exact zX1 hK [(0,0),(1,1),(2,2)] h_l1
   refine zn4 ?_
   refine za2 (za2 (za9 hG ?_))
   obtain ⟨v1,hv1,h_l1⟩:=zf1 h_l1
   refine zu6 (fun hg=>(zaD7 ((a0.getD g1.2.1.toNat Hold.zero).proc) a1).ok _ (zaQ7 hg hv1)) ?_
   refine zo2 rfl hG h_l1 (fun _ h_l1=>?_) (fun _ h_l1=>?_)
   · refine za9 hG ?_
     obtain ⟨hb9,h_l1⟩:=zg5 h_l1
     refine za9 hG ?_
     refine za9 hG ?_
     exact zX1 hK [(0,0),(1,1),(2,4)] h_l1
   refine zn4 ?_
   obtain ⟨hb10,h_l1⟩:=zg5 h_l1
   refine za9 hG ?_
   refine za9 hG ?_
   exact zX1 hK [(0,0),(1,1),(2,4)] h_l1
 refine zR6 ?_
 cases h_l1
 cases hx_l1 _ rfl
 exact zI1 hK [(0,0),(1,1),(2,2)] (g1.1,g1.2.2) (by exact h)
instance zcR2 (a0:List Hold) (a1:Proc) (a2:Amount):OkP (zp6 a0 a1 a2) 178 [la a0,ga a1,ga a2] (fun r=>la r):=⟨zbM4 a0 a1 a2⟩
attribute [local irreducible] zp6
def zi1 (a0:Atom):Option Bool :=
 (zd7 a0.name).bind fun v1 =>
 some (v1&&(zb3 ({ Resource.zero with kind:=1,units:=1 }) a0.amount||zb3 ({ Resource.zero with kind:=2,units:=8 }) a0.amount))
instance zbd4 (a0:Atom):OkP (zi1 a0) 143 [ga a0] (fun r=>.bool r):=ok1 (zi1.eq_1 a0) Tryz.f143 []
attribute [local irreducible] zi1
def zf2 (a0 a1:Queue):Option Bool :=
 ((if (decide (a0.resource=a1.resource))=true then za8 a0.holds a1.holds else some false)).bind fun v1 =>
 ((if (decide (a0.resource=a1.resource)&&v1)=true then za6 a0.converts a1.converts else some false)).bind fun v2 =>
 ((if ((decide (a0.resource=a1.resource)&&v1)&&v2)=true then za1 a0.waits a1.waits else some false)).bind fun v3 =>
 some (((decide (a0.resource=a1.resource)&&v1)&&v2)&&v3)
instance zbZ9 (a0 a1:Queue):OkP (zf2 a0 a1) 81 [ga a0,ga a1] (fun r=>.bool r):=⟨fun r h=>by
 refine zag9 Tryz.f81 [] fun E hG hN hK=>?_
 have hm:Mk (zf2 a0 a1):=trivial
 unfold zf2 at h
 refine za2 (za9 hG ?_)
 refine za2 (za9 hG ?_)
 obtain ⟨v1,hv1,h⟩:=zf1 h
 have hm:=mkP hm v1
 refine zu6 (fun hg=>(zau1 a0.holds a1.holds).ok _ (zaQ7 hg hv1)) ?_
 obtain ⟨v2,hv2,h⟩:=zf1 h
 have hm:=mkP hm v2
 refine zu6 (fun hg=>(zau0 a0.converts a1.converts).ok _ (zaQ7 hg hv2)) ?_
 obtain ⟨v3,hv3,h⟩:=zf1 h
 have hm:=mkP hm v3
 refine zbr4 [] [] hv3 (fun hc=>(zN3 a0.waits a1.waits).ok _ hc) rfl ?_
 exact gogo⟩
attribute [local irreducible] zf2
def zq4 (a0:Resource) (a1:Int):Option Amount :=
 (if (decide (a0.kind=1))=true then
  (zq1 a1).bind fun v1 =>
  some ({ Amount.zero with mode:=v1 })
 else
  (zn6 a1 a0.units).bind fun v2 =>
  some ({ Amount.zero with units:=(i64.wrap (1+v2)) }))
instance zcX7 (a0:Resource) (a1:Int):OkP (zq4 a0 a1) 241 [ga a0,.int .i64 a1] (fun r=>ga r):=ok1 (zq4.eq_1 a0 a1) Tryz.f241 []
attribute [local irreducible] zq4
def zu3 (a0:Resource) (a1:Amount):Bool :=
 (zJ0 a0&&(zm0 a1||zt6 a0 a1))
instance zcx8 (a0:Resource) (a1:Amount):OkT 239 [.agg (Resource.enc a0),.agg (Amount.enc a1)] (.bool (zu3 a0 a1)):=ok2 (fun r=>.bool r) (zu3.eq_1 a0 a1) Tryz.f239 []
def zaJ2 (a1:Proc) (a2:Amount) (j1:Bool×(List Hold)):Option (List Hold) :=
 (if (!j1.1)=true then
  gd (j1.2.length+1≤4294967296) <|
  some (j1.2++[(⟨a1,a2⟩:Hold)])
 else
  some j1.2)
def zaj8 (a0:List Hold) (a1:Proc) (a2:Amount) (g1:Bool×Int×(List Hold)):Option ((Bool×Int×(List Hold))⊕(Bool×(List Hold))) :=
 (if (decide (g1.2.1 < (a0.length:Int)))=true then
  gd (0≤g1.2.1∧g1.2.1 < (a0.length:Int)) <|
  (if (decide ((a0.getD g1.2.1.toNat Hold.zero).proc=a1))=true then
   some (.inl (g1.1,i64.wrap (g1.2.1+1),g1.2.2))
  else
   gd ((!g1.1)=true→0≤g1.2.1∧g1.2.1 < (a0.length:Int)) <|
   (if ((!g1.1)&&decide (0 < zt4 ((a0.getD g1.2.1.toNat Hold.zero).proc) a1))=true then
    gd (g1.2.2.length+1≤4294967296) <|
    gd (0≤g1.2.1∧g1.2.1 < (a0.length:Int)) <|
    gd (g1.2.2.length+1+1≤4294967296) <|
    some (.inl (true,i64.wrap (g1.2.1+1),((g1.2.2++[(⟨a1,a2⟩:Hold)])++[(a0.getD g1.2.1.toNat Hold.zero)])))
   else
    gd (0≤g1.2.1∧g1.2.1 < (a0.length:Int)) <|
    gd (g1.2.2.length+1≤4294967296) <|
    some (.inl (g1.1,i64.wrap (g1.2.1+1),(g1.2.2++[(a0.getD g1.2.1.toNat Hold.zero)])))))
 else
  some (.inr (g1.1,g1.2.2)))
def zr5 (a0:List Hold) (a1:Proc) (a2:Amount):Option (List Hold) :=
 (zc0 (zaj8 a0 a1 a2) ((zm0 a2),0,[])).bind (fun z=>zaJ2 a1 a2 z)
@[reducible,instance] def zdN0 a0 (a1:Proc) (a2:Amount):=mkJ (zr5 a0 a1 a2) 0 (@zaJ2.eq_1 a1 a2) fun (j1:Bool×(List Hold))=>⟨[(4,.ptr 0 0 0),(5,.ptr 1 0 0),(7,.own 2 0 j1.2.length),(8,.bool j1.1)],[(0,bx a1),(1,bx a2),(2,sx j1.2)],3⟩
@[reducible,instance] def zdN1 (a0:List Hold) (a1:Proc) (a2:Amount) {T:Type} (x:T):=mkL x (@zaj8.eq_1 a0 a1 a2) fun (g1:Bool×Int×(List Hold))=>⟨[(0,la a0),(4,.ptr 0 0 0),(5,.ptr 1 0 0),(7,.own 2 0 g1.2.2.length),(8,.bool g1.1),(9,.int .i64 g1.2.1)],[(0,bx a1),(1,bx a2),(2,sx g1.2.2)],3⟩
instance zdl3 (a0:List Hold) (a1:Proc) (a2:Amount):OkP (zr5 a0 a1 a2) 260 [la a0,ga a1,ga a2] (fun r=>la r):=ok1 (zr5.eq_1 a0 a1 a2) Tryz.f260 [(7,1)]
attribute [local irreducible] zr5
def zO5 (a0 a1:Amount):Bool :=
 (if ((!(zr2 a1))||decide (a0=a1))=true then
  false
 else
  (if (decide (a0={ Amount.zero with  }))=true then
   true
  else
   (if (!(zr2 a0))=true then
    false
   else
    (if (!decide (a0.mode=0))=true then
     (zP7 a1.mode a0.mode)
    else
     (decide (a0.units < a1.units))))))
instance zcX8 (a0 a1:Amount):OkT 192 [.agg (Amount.enc a0),.agg (Amount.enc a1)] (.bool (zO5 a0 a1)):=ok2 (fun r=>.bool r) (zO5.eq_1 a0 a1) Tryz.f192 []
def zbd5 (j1:Unit):Option Int :=
 some 0
def zaw3 (a0 a1 g1:Int):Option (Int⊕(Unit⊕Int)) :=
 (if (decide (g1≤5))=true then
  (if (zP7 g1 a0&&zP7 g1 a1)=true then
   some (.inr (.inr g1))
  else
   some (.inl (i64.wrap (g1+1))))
 else
  some (.inr (.inl ())))
def zt1 (a0 a1:Int):Option Int :=
 (zc0 (zaw3 a0 a1) 1).bind (fun|.inl z=>zbd5 z|.inr z=>some z)
@[reducible,instance] def zdN2 a0 a1:=mkJ (zt1 a0 a1) 0 (@zbd5.eq_1) fun (j1:Unit)=>⟨[],[],0⟩
@[reducible,instance] def zdN3 (a0 a1:Int) {T:Type} (x:T):=mkL x (@zaw3.eq_1 a0 a1) fun (g1:Int)=>⟨[(0,.int .i64 a0),(1,.int .i64 a1),(5,.int .i64 g1)],[],0⟩
instance zdl4 (a0 a1:Int):OkP (zt1 a0 a1) 240 [.int .i64 a0,.int .i64 a1] (fun r=>.int .i64 r):=ok1 (zt1.eq_1 a0 a1) Tryz.f240 []
attribute [local irreducible] zt1
def zaw4 (a2:work) (j1:(List Proce)):Option (Int×work) :=
 some (0,(⟨(⟨a2.c.now,a2.c.queues,j1⟩:Central),a2.ev⟩:work))
def zT0 (g1:Int×(List Proce)):Option ((Int×(List Proce))⊕(List Proce)) :=
 gd (decide (0 < g1.1)=true→0≤i64.wrap (g1.1 - 1)∧i64.wrap (g1.1 - 1) < ((g1.2.length:Nat):Int)) <|
 gd (decide (0 < g1.1)=true→0≤g1.1∧g1.1 < ((g1.2.length:Nat):Int)) <|
 (if (decide (0 < g1.1)&&decide (0 < zt4 ((g1.2.getD ((i64.wrap (g1.1 - 1)).toNat) Proce.zero).proc) ((g1.2.getD g1.1.toNat Proce.zero).proc)))=true then
  gd (0≤g1.1∧g1.1 < ((g1.2.length:Nat):Int)) <|
  gd (0≤i64.wrap (g1.1 - 1)∧i64.wrap (g1.1 - 1) < ((g1.2.length:Nat):Int)) <|
  gd (0≤g1.1∧g1.1 < ((g1.2.length:Nat):Int)) <|
  gd (0≤i64.wrap (g1.1 - 1)∧i64.wrap (g1.1 - 1) < ((g1.2.length:Nat):Int)) <|
  some (.inl ((i64.wrap (g1.1 - 1)),(g1.2.set g1.1.toNat (g1.2.getD ((i64.wrap (g1.1 - 1)).toNat) Proce.zero)).set ((i64.wrap (g1.1 - 1)).toNat) (g1.2.getD g1.1.toNat Proce.zero)))
 else
  some (.inr g1.2))
def zg6 (a0:Proc) (a1:Int) (a2:work):Option (Int×work) :=
 (if (((!(zm6 a0))||decide (a1 < 1))||decide (1000 < a1))=true then
  some (1,a2)
 else
  (zi4 a2.c.procs a0).bind fun v1 =>
  (if (decide (0≤v1))=true then
   some (11,a2)
  else
   (if (decide (((a2.c.procs.length:Nat):Int)=8))=true then
    some (4,a2)
   else
    gd (a2.c.procs.length+1≤4294967296) <|
    (zc0 zT0 ((i64.wrap (((a2.c.procs.length+1:Nat):Int) - 1)),(a2.c.procs++[{ Proce.zero with proc:=a0,cost:=a1 }]))).bind (fun z=>zaw4 a2 z))))
@[reducible,instance] def zdN4 a0 a1 (a2:work) {T1:Type} (v1:T1):=mkJ (zg6 a0 a1 a2,v1) 0 (@zaw4.eq_1 a2) fun (j1:(List Proce))=>⟨[(0,.ptr 0 0 0),(7,.own 3 0 j1.length)],[(0,⟨false,4,work.enc work.zero,[[.int .i64 a2.c.now,la a2.c.queues,.own 1 0 a2.c.procs.length,.own 4 0 a2.ev.length]]⟩),(3,sx j1),(4,sx a2.ev)],5⟩
@[reducible,instance] def zdN5 a0 a1 (a2:work) {T1:Type} (v1:T1):=mkL (zg6 a0 a1 a2,v1) (@zT0.eq_1) fun (g1:Int×(List Proce))=>⟨[(0,.ptr 0 0 0),(7,.own 3 0 g1.2.length),(8,.int .i64 g1.1)],[(0,⟨false,4,work.enc work.zero,[[.int .i64 a2.c.now,la a2.c.queues,.own 1 0 a2.c.procs.length,.own 4 0 a2.ev.length]]⟩),(3,sx g1.2),(4,sx a2.ev)],5⟩
instance zcj4 (a0:Proc) (a1:Int) (a2:work):OkM (zg6 a0 a1 a2) 205 [.ptr 0 0 0,ga a0,.int .i64 a1] [(0,⟨false,4,work.enc work.zero,[[.int .i64 a2.c.now,la a2.c.queues,.own 1 0 a2.c.procs.length,.own 2 0 a2.ev.length]]⟩),(1,sx a2.c.procs),(2,sx a2.ev)] 3 (fun r=>.int .i64 r.1) (fun r=>[(0,⟨false,4,work.enc work.zero,[[.int .i64 r.2.c.now,la r.2.c.queues,.own 3 0 r.2.c.procs.length,.own 4 0 r.2.ev.length]]⟩),(3,sx r.2.c.procs),(4,sx r.2.ev)]) 5:=okm (zg6.eq_1 a0 a1 a2) (fun r=>[.int .i64 r.1]) Tryz.f205 []
attribute [local irreducible] zg6
def zs7 (a0:Queue) (a1:Proc):Option Bool :=
 (zh4 a0 a1).bind fun v1 =>
 ((if (!v1.2)=true then zi2 a0 a1 else some Amount.zero)).bind fun v2 =>
 some (v1.2||(!(zm0 v2)))
instance zdl5 (a0:Queue) (a1:Proc):OkP (zs7 a0 a1) 273 [ga a0,ga a1] (fun r=>.bool r):=ok1 (zs7.eq_1 a0 a1) Tryz.f273 []
attribute [local irreducible] zs7
end
end Ab
end Go.Proofs.YtcggeefhhegeoaaGreatDoor
