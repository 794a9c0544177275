import Derived.Test.YtenebhlnfjcffaaGreatDoorHm2
import Derived.Test.YtenebhlnfjcffaaGreatDoorHm4
namespace Go.Proofs.YtenebhlnfjcffaaGreatDoor
namespace Ab
open IntKind (i64 u64 u8)
set_option linter.unusedSimpArgs false
set_option linter.defProp false
set_option linter.unusedVariables false
set_option maxRecDepth 100000
set_option maxHeartbeats 1000000
noncomputable section
attribute [local irreducible] zl1 ze7 zb3 za2 zd2 zj6 zb4 za8 zl5 zg4 zi6 zi7 zk5 zh8 ze1 za5 za9 zf7 zj1 zh5 zj7 zf2 ze3 zp5 zk3 zf6 zf0 zd1 zd7 zc3 za6 zi1 zf8 zl9 zf9 f_ref08_holds ze5 zg0 zl0 zf3 zg5 zf1 zb0 za0 zh0 zl2 zk4 ze4
def zA9 (j2:(List aR)):Option (List aR) :=
 some j2
@[go_sem] def zcT0  (j2:(List aR)):St:=⟨[(6,.own 0 0 j2.length)],[(0,sx j2)],1⟩
def zn4 (a0:List (List aR)) (g1:Int×(List aR)):Option ((Int×(List aR))⊕(List aR)) :=
 (if (decide (g1.1 < (a0.length:Int)))=true then
  gd (0≤g1.1∧g1.1 < (a0.length:Int)) <|
  gd (g1.2.length+(a0.getD g1.1.toNat []).length≤4294967296) <|
  some (.inl ((i64.wrap (g1.1+1)),(g1.2++a0.getD g1.1.toNat [])))
 else
  some (.inr g1.2))
@[go_sem] def zcT1 (a0:List (List aR)) (g1:Int×(List aR)):St:=⟨[(6,.own 0 0 g1.2.length),(25,.sl (a0.map (eL aR.enc))),(26,.int .i64 (a0.length:Int)),(27,.int .i64 g1.1)],[(0,sx g1.2)],1⟩
def zw0 (a0:List (List aR)) (j1:Int):Option (List aR) :=
 (zb3 j1).bind fun v1 =>
 (zc6 (zn4 a0) (0,v1)).bind (fun z=>zA9 z)
@[go_sem] def zcT2 (a0:List (List aR)) (j1:Int):St:=⟨[(0,.sl (a0.map (eL aR.enc))),(3,.int .i64 j1)],[],0⟩
def zn5 (a0:List (List aR)) (g2:Int×Int):Option ((Int×Int)⊕Int) :=
 (if (decide (g2.2 < (a0.length:Int)))=true then
  gd (0≤g2.2∧g2.2 < (a0.length:Int)) <|
  (if (decide (i64.wrap (g2.1+((a0.getD g2.2.toNat []).length:Int)) < 0))=true then
   none
  else
   some (.inl ((i64.wrap (g2.1+((a0.getD g2.2.toNat []).length:Int))),i64.wrap (g2.2+1))))
 else
  some (.inr g2.1))
@[go_sem] def zcT3 (a0:List (List aR)) (g2:Int×Int):St:=⟨[(0,.sl (a0.map (eL aR.enc))),(3,.int .i64 g2.1),(9,.sl (a0.map (eL aR.enc))),(10,.int .i64 (a0.length:Int)),(11,.int .i64 g2.2)],[],0⟩
def zb5 (a0:List (List aR)):Option (List aR) :=
 (zc6 (zn5 a0) (0,0)).bind (fun z=>zw0 a0 z)
theorem zag1 (a0:List (List aR)) (r:(List aR)) (h:zb5 a0=some r):PFn C 141 [.sl (a0.map (eL aR.enc))] (la r):=by
 refine zae3 Tryz.f141 [] fun E hG hN hK=>?_
 unfold zb5 at h
 refine zb2 (zc0 hG ?_)
 refine zb2 (zc0 hG ?_)
 refine zb2 (zb2 (zc0 hG ?_))
 refine zO1 (zcT2 a0) (fun v=>zw0 a0 v=some r) ?_ ?_
 · intro j1 h
   unfold zw0 at h
   refine g_st ?_
   refine zb2 (zc0 hG ?_)
   obtain ⟨v1,hv1,h⟩:=zn1 h
   refine zB2 [] [(0,0)] [0] (zae4 _ _ hv1) rfl rfl ?_
   refine zb2 (zb2 (zc0 hG ?_))
   refine zO1 zcT0 (fun v=>zA9 v=some r) ?_ ?_
   · intro j2 h
     unfold zA9 at h
     refine g_st ?_
     refine zb2 (zc0 hG ?_)
     refine zy1 ?_
     exact zV4 h
   refine zam9 (zcT1 a0) hK [(0,0)] h (fun x_l1 h g1 y_l1 h_l1 hx_l1=>?_)
   unfold zn4 at h_l1
   refine g_st ?_
   refine zb2 (zc0 hG ?_)
   refine zb2 ?_
   refine zs2 rfl hG h_l1 (fun _ h_l1=>?_) (fun _ h_l1=>?_)
   · refine zr8 ?_
     refine zb2 (zK3 (zb2 ?_))
     obtain ⟨hb2,h_l1⟩:=zm3 h_l1
     refine zc0 hG ?_
     obtain ⟨hb1,h_l1⟩:=zm3 h_l1
     refine zc0 hG ?_
     refine zc0 hG ?_
     exact zX8 hK [(0,1)] h_l1
   refine zO2 ?_
   cases h_l1
   cases hx_l1 _ rfl
   exact zS5 hK [(0,0)] g1.2 (by exact h)
 refine zam9 (zcT3 a0) hK [] h (fun x_l2 h g2 y_l2 h_l2 hx_l2=>?_)
 unfold zn5 at h_l2
 refine g_st ?_
 refine zb2 (zc0 hG ?_)
 refine zb2 ?_
 refine zs2 rfl hG h_l2 (fun _ h_l2=>?_) (fun _ h_l2=>?_)
 · refine zr8 ?_
   refine zb2 (zK3 (zb2 ?_))
   obtain ⟨hb3,h_l2⟩:=zm3 h_l2
   refine zc0 hG ?_
   refine zb2 (zc0 hG ?_)
   refine zb2 (zc0 hG ?_)
   refine zs2 rfl hG h_l2 (fun _ h_l2=>?_) (fun _ h_l2=>?_)
   · exact zcS4 h_l2
   refine zr8 ?_
   refine zc0 hG ?_
   exact zX8 hK [] h_l2
 refine zO2 ?_
 cases h_l2
 cases hx_l2 _ rfl
 exact zS5 hK [] g2.1 (by exact h)
instance zaT0 (a0:List (List aR)):OkP (zb5 a0) 141 [.sl (a0.map (eL aR.enc))] (fun r=>la r):=⟨zag1 a0⟩
attribute [local irreducible] zb5
def zd3 (a0:bK):Option bK :=
 (zd2 a0.bL).bind fun v1 =>
 some ({ a0 with bL:=v1 })
instance zaG5 (a0:bK):OkP (zd3 a0) 26 [ga a0] (fun r=>ga r):=⟨fun r h=>by
 refine zae3 Tryz.f26 [] fun E hG hN hK=>?_
 have hm:Mk (zd3 a0):=trivial
 unfold zd3 at h
 refine zb2 (zc0 hG ?_)
 refine zb2 (zc0 hG ?_)
 obtain ⟨v1,hv1,h⟩:=zn1 h
 have hm:=mkP hm v1
 refine zA8 (fun hg=>(zaG3 a0.bL).ok _ hv1) ?_
 refine zb2 (zc0 hG ?_)
 refine zy1 ?_
 exact zV4 h (by intro e; subst e; simp [aH.enc,aD.enc,aA.enc])⟩
attribute [local irreducible] zd3
def ze6 (a0:bN) (a1:aD):Option Bool :=
 (za5 a0.atoms a1).bind fun v1 =>
 gd ((decide (0≤v1)&&decide (v1 < (a0.set.length:Int)))=true→0≤v1∧v1 < (a0.set.length:Int)) <|
 some ((decide (0≤v1)&&decide (v1 < (a0.set.length:Int)))&&a0.set.getD v1.toNat false)
instance zbM2 (a0:bN) (a1:aD):OkP (ze6 a0 a1) 280 [ga a0,ga a1] (fun r=>.bool r):=ok1 (ze6.eq_1 a0 a1) Tryz.f280 []
attribute [local irreducible] ze6
def zs6 (a0:aC) (a1:aA):Bool :=
 (if (!(zE6 a0))=true then
  false
 else
  (if (decide (a0.kind=1))=true then
   (zx8 a1.mode&&decide (a1.aP=0))
  else
   ((decide (a1.mode=0)&&decide (1≤a1.aP))&&decide (a1.aP≤a0.aP))))
instance zcH9 (a0:aC) (a1:aA):OkT 120 [.agg (aC.enc a0),.agg (aA.enc a1)] (.bool (zs6 a0 a1)):=ok2 (fun r=>.bool r) (zs6.eq_1 a0 a1) Tryz.f120 []
def zG8 (a0 a1:Int):Bool :=
 (if ((((!(zx8 a0))||(!(zx8 a1)))||decide (a0=5))||decide (a1=5))=true then
  false
 else
  ((decide (a0=1)||decide (a1=1))||(decide (a0=a1)&&(!decide (a0=4)))))
instance zbW5 (a0 a1:Int):OkT 316 [.int .i64 a0,.int .i64 a1] (.bool (zG8 a0 a1)):=ok2 (fun r=>.bool r) (zG8.eq_1 a0 a1) Tryz.f316 []
def zC3 (a0 a1:Int):Bool :=
 (if ((!(zx8 a0))||(!(zx8 a1)))=true then
  false
 else
  (((decide (a0=a1)||decide (a0=5))||decide (a1=1))||(decide (a0=4)&&(!decide (a1=5)))))
instance zcs1 (a0 a1:Int):OkT 144 [.int .i64 a0,.int .i64 a1] (.bool (zC3 a0 a1)):=ok2 (fun r=>.bool r) (zC3.eq_1 a0 a1) Tryz.f144 []
def zat3 (j1:(List aD)):Option (List aD) :=
 some j1
def zR7 (a0:bC) (v1:(List ByteArray)) (g1:Int×(List aD)):Option ((Int×(List aD))⊕(List aD)) :=
 (if (decide (g1.1 < (v1.length:Int)))=true then
  gd (0≤g1.1∧g1.1 < (v1.length:Int)) <|
  (zj1 a0.aJ (v1.getD g1.1.toNat ⟨#[]⟩)).bind fun v2 =>
  (if (!decide (v2={ aA.zero with  }))=true then
   gd (0≤g1.1∧g1.1 < (v1.length:Int)) <|
   gd (g1.2.length+1≤4294967296) <|
   some (.inl ((i64.wrap (g1.1+1)),(g1.2++[(⟨(v1.getD g1.1.toNat ⟨#[]⟩),v2⟩:aD)])))
  else
   some (.inl ((i64.wrap (g1.1+1)),g1.2)))
 else
  some (.inr g1.2))
def zg8 (a0:bC):Option (List aD) :=
 (zh5 a0.aJ).bind fun v1 =>
 (zc6 (zR7 a0 v1) (0,[])).bind (fun z=>zat3 z)
@[reducible,instance] def zdj8 a0 {T1:Type} (v1:T1):=mkJ (zg8 a0,v1) 0 (@zat3.eq_1) fun (j1:(List aD))=>⟨[(3,.own 0 0 j1.length)],[(0,sx j1)],1⟩
@[reducible,instance] def zdj9 (a0:bC) (v1:(List ByteArray)) {T:Type} (x:T):=mkL x (@zR7.eq_1 a0 v1) fun (g1:Int×(List aD))=>⟨[(1,.ptr 0 0 0),(3,.own 1 0 g1.2.length),(4,.sl (v1.map eS)),(5,.int .i64 g1.1)],[(0,bx a0),(1,sx g1.2)],2⟩
instance zch8 (a0:bC):OkP (zg8 a0) 119 [ga a0] (fun r=>la r):=ok1 (zg8.eq_1 a0) Tryz.f119 [(3,1)]
attribute [local irreducible] zg8
def zn2 (a0:aF) (a1:aH):Option aA :=
 (zl5 a0.bA a1).bind fun v1 =>
 some v1
instance zcI0 (a0:aF) (a1:aH):OkP (zn2 a0 a1) 90 [ga a0,ga a1] (fun r=>ga r):=ok1 (zn2.eq_1 a0 a1) Tryz.f90 []
attribute [local irreducible] zn2
def zm1 (a0:aG):Option Int :=
 (zl9 a0 1).bind fun v1 =>
 (if (decide (24 < v1.1))=true then
  some 0
 else
  some v1.1)
instance zbs3 (a0:aG):OkP (zm1 a0) 91 [ga a0] (fun r=>.int .i64 r):=ok1 (zm1.eq_1 a0) Tryz.f91 []
attribute [local irreducible] zm1
def zaj7 (j1:Unit):Option Bool :=
 some true
def zA1 (a0:ByteArray) (g1:Int):Option (Int⊕(Unit⊕Bool)) :=
 (if (decide (g1 < (a0.size:Int)))=true then
  gd (0≤g1∧g1 < (a0.size:Int)) <|
  (if ((!(decide (97≤((a0.toList.getD g1.toNat 0).toNat:Int))&&decide (((a0.toList.getD g1.toNat 0).toNat:Int)≤122)))&&(decide (g1=0)||(!(((decide (48≤((a0.toList.getD g1.toNat 0).toNat:Int))&&decide (((a0.toList.getD g1.toNat 0).toNat:Int)≤57))||decide (((a0.toList.getD g1.toNat 0).toNat:Int)=95))||decide (((a0.toList.getD g1.toNat 0).toNat:Int)=45)))))=true then
   some (.inr (.inr false))
  else
   some (.inl (i64.wrap (g1+1))))
 else
  some (.inr (.inl ())))
def zd8 (a0:ByteArray):Option Bool :=
 (if ((decide ((a0.size:Int) < 1)||decide (12 < (a0.size:Int)))||zG6 a0)=true then
  some false
 else
  (zc6 (zA1 a0) 0).bind (fun|.inl z=>zaj7 z|.inr z=>some z))
@[reducible,instance] def zdB9 a0:=mkJ (zd8 a0) 0 (@zaj7.eq_1) fun (j1:Unit)=>⟨[],[],0⟩
@[reducible,instance] def zdC0 (a0:ByteArray) {T:Type} (x:T):=mkL x (@zA1.eq_1 a0) fun (g1:Int)=>⟨[(0,.str a0),(20,.int .i64 (a0.size:Int)),(21,.int .i64 g1)],[],0⟩
instance zbR4 (a0:ByteArray):OkP (zd8 a0) 159 [.str a0] (fun r=>.bool r):=ok1 (zd8.eq_1 a0) Tryz.f159 []
attribute [local irreducible] zd8
def zc9 (a0:aH):Bool :=
 ((zK9 a0.site 0 3&&zK9 a0.inc 1 99)&&zK9 a0.num 1 999)
instance zbZ8 (a0:aH):OkT 32 [.agg (aH.enc a0)] (.bool (zc9 a0)):=ok2 (fun r=>.bool r) (zc9.eq_1 a0) Tryz.f32 []
def zg1 (a0 a1:Int):Option Bool :=
 gd ((zs5 a0&&zs5 a1)=true→0≤i64.wrap (a0 - 1)∧i64.wrap (a0 - 1) < 5) <|
 gd ((zs5 a0&&zs5 a1)=true→0≤i64.wrap (a1 - 1)∧i64.wrap (a1 - 1) < 5) <|
 some ((zs5 a0&&zs5 a1)&&Arr.get (Arr.get zbI6 ((i64.wrap (a0 - 1)).toNat) (Arr.rep 5 false)) ((i64.wrap (a1 - 1)).toNat) false)
instance zaV6 (a0 a1:Int):OkP (zg1 a0 a1) 297 [.int .i64 a0,.int .i64 a1] (fun r=>.bool r):=ok1 (zg1.eq_1 a0 a1) Tryz.f297 []
attribute [local irreducible] zg1
def zk6 (a0:aF) (a1:aH):Option aA :=
 (zh8 a0.bA a1).bind fun v1 =>
 some v1
instance zcI1 (a0:aF) (a1:aH):OkP (zk6 a0 a1) 233 [ga a0,ga a1] (fun r=>ga r):=ok1 (zk6.eq_1 a0 a1) Tryz.f233 []
attribute [local irreducible] zk6
def zj5 (a0 a1:Int):Option Bool :=
 gd ((zs5 a0&&zs5 a1)=true→0≤a1∧a1 < 6) <|
 some ((zs5 a0&&zs5 a1)&&Arr.get (zaw0 a0) a1.toNat false)
instance zcy9 (a0 a1:Int):OkP (zj5 a0 a1) 226 [.int .i64 a0,.int .i64 a1] (fun r=>.bool r):=ok1 (zj5.eq_1 a0 a1) Tryz.f226 []
attribute [local irreducible] zj5
def zaw1 (j1:Int×(List aC)×ByteArray):Option (Int×(List aC)×ByteArray) :=
 some (j1.1,j1.2.1,j1.2.2)
def zW3 (g1:Int×Int×(List aC)×ByteArray):Option ((Int×Int×(List aC)×ByteArray)⊕(Int×(List aC)×ByteArray)) :=
 (if (decide (g1.1 < g1.2.1))=true then
  (zd7 (i64.wrap ((u64.wrap (i64.wrap (g1.1+g1.2.1))).fdiv (2 ^ 1))) g1.2.2.1 g1.2.2.2).bind fun v1 =>
  (if (!v1.1)=true then
   some (.inl ((i64.wrap (i64.wrap ((u64.wrap (i64.wrap (g1.1+g1.2.1))).fdiv (2 ^ 1))+1)),g1.2.1,v1.2.1,v1.2.2))
  else
   some (.inl (g1.1,i64.wrap ((u64.wrap (i64.wrap (g1.1+g1.2.1))).fdiv (2 ^ 1)),v1.2.1,v1.2.2)))
 else
  some (.inr (g1.1,g1.2.2.1,g1.2.2.2)))
def zh7 (a0:Int) (a1:List aC) (a2:ByteArray):Option (Int×(List aC)×ByteArray) :=
 (zc6 zW3 (0,a0,a1,a2)).bind (fun z=>zaw1 z)
@[reducible,instance] def zdk0 a0 a1 a2:=mkJ (zh7 a0 a1 a2) 0 (@zaw1.eq_1) fun (j1:Int×(List aC)×ByteArray)=>⟨[(5,.int .i64 j1.1)],[(0,⟨false,1,[A.sl ([].map aC.enc)],[[A.sl (j1.2.1.map aC.enc)]]⟩),(1,⟨false,1,[A.str ⟨#[]⟩],[[A.str j1.2.2]]⟩)],2⟩
@[reducible,instance] def zdk1 {T:Type} (x:T):=mkL x (@zW3.eq_1) fun (g1:Int×Int×(List aC)×ByteArray)=>⟨[(1,.clo 305 [.ptr 0 0 0,.ptr 1 0 0]),(5,.int .i64 g1.1),(6,.int .i64 g1.2.1)],[(0,⟨false,1,[A.sl ([].map aC.enc)],[[A.sl (g1.2.2.1.map aC.enc)]]⟩),(1,⟨false,1,[A.str ⟨#[]⟩],[[A.str g1.2.2.2]]⟩)],2⟩
instance zch9 (a0:Int) (a1:List aC) (a2:ByteArray):OkM (zh7 a0 a1 a2) 304 [.int .i64 a0,.clo 305 [.ptr 0 0 0,.ptr 1 0 0]] [(0,⟨false,1,[A.sl ([].map aC.enc)],[[A.sl (a1.map aC.enc)]]⟩),(1,⟨false,1,[A.str ⟨#[]⟩],[[A.str a2]]⟩)] 2 (fun r=>.int .i64 r.1) (fun r=>[(0,⟨false,1,[A.sl ([].map aC.enc)],[[A.sl (r.2.1.map aC.enc)]]⟩),(1,⟨false,1,[A.str ⟨#[]⟩],[[A.str r.2.2]]⟩)]) 2:=okm (zh7.eq_1 a0 a1 a2) (fun r=>[.int .i64 r.1]) Tryz.f304 [(20,1)]
attribute [local irreducible] zh7
def zl3 (a0:bC) (a1:ByteArray):Option aA :=
 (zf6 a0.aJ).bind fun v1 =>
 some ((mget a1 v1).getD aA.zero)
instance zcz0 (a0:bC) (a1:ByteArray):OkP (zl3 a0 a1) 234 [ga a0,.str a1] (fun r=>ga r):=ok1 (zl3.eq_1 a0 a1) Tryz.f234 []
attribute [local irreducible] zl3
def zd0 (a0:aF):Option aF :=
 (za9 a0.bA).bind fun v1 =>
 (za8 a0.aL).bind fun v2 =>
 (za8 a0.aS).bind fun v3 =>
 some ({ { { a0 with bA:=v1 } with aL:=v2 } with aS:=v3 })
instance zbE1 (a0:aF):OkP (zd0 a0) 25 [ga a0] (fun r=>ga r):=ok1 (zd0.eq_1 a0) Tryz.f25 []
attribute [local irreducible] zd0
def zh1 (a0 a1:bK):Option Bool :=
 ((if (decide (a0.aN=a1.aN)&&decide (a0.gen=a1.gen))=true then zf2 a0.bL a1.bL else some false)).bind fun v1 =>
 some ((decide (a0.aN=a1.aN)&&decide (a0.gen=a1.gen))&&v1)
instance zci0 (a0 a1:bK):OkP (zh1 a0 a1) 23 [ga a0,ga a1] (fun r=>.bool r):=ok1 (zh1.eq_1 a0 a1) Tryz.f23 []
attribute [local irreducible] zh1
def zp9 (a0:Int):Option aH :=
 (zp5 a0 8).bind fun v1 =>
 some (⟨(v1.tmod 4),1,i64.wrap (1+i64.wrap (v1.tdiv 4))⟩:aH)
instance zbJ0 (a0:Int):OkP (zp9 a0) 17 [.int .i64 a0] (fun r=>ga r):=ok1 (zp9.eq_1 a0) Tryz.f17 []
attribute [local irreducible] zp9
def zc8 (a0 a1:aH):Option Int :=
 (zg0 (⟨[a0.site,a0.inc,a0.num],rfl⟩:Arr Int 3) (⟨[a1.site,a1.inc,a1.num],rfl⟩:Arr Int 3)).bind fun v1 =>
 some v1
instance zaq9 (a0 a1:aH):OkP (zc8 a0 a1) 34 [ga a0,ga a1] (fun r=>.int .i64 r):=ok1 (zc8.eq_1 a0 a1) Tryz.f34 []
attribute [local irreducible] zc8
def zi0 (a0:aG):Option Int :=
 (ze1 a0 1 0).bind fun v1 =>
 some v1.1
instance zbd2 (a0:aG):OkP (zi0 a0) 80 [ga a0] (fun r=>.int .i64 r):=ok1 (zi0.eq_1 a0) Tryz.f80 []
attribute [local irreducible] zi0
def zaj8 (j1:(List Int)):Option (List Int) :=
 some j1
def zaj9 (a1:List Int) (g1:(List Int)×Int):Option (((List Int)×Int)⊕(List Int)) :=
 (if (decide (g1.2 < (a1.length:Int)))=true then
  gd (0≤g1.2∧g1.2 < (a1.length:Int)) <|
  (zg5 g1.1 (u64.wrap (a1.getD g1.2.toNat 0))).bind fun v1 =>
  some (.inl (v1,i64.wrap (g1.2+1)))
 else
  some (.inr g1.1))
def zc5 (a0 a1:List Int):Option (List Int) :=
 (zc6 (zaj9 a1) (a0,0)).bind (fun z=>zaj8 z)
@[reducible,instance] def zdk2 a0 a1:=mkJ (zc5 a0 a1) 0 (@zaj8.eq_1) fun (j1:(List Int))=>⟨[(0,.sl (j1.map (eI .u8)))],[],0⟩
@[reducible,instance] def zdk3 (a1:List Int) {T:Type} (x:T):=mkL x (@zaj9.eq_1 a1) fun (g1:(List Int)×Int)=>⟨[(0,.sl (g1.1.map (eI .u8))),(7,.sl (a1.map (eI .i64))),(8,.int .i64 (a1.length:Int)),(9,.int .i64 g1.2)],[],0⟩
instance zbR5 (a0 a1:List Int):OkP (zc5 a0 a1) 44 [.sl (a0.map (eI .u8)),.sl (a1.map (eI .i64))] (fun r=>.sl (r.map (eI .u8))):=ok1 (zc5.eq_1 a0 a1) Tryz.f44 []
attribute [local irreducible] zc5
def zi4 (a0:List Int) (a1:ByteArray):Option (List Int) :=
 (zf1 a0 (u64.wrap (a1.size:Int))).bind fun v1 =>
 gd (v1.length+a1.toList.length≤4294967296) <|
 some (v1++(a1.toList.map fun b=>(b.toNat:Int)))
instance zcm4 (a0:List Int) (a1:ByteArray):OkP (zi4 a0 a1) 94 [.sl (a0.map (eI .u8)),.str a1] (fun r=>.sl (r.map (eI .u8))):=ok1 (zi4.eq_1 a0 a1) Tryz.f94 [(9,1)]
attribute [local irreducible] zi4
def zo6 (a0:List Int):Option (ByteArray×Int×Int) :=
 (zk3 a0).bind fun v1 =>
 (if (!decide (v1.2.2=0))=true then
  some ((⟨#[]⟩:ByteArray),0,v1.2.2)
 else
  (if (decide (1024 < v1.1))=true then
   some ((⟨#[]⟩:ByteArray),0,3)
  else
   (if (decide (i64.wrap ((a0.length:Int) - v1.2.1) < i64.wrap v1.1))=true then
    some ((⟨#[]⟩:ByteArray),0,5)
   else
    gd (0≤v1.2.1∧v1.2.1≤i64.wrap (v1.2.1+i64.wrap v1.1)∧i64.wrap (v1.2.1+i64.wrap v1.1)≤(a0.length:Int)) <|
    some ((zaU2 ((a0.take ((i64.wrap (v1.2.1+i64.wrap v1.1)).toNat)).drop v1.2.1.toNat)),i64.wrap (v1.2.1+i64.wrap v1.1),0))))
instance zcI2 (a0:List Int):OkP (zo6 a0) 150 [.sl (a0.map (eI .u8))] (fun r=>.tup [.str r.1,.int .i64 r.2.1,.int .i64 r.2.2]):=ok1 (zo6.eq_1 a0) Tryz.f150 []
attribute [local irreducible] zo6
def za7 (a0:List aD) (a1:aD):Option Bool :=
 (za5 a0 a1).bind fun v1 =>
 some (decide (0≤v1))
instance zae0 (a0:List aD) (a1:aD):OkP (za7 a0 a1) 140 [la a0,ga a1] (fun r=>.bool r):=ok1 (za7.eq_1 a0 a1) Tryz.f140 []
attribute [local irreducible] za7
def zX5 (a0:aA):Bool :=
 (if (!decide (a0.mode=0))=true then
  (zs5 a0.mode&&decide (a0.aP=0))
 else
  (decide (1≤a0.aP)&&decide (a0.aP≤8)))
instance zcz1 (a0:aA):OkT 225 [.agg (aA.enc a0)] (.bool (zX5 a0)):=ok2 (fun r=>.bool r) (zX5.eq_1 a0) Tryz.f225 []
def zak0 (j1:Unit):Option Bool :=
 some true
def zM2 (a0:List bI) (a1:Int) (g1:Int×Int):Option ((Int×Int)⊕(Unit⊕Bool)) :=
 (if (decide (g1.2 < (a0.length:Int)))=true then
  gd (0≤g1.2∧g1.2 < (a0.length:Int)) <|
  gd ((!(decide ((a0.getD g1.2.toNat bI.zero).label < 1)||decide (99 < (a0.getD g1.2.toNat bI.zero).label)))=true→0≤0∧0≤g1.2∧g1.2≤(a0.length:Int)) <|
  ((if (!(decide ((a0.getD g1.2.toNat bI.zero).label < 1)||decide (99 < (a0.getD g1.2.toNat bI.zero).label)))=true then zh0 (a0.take g1.2.toNat) ((a0.getD g1.2.toNat bI.zero).label) else some 0)).bind fun v1 =>
  (if ((decide ((a0.getD g1.2.toNat bI.zero).label < 1)||decide (99 < (a0.getD g1.2.toNat bI.zero).label))||decide (0≤v1))=true then
   some (.inr (.inr false))
  else
   (if (decide ((a0.getD g1.2.toNat bI.zero).at_ < g1.1)||decide (a1 < (a0.getD g1.2.toNat bI.zero).at_))=true then
    some (.inr (.inr false))
   else
    some (.inl ((a0.getD g1.2.toNat bI.zero).at_,i64.wrap (g1.2+1)))))
 else
  some (.inr (.inl ())))
def ze2 (a0:List bI) (a1:Int):Option Bool :=
 (if (decide (4 < (a0.length:Int)))=true then
  some false
 else
  (zc6 (zM2 a0 a1) (0,0)).bind (fun|.inl z=>zak0 z|.inr z=>some z))
@[reducible,instance] def zdk4 a0 a1:=mkJ (ze2 a0 a1) 0 (@zak0.eq_1) fun (j1:Unit)=>⟨[],[],0⟩
@[reducible,instance] def zdk5 (a0:List bI) (a1:Int) {T:Type} (x:T):=mkL x (@zM2.eq_1 a0 a1) fun (g1:Int×Int)=>⟨[(0,la a0),(1,.int .i64 a1),(5,.int .i64 g1.1),(11,la a0),(12,.int .i64 (a0.length:Int)),(13,.int .i64 g1.2)],[],0⟩
instance zbR6 (a0:List bI) (a1:Int):OkP (ze2 a0 a1) 161 [la a0,.int .i64 a1] (fun r=>.bool r):=ok1 (ze2.eq_1 a0 a1) Tryz.f161 []
attribute [local irreducible] ze2
def zF4 (j1:aF):Option (Int×aF) :=
 some ((-1),j1)
def zr3 (a0:List aD) (g1:Int×aF):Option ((Int×aF)⊕(aF⊕(Int×aF))) :=
 (if (decide (g1.1 < (a0.length:Int)))=true then
  gd (0≤g1.1∧g1.1 < (a0.length:Int)) <|
  (zc3 (a0.getD g1.1.toNat aD.zero) g1.2).bind fun v1 =>
  (if v1.1=true then
   some (.inr (.inr (g1.1,v1.2)))
  else
   some (.inl ((i64.wrap (g1.1+1)),v1.2)))
 else
  some (.inr (.inl g1.2)))
def za4 (a0:List aD) (a1:aF):Option (Int×aF) :=
 (zc6 (zr3 a0) (0,a1)).bind (fun|.inl z=>zF4 z|.inr z=>some z)
@[reducible,instance] def zdk6 a0 a1:=mkJ (za4 a0 a1) 0 (@zF4.eq_1) fun (j1:aF)=>⟨[],[(0,bx j1)],1⟩
@[reducible,instance] def zdk7 (a0:List aD) {T:Type} (x:T):=mkL x (@zr3.eq_1 a0) fun (g1:Int×aF)=>⟨[(0,la a0),(1,.clo 236 [.ptr 0 0 0]),(7,.int .i64 (a0.length:Int)),(8,.int .i64 g1.1)],[(0,bx g1.2)],1⟩
instance zaK4 (a0:List aD) (a1:aF):OkM (za4 a0 a1) 235 [la a0,.clo 236 [.ptr 0 0 0]] [(0,bx a1)] 1 (fun r=>.int .i64 r.1) (fun r=>[(0,bx r.2)]) 1:=okm (za4.eq_1 a0 a1) (fun r=>[.int .i64 r.1]) Tryz.f235 [(16,1)]
attribute [local irreducible] za4
def zj0 (a0:aF) (a1:aH):Option (aA×Bool) :=
 (zi1 a0.aL a1).bind fun v1 =>
 (if (decide (0≤v1))=true then
  gd (0≤v1∧v1 < (a0.aL.length:Int)) <|
  some ((a0.aL.getD v1.toNat aR.zero).aI,true)
 else
  (zi1 a0.aS a1).bind fun v2 =>
  (if (decide (0≤v2))=true then
   gd (0≤v2∧v2 < (a0.aS.length:Int)) <|
   some ((a0.aS.getD v2.toNat aR.zero).aI,true)
  else
   some ({ aA.zero with  },false)))
instance zcs2 (a0:aF) (a1:aH):OkP (zj0 a0 a1) 187 [ga a0,ga a1] (fun r=>.tup [ga r.1,.bool r.2]):=ok1 (zj0.eq_1 a0 a1) Tryz.f187 []
attribute [local irreducible] zj0
def zb8 (a0:aC) (a1:aA):Bool :=
 (if (!(zk8 a0))=true then
  false
 else
  (if (decide (a0.kind=1))=true then
   (zs5 a1.mode&&decide (a1.aP=0))
  else
   ((decide (a1.mode=0)&&decide (1≤a1.aP))&&decide (a1.aP≤a0.aP))))
instance zcz2 (a0:aC) (a1:aA):OkT 109 [.agg (aC.enc a0),.agg (aA.enc a1)] (.bool (zb8 a0 a1)):=ok2 (fun r=>.bool r) (zb8.eq_1 a0 a1) Tryz.f109 []
def zG9 (a2:aU) (v1:Int×Int×Int) (j1:Int):Option (Int×aU) :=
 (if (!decide (j1=0))=true then
  some (0,{ a2 with bH:={ a2.bH with err:=j1 } })
 else
  gd (0≤v1.2.1∧v1.2.1≤(a2.bH.rest.length:Int)∧(a2.bH.rest.length:Int)≤(a2.bH.rest.length:Int)) <|
  some ((i64.wrap v1.1),{ a2 with bH:={ a2.bH with rest:=(a2.bH.rest.drop v1.2.1.toNat) } }))
def zc2 (a0 a1:Int) (a2:aU):Option (Int×aU) :=
 (if (!decide (a2.bH.err=0))=true then
  some (0,a2)
 else
  (zk3 a2.bH.rest).bind fun v1 =>
  (if (decide (v1.2.2=0)&&decide (u64.wrap a0 < v1.1))=true then
   zG9 a2 v1 a1
  else
   zG9 a2 v1 v1.2.2))
@[reducible,instance] def zdk8 a0 a1 (a2:aU) (v1:Int×Int×Int):=mkJ (zc2 a0 a1 a2,v1) 999 (@zG9.eq_1 a2 v1) fun (j1:Int)=>⟨[(0,.ptr 0 0 0),(7,.int .u64 v1.1),(8,.int .i64 v1.2.1),(9,.int .i64 j1)],[(0,bx a2)],1⟩
instance zbi6 (a0 a1:Int) (a2:aU):OkM (zc2 a0 a1 a2) 95 [.ptr 0 0 0,.int .i64 a0,.int .i64 a1] [(0,bx a2)] 1 (fun r=>.int .i64 r.1) (fun r=>[(0,bx r.2)]) 1:=okm (zc2.eq_1 a0 a1 a2) (fun r=>[.int .i64 r.1]) Tryz.f95 []
attribute [local irreducible] zc2
def zv6 (j1:Unit):Option Bool :=
 some true
def zv7 (a0 a1:List aR) (g1:Int):Option (Int⊕(Unit⊕Bool)) :=
 (if (decide (g1 < (a0.length:Int)))=true then
  gd (0≤g1∧g1 < (a0.length:Int)) <|
  gd (0≤g1∧g1 < (a1.length:Int)) <|
  (if (!(zR0 (a0.getD g1.toNat aR.zero) (a1.getD g1.toNat aR.zero)))=true then
   some (.inr (.inr false))
  else
   some (.inl (i64.wrap (g1+1))))
 else
  some (.inr (.inl ())))
def za1 (a0 a1:List aR):Option Bool :=
 (if (!decide ((a0.length:Int)=(a1.length:Int)))=true then
  some false
 else
  (zc6 (zv7 a0 a1) 0).bind (fun|.inl z=>zv6 z|.inr z=>some z))
@[reducible,instance] def zdk9 a0 a1:=mkJ (za1 a0 a1) 0 (@zv6.eq_1) fun (j1:Unit)=>⟨[],[],0⟩
@[reducible,instance] def zdl0 (a0 a1:List aR) {T:Type} (x:T):=mkL x (@zv7.eq_1 a0 a1) fun (g1:Int)=>⟨[(1,la a1),(2,.clo 153 []),(15,la a0),(16,.int .i64 (a0.length:Int)),(17,.int .i64 g1)],[],0⟩
instance zH0 (a0 a1:List aR):OkM (za1 a0 a1) 152 [la a0,la a1,.clo 153 []] [] 0 (fun r=>.bool r) (fun r=>[]) 0:=okm (za1.eq_1 a0 a1) (fun r=>[.bool r]) Tryz.f152 []
attribute [local irreducible] za1
def zA2 (a90:(aG→aG→Option Bool)) (a0 a1:aG):Option Bool :=
 ((if (decide (a0.k=a1.k)&&decide (a0.aZ=a1.aZ))=true then za0 a90 a0.aV a1.aV else some false)).bind fun v1 =>
 some ((decide (a0.k=a1.k)&&decide (a0.aZ=a1.aZ))&&v1)
def zB7:Nat→(aG→aG→Option Bool)
 | 0=>fun _ _=>none
 | n+1=>zA2 (zB7 n)
def zf4 (a0 a1:aG):Option Bool:=zB7 (_root_.SizeOf.sizeOf a0+1) a0 a1
theorem zaG6 (a90:(aG→aG→Option Bool)) (hrc:∀ (a0:aG) (a1:aG) (r:Bool),a90 a0 a1=some r→PFn C 101 [ga a0,ga a1] (.bool r)) (a0 a1:aG) (r:Bool) (h:zA2 a90 a0 a1=some r):PFn C 101 [ga a0,ga a1] (.bool r):=by
 refine zae3 Tryz.f101 [] fun E hG hN hK=>?_
 have hm:Mk (zA2 a90 a0 a1):=trivial
 unfold zA2 at h
 refine zb2 (zc0 hG ?_)
 refine zb2 (zc0 hG ?_)
 obtain ⟨v1,hv1,h⟩:=zn1 h
 have hm:=mkP hm v1
 refine zbr7 [] [] hv1 (fun hc=>zG7 a90 hrc a0.aV a1.aV _ hc) rfl ?_
 exact gogo
theorem zak1:∀ (n:Nat) (a0:aG) (a1:aG) (r:Bool),zB7 n a0 a1=some r→PFn C 101 [ga a0,ga a1] (.bool r)
 | 0,_,_,_,h=>nomatch h
 | n+1,a0,a1,r,h=>zaG6 (zB7 n) (zak1 n) a0 a1 r h
instance zbM3 (a0 a1:aG):OkP (zf4 a0 a1) 101 [ga a0,ga a1] (fun r=>.bool r):=⟨fun r h=>zak1 _ a0 a1 r h⟩
attribute [local irreducible] zf4
def zi5 (a0 a1:aD):Option Int :=
 (zf0 a0.name a1.name).bind fun v1 =>
 some v1
instance zbd3 (a0 a1:aD):OkP (zi5 a0 a1) 164 [ga a0,ga a1] (fun r=>.int .i64 r):=ok1 (zi5.eq_1 a0 a1) Tryz.f164 []
attribute [local irreducible] zi5
def zA3 (a0:Int):Bool :=
 (((zJ1 a0||(decide (48≤a0)&&decide (a0≤57)))||decide (a0=95))||decide (a0=45))
instance zcI3 (a0:Int):OkT 213 [.int .u8 a0] (.bool (zA3 a0)):=ok2 (fun r=>.bool r) (zA3.eq_1 a0) Tryz.f213 []
def zw1 (a0 a1:aH):Int :=
 (if (!decide (zI5 a0.site a1.site=0))=true then
  (zI5 a0.site a1.site)
 else
  (if (!decide (zI5 a0.inc a1.inc=0))=true then
   (zI5 a0.inc a1.inc)
  else
   (zI5 a0.num a1.num)))
instance zbR7 (a0 a1:aH):OkT 71 [.agg (aH.enc a0),.agg (aH.enc a1)] (.int .i64 (zw1 a0 a1)):=ok2 (fun r=>.int .i64 r) (zw1.eq_1 a0 a1) Tryz.f71 []
def zq0 (a0:aA):Bool :=
 ((zx8 a0.mode&&decide (a0.aP=0))||((decide (a0.mode=0)&&decide (1≤a0.aP))&&decide (a0.aP≤8)))
instance zaJ2 (a0:aA):OkT 148 [.agg (aA.enc a0)] (.bool (zq0 a0)):=ok2 (fun r=>.bool r) (zq0.eq_1 a0) Tryz.f148 []
def ze8 (a0 a1:bG):Option Bool :=
 (zf2 a0.bL a1.bL).bind fun v1 =>
 some ((v1&&decide (a0.aW=a1.aW))&&decide (a0.limit=a1.limit))
instance zbR8 (a0 a1:bG):OkP (ze8 a0 a1) 121 [ga a0,ga a1] (fun r=>.bool r):=ok1 (ze8.eq_1 a0 a1) Tryz.f121 []
attribute [local irreducible] ze8
def zn7 (a0 a1:aF):Option Bool :=
 ((if (decide (a0.aB=a1.aB)&&decide (a0.gen=a1.gen))=true then ze5 a0.bA a1.bA else some false)).bind fun v1 =>
 ((if ((decide (a0.aB=a1.aB)&&decide (a0.gen=a1.gen))&&v1)=true then ze3 a0.aL a1.aL else some false)).bind fun v2 =>
 ((if (((decide (a0.aB=a1.aB)&&decide (a0.gen=a1.gen))&&v1)&&v2)=true then ze3 a0.aS a1.aS else some false)).bind fun v3 =>
 some ((((decide (a0.aB=a1.aB)&&decide (a0.gen=a1.gen))&&v1)&&v2)&&v3)
instance zcI4 (a0 a1:aF):OkP (zn7 a0 a1) 59 [ga a0,ga a1] (fun r=>.bool r):=ok1 (zn7.eq_1 a0 a1) Tryz.f59 []
attribute [local irreducible] zn7
end
end Ab
end Go.Proofs.YtenebhlnfjcffaaGreatDoor
