import Derived.Test.YtfkjffmjkbkmhaaGreatDoorHm2
import Derived.Test.YtfkjffmjkbkmhaaGreatDoorHm4
namespace Go.Proofs.YtfkjffmjkbkmhaaGreatDoor
namespace Ab
open IntKind (i64 u64 u8)
set_option linter.unusedSimpArgs false
set_option linter.defProp false
set_option linter.unusedVariables false
set_option maxRecDepth 100000
set_option maxHeartbeats 1000000
noncomputable section
attribute [local irreducible] zl7 zl8 zb2 za3 zd9 za8 zm2 zj6 zg1 zg2 zf8 zb1 zf5 zg6 zj1 ze3 za9 zj4 zi1 zh6 zg4 zf2 zc4 zi7 zb0 zf0 zl9 zh2 zm6 zh3 zi2 zk8 zn7 zm0 f_ref08_holds zc3 zk9 ze0 zm3 zf7 zh4 zf6 zb3 zl0 za0 ze7 zi5 ze8 zj3 zd7 zg5
def zc5 (a0:aK):Bool :=
 ((zP0 a0.site 0 3&&zP0 a0.inc 1 99)&&zP0 a0.num 1 999)
instance zcw1 (a0:aK):OkT 48 [.agg (aK.enc a0)] (.bool (zc5 a0)):=ok2 (fun r=>.bool r) (zc5.eq_1 a0) Tryz.f48 []
def za4 (a0:aI) (a1:aD):Bool :=
 (if (!(ze9 a0))=true then
  false
 else
  (if (decide (a0.kind=1))=true then
   (zu8 a1.mode&&decide (a1.aR=0))
  else
   ((decide (a1.mode=0)&&decide (1≤a1.aR))&&decide (a1.aR≤a0.aR))))
instance zcW7 (a0:aI) (a1:aD):OkT 171 [.agg (aI.enc a0),.agg (aD.enc a1)] (.bool (za4 a0 a1)):=ok2 (fun r=>.bool r) (za4.eq_1 a0 a1) Tryz.f171 []
def zB8 (j2:(List aT)):Option (List aT) :=
 some j2
@[go_sem] def zds0  (j2:(List aT)):St:=⟨[(6,.own 0 0 j2.length)],[(0,sx j2)],1⟩
def zn0 (a0:List (List aT)) (g1:Int×(List aT)):Option ((Int×(List aT))⊕(List aT)) :=
 (if (decide (g1.1 < (a0.length:Int)))=true then
  gd (0≤g1.1∧g1.1 < (a0.length:Int)) <|
  gd (g1.2.length+(a0.getD g1.1.toNat []).length≤4294967296) <|
  some (.inl ((i64.wrap (g1.1+1)),(g1.2++a0.getD g1.1.toNat [])))
 else
  some (.inr g1.2))
@[go_sem] def zds1 (a0:List (List aT)) (g1:Int×(List aT)):St:=⟨[(6,.own 0 0 g1.2.length),(25,.sl (a0.map (eL aT.enc))),(26,.int .i64 (a0.length:Int)),(27,.int .i64 g1.1)],[(0,sx g1.2)],1⟩
def zx0 (a0:List (List aT)) (j1:Int):Option (List aT) :=
 (zb2 j1).bind fun v1 =>
 (zb9 (zn0 a0) (0,v1)).bind (fun z=>zB8 z)
@[go_sem] def zds2 (a0:List (List aT)) (j1:Int):St:=⟨[(0,.sl (a0.map (eL aT.enc))),(3,.int .i64 j1)],[],0⟩
def zn1 (a0:List (List aT)) (g2:Int×Int):Option ((Int×Int)⊕Int) :=
 (if (decide (g2.2 < (a0.length:Int)))=true then
  gd (0≤g2.2∧g2.2 < (a0.length:Int)) <|
  (if (decide (i64.wrap (g2.1+((a0.getD g2.2.toNat []).length:Int)) < 0))=true then
   none
  else
   some (.inl ((i64.wrap (g2.1+((a0.getD g2.2.toNat []).length:Int))),i64.wrap (g2.2+1))))
 else
  some (.inr g2.1))
@[go_sem] def zds3 (a0:List (List aT)) (g2:Int×Int):St:=⟨[(0,.sl (a0.map (eL aT.enc))),(3,.int .i64 g2.1),(9,.sl (a0.map (eL aT.enc))),(10,.int .i64 (a0.length:Int)),(11,.int .i64 g2.2)],[],0⟩
def zb4 (a0:List (List aT)):Option (List aT) :=
 (zb9 (zn1 a0) (0,0)).bind (fun z=>zx0 a0 z)
theorem zaq0 (a0:List (List aT)) (r:(List aT)) (h:zb4 a0=some r):PFn C 120 [.sl (a0.map (eL aT.enc))] (la r):=by
 refine zY9 Tryz.f120 [] fun E hG hN hK=>?_
 unfold zb4 at h
 refine za2 (za5 hG ?_)
 refine za2 (za5 hG ?_)
 refine za2 (za2 (za5 hG ?_))
 refine zD0 (zds2 a0) (fun v=>zx0 a0 v=some r) ?_ ?_
 · intro j1 h
   unfold zx0 at h
   refine g_st ?_
   refine za2 (za5 hG ?_)
   obtain ⟨v1,hv1,h⟩:=zc7 h
   refine zr6 [] [(0,0)] [0] (zan4 _ _ hv1) rfl rfl ?_
   refine za2 (za2 (za5 hG ?_))
   refine zD0 zds0 (fun v=>zB8 v=some r) ?_ ?_
   · intro j2 h
     unfold zB8 at h
     refine g_st ?_
     refine za2 (za5 hG ?_)
     refine zt4 ?_
     exact zJ4 h
   refine zY8 (zds1 a0) hK [(0,0)] h (fun x_l1 h g1 y_l1 h_l1 hx_l1=>?_)
   unfold zn0 at h_l1
   refine g_st ?_
   refine za2 (za5 hG ?_)
   refine za2 ?_
   refine zl4 rfl hG h_l1 (fun _ h_l1=>?_) (fun _ h_l1=>?_)
   · refine zk1 ?_
     refine za2 (zC3 (za2 ?_))
     obtain ⟨hb2,h_l1⟩:=ze1 h_l1
     refine za5 hG ?_
     obtain ⟨hb1,h_l1⟩:=ze1 h_l1
     refine za5 hG ?_
     refine za5 hG ?_
     exact zJ0 hK [(0,1)] h_l1
   refine zG4 ?_
   cases h_l1
   cases hx_l1 _ rfl
   exact zA9 hK [(0,0)] g1.2 (by exact h)
 refine zY8 (zds3 a0) hK [] h (fun x_l2 h g2 y_l2 h_l2 hx_l2=>?_)
 unfold zn1 at h_l2
 refine g_st ?_
 refine za2 (za5 hG ?_)
 refine za2 ?_
 refine zl4 rfl hG h_l2 (fun _ h_l2=>?_) (fun _ h_l2=>?_)
 · refine zk1 ?_
   refine za2 (zC3 (za2 ?_))
   obtain ⟨hb3,h_l2⟩:=ze1 h_l2
   refine za5 hG ?_
   refine za2 (za5 hG ?_)
   refine za2 (za5 hG ?_)
   refine zl4 rfl hG h_l2 (fun _ h_l2=>?_) (fun _ h_l2=>?_)
   · exact zdr4 h_l2
   refine zk1 ?_
   refine za5 hG ?_
   exact zJ0 hK [] h_l2
 refine zG4 ?_
 cases h_l2
 cases hx_l2 _ rfl
 exact zA9 hK [] g2.1 (by exact h)
instance zbk8 (a0:List (List aT)):OkP (zb4 a0) 120 [.sl (a0.map (eL aT.enc))] (fun r=>la r):=⟨zaq0 a0⟩
attribute [local irreducible] zb4
def zb5 (a0:List aM) (a1:aM):Option Bool :=
 (zb3 a0 a1).bind fun v1 =>
 some (decide (0≤v1))
instance zam8 (a0:List aM) (a1:aM):OkP (zb5 a0 a1) 119 [la a0,ga a1] (fun r=>.bool r):=ok1 (zb5.eq_1 a0 a1) Tryz.f119 []
attribute [local irreducible] zb5
def zf1 (a0 a1:bK):Option Bool :=
 (zg4 a0.bP a1.bP).bind fun v1 =>
 some ((v1&&decide (a0.bC=a1.bC))&&decide (a0.limit=a1.limit))
instance zcm3 (a0 a1:bK):OkP (zf1 a0 a1) 138 [ga a0,ga a1] (fun r=>.bool r):=ok1 (zf1.eq_1 a0 a1) Tryz.f138 []
attribute [local irreducible] zf1
def zh7 (a0:aA) (a1:aK):Option (aD×Bool) :=
 (zj4 a0.aO a1).bind fun v1 =>
 (if (decide (0≤v1))=true then
  gd (0≤v1∧v1 < (a0.aO.length:Int)) <|
  some ((a0.aO.getD v1.toNat aT.zero).aN,true)
 else
  (zj4 a0.aS a1).bind fun v2 =>
  (if (decide (0≤v2))=true then
   gd (0≤v2∧v2 < (a0.aS.length:Int)) <|
   some ((a0.aS.getD v2.toNat aT.zero).aN,true)
  else
   some ({ aD.zero with  },false)))
instance zbD1 (a0:aA) (a1:aK):OkP (zh7 a0 a1) 194 [ga a0,ga a1] (fun r=>.tup [ga r.1,.bool r.2]):=ok1 (zh7.eq_1 a0 a1) Tryz.f194 []
attribute [local irreducible] zh7
def zm8 (a0:aP):Option Int :=
 (zn7 a0 1).bind fun v1 =>
 (if (decide (24 < v1.1))=true then
  some 0
 else
  some v1.1)
instance zbK6 (a0:aP):OkP (zm8 a0) 236 [ga a0] (fun r=>.int .i64 r):=ok1 (zm8.eq_1 a0) Tryz.f236 []
attribute [local irreducible] zm8
def zd3 (a0:Int) (a1:aX):Option (Int×(List aA)×(List aG)×(List bJ)) :=
 gd (0≤a0∧a0 < ((a1.c.aF.length:Nat):Int)) <|
 gd (0≤a0∧a0 < ((a1.c.aF.length:Nat):Int)) <|
 some (a1.c.now,a1.c.aC,a1.c.aF.set a0.toNat ({ (a1.c.aF.getD a0.toNat aG.zero) with gen:=(zm5 ((a1.c.aF.getD a0.toNat aG.zero).gen)) }),a1.ev)
instance zba3 (a0:Int) (a1:aX):OkM (zd3 a0 a1) 207 [.ptr 0 0 0,.int .i64 a0] [(0,⟨false,4,aX.enc aX.zero,[[.int .i64 a1.c.now,la a1.c.aC,.own 1 0 a1.c.aF.length,.own 2 0 a1.ev.length]]⟩),(1,sx a1.c.aF),(2,sx a1.ev)] 3 (fun r=>.tup []) (fun r=>[(0,⟨false,4,aX.enc aX.zero,[[.int .i64 r.1,la r.2.1,.own 1 0 r.2.2.1.length,.own 2 0 r.2.2.2.length]]⟩),(1,sx r.2.2.1),(2,sx r.2.2.2)]) 3:=okm (zd3.eq_1 a0 a1) (fun r=>[]) Tryz.f207 []
attribute [local irreducible] zd3
def zd8 (a0 a1:aK):Option Int :=
 (zg6 (⟨[a0.site,a0.inc,a0.num],rfl⟩:Arr Int 3) (⟨[a1.site,a1.inc,a1.num],rfl⟩:Arr Int 3)).bind fun v1 =>
 some v1
instance zaD3 (a0 a1:aK):OkP (zd8 a0 a1) 32 [ga a0,ga a1] (fun r=>.int .i64 r):=ok1 (zd8.eq_1 a0 a1) Tryz.f32 []
attribute [local irreducible] zd8
def zn8 (a0:aA) (a1:aK):Option aD :=
 (zj1 a0.aQ a1).bind fun v1 =>
 some v1
instance zdg7 (a0:aA) (a1:aK):OkP (zn8 a0 a1) 217 [ga a0,ga a1] (fun r=>ga r):=ok1 (zn8.eq_1 a0 a1) Tryz.f217 []
attribute [local irreducible] zn8
def zK3 (a2:bD) (v1:Int×Int×Int) (j1:Int):Option (Int×bD) :=
 (if (!decide (j1=0))=true then
  some (0,{ a2 with bO:={ a2.bO with err:=j1 } })
 else
  gd (0≤v1.2.1∧v1.2.1≤(a2.bO.rest.length:Int)∧(a2.bO.rest.length:Int)≤(a2.bO.rest.length:Int)) <|
  some ((i64.wrap v1.1),{ a2 with bO:={ a2.bO with rest:=(a2.bO.rest.drop v1.2.1.toNat) } }))
def zc0 (a0 a1:Int) (a2:bD):Option (Int×bD) :=
 (if (!decide (a2.bO.err=0))=true then
  some (0,a2)
 else
  (zl9 a2.bO.rest).bind fun v1 =>
  (if (decide (v1.2.2=0)&&decide (u64.wrap a0 < v1.1))=true then
   zK3 a2 v1 a1
  else
   zK3 a2 v1 v1.2.2))
@[reducible,instance] def zdI6 a0 a1 (a2:bD) (v1:Int×Int×Int):=mkJ (zc0 a0 a1 a2,v1) 999 (@zK3.eq_1 a2 v1) fun (j1:Int)=>⟨[(0,.ptr 0 0 0),(7,.int .u64 v1.1),(8,.int .i64 v1.2.1),(9,.int .i64 j1)],[(0,bx a2)],1⟩
instance zbB4 (a0 a1:Int) (a2:bD):OkM (zc0 a0 a1 a2) 73 [.ptr 0 0 0,.int .i64 a0,.int .i64 a1] [(0,bx a2)] 1 (fun r=>.int .i64 r.1) (fun r=>[(0,bx r.2)]) 1:=okm (zc0.eq_1 a0 a1 a2) (fun r=>[.int .i64 r.1]) Tryz.f73 []
attribute [local irreducible] zc0
def zd5 (a0:bI):Option bI :=
 (zd9 a0.bP).bind fun v1 =>
 some ({ a0 with bP:=v1 })
instance zac9 (a0:bI):OkP (zd5 a0) 25 [ga a0] (fun r=>ga r):=⟨fun r h=>by
 refine zY9 Tryz.f25 [] fun E hG hN hK=>?_
 have hm:Mk (zd5 a0):=trivial
 unfold zd5 at h
 refine za2 (za5 hG ?_)
 refine za2 (za5 hG ?_)
 obtain ⟨v1,hv1,h⟩:=zc7 h
 have hm:=mkP hm v1
 refine zr9 (fun hg=>(zaW3 a0.bP).ok _ hv1) ?_
 refine za2 (za5 hG ?_)
 refine zt4 ?_
 exact zJ4 h (by intro e; subst e; simp [aK.enc,aM.enc,aD.enc])⟩
attribute [local irreducible] zd5
def zB1 (a90:(aP→aP→Option Bool)) (a0 a1:aP):Option Bool :=
 ((if (decide (a0.k=a1.k)&&decide (a0.bF=a1.bF))=true then za0 a90 a0.bE a1.bE else some false)).bind fun v1 =>
 some ((decide (a0.k=a1.k)&&decide (a0.bF=a1.bF))&&v1)
def zC8:Nat→(aP→aP→Option Bool)
 | 0=>fun _ _=>none
 | n+1=>zB1 (zC8 n)
def zf3 (a0 a1:aP):Option Bool:=zC8 (_root_.SizeOf.sizeOf a0+1) a0 a1
theorem zaW4 (a90:(aP→aP→Option Bool)) (hrc:∀ (a0:aP) (a1:aP) (r:Bool),a90 a0 a1=some r→PFn C 62 [ga a0,ga a1] (.bool r)) (a0 a1:aP) (r:Bool) (h:zB1 a90 a0 a1=some r):PFn C 62 [ga a0,ga a1] (.bool r):=by
 refine zY9 Tryz.f62 [] fun E hG hN hK=>?_
 have hm:Mk (zB1 a90 a0 a1):=trivial
 unfold zB1 at h
 refine za2 (za5 hG ?_)
 refine za2 (za5 hG ?_)
 obtain ⟨v1,hv1,h⟩:=zc7 h
 have hm:=mkP hm v1
 refine zaQ8 [] [] hv1 (fun hc=>zK2 a90 hrc a0.bE a1.bE _ hc) rfl ?_
 exact gogo
theorem zau3:∀ (n:Nat) (a0:aP) (a1:aP) (r:Bool),zC8 n a0 a1=some r→PFn C 62 [ga a0,ga a1] (.bool r)
 | 0,_,_,_,h=>nomatch h
 | n+1,a0,a1,r,h=>zaW4 (zC8 n) (zau3 n) a0 a1 r h
instance zch7 (a0 a1:aP):OkP (zf3 a0 a1) 62 [ga a0,ga a1] (fun r=>.bool r):=⟨fun r h=>zau3 _ a0 a1 r h⟩
attribute [local irreducible] zf3
def zV0 :List Int:=[5,5,3,4,2,1,3,5]
def zp8 (a0:Int):Option Int :=
 (zl7 a0 (zV0.length:Int)).bind fun v1 =>
 gd (0≤v1∧v1 < (zV0.length:Int)) <|
 some (zV0.getD v1.toNat 0)
instance zdk9 (a0:Int):OkP (zp8 a0) 268 [.int .i64 a0] (fun r=>.int .i64 r):=⟨fun r h=>by
 refine zY9 Tryz.f268 [] fun E hG hN hK=>?_
 have hm:Mk (zp8 a0):=trivial
 unfold zp8 at h
 refine za2 (za5 hG ?_)
 refine za2 (za5 hG ?_)
 refine g_gh (.cast 3 (.full (zV0.map (eI .i64)))) ?_
 exact gogo⟩
attribute [local irreducible] zp8
def zs1 (a0 a1:aK):Int :=
 (if (!decide (zM0 a0.site a1.site=0))=true then
  (zM0 a0.site a1.site)
 else
  (if (!decide (zM0 a0.inc a1.inc=0))=true then
   (zM0 a0.inc a1.inc)
  else
   (zM0 a0.num a1.num)))
instance zcm4 (a0 a1:aK):OkT 90 [.agg (aK.enc a0),.agg (aK.enc a1)] (.int .i64 (zs1 a0 a1)):=ok2 (fun r=>.int .i64 r) (zs1.eq_1 a0 a1) Tryz.f90 []
def zm4 (a0:aD):Bool :=
 ((zy0 a0.mode&&decide (a0.aR=0))||((decide (a0.mode=0)&&decide (1≤a0.aR))&&decide (a0.aR≤8)))
instance zaZ2 (a0:aD):OkT 232 [.agg (aD.enc a0)] (.bool (zm4 a0)):=ok2 (fun r=>.bool r) (zm4.eq_1 a0) Tryz.f232 []
def zo8 (a0:Int):Option aK :=
 (zl7 a0 8).bind fun v1 =>
 some (⟨(v1.tmod 4),1,i64.wrap (1+i64.wrap (v1.tdiv 4))⟩:aK)
instance zcd6 (a0:Int):OkP (zo8 a0) 10 [.int .i64 a0] (fun r=>ga r):=ok1 (zo8.eq_1 a0) Tryz.f10 []
attribute [local irreducible] zo8
def zau4 (j1:Unit):Option Bool :=
 some true
def zB2 (a0:ByteArray) (g1:Int):Option (Int⊕(Unit⊕Bool)) :=
 (if (decide (g1 < (a0.size:Int)))=true then
  gd (0≤g1∧g1 < (a0.size:Int)) <|
  (if ((!(decide (97≤((a0.toList.getD g1.toNat 0).toNat:Int))&&decide (((a0.toList.getD g1.toNat 0).toNat:Int)≤122)))&&(decide (g1=0)||(!(((decide (48≤((a0.toList.getD g1.toNat 0).toNat:Int))&&decide (((a0.toList.getD g1.toNat 0).toNat:Int)≤57))||decide (((a0.toList.getD g1.toNat 0).toNat:Int)=95))||decide (((a0.toList.getD g1.toNat 0).toNat:Int)=45)))))=true then
   some (.inr (.inr false))
  else
   some (.inl (i64.wrap (g1+1))))
 else
  some (.inr (.inl ())))
def ze4 (a0:ByteArray):Option Bool :=
 (if ((decide ((a0.size:Int) < 1)||decide (12 < (a0.size:Int)))||zJ9 a0)=true then
  some false
 else
  (zb9 (zB2 a0) 0).bind (fun|.inl z=>zau4 z|.inr z=>some z))
@[reducible,instance] def zea3 a0:=mkJ (ze4 a0) 0 (@zau4.eq_1) fun (j1:Unit)=>⟨[],[],0⟩
@[reducible,instance] def zea4 (a0:ByteArray) {T:Type} (x:T):=mkL x (@zB2.eq_1 a0) fun (g1:Int)=>⟨[(0,.str a0),(20,.int .i64 (a0.size:Int)),(21,.int .i64 g1)],[],0⟩
instance zcm5 (a0:ByteArray):OkP (ze4 a0) 170 [.str a0] (fun r=>.bool r):=ok1 (ze4.eq_1 a0) Tryz.f170 []
attribute [local irreducible] ze4
def zk2 (a0:List Int) (a1:ByteArray):Option (List Int) :=
 (zf6 a0 (u64.wrap (a1.size:Int))).bind fun v1 =>
 gd (v1.length+a1.toList.length≤4294967296) <|
 some (v1++(a1.toList.map fun b=>(b.toNat:Int)))
instance zcJ8 (a0:List Int) (a1:ByteArray):OkP (zk2 a0 a1) 72 [.sl (a0.map (eI .u8)),.str a1] (fun r=>.sl (r.map (eI .u8))):=ok1 (zk2.eq_1 a0 a1) Tryz.f72 [(9,1)]
attribute [local irreducible] zk2
def zb7 (a0:Int) (a1:bL):Option (Int×bL) :=
 (if (decide ((a1.l.length:Int)≤a1.at_))=true then
  some (0,a1)
 else
  gd (0≤i64.wrap (({ a1 with at_:=(i64.wrap (a1.at_+1)) }).at_ - 1)∧i64.wrap (({ a1 with at_:=(i64.wrap (a1.at_+1)) }).at_ - 1) < ((({ a1 with at_:=(i64.wrap (a1.at_+1)) }).l).length:Int)) <|
  (zl7 ((({ a1 with at_:=(i64.wrap (a1.at_+1)) }).l).getD ((i64.wrap (({ a1 with at_:=(i64.wrap (a1.at_+1)) }).at_ - 1)).toNat) 0) a0).bind fun v1 =>
  some (v1,{ a1 with at_:=(i64.wrap (a1.at_+1)) }))
instance zt0 (a0:Int) (a1:bL):OkM (zb7 a0 a1) 92 [.ptr 0 0 0,.int .i64 a0] [(0,bx a1)] 1 (fun r=>.int .i64 r.1) (fun r=>[(0,bx r.2)]) 1:=okm (zb7.eq_1 a0 a1) (fun r=>[.int .i64 r.1]) Tryz.f92 []
attribute [local irreducible] zb7
def zB3 (a0:Int):Bool :=
 (((zN0 a0||(decide (48≤a0)&&decide (a0≤57)))||decide (a0=95))||decide (a0=45))
instance zdg8 (a0:Int):OkT 231 [.int .u8 a0] (.bool (zB3 a0)):=ok2 (fun r=>.bool r) (zB3.eq_1 a0) Tryz.f231 []
def zK4 (a0 a1:Int):Bool :=
 (if ((((!(zy0 a0))||(!(zy0 a1)))||decide (a0=5))||decide (a1=5))=true then
  false
 else
  ((decide (a0=1)||decide (a1=1))||(decide (a0=a1)&&(!decide (a0=4)))))
instance zct3 (a0 a1:Int):OkT 286 [.int .i64 a0,.int .i64 a1] (.bool (zK4 a0 a1)):=ok2 (fun r=>.bool r) (zK4.eq_1 a0 a1) Tryz.f286 []
def zN1 (a0 a1:Int):Bool :=
 (if ((!(zy0 a0))||(!(zy0 a1)))=true then
  false
 else
  (((decide (a0=a1)||decide (a0=5))||decide (a1=1))||(decide (a0=4)&&(!decide (a1=5)))))
instance zcQ5 (a0 a1:Int):OkT 233 [.int .i64 a0,.int .i64 a1] (.bool (zN1 a0 a1)):=ok2 (fun r=>.bool r) (zN1.eq_1 a0 a1) Tryz.f233 []
def zaG0 (j1:(List aM)):Option (List aM) :=
 some j1
def zY3 (a0:aW) (v1:(List ByteArray)) (g1:Int×(List aM)):Option ((Int×(List aM))⊕(List aM)) :=
 (if (decide (g1.1 < (v1.length:Int)))=true then
  gd (0≤g1.1∧g1.1 < (v1.length:Int)) <|
  (zi5 a0.aH (v1.getD g1.1.toNat ⟨#[]⟩)).bind fun v2 =>
  (if (!decide (v2={ aD.zero with  }))=true then
   gd (0≤g1.1∧g1.1 < (v1.length:Int)) <|
   gd (g1.2.length+1≤4294967296) <|
   some (.inl ((i64.wrap (g1.1+1)),(g1.2++[(⟨(v1.getD g1.1.toNat ⟨#[]⟩),v2⟩:aM)])))
  else
   some (.inl ((i64.wrap (g1.1+1)),g1.2)))
 else
  some (.inr g1.2))
def zh8 (a0:aW):Option (List aM) :=
 (zi1 a0.aH).bind fun v1 =>
 (zb9 (zY3 a0 v1) (0,[])).bind (fun z=>zaG0 z)
@[reducible,instance] def zdI7 a0 {T1:Type} (v1:T1):=mkJ (zh8 a0,v1) 0 (@zaG0.eq_1) fun (j1:(List aM))=>⟨[(3,.own 0 0 j1.length)],[(0,sx j1)],1⟩
@[reducible,instance] def zdI8 (a0:aW) (v1:(List ByteArray)) {T:Type} (x:T):=mkL x (@zY3.eq_1 a0 v1) fun (g1:Int×(List aM))=>⟨[(1,.ptr 0 0 0),(3,.own 1 0 g1.2.length),(4,.sl (v1.map eS)),(5,.int .i64 g1.1)],[(0,bx a0),(1,sx g1.2)],2⟩
instance zcE5 (a0:aW):OkP (zh8 a0) 135 [ga a0] (fun r=>la r):=ok1 (zh8.eq_1 a0) Tryz.f135 [(3,1)]
attribute [local irreducible] zh8
def zd6 (a0:aA):Option aA :=
 (zb1 a0.aQ).bind fun v1 =>
 (zb0 a0.aO).bind fun v2 =>
 (zb0 a0.aS).bind fun v3 =>
 some ({ { { a0 with aQ:=v1 } with aO:=v2 } with aS:=v3 })
instance zar5 (a0:aA):OkP (zd6 a0) 22 [ga a0] (fun r=>ga r):=ok1 (zd6.eq_1 a0) Tryz.f22 []
attribute [local irreducible] zd6
def zak5 (a1:aK) (a2:aD) (j1:Int×(List aV)):Option (List aV) :=
 (if (zj7 a2)=true then
  some j1.2
 else
  (if (decide (j1.1 < 0))=true then
   gd (j1.2.length+1≤4294967296) <|
   gd (0≤i64.wrap (((j1.2.length:Nat):Int)+1)∧i64.wrap (((j1.2.length:Nat):Int)+1)≤((j1.2.length+1:Nat):Int)∧((j1.2.length+1:Nat):Int)≤((j1.2.length+1:Nat):Int)) <|
   gd (0≤((j1.2.length:Nat):Int)∧((j1.2.length:Nat):Int)≤((j1.2.length+1:Nat):Int)∧((j1.2.length+1:Nat):Int)≤((j1.2.length+1:Nat):Int)) <|
   gd (0≤((j1.2.length:Nat):Int)∧((j1.2.length:Nat):Int) < ((j1.2.length+1:Nat):Int)) <|
   some (((j1.2++[{ aV.zero with  }]).take (i64.wrap (((j1.2.length:Nat):Int)+1)).toNat++(((j1.2++[{ aV.zero with  }]).drop (((j1.2.length:Nat):Int).toNat)).take (j1.2.length+1 - ((j1.2.length:Nat):Int).toNat)).take (j1.2.length+1 - (i64.wrap (((j1.2.length:Nat):Int)+1)).toNat)++(j1.2++[{ aV.zero with  }]).drop ((i64.wrap (((j1.2.length:Nat):Int)+1)).toNat+min (((j1.2++[{ aV.zero with  }]).drop (((j1.2.length:Nat):Int).toNat)).take (j1.2.length+1 - ((j1.2.length:Nat):Int).toNat)).length (j1.2.length+1 - (i64.wrap (((j1.2.length:Nat):Int)+1)).toNat))).set (((j1.2.length:Nat):Int).toNat) (⟨a1,a2⟩:aV))
  else
   gd (j1.2.length+1≤4294967296) <|
   gd (0≤i64.wrap (j1.1+1)∧i64.wrap (j1.1+1)≤((j1.2.length+1:Nat):Int)∧((j1.2.length+1:Nat):Int)≤((j1.2.length+1:Nat):Int)) <|
   gd (0≤j1.1∧j1.1≤((j1.2.length+1:Nat):Int)∧((j1.2.length+1:Nat):Int)≤((j1.2.length+1:Nat):Int)) <|
   gd (0≤j1.1∧j1.1 < ((j1.2.length+1:Nat):Int)) <|
   some (((j1.2++[{ aV.zero with  }]).take (i64.wrap (j1.1+1)).toNat++(((j1.2++[{ aV.zero with  }]).drop j1.1.toNat).take (j1.2.length+1 - j1.1.toNat)).take (j1.2.length+1 - (i64.wrap (j1.1+1)).toNat)++(j1.2++[{ aV.zero with  }]).drop ((i64.wrap (j1.1+1)).toNat+min (((j1.2++[{ aV.zero with  }]).drop j1.1.toNat).take (j1.2.length+1 - j1.1.toNat)).length (j1.2.length+1 - (i64.wrap (j1.1+1)).toNat))).set j1.1.toNat (⟨a1,a2⟩:aV))))
@[go_sem] def zdz0 (a1:aK) (a2:aD) (j1:Int×(List aV)):St:=⟨[(4,.ptr 0 0 0),(5,.ptr 1 0 0),(7,.own 2 0 j1.2.length),(8,.int .i64 j1.1)],[(0,bx a1),(1,bx a2),(2,sx j1.2)],3⟩
def zS1 (a0:List aV) (a1:aK) (g1:Int×Int×(List aV)):Option ((Int×Int×(List aV))⊕(Int×(List aV))) :=
 (if (decide (g1.2.1 < (a0.length:Int)))=true then
  gd (0≤g1.2.1∧g1.2.1 < (a0.length:Int)) <|
  (if (decide ((a0.getD g1.2.1.toNat aV.zero).aJ=a1))=true then
   some (.inl (g1.1,i64.wrap (g1.2.1+1),g1.2.2))
  else
   ((if (decide (g1.1 < 0))=true then zd8 ((a0.getD g1.2.1.toNat aV.zero).aJ) a1 else some 0)).bind fun v1 =>
   (if (decide (g1.1 < 0)&&decide (0 < v1))=true then
    gd (g1.2.2.length+1≤4294967296) <|
    some (.inl (((g1.2.2.length:Nat):Int),i64.wrap (g1.2.1+1),(g1.2.2++[(a0.getD g1.2.1.toNat aV.zero)])))
   else
    gd (g1.2.2.length+1≤4294967296) <|
    some (.inl (g1.1,i64.wrap (g1.2.1+1),(g1.2.2++[(a0.getD g1.2.1.toNat aV.zero)])))))
 else
  some (.inr (g1.1,g1.2.2)))
@[go_sem] def zdz1 (a0:List aV) (a1:aK) (a2:aD) (g1:Int×Int×(List aV)):St:=⟨[(4,.ptr 0 0 0),(5,.ptr 1 0 0),(7,.own 2 0 g1.2.2.length),(8,.int .i64 g1.1),(15,la a0),(16,.int .i64 (a0.length:Int)),(17,.int .i64 g1.2.1)],[(0,bx a1),(1,bx a2),(2,sx g1.2.2)],3⟩
def zp2 (a0:List aV) (a1:aK) (a2:aD):Option (List aV) :=
 gd (0≤0∧0≤i64.wrap ((a0.length:Int)+1)∧i64.wrap ((a0.length:Int)+1)≤4294967296) <|
 (zb9 (zS1 a0 a1) ((-1),0,List.replicate 0 aV.zero)).bind (fun z=>zak5 a1 a2 z)
theorem zbK7 (a0:List aV) (a1:aK) (a2:aD) (r:(List aV)) (h:zp2 a0 a1 a2=some r):PFn C 169 [la a0,ga a1,ga a2] (la r):=by
 refine zY9 Tryz.f169 [] fun E hG hN hK=>?_
 unfold zp2 at h
 refine za2 (za5 hG ?_)
 refine za2 ?_
 obtain ⟨hb12,h⟩:=ze1 h
 refine za5 hG ?_
 refine za2 (za5 hG ?_)
 refine za2 (za2 (za5 hG ?_))
 refine zD0 (zdz0 a1 a2) (fun v=>zak5 a1 a2 v=some r) ?_ ?_
 · intro j1 h
   unfold zak5 at h
   refine g_st ?_
   refine za2 (za2 (za5 hG ?_))
   refine zr9 (fun hg=>(zbK5 a2).ok) ?_
   refine zl4 rfl hG h (fun _ h=>?_) (fun _ h=>?_)
   · refine za2 (za5 hG ?_)
     refine zt4 ?_
     exact zJ4 h
   refine zk1 ?_
   refine za2 (za2 (za5 hG ?_))
   refine zl4 rfl hG h (fun _ h=>?_) (fun _ h=>?_)
   · refine za5 hG ?_
     refine za2 ?_
     obtain ⟨hb4,h⟩:=ze1 h
     refine za5 hG ?_
     refine za2 ?_
     obtain ⟨hb2,h⟩:=ze1 h
     obtain ⟨hb3,h⟩:=ze1 h
     refine zam5 zz1 hG ?_
     refine za2 ?_
     obtain ⟨hb1,h⟩:=ze1 h
     refine za5 hG ?_
     refine za2 (za5 hG ?_)
     refine zt4 ?_
     exact zJ4 h
   refine zk1 ?_
   refine za2 ?_
   obtain ⟨hb8,h⟩:=ze1 h
   refine za5 hG ?_
   refine za2 ?_
   obtain ⟨hb6,h⟩:=ze1 h
   obtain ⟨hb7,h⟩:=ze1 h
   refine zam5 zz1 hG ?_
   refine za2 ?_
   obtain ⟨hb5,h⟩:=ze1 h
   refine za5 hG ?_
   refine za2 (za5 hG ?_)
   refine zt4 ?_
   exact zJ4 h
 refine zY8 (zdz1 a0 a1 a2) hK [(0,0),(1,1),(2,2)] h (fun x_l1 h g1 y_l1 h_l1 hx_l1=>?_)
 unfold zS1 at h_l1
 refine g_st ?_
 refine za2 (za5 hG ?_)
 refine za2 ?_
 refine zl4 rfl hG h_l1 (fun _ h_l1=>?_) (fun _ h_l1=>?_)
 · refine zk1 ?_
   refine za2 (zC3 (za2 ?_))
   obtain ⟨hb11,h_l1⟩:=ze1 h_l1
   refine za5 hG ?_
   refine za2 (za2 (za5 hG ?_))
   refine zl4 rfl hG h_l1 (fun _ h_l1=>?_) (fun _ h_l1=>?_)
   · refine zG4 ?_
     refine za5 hG ?_
     exact zJ0 hK [(0,0),(1,1),(2,2)] h_l1
   refine zk1 ?_
   refine za2 (za2 (za5 hG ?_))
   obtain ⟨v1,hv1,h_l1⟩:=zc7 h_l1
   refine zr9 (fun hg=>(zaD3 ((a0.getD g1.2.1.toNat aV.zero).aJ) a1).ok _ (zaN2 hg hv1)) ?_
   refine zl4 rfl hG h_l1 (fun _ h_l1=>?_) (fun _ h_l1=>?_)
   · refine za5 hG ?_
     obtain ⟨hb9,h_l1⟩:=ze1 h_l1
     refine za5 hG ?_
     refine za5 hG ?_
     exact zJ0 hK [(0,0),(1,1),(2,4)] h_l1
   refine zk1 ?_
   obtain ⟨hb10,h_l1⟩:=ze1 h_l1
   refine za5 hG ?_
   refine za5 hG ?_
   exact zJ0 hK [(0,0),(1,1),(2,4)] h_l1
 refine zG4 ?_
 cases h_l1
 cases hx_l1 _ rfl
 exact zA9 hK [(0,0),(1,1),(2,2)] (g1.1,g1.2.2) (by exact h)
instance zcQ6 (a0:List aV) (a1:aK) (a2:aD):OkP (zp2 a0 a1 a2) 169 [la a0,ga a1,ga a2] (fun r=>la r):=⟨zbK7 a0 a1 a2⟩
attribute [local irreducible] zp2
def zd0 (a0:Int) (a1:bD):Option (Int×bD) :=
 (zc0 a0 4 a1).bind fun v1 =>
 some (v1.1,v1.2)
instance zE0 (a0:Int) (a1:bD):OkM (zd0 a0 a1) 40 [.ptr 0 0 0,.int .i64 a0] [(0,bx a1)] 1 (fun r=>.int .i64 r.1) (fun r=>[(0,bx r.2)]) 1:=okm (zd0.eq_1 a0 a1) (fun r=>[.int .i64 r.1]) Tryz.f40 []
attribute [local irreducible] zd0
def zb8 (a0:bD):Option (Int×bD) :=
 (zc0 1073741824 16 a0).bind fun v1 =>
 some (v1.1,v1.2)
instance zy4 (a0:bD):OkM (zb8 a0) 43 [.ptr 0 0 0] [(0,bx a0)] 1 (fun r=>.int .i64 r.1) (fun r=>[(0,bx r.2)]) 1:=okm (zb8.eq_1 a0) (fun r=>[.int .i64 r.1]) Tryz.f43 []
attribute [local irreducible] zb8
def zaZ3 (j1:Int×(Arr Int 3)):Option (aK×Int×Int) :=
 (if (!(zc5 (⟨(Arr.get j1.2 0 0),Arr.get j1.2 1 0,Arr.get j1.2 2 0⟩:aK)))=true then
  some ({ aK.zero with  },0,2)
 else
  some ((⟨(Arr.get j1.2 0 0),Arr.get j1.2 1 0,Arr.get j1.2 2 0⟩:aK),j1.1,0))
def zaZ4 (a0:List Int) (g1:Int×Int×(Arr Int 3)):Option ((Int×Int×(Arr Int 3))⊕((Int×(Arr Int 3))⊕(aK×Int×Int))) :=
 (if (decide (g1.2.1 < 3))=true then
  gd (0≤g1.1∧g1.1≤(a0.length:Int)∧(a0.length:Int)≤(a0.length:Int)) <|
  (zl9 (a0.drop g1.1.toNat)).bind fun v1 =>
  (if (!decide (v1.2.2=0))=true then
   some (.inr (.inr ({ aK.zero with  },0,v1.2.2)))
  else
   gd (0≤g1.2.1∧g1.2.1 < 3) <|
   some (.inl ((i64.wrap (g1.1+v1.2.1)),i64.wrap (g1.2.1+1),Arr.put g1.2.2 g1.2.1.toNat (i64.wrap (if 1073741824 < v1.1 then 1073741824 else v1.1)))))
 else
  some (.inr (.inl (g1.1,g1.2.2))))
def zs6 (a0:List Int):Option (aK×Int×Int) :=
 (zb9 (zaZ4 a0) (0,0,Arr.rep 3 0)).bind (fun|.inl z=>zaZ3 z|.inr z=>some z)
@[reducible,instance] def zdI9 a0:=mkJ (zs6 a0) 0 (@zaZ3.eq_1) fun (j1:Int×(Arr Int 3))=>⟨[(2,.ptr 0 0 0),(5,.ptr 1 0 0),(6,.int .i64 j1.1)],[(0,bx aK.zero),(1,⟨false,3,Arr.enc (eI .i64) (Arr.rep 3 0),[Arr.enc (eI .i64) j1.2]⟩)],2⟩
@[reducible,instance] def zdJ0 (a0:List Int) {T:Type} (x:T):=mkL x (@zaZ4.eq_1 a0) fun (g1:Int×Int×(Arr Int 3))=>⟨[(0,.sl (a0.map (eI .u8))),(2,.ptr 0 0 0),(5,.ptr 1 0 0),(6,.int .i64 g1.1),(12,.int .i64 g1.2.1)],[(0,bx aK.zero),(1,⟨false,3,Arr.enc (eI .i64) (Arr.rep 3 0),[Arr.enc (eI .i64) g1.2.2]⟩)],2⟩
instance zdg9 (a0:List Int):OkP (zs6 a0) 76 [.sl (a0.map (eI .u8))] (fun r=>.tup [ga r.1,.int .i64 r.2.1,.int .i64 r.2.2]):=ok1 (zs6.eq_1 a0) Tryz.f76 []
attribute [local irreducible] zs6
def zy1 (a0:aT):Bool :=
 (((((zo1 a0.aJ&&zm4 a0.aN)&&decide (0≤a0.bC))&&decide (a0.bC≤7))&&decide (0≤a0.bR))&&decide (a0.bR≤3))
instance zcw2 (a0:aT):OkT 279 [.agg (aT.enc a0)] (.bool (zy1 a0)):=ok2 (fun r=>.bool r) (zy1.eq_1 a0) Tryz.f279 []
def zaD4 (j1:(List aK)):Option (List aK) :=
 some j1
def zah3 (g1:Int×(List aK)) (j2:(List aK)):Option ((Int×(List aK))⊕(List aK)) :=
 some (.inl ((i64.wrap (g1.1+1)),j2))
def zN2 (g2:Int×(List aK)):Option ((Int×(List aK))⊕(List aK)) :=
 gd (decide (0 < g2.1)=true→0≤i64.wrap (g2.1 - 1)∧i64.wrap (g2.1 - 1) < ((g2.2.length:Nat):Int)) <|
 gd (decide (0 < g2.1)=true→0≤g2.1∧g2.1 < ((g2.2.length:Nat):Int)) <|
 (if (decide (0 < g2.1)&&decide (0 < zs1 (g2.2.getD ((i64.wrap (g2.1 - 1)).toNat) aK.zero) (g2.2.getD g2.1.toNat aK.zero)))=true then
  gd (0≤i64.wrap (g2.1 - 1)∧i64.wrap (g2.1 - 1) < ((g2.2.length:Nat):Int)) <|
  gd (0≤g2.1∧g2.1 < ((g2.2.length:Nat):Int)) <|
  gd (0≤i64.wrap (g2.1 - 1)∧i64.wrap (g2.1 - 1) < ((g2.2.length:Nat):Int)) <|
  gd (0≤g2.1∧g2.1 < ((g2.2.length:Nat):Int)) <|
  some (.inl ((i64.wrap (g2.1 - 1)),(g2.2.set ((i64.wrap (g2.1 - 1)).toNat) (g2.2.getD g2.1.toNat aK.zero)).set g2.1.toNat (g2.2.getD ((i64.wrap (g2.1 - 1)).toNat) aK.zero)))
 else
  some (.inr g2.2))
def zA3 (a0:List aK) (g1:Int×(List aK)):Option ((Int×(List aK))⊕(List aK)) :=
 (if (decide (g1.1 < (a0.length:Int)))=true then
  gd (0≤g1.1∧g1.1 < (a0.length:Int)) <|
  (zg1 g1.2 (a0.getD g1.1.toNat aK.zero)).bind fun v1 =>
  (if v1=true then
   some (.inl ((i64.wrap (g1.1+1)),g1.2))
  else
   gd (0≤g1.1∧g1.1 < (a0.length:Int)) <|
   gd (g1.2.length+1≤4294967296) <|
   (zb9 zN2 (((g1.2.length:Nat):Int),(g1.2++[(a0.getD g1.1.toNat aK.zero)]))).bind (fun z=>zah3 g1 z))
 else
  some (.inr g1.2))
def zj0 (a0:List aK):Option (List aK) :=
 (zb9 (zA3 a0) (0,[])).bind (fun z=>zaD4 z)
@[reducible,instance] def zdJ1 a0:=mkJ (zj0 a0) 0 (@zaD4.eq_1) fun (j1:(List aK))=>⟨[(3,.own 0 0 j1.length)],[(0,sx j1)],1⟩
@[reducible,instance] def zdJ2 (a0:List aK) (g1:Int×(List aK)) {T1:Type} (v1:T1):=mkJ (zA3 a0 g1,v1) 2 (@zah3.eq_1 g1) fun (j2:(List aK))=>⟨[(0,la a0),(3,.own 0 0 j2.length),(4,.int .i64 g1.1)],[(0,sx j2)],1⟩
@[reducible,instance] def zdJ3 (a0:List aK) (g1:Int×(List aK)) {T1:Type} (v1:T1):=mkL (zA3 a0 g1,v1) (@zN2.eq_1) fun (g2:Int×(List aK))=>⟨[(0,la a0),(3,.own 0 0 g2.2.length),(4,.int .i64 g1.1),(5,.int .i64 g2.1)],[(0,sx g2.2)],1⟩
@[reducible,instance] def zdJ4 (a0:List aK) {T:Type} (x:T):=mkL x (@zA3.eq_1 a0) fun (g1:Int×(List aK))=>⟨[(0,la a0),(3,.own 0 0 g1.2.length),(4,.int .i64 g1.1)],[(0,sx g1.2)],1⟩
instance zcw3 (a0:List aK):OkP (zj0 a0) 132 [la a0] (fun r=>la r):=ok1 (zj0.eq_1 a0) Tryz.f132 [(3,1)]
attribute [local irreducible] zj0
def zu9 (a0 a1:aD):Bool :=
 (if ((!(zm4 a1))||decide (a0=a1))=true then
  false
 else
  (if (decide (a0={ aD.zero with  }))=true then
   true
  else
   (if (!(zm4 a0))=true then
    false
   else
    (if (!decide (a0.mode=0))=true then
     (zN1 a1.mode a0.mode)
    else
     (decide (a0.aR < a1.aR))))))
instance zcW8 (a0 a1:aD):OkT 186 [.agg (aD.enc a0),.agg (aD.enc a1)] (.bool (zu9 a0 a1)):=ok2 (fun r=>.bool r) (zu9.eq_1 a0 a1) Tryz.f186 []
def zaN4 (j1:(List aM)):Option (List aM) :=
 some j1
def zaf7 (a0:List aA) (a1:aK) (g1:Int×(List aM)):Option ((Int×(List aM))⊕(List aM)) :=
 (if (decide (g1.1 < (a0.length:Int)))=true then
  gd (0≤g1.1∧g1.1 < (a0.length:Int)) <|
  (zh7 (a0.getD g1.1.toNat aA.zero) a1).bind fun v1 =>
  (if v1.2=true then
   gd (0≤g1.1∧g1.1 < (a0.length:Int)) <|
   gd (g1.2.length+1≤4294967296) <|
   some (.inl ((i64.wrap (g1.1+1)),(g1.2++[(⟨((a0.getD g1.1.toNat aA.zero).aB).name,v1.1⟩:aM)])))
  else
   some (.inl ((i64.wrap (g1.1+1)),g1.2)))
 else
  some (.inr g1.2))
def zn9 (a0:List aA) (a1:aK):Option (List aM) :=
 (zb9 (zaf7 a0 a1) (0,[])).bind (fun z=>zaN4 z)
@[reducible,instance] def zdJ5 a0 a1:=mkJ (zn9 a0 a1) 0 (@zaN4.eq_1) fun (j1:(List aM))=>⟨[(5,.own 0 0 j1.length)],[(0,sx j1)],1⟩
@[reducible,instance] def zdJ6 (a0:List aA) (a1:aK) {T:Type} (x:T):=mkL x (@zaf7.eq_1 a0 a1) fun (g1:Int×(List aM))=>⟨[(0,la a0),(3,.ptr 0 0 0),(5,.own 1 0 g1.2.length),(6,.int .i64 g1.1)],[(0,bx a1),(1,sx g1.2)],2⟩
instance zcQ7 (a0:List aA) (a1:aK):OkP (zn9 a0 a1) 141 [la a0,ga a1] (fun r=>la r):=ok1 (zn9.eq_1 a0 a1) Tryz.f141 [(5,1)]
attribute [local irreducible] zn9
def zj2 (a0 a1:bI):Option Int :=
 (zd8 a0.aJ a1.aJ).bind fun v1 =>
 some v1
instance zbc9 (a0 a1:bI):OkP (zj2 a0 a1) 31 [ga a0,ga a1] (fun r=>.int .i64 r):=ok1 (zj2.eq_1 a0 a1) Tryz.f31 []
attribute [local irreducible] zj2
def zh9 (a0 a1:Int):Option Bool :=
 gd ((zu8 a0&&zu8 a1)=true→0≤i64.wrap (a0 - 1)∧i64.wrap (a0 - 1) < 5) <|
 gd ((zu8 a0&&zu8 a1)=true→0≤i64.wrap (a1 - 1)∧i64.wrap (a1 - 1) < 5) <|
 some ((zu8 a0&&zu8 a1)&&Arr.get (Arr.get zcd2 ((i64.wrap (a0 - 1)).toNat) (Arr.rep 5 false)) ((i64.wrap (a1 - 1)).toNat) false)
instance zbo0 (a0 a1:Int):OkP (zh9 a0 a1) 258 [.int .i64 a0,.int .i64 a1] (fun r=>.bool r):=ok1 (zh9.eq_1 a0 a1) Tryz.f258 []
attribute [local irreducible] zh9
def zn6 (a0 a1:Int):Option Bool :=
 gd ((zu8 a0&&zu8 a1)=true→0≤a1∧a1 < 6) <|
 some ((zu8 a0&&zu8 a1)&&Arr.get (zaI6 a0) a1.toNat false)
instance zcW9 (a0 a1:Int):OkP (zn6 a0 a1) 260 [.int .i64 a0,.int .i64 a1] (fun r=>.bool r):=ok1 (zn6.eq_1 a0 a1) Tryz.f260 []
attribute [local irreducible] zn6
def zk3 (a0:aP):Option Int :=
 (ze3 a0 1 0).bind fun v1 =>
 some v1.1
instance zbw2 (a0:aP):OkP (zk3 a0) 81 [ga a0] (fun r=>.int .i64 r):=ok1 (zk3.eq_1 a0) Tryz.f81 []
attribute [local irreducible] zk3
def zau5 (j1:(List Int)):Option (List Int) :=
 some j1
def zau6 (a1:List Int) (g1:(List Int)×Int):Option (((List Int)×Int)⊕(List Int)) :=
 (if (decide (g1.2 < (a1.length:Int)))=true then
  gd (0≤g1.2∧g1.2 < (a1.length:Int)) <|
  (zh4 g1.1 (u64.wrap (a1.getD g1.2.toNat 0))).bind fun v1 =>
  some (.inl (v1,i64.wrap (g1.2+1)))
 else
  some (.inr g1.1))
def zc9 (a0 a1:List Int):Option (List Int) :=
 (zb9 (zau6 a1) (a0,0)).bind (fun z=>zau5 z)
@[reducible,instance] def zdJ7 a0 a1:=mkJ (zc9 a0 a1) 0 (@zau5.eq_1) fun (j1:(List Int))=>⟨[(0,.sl (j1.map (eI .u8)))],[],0⟩
@[reducible,instance] def zdJ8 (a1:List Int) {T:Type} (x:T):=mkL x (@zau6.eq_1 a1) fun (g1:(List Int)×Int)=>⟨[(0,.sl (g1.1.map (eI .u8))),(7,.sl (a1.map (eI .i64))),(8,.int .i64 (a1.length:Int)),(9,.int .i64 g1.2)],[],0⟩
instance zcm6 (a0 a1:List Int):OkP (zc9 a0 a1) 36 [.sl (a0.map (eI .u8)),.sl (a1.map (eI .i64))] (fun r=>.sl (r.map (eI .u8))):=ok1 (zc9.eq_1 a0 a1) Tryz.f36 []
attribute [local irreducible] zc9
def zq5 (a0:List Int):Option (ByteArray×Int×Int) :=
 (zl9 a0).bind fun v1 =>
 (if (!decide (v1.2.2=0))=true then
  some ((⟨#[]⟩:ByteArray),0,v1.2.2)
 else
  (if (decide (1024 < v1.1))=true then
   some ((⟨#[]⟩:ByteArray),0,3)
  else
   (if (decide (i64.wrap ((a0.length:Int) - v1.2.1) < i64.wrap v1.1))=true then
    some ((⟨#[]⟩:ByteArray),0,5)
   else
    gd (0≤v1.2.1∧v1.2.1≤i64.wrap (v1.2.1+i64.wrap v1.1)∧i64.wrap (v1.2.1+i64.wrap v1.1)≤(a0.length:Int)) <|
    some ((zbm4 ((a0.take ((i64.wrap (v1.2.1+i64.wrap v1.1)).toNat)).drop v1.2.1.toNat)),i64.wrap (v1.2.1+i64.wrap v1.1),0))))
instance zdh0 (a0:List Int):OkP (zq5 a0) 118 [.sl (a0.map (eI .u8))] (fun r=>.tup [.str r.1,.int .i64 r.2.1,.int .i64 r.2.2]):=ok1 (zq5.eq_1 a0) Tryz.f118 []
attribute [local irreducible] zq5
def zw8 (j1:Unit):Option Bool :=
 some true
def zo3 (a0 a1:List aT) (g1:Int):Option (Int⊕(Unit⊕Bool)) :=
 (if (decide (g1 < (a0.length:Int)))=true then
  gd (0≤g1∧g1 < (a0.length:Int)) <|
  gd (0≤g1∧g1 < (a1.length:Int)) <|
  (if (!(zM2 (a0.getD g1.toNat aT.zero) (a1.getD g1.toNat aT.zero)))=true then
   some (.inr (.inr false))
  else
   some (.inl (i64.wrap (g1+1))))
 else
  some (.inr (.inl ())))
def za1 (a0 a1:List aT):Option Bool :=
 (if (!decide ((a0.length:Int)=(a1.length:Int)))=true then
  some false
 else
  (zb9 (zo3 a0 a1) 0).bind (fun|.inl z=>zw8 z|.inr z=>some z))
@[reducible,instance] def zdJ9 a0 a1:=mkJ (za1 a0 a1) 0 (@zw8.eq_1) fun (j1:Unit)=>⟨[],[],0⟩
@[reducible,instance] def zdK0 (a0 a1:List aT) {T:Type} (x:T):=mkL x (@zo3.eq_1 a0 a1) fun (g1:Int)=>⟨[(1,la a1),(2,.clo 70 []),(15,la a0),(16,.int .i64 (a0.length:Int)),(17,.int .i64 g1)],[],0⟩
instance zK5 (a0 a1:List aT):OkM (za1 a0 a1) 69 [la a0,la a1,.clo 70 []] [] 0 (fun r=>.bool r) (fun r=>[]) 0:=okm (za1.eq_1 a0 a1) (fun r=>[.bool r]) Tryz.f69 []
attribute [local irreducible] za1
def zs7 (a0:aI) (a1:aD):Bool :=
 (if (!(zG6 a0))=true then
  false
 else
  (if (decide (a0.kind=1))=true then
   (zy0 a1.mode&&decide (a1.aR=0))
  else
   ((decide (a1.mode=0)&&decide (1≤a1.aR))&&decide (a1.aR≤a0.aR))))
instance zbT1 (a0:aI) (a1:aD):OkT 137 [.agg (aI.enc a0),.agg (aD.enc a1)] (.bool (zs7 a0 a1)):=ok2 (fun r=>.bool r) (zs7.eq_1 a0 a1) Tryz.f137 []
def zi6 (a0:aA) (a1:aK):Option aD :=
 (zm2 a0.aQ a1).bind fun v1 =>
 some v1
instance zaP3 (a0:aA) (a1:aK):OkP (zi6 a0 a1) 192 [ga a0,ga a1] (fun r=>ga r):=ok1 (zi6.eq_1 a0 a1) Tryz.f192 []
attribute [local irreducible] zi6
def zg3 (a0 a1:aA):Option Int :=
 (zf5 a0.aB.name a1.aB.name).bind fun v1 =>
 some v1
instance zbd0 (a0 a1:aA):OkP (zg3 a0 a1) 28 [ga a0,ga a1] (fun r=>.int .i64 r):=ok1 (zg3.eq_1 a0 a1) Tryz.f28 []
attribute [local irreducible] zg3
end
end Ab
end Go.Proofs.YtfkjffmjkbkmhaaGreatDoor
