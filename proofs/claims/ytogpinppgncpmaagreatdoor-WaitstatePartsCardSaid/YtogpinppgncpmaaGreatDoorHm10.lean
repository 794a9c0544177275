import Derived.Test.YtogpinppgncpmaaGreatDoorHm1
import Derived.Test.YtogpinppgncpmaaGreatDoorHm3
import Derived.Test.YtogpinppgncpmaaGreatDoorHm7
import Derived.Test.YtogpinppgncpmaaGreatDoorSort
import Derived.Test.YtogpinppgncpmaaGreatDoorStr
namespace Go.Proofs.YtogpinppgncpmaaGreatDoor
namespace Ab
open IntKind (i64 u64 u8)
set_option linter.unusedSimpArgs false
set_option linter.defProp false
set_option linter.unusedVariables false
set_option maxRecDepth 100000
set_option maxHeartbeats 1000000
noncomputable section
attribute [local irreducible] zb2 za4 zd4 za6 zh1 zm5 zm4 zh2 zk4 zi2 zd7 zg4 za7 zn9 zh3 zj7 ze3 za8 zg8 zi3 zg1 zl1 zj1 za9 zf9 ze4 zh8 ze5 zk7 zk0 zk1 zn8 zg9 zm3 f_ref08_holds zj9 zc5 zf8 zd0 zd9 ze6 zn2 zm9 zg7 ze7 zg0 zb3 za0 zf2 zj3 zl8 zh9 zf3 zh4
def zp1 (a0:Int):Option aJ :=
 (zn9 a0 8).bind fun v1 =>
 some (⟨(v1.tmod 4),1,i64.wrap (1+i64.wrap (v1.tdiv 4))⟩:aJ)
instance zci5 (a0:Int):OkP (zp1 a0) 10 [.int .i64 a0] (fun r=>ga r):=ok1 (zp1.eq_1 a0) Tryz.f10 []
attribute [local irreducible] zp1
def zax6 (j1:Unit):Option Bool :=
 some true
def zD2 (a0:ByteArray) (g1:Int):Option (Int⊕(Unit⊕Bool)) :=
 (if (decide (g1 < (a0.size:Int)))=true then
  gd (0≤g1∧g1 < (a0.size:Int)) <|
  (if ((!(decide (97≤((a0.toList.getD g1.toNat 0).toNat:Int))&&decide (((a0.toList.getD g1.toNat 0).toNat:Int)≤122)))&&(decide (g1=0)||(!(((decide (48≤((a0.toList.getD g1.toNat 0).toNat:Int))&&decide (((a0.toList.getD g1.toNat 0).toNat:Int)≤57))||decide (((a0.toList.getD g1.toNat 0).toNat:Int)=95))||decide (((a0.toList.getD g1.toNat 0).toNat:Int)=45)))))=true then
   some (.inr (.inr false))
  else
   some (.inl (i64.wrap (g1+1))))
 else
  some (.inr (.inl ())))
def ze8 (a0:ByteArray):Option Bool :=
 (if ((decide ((a0.size:Int) < 1)||decide (12 < (a0.size:Int)))||zN2 a0)=true then
  some false
 else
  (zc0 (zD2 a0) 0).bind (fun|.inl z=>zax6 z|.inr z=>some z))
@[reducible,instance] def zef8 a0:=mkJ (ze8 a0) 0 (@zax6.eq_1) fun (j1:Unit)=>⟨[],[],0⟩
@[reducible,instance] def zef9 (a0:ByteArray) {T:Type} (x:T):=mkL x (@zD2.eq_1 a0) fun (g1:Int)=>⟨[(0,.str a0),(20,.int .i64 (a0.size:Int)),(21,.int .i64 g1)],[],0⟩
instance zcq8 (a0:ByteArray):OkP (ze8 a0) 176 [.str a0] (fun r=>.bool r):=ok1 (ze8.eq_1 a0) Tryz.f176 []
attribute [local irreducible] ze8
def zb6 (a0:aJ):Bool :=
 ((zL1 a0.site 0 3&&zL1 a0.inc 1 99)&&zL1 a0.num 1 999)
instance zcA5 (a0:aJ):OkT 50 [.agg (aJ.enc a0)] (.bool (zb6 a0)):=ok2 (fun r=>.bool r) (zb6.eq_1 a0) Tryz.f50 []
def zb8 (a0:Int) (a1:bJ):Option (Int×bJ) :=
 (if (decide ((a1.l.length:Int)≤a1.at_))=true then
  some (0,a1)
 else
  gd (0≤i64.wrap (({ a1 with at_:=(i64.wrap (a1.at_+1)) }).at_ - 1)∧i64.wrap (({ a1 with at_:=(i64.wrap (a1.at_+1)) }).at_ - 1) < ((({ a1 with at_:=(i64.wrap (a1.at_+1)) }).l).length:Int)) <|
  (zn9 ((({ a1 with at_:=(i64.wrap (a1.at_+1)) }).l).getD ((i64.wrap (({ a1 with at_:=(i64.wrap (a1.at_+1)) }).at_ - 1)).toNat) 0) a0).bind fun v1 =>
  some (v1,{ a1 with at_:=(i64.wrap (a1.at_+1)) }))
instance zr0 (a0:Int) (a1:bJ):OkM (zb8 a0 a1) 7 [.ptr 0 0 0,.int .i64 a0] [(0,bx a1)] 1 (fun r=>.int .i64 r.1) (fun r=>[(0,bx r.2)]) 1:=okm (zb8.eq_1 a0 a1) (fun r=>[.int .i64 r.1]) Tryz.f7 []
attribute [local irreducible] zb8
def zs9 (a0:aI) (a1:aC):Bool :=
 (if (!(zJ1 a0))=true then
  false
 else
  (if (decide (a0.kind=1))=true then
   (zw0 a1.mode&&decide (a1.aS=0))
  else
   ((decide (a1.mode=0)&&decide (1≤a1.aS))&&decide (a1.aS≤a0.aS))))
instance zbX7 (a0:aI) (a1:aC):OkT 143 [.agg (aI.enc a0),.agg (aC.enc a1)] (.bool (zs9 a0 a1)):=ok2 (fun r=>.bool r) (zs9.eq_1 a0 a1) Tryz.f143 []
def zN6 (a0 a1:Int):Bool :=
 (if ((((!(zw0 a0))||(!(zw0 a1)))||decide (a0=5))||decide (a1=5))=true then
  false
 else
  ((decide (a0=1)||decide (a1=1))||(decide (a0=a1)&&(!decide (a0=4)))))
instance zcx6 (a0 a1:Int):OkT 291 [.int .i64 a0,.int .i64 a1] (.bool (zN6 a0 a1)):=ok2 (fun r=>.bool r) (zN6.eq_1 a0 a1) Tryz.f291 []
def zQ0 (a0 a1:Int):Bool :=
 (if ((!(zw0 a0))||(!(zw0 a1)))=true then
  false
 else
  (((decide (a0=a1)||decide (a0=5))||decide (a1=1))||(decide (a0=4)&&(!decide (a1=5)))))
instance zcV0 (a0 a1:Int):OkT 238 [.int .i64 a0,.int .i64 a1] (.bool (zQ0 a0 a1)):=ok2 (fun r=>.bool r) (zQ0.eq_1 a0 a1) Tryz.f238 []
def zaI1 (j1:(List aM)):Option (List aM) :=
 some j1
def zac5 (a0:aX) (v1:(List ByteArray)) (g1:Int×(List aM)):Option ((Int×(List aM))⊕(List aM)) :=
 (if (decide (g1.1 < (v1.length:Int)))=true then
  gd (0≤g1.1∧g1.1 < (v1.length:Int)) <|
  (zj3 a0.aP (v1.getD g1.1.toNat ⟨#[]⟩)).bind fun v2 =>
  (if (!decide (v2={ aC.zero with  }))=true then
   gd (0≤g1.1∧g1.1 < (v1.length:Int)) <|
   gd (g1.2.length+1≤4294967296) <|
   some (.inl ((i64.wrap (g1.1+1)),(g1.2++[(⟨(v1.getD g1.1.toNat ⟨#[]⟩),v2⟩:aM)])))
  else
   some (.inl ((i64.wrap (g1.1+1)),g1.2)))
 else
  some (.inr g1.2))
def zi6 (a0:aX):Option (List aM) :=
 (zi3 a0.aP).bind fun v1 =>
 (zc0 (zac5 a0 v1) (0,[])).bind (fun z=>zaI1 z)
@[reducible,instance] def zdO4 a0 {T1:Type} (v1:T1):=mkJ (zi6 a0,v1) 0 (@zaI1.eq_1) fun (j1:(List aM))=>⟨[(3,.own 0 0 j1.length)],[(0,sx j1)],1⟩
@[reducible,instance] def zdO5 (a0:aX) (v1:(List ByteArray)) {T:Type} (x:T):=mkL x (@zac5.eq_1 a0 v1) fun (g1:Int×(List aM))=>⟨[(1,.ptr 0 0 0),(3,.own 1 0 g1.2.length),(4,.sl (v1.map eS)),(5,.int .i64 g1.1)],[(0,bx a0),(1,sx g1.2)],2⟩
instance zcJ4 (a0:aX):OkP (zi6 a0) 141 [ga a0] (fun r=>la r):=ok1 (zi6.eq_1 a0) Tryz.f141 [(3,1)]
attribute [local irreducible] zi6
def zi4 (a0:aA) (a1:aJ):Option (aC×Bool) :=
 (zk1 a0.aL a1).bind fun v1 =>
 (if (decide (0≤v1))=true then
  gd (0≤v1∧v1 < (a0.aL.length:Int)) <|
  some ((a0.aL.getD v1.toNat aT.zero).aK,true)
 else
  (zk1 a0.aV a1).bind fun v2 =>
  (if (decide (0≤v2))=true then
   gd (0≤v2∧v2 < (a0.aV.length:Int)) <|
   some ((a0.aV.getD v2.toNat aT.zero).aK,true)
  else
   some ({ aC.zero with  },false)))
instance zbH5 (a0:aA) (a1:aJ):OkP (zi4 a0 a1) 199 [ga a0,ga a1] (fun r=>.tup [ga r.1,.bool r.2]):=ok1 (zi4.eq_1 a0 a1) Tryz.f199 []
attribute [local irreducible] zi4
attribute [local irreducible] zo0 zn0 zk2 zb4 zd1 zd2 zd6 zg3 zd8 zc3 zo7 za1 zq1 zi0 zi5 zh5 zj5 zc1 zb0 ze9 zf4 zn1 zo8
def zao2 (a1:aJ) (a2:aC) (j1:Int×(List aU)):Option (List aU) :=
 (if (zk5 a2)=true then
  some j1.2
 else
  (if (decide (j1.1 < 0))=true then
   gd (j1.2.length+1≤4294967296) <|
   gd (0≤i64.wrap (((j1.2.length:Nat):Int)+1)∧i64.wrap (((j1.2.length:Nat):Int)+1)≤((j1.2.length+1:Nat):Int)∧((j1.2.length+1:Nat):Int)≤((j1.2.length+1:Nat):Int)) <|
   gd (0≤((j1.2.length:Nat):Int)∧((j1.2.length:Nat):Int)≤((j1.2.length+1:Nat):Int)∧((j1.2.length+1:Nat):Int)≤((j1.2.length+1:Nat):Int)) <|
   gd (0≤((j1.2.length:Nat):Int)∧((j1.2.length:Nat):Int) < ((j1.2.length+1:Nat):Int)) <|
   some (((j1.2++[{ aU.zero with  }]).take (i64.wrap (((j1.2.length:Nat):Int)+1)).toNat++(((j1.2++[{ aU.zero with  }]).drop (((j1.2.length:Nat):Int).toNat)).take (j1.2.length+1 - ((j1.2.length:Nat):Int).toNat)).take (j1.2.length+1 - (i64.wrap (((j1.2.length:Nat):Int)+1)).toNat)++(j1.2++[{ aU.zero with  }]).drop ((i64.wrap (((j1.2.length:Nat):Int)+1)).toNat+min (((j1.2++[{ aU.zero with  }]).drop (((j1.2.length:Nat):Int).toNat)).take (j1.2.length+1 - ((j1.2.length:Nat):Int).toNat)).length (j1.2.length+1 - (i64.wrap (((j1.2.length:Nat):Int)+1)).toNat))).set (((j1.2.length:Nat):Int).toNat) (⟨a1,a2⟩:aU))
  else
   gd (j1.2.length+1≤4294967296) <|
   gd (0≤i64.wrap (j1.1+1)∧i64.wrap (j1.1+1)≤((j1.2.length+1:Nat):Int)∧((j1.2.length+1:Nat):Int)≤((j1.2.length+1:Nat):Int)) <|
   gd (0≤j1.1∧j1.1≤((j1.2.length+1:Nat):Int)∧((j1.2.length+1:Nat):Int)≤((j1.2.length+1:Nat):Int)) <|
   gd (0≤j1.1∧j1.1 < ((j1.2.length+1:Nat):Int)) <|
   some (((j1.2++[{ aU.zero with  }]).take (i64.wrap (j1.1+1)).toNat++(((j1.2++[{ aU.zero with  }]).drop j1.1.toNat).take (j1.2.length+1 - j1.1.toNat)).take (j1.2.length+1 - (i64.wrap (j1.1+1)).toNat)++(j1.2++[{ aU.zero with  }]).drop ((i64.wrap (j1.1+1)).toNat+min (((j1.2++[{ aU.zero with  }]).drop j1.1.toNat).take (j1.2.length+1 - j1.1.toNat)).length (j1.2.length+1 - (i64.wrap (j1.1+1)).toNat))).set j1.1.toNat (⟨a1,a2⟩:aU))))
@[go_sem] def zdD5 (a1:aJ) (a2:aC) (j1:Int×(List aU)):St:=⟨[(4,.ptr 0 0 0),(5,.ptr 1 0 0),(7,.own 2 0 j1.2.length),(8,.int .i64 j1.1)],[(0,bx a1),(1,bx a2),(2,sx j1.2)],3⟩
def zV2 (a0:List aU) (a1:aJ) (g1:Int×Int×(List aU)):Option ((Int×Int×(List aU))⊕(Int×(List aU))) :=
 (if (decide (g1.2.1 < (a0.length:Int)))=true then
  gd (0≤g1.2.1∧g1.2.1 < (a0.length:Int)) <|
  (if (decide ((a0.getD g1.2.1.toNat aU.zero).aN=a1))=true then
   some (.inl (g1.1,i64.wrap (g1.2.1+1),g1.2.2))
  else
   ((if (decide (g1.1 < 0))=true then zd8 ((a0.getD g1.2.1.toNat aU.zero).aN) a1 else some 0)).bind fun v1 =>
   (if (decide (g1.1 < 0)&&decide (0 < v1))=true then
    gd (g1.2.2.length+1≤4294967296) <|
    some (.inl (((g1.2.2.length:Nat):Int),i64.wrap (g1.2.1+1),(g1.2.2++[(a0.getD g1.2.1.toNat aU.zero)])))
   else
    gd (g1.2.2.length+1≤4294967296) <|
    some (.inl (g1.1,i64.wrap (g1.2.1+1),(g1.2.2++[(a0.getD g1.2.1.toNat aU.zero)])))))
 else
  some (.inr (g1.1,g1.2.2)))
@[go_sem] def zdD6 (a0:List aU) (a1:aJ) (a2:aC) (g1:Int×Int×(List aU)):St:=⟨[(4,.ptr 0 0 0),(5,.ptr 1 0 0),(7,.own 2 0 g1.2.2.length),(8,.int .i64 g1.1),(15,la a0),(16,.int .i64 (a0.length:Int)),(17,.int .i64 g1.2.1)],[(0,bx a1),(1,bx a2),(2,sx g1.2.2)],3⟩
def zp7 (a0:List aU) (a1:aJ) (a2:aC):Option (List aU) :=
 gd (0≤0∧0≤i64.wrap ((a0.length:Int)+1)∧i64.wrap ((a0.length:Int)+1)≤4294967296) <|
 (zc0 (zV2 a0 a1) ((-1),0,List.replicate 0 aU.zero)).bind (fun z=>zao2 a1 a2 z)
theorem zbP7 (a0:List aU) (a1:aJ) (a2:aC) (r:(List aU)) (h:zp7 a0 a1 a2=some r):PFn C 175 [la a0,ga a1,ga a2] (la r):=by
 refine zad2 Tryz.f175 [] fun E hG hN hK=>?_
 unfold zp7 at h
 refine za2 (za3 hG ?_)
 refine za2 ?_
 obtain ⟨hb12,h⟩:=zd5 h
 refine za3 hG ?_
 refine za2 (za3 hG ?_)
 refine za2 (za2 (za3 hG ?_))
 refine zB6 (zdD5 a1 a2) (fun v=>zao2 a1 a2 v=some r) ?_ ?_
 · intro j1 h
   unfold zao2 at h
   refine g_st ?_
   refine za2 (za2 (za3 hG ?_))
   refine zq4 (fun hg=>(zbP5 a2).ok) ?_
   refine zl0 rfl hG h (fun _ h=>?_) (fun _ h=>?_)
   · refine za2 (za3 hG ?_)
     refine zt2 ?_
     exact zI9 h
   refine zj2 ?_
   refine za2 (za2 (za3 hG ?_))
   refine zl0 rfl hG h (fun _ h=>?_) (fun _ h=>?_)
   · refine za3 hG ?_
     refine za2 ?_
     obtain ⟨hb4,h⟩:=zd5 h
     refine za3 hG ?_
     refine za2 ?_
     obtain ⟨hb2,h⟩:=zd5 h
     obtain ⟨hb3,h⟩:=zd5 h
     refine zad1 zw6 hG ?_
     refine za2 ?_
     obtain ⟨hb1,h⟩:=zd5 h
     refine za3 hG ?_
     refine za2 (za3 hG ?_)
     refine zt2 ?_
     exact zI9 h
   refine zj2 ?_
   refine za2 ?_
   obtain ⟨hb8,h⟩:=zd5 h
   refine za3 hG ?_
   refine za2 ?_
   obtain ⟨hb6,h⟩:=zd5 h
   obtain ⟨hb7,h⟩:=zd5 h
   refine zad1 zw6 hG ?_
   refine za2 ?_
   obtain ⟨hb5,h⟩:=zd5 h
   refine za3 hG ?_
   refine za2 (za3 hG ?_)
   refine zt2 ?_
   exact zI9 h
 refine zY4 (zdD6 a0 a1 a2) hK [(0,0),(1,1),(2,2)] h (fun x_l1 h g1 y_l1 h_l1 hx_l1=>?_)
 unfold zV2 at h_l1
 refine g_st ?_
 refine za2 (za3 hG ?_)
 refine za2 ?_
 refine zl0 rfl hG h_l1 (fun _ h_l1=>?_) (fun _ h_l1=>?_)
 · refine zj2 ?_
   refine za2 (zB5 (za2 ?_))
   obtain ⟨hb11,h_l1⟩:=zd5 h_l1
   refine za3 hG ?_
   refine za2 (za2 (za3 hG ?_))
   refine zl0 rfl hG h_l1 (fun _ h_l1=>?_) (fun _ h_l1=>?_)
   · refine zH3 ?_
     refine za3 hG ?_
     exact zF8 hK [(0,0),(1,1),(2,2)] h_l1
   refine zj2 ?_
   refine za2 (za2 (za3 hG ?_))
   obtain ⟨v1,hv1,h_l1⟩:=zc9 h_l1
   refine zq4 (fun hg=>(zaF5 ((a0.getD g1.2.1.toNat aU.zero).aN) a1).ok _ (zaH9 hg hv1)) ?_
   refine zl0 rfl hG h_l1 (fun _ h_l1=>?_) (fun _ h_l1=>?_)
   · refine za3 hG ?_
     obtain ⟨hb9,h_l1⟩:=zd5 h_l1
     refine za3 hG ?_
     refine za3 hG ?_
     exact zF8 hK [(0,0),(1,1),(2,4)] h_l1
   refine zj2 ?_
   obtain ⟨hb10,h_l1⟩:=zd5 h_l1
   refine za3 hG ?_
   refine za3 hG ?_
   exact zF8 hK [(0,0),(1,1),(2,4)] h_l1
 refine zH3 ?_
 cases h_l1
 cases hx_l1 _ rfl
 exact zy4 hK [(0,0),(1,1),(2,2)] (g1.1,g1.2.2) (by exact h)
instance zcV1 (a0:List aU) (a1:aJ) (a2:aC):OkP (zp7 a0 a1 a2) 175 [la a0,ga a1,ga a2] (fun r=>la r):=⟨zbP7 a0 a1 a2⟩
attribute [local irreducible] zp7
def zi7 (a0:aM):Option Bool :=
 (ze8 a0.name).bind fun v1 =>
 some (v1&&(zb1 ({ aI.zero with kind:=1,aS:=1 }) a0.aK||zb1 ({ aI.zero with kind:=2,aS:=8 }) a0.aK))
instance zbg0 (a0:aM):OkP (zi7 a0) 131 [ga a0] (fun r=>.bool r):=ok1 (zi7.eq_1 a0) Tryz.f131 []
attribute [local irreducible] zi7
def zc6 (a0:Int) (a1:aY):Option (Int×aY) :=
 (zc1 a0 4 a1).bind fun v1 =>
 some (v1.1,v1.2)
instance zG8 (a0:Int) (a1:aY):OkM (zc6 a0 a1) 40 [.ptr 0 0 0,.int .i64 a0] [(0,bx a1)] 1 (fun r=>.int .i64 r.1) (fun r=>[(0,bx r.2)]) 1:=okm (zc6.eq_1 a0 a1) (fun r=>[.int .i64 r.1]) Tryz.f40 []
attribute [local irreducible] zc6
def ze0 (a0:aY):Option (ByteArray×aY) :=
 (if (!decide (a0.bN.err=0))=true then
  some ((⟨#[]⟩:ByteArray),a0)
 else
  (zo7 a0.bN.rest).bind fun v1 =>
  (if (!decide (v1.2.2=0))=true then
   some ((⟨#[]⟩:ByteArray),{ a0 with bN:={ a0.bN with err:=v1.2.2 } })
  else
   gd (0≤v1.2.1∧v1.2.1≤(a0.bN.rest.length:Int)∧(a0.bN.rest.length:Int)≤(a0.bN.rest.length:Int)) <|
   some (v1.1,{ a0 with bN:={ a0.bN with rest:=(a0.bN.rest.drop v1.2.1.toNat) } })))
instance zaj6 (a0:aY):OkM (ze0 a0) 76 [.ptr 0 0 0] [(0,bx a0)] 1 (fun r=>.str r.1) (fun r=>[(0,bx r.2)]) 1:=okm (ze0.eq_1 a0) (fun r=>[.str r.1]) Tryz.f76 []
attribute [local irreducible] ze0
def zaG6 (j1:Int×(Arr Int 3)):Option (aJ×Int×Int) :=
 (if (!(zb6 (⟨(Arr.get j1.2 0 0),Arr.get j1.2 1 0,Arr.get j1.2 2 0⟩:aJ)))=true then
  some ({ aJ.zero with  },0,2)
 else
  some ((⟨(Arr.get j1.2 0 0),Arr.get j1.2 1 0,Arr.get j1.2 2 0⟩:aJ),j1.1,0))
def zC3 (a0:List Int) (g1:Int×Int×(Arr Int 3)):Option ((Int×Int×(Arr Int 3))⊕((Int×(Arr Int 3))⊕(aJ×Int×Int))) :=
 (if (decide (g1.2.1 < 3))=true then
  gd (0≤g1.1∧g1.1≤(a0.length:Int)∧(a0.length:Int)≤(a0.length:Int)) <|
  (zk7 (a0.drop g1.1.toNat)).bind fun v1 =>
  (if (!decide (v1.2.2=0))=true then
   some (.inr (.inr ({ aJ.zero with  },0,v1.2.2)))
  else
   gd (0≤g1.2.1∧g1.2.1 < 3) <|
   some (.inl ((i64.wrap (g1.1+v1.2.1)),i64.wrap (g1.2.1+1),Arr.put g1.2.2 g1.2.1.toNat (i64.wrap (if 1073741824 < v1.1 then 1073741824 else v1.1)))))
 else
  some (.inr (.inl (g1.1,g1.2.2))))
def zs0 (a0:List Int):Option (aJ×Int×Int) :=
 (zc0 (zC3 a0) (0,0,Arr.rep 3 0)).bind (fun|.inl z=>zaG6 z|.inr z=>some z)
@[reducible,instance] def zdO6 a0:=mkJ (zs0 a0) 0 (@zaG6.eq_1) fun (j1:Int×(Arr Int 3))=>⟨[(2,.ptr 0 0 0),(5,.ptr 1 0 0),(6,.int .i64 j1.1)],[(0,bx aJ.zero),(1,⟨false,3,Arr.enc (eI .i64) (Arr.rep 3 0),[Arr.enc (eI .i64) j1.2]⟩)],2⟩
@[reducible,instance] def zdO7 (a0:List Int) {T:Type} (x:T):=mkL x (@zC3.eq_1 a0) fun (g1:Int×Int×(Arr Int 3))=>⟨[(0,.sl (a0.map (eI .u8))),(2,.ptr 0 0 0),(5,.ptr 1 0 0),(6,.int .i64 g1.1),(12,.int .i64 g1.2.1)],[(0,bx aJ.zero),(1,⟨false,3,Arr.enc (eI .i64) (Arr.rep 3 0),[Arr.enc (eI .i64) g1.2.2]⟩)],2⟩
instance zdk8 (a0:List Int):OkP (zs0 a0) 78 [.sl (a0.map (eI .u8))] (fun r=>.tup [ga r.1,.int .i64 r.2.1,.int .i64 r.2.2]):=ok1 (zs0.eq_1 a0) Tryz.f78 []
attribute [local irreducible] zs0
def zy2 (a0:aT):Bool :=
 (((((zm2 a0.aN&&zp6 a0.aK)&&decide (0≤a0.bG))&&decide (a0.bG≤7))&&decide (0≤a0.bQ))&&decide (a0.bQ≤3))
instance zcA6 (a0:aT):OkT 284 [.agg (aT.enc a0)] (.bool (zy2 a0)):=ok2 (fun r=>.bool r) (zy2.eq_1 a0) Tryz.f284 []
def zaF6 (j1:(List aJ)):Option (List aJ) :=
 some j1
def zal4 (g1:Int×(List aJ)) (j2:(List aJ)):Option ((Int×(List aJ))⊕(List aJ)) :=
 some (.inl ((i64.wrap (g1.1+1)),j2))
def zQ1 (g2:Int×(List aJ)):Option ((Int×(List aJ))⊕(List aJ)) :=
 gd (decide (0 < g2.1)=true→0≤i64.wrap (g2.1 - 1)∧i64.wrap (g2.1 - 1) < ((g2.2.length:Nat):Int)) <|
 gd (decide (0 < g2.1)=true→0≤g2.1∧g2.1 < ((g2.2.length:Nat):Int)) <|
 (if (decide (0 < g2.1)&&decide (0 < zu4 (g2.2.getD ((i64.wrap (g2.1 - 1)).toNat) aJ.zero) (g2.2.getD g2.1.toNat aJ.zero)))=true then
  gd (0≤i64.wrap (g2.1 - 1)∧i64.wrap (g2.1 - 1) < ((g2.2.length:Nat):Int)) <|
  gd (0≤g2.1∧g2.1 < ((g2.2.length:Nat):Int)) <|
  gd (0≤i64.wrap (g2.1 - 1)∧i64.wrap (g2.1 - 1) < ((g2.2.length:Nat):Int)) <|
  gd (0≤g2.1∧g2.1 < ((g2.2.length:Nat):Int)) <|
  some (.inl ((i64.wrap (g2.1 - 1)),(g2.2.set ((i64.wrap (g2.1 - 1)).toNat) (g2.2.getD g2.1.toNat aJ.zero)).set g2.1.toNat (g2.2.getD ((i64.wrap (g2.1 - 1)).toNat) aJ.zero)))
 else
  some (.inr g2.2))
def zB8 (a0:List aJ) (g1:Int×(List aJ)):Option ((Int×(List aJ))⊕(List aJ)) :=
 (if (decide (g1.1 < (a0.length:Int)))=true then
  gd (0≤g1.1∧g1.1 < (a0.length:Int)) <|
  (zg8 g1.2 (a0.getD g1.1.toNat aJ.zero)).bind fun v1 =>
  (if v1=true then
   some (.inl ((i64.wrap (g1.1+1)),g1.2))
  else
   gd (0≤g1.1∧g1.1 < (a0.length:Int)) <|
   gd (g1.2.length+1≤4294967296) <|
   (zc0 zQ1 (((g1.2.length:Nat):Int),(g1.2++[(a0.getD g1.1.toNat aJ.zero)]))).bind (fun z=>zal4 g1 z))
 else
  some (.inr g1.2))
def zj6 (a0:List aJ):Option (List aJ) :=
 (zc0 (zB8 a0) (0,[])).bind (fun z=>zaF6 z)
@[reducible,instance] def zdO8 a0:=mkJ (zj6 a0) 0 (@zaF6.eq_1) fun (j1:(List aJ))=>⟨[(3,.own 0 0 j1.length)],[(0,sx j1)],1⟩
@[reducible,instance] def zdO9 (a0:List aJ) (g1:Int×(List aJ)) {T1:Type} (v1:T1):=mkJ (zB8 a0 g1,v1) 2 (@zal4.eq_1 g1) fun (j2:(List aJ))=>⟨[(0,la a0),(3,.own 0 0 j2.length),(4,.int .i64 g1.1)],[(0,sx j2)],1⟩
@[reducible,instance] def zdP0 (a0:List aJ) (g1:Int×(List aJ)) {T1:Type} (v1:T1):=mkL (zB8 a0 g1,v1) (@zQ1.eq_1) fun (g2:Int×(List aJ))=>⟨[(0,la a0),(3,.own 0 0 g2.2.length),(4,.int .i64 g1.1),(5,.int .i64 g2.1)],[(0,sx g2.2)],1⟩
@[reducible,instance] def zdP1 (a0:List aJ) {T:Type} (x:T):=mkL x (@zB8.eq_1 a0) fun (g1:Int×(List aJ))=>⟨[(0,la a0),(3,.own 0 0 g1.2.length),(4,.int .i64 g1.1)],[(0,sx g1.2)],1⟩
instance zcA7 (a0:List aJ):OkP (zj6 a0) 138 [la a0] (fun r=>la r):=ok1 (zj6.eq_1 a0) Tryz.f138 [(3,1)]
attribute [local irreducible] zj6
def zaP3 (j1:(List aM)):Option (List aM) :=
 some j1
def zaj7 (a0:List aA) (a1:aJ) (g1:Int×(List aM)):Option ((Int×(List aM))⊕(List aM)) :=
 (if (decide (g1.1 < (a0.length:Int)))=true then
  gd (0≤g1.1∧g1.1 < (a0.length:Int)) <|
  (zi4 (a0.getD g1.1.toNat aA.zero) a1).bind fun v1 =>
  (if v1.2=true then
   gd (0≤g1.1∧g1.1 < (a0.length:Int)) <|
   gd (g1.2.length+1≤4294967296) <|
   some (.inl ((i64.wrap (g1.1+1)),(g1.2++[(⟨((a0.getD g1.1.toNat aA.zero).aB).name,v1.1⟩:aM)])))
  else
   some (.inl ((i64.wrap (g1.1+1)),g1.2)))
 else
  some (.inr g1.2))
def zo2 (a0:List aA) (a1:aJ):Option (List aM) :=
 (zc0 (zaj7 a0 a1) (0,[])).bind (fun z=>zaP3 z)
@[reducible,instance] def zdP2 a0 a1:=mkJ (zo2 a0 a1) 0 (@zaP3.eq_1) fun (j1:(List aM))=>⟨[(5,.own 0 0 j1.length)],[(0,sx j1)],1⟩
@[reducible,instance] def zdP3 (a0:List aA) (a1:aJ) {T:Type} (x:T):=mkL x (@zaj7.eq_1 a0 a1) fun (g1:Int×(List aM))=>⟨[(0,la a0),(3,.ptr 0 0 0),(5,.own 1 0 g1.2.length),(6,.int .i64 g1.1)],[(0,bx a1),(1,sx g1.2)],2⟩
instance zcV2 (a0:List aA) (a1:aJ):OkP (zo2 a0 a1) 147 [la a0,ga a1] (fun r=>la r):=ok1 (zo2.eq_1 a0 a1) Tryz.f147 [(5,1)]
attribute [local irreducible] zo2
def zc7 (a0:aI) (a1:aC):Bool :=
 (zf7 a0&&(zk5 a1||zb1 a0 a1))
instance zbm0 (a0:aI) (a1:aC):OkT 262 [.agg (aI.enc a0),.agg (aC.enc a1)] (.bool (zc7 a0 a1)):=ok2 (fun r=>.bool r) (zc7.eq_1 a0 a1) Tryz.f262 []
def zax7 (j1:(List Int)):Option (List Int) :=
 some j1
def zJ3 (a90:(List Int→aO→Option (List Int))) (a1:aO) (g1:(List Int)×Int):Option (((List Int)×Int)⊕(List Int)) :=
 (if (decide (g1.2 < (a1.bA.length:Int)))=true then
  gd (0≤g1.2∧g1.2 < (a1.bA.length:Int)) <|
  (a90 g1.1 (a1.bA.getD g1.2.toNat aO.zero)).bind fun v5 =>
  some (.inl (v5,i64.wrap (g1.2+1)))
 else
  some (.inr g1.1))
def zF6 (a90:(List Int→aO→Option (List Int))) (a0:List Int) (a1:aO):Option (List Int) :=
 (zc3 a0 [a1.k]).bind fun v1 =>
 (if (decide (a1.k=0))=true then
  (zj5 v1 a1.bB.name).bind fun v2 =>
  (zc3 v2 [a1.bB.aK.mode,a1.bB.aK.aS]).bind fun v3 =>
  some v3
 else
  (zc3 v1 [(a1.bA.length:Int)]).bind fun v4 =>
  (zc0 (zJ3 a90 a1) (v4,0)).bind (fun z=>zax7 z))
def zH8:Nat→(List Int→aO→Option (List Int))
 | 0=>fun _ _=>none
 | n+1=>zF6 (zH8 n)
def zj8 (a0:List Int) (a1:aO):Option (List Int):=zH8 (_root_.SizeOf.sizeOf a1+1) a0 a1
@[reducible,instance] def zdP4 (a90:(List Int→aO→Option (List Int))) (a0:List Int) (a1:aO) {T1:Type} (v1:T1) {T2:Type} (v4:T2):=mkJ ((zF6 a90 a0 a1,v1),v4) 0 (@zax7.eq_1) fun (j1:(List Int))=>⟨[(0,.sl (j1.map (eI .u8)))],[],0⟩
@[reducible,instance] def zdP5 (a90:(List Int→aO→Option (List Int))) (a1:aO) {T:Type} (x:T):=mkL x (@zJ3.eq_1 a90 a1) fun (g1:(List Int)×Int)=>⟨[(0,.sl (g1.1.map (eI .u8))),(37,la a1.bA),(38,.int .i64 (a1.bA.length:Int)),(39,.int .i64 g1.2)],[],0⟩
abbrev zac6 (g:(List Int→aO→Option (List Int))):Prop:=∀ (a0:List Int) (a1:aO),OkP (g a0 a1) 38 [.sl (a0.map (eI .u8)),.agg (aO.enc a1)] (fun r=>.sl (r.map (eI .u8)))
theorem zbd3 (a90:(List Int→aO→Option (List Int))) (hrc:zac6 a90):zac6 (zF6 a90):=fun a0 a1=>ok1 (zF6.eq_1 a90 a0 a1) Tryz.f38 []
theorem zbd4:∀ n,zac6 (zH8 n):=zaR5 (fun _ _=>⟨fun _ h=>nomatch h⟩) fun n=>zbd3 _
instance zcq9:zac6 zj8:=fun a0 a1=>zbd4 _ a0 a1
attribute [local irreducible] zj8
def zg5 (a0:bC) (a1:aJ):Option (Bool×aJ) :=
 (zd8 a0.aN a1).bind fun v1 =>
 some ((decide (v1=0)),a1)
instance zcc5 (a0:bC) (a1:aJ):OkM (zg5 a0 a1) 63 [ga a0,.ptr 0 0 0] [(0,bx a1)] 1 (fun r=>.bool r.1) (fun r=>[(0,bx r.2)]) 1:=okm (zg5.eq_1 a0 a1) (fun r=>[.bool r.1]) Tryz.f63 []
attribute [local irreducible] zg5
def zp8 (a0:aI) (a1:Int):Option aC :=
 (if (decide (a0.kind=1))=true then
  (zq1 a1).bind fun v1 =>
  some ({ aC.zero with mode:=v1 })
 else
  (zn9 a1 a0.aS).bind fun v2 =>
  some ({ aC.zero with aS:=(i64.wrap (1+v2)) }))
instance zdb6 (a0:aI) (a1:Int):OkP (zp8 a0 a1) 246 [ga a0,.int .i64 a1] (fun r=>ga r):=ok1 (zp8.eq_1 a0 a1) Tryz.f246 []
attribute [local irreducible] zp8
def zaI2 (j1:(List aM)):Option (List aM) :=
 some j1
def zac7 (a0:List aA) (a1:aJ) (g1:Int×(List aM)):Option ((Int×(List aM))⊕(List aM)) :=
 (if (decide (g1.1 < (a0.length:Int)))=true then
  gd (0≤g1.1∧g1.1 < (a0.length:Int)) <|
  (zi0 (a0.getD g1.1.toNat aA.zero) a1).bind fun v1 =>
  (if (!(zl7 v1))=true then
   gd (0≤g1.1∧g1.1 < (a0.length:Int)) <|
   gd (g1.2.length+1≤4294967296) <|
   some (.inl ((i64.wrap (g1.1+1)),(g1.2++[(⟨((a0.getD g1.1.toNat aA.zero).aB).name,v1⟩:aM)])))
  else
   some (.inl ((i64.wrap (g1.1+1)),g1.2)))
 else
  some (.inr g1.2))
def zl2 (a0:List aA) (a1:aJ):Option (List aM) :=
 (zc0 (zac7 a0 a1) (0,[])).bind (fun z=>zaI2 z)
@[reducible,instance] def zdP6 a0 a1:=mkJ (zl2 a0 a1) 0 (@zaI2.eq_1) fun (j1:(List aM))=>⟨[(5,.own 0 0 j1.length)],[(0,sx j1)],1⟩
@[reducible,instance] def zdP7 (a0:List aA) (a1:aJ) {T:Type} (x:T):=mkL x (@zac7.eq_1 a0 a1) fun (g1:Int×(List aM))=>⟨[(0,la a0),(3,.ptr 0 0 0),(5,.own 1 0 g1.2.length),(6,.int .i64 g1.1)],[(0,bx a1),(1,sx g1.2)],2⟩
instance zcJ5 (a0:List aA) (a1:aJ):OkP (zl2 a0 a1) 146 [la a0,ga a1] (fun r=>la r):=ok1 (zl2.eq_1 a0 a1) Tryz.f146 [(5,1)]
attribute [local irreducible] zl2
def zax8 (a2:aW) (j1:(List aH)):Option (Int×aW) :=
 some (0,(⟨(⟨a2.c.now,a2.c.aF,j1⟩:aZ),a2.ev⟩:aW))
def zT6 (g1:Int×(List aH)):Option ((Int×(List aH))⊕(List aH)) :=
 gd (decide (0 < g1.1)=true→0≤i64.wrap (g1.1 - 1)∧i64.wrap (g1.1 - 1) < ((g1.2.length:Nat):Int)) <|
 gd (decide (0 < g1.1)=true→0≤g1.1∧g1.1 < ((g1.2.length:Nat):Int)) <|
 (if (decide (0 < g1.1)&&decide (0 < zu4 ((g1.2.getD ((i64.wrap (g1.1 - 1)).toNat) aH.zero).aN) ((g1.2.getD g1.1.toNat aH.zero).aN)))=true then
  gd (0≤g1.1∧g1.1 < ((g1.2.length:Nat):Int)) <|
  gd (0≤i64.wrap (g1.1 - 1)∧i64.wrap (g1.1 - 1) < ((g1.2.length:Nat):Int)) <|
  gd (0≤g1.1∧g1.1 < ((g1.2.length:Nat):Int)) <|
  gd (0≤i64.wrap (g1.1 - 1)∧i64.wrap (g1.1 - 1) < ((g1.2.length:Nat):Int)) <|
  some (.inl ((i64.wrap (g1.1 - 1)),(g1.2.set g1.1.toNat (g1.2.getD ((i64.wrap (g1.1 - 1)).toNat) aH.zero)).set ((i64.wrap (g1.1 - 1)).toNat) (g1.2.getD g1.1.toNat aH.zero)))
 else
  some (.inr g1.2))
def zh0 (a0:aJ) (a1:Int) (a2:aW):Option (Int×aW) :=
 (if (((!(zm2 a0))||decide (a1 < 1))||decide (1000 < a1))=true then
  some (1,a2)
 else
  (zi2 a2.c.aG a0).bind fun v1 =>
  (if (decide (0≤v1))=true then
   some (11,a2)
  else
   (if (decide (((a2.c.aG.length:Nat):Int)=8))=true then
    some (4,a2)
   else
    gd (a2.c.aG.length+1≤4294967296) <|
    (zc0 zT6 ((i64.wrap (((a2.c.aG.length+1:Nat):Int) - 1)),(a2.c.aG++[{ aH.zero with aN:=a0,cost:=a1 }]))).bind (fun z=>zax8 a2 z))))
@[reducible,instance] def zdP8 a0 a1 (a2:aW) {T1:Type} (v1:T1):=mkJ (zh0 a0 a1 a2,v1) 0 (@zax8.eq_1 a2) fun (j1:(List aH))=>⟨[(0,.ptr 0 0 0),(7,.own 3 0 j1.length)],[(0,⟨false,4,aW.enc aW.zero,[[.int .i64 a2.c.now,la a2.c.aF,.own 1 0 a2.c.aG.length,.own 4 0 a2.ev.length]]⟩),(3,sx j1),(4,sx a2.ev)],5⟩
@[reducible,instance] def zdP9 a0 a1 (a2:aW) {T1:Type} (v1:T1):=mkL (zh0 a0 a1 a2,v1) (@zT6.eq_1) fun (g1:Int×(List aH))=>⟨[(0,.ptr 0 0 0),(7,.own 3 0 g1.2.length),(8,.int .i64 g1.1)],[(0,⟨false,4,aW.enc aW.zero,[[.int .i64 a2.c.now,la a2.c.aF,.own 1 0 a2.c.aG.length,.own 4 0 a2.ev.length]]⟩),(3,sx g1.2),(4,sx a2.ev)],5⟩
instance zcl8 (a0:aJ) (a1:Int) (a2:aW):OkM (zh0 a0 a1 a2) 208 [.ptr 0 0 0,ga a0,.int .i64 a1] [(0,⟨false,4,aW.enc aW.zero,[[.int .i64 a2.c.now,la a2.c.aF,.own 1 0 a2.c.aG.length,.own 2 0 a2.ev.length]]⟩),(1,sx a2.c.aG),(2,sx a2.ev)] 3 (fun r=>.int .i64 r.1) (fun r=>[(0,⟨false,4,aW.enc aW.zero,[[.int .i64 r.2.c.now,la r.2.c.aF,.own 3 0 r.2.c.aG.length,.own 4 0 r.2.ev.length]]⟩),(3,sx r.2.c.aG),(4,sx r.2.ev)]) 5:=okm (zh0.eq_1 a0 a1 a2) (fun r=>[.int .i64 r.1]) Tryz.f208 []
attribute [local irreducible] zh0
theorem zai9:SlLaysF0.n6 C.P ⟨fun|6=>28|15=>67|14=>66|28=>110|29=>111|20=>102|21=>103|22=>104|23=>105|24=>106|25=>107|26=>108|27=>109|46=>160|47=>161|48=>162|49=>163|50=>164|57=>218|n=>n,fun|22=>25|24=>39|25=>83|39=>141|53=>187|55=>146|46=>180|45=>179|50=>184|66=>229|70=>204|76=>275|77=>276|n=>n,fun n=>n⟩ where
 mixed:=zw6
 f6:=⟨ "slices.SortFunc[[]clusterlocks/api.Queue,clusterlocks/api.Queue]",by decide,Tryz.func28.trans (cP some (by kernel_rfl))⟩
 f14:=⟨ "slices.pdqsortCmpFunc[clusterlocks/api.Queue]",by decide,Tryz.func66.trans (cP some (by kernel_rfl))⟩
 f15:=Tryz.func67.trans (cP some (by kernel_rfl))
 f20:=⟨ "slices.insertionSortCmpFunc[clusterlocks/api.Queue]",by decide,Tryz.func102.trans (cP some (by kernel_rfl))⟩
 f21:=⟨ "slices.heapSortCmpFunc[clusterlocks/api.Queue]",by decide,Tryz.func103.trans (cP some (by kernel_rfl))⟩
 f22:=⟨ "slices.breakPatternsCmpFunc[clusterlocks/api.Queue]",by decide,Tryz.func104.trans (cP some (by kernel_rfl))⟩
 f23:=⟨ "slices.choosePivotCmpFunc[clusterlocks/api.Queue]",by decide,Tryz.func105.trans (cP some (by kernel_rfl))⟩
 f24:=⟨ "slices.reverseRangeCmpFunc[clusterlocks/api.Queue]",by decide,Tryz.func106.trans (cP some (by kernel_rfl))⟩
 f25:=⟨ "slices.partialInsertionSortCmpFunc[clusterlocks/api.Queue]",by decide,Tryz.func107.trans (cP some (by kernel_rfl))⟩
 f26:=⟨ "slices.partitionEqualCmpFunc[clusterlocks/api.Queue]",by decide,Tryz.func108.trans (cP some (by kernel_rfl))⟩
 f27:=⟨ "slices.partitionCmpFunc[clusterlocks/api.Queue]",by decide,Tryz.func109.trans (cP some (by kernel_rfl))⟩
 f28:=Tryz.func110.trans (cP some (by kernel_rfl))
 f29:=Tryz.func111.trans (cP some (by kernel_rfl))
 f46:=⟨ "slices.siftDownCmpFunc[clusterlocks/api.Queue]",by decide,Tryz.func160.trans (cP some (by kernel_rfl))⟩
 f47:=Tryz.func161.trans (cP some (by kernel_rfl))
 f48:=Tryz.func162.trans (cP some (by kernel_rfl))
 f49:=⟨ "slices.medianAdjacentCmpFunc[clusterlocks/api.Queue]",by decide,Tryz.func163.trans (cP some (by kernel_rfl))⟩
 f50:=⟨ "slices.medianCmpFunc[clusterlocks/api.Queue]",by decide,Tryz.func164.trans (cP some (by kernel_rfl))⟩
 f57:=⟨ "slices.order2CmpFunc[clusterlocks/api.Queue]",by decide,Tryz.func218.trans (cP some (by kernel_rfl))⟩
 t0:=Tryz.underlying0
 a0:=Tryz.isAgg0
 z0:=Tryz.sizeOf0
 v0:=Tryz.zeroValue0
 t3:=Tryz.underlying3
 a3:=Tryz.isAgg3
 z3:=Tryz.sizeOf3
 v3:=Tryz.zeroValue3
 t4:=Tryz.underlying4
 a4:=Tryz.isAgg4
 z4:=Tryz.sizeOf4
 v4:=Tryz.zeroValue4
 t5:=Tryz.underlying5
 a5:=Tryz.isAgg5
 z5:=Tryz.sizeOf5
 v5:=Tryz.zeroValue5
 t9:=Tryz.underlying9
 a9:=Tryz.isAgg9
 z9:=Tryz.sizeOf9
 v9:=Tryz.zeroValue9
 t22:=Tryz.underlying25
 a22:=Tryz.isAgg25
 z22:=Tryz.sizeOf25
 v22:=Tryz.zeroValue25
 t25:=Tryz.underlying83
 a25:=Tryz.isAgg83
 z25:=Tryz.sizeOf83
 v25:=Tryz.zeroValue83
 t39:=Tryz.underlying141
 a39:=Tryz.isAgg141
 z39:=Tryz.sizeOf141
 v39:=Tryz.zeroValue141
 t45:=Tryz.underlying179
 a45:=Tryz.isAgg179
 z45:=Tryz.sizeOf179
 v45:=Tryz.zeroValue179
 t46:=Tryz.underlying180
 a46:=Tryz.isAgg180
 z46:=Tryz.sizeOf180
 v46:=Tryz.zeroValue180
 t50:=Tryz.underlying184
 a50:=Tryz.isAgg184
 z50:=Tryz.sizeOf184
 v50:=Tryz.zeroValue184
 t53:=Tryz.underlying187
 a53:=Tryz.isAgg187
 z53:=Tryz.sizeOf187
 v53:=Tryz.zeroValue187
 t55:=Tryz.underlying146
 a55:=Tryz.isAgg146
 z55:=Tryz.sizeOf146
 v55:=Tryz.zeroValue146
 t66:=Tryz.underlying229
 a66:=Tryz.isAgg229
 z66:=Tryz.sizeOf229
 v66:=Tryz.zeroValue229
 t70:=Tryz.underlying204
 a70:=Tryz.isAgg204
 z70:=Tryz.sizeOf204
 v70:=Tryz.zeroValue204
 t76:=Tryz.underlying275
 a76:=Tryz.isAgg275
 z76:=Tryz.sizeOf275
 v76:=Tryz.zeroValue275
 t77:=Tryz.underlying276
 a77:=Tryz.isAgg276
 z77:=Tryz.sizeOf276
 v77:=Tryz.zeroValue276
def zr1 (x y:aA):Int:=Go.Lib.compareBytes x.aB.name.data.toList y.aB.name.data.toList
theorem zai0 (x y:aA):zg3 x y=some (zr1 x y):=by unfold zg3 zf9; rfl
def zb5 (a0:List aA):Option (List aA):=gd (a0.length≤4294967296∧a0.Pairwise fun x y=>zr1 x y < 0∨zr1 y x < 0) (some (a0.mergeSort fun x y=>!decide (zr1 y x < 0)))
theorem zai1 (a0 r:List aA) (h:zb5 a0=some r):r.length=a0.length:=by
 obtain ⟨_,h⟩:=zd5 h
 obtain rfl:=dU h
 exact gU _
theorem zai2 (a0 r:List aA) (h:zb5 a0=some r):MFn C 28 [.own 0 0 a0.length,.clo 29 []] [(0,sx a0)] 1 (.tup []) [(0,sx r)] 1:=by
 obtain ⟨⟨hl,hp⟩,h⟩:=zd5 h
 obtain rfl:=dU h
 exact zbP1 zai9 aA.enc 8 aA.len (by decide) (fun x=>by first|exact (aA.laws x).1|exact (aA.laws x).2.1) Tryz.isAgg39 Tryz.sizeOf39 zr1 (zcI8 (fun x:aA=>x.aB.name) zda9) 29 (fun x y=>(zbf9 x y).ok _ (zai0 x y)) (enters_of Tryz.func29 (by kernel_rfl) rfl) rfl _ a0 hl (zci4 hp)
attribute [local irreducible] zb5
def zi8 (a0 a1:bC):Option Int :=
 (zd8 a0.aN a1.aN).bind fun v1 =>
 some v1
instance zbg1 (a0 a1:bC):OkP (zi8 a0 a1) 32 [ga a0,ga a1] (fun r=>.int .i64 r):=ok1 (zi8.eq_1 a0 a1) Tryz.f32 []
attribute [local irreducible] zi8
def zaG7 (j1:Unit):Option Bool :=
 some true
def zZ0 (a0 a1:List aA) (g1:Int):Option (Int⊕(Unit⊕Bool)) :=
 (if (decide (g1 < (a0.length:Int)))=true then
  gd (0≤g1∧g1 < (a0.length:Int)) <|
  gd (0≤g1∧g1 < (a1.length:Int)) <|
  (zo8 (a0.getD g1.toNat aA.zero) (a1.getD g1.toNat aA.zero)).bind fun v1 =>
  (if (!v1)=true then
   some (.inr (.inr false))
  else
   some (.inl (i64.wrap (g1+1))))
 else
  some (.inr (.inl ())))
def zr5 (a0 a1:List aA):Option Bool :=
 (if (!decide ((a0.length:Int)=(a1.length:Int)))=true then
  some false
 else
  (zc0 (zZ0 a0 a1) 0).bind (fun|.inl z=>zaG7 z|.inr z=>some z))
@[reducible,instance] def zdQ0 a0 a1:=mkJ (zr5 a0 a1) 0 (@zaG7.eq_1) fun (j1:Unit)=>⟨[],[],0⟩
@[reducible,instance] def zdQ1 (a0 a1:List aA) {T:Type} (x:T):=mkL x (@zZ0.eq_1 a0 a1) fun (g1:Int)=>⟨[(0,la a0),(1,la a1),(5,.int .i64 g1)],[],0⟩
instance zdk9 (a0 a1:List aA):OkP (zr5 a0 a1) 34 [la a0,la a1] (fun r=>.bool r):=ok1 (zr5.eq_1 a0 a1) Tryz.f34 []
attribute [local irreducible] zr5
end
end Ab
end Go.Proofs.YtogpinppgncpmaaGreatDoor
