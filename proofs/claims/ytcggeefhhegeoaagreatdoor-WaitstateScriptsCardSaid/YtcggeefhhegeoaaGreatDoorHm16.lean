import Derived.Test.YtcggeefhhegeoaaGreatDoorHm9
import Derived.Test.YtcggeefhhegeoaaGreatDoorHm10
import Derived.Test.YtcggeefhhegeoaaGreatDoorHm11
import Derived.Test.YtcggeefhhegeoaaGreatDoorHm12
namespace Go.Proofs.YtcggeefhhegeoaaGreatDoor
namespace Ab
open IntKind (i64 u64 u8)
set_option linter.unusedSimpArgs false
set_option linter.unusedVariables false
set_option linter.defProp false
set_option maxRecDepth 100000
set_option maxHeartbeats 1000000
noncomputable section
attribute [local irreducible] zj2 za4 zd1 za7 zf7 zi6 zk5 zg4 zk6 zf3 zd2 zd8 zh9 zd6 zk1 za6 za0 ze0 zj7 zl9 zi3 zh5 zg2 zg8 zf8 zc5 ze1 ze2 zg9 zf5 ze3 zb0 za8 zh0 zi4 ze4 zn1 f_ref08_holds zj3 zc2 zn6 zm4 zm1 zd9 ze8 zk2 zm5 zh1 zj9 zl7 zd0 zi7 zf0 zf9 zl4 zn9 zm7 zb2 zc1 zh4 zq0 zp1 zk4 zb9 zo8 zd4 zm2 zh2 za5 za1 zb4 zh7 ze9 zm8 zk9 zd7 zd3 zi8 ze6 zq1 zi2 zc8 zo4 zo5 zb5 zi9 zf4 zh8 ze7 zm9 zp0 zp4 zp6 zi1 zf2 zq4 zr5 zt1 zg6 zs7 ze5 zj5 zc3 zb7 zk3 zq2 zl0 zr6 zc9 zq8 zh3 zh6 zi0 zl1
def zl5 (a0:List Proc):Option (List Proc) :=
 gd (a0.length≤4294967296) <|
 (zb5 a0).bind fun v1 =>
 (za4 v1).bind fun v2 =>
 some v2.1
theorem zbn3 (a0:List Proc) (r:(List Proc)) (h:zl5 a0=some r):PFn C 70 [la a0] (la r):=by
 refine zag9 Tryz.f70 [] fun E hG hN hK=>?_
 unfold zl5 at h
 refine za2 (za9 hG ?_)
 refine za2 ?_
 obtain ⟨hb1,h⟩:=zg5 h
 refine za9 hG ?_
 refine za2 (za9 hG ?_)
 obtain ⟨v1,hv1,h⟩:=zf1 h
 have hl_v1:=zaj1 a0 _ hv1
 refine zu2 [(0,0)] [] [0] (zaj2 _ _ hv1) rfl rfl ?_
 refine za2 (za9 hG ?_)
 obtain ⟨v2,hv2,h⟩:=zf1 h
 refine zu2 [(0,0)] [] [0] ((zaj3 v1).ok _ hv2) rfl rfl ?_
 refine zw3 ?_
 exact zW9 h
instance zcu7 (a0:List Proc):OkP (zl5 a0) 70 [la a0] (fun r=>la r):=⟨zbn3 a0⟩
attribute [local irreducible] zl5
def zac8 (j3:(List Int)):Option (List Int) :=
 some j3
def zH3 (a1:Queue) (g1:(List Int)×Int):Option (((List Int)×Int)⊕(List Int)) :=
 (if (decide (g1.2 < (a1.waits.length:Int)))=true then
  gd (0≤g1.2∧g1.2 < (a1.waits.length:Int)) <|
  (zi9 g1.1 ((a1.waits.getD g1.2.toNat Wait.zero).proc)).bind fun v5 =>
  (zc1 v5 [((a1.waits.getD g1.2.toNat Wait.zero).amount).mode,((a1.waits.getD g1.2.toNat Wait.zero).amount).units,(a1.waits.getD g1.2.toNat Wait.zero).priority,(a1.waits.getD g1.2.toNat Wait.zero).passed]).bind fun v6 =>
  some (.inl (v6,i64.wrap (g1.2+1)))
 else
  some (.inr g1.1))
def zR0 (a1:Queue) (j2:(List Int)):Option (List Int) :=
 (zc1 j2 [(a1.waits.length:Int)]).bind fun v4 =>
 (zc0 (zH3 a1) (v4,0)).bind (fun z=>zac8 z)
def zH4 (a1:Queue) (g2:(List Int)×Int):Option (((List Int)×Int)⊕(List Int)) :=
 (if (decide (g2.2 < (a1.converts.length:Int)))=true then
  gd (0≤g2.2∧g2.2 < (a1.converts.length:Int)) <|
  (zi9 g2.1 ((a1.converts.getD g2.2.toNat Wait.zero).proc)).bind fun v7 =>
  (zc1 v7 [((a1.converts.getD g2.2.toNat Wait.zero).amount).mode,((a1.converts.getD g2.2.toNat Wait.zero).amount).units]).bind fun v8 =>
  some (.inl (v8,i64.wrap (g2.2+1)))
 else
  some (.inr g2.1))
def zR1 (a1:Queue) (j1:(List Int)):Option (List Int) :=
 (zc1 j1 [(a1.converts.length:Int)]).bind fun v3 =>
 (zc0 (zH4 a1) (v3,0)).bind (fun z=>zR0 a1 z)
def zH5 (a1:Queue) (g3:(List Int)×Int):Option (((List Int)×Int)⊕(List Int)) :=
 (if (decide (g3.2 < (a1.holds.length:Int)))=true then
  gd (0≤g3.2∧g3.2 < (a1.holds.length:Int)) <|
  (zi9 g3.1 ((a1.holds.getD g3.2.toNat Hold.zero).proc)).bind fun v9 =>
  (zc1 v9 [((a1.holds.getD g3.2.toNat Hold.zero).amount).mode,((a1.holds.getD g3.2.toNat Hold.zero).amount).units]).bind fun v10 =>
  some (.inl (v10,i64.wrap (g3.2+1)))
 else
  some (.inr g3.1))
def zj4 (a0:List Int) (a1:Queue):Option (List Int) :=
 (zi8 a0 a1.resource.name).bind fun v1 =>
 (zc1 v1 [a1.resource.kind,a1.resource.units,a1.resource.home,a1.gen,(a1.holds.length:Int)]).bind fun v2 =>
 (zc0 (zH5 a1) (v2,0)).bind (fun z=>zR1 a1 z)
@[reducible,instance] def zdP2 a1 j2 {T1:Type} (v4:T1):=mkJ (zR0 a1 j2,v4) 4 (@zac8.eq_1) fun (j3:(List Int))=>⟨[(0,.sl (j3.map (eI .u8)))],[],0⟩
@[reducible,instance] def zdP3 (a1:Queue) {T:Type} (x:T):=mkL x (@zH3.eq_1 a1) fun (g1:(List Int)×Int)=>⟨[(0,.sl (g1.1.map (eI .u8))),(84,la a1.waits),(85,.int .i64 (a1.waits.length:Int)),(86,.int .i64 g1.2)],[],0⟩
@[reducible,instance] def zdP4 (a1:Queue) j1 {T1:Type} (v3:T1):=mkJ (zR1 a1 j1,v3) 2 (@zR0.eq_1 a1) fun (j2:(List Int))=>⟨[(0,.sl (j2.map (eI .u8))),(3,.ptr 0 0 0)],[(0,bx a1)],1⟩
@[reducible,instance] def zdP5 (a1:Queue) {T:Type} (x:T):=mkL x (@zH4.eq_1 a1) fun (g2:(List Int)×Int)=>⟨[(0,.sl (g2.1.map (eI .u8))),(3,.ptr 0 0 0),(58,la a1.converts),(59,.int .i64 (a1.converts.length:Int)),(60,.int .i64 g2.2)],[(0,bx a1)],1⟩
@[reducible,instance] def zdP6 a0 (a1:Queue) {T1:Type} (v1:T1) {T2:Type} (v2:T2):=mkJ ((zj4 a0 a1,v1),v2) 0 (@zR1.eq_1 a1) fun (j1:(List Int))=>⟨[(0,.sl (j1.map (eI .u8))),(3,.ptr 0 0 0)],[(0,bx a1)],1⟩
@[reducible,instance] def zdP7 (a1:Queue) {T:Type} (x:T):=mkL x (@zH5.eq_1 a1) fun (g3:(List Int)×Int)=>⟨[(0,.sl (g3.1.map (eI .u8))),(3,.ptr 0 0 0),(32,la a1.holds),(33,.int .i64 (a1.holds.length:Int)),(34,.int .i64 g3.2)],[(0,bx a1)],1⟩
instance zcj6 (a0:List Int) (a1:Queue):OkP (zj4 a0 a1) 30 [.sl (a0.map (eI .u8)),ga a1] (fun r=>.sl (r.map (eI .u8))):=ok1 (zj4.eq_1 a0 a1) Tryz.f30 []
attribute [local irreducible] zj4
def zj1 (a0 a1:Queue):Option Bool :=
 ((if (decide (a0.gen=a1.gen))=true then zf2 a0 a1 else some false)).bind fun v1 =>
 ((if (decide (a0.gen=a1.gen)&&v1)=true then za6 a0.waits a1.waits else some false)).bind fun v2 =>
 some ((decide (a0.gen=a1.gen)&&v1)&&v2)
instance zcf8 (a0 a1:Queue):OkP (zj1 a0 a1) 39 [ga a0,ga a1] (fun r=>.bool r):=ok1 (zj1.eq_1 a0 a1) Tryz.f39 []
attribute [local irreducible] zj1
def zay8 (v1:Int×Tape) (j1:(List Atom)):Option (Expr×Tape) :=
 (zq2 j1 2 v1.2).bind fun v2 =>
 some (v2.1,v2.2)
def zam4 (a0:List Resource) (v1:Int×Tape) (g1:Int×(List Atom)):Option ((Int×(List Atom))⊕(List Atom)) :=
 (if (decide (g1.1 < (a0.length:Int)))=true then
  gd (0≤g1.1∧g1.1 < (a0.length:Int)) <|
  gd (0≤g1.1∧g1.1 < (a0.length:Int)) <|
  gd (0≤u64.wrap (i64.wrap (3 * g1.1))) <|
  (zq4 (a0.getD g1.1.toNat Resource.zero) (v1.1.fdiv (2 ^ (Nat.min (u64.wrap (i64.wrap (3 * g1.1))).toNat i64.bits)))).bind fun v3 =>
  gd (g1.2.length+1≤4294967296) <|
  some (.inl ((i64.wrap (g1.1+1)),(g1.2++[(⟨(a0.getD g1.1.toNat Resource.zero).name,v3⟩:Atom)])))
 else
  some (.inr g1.2))
def zs4 (a0:List Resource) (a1:Tape):Option (Expr×Tape) :=
 (zb4 1048576 a1).bind fun v1 =>
 (zc0 (zam4 a0 v1) (0,[])).bind (fun z=>zay8 v1 z)
@[reducible,instance] def zdP8 a0 a1 (v1:Int×Tape):=mkJ (zs4 a0 a1,v1) 0 (@zay8.eq_1 v1) fun (j1:(List Atom))=>⟨[(0,.ptr 0 0 0),(4,.ptr 1 0 0),(6,.own 2 0 j1.length)],[(0,bx v1.2),(1,bx Expr.zero),(2,sx j1)],3⟩
@[reducible,instance] def zdP9 (a0:List Resource) (v1:Int×Tape) {T:Type} (x:T):=mkL x (@zam4.eq_1 a0 v1) fun (g1:Int×(List Atom))=>⟨[(0,.ptr 0 0 0),(1,la a0),(4,.ptr 1 0 0),(5,.int .i64 v1.1),(6,.own 2 0 g1.2.length),(7,.int .i64 g1.1)],[(0,bx v1.2),(1,bx Expr.zero),(2,sx g1.2)],3⟩
instance zbE7 (a0:List Resource) (a1:Tape):OkM (zs4 a0 a1) 203 [.ptr 0 0 0,la a0] [(0,bx a1)] 1 (fun r=>ga r.1) (fun r=>[(0,bx r.2)]) 1:=okm (zs4.eq_1 a0 a1) (fun r=>[ga r.1]) Tryz.f203 [(6,1)]
attribute [local irreducible] zs4
def zi5 (a0:Resource):Option Bool :=
 (zh3 a0.name).bind fun v1 =>
 some (((v1&&zJ0 a0)&&decide (0≤a0.home))&&decide (a0.home < 4))
instance zcf9 (a0:Resource):OkP (zi5 a0) 204 [ga a0] (fun r=>.bool r):=ok1 (zi5.eq_1 a0) Tryz.f204 []
attribute [local irreducible] zi5
def zaR9 (j2:Unit):Option Bool :=
 some true
def zT9 (a0:Ledger) (g1:Int):Option (Int⊕(Unit⊕Bool)) :=
 (if (decide (g1 < (a0.saves.length:Int)))=true then
  gd (0≤g1∧g1 < (a0.saves.length:Int)) <|
  gd (((!(((decide ((a0.saves.getD g1.toNat Save.zero).label < 1)||decide (99 < (a0.saves.getD g1.toNat Save.zero).label))||decide ((a0.saves.getD g1.toNat Save.zero).at_ < 0))||decide ((a0.entries.length:Int) < (a0.saves.getD g1.toNat Save.zero).at_)))&&decide (0 < g1))=true→0≤i64.wrap (g1 - 1)∧i64.wrap (g1 - 1) < (a0.saves.length:Int)) <|
  ((if (!((((decide ((a0.saves.getD g1.toNat Save.zero).label < 1)||decide (99 < (a0.saves.getD g1.toNat Save.zero).label))||decide ((a0.saves.getD g1.toNat Save.zero).at_ < 0))||decide ((a0.entries.length:Int) < (a0.saves.getD g1.toNat Save.zero).at_))||(decide (0 < g1)&&decide ((a0.saves.getD g1.toNat Save.zero).at_ < (a0.saves.getD ((i64.wrap (g1 - 1)).toNat) Save.zero).at_))))=true then zk5 a0.saves ((a0.saves.getD g1.toNat Save.zero).label) else some 0)).bind fun v2 =>
  (if (((((decide ((a0.saves.getD g1.toNat Save.zero).label < 1)||decide (99 < (a0.saves.getD g1.toNat Save.zero).label))||decide ((a0.saves.getD g1.toNat Save.zero).at_ < 0))||decide ((a0.entries.length:Int) < (a0.saves.getD g1.toNat Save.zero).at_))||(decide (0 < g1)&&decide ((a0.saves.getD g1.toNat Save.zero).at_ < (a0.saves.getD ((i64.wrap (g1 - 1)).toNat) Save.zero).at_)))||(!decide (v2=g1)))=true then
   some (.inr (.inr false))
  else
   some (.inl (i64.wrap (g1+1))))
 else
  some (.inr (.inl ())))
def zac9 (a0:Ledger) (j1:Unit):Option Bool :=
 (zi3 a0.entries).bind fun v1 =>
 (if (decide (8 < (v1.length:Int)))=true then
  some false
 else
  (zc0 (zT9 a0) 0).bind (fun|.inl z=>zaR9 z|.inr z=>some z))
def zad0 (a0:Ledger) (g2:Int):Option (Int⊕(Unit⊕Bool)) :=
 (if (decide (g2 < (a0.entries.length:Int)))=true then
  gd (0≤g2∧g2 < (a0.entries.length:Int)) <|
  (zh3 ((a0.entries.getD g2.toNat Entry.zero).name)).bind fun v3 =>
  gd (v3=true→0≤0∧0≤g2∧g2≤(a0.entries.length:Int)) <|
  ((if v3=true then zi6 (a0.entries.take g2.toNat) ((a0.entries.getD g2.toNat Entry.zero).name) else some Amount.zero)).bind fun v4 =>
  (if (((!v3)||(!decide ((a0.entries.getD g2.toNat Entry.zero).before=v4)))||(!(zO5 ((a0.entries.getD g2.toNat Entry.zero).before) ((a0.entries.getD g2.toNat Entry.zero).after))))=true then
   some (.inr (.inr false))
  else
   some (.inl (i64.wrap (g2+1))))
 else
  some (.inr (.inl ())))
def zo6 (a0:Ledger):Option Bool :=
 (if (decide (72 < (a0.entries.length:Int))||decide (4 < (a0.saves.length:Int)))=true then
  some false
 else
  (zc0 (zad0 a0) 0).bind (fun|.inl z=>zac9 a0 z|.inr z=>some z))
@[reducible,instance] def zdQ0 a0 j1 {T1:Type} (v1:T1):=mkJ (zac9 a0 j1,v1) 2 (@zaR9.eq_1) fun (j2:Unit)=>⟨[],[],0⟩
@[reducible,instance] def zdQ1 (a0:Ledger) {T:Type} (x:T):=mkL x (@zT9.eq_1 a0) fun (g1:Int)=>⟨[(1,.ptr 0 0 0),(5,.int .i64 g1)],[(0,bx a0)],1⟩
@[reducible,instance] def zdQ2 (a0:Ledger):=mkJ (zo6 a0) 0 (@zac9.eq_1 a0) fun (j1:Unit)=>⟨[(1,.ptr 0 0 0)],[(0,bx a0)],1⟩
@[reducible,instance] def zdQ3 (a0:Ledger) {T:Type} (x:T):=mkL x (@zad0.eq_1 a0) fun (g2:Int)=>⟨[(1,.ptr 0 0 0),(3,.int .i64 g2)],[(0,bx a0)],1⟩
instance zbd8 (a0:Ledger):OkP (zo6 a0) 149 [ga a0] (fun r=>.bool r):=ok1 (zo6.eq_1 a0) Tryz.f149 []
attribute [local irreducible] zo6
end
end Ab
end Go.Proofs.YtcggeefhhegeoaaGreatDoor
