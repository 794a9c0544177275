import Derived.Test.YtcggeefhhegeoaaGreatDoorHm1
import Derived.Test.YtcggeefhhegeoaaGreatDoorHm2
import Derived.Test.YtcggeefhhegeoaaGreatDoorHm3
import Derived.Test.YtcggeefhhegeoaaGreatDoorHm4
import Derived.Test.YtcggeefhhegeoaaGreatDoorHm8
namespace Go.Proofs.YtcggeefhhegeoaaGreatDoor
namespace Ab
open IntKind (i64 u64 u8)
set_option linter.unusedSimpArgs false
set_option linter.unusedVariables false
set_option linter.defProp false
set_option maxRecDepth 100000
set_option maxHeartbeats 1000000
noncomputable section
attribute [local irreducible] zj2 za4 zd1 za7 zf7 zi6 zk5 zg4 zk6 zf3 zd2 zd8 zh9 zd6 zk1 za6 za0 ze0 zj7 zl9 zi3 zh5 zg2 zg8 zf8 zc5 ze1 ze2 zg9 zf5 ze3 zb0 za8 zh0 zi4 ze4 zn1 f_ref08_holds zj3 zc2 zn6 zm4 zm1 zd9 ze8 zk2 zm5 zh1 zj9 zl7 zd0 zi7 zf0 zf9 zl4
def zp1 (a0:Int):Option Proc :=
 (zn6 a0 8).bind fun v1 =>
 some (⟨(v1.tmod 4),1,i64.wrap (1+i64.wrap (v1.tdiv 4))⟩:Proc)
instance zcf7 (a0:Int):OkP (zp1 a0) 22 [.int .i64 a0] (fun r=>ga r):=ok1 (zp1.eq_1 a0) Tryz.f22 []
attribute [local irreducible] zp1
def zk4 (a0:Expr):Option Int :=
 (zd6 a0 1 0).bind fun v1 =>
 some v1.1
instance zbw6 (a0:Expr):OkP (zk4 a0) 108 [ga a0] (fun r=>.int .i64 r):=ok1 (zk4.eq_1 a0) Tryz.f108 []
attribute [local irreducible] zk4
def zD8 (a2:decoder) (v1:Int×Int×Int) (j1:Int):Option (Int×decoder) :=
 (if (!decide (j1=0))=true then
  some (0,{ a2 with reader:={ a2.reader with err:=j1 } })
 else
  gd (0≤v1.2.1∧v1.2.1≤(a2.reader.rest.length:Int)∧(a2.reader.rest.length:Int)≤(a2.reader.rest.length:Int)) <|
  some ((i64.wrap v1.1),{ a2 with reader:={ a2.reader with rest:=(a2.reader.rest.drop v1.2.1.toNat) } }))
def zb9 (a0 a1:Int) (a2:decoder):Option (Int×decoder) :=
 (if (!decide (a2.reader.err=0))=true then
  some (0,a2)
 else
  (zk1 a2.reader.rest).bind fun v1 =>
  (if (decide (v1.2.2=0)&&decide (u64.wrap a0 < v1.1))=true then
   zD8 a2 v1 a1
  else
   zD8 a2 v1 v1.2.2))
@[reducible,instance] def zdJ9 a0 a1 (a2:decoder) (v1:Int×Int×Int):=mkJ (zb9 a0 a1 a2,v1) 999 (@zD8.eq_1 a2 v1) fun (j1:Int)=>⟨[(0,.ptr 0 0 0),(7,.int .u64 v1.1),(8,.int .i64 v1.2.1),(9,.int .i64 j1)],[(0,bx a2)],1⟩
instance zbC3 (a0 a1:Int) (a2:decoder):OkM (zb9 a0 a1 a2) 77 [.ptr 0 0 0,.int .i64 a0,.int .i64 a1] [(0,bx a2)] 1 (fun r=>.int .i64 r.1) (fun r=>[(0,bx r.2)]) 1:=okm (zb9.eq_1 a0 a1 a2) (fun r=>[.int .i64 r.1]) Tryz.f77 []
attribute [local irreducible] zb9
def zo8 (a0:List Int):Option (ByteArray×Int×Int) :=
 (zk1 a0).bind fun v1 =>
 (if (!decide (v1.2.2=0))=true then
  some ((⟨#[]⟩:ByteArray),0,v1.2.2)
 else
  (if (decide (1024 < v1.1))=true then
   some ((⟨#[]⟩:ByteArray),0,3)
  else
   (if (decide (i64.wrap ((a0.length:Int) - v1.2.1) < i64.wrap v1.1))=true then
    some ((⟨#[]⟩:ByteArray),0,5)
   else
    gd (0≤v1.2.1∧v1.2.1≤i64.wrap (v1.2.1+i64.wrap v1.1)∧i64.wrap (v1.2.1+i64.wrap v1.1)≤(a0.length:Int)) <|
    some ((zaU3 ((a0.take ((i64.wrap (v1.2.1+i64.wrap v1.1)).toNat)).drop v1.2.1.toNat)),i64.wrap (v1.2.1+i64.wrap v1.1),0))))
instance zdh1 (a0:List Int):OkP (zo8 a0) 123 [.sl (a0.map (eI .u8))] (fun r=>.tup [.str r.1,.int .i64 r.2.1,.int .i64 r.2.2]):=ok1 (zo8.eq_1 a0) Tryz.f123 []
attribute [local irreducible] zo8
def zd4 (a0:Need):Option Need :=
 (zd1 a0.expr).bind fun v1 =>
 some ({ a0 with expr:=v1 })
instance zaV9 (a0:Need):OkP (zd4 a0) 64 [ga a0] (fun r=>ga r):=⟨fun r h=>by
 refine zag9 Tryz.f64 [] fun E hG hN hK=>?_
 have hm:Mk (zd4 a0):=trivial
 unfold zd4 at h
 refine za2 (za9 hG ?_)
 refine za2 (za9 hG ?_)
 obtain ⟨v1,hv1,h⟩:=zf1 h
 have hm:=mkP hm v1
 refine zu6 (fun hg=>(zaV5 a0.expr).ok _ hv1) ?_
 refine za2 (za9 hG ?_)
 refine zw3 ?_
 exact zW9 h (by intro e; subst e; simp [Proc.enc,Atom.enc,Amount.enc])⟩
attribute [local irreducible] zd4
def zt6 (a0:Resource) (a1:Amount):Bool :=
 (if (!(zJ0 a0))=true then
  false
 else
  (if (decide (a0.kind=1))=true then
   (zx6 a1.mode&&decide (a1.units=0))
  else
   ((decide (a1.mode=0)&&decide (1≤a1.units))&&decide (a1.units≤a0.units))))
instance zbU9 (a0:Resource) (a1:Amount):OkT 151 [.agg (Resource.enc a0),.agg (Amount.enc a1)] (.bool (zt6 a0 a1)):=ok2 (fun r=>.bool r) (zt6.eq_1 a0 a1) Tryz.f151 []
def zN4 (a0 a1:Int):Bool :=
 (if ((((!(zx6 a0))||(!(zx6 a1)))||decide (a0=5))||decide (a1=5))=true then
  false
 else
  ((decide (a0=1)||decide (a1=1))||(decide (a0=a1)&&(!decide (a0=4)))))
instance zcu5 (a0 a1:Int):OkT 275 [.int .i64 a0,.int .i64 a1] (.bool (zN4 a0 a1)):=ok2 (fun r=>.bool r) (zN4.eq_1 a0 a1) Tryz.f275 []
def zP7 (a0 a1:Int):Bool :=
 (if ((!(zx6 a0))||(!(zx6 a1)))=true then
  false
 else
  (((decide (a0=a1)||decide (a0=5))||decide (a1=1))||(decide (a0=4)&&(!decide (a1=5)))))
instance zcR0 (a0 a1:Int):OkT 237 [.int .i64 a0,.int .i64 a1] (.bool (zP7 a0 a1)):=ok2 (fun r=>.bool r) (zP7.eq_1 a0 a1) Tryz.f237 []
def zm2 (a0:List Int) (a1:Proc):Option (List Int) :=
 (if (!(zm6 a1))=true then
  gd (a0.length≤4294967296) <|
  some a0
 else
  (zf0 a0 (u64.wrap a1.site)).bind fun v1 =>
  (zf0 v1 (u64.wrap a1.inc)).bind fun v2 =>
  (zf0 v2 (u64.wrap a1.num)).bind fun v3 =>
  some v3)
attribute [local irreducible] zm2
attribute [local irreducible] zn9 zm7 zb2 zc1 zh4 zq0 zh2 za5 za1 zb4 zh7 ze9 zm8 zk9 zd7 zd3 zi8 ze6 zq1 zi2 zc8 zo4
def ze5 (a0:Resource):Option Bool :=
 (zd7 a0.name).bind fun v1 =>
 some (((v1&&zg3 a0)&&decide (0≤a0.home))&&decide (a0.home < 4))
instance zbV0 (a0:Resource):OkP (ze5 a0) 173 [ga a0] (fun r=>.bool r):=ok1 (ze5.eq_1 a0) Tryz.f173 []
attribute [local irreducible] ze5
def zc6 (a0:Resource) (a1:Amount):Bool :=
 (zg3 a0&&(zl2 a1||zb3 a0 a1))
instance zbj4 (a0:Resource) (a1:Amount):OkT 261 [.agg (Resource.enc a0),.agg (Amount.enc a1)] (.bool (zc6 a0 a1)):=ok2 (fun r=>.bool r) (zc6.eq_1 a0 a1) Tryz.f261 []
def zav7 (j1:(List Int)):Option (List Int) :=
 some j1
def zJ1 (a90:(List Int→Expr→Option (List Int))) (a1:Expr) (g1:(List Int)×Int):Option (((List Int)×Int)⊕(List Int)) :=
 (if (decide (g1.2 < (a1.kids.length:Int)))=true then
  gd (0≤g1.2∧g1.2 < (a1.kids.length:Int)) <|
  (a90 g1.1 (a1.kids.getD g1.2.toNat Expr.zero)).bind fun v5 =>
  some (.inl (v5,i64.wrap (g1.2+1)))
 else
  some (.inr g1.1))
def zF4 (a90:(List Int→Expr→Option (List Int))) (a0:List Int) (a1:Expr):Option (List Int) :=
 (zc1 a0 [a1.k]).bind fun v1 =>
 (if (decide (a1.k=0))=true then
  (zi8 v1 a1.atom.name).bind fun v2 =>
  (zc1 v2 [a1.atom.amount.mode,a1.atom.amount.units]).bind fun v3 =>
  some v3
 else
  (zc1 v1 [(a1.kids.length:Int)]).bind fun v4 =>
  (zc0 (zJ1 a90 a1) (v4,0)).bind (fun z=>zav7 z))
def zH1:Nat→(List Int→Expr→Option (List Int))
 | 0=>fun _ _=>none
 | n+1=>zF4 (zH1 n)
def zj5 (a0:List Int) (a1:Expr):Option (List Int):=zH1 (_root_.SizeOf.sizeOf a1+1) a0 a1
@[reducible,instance] def zdK0 (a90:(List Int→Expr→Option (List Int))) (a0:List Int) (a1:Expr) {T1:Type} (v1:T1) {T2:Type} (v4:T2):=mkJ ((zF4 a90 a0 a1,v1),v4) 0 (@zav7.eq_1) fun (j1:(List Int))=>⟨[(0,.sl (j1.map (eI .u8)))],[],0⟩
@[reducible,instance] def zdK1 (a90:(List Int→Expr→Option (List Int))) (a1:Expr) {T:Type} (x:T):=mkL x (@zJ1.eq_1 a90 a1) fun (g1:(List Int)×Int)=>⟨[(0,.sl (g1.1.map (eI .u8))),(37,la a1.kids),(38,.int .i64 (a1.kids.length:Int)),(39,.int .i64 g1.2)],[],0⟩
abbrev zab4 (g:(List Int→Expr→Option (List Int))):Prop:=∀ (a0:List Int) (a1:Expr),OkP (g a0 a1) 31 [.sl (a0.map (eI .u8)),.agg (Expr.enc a1)] (fun r=>.sl (r.map (eI .u8)))
theorem zba9 (a90:(List Int→Expr→Option (List Int))) (hrc:zab4 a90):zab4 (zF4 a90):=fun a0 a1=>ok1 (zF4.eq_1 a90 a0 a1) Tryz.f31 []
theorem zbb0:∀ n,zab4 (zH1 n):=zaP4 (fun _ _=>⟨fun _ h=>nomatch h⟩) fun n=>zba9 _
instance zcn9:zab4 zj5:=fun a0 a1=>zbb0 _ a0 a1
attribute [local irreducible] zj5
def zc3 (a0:Int) (a1:decoder):Option (Int×decoder) :=
 (zb9 a0 4 a1).bind fun v1 =>
 some (v1.1,v1.2)
instance zG1 (a0:Int) (a1:decoder):OkM (zc3 a0 a1) 33 [.ptr 0 0 0,.int .i64 a0] [(0,bx a1)] 1 (fun r=>.int .i64 r.1) (fun r=>[(0,bx r.2)]) 1:=okm (zc3.eq_1 a0 a1) (fun r=>[.int .i64 r.1]) Tryz.f33 []
attribute [local irreducible] zc3
def zb7 (a0:decoder):Option (Int×decoder) :=
 (zb9 1073741824 16 a0).bind fun v1 =>
 some (v1.1,v1.2)
instance zz9 (a0:decoder):OkM (zb7 a0) 36 [.ptr 0 0 0] [(0,bx a0)] 1 (fun r=>.int .i64 r.1) (fun r=>[(0,bx r.2)]) 1:=okm (zb7.eq_1 a0) (fun r=>[.int .i64 r.1]) Tryz.f36 []
attribute [local irreducible] zb7
def zs3 :List ByteArray:=[(⟨#[97]⟩:ByteArray),(⟨#[98]⟩:ByteArray),(⟨#[99]⟩:ByteArray),(⟨#[100]⟩:ByteArray)]
def zao4 (j1:Tape×(List Resource)):Option ((List Resource)×Tape) :=
 (zb4 8 j1.1).bind fun v1 =>
 (zb4 4 v1.2).bind fun v2 =>
 gd (j1.2.length+1≤4294967296) <|
 (zb4 3 v2.2).bind fun v3 =>
 (zb4 4 v3.2).bind fun v4 =>
 gd (j1.2.length+1+1≤4294967296) <|
 some (((j1.2++[(⟨(⟨#[112]⟩:ByteArray),2,i64.wrap (1+v1.1),v2.1⟩:Resource)])++[(⟨(⟨#[113]⟩:ByteArray),2,i64.wrap (1+v3.1),v4.1⟩:Resource)]),v4.2)
def zK6 (g1:Int×Tape×(List Resource)):Option ((Int×Tape×(List Resource))⊕(Tape×(List Resource))) :=
 (if (decide (g1.1 < (zs3.length:Int)))=true then
  gd (0≤g1.1∧g1.1 < (zs3.length:Int)) <|
  (zb4 4 g1.2.1).bind fun v5 =>
  gd (g1.2.2.length+1≤4294967296) <|
  some (.inl ((i64.wrap (g1.1+1)),v5.2,(g1.2.2++[(⟨(zs3.getD g1.1.toNat ⟨#[]⟩),1,1,v5.1⟩:Resource)])))
 else
  some (.inr (g1.2.1,g1.2.2)))
def zk3 (a0:Tape):Option ((List Resource)×Tape) :=
 (zc0 zK6 (0,a0,[])).bind (fun z=>zao4 z)
@[reducible,instance] def zdK2 (a0:Tape):=mkJ (zk3 a0) 0 (@zao4.eq_1) fun (j1:Tape×(List Resource))=>⟨[(0,.ptr 0 0 0),(3,.own 1 0 j1.2.length)],[(0,bx j1.1),(1,sx j1.2)],2⟩
@[reducible,instance] def zdK3 {T:Type} (x:T):=mkL x (@zK6.eq_1) fun (g1:Int×Tape×(List Resource))=>⟨[(0,.ptr 0 0 0),(3,.own 1 0 g1.2.2.length),(4,.full (zs3.map eS)),(5,.int .i64 g1.1)],[(0,bx g1.2.1),(1,sx g1.2.2)],2⟩
instance zcx5 (a0:Tape):OkM (zk3 a0) 117 [.ptr 0 0 0] [(0,bx a0)] 1 (fun r=>la r.1) (fun r=>[(0,bx r.2)]) 1:=⟨fun r h=>by
 refine zaC5 Tryz.f117 [(3,1)] [la r.1] fun E hG hN hK=>?_
 have hm:Mk (zk3 a0):=trivial
 unfold zk3 at h
 refine za2 (za9 hG ?_)
 refine za2 (za9 hG ?_)
 refine za2 (za9 hG ?_)
 refine g_gh (.cast 4 (.full (zs3.map eS))) ?_
 refine za2 (za2 (za9 hG ?_))
 refine zao7 hm h (fun j1 hm h=>?_) ?_
 · try refine g_st ?_
   refine za2 (za9 hG ?_)
   obtain ⟨v1,hv1,h⟩:=zf1 h
   have hm:=mkP hm v1
   refine zu2 [(0,0)] [] [0] ((zu0 8 j1.1).ok _ hv1) rfl rfl ?_
   obtain ⟨v2,hv2,h⟩:=zf1 h
   have hm:=mkP hm v2
   obtain ⟨hb2,h⟩:=zg5 h
   refine zu2 [(0,0)] [] [0] ((zu0 4 v1.2).ok _ hv2) rfl rfl ?_
   refine za2 (za9 hG ?_)
   obtain ⟨v3,hv3,h⟩:=zf1 h
   have hm:=mkP hm v3
   refine zu2 [(0,0)] [] [0] ((zu0 3 v2.2).ok _ hv3) rfl rfl ?_
   obtain ⟨v4,hv4,h⟩:=zf1 h
   have hm:=mkP hm v4
   obtain ⟨hb1,h⟩:=zg5 h
   refine zu2 [(0,0)] [] [0] ((zu0 4 v3.2).ok _ hv4) rfl rfl ?_
   refine g_gh (.fz [3]) ?_
   exact gogo
 exact gogo⟩
attribute [local irreducible] zk3
def zav8 (j1:Tape×Expr):Option (Expr×Tape) :=
 some (j1.2,j1.1)
@[go_sem] def zdr9  (j1:Tape×Expr):St:=⟨[(6,.ptr 1 0 0),(8,.ptr 2 0 0)],[(0,bx j1.1),(1,bx Expr.zero),(2,⟨false,5,Expr.enc Expr.zero,[[.int .i64 j1.2.k,.str j1.2.atom.name,.int .i64 j1.2.atom.amount.mode,.int .i64 j1.2.atom.amount.units,.own 3 0 j1.2.kids.length]]⟩),(3,sx j1.2.kids)],4⟩
def zai3 (a90:(List Atom→Int→Tape→Option (Expr×Tape))) (a0:List Atom) (a1:Int) (v3:Int×Tape) (g1:Int×Tape×Expr):Option ((Int×Tape×Expr)⊕(Tape×Expr)) :=
 (if (decide (g1.1 < i64.wrap (1+v3.1)))=true then
  (a90 a0 (i64.wrap (a1 - 1)) g1.2.1).bind fun v5 =>
  gd (g1.2.2.kids.length+1≤4294967296) <|
  some (.inl ((i64.wrap (g1.1+1)),v5.2,(⟨g1.2.2.k,(⟨g1.2.2.atom.name,(⟨g1.2.2.atom.amount.mode,g1.2.2.atom.amount.units⟩:Amount)⟩:Atom),(g1.2.2.kids++[v5.1])⟩:Expr)))
 else
  some (.inr (g1.2.1,g1.2.2)))
@[go_sem] def zds0 (a0:List Atom) (a1:Int) (v3:Int×Tape) (g1:Int×Tape×Expr):St:=⟨[(0,.ptr 0 0 0),(1,la a0),(2,.int .i64 a1),(6,.ptr 1 0 0),(7,.int .i64 (i64.wrap (1+v3.1))),(8,.ptr 2 0 0),(9,.int .i64 g1.1)],[(0,bx g1.2.1),(1,bx Expr.zero),(2,⟨false,5,Expr.enc Expr.zero,[[.int .i64 g1.2.2.k,.str g1.2.2.atom.name,.int .i64 g1.2.2.atom.amount.mode,.int .i64 g1.2.2.atom.amount.units,.own 3 0 g1.2.2.kids.length]]⟩),(3,sx g1.2.2.kids)],4⟩
def zac6 (a90:(List Atom→Int→Tape→Option (Expr×Tape))) (a0:List Atom) (a1:Int) (a2:Tape):Option (Expr×Tape) :=
 ((if (!(decide (a1=0)))=true then zb4 4 a2 else some (0,a2))).bind fun v1 =>
 (if (decide (a1=0)||decide (v1.1=0))=true then
  (zb4 (a0.length:Int) v1.2).bind fun v2 =>
  gd (0≤v2.1∧v2.1 < (a0.length:Int)) <|
  some ({ Expr.zero with atom:=(a0.getD v2.1.toNat Atom.zero) },v2.2)
 else
  (zb4 3 v1.2).bind fun v3 =>
  (zb4 (i64.wrap (1+v3.1)) v3.2).bind fun v4 =>
  (zc0 (zai3 a90 a0 a1 v3) (0,v4.2,(⟨(i64.wrap (1+v4.1)),(⟨Atom.zero.name,(⟨Atom.zero.amount.mode,Atom.zero.amount.units⟩:Amount)⟩:Atom),[]⟩:Expr))).bind (fun z=>zav8 z))
def zR8:Nat→(List Atom→Int→Tape→Option (Expr×Tape))
 | 0=>fun _ _ _=>none
 | n+1=>zac6 (zR8 n)
def zq2 (a0:List Atom) (a1:Int) (a2:Tape):Option (Expr×Tape):=zR8 (a1.toNat+1) a0 a1 a2
theorem zbw7 (a90:(List Atom→Int→Tape→Option (Expr×Tape))) (hrc:∀ (a0:List Atom) (a1:Int) (a2:Tape) (r:Expr×Tape),a90 a0 a1 a2=some r→MFn C 242 [.ptr 0 0 0,la a0,.int .i64 a1] [(0,bx a2)] 1 (ga r.1) [(0,bx r.2)] 1) (a0:List Atom) (a1:Int) (a2:Tape) (r:Expr×Tape) (h:zac6 a90 a0 a1 a2=some r):MFn C 242 [.ptr 0 0 0,la a0,.int .i64 a1] [(0,bx a2)] 1 (ga r.1) [(0,bx r.2)] 1:=by
 refine zaC5 Tryz.f242 [(32,18),(8,18)] [ga r.1] fun E hG hN hK=>?_
 unfold zac6 at h
 refine za2 (za9 hG ?_)
 refine za2 (za2 (za9 hG ?_))
 obtain ⟨v1,hv1,h⟩:=zf1 h
 refine zbr4 [(0,0)] [0] hv1 (fun hc=>(zu0 4 a2).ok _ hc) rfl ?_
 refine zo2 rfl hG h (fun _ h=>?_) (fun _ h=>?_)
 · refine za2 (za9 hG ?_)
   obtain ⟨v2,hv2,h⟩:=zf1 h
   obtain ⟨hb1,h⟩:=zg5 h
   refine zu2 [(0,0)] [] [0] ((zu0 (a0.length:Int) v1.2).ok _ hv2) rfl rfl ?_
   refine zw3 ?_
   exact zS7 [(0,0)] h
 refine zn4 ?_
 refine za2 (za9 hG ?_)
 obtain ⟨v3,hv3,h⟩:=zf1 h
 refine zu2 [(0,0)] [] [0] ((zu0 3 v1.2).ok _ hv3) rfl rfl ?_
 refine za2 (za9 hG ?_)
 obtain ⟨v4,hv4,h⟩:=zf1 h
 refine zu2 [(0,0)] [] [0] ((zu0 (i64.wrap (1+v3.1)) v3.2).ok _ hv4) rfl rfl ?_
 refine g_gh (.ownb 2 4 5 (Expr.enc Expr.zero)) ?_
 refine za2 (za2 (za9 hG ?_))
 refine zP5 zdr9 (fun v=>zav8 v=some r) ?_ ?_
 · intro j1 h
   unfold zav8 at h
   refine g_st ?_
   refine za2 (za9 hG ?_)
   refine g_gh (.fz [3]) ?_
   refine zw3 ?_
   exact zS7 [(0,0)] h
 refine zao1 (zds0 a0 a1 v3) hK [(0,0),(1,1),(2,2),(3,3)] h (fun x_l1 h g1 y_l1 h_l1 hx_l1=>?_)
 unfold zai3 at h_l1
 refine g_st ?_
 refine za2 (za2 (za9 hG ?_))
 refine zo2 rfl hG h_l1 (fun _ h_l1=>?_) (fun _ h_l1=>?_)
 · refine zn4 ?_
   refine za2 (zI8 (zaF0 zL7 hG ?_))
   obtain ⟨v5,hv5,h_l1⟩:=zf1 h_l1
   obtain ⟨hb2,h_l1⟩:=zg5 h_l1
   refine zbL7 [(0,0)] [] [0] (hrc a0 (i64.wrap (a1 - 1)) g1.2.1 _ hv5) rfl rfl ?_
   refine za9 hG ?_
   exact zX1 hK [(0,0),(1,1),(2,2),(3,4)] h_l1
 refine zR6 ?_
 cases h_l1
 cases hx_l1 _ rfl
 exact zI1 hK [(0,0),(1,1),(2,2),(3,3)] (g1.2.1,g1.2.2) (by exact h)
theorem zaR6:∀ (n:Nat) (a0:List Atom) (a1:Int) (a2:Tape) (r:Expr×Tape),zR8 n a0 a1 a2=some r→MFn C 242 [.ptr 0 0 0,la a0,.int .i64 a1] [(0,bx a2)] 1 (ga r.1) [(0,bx r.2)] 1
 | 0,_,_,_,_,h=>nomatch h
 | n+1,a0,a1,a2,r,h=>zbw7 (zR8 n) (zaR6 n) a0 a1 a2 r h
instance zcL2 (a0:List Atom) (a1:Int) (a2:Tape):OkM (zq2 a0 a1 a2) 242 [.ptr 0 0 0,la a0,.int .i64 a1] [(0,bx a2)] 1 (fun r=>ga r.1) (fun r=>[(0,bx r.2)]) 1:=⟨fun r h=>zaR6 _ a0 a1 a2 r h⟩
attribute [local irreducible] zq2
def zaG3 (j1:(List Atom)):Option (List Atom) :=
 some j1
def zab5 (a0:List Queue) (a1:Proc) (g1:Int×(List Atom)):Option ((Int×(List Atom))⊕(List Atom)) :=
 (if (decide (g1.1 < (a0.length:Int)))=true then
  gd (0≤g1.1∧g1.1 < (a0.length:Int)) <|
  (zi2 (a0.getD g1.1.toNat Queue.zero) a1).bind fun v1 =>
  (if (!(zm0 v1))=true then
   gd (0≤g1.1∧g1.1 < (a0.length:Int)) <|
   gd (g1.2.length+1≤4294967296) <|
   some (.inl ((i64.wrap (g1.1+1)),(g1.2++[(⟨((a0.getD g1.1.toNat Queue.zero).resource).name,v1⟩:Atom)])))
  else
   some (.inl ((i64.wrap (g1.1+1)),g1.2)))
 else
  some (.inr g1.2))
def zl0 (a0:List Queue) (a1:Proc):Option (List Atom) :=
 (zc0 (zab5 a0 a1) (0,[])).bind (fun z=>zaG3 z)
@[reducible,instance] def zdK4 a0 a1:=mkJ (zl0 a0 a1) 0 (@zaG3.eq_1) fun (j1:(List Atom))=>⟨[(5,.own 0 0 j1.length)],[(0,sx j1)],1⟩
@[reducible,instance] def zdK5 (a0:List Queue) (a1:Proc) {T:Type} (x:T):=mkL x (@zab5.eq_1 a0 a1) fun (g1:Int×(List Atom))=>⟨[(0,la a0),(3,.ptr 0 0 0),(5,.own 1 0 g1.2.length),(6,.int .i64 g1.1)],[(0,bx a1),(1,sx g1.2)],2⟩
instance zcF8 (a0:List Queue) (a1:Proc):OkP (zl0 a0 a1) 154 [la a0,ga a1] (fun r=>la r):=ok1 (zl0.eq_1 a0 a1) Tryz.f154 [(5,1)]
attribute [local irreducible] zl0
def zaF1 (j1:Unit):Option Bool :=
 some true
def zX7 (a0 a1:List Queue) (g1:Int):Option (Int⊕(Unit⊕Bool)) :=
 (if (decide (g1 < (a0.length:Int)))=true then
  gd (0≤g1∧g1 < (a0.length:Int)) <|
  gd (0≤g1∧g1 < (a1.length:Int)) <|
  (zo4 (a0.getD g1.toNat Queue.zero) (a1.getD g1.toNat Queue.zero)).bind fun v1 =>
  (if (!v1)=true then
   some (.inr (.inr false))
  else
   some (.inl (i64.wrap (g1+1))))
 else
  some (.inr (.inl ())))
def zr6 (a0 a1:List Queue):Option Bool :=
 (if (!decide ((a0.length:Int)=(a1.length:Int)))=true then
  some false
 else
  (zc0 (zX7 a0 a1) 0).bind (fun|.inl z=>zaF1 z|.inr z=>some z))
@[reducible,instance] def zdK6 a0 a1:=mkJ (zr6 a0 a1) 0 (@zaF1.eq_1) fun (j1:Unit)=>⟨[],[],0⟩
@[reducible,instance] def zdK7 (a0 a1:List Queue) {T:Type} (x:T):=mkL x (@zX7.eq_1 a0 a1) fun (g1:Int)=>⟨[(0,la a0),(1,la a1),(5,.int .i64 g1)],[],0⟩
instance zdh2 (a0 a1:List Queue):OkP (zr6 a0 a1) 16 [la a0,la a1] (fun r=>.bool r):=ok1 (zr6.eq_1 a0 a1) Tryz.f16 []
attribute [local irreducible] zr6
end
end Ab
end Go.Proofs.YtcggeefhhegeoaaGreatDoor
