import Derived.Test.YtcggeefhhegeoaaGreatDoorHm9
import Derived.Test.YtcggeefhhegeoaaGreatDoorHm10
import Derived.Test.YtcggeefhhegeoaaGreatDoorHm12
namespace Go.Proofs.YtcggeefhhegeoaaGreatDoor
namespace Ab
open IntKind (i64 u64 u8)
set_option linter.unusedSimpArgs false
set_option linter.unusedVariables false
set_option linter.defProp false
set_option maxRecDepth 100000
set_option maxHeartbeats 1000000
noncomputable section
attribute [local irreducible] zj2 za4 zd1 za7 zf7 zi6 zk5 zg4 zk6 zf3 zd2 zd8 zh9 zd6 zk1 za6 za0 ze0 zj7 zl9 zi3 zh5 zg2 zg8 zf8 zc5 ze1 ze2 zg9 zf5 ze3 zb0 za8 zh0 zi4 ze4 zn1 f_ref08_holds zj3 zc2 zn6 zm4 zm1 zd9 ze8 zk2 zm5 zh1 zj9 zl7 zd0 zi7 zf0 zf9 zl4 zn9 zm7 zb2 zc1 zh4 zq0 zp1 zk4 zb9 zo8 zd4 zm2 zh2 za5 za1 zb4 zh7 ze9 zm8 zk9 zd7 zd3 zi8 ze6 zq1 zi2 zc8 zo4 zo5 zb5 zi9 zf4 zh8 ze7 zm9 zp0 zp4 zp6 zi1 zf2 zq4 zr5 zt1 zg6 zs7 zc9 zq8 zh3 zh6 zi0 zl1
def zaZ7 (j1:Unit):Option Bool :=
 some true
def zR9 (a0:List Wait) (g1:Int):Option (Int⊕(Unit⊕Bool)) :=
 (if (decide (g1 < (a0.length:Int)))=true then
  gd (0≤g1∧g1 < (a0.length:Int)) <|
  ((if (zl8 (a0.getD g1.toNat Wait.zero))=true then zm4 a0 ((a0.getD g1.toNat Wait.zero).proc) else some 0)).bind fun v1 =>
  (if ((!(zl8 (a0.getD g1.toNat Wait.zero)))||(!decide (v1=g1)))=true then
   some (.inr (.inr false))
  else
   some (.inl (i64.wrap (g1+1))))
 else
  some (.inr (.inl ())))
def zs5 (a0:List Wait):Option Bool :=
 (if (decide (8 < (a0.length:Int)))=true then
  some false
 else
  (zc0 (zR9 a0) 0).bind (fun|.inl z=>zaZ7 z|.inr z=>some z))
@[reducible,instance] def zec5 a0:=mkJ (zs5 a0) 0 (@zaZ7.eq_1) fun (j1:Unit)=>⟨[],[],0⟩
@[reducible,instance] def zec6 (a0:List Wait) {T:Type} (x:T):=mkL x (@zR9.eq_1 a0) fun (g1:Int)=>⟨[(0,la a0),(8,la a0),(9,.int .i64 (a0.length:Int)),(10,.int .i64 g1)],[],0⟩
instance zdh4 (a0:List Wait):OkP (zs5 a0) 229 [la a0] (fun r=>.bool r):=ok1 (zs5.eq_1 a0) Tryz.f229 []
attribute [local irreducible] zs5
def zd5 (a0:decoder):Option (Proc×decoder) :=
 (if (!decide (a0.reader.err=0))=true then
  some ({ Proc.zero with  },a0)
 else
  (zq8 a0.reader.rest).bind fun v1 =>
  (if (!decide (v1.2.2=0))=true then
   some ({ Proc.zero with  },{ a0 with reader:={ a0.reader with err:=v1.2.2 } })
  else
   gd (0≤v1.2.1∧v1.2.1≤(a0.reader.rest.length:Int)∧(a0.reader.rest.length:Int)≤(a0.reader.rest.length:Int)) <|
   some (v1.1,{ a0 with reader:={ a0.reader with rest:=(a0.reader.rest.drop v1.2.1.toNat) } })))
instance zbH0 (a0:decoder):OkM (zd5 a0) 35 [.ptr 0 0 0] [(0,bx a0)] 1 (fun r=>ga r.1) (fun r=>[(0,bx r.2)]) 1:=okm (zd5.eq_1 a0) (fun r=>[ga r.1]) Tryz.f35 []
attribute [local irreducible] zd5
def zy1 (j1:Unit):Option Bool :=
 some true
def zj0 (a0 a1:List Need) (g1:Int):Option (Int⊕(Unit⊕Bool)) :=
 (if (decide (g1 < (a0.length:Int)))=true then
  gd (0≤g1∧g1 < (a0.length:Int)) <|
  gd (0≤g1∧g1 < (a1.length:Int)) <|
  (ze7 (a0.getD g1.toNat Need.zero) (a1.getD g1.toNat Need.zero)).bind fun v1 =>
  (if (!v1)=true then
   some (.inr (.inr false))
  else
   some (.inl (i64.wrap (g1+1))))
 else
  some (.inr (.inl ())))
def za3 (a0 a1:List Need):Option Bool :=
 (if (!decide ((a0.length:Int)=(a1.length:Int)))=true then
  some false
 else
  (zc0 (zj0 a0 a1) 0).bind (fun|.inl z=>zy1 z|.inr z=>some z))
@[reducible,instance] def zdO2 a0 a1:=mkJ (za3 a0 a1) 0 (@zy1.eq_1) fun (j1:Unit)=>⟨[],[],0⟩
@[reducible,instance] def zdO3 (a0 a1:List Need) {T:Type} (x:T):=mkL x (@zj0.eq_1 a0 a1) fun (g1:Int)=>⟨[(1,la a1),(2,.clo 41 []),(15,la a0),(16,.int .i64 (a0.length:Int)),(17,.int .i64 g1)],[],0⟩
instance zN5 (a0 a1:List Need):OkM (za3 a0 a1) 40 [la a0,la a1,.clo 41 []] [] 0 (fun r=>.bool r) (fun r=>[]) 0:=okm (za3.eq_1 a0 a1) (fun r=>[.bool r]) Tryz.f40 []
attribute [local irreducible] za3
def zay0 (j1:Unit):Option Bool :=
 some true
def zah8 (g1:Int×Int) (j2:Unit):Option ((Int×Int)⊕(Unit⊕Bool)) :=
 some (.inl (g1.1,i64.wrap (g1.2+1)))
def zF5 (a1:List Amount) (g1:Int×Int) (g2:Int):Option (Int⊕(Unit⊕Bool)) :=
 (if (decide (g2 < g1.2))=true then
  gd (0≤g1.2∧g1.2 < (a1.length:Int)) <|
  gd ((!(zm0 (a1.getD g1.2.toNat Amount.zero)))=true→0≤g2∧g2 < (a1.length:Int)) <|
  gd (((!(zm0 (a1.getD g1.2.toNat Amount.zero)))&&(!(zm0 (a1.getD g2.toNat Amount.zero))))=true→0≤g1.2∧g1.2 < (a1.length:Int)) <|
  gd (((!(zm0 (a1.getD g1.2.toNat Amount.zero)))&&(!(zm0 (a1.getD g2.toNat Amount.zero))))=true→0≤g2∧g2 < (a1.length:Int)) <|
  (if (((!(zm0 (a1.getD g1.2.toNat Amount.zero)))&&(!(zm0 (a1.getD g2.toNat Amount.zero))))&&(!(zN4 ((a1.getD g1.2.toNat Amount.zero).mode) ((a1.getD g2.toNat Amount.zero).mode))))=true then
   some (.inr (.inr false))
  else
   some (.inl (i64.wrap (g2+1))))
 else
  some (.inr (.inl ())))
def zB8 (a0:Resource) (a1:List Amount) (g1:Int×Int):Option ((Int×Int)⊕(Unit⊕Bool)) :=
 (if (decide (g1.2 < (a1.length:Int)))=true then
  gd (0≤g1.2∧g1.2 < (a1.length:Int)) <|
  (if (!(zu3 a0 (a1.getD g1.2.toNat Amount.zero)))=true then
   some (.inr (.inr false))
  else
   (if (decide (a0.kind=2))=true then
    gd (0≤g1.2∧g1.2 < (a1.length:Int)) <|
    (if (decide (a0.units < i64.wrap (g1.1+(a1.getD g1.2.toNat Amount.zero).units)))=true then
     some (.inr (.inr false))
    else
     some (.inl ((i64.wrap (g1.1+(a1.getD g1.2.toNat Amount.zero).units)),i64.wrap (g1.2+1))))
   else
    (zc0 (zF5 a1 g1) 0).bind (fun|.inl z=>zah8 g1 z|.inr z=>some (.inr (.inr z)))))
 else
  some (.inr (.inl ())))
def zk7 (a0:Resource) (a1:List Amount):Option Bool :=
 (if (!(zJ0 a0))=true then
  some false
 else
  (zc0 (zB8 a0 a1) (0,0)).bind (fun|.inl z=>zay0 z|.inr z=>some z))
@[reducible,instance] def zdO4 a0 a1:=mkJ (zk7 a0 a1) 0 (@zay0.eq_1) fun (j1:Unit)=>⟨[],[],0⟩
@[reducible,instance] def zdO5 (a0:Resource) (a1:List Amount) (g1:Int×Int):=mkJ (zB8 a0 a1 g1) 2 (@zah8.eq_1 g1) fun (j2:Unit)=>⟨[(1,la a1),(2,.ptr 0 0 0),(5,.int .i64 g1.1),(6,.int .i64 g1.2)],[(0,bx a0)],1⟩
@[reducible,instance] def zdO6 (a0:Resource) (a1:List Amount) (g1:Int×Int):=mkL (zB8 a0 a1 g1) (@zF5.eq_1 a1 g1) fun (g2:Int)=>⟨[(1,la a1),(2,.ptr 0 0 0),(5,.int .i64 g1.1),(6,.int .i64 g1.2),(7,.int .i64 g2)],[(0,bx a0)],1⟩
@[reducible,instance] def zdO7 (a0:Resource) (a1:List Amount) {T:Type} (x:T):=mkL x (@zB8.eq_1 a0 a1) fun (g1:Int×Int)=>⟨[(1,la a1),(2,.ptr 0 0 0),(5,.int .i64 g1.1),(6,.int .i64 g1.2)],[(0,bx a0)],1⟩
instance zcu6 (a0:Resource) (a1:List Amount):OkP (zk7 a0 a1) 257 [ga a0,la a1] (fun r=>.bool r):=ok1 (zk7.eq_1 a0 a1) Tryz.f257 []
attribute [local irreducible] zk7
def zs1 (a0:Queue):Option (List Proc) :=
 (zh1 a0.holds).bind fun v1 =>
 (zj9 a0).bind fun v2 =>
 gd (v1.length+v2.length≤4294967296) <|
 (zh6 (v1++v2)).bind fun v3 =>
 some v3
instance zcY0 (a0:Queue):OkP (zs1 a0) 84 [ga a0] (fun r=>la r):=ok1 (zs1.eq_1 a0) Tryz.f84 []
attribute [local irreducible] zs1
def zaw6 (a0:Expr) (a1:List Atom) (j1:Unit):Option (Nat⊕(Bool×(List Atom))) :=
 gd (a1.length+1≤4294967296) <|
 some (.inr (true,(a1++[a0.atom])))
def zai5 (a0:Expr) (a1:List Atom) (g1:Int):Option (Int⊕(Unit⊕(Nat⊕(Bool×(List Atom))))) :=
 (if (decide (g1 < ((a1.length:Nat):Int)))=true then
  gd (0≤g1∧g1 < ((a1.length:Nat):Int)) <|
  (if (decide (a1.getD g1.toNat Atom.zero=a0.atom))=true then
   some (.inr (.inr (.inr (true,a1))))
  else
   some (.inl (i64.wrap (g1+1))))
 else
  some (.inr (.inl ())))
def zaN6 (j2:(List Atom)):Option (Nat⊕(Bool×(List Atom))) :=
 some (.inr (true,j2))
def zZ3 (a90:(Expr→List Atom→Option (Nat⊕(Bool×(List Atom))))) (a0:Expr) (g2:Int×(List Atom)):Option ((Int×(List Atom))⊕((List Atom)⊕(Nat⊕(Bool×(List Atom))))) :=
 (if (decide (g2.1 < (a0.kids.length:Int)))=true then
  gd (0≤g2.1∧g2.1 < (a0.kids.length:Int)) <|
  (a90 (a0.kids.getD g2.1.toNat Expr.zero) g2.2).bind fun v2=>match v2 with
  | .inl v2 =>
   some (.inr (.inr (.inl g2.2.length)))
  | .inr v2 =>
   (if (!v2.1)=true then
    some (.inr (.inr (.inl g2.2.length)))
   else
    some (.inl ((i64.wrap (g2.1+1)),v2.2)))
 else
  some (.inr (.inl g2.2)))
def zy7 (a90:(Expr→List Atom→Option (Nat⊕(Bool×(List Atom))))) (a0:Expr) (a1:List Atom):Option (Nat⊕(Bool×(List Atom))) :=
 (if (decide ((a0.kids.length:Int)=0))=true then
  ((if (decide (a0.k=0))=true then zh3 a0.atom.name else some false)).bind fun v1 =>
  (if (((!decide (a0.k=0))||(!v1))||(!(zr2 a0.atom.amount)))=true then
   some (.inr (false,a1))
  else
   (zc0 (zai5 a0 a1) 0).bind (fun|.inl z=>zaw6 a0 a1 z|.inr z=>some z))
 else
  (if ((decide (a0.k < 1)||decide ((a0.kids.length:Int) < a0.k))||(!decide (a0.atom={ Atom.zero with  })))=true then
   some (.inr (false,a1))
  else
   (zc0 (zZ3 a90 a0) (0,a1)).bind (fun|.inl z=>zaN6 z|.inr z=>some z)))
def zA6:Nat→(Expr→List Atom→Option (Nat⊕(Bool×(List Atom))))
 | 0=>fun _ _=>none
 | n+1=>zy7 (zA6 n)
def zp2 (a0:Expr) (a1:List Atom):Option (Nat⊕(Bool×(List Atom))):=zA6 (_root_.SizeOf.sizeOf a0+1) a0 a1
@[reducible,instance] def zdO8 (a90:(Expr→List Atom→Option (Nat⊕(Bool×(List Atom))))) (a0:Expr) (a1:List Atom) {T1:Type} (v1:T1):=mkJ (zy7 a90 a0 a1,v1) 0 (@zaw6.eq_1 a0 a1) fun (j1:Unit)=>⟨[(0,.own 1 0 a1.length),(3,.ptr 2 0 0)],[(1,sx a1),(2,bx a0)],3⟩
@[reducible,instance] def zdO9 (a0:Expr) (a1:List Atom) {T:Type} (x:T):=mkL x (@zai5.eq_1 a0 a1) fun (g1:Int)=>⟨[(0,.own 1 0 a1.length),(3,.ptr 2 0 0),(6,.int .i64 g1)],[(1,sx a1),(2,bx a0)],3⟩
@[reducible,instance] def zdP0 (a90:(Expr→List Atom→Option (Nat⊕(Bool×(List Atom))))) (a0:Expr) (a1:List Atom):=mkJ (zy7 a90 a0 a1) 2 (@zaN6.eq_1) fun (j2:(List Atom))=>⟨[(0,.own 1 0 j2.length)],[(1,sx j2)],2⟩
@[reducible,instance] def zdP1 (a90:(Expr→List Atom→Option (Nat⊕(Bool×(List Atom))))) (a0:Expr) {T:Type} (x:T):=mkL x (@zZ3.eq_1 a90 a0) fun (g2:Int×(List Atom))=>⟨[(0,.own 1 0 g2.2.length),(3,.ptr 2 0 0),(7,.int .i64 g2.1)],[(1,sx g2.2),(2,bx a0)],3⟩
abbrev zX8 (g:(Expr→List Atom→Option (Nat⊕(Bool×(List Atom))))):Prop:=∀ (a0:Expr) (a1:List Atom),OkL (g a0 a1) 135 [.own 0 0 a1.length,.agg (Expr.enc a0)] [(0,⟨false,3,Atom.enc Atom.zero,a1.map Atom.enc⟩)] 1 (fun r=>.tup [.own 1 0 r,.bool false]) (fun r=>[]) 2
abbrev zX9 (g:(Expr→List Atom→Option (Nat⊕(Bool×(List Atom))))):Prop:=∀ (a0:Expr) (a1:List Atom),OkR (g a0 a1) 135 [.own 0 0 a1.length,.agg (Expr.enc a0)] [(0,⟨false,3,Atom.enc Atom.zero,a1.map Atom.enc⟩)] 1 (fun r=>.tup [.own 1 0 r.2.length,.bool r.1]) (fun r=>[(1,⟨false,3,Atom.enc Atom.zero,r.2.map Atom.enc⟩)]) 2
theorem zbr5 (a90:(Expr→List Atom→Option (Nat⊕(Bool×(List Atom))))) (h0:zX8 a90) (h1:zX9 a90):zX8 (zy7 a90):=fun a0 a1=>⟨fun r h=>by
 refine zaC5 Tryz.f135 [(4,1)] [.own 1 0 r,.bool false] fun E hG hN hK=>?_
 have hm:Mk (zy7 a90 a0 a1):=trivial
 unfold zy7 at h
 exact gogo⟩
theorem zbr6 (a90:(Expr→List Atom→Option (Nat⊕(Bool×(List Atom))))) (h0:zX8 a90) (h1:zX9 a90):zX9 (zy7 a90):=fun a0 a1=>⟨fun r h=>by
 refine zaC5 Tryz.f135 [(4,1)] [.own 1 0 r.2.length,.bool r.1] fun E hG hN hK=>?_
 have hm:Mk (zy7 a90 a0 a1):=trivial
 unfold zy7 at h
 exact gogo⟩
theorem zaR8:∀ n,zX8 (zA6 n)∧zX9 (zA6 n):=zaP4 (P:=fun g=>zX8 g∧zX9 g) ⟨fun _ _=>⟨fun _ h=>nomatch h⟩,fun _ _=>⟨fun _ h=>nomatch h⟩⟩ fun n h=>⟨zbr5 _ h.1 h.2,zbr6 _ h.1 h.2⟩
instance zaN7:zX8 zp2:=fun a0 a1=>(zaR8 _).1 a0 a1
instance zaN8:zX9 zp2:=fun a0 a1=>(zaR8 _).2 a0 a1
attribute [local irreducible] zp2
end
end Ab
end Go.Proofs.YtcggeefhhegeoaaGreatDoor
