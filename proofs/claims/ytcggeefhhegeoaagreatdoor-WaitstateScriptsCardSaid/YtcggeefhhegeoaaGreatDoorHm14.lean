import Derived.Test.YtcggeefhhegeoaaGreatDoorHm9
import Derived.Test.YtcggeefhhegeoaaGreatDoorHm10
import Derived.Test.YtcggeefhhegeoaaGreatDoorHm11
import Derived.Test.YtcggeefhhegeoaaGreatDoorHm12
namespace Go.Proofs.YtcggeefhhegeoaaGreatDoor
namespace Ab
open IntKind (i64 u64 u8)
set_option linter.unusedSimpArgs false
set_option linter.unusedVariables false
set_option linter.defProp false
set_option maxRecDepth 100000
set_option maxHeartbeats 1000000
noncomputable section
attribute [local irreducible] zj2 za4 zd1 za7 zf7 zi6 zk5 zg4 zk6 zf3 zd2 zd8 zh9 zd6 zk1 za6 za0 ze0 zj7 zl9 zi3 zh5 zg2 zg8 zf8 zc5 ze1 ze2 zg9 zf5 ze3 zb0 za8 zh0 zi4 ze4 zn1 f_ref08_holds zj3 zc2 zn6 zm4 zm1 zd9 ze8 zk2 zm5 zh1 zj9 zl7 zd0 zi7 zf0 zf9 zl4 zn9 zm7 zb2 zc1 zh4 zq0 zp1 zk4 zb9 zo8 zd4 zm2 zh2 za5 za1 zb4 zh7 ze9 zm8 zk9 zd7 zd3 zi8 ze6 zq1 zi2 zc8 zo4 zo5 zb5 zi9 zf4 zh8 ze7 zm9 zp0 zp4 zp6 zi1 zf2 zq4 zr5 zt1 zg6 zs7 ze5 zj5 zc3 zb7 zk3 zq2 zl0 zr6 zc9 zq8 zh3 zh6 zi0 zl1
def zah7 (j1:(List Atom)):Option (Bool×(List Atom)) :=
 some (true,j1)
@[go_sem] def zds1  (j1:(List Atom)):St:=⟨[],[(0,⟨false,1,[A.sl ([].map Atom.enc)],[[.own 2 0 j1.length]]⟩),(2,sx j1)],3⟩
def zM1 (a90:(Expr→List Atom→Option (Bool×(List Atom)))) (a0:Expr) (g1:Int×(List Atom)):Option ((Int×(List Atom))⊕((List Atom)⊕(Bool×(List Atom)))) :=
 (if (decide (g1.1 < (a0.kids.length:Int)))=true then
  gd (0≤g1.1∧g1.1 < (a0.kids.length:Int)) <|
  (a90 (a0.kids.getD g1.1.toNat Expr.zero) g1.2).bind fun v3 =>
  (if (!v3.1)=true then
   some (.inr (.inr (false,v3.2)))
  else
   some (.inl ((i64.wrap (g1.1+1)),v3.2)))
 else
  some (.inr (.inl g1.2)))
@[go_sem] def zds2 (a0:Expr) (g1:Int×(List Atom)):St:=⟨[(1,.ptr 0 0 0),(44,la a0.kids),(45,.int .i64 (a0.kids.length:Int)),(46,.int .i64 g1.1)],[(0,⟨false,1,[A.sl ([].map Atom.enc)],[[.own 2 0 g1.2.length]]⟩),(2,sx g1.2)],3⟩
def zP9 (a90:(Expr→List Atom→Option (Bool×(List Atom)))) (a0:Expr) (a1:List Atom):Option (Bool×(List Atom)) :=
 (if (decide ((a0.kids.length:Int)=0))=true then
  ((if (decide (a0.k=0))=true then zi1 a0.atom else some false)).bind fun v1 =>
  (if (decide (a0.k=0)&&v1)=true then
   (zf5 a0.atom a1).bind fun v2 =>
   some (((decide (a0.k=0)&&v1)&&decide (v2.1=0)),v2.2)
  else
   some (((decide (a0.k=0)&&v1)&&decide (0=0)),a1))
 else
  (if ((decide (a0.k < 1)||decide ((a0.kids.length:Int) < a0.k))||(!decide (a0.atom={ Atom.zero with  })))=true then
   some (false,a1)
  else
   (zc0 (zM1 a90 a0) (0,a1)).bind (fun|.inl z=>zah7 z|.inr z=>some z)))
def zw0:Nat→(Expr→List Atom→Option (Bool×(List Atom)))
 | 0=>fun _ _=>none
 | n+1=>zP9 (zw0 n)
def zn2 (a0:Expr) (a1:List Atom):Option (Bool×(List Atom)):=zw0 (_root_.SizeOf.sizeOf a0+1) a0 a1
theorem zbd6 (a90:(Expr→List Atom→Option (Bool×(List Atom)))) (hrc:∀ (a0:Expr) (a1:List Atom) (r:Bool×(List Atom)),a90 a0 a1=some r→MFn C 109 [ga a0,.ptr 0 0 0] [(0,⟨false,1,[A.sl ([].map Atom.enc)],[[.own 1 0 a1.length]]⟩),(1,sx a1)] 2 (.bool r.1) [(0,⟨false,1,[A.sl ([].map Atom.enc)],[[.own 2 0 r.2.length]]⟩),(2,sx r.2)] 3) (a0:Expr) (a1:List Atom) (r:Bool×(List Atom)) (h:zP9 a90 a0 a1=some r):MFn C 109 [ga a0,.ptr 0 0 0] [(0,⟨false,1,[A.sl ([].map Atom.enc)],[[.own 1 0 a1.length]]⟩),(1,sx a1)] 2 (.bool r.1) [(0,⟨false,1,[A.sl ([].map Atom.enc)],[[.own 2 0 r.2.length]]⟩),(2,sx r.2)] 3:=by
 refine zaC5 Tryz.f109 [] [.bool r.1] fun E hG hN hK=>?_
 unfold zP9 at h
 refine za2 (za9 hG ?_)
 refine za2 (za2 (za9 hG ?_))
 refine zo2 rfl hG h (fun _ h=>?_) (fun _ h=>?_)
 · refine za2 (za9 hG ?_)
   obtain ⟨v1,hv1,h⟩:=zf1 h
   refine zu6 (fun hg=>(zbd4 a0.atom).ok _ (zaQ7 hg hv1)) ?_
   refine zcE7 h (fun hc h=>?_) (fun hc h=>?_)
   · obtain ⟨v2,hv2,h⟩:=zf1 h
     refine zcn0 hc [(0,0),(1,1)] [(2,3)] [0,1,2] ((zbn0 a0.atom a1).ok _ hv2) rfl rfl ?_
     refine zw3 ?_
     exact zS7 [(0,0),(2,3)] h
   refine zcn1 hc (.int .i64 0) ?_
   refine zw3 ?_
   exact zS7 [(0,0),(2,1)] h
 refine zn4 ?_
 refine za2 (za2 (za9 hG ?_))
 refine zo2 rfl hG h (fun _ h=>?_) (fun _ h=>?_)
 · refine za2 (za9 hG ?_)
   refine zw3 ?_
   exact zS7 [(0,0),(2,1)] h
 refine zn4 ?_
 refine za2 (za2 (za9 hG ?_))
 refine zP5 zds1 (fun v=>zah7 v=some r) ?_ ?_
 · intro j1 h
   unfold zah7 at h
   refine g_st ?_
   refine za2 (za9 hG ?_)
   refine zw3 ?_
   exact zS7 [(0,0),(2,2)] h
 refine zao1 (zds2 a0) hK [(0,0),(2,1)] h (fun x_l1 h g1 y_l1 h_l1 hx_l1=>?_)
 unfold zM1 at h_l1
 refine g_st ?_
 refine za2 (za9 hG ?_)
 refine za2 ?_
 refine zo2 rfl hG h_l1 (fun _ h_l1=>?_) (fun _ h_l1=>?_)
 · refine zn4 ?_
   refine za2 (zI8 (za2 ?_))
   obtain ⟨hb1,h_l1⟩:=zg5 h_l1
   refine za9 hG ?_
   refine za2 (za9 hG ?_)
   obtain ⟨v3,hv3,h_l1⟩:=zf1 h_l1
   refine zu2 [(0,0),(1,2)] [(2,4)] [0,1,2] (hrc (a0.kids.getD g1.1.toNat Expr.zero) g1.2 _ hv3) rfl rfl ?_
   refine zo2 rfl hG h_l1 (fun _ h_l1=>?_) (fun _ h_l1=>?_)
   · refine za2 (za9 hG ?_)
     refine zw3 ?_
     cases h_l1
     cases hx_l1 _ rfl
     exact zS7 [(0,0),(2,4)] h
   refine zn4 ?_
   refine za9 hG ?_
   exact zX1 hK [(0,0),(2,4)] h_l1
 refine zR6 ?_
 cases h_l1
 cases hx_l1 _ rfl
 exact zI1 hK [(0,0),(2,2)] g1.2 (by exact h)
theorem zaE0:∀ (n:Nat) (a0:Expr) (a1:List Atom) (r:Bool×(List Atom)),zw0 n a0 a1=some r→MFn C 109 [ga a0,.ptr 0 0 0] [(0,⟨false,1,[A.sl ([].map Atom.enc)],[[.own 1 0 a1.length]]⟩),(1,sx a1)] 2 (.bool r.1) [(0,⟨false,1,[A.sl ([].map Atom.enc)],[[.own 2 0 r.2.length]]⟩),(2,sx r.2)] 3
 | 0,_,_,_,h=>nomatch h
 | n+1,a0,a1,r,h=>zbd6 (zw0 n) (zaE0 n) a0 a1 r h
instance zbd7 (a0:Expr) (a1:List Atom):OkM (zn2 a0 a1) 109 [ga a0,.ptr 0 0 0] [(0,⟨false,1,[A.sl ([].map Atom.enc)],[[.own 1 0 a1.length]]⟩),(1,sx a1)] 2 (fun r=>.bool r.1) (fun r=>[(0,⟨false,1,[A.sl ([].map Atom.enc)],[[.own 2 0 r.2.length]]⟩),(2,sx r.2)]) 3:=⟨fun r h=>zaE0 _ a0 a1 r h⟩
attribute [local irreducible] zn2
def zc7 (a0:decoder):Option (Amount×decoder) :=
 (zb7 a0).bind fun v1 =>
 (zb7 v1.2).bind fun v2 =>
 some ((⟨v1.1,v2.1⟩:Amount),v2.2)
instance zay7 (a0:decoder):OkM (zc7 a0) 79 [.ptr 0 0 0] [(0,bx a0)] 1 (fun r=>ga r.1) (fun r=>[(0,bx r.2)]) 1:=okm (zc7.eq_1 a0) (fun r=>[ga r.1]) Tryz.f79 []
attribute [local irreducible] zc7
def zK9 (j1:Proc):Option (Int×Proc) :=
 some ((-1),j1)
def zq6 (a0:List Need) (g1:Int×Proc):Option ((Int×Proc)⊕(Proc⊕(Int×Proc))) :=
 (if (decide (g1.1 < (a0.length:Int)))=true then
  gd (0≤g1.1∧g1.1 < (a0.length:Int)) <|
  (zf4 (a0.getD g1.1.toNat Need.zero) g1.2).bind fun v1 =>
  (if v1.1=true then
   some (.inr (.inr (g1.1,v1.2)))
  else
   some (.inl ((i64.wrap (g1.1+1)),v1.2)))
 else
  some (.inr (.inl g1.2)))
def zb8 (a0:List Need) (a1:Proc):Option (Int×Proc) :=
 (zc0 (zq6 a0) (0,a1)).bind (fun|.inl z=>zK9 z|.inr z=>some z)
@[reducible,instance] def zdN6 a0 a1:=mkJ (zb8 a0 a1) 0 (@zK9.eq_1) fun (j1:Proc)=>⟨[],[(0,bx j1)],1⟩
@[reducible,instance] def zdN7 (a0:List Need) {T:Type} (x:T):=mkL x (@zq6.eq_1 a0) fun (g1:Int×Proc)=>⟨[(0,la a0),(1,.clo 88 [.ptr 0 0 0]),(7,.int .i64 (a0.length:Int)),(8,.int .i64 g1.1)],[(0,bx g1.2)],1⟩
instance zbb1 (a0:List Need) (a1:Proc):OkM (zb8 a0 a1) 87 [la a0,.clo 88 [.ptr 0 0 0]] [(0,bx a1)] 1 (fun r=>.int .i64 r.1) (fun r=>[(0,bx r.2)]) 1:=okm (zb8.eq_1 a0 a1) (fun r=>[.int .i64 r.1]) Tryz.f87 [(16,1)]
attribute [local irreducible] zb8
def zaw5 (j1:(List Atom)):Option (List Atom) :=
 some j1
def zag1 (a0:Expr) (g1:Int×(List Atom)):Option ((Int×(List Atom))⊕(List Atom)) :=
 (if (decide (g1.1 < (a0.kids.length:Int)))=true then
  gd (0≤g1.1∧g1.1 < (a0.kids.length:Int)) <|
  (zh8 (a0.kids.getD g1.1.toNat Expr.zero) g1.2).bind fun v2 =>
  some (.inl ((i64.wrap (g1.1+1)),v2))
 else
  some (.inr g1.2))
def zv9 (a90:(Expr→Option (List Atom))) (a0:Expr):Option (List Atom) :=
 (if (decide ((a0.kids.length:Int)=0))=true then
  (za5 [] a0.atom).bind fun v1 =>
  (if v1=true then
   some []
  else
   gd (1≤4294967296) <|
   some [a0.atom])
 else
  (zc0 (zag1 a0) (0,[])).bind (fun z=>zaw5 z))
def zZ2:Nat→(Expr→Option (List Atom))
 | 0=>fun _=>none
 | n+1=>zv9 (zZ2 n)
def zl6 (a0:Expr):Option (List Atom):=zZ2 (_root_.SizeOf.sizeOf a0+1) a0
@[reducible,instance] def zdN8 (a90:(Expr→Option (List Atom))) (a0:Expr):=mkJ (zv9 a90 a0) 0 (@zaw5.eq_1) fun (j1:(List Atom))=>⟨[(0,.own 0 0 j1.length)],[(0,sx j1)],1⟩
@[reducible,instance] def zdN9 (a0:Expr) {T:Type} (x:T):=mkL x (@zag1.eq_1 a0) fun (g1:Int×(List Atom))=>⟨[(0,.own 0 0 g1.2.length),(22,la a0.kids),(23,.int .i64 (a0.kids.length:Int)),(24,.int .i64 g1.1)],[(0,sx g1.2)],1⟩
abbrev zab6 (g:(Expr→Option (List Atom))):Prop:=∀ (a0:Expr),OkM (g a0) 89 [.full ([].map Atom.enc),.agg (Expr.enc a0)] [] 0 (fun r=>.sl (r.map Atom.enc)) (fun r=>[]) 0
theorem zbb2 (a90:(Expr→Option (List Atom))) (hrc:zab6 a90):zab6 (zv9 a90):=fun a0=>⟨fun r h=>by
 refine zaC5 Tryz.f89 [] [la r] fun E hG hN hK=>?_
 have hm:Mk (zv9 a90 a0):=trivial
 unfold zv9 at h
 refine g_gh (.own0 0 3 (Atom.enc Atom.zero)) ?_
 refine za2 (za9 hG ?_)
 refine za2 (za2 (za9 hG ?_))
 refine zo2 rfl hG h (fun _ h=>?_) (fun _ h=>?_)
 · refine za2 (za2 (za9 hG ?_))
   obtain ⟨v1,hv1,h⟩:=zf1 h
   have hm:=mkP hm v1
   refine zu6 (fun hg=>(zao3 [] a0.atom).ok _ hv1) ?_
   refine zo2 rfl hG h (fun _ h=>?_) (fun _ h=>?_)
   · refine za2 (za9 hG ?_)
     refine g_gh (.fz [0]) ?_
     exact gogo
   refine zn4 ?_
   refine za2 ?_
   obtain ⟨hb1,h⟩:=zg5 h
   refine za9 hG ?_
   refine g_gh (.fz [2]) ?_
   exact gogo
 refine zn4 ?_
 refine za2 (za2 (za9 hG ?_))
 refine zao7 hm h (fun j1 hm h=>?_) ?_
 · try refine g_st ?_
   refine za2 (za9 hG ?_)
   refine g_gh (.fz [0]) ?_
   exact gogo
 exact gogo⟩
theorem zbb3:∀ n,zab6 (zZ2 n):=zaP4 (fun _=>⟨fun _ h=>nomatch h⟩) fun n=>zbb2 _
instance zcj5:zab6 zl6:=fun a0=>zbb3 _ a0
attribute [local irreducible] zl6
def zaR7 (j1:Unit):Option Bool :=
 some true
def zam3 (a0:List Wait) (g1:Int):Option (Int⊕(Unit⊕Bool)) :=
 (if (decide (g1 < (a0.length:Int)))=true then
  gd (0≤g1∧g1 < (a0.length:Int)) <|
  gd (zz8 (a0.getD g1.toNat Wait.zero)=true→0≤g1∧g1 < (a0.length:Int)) <|
  ((if (zz8 (a0.getD g1.toNat Wait.zero))=true then zj7 a0 ((a0.getD g1.toNat Wait.zero).proc) else some 0)).bind fun v1 =>
  (if ((!(zz8 (a0.getD g1.toNat Wait.zero)))||(!decide (v1=g1)))=true then
   some (.inr (.inr false))
  else
   some (.inl (i64.wrap (g1+1))))
 else
  some (.inr (.inl ())))
def zr3 (a0:List Wait):Option Bool :=
 (if (decide (8 < (a0.length:Int)))=true then
  some false
 else
  (zc0 (zam3 a0) 0).bind (fun|.inl z=>zaR7 z|.inr z=>some z))
@[reducible,instance] def zdO0 a0:=mkJ (zr3 a0) 0 (@zaR7.eq_1) fun (j1:Unit)=>⟨[],[],0⟩
@[reducible,instance] def zdO1 (a0:List Wait) {T:Type} (x:T):=mkL x (@zam3.eq_1 a0) fun (g1:Int)=>⟨[(0,la a0),(3,.int .i64 g1)],[],0⟩
instance zcX9 (a0:List Wait):OkP (zr3 a0) 216 [la a0] (fun r=>.bool r):=ok1 (zr3.eq_1 a0) Tryz.f216 []
attribute [local irreducible] zr3
def zs9 (a0:Resource) (a1 a2:Amount):Bool :=
 (if ((!(zu3 a0 a1))||(!(zu3 a0 a2)))=true then
  false
 else
  (if (zm0 a2)=true then
   true
  else
   (if (zm0 a1)=true then
    false
   else
    (if (decide (a0.kind=1))=true then
     (zP7 a1.mode a2.mode)
    else
     (decide (a2.units≤a1.units))))))
instance zbE6 (a0:Resource) (a1 a2:Amount):OkT 201 [.agg (Resource.enc a0),.agg (Amount.enc a1),.agg (Amount.enc a2)] (.bool (zs9 a0 a1 a2)):=ok2 (fun r=>.bool r) (zs9.eq_1 a0 a1 a2) Tryz.f201 []
end
end Ab
end Go.Proofs.YtcggeefhhegeoaaGreatDoor
