import Derived.Test.YtcggeefhhegeoaaGreatDoorHm13
import Derived.Test.YtcggeefhhegeoaaGreatDoorHm14
import Derived.Test.YtcggeefhhegeoaaGreatDoorHm15
import Derived.Test.YtcggeefhhegeoaaGreatDoorHm16
namespace Go.Proofs.YtcggeefhhegeoaaGreatDoor
namespace Ab
open IntKind (i64 u64 u8)
set_option linter.unusedSimpArgs false
set_option linter.unusedVariables false
set_option linter.defProp false
set_option maxRecDepth 100000
set_option maxHeartbeats 1000000
noncomputable section
attribute [local irreducible] zj2 za4 zd1 za7 zf7 zi6 zk5 zg4 zk6 zf3 zd2 zd8 zh9 zd6 zk1 za6 za0 ze0 zj7 zl9 zi3 zh5 zg2 zg8 zf8 zc5 ze1 ze2 zg9 zf5 ze3 zb0 za8 zh0 zi4 ze4 zn1 f_ref08_holds zj3 zc2 zn6 zm4 zm1 zd9 ze8 zk2 zm5 zh1 zj9 zl7 zd0 zi7 zf0 zf9 zl4 zn9 zm7 zb2 zc1 zh4 zq0 zp1 zk4 zb9 zo8 zd4 zm2 zh2 za5 za1 zb4 zh7 ze9 zm8 zk9 zd7 zd3 zi8 ze6 zq1 zi2 zc8 zo4 zo5 zb5 zi9 zf4 zh8 ze7 zm9 zp0 zp4 zp6 zi1 zf2 zq4 zr5 zt1 zg6 zs7 ze5 zj5 zc3 zb7 zk3 zq2 zl0 zr6 zc9 zq8 zh3 zh6 zi0 zl1 zj6 zp5 zs0 zq3 zn2 zc7 zb8 zl6 zr3 zs5 zd5 za3 zk7 zs1 zp2 zl5 zj4 zj1 zs4 zi5 zo6
def zar4 (a0:Resource) (j1:(List Amount)):Option Bool :=
 (zj6 a0 j1).bind fun v1 =>
 some v1
def zV2 (a0:Resource) (a1:List Hold) (g1:Int×(List Amount)):Option ((Int×(List Amount))⊕((List Amount)⊕Bool)) :=
 (if (decide (g1.1 < (a1.length:Int)))=true then
  gd (0≤g1.1∧g1.1 < (a1.length:Int)) <|
  (if ((!(zb6 ((a1.getD g1.1.toNat Hold.zero).proc)))||(!(zb3 a0 ((a1.getD g1.1.toNat Hold.zero).amount))))=true then
   some (.inr (.inr false))
  else
   gd (decide (0 < g1.1)=true→0≤i64.wrap (g1.1 - 1)∧i64.wrap (g1.1 - 1) < (a1.length:Int)) <|
   ((if (decide (0 < g1.1))=true then zd3 ((a1.getD ((i64.wrap (g1.1 - 1)).toNat) Hold.zero).proc) ((a1.getD g1.1.toNat Hold.zero).proc) else some 0)).bind fun v2 =>
   (if (decide (0 < g1.1)&&decide (0≤v2))=true then
    some (.inr (.inr false))
   else
    gd (g1.2.length+1≤4294967296) <|
    some (.inl ((i64.wrap (g1.1+1)),(g1.2++[(a1.getD g1.1.toNat Hold.zero).amount])))))
 else
  some (.inr (.inl g1.2)))
def zq7 (a0:Resource) (a1:List Hold):Option Bool :=
 (if ((!(zg3 a0))||decide (8 < (a1.length:Int)))=true then
  some false
 else
  (zc0 (zV2 a0 a1) (0,[])).bind (fun|.inl z=>zar4 a0 z|.inr z=>some z))
@[reducible,instance] def zec7 (a0:Resource) a1:=mkJ (zq7 a0 a1) 0 (@zar4.eq_1 a0) fun (j1:(List Amount))=>⟨[(2,.ptr 0 0 0),(5,.own 1 0 j1.length)],[(0,bx a0),(1,sx j1)],2⟩
@[reducible,instance] def zec8 (a0:Resource) (a1:List Hold) {T:Type} (x:T):=mkL x (@zV2.eq_1 a0 a1) fun (g1:Int×(List Amount))=>⟨[(1,la a1),(2,.ptr 0 0 0),(5,.own 1 0 g1.2.length),(16,la a1),(17,.int .i64 (a1.length:Int)),(18,.int .i64 g1.1)],[(0,bx a0),(1,sx g1.2)],2⟩
instance zcL5 (a0:Resource) (a1:List Hold):OkP (zq7 a0 a1) 174 [ga a0,la a1] (fun r=>.bool r):=ok1 (zq7.eq_1 a0 a1) Tryz.f174 [(5,1)]
attribute [local irreducible] zq7
def zn5 (a0:List Need) (a1:Proc):Option Int :=
 (zb8 a0 a1).bind fun v1 =>
 some v1.1
instance zbn4 (a0:List Need) (a1:Proc):OkP (zn5 a0 a1) 44 [la a0,ga a1] (fun r=>.int .i64 r):=ok1 (zn5.eq_1 a0 a1) Tryz.f44 []
attribute [local irreducible] zn5
def zaS0 (j1:Unit):Option Bool :=
 some true
def zam5 (a0:List Resource) (g1:Int):Option (Int⊕(Unit⊕Bool)) :=
 (if (decide (g1 < (a0.length:Int)))=true then
  gd (0≤g1∧g1 < (a0.length:Int)) <|
  (zi5 (a0.getD g1.toNat Resource.zero)).bind fun v1 =>
  gd ((v1&&decide (0 < g1))=true→0≤i64.wrap (g1 - 1)∧i64.wrap (g1 - 1) < (a0.length:Int)) <|
  gd ((v1&&decide (0 < g1))=true→0≤g1∧g1 < (a0.length:Int)) <|
  (if ((!v1)||(decide (0 < g1)&&(!Op.bytesLess ((a0.getD ((i64.wrap (g1 - 1)).toNat) Resource.zero).name).toList ((a0.getD g1.toNat Resource.zero).name).toList)))=true then
   some (.inr (.inr false))
  else
   some (.inl (i64.wrap (g1+1))))
 else
  some (.inr (.inl ())))
def zt7 (a0:List Resource):Option Bool :=
 (if (decide (8 < (a0.length:Int)))=true then
  some false
 else
  (zc0 (zam5 a0) 0).bind (fun|.inl z=>zaS0 z|.inr z=>some z))
@[reducible,instance] def zdQ4 a0:=mkJ (zt7 a0) 0 (@zaS0.eq_1) fun (j1:Unit)=>⟨[],[],0⟩
@[reducible,instance] def zdQ5 (a0:List Resource) {T:Type} (x:T):=mkL x (@zam5.eq_1 a0) fun (g1:Int)=>⟨[(0,la a0),(3,.int .i64 g1)],[],0⟩
instance zcY1 (a0:List Resource):OkP (zt7 a0) 163 [la a0] (fun r=>.bool r):=ok1 (zt7.eq_1 a0) Tryz.f163 []
attribute [local irreducible] zt7
def zad1 (a0:Expr) (j1:Unit):Option (Nat⊕((List Atom)×Bool)) :=
 gd (1≤4294967296) <|
 some (.inr ([a0.atom],true))
@[go_sem] def zcY2 (a0:Expr) (j1:Unit):St:=⟨[(0,.own 0 0 0),(3,.ptr 1 0 0)],[(0,⟨false,3,Atom.enc Atom.zero,[].map Atom.enc⟩),(1,bx a0)],2⟩
def zam6 (a0:Expr) (g1:Int):Option (Int⊕(Unit⊕(Nat⊕((List Atom)×Bool)))) :=
 (if (decide (g1 < 0))=true then
  gd (0≤g1∧g1 < (0:Int)) <|
  (if (decide (([].getD g1.toNat Atom.zero)=a0.atom))=true then
   some (.inr (.inr (.inr ([],true))))
  else
   some (.inl (i64.wrap (g1+1))))
 else
  some (.inr (.inl ())))
@[go_sem] def zcY3 (a0:Expr) (g1:Int):St:=⟨[(0,.own 0 0 0),(3,.ptr 1 0 0),(6,.int .i64 g1)],[(0,⟨false,3,Atom.enc Atom.zero,[].map Atom.enc⟩),(1,bx a0)],2⟩
def zad2 (j2:(List Atom)):Option (Nat⊕((List Atom)×Bool)) :=
 some (.inr (j2,true))
@[go_sem] def zcY4  (j2:(List Atom)):St:=⟨[(0,.own 0 0 j2.length)],[(0,sx j2)],1⟩
def zU0 (a0:Expr) (g2:Int×(List Atom)):Option ((Int×(List Atom))⊕((List Atom)⊕(Nat⊕((List Atom)×Bool)))) :=
 (if (decide (g2.1 < (a0.kids.length:Int)))=true then
  gd (0≤g2.1∧g2.1 < (a0.kids.length:Int)) <|
  (zp2 (a0.kids.getD g2.1.toNat Expr.zero) g2.2).bind fun v2=>match v2 with
  | .inl v2 =>
   some (.inr (.inr (.inl g2.2.length)))
  | .inr v2 =>
   (if (!v2.1)=true then
    some (.inr (.inr (.inl g2.2.length)))
   else
    some (.inl ((i64.wrap (g2.1+1)),v2.2)))
 else
  some (.inr (.inl g2.2)))
@[go_sem] def zcY5 (a0:Expr) (g2:Int×(List Atom)):St:=⟨[(0,.own 0 0 g2.2.length),(3,.ptr 1 0 0),(7,.int .i64 g2.1)],[(0,sx g2.2),(1,bx a0)],2⟩
def zL0 (a90:(Expr→Option (Nat⊕((List Atom)×Bool)))) (a0:Expr):Option (Nat⊕((List Atom)×Bool)) :=
 (if (decide ((a0.kids.length:Int)=0))=true then
  ((if (decide (a0.k=0))=true then zh3 a0.atom.name else some false)).bind fun v1 =>
  (if (((!decide (a0.k=0))||(!v1))||(!(zr2 a0.atom.amount)))=true then
   some (.inr ([],false))
  else
   (zc0 (zam6 a0) 0).bind (fun|.inl z=>zad1 a0 z|.inr z=>some z))
 else
  (if ((decide (a0.k < 1)||decide ((a0.kids.length:Int) < a0.k))||(!decide (a0.atom={ Atom.zero with  })))=true then
   some (.inr ([],false))
  else
   (zc0 (zU0 a0) (0,[])).bind (fun|.inl z=>zad2 z|.inr z=>some z)))
def zad3:Nat→(Expr→Option (Nat⊕((List Atom)×Bool)))
 | 0=>fun _=>none
 | n+1=>zL0 (zad3 n)
def zu4 (a0:Expr):Option (Nat⊕((List Atom)×Bool)):=zad3 (_root_.SizeOf.sizeOf a0+1) a0
theorem zbw8 (a90:(Expr→Option (Nat⊕((List Atom)×Bool)))) (hrc0:∀ (a0:Expr) (r:Nat),a90 a0=some (.inl r)→MFn C 135 [.full ([].map Atom.enc),ga a0] [] 0 (.tup [.own 0 0 r,.bool false]) [] 1) (hrc1:∀ (a0:Expr) (r:(List Atom)×Bool),a90 a0=some (.inr r)→MFn C 135 [.full ([].map Atom.enc),ga a0] [] 0 (.tup [la r.1,.bool r.2]) [] 0) (a0:Expr) (r:Nat) (h:zL0 a90 a0=some (.inl r)):MFn C 135 [.full ([].map Atom.enc),ga a0] [] 0 (.tup [.own 0 0 r,.bool false]) [] 1:=by
 refine zaC5 Tryz.f135 [] [.own 0 0 r,.bool false] fun E hG hN hK=>?_
 unfold zL0 at h
 refine g_gh (.own0 0 3 (Atom.enc Atom.zero)) ?_
 refine za2 (za9 hG ?_)
 refine za2 (za2 (za9 hG ?_))
 refine zo2 rfl hG h (fun _ h=>?_) (fun _ h=>?_)
 · refine za2 (za2 (za9 hG ?_))
   obtain ⟨v1,hv1,h⟩:=zf1 h
   refine zu6 (fun hg=>(zaJ0 a0.atom.name).ok _ (zaQ7 hg hv1)) ?_
   refine zu6 (fun hg=>(zaZ4 a0.atom.amount).ok) ?_
   refine zo2 rfl hG h (fun _ h=>?_) (fun _ h=>?_)
   · refine za2 (za9 hG ?_)
     refine g_gh (.fz [0]) ?_
     refine zw3 ?_
     exact nomatch h
   refine zn4 ?_
   refine za2 (za2 (za9 hG ?_))
   refine zP5 (zcY2 a0) (fun v=>zad1 a0 v=some (.inl r)) ?_ ?_
   · intro j1 h
     unfold zad1 at h
     refine g_st ?_
     refine za2 ?_
     obtain ⟨hb1,h⟩:=zg5 h
     refine za9 hG ?_
     refine g_gh (.fz [2]) ?_
     refine zw3 ?_
     exact nomatch h
   refine zao1 (zcY3 a0) hK [(0,0),(1,1)] h (fun x_l1 h g1 y_l1 h_l1 hx_l1=>?_)
   unfold zam6 at h_l1
   refine g_st ?_
   refine za2 (za2 (za9 hG ?_))
   refine zo2 rfl hG h_l1 (fun _ h_l1=>?_) (fun _ h_l1=>?_)
   · refine zn4 ?_
     refine za2 (zI8 (za2 ?_))
     obtain ⟨hb2,h_l1⟩:=zg5 h_l1
     refine zbc9 zL7 hG ?_
     refine zo2 rfl hG h_l1 (fun _ h_l1=>?_) (fun _ h_l1=>?_)
     · refine za2 (za9 hG ?_)
       refine g_gh (.fz [0]) ?_
       refine zw3 ?_
       cases h_l1
       cases hx_l1 _ rfl
       exact nomatch h
     refine zn4 ?_
     refine za9 hG ?_
     exact zX1 hK [(0,0),(1,1)] h_l1
   refine zR6 ?_
   cases h_l1
   cases hx_l1 _ rfl
   exact zI1 hK [(0,0),(1,1)] () (by exact h)
 refine zn4 ?_
 refine za2 (za2 (za9 hG ?_))
 refine zo2 rfl hG h (fun _ h=>?_) (fun _ h=>?_)
 · refine za2 (za9 hG ?_)
   refine g_gh (.fz [0]) ?_
   refine zw3 ?_
   exact nomatch h
 refine zn4 ?_
 refine za2 (za2 (za9 hG ?_))
 refine zP5 zcY4 (fun v=>zad2 v=some (.inl r)) ?_ ?_
 · intro j2 h
   unfold zad2 at h
   refine g_st ?_
   refine za2 (za9 hG ?_)
   refine g_gh (.fz [0]) ?_
   refine zw3 ?_
   exact nomatch h
 refine zao1 (zcY5 a0) hK [(0,0),(1,1)] h (fun x_l2 h g2 y_l2 h_l2 hx_l2=>?_)
 unfold zU0 at h_l2
 refine g_st ?_
 refine za2 (za2 (za9 hG ?_))
 refine zo2 rfl hG h_l2 (fun _ h_l2=>?_) (fun _ h_l2=>?_)
 · refine zn4 ?_
   refine za2 (zI8 (za2 ?_))
   obtain ⟨hb3,h_l2⟩:=zg5 h_l2
   refine za9 hG ?_
   obtain ⟨v2,hv2,h_l2⟩:=zf1 h_l2
   rcases v2 with v2|v2
   · dsimp only at h_l2
     refine zu2 [(0,0)] [(1,2)] [0,1] ((zaN7 (a0.kids.getD g2.1.toNat Expr.zero) g2.2).ok _ hv2) rfl rfl ?_
     refine za2 (za2 (za9 hG ?_))
     refine zbG9 rfl hG ?_
     refine za2 (za9 hG ?_)
     refine zw3 ?_
     cases h_l2
     cases hx_l2 _ rfl
     exact zS7 [(0,0)] (zcf2 h)
   dsimp only at h_l2
   refine zu2 [(0,0)] [(1,2)] [0,1] ((zaN8 (a0.kids.getD g2.1.toNat Expr.zero) g2.2).ok _ hv2) rfl rfl ?_
   refine za2 (za2 (za9 hG ?_))
   refine zo2 rfl hG h_l2 (fun _ h_l2=>?_) (fun _ h_l2=>?_)
   · refine za2 (za9 hG ?_)
     refine zw3 ?_
     cases h_l2
     cases hx_l2 _ rfl
     exact zS7 [(0,0)] (zcf2 h)
   refine zn4 ?_
   refine za9 hG ?_
   refine za9 hG ?_
   exact zX1 hK [(0,2),(1,1)] h_l2
 refine zR6 ?_
 cases h_l2
 cases hx_l2 _ rfl
 exact zI1 hK [(0,0)] g2.2 (by exact h)
theorem zbw9 (a90:(Expr→Option (Nat⊕((List Atom)×Bool)))) (hrc0:∀ (a0:Expr) (r:Nat),a90 a0=some (.inl r)→MFn C 135 [.full ([].map Atom.enc),ga a0] [] 0 (.tup [.own 0 0 r,.bool false]) [] 1) (hrc1:∀ (a0:Expr) (r:(List Atom)×Bool),a90 a0=some (.inr r)→MFn C 135 [.full ([].map Atom.enc),ga a0] [] 0 (.tup [la r.1,.bool r.2]) [] 0) (a0:Expr) (r:(List Atom)×Bool) (h:zL0 a90 a0=some (.inr r)):MFn C 135 [.full ([].map Atom.enc),ga a0] [] 0 (.tup [la r.1,.bool r.2]) [] 0:=by
 refine zaC5 Tryz.f135 [] [la r.1,.bool r.2] fun E hG hN hK=>?_
 unfold zL0 at h
 refine g_gh (.own0 0 3 (Atom.enc Atom.zero)) ?_
 refine za2 (za9 hG ?_)
 refine za2 (za2 (za9 hG ?_))
 refine zo2 rfl hG h (fun _ h=>?_) (fun _ h=>?_)
 · refine za2 (za2 (za9 hG ?_))
   obtain ⟨v1,hv1,h⟩:=zf1 h
   refine zu6 (fun hg=>(zaJ0 a0.atom.name).ok _ (zaQ7 hg hv1)) ?_
   refine zu6 (fun hg=>(zaZ4 a0.atom.amount).ok) ?_
   refine zo2 rfl hG h (fun _ h=>?_) (fun _ h=>?_)
   · refine za2 (za9 hG ?_)
     refine g_gh (.fz [0]) ?_
     refine zw3 ?_
     exact zS7 [] (zbh3 h)
   refine zn4 ?_
   refine za2 (za2 (za9 hG ?_))
   refine zP5 (zcY2 a0) (fun v=>zad1 a0 v=some (.inr r)) ?_ ?_
   · intro j1 h
     unfold zad1 at h
     refine g_st ?_
     refine za2 ?_
     obtain ⟨hb1,h⟩:=zg5 h
     refine za9 hG ?_
     refine g_gh (.fz [2]) ?_
     refine zw3 ?_
     exact zS7 [] (zbh3 h)
   refine zao1 (zcY3 a0) hK [(0,0),(1,1)] h (fun x_l1 h g1 y_l1 h_l1 hx_l1=>?_)
   unfold zam6 at h_l1
   refine g_st ?_
   refine za2 (za2 (za9 hG ?_))
   refine zo2 rfl hG h_l1 (fun _ h_l1=>?_) (fun _ h_l1=>?_)
   · refine zn4 ?_
     refine za2 (zI8 (za2 ?_))
     obtain ⟨hb2,h_l1⟩:=zg5 h_l1
     refine zbc9 zL7 hG ?_
     refine zo2 rfl hG h_l1 (fun _ h_l1=>?_) (fun _ h_l1=>?_)
     · refine za2 (za9 hG ?_)
       refine g_gh (.fz [0]) ?_
       refine zw3 ?_
       cases h_l1
       cases hx_l1 _ rfl
       exact zS7 [] (zbh3 h)
     refine zn4 ?_
     refine za9 hG ?_
     exact zX1 hK [(0,0),(1,1)] h_l1
   refine zR6 ?_
   cases h_l1
   cases hx_l1 _ rfl
   exact zI1 hK [(0,0),(1,1)] () (by exact h)
 refine zn4 ?_
 refine za2 (za2 (za9 hG ?_))
 refine zo2 rfl hG h (fun _ h=>?_) (fun _ h=>?_)
 · refine za2 (za9 hG ?_)
   refine g_gh (.fz [0]) ?_
   refine zw3 ?_
   exact zS7 [] (zbh3 h)
 refine zn4 ?_
 refine za2 (za2 (za9 hG ?_))
 refine zP5 zcY4 (fun v=>zad2 v=some (.inr r)) ?_ ?_
 · intro j2 h
   unfold zad2 at h
   refine g_st ?_
   refine za2 (za9 hG ?_)
   refine g_gh (.fz [0]) ?_
   refine zw3 ?_
   exact zS7 [] (zbh3 h)
 refine zao1 (zcY5 a0) hK [(0,0),(1,1)] h (fun x_l2 h g2 y_l2 h_l2 hx_l2=>?_)
 unfold zU0 at h_l2
 refine g_st ?_
 refine za2 (za2 (za9 hG ?_))
 refine zo2 rfl hG h_l2 (fun _ h_l2=>?_) (fun _ h_l2=>?_)
 · refine zn4 ?_
   refine za2 (zI8 (za2 ?_))
   obtain ⟨hb3,h_l2⟩:=zg5 h_l2
   refine za9 hG ?_
   obtain ⟨v2,hv2,h_l2⟩:=zf1 h_l2
   rcases v2 with v2|v2
   · dsimp only at h_l2
     refine zu2 [(0,0)] [(1,2)] [0,1] ((zaN7 (a0.kids.getD g2.1.toNat Expr.zero) g2.2).ok _ hv2) rfl rfl ?_
     refine za2 (za2 (za9 hG ?_))
     refine zbG9 rfl hG ?_
     refine za2 (za9 hG ?_)
     refine zw3 ?_
     cases h_l2
     cases hx_l2 _ rfl
     exact nomatch h
   dsimp only at h_l2
   refine zu2 [(0,0)] [(1,2)] [0,1] ((zaN8 (a0.kids.getD g2.1.toNat Expr.zero) g2.2).ok _ hv2) rfl rfl ?_
   refine za2 (za2 (za9 hG ?_))
   refine zo2 rfl hG h_l2 (fun _ h_l2=>?_) (fun _ h_l2=>?_)
   · refine za2 (za9 hG ?_)
     refine zw3 ?_
     cases h_l2
     cases hx_l2 _ rfl
     exact nomatch h
   refine zn4 ?_
   refine za9 hG ?_
   refine za9 hG ?_
   exact zX1 hK [(0,2),(1,1)] h_l2
 refine zR6 ?_
 cases h_l2
 cases hx_l2 _ rfl
 exact zI1 hK [(0,0)] g2.2 (by exact h)
theorem zY0:∀ (n:Nat),(∀ (a0:Expr) (r:Nat),zad3 n a0=some (.inl r)→MFn C 135 [.full ([].map Atom.enc),ga a0] [] 0 (.tup [.own 0 0 r,.bool false]) [] 1)∧(∀ (a0:Expr) (r:(List Atom)×Bool),zad3 n a0=some (.inr r)→MFn C 135 [.full ([].map Atom.enc),ga a0] [] 0 (.tup [la r.1,.bool r.2]) [] 0)
 | 0=>⟨(fun _ _ h=>nomatch h),(fun _ _ h=>nomatch h)⟩
 | n+1=>⟨zbw8 (zad3 n) (zY0 n).1 (zY0 n).2,zbw9 (zad3 n) (zY0 n).1 (zY0 n).2⟩
theorem zbx0 (a0:Expr) (r:Nat) (h:zu4 a0=some (.inl r)):MFn C 135 [.full ([].map Atom.enc),ga a0] [] 0 (.tup [.own 0 0 r,.bool false]) [] 1:=(zY0 _).1 a0 r h
theorem zbx1 (a0:Expr) (r:(List Atom)×Bool) (h:zu4 a0=some (.inr r)):MFn C 135 [.full ([].map Atom.enc),ga a0] [] 0 (.tup [la r.1,.bool r.2]) [] 0:=(zY0 _).2 a0 r h
attribute [local irreducible] zu4
def zaw7 (j1:Int) (j2:(List Wait)):Option ((List Wait)×Int×Int) :=
 some (j2,j1,0)
def zZ4 (a0:List Wait) (g1:Int×(List Wait)):Option ((Int×(List Wait))⊕(List Wait)) :=
 (if (decide (g1.1 < (a0.length:Int)))=true then
  gd (0≤g1.1∧g1.1 < (a0.length:Int)) <|
  gd (g1.2.length+1≤4294967296) <|
  some (.inl ((i64.wrap (g1.1+1)),(g1.2++[{ (a0.getD g1.1.toNat Wait.zero) with passed:=(i64.wrap ((a0.getD g1.1.toNat Wait.zero).passed+1)) }])))
 else
  some (.inr g1.2))
def zZ5 (a0:List Wait) (a1:Wait) (j1:Int):Option ((List Wait)×Int×Int) :=
 gd (0≤0∧0≤j1∧j1≤(a0.length:Int)) <|
 gd ((a0.take j1.toNat).length≤4294967296) <|
 gd ((a0.take j1.toNat).length+1≤4294967296) <|
 (zc0 (zZ4 a0) (j1,(a0.take j1.toNat++[a1]))).bind (fun z=>zaw7 j1 z)
def zai6 (a0:List Wait) (a1:Wait) (g2:Int):Option (Int⊕Int) :=
 gd (decide (0 < g2)=true→0≤i64.wrap (g2 - 1)∧i64.wrap (g2 - 1) < (a0.length:Int)) <|
 gd ((decide (0 < g2)&&decide ((a0.getD ((i64.wrap (g2 - 1)).toNat) Wait.zero).priority < a1.priority))=true→0≤i64.wrap (g2 - 1)∧i64.wrap (g2 - 1) < (a0.length:Int)) <|
 (if ((decide (0 < g2)&&decide ((a0.getD ((i64.wrap (g2 - 1)).toNat) Wait.zero).priority < a1.priority))&&decide ((a0.getD ((i64.wrap (g2 - 1)).toNat) Wait.zero).passed < 3))=true then
  some (.inl (i64.wrap (g2 - 1)))
 else
  some (.inr g2))
def zt0 (a0:List Wait) (a1:Wait):Option ((List Wait)×Int×Int) :=
 (zr3 a0).bind fun v1 =>
 (if (!v1)=true then
  some ([],0,2)
 else
  (if ((!(zz8 a1))||(!decide (a1.passed=0)))=true then
   some ([],0,1)
  else
   (zj7 a0 a1.proc).bind fun v2 =>
   (if (decide (0≤v2))=true then
    some ([],0,11)
   else
    (if (decide ((a0.length:Int)=8))=true then
     some ([],0,4)
    else
     (zc0 (zai6 a0 a1) (a0.length:Int)).bind (fun z=>zZ5 a0 a1 z)))))
@[reducible,instance] def zdQ6 a0 a1 (j1:Int):=mkJ (zZ5 a0 a1 j1) 2 (@zaw7.eq_1 j1) fun (j2:(List Wait))=>⟨[(7,.int .i64 j1),(8,.own 0 0 j2.length)],[(0,sx j2)],1⟩
@[reducible,instance] def zdQ7 (a0:List Wait) a1 (j1:Int):=mkL (zZ5 a0 a1 j1) (@zZ4.eq_1 a0) fun (g1:Int×(List Wait))=>⟨[(0,la a0),(7,.int .i64 j1),(8,.own 0 0 g1.2.length),(9,.int .i64 g1.1)],[(0,sx g1.2)],1⟩
@[reducible,instance] def zdQ8 (a0:List Wait) (a1:Wait) {T1:Type} (v1:T1) {T2:Type} (v2:T2):=mkJ ((zt0 a0 a1,v1),v2) 0 (@zZ5.eq_1 a0 a1) fun (j1:Int)=>⟨[(0,la a0),(3,.ptr 0 0 0),(7,.int .i64 j1)],[(0,bx a1)],1⟩
@[reducible,instance] def zdQ9 (a0:List Wait) (a1:Wait) {T:Type} (x:T):=mkL x (@zai6.eq_1 a0 a1) fun (g2:Int)=>⟨[(0,la a0),(3,.ptr 0 0 0),(7,.int .i64 g2)],[(0,bx a1)],1⟩
instance zbE8 (a0:List Wait) (a1:Wait):OkP (zt0 a0 a1) 279 [la a0,ga a1] (fun r=>.tup [la r.1,.int .i64 r.2.1,.int .i64 r.2.2]):=ok1 (zt0.eq_1 a0 a1) Tryz.f279 [(56,1)]
attribute [local irreducible] zt0
def zx1 (a0:Ledger) (a1:Int):Option (Ledger×Int) :=
 (zo6 a0).bind fun v1 =>
 (if (!v1)=true then
  some ({ Ledger.zero with  },2)
 else
  (if (decide (a1 < 1)||decide (99 < a1))=true then
   some ({ Ledger.zero with  },1)
  else
   (zk5 a0.saves a1).bind fun v2 =>
   (if (decide (0≤v2))=true then
    some ({ Ledger.zero with  },11)
   else
    (if (decide ((a0.saves.length:Int)=4))=true then
     some ({ Ledger.zero with  },4)
    else
     gd (a0.entries.length≤4294967296) <|
     gd (a0.saves.length≤4294967296) <|
     gd (a0.saves.length+1≤4294967296) <|
     some ((⟨a0.entries,(a0.saves++[(⟨a1,(a0.entries.length:Int)⟩:Save)])⟩:Ledger),0)))))
instance zdh5 (a0:Ledger) (a1:Int):OkP (zx1 a0 a1) 212 [ga a0,.int .i64 a1] (fun r=>.tup [ga r.1,.int .i64 r.2]):=ok1 (zx1.eq_1 a0 a1) Tryz.f212 [(28,1),(32,1),(43,2)]
attribute [local irreducible] zx1
end
end Ab
end Go.Proofs.YtcggeefhhegeoaaGreatDoor
