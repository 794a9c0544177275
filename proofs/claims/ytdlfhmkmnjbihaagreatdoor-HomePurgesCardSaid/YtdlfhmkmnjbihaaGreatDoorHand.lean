import Derived.Test.YtdlfhmkmnjbihaaGreatDoorDec
import Derived.Test.YtdlfhmkmnjbihaaGreatDoorProg
import Derived.KernelRfl
import Derived.Test.YtdlfhmkmnjbihaaGreatDoorAb16
import Derived.Shelf.Spec.SlicesGrow
namespace Go.Proofs.YtdlfhmkmnjbihaaGreatDoor
namespace Ab
set_option linter.unusedVariables false
inductive TK where
 |b
 |i (k:IntKind)
 |s
 |st (fs:List (Nat×Nat))
 |ar (n e:Nat)
 |sl (e:Nat)
 |mp (k e:Nat)
 |o
structure TI where
 k:TK
 n:Nat
 y:Nat
def lk{α:Type}:List (Nat×α)->Nat->α->α
 |[],_,d=>d
 |q::r,n,d=>bif Nat.beq q.1 n then q.2 else lk r n d
structure TC where
 t:List (Nat×TI)
 m:List (Nat×Option Unit)
 z:Nat->Nat->List A
 k:{o:Operand}->Nat->PX
def TC.ty(c:TC)(t:Nat):TI:=lk c.t t ⟨.o,1,0⟩
def TC.el(c:TC)(t:Nat):Nat:=match(c.ty t).k with|.sl e=>e|.ar _ e=>e|_=>0
def TC.ag(c:TC)(t:Nat):Bool:=match(c.ty t).k with|.st _=>true|.ar _ _=>true|_=>false
def TC.kz(c:TC)(t:Nat):A:=match(c.ty t).k with|.mp k _=>bif c.ag k then .agg (c.z 0 k)else(c.z 0 k).headD .any|_=>.any
def TC.me(c:TC)(t:Nat):Nat:=match(c.ty t).k with|.mp _ e=>e|_=>0
def TC.mt(c:TC)(t:Nat):Nat:=match(c.ty t).k with|.mp k _=>k|_=>0
def TC.md(c:TC)(t:Nat):List A:=c.kz t::c.z 0 (c.me t)
def TC.lf(c:TC):Nat->Nat->List LK
 |0,_=>[]
 |d+1,t=>match(c.ty t).k with
  | .b=>[.b]
  | .i k=>[.i k]
  | .s=>[.s]
  | .st fs=>fs.flatMap λ q=>c.lf d q.2
  |_=>[]
def TC.x(c:TC)(t:Nat)(o:Operand):PX:=match o with
 | .tmp n=>.t n
 | .const _=>c.k (o:=o) t
 | .global g=>.g g
 | .func f=>.f f
def zcY9:Operand->Bool
 | .const (.slice _ _ _)=>true
 |_=>false
def TC.bo(c:TC)(op:BinOp)(t:Nat)(x y:Operand):PO×List PX:=match(c.ty t).k with
 | .sl _=>(.eqNil,[c.x t x])
 | .b=>(.eqb (match op with|.neq=>true|_=>false),[c.x t x,c.x t y])
 | .st _=>(.eqa (match op with|.neq=>true|_=>false) (c.lf 9 t),[c.x t x,c.x t y])
 | .ar _ _=>(.eqa (match op with|.neq=>true|_=>false) (c.lf 9 t),[c.x t x,c.x t y])
 |_=>(.bin op,[c.x t x,c.x t y])
def TC.args(c:TC):List Operand->List Nat->List PX
 |x::xs,t::ts=>c.x t x::c.args xs ts
 |x::xs,[]=>c.x 0 x::c.args xs []
 |[],_=>[]
def TC.op(c:TC)(h ty:Nat):Op->PO×List PX
 | .move x=>bif zcY9 x then(bif Nat.beq h 0 then(.mv,[.c (A.sl [])])else(.nilown (c.ty (c.el ty)).n (c.z 0 (c.el ty)),[.c (A.full [])]))else(.mv,[c.x ty x])
 | .assign x=>bif zcY9 x then(bif Nat.beq h 0 then(.mv,[.c (A.sl [])])else(.nilown (c.ty (c.el ty)).n (c.z 0 (c.el ty)),[.c (A.full [])]))else(.mv,[c.x ty x])
 | .pick a x y=>(.pick,[c.x 0 a,c.x 0 x,c.x 0 y])
 | .box t x=>(.box (c.ty t).n,[c.x t x])
 | .alloc t=>(.alloc (c.ty t).n (c.z h t),[])
 | .build t ps=>(.build (c.z h t) (ps.toList.map λ p=>match(c.ty t).k with
   | .st fs=>((fs.getD p.1 (0,0)).1,(c.ty (fs.getD p.1 (0,0)).2).n)
   |_=>(p.1*(c.ty (c.el t)).n,(c.ty (c.el t)).n)),ps.toList.map λ p=>match(c.ty t).k with
   | .st fs=>c.x (fs.getD p.1 (0,0)).2 p.2
   |_=>c.x (c.el t) p.2)
 | .buildSlice t _ ps=>(bif Nat.beq h 0 then .bslice (c.ty (c.el t)).n (c.z 0 (c.el t))else .bown (c.ty (c.el t)).n (c.z 0 (c.el t)),ps.toList.map λ p=>c.x (c.el t) p.2)
 | .load t x=>(.load (c.ty t).n (c.ag t),[c.x 0 x])
 | .store t x y=>(.store (c.ty t).n,[c.x 0 x,bif zcY9 y then .c (A.sl [])else c.x t y])
 | .binOp op t x y _=>c.bo op t x y
 | .unOp .neg _ x=>(.neg,[c.x 0 x])
 | .unOp _ _ x=>(.not,[c.x 0 x])
 | .convert t u x=>(match(c.ty t).k,(c.ty u).k with
  | .sl _,.s=>.cvS
  | .s,.sl _=>.cvB
  |_,.i k=>.conv k
  |_,_=>.mv,[c.x 0 x])
 | .field t x i=>(match(c.ty t).k with
  | .st fs=>.field (fs.getD i (0,0)).1 (c.ty (fs.getD i (0,0)).2).n (c.ag (fs.getD i (0,0)).2)
  |_=>.mv,[c.x 0 x])
 | .fieldAddr t x i=>(match(c.ty t).k with
  | .st fs=>.faddr (fs.getD i (0,0)).1
  |_=>.mv,[c.x 0 x])
 | .indexAddr t x i=>(match(c.ty t).k with
  | .ar n e=>.iaA n (c.ty e).n
  |_=>.iaS (c.ty (c.el t)).n (c.z 0 (c.el t)),[c.x 0 x,c.x 0 i])
 | .index t x i=>(match(c.ty t).k with
  | .ar n e=>.idxA n (c.ty e).n (c.ag e)
  |_=>.idxS,[c.x t x,c.x 0 i])
 | .slice t x l u m=>(match(c.ty t).k with
  | .s=>.slcS l.isSome u.isSome
  |_=>.slc (c.ty (c.el t)).n l.isSome u.isSome m.isSome,c.x 0 x::(l.toList++u.toList++m.toList).map (c.x 0))
 | .extract x i=>(.ext i,[c.x 0 x])
 | .nilCheck x=>(.nilck,[c.x 0 x])
 | .range t x=>(.rng,[c.x 0 x])
 | .next x _=>(.next (c.md h),[c.x 0 x])
 | .entry x=>(.entry (c.md h),[c.x 0 x])
 | .makeMap t _=>(.mkmap [c.kz t,.bool (c.ag (c.me t))],[])
 | .lookup t x i ok=>(.lkp ok (c.ag (c.me t)) (c.kz t) (c.z 0 (c.me t)),[c.x 0 x,c.x (c.mt t) i])
 | .insert t x i y=>(.mupd (c.kz t) (c.ag (c.me t)) (c.ty (c.me t)).n,[c.x 0 x,c.x (c.mt t) i,c.x (c.me t) y])
 | .mapUpdate t x i y=>(.mupd (c.kz t) (c.ag (c.me t)) (c.ty (c.me t)).n,[c.x 0 x,c.x (c.mt t) i,c.x (c.me t) y])
 | .makeSlice t x y=>(.mk (c.ty (c.el t)).n (c.ty (c.el t)).y (c.z 0 (c.el t)),[c.x 0 x,c.x 0 y])
 | .makeFunc (.func f) bs xs=>(match bs.toList with|[]=>(.mkf f,xs.toList.map (c.x 0))|b::_=>(.mkb f,[c.x 0 b]))
 | .call ⟨.builtin b,xs,ts⟩=>(match b,ts.toList with
  | .len,[t]=>(match(c.ty t).k with|.s=>.lenS|.mp _ _=>.lenM|_=>.len)
  | .append,t::_=>(match h with
   |0=>.append (c.ty (c.el t)).n (c.ty (c.el t)).y (c.z 0 (c.el t))
   |1=>.appc (c.ty (c.el t)).n (c.ty (c.el t)).y
   |_=>.apl (c.ty (c.el t)).n (c.ty (c.el t)).y)
  | .copy,t::_=>.copy (c.ty (c.el t)).n
  | .clear,t::_=>.clear (c.ty (c.el t)).n (c.z 0 (c.el t))
  | .min,_=>.min
  | .max,_=>.max
  |_,_=>.mv,xs.toList.map (c.x 0))
 | .call ⟨.value (.func f),xs,ts⟩=>(match lk c.m f none,h with
  |none,0=>.call f
  |none,_=>.callm f
  |some _,0=>.callm f
  |some _,_=>.call f,c.args xs.toList ts.toList)
 | .call ⟨.value x,xs,_⟩=>(match h with|0=>.callv|2=>.callb|_=>.callvm,c.x 0 x::xs.toList.map (c.x 0))
 |_=>(.mv,[])
def opTs:List Operand->List Nat
 |[]=>[]
 | .tmp n::r=>n::opTs r
 |_::r=>opTs r
def gTs(ops:List Oper):Option (Nat×Bool)->List Nat
 |none=>[]
 |some q=>match(ops[q.1]?).bind (·.dst)with
  |some d=>[d]
  |none=>[]
def zcA2(ops:List Oper):List Oper->List Nat
 |[]=>[]
 |o::r=>opTs o.op.operands.toList++gTs ops o.guard++zcA2 ops r
def bits:List Nat->Nat
 |[]=>0
 |t::r=>Nat.lor (Nat.shiftLeft 1 t) (bits r)
def zdq9(m:Nat)(a:Nat×Nat):Nat×Nat:=match a with
 |(s,u)=>(Nat.lor s m,Nat.lor u (Nat.land s m))
def zbB8:Code->Nat×Nat->Nat×Nat
 | .region _ ops _,a=>zdq9 (bits (zcA2 ops.toList ops.toList)) a
 | .seq x y,a=>zbB8 y (zbB8 x a)
 | .cond x y z,a=>zbB8 z (zbB8 y (zdq9 (bits (opTs [x])) a))
 | .block _ x,a=>zbB8 x a
 | .loop x,a=>zbB8 x a
 | .scope x,a=>zbB8 x a
 |_,a=>a
def resU:List ResultVar->List Nat
 |[]=>[]
 | .tmp t::r=>t::resU r
 | .cell t _::r=>t::resU r
def zcp5(f:Func):Nat×Nat:=match f.body with
 |some b=>zbB8 b (0,bits (resU f.results.toList))
 |none=>(0,0)
def has(m t:Nat):Bool:=Nat.beq (Nat.land (Nat.shiftRight m t) 1) 1
def zbe4(s u m:Nat):List Oper->List Nat
 |[]=>[]
 |o::r=>match o.dst with
  |none=>zbe4 s u m r
  |some t=>bif has u t then zbe4 s u m r else bif has m t then t::zbe4 s u m r else bif has s t then zbe4 s u m r else t::zbe4 s u m r
def zcA3(s u:Nat)(ops:List Oper):List Nat:=zbe4 s u (bits (zcA2 ops ops)) ops
def PO.wr:PO->Bool
 | .nilown _ _|.box _|.alloc _ _|.bown _ _|.store _|.append _ _ _|.appc _ _|.copy _| .clear _ _|.mkmap _|.mupd _ _ _|.rng|.next _|.entry _|.mk _ _ _|.callm _|.callvm=>true
 |_=>false
def zdr0:List Oper->Bool
 |[]=>false
 |o::r=>match o.op with
  | .panic _=>true
  |_=>zdr0 r
def gOf(ops:List Oper):Option (Nat×Bool)->Option (Nat×Bool)
 |none=>none
 |some q=>some (((ops[q.1]?).bind (·.dst)).getD 0,q.2)
def TC.ops(c:TC)(hs:List (Nat×Nat))(all:List Oper):List Oper->List POp
 |[]=>[]
 |o::r=>(match c.op (match o.dst with|some d=>lk hs d 0|none=>0) o.type o.op with
  |(p,xs)=>⟨o.dst,gOf all o.guard,p,xs⟩)::c.ops hs all r
def wrs:List POp->Bool
 |[]=>false
 |p::r=>bif p.po.wr then true else wrs r
def TC.code(c:TC)(hs:List (Nat×Nat))(s u:Nat):Code->PC
 | .skip=>.skip
 | .region id ops d=>bif zdr0 ops.toList then .dead else
   match d with
   |false=>.reg (zcA3 s u ops.toList) (c.ops hs ops.toList ops.toList)
   |true=>bif wrs (c.ops hs ops.toList ops.toList)||(Nat.beq (lk hs (1000+id) 0) 1)then .regm (zcA3 s u ops.toList) (ancs [] (ops.toList.map zB1)) (c.ops hs ops.toList ops.toList)else .regd (zcA3 s u ops.toList) (c.ops hs ops.toList ops.toList)
 | .seq a b=>.seq (c.code hs s u a) (c.code hs s u b)
 | .cond x a b=>.cond (c.x 0 x) (c.code hs s u a) (c.code hs s u b)
 | .block i a=>.block i (c.code hs s u a)
 | .loop a=>.loop (c.code hs s u a)
 | .exit i=>.exit i
 | .scope a=>.scope (c.code hs s u a)
 | .label _=>.label
 | .ret=>.ret
 |_=>.skip
def TC.rx(c:TC):List ResultVar->List RX
 |[]=>[]
 | .tmp t::r=>.t t::c.rx r
 | .cell t y::r=>.c t (c.ty y).n (c.ag y)::c.rx r
def TC.tr(c:TC)(hs:List (Nat×Nat))(s u:Nat)(f:Func):PC×Nat×List RX×Nat:=
 (match f.body with
  |some b=>c.code hs s u b
  |none=>.skip,f.ntmps,c.rx f.results.toList,Nat.add f.params.size f.nfree)
def cst(z:Nat->Nat->List A)(t:Nat):Value->A
 | .bool b=>.bool b
 | .int k n=>.int k n
 | .string s=>.str s
 | .slice _ _ _=>.full []
 | .agg _=>.agg (z 0 t)
 |_=>.any
def kon(z:Nat->Nat->List A){o:Operand}(t:Nat):PX:=match o with
 | .const v=>.c (cst z t v)
 |_=>.c .any
attribute [go_sem] kon cst
def zu2:Arr ByteArray 16:=⟨[⟨#[]⟩,⟨#[80,71,65,89]⟩,⟨#[80,71,97]⟩,⟨#[80,71,97,68]⟩,⟨#[80,71,65]⟩,⟨#[83,73]⟩,⟨#[82]⟩,⟨#[82,78,79]⟩,⟨#[82]⟩,⟨#[82,76]⟩,⟨#[82,69,80,71,66]⟩,⟨#[82,80,68]⟩,⟨#[69,83]⟩,⟨#[69]⟩,⟨#[69]⟩,⟨#[69]⟩],rfl⟩
def zbl4:Arr (Arr Bool 5) 5:=⟨[⟨[true,true,true,true,false],rfl⟩,⟨[true,true,false,false,false],rfl⟩,⟨[true,false,true,false,false],rfl⟩,⟨[true,false,false,false,false],rfl⟩,⟨[false,false,false,false,false],rfl⟩],rfl⟩
noncomputable def C:Cx:=⟨Tryz.prog,[(0,Arr.enc eS zu2),(1,Arr.enc (Arr.enc eB) zbl4)]⟩
@[go_sem] theorem C_G:C.G=[(0,Arr.enc eS zu2),(1,Arr.enc (Arr.enc eB) zbl4)]:=rfl
theorem zC5:C.P.follows .mixedOrders=true:=by kernel_rfl
def cT:List (Nat×TI):=[(0,⟨.o,1,0⟩),(1,⟨.o,1,8⟩),(3,⟨.i .i64,1,8⟩),(4,⟨.b,1,1⟩),(5,⟨.i .u8,1,1⟩),(9,⟨.s,1,16⟩),(20,⟨.o,1,16⟩),(22,⟨.sl 62,1,24⟩),(23,⟨.sl 66,1,24⟩),(24,⟨.sl 92,1,24⟩),(26,⟨.st [(0,23),(1,24)],2,48⟩),(29,⟨.i .i64,1,8⟩),(30,⟨.o,1,0⟩),(35,⟨.st [(0,3),(1,3),(2,3)],3,24⟩),(37,⟨.st [(0,3),(1,3)],2,16⟩),(39,⟨.st [(0,9),(1,37)],3,32⟩),(40,⟨.sl 105,1,24⟩),(42,⟨.st [(0,23),(1,40)],2,48⟩),(43,⟨.sl 191,1,24⟩),(45,⟨.st [(0,3),(1,35),(4,3),(5,39),(8,3),(9,3),(10,3),(11,3),(12,3),(13,3),(14,4),(15,42),(17,43)],18,200⟩),(46,⟨.sl 3,1,24⟩),(49,⟨.sl 76,1,24⟩),(50,⟨.sl 71,1,24⟩),(51,⟨.o,1,0⟩),(55,⟨.o,1,8⟩),(57,⟨.st [(0,46),(1,3)],2,32⟩),(62,⟨.st [(0,9),(1,3),(2,3),(3,3)],4,40⟩),(63,⟨.sl 161,1,24⟩),(64,⟨.sl 125,1,24⟩),(66,⟨.st [(0,62),(4,63),(5,64),(6,64),(7,3)],8,120⟩),(67,⟨.sl 35,1,24⟩),(71,⟨.st [(0,3),(1,35),(4,9),(5,37)],7,64⟩),(72,⟨.mp 74 3,1,8⟩),(74,⟨.st [(0,35),(3,9)],4,40⟩),(76,⟨.st [(0,3),(1,45)],19,208⟩),(78,⟨.o,1,0⟩),(87,⟨.o,1,0⟩),(92,⟨.st [(0,35),(3,9),(4,3)],5,48⟩),(96,⟨.o,1,0⟩),(101,⟨.sl 103,1,24⟩),(103,⟨.st [(0,3),(1,39),(4,101)],5,64⟩),(105,⟨.st [(0,35),(3,103),(8,3)],9,96⟩),(108,⟨.o,1,0⟩),(115,⟨.o,1,0⟩),(125,⟨.st [(0,35),(3,37),(5,3),(6,3)],7,56⟩),(129,⟨.o,1,0⟩),(134,⟨.o,1,8⟩),(136,⟨.sl 5,1,24⟩),(143,⟨.o,1,8⟩),(148,⟨.o,1,0⟩),(158,⟨.sl 9,1,24⟩),(161,⟨.st [(0,35),(3,37)],5,40⟩),(167,⟨.ar 3 3,3,24⟩),(170,⟨.mp 5 175,1,8⟩),(172,⟨.ar 16 9,16,256⟩),(173,⟨.o,1,8⟩),(175,⟨.st [(0,173),(1,3),(2,3),(3,3)],4,32⟩),(176,⟨.o,1,0⟩),(177,⟨.o,1,8⟩),(178,⟨.o,1,8⟩),(181,⟨.i .u64,1,8⟩),(183,⟨.o,1,0⟩),(189,⟨.sl 39,1,24⟩),(191,⟨.st [(0,35),(3,3),(4,3),(5,189)],6,64⟩),(195,⟨.o,1,0⟩),(200,⟨.o,1,0⟩),(202,⟨.o,1,0⟩),(208,⟨.o,1,0⟩),(213,⟨.i .u64,1,8⟩),(216,⟨.o,1,8⟩),(223,⟨.o,1,0⟩),(240,⟨.sl 64,1,24⟩),(245,⟨.sl 1,1,24⟩),(247,⟨.i .i64,1,8⟩),(251,⟨.sl 37,1,24⟩),(262,⟨.ar 6 4,6,6⟩),(272,⟨.ar 5 4,5,5⟩),(273,⟨.ar 5 272,25,25⟩)]
@[irreducible] def cZ:Nat->Nat->List A
 |0,3=>[A.int .i64 0]
 |0,4=>[A.bool false]
 |0,5=>[A.int .u8 0]
 |0,9=>[A.str ⟨#[]⟩]
 |0,22=>[A.sl []]
 |0,23=>[A.sl []]
 |0,24=>[A.sl []]
 |0,26=>aX.enc aX.zero
 |0,29=>[A.int .i64 0]
 |0,35=>aF.enc aF.zero
 |0,37=>aC.enc aC.zero
 |0,39=>bF.enc bF.zero
 |0,40=>[A.sl []]
 |0,42=>aZ.enc aZ.zero
 |0,43=>[A.sl []]
 |0,45=>aJ.enc aJ.zero
 |0,46=>[A.sl []]
 |0,49=>[A.sl []]
 |0,50=>[A.sl []]
 |0,57=>bB.enc bB.zero
 |0,62=>aD.enc aD.zero
 |0,63=>[A.sl []]
 |0,64=>[A.sl []]
 |0,66=>aA.enc aA.zero
 |0,67=>[A.sl []]
 |0,71=>aS.enc aS.zero
 |0,74=>key.enc key.zero
 |0,76=>aW.enc aW.zero
 |0,92=>bA.enc bA.zero
 |0,101=>[A.sl []]
 |0,103=>bH.enc bH.zero
 |0,105=>bI.enc bI.zero
 |0,125=>aM.enc aM.zero
 |0,136=>[A.sl []]
 |0,158=>[A.sl []]
 |0,161=>aO.enc aO.zero
 |0,167=>Arr.enc (eI .i64) (Arr.rep 3 0)
 |0,175=>bD.enc bD.zero
 |0,181=>[A.int .u64 0]
 |0,189=>[A.sl []]
 |0,191=>bC.enc bC.zero
 |0,213=>[A.int .u64 0]
 |0,240=>[A.sl []]
 |0,245=>[A.sl []]
 |0,247=>[A.int .i64 0]
 |0,251=>[A.sl []]
 |0,262=>Arr.enc eB (Arr.rep 6 false)
 |0,272=>Arr.enc eB (Arr.rep 5 false)
 |3,26=>[.full [],.sl []]
 |_,_=>[A.any]
attribute [go_sem] cZ
def cM:List (Nat×Option Unit):=[(21,some ()),(22,some ()),(23,some ()),(65,some ()),(66,some ()),(69,some ()),(85,some ()),(102,some ()),(134,some ()),(135,some ()),(140,some ()),(142,some ()),(144,some ()),(145,some ()),(149,some ()),(162,some ()),(163,some ()),(164,some ()),(166,some ()),(197,some ()),(198,some ()),(200,some ()),(205,some ()),(244,some ()),(257,some ())]
set_option linter.unusedSimpArgs false
class OkP {α:Type} (m:Option α) (f:outParam FuncId) (av:outParam (List A)) (R:outParam (α->A)):Prop where
  ok:∀r,m=some r->PFn C f av (R r)
class OkM {α:Type} (m:Option α) (f:outParam FuncId) (av:outParam (List A)) (ms:outParam (List (Nat×Row))) (k:outParam Nat) (R:outParam (α->A)) (ms':outParam (α->List (Nat×Row))) (k':outParam Nat):Prop where
  ok:∀r,m=some r->MFn C f av ms k (R r) (ms' r) k'
class OkT (f:FuncId) (av:List A) (r:outParam A):Prop where
  ok:PFn C f av r
theorem zcZ0{T:Type}{P:T->Prop}{fr:Nat->T}(h0:P (fr 0))(hs:∀n,P (fr n)->P (fr (n+1))):∀n,P (fr n)
  |0=>h0
  |n+1=>hs n (zcZ0 h0 hs n)
def Mk{α:Type}(x:α):Prop:=True
theorem mkP{α β:Type}{x:α}(hm:Mk x)(v:β):Mk (x,v):=trivial
class JS {α:Type} (x:α) (id:Nat) {γ:outParam Type} {V:outParam Type} (k k':outParam (V->γ)) (J:outParam (V->St)):Prop where
  e:∀v,k v=k' v
class LS {α G X:Type} (x:α) (b:G->Option (G⊕X)) (b':outParam (G->Option (G⊕X))) (I:outParam (G->St)):Prop where
  e:∀v,b v=b' v
theorem mkJ{α:Type}(x:α)(id:Nat){γ V:Type}{k k':V->γ}(e:∀v,k v=k' v)(J:V->St):JS x id k k' J:=⟨e⟩
theorem mkL{α G X:Type}(x:α){b b':G->Option (G⊕X)}(e:∀v,b v=b' v)(I:G->St):LS x b b' I:=⟨e⟩
theorem MFn.unfull1{f:FuncId}{es:List (List A)}{az:List A}{ms:List (Nat×Row)}{k:Nat}{r:A}{ms':List (Nat×Row)}{k':Nat}(h:MFn C f (.sl es::az) ms k r ms' k'):MFn C f (.full es::az) ms k r ms' k':=by
  intro w W μ vs hg hW hl ha hm hi;refine h w W μ vs hg hW hl (λ i v a hv hx=>?_) hm hi;cases i with
  |succ i=>exact ha (i+1) v a hv hx
  |zero=>
    simp only[List.getElem?_cons_zero,cJ]at hx;subst hx;have h2:RepC w W v (.full es):=ha 0 v (.full es) hv rfl;cases h2 with
    |full a n es h3=>exact h3
def prA:A->A->List (Nat×Nat)
  | .ptr x _ _,.ptr y _ _=>[(y,x)]
  | .own x _ _,.own y _ _=>[(y,x)]
  |_,_=>[]
def prC:List A->List A->List (Nat×Nat)
  |a::r,b::s=>prA a b++prC r s
  |_,_=>[]
def prE:List (List A)->List (List A)->List (Nat×Nat)
  |a::r,b::s=>prC a b++prE r s
  |_,_=>[]
def prS(s:List (Nat×A)):List (Nat×A)->List (Nat×Nat)
  |[]=>[]
  |q::r=>(match look s q.1 with|some b=>prA b q.2|none=>[])++prS s r
def prM(m:List (Nat×Row))(l:List (Nat×Nat)):List (Nat×Row)->List (Nat×Nat)
  |[]=>[]
  |q::r=>(match look l q.1 with|some x=>(match look m x with|some w=>prE w.es q.2.es|none=>[])|none=>[])++prM m l r
def ptS(s:List (Nat×A)):List (Nat×A)->List (Nat×Nat)
  |[]=>[]
  |q::r=>(match q.2,look s q.1 with|.ptr y _ _,some (.ptr x _ _)=>[(y,x)]|_,_=>[])++ptS s r
def idL:Nat->List (Nat×Nat)
  |0=>[]
  |n+1=>idL n++[(n,n)]
def rl(k:Nat)(b:Bool)(s J:St):List (Nat×Nat):=idL k++prS s.fr J.fr++if b then prM s.mem (idL k++ptS s.fr J.fr) J.mem else[]
def ptC:List A->List A->List (Nat×Nat)
  | .ptr x _ _::r,.ptr y _ _::s=>(y,x)::ptC r s
  |_::r,_::s=>ptC r s
  |_,_=>[]
def cl(b:Bool)(vals av:List A)(m ms:List (Nat×Row)):List (Nat×Nat):=prC vals av++if b then prM m (ptC vals av) ms else[]
theorem lv{p:Prop}(w:p:=by
  (simp only[go_sem,↓reduceIte,reduceCtorEq,Nat.reduceEqDiff,Nat.reduceAdd,Nat.reduceSub,Nat.reduceMul,Nat.reduceLeDiff,Nat.reduceLT,Int.reduceLE,Int.reduceLT,Int.reduceToNat,Int.reduceNeg]
   first
   |(done)
   |trivial
   |(simp;done)
   |((repeat'(first|rfl|trivial|omega|(simp;done)|(simp;omega)|(congr 1;omega)|(congr 1;simp only[bP,dM,eO,gB];omega)|apply And.intro))<;>fail))):p:=w
section
variable {E:Env} {Q:Exit→St→Prop} {st:St} {q:Prop}
theorem isAW{c:PC}(h:AW C E c Q st):AW C E c Q st:=h
theorem zcZ1{f:FuncId}{d:Option Nat}{g:Option (Nat×Bool)}{gv:Bool}{ob:Prop}{args:List A}{rw:List (Nat×MS)}{ps:List POp}{st:St}{K:St->Prop}(h:zbj0 C f d g gv ob args rw ps st K):zbj0 C f d g gv ob args rw ps st K:=h
theorem zcG9{f:FuncId}{d:Option Nat}{g:Option (Nat×Bool)}{gv:Bool}{ob:Prop}{args:List A}{rw:List (Nat×MS)}{ps:List POp}{st:St}{K:St->Prop}(h:zaJ8 C f d g gv ob args rw ps st K):zaJ8 C f d g gv ob args rw ps st K:=h
theorem zaw7{α γ V:Type}{x:α}{id:Nat}{k k':V->γ}{J:V->St}{R:γ}{c:PC}{m:γ}(hm:Mk x)(h:m=R)[i:JS x id k k' J]
    (hk:∀v,Mk (k v)->k' v=R->Q .normal (J v)) (hb:AW C E c (BlkJ E id J (λ v=>k v=R) Q) st):AW C E (.block id c) Q st:=
  zy5 J _ (λ v e=>hk v trivial (by rw[<-i.e];exact e)) hb
theorem zdm8{α γ V:Type}{z:α}{k k':V->γ}{J:V->St}{x:PX}{p q:PC}{b c:Bool}{X Y r:γ}(hm:Mk z)(hx:xv C.G st.slot x=.bool b)(hG:E.G=C.G)(h:(if c=true then X else Y)=r)[i:JS z 999 k k' J]
    (hk:∀v,Mk (k v)->k' v=r->Q .normal (J v)) (ht:b=true->X=r->AW C E p (zbj2 E J (λ v=>k v=r) Q) st) (hf:b=false->Y=r->AW C E q (zbj2 E J (λ v=>k v=r) Q) st) (e:b=c:=by first|rfl|(simp;done)|grind):AW C E (.cond x p q) Q st:=
  zak2 J _ hx hG h (λ v e=>hk v trivial (by rw[<-i.e];exact e)) ht hf e
theorem zcZ2{α:Type}{x:α}{c:PC}{G X β:Type}{body body':G->Option (G⊕X)}{I:G->St}{g0:G}{kk:X->Option β}{r:β}{k:Nat}{l:List (Nat×Nat)}(hm:Mk x)(hK:E.k0=k)(h:(zc0 body g0).bind kk=some r)[i:LS x body body' I]
    (hb:∀g y,Mk (body g)->(∀x',y=.inr x'->Mk x/\kk x'=some r)->body' g=some y->AW C E c (zbB7 E I y Q) (I g))
    (b:Bool) (hl:rl k b st (I g0)=l:=by((conv=>lhs;reduce)<;>exact rfl))
    (hle:Le l st (I g0)/\zao4 k l (I g0).nx=true:=by exact lv):AW C E (.loop c) Q st:=by
  obtain⟨x,hx,hk⟩:=zb8 h;refine zch4 I hK _ hx hle λ g y hy hz=>hb g y trivial (λ x' e=>⟨hm,?_⟩) (by rw[<-i.e];exact hy);rw[hz x' e];exact hk
theorem zdm9{α:Type}{x:α}{c:PC}{G X β:Type}{body body':G->Option (G⊕X)}{I:G->St}{g0:G}{kk:X->Option β}{r:β}{k:Nat}(hm:Mk x)(hK:E.k0=k)(l:List (Nat×Nat))(h:(zc0 body g0).bind kk=some r)[i:LS x body body' I]
    (hb:∀g y,Mk (body g)->(∀x',y=.inr x'->Mk x/\kk x'=some r)->body' g=some y->AW C E c (zbB7 E I y Q) (I g))
    (hle:Le l st (I g0)/\zao4 k l (I g0).nx=true:=by exact lv):AW C E (.loop c) Q st:=by
  obtain⟨x,hx,hk⟩:=zb8 h;refine zch4 I hK l hx hle λ g y hy hz=>hb g y trivial (λ x' e=>⟨hm,?_⟩) (by rw[<-i.e];exact hy);rw[hz x' e];exact hk
theorem zcZ3{V γ:Type}{J:V->St}{k:V->γ}{R:γ}{s:St}{n:Nat}{v:V}{l:List (Nat×Nat)}(hK:E.k0=n)(h:k v=R)
    (b:Bool) (hl:rl n b s (J v)=l:=by((conv=>lhs;reduce)<;>exact rfl))
    (hle:Le l s (J v)/\zao4 n l (J v).nx=true:=by exact lv):zaM2 E J (λ v=>k v=R) s:=zco9 hK v h _ hle
theorem zcZ4{G X:Type}{I:G->St}{g':G}{y:G⊕X}{s:St}{k:Nat}{l:List (Nat×Nat)}(hK:E.k0=k)(h:some (.inl g')=some y)
    (b:Bool) (hl:rl k b s (I g')=l:=by((conv=>lhs;reduce)<;>exact rfl))
    (hle:Le l s (I g')/\zao4 k l (I g').nx=true:=by exact lv):zcp0 E I y s:=by
  cases h;exact zcp1 hK _ hle
theorem zdE1{G X β:Type}{M:Prop}{y:G⊕X}{x:X}{kk:X->Option β}{R:Option β}(kx:∀x',y=.inr x'->M/\kk x'=R)(h:some (.inr x)=some y):M/\kk x=R:=kx x (cR h).symm
theorem zch9{α:Type}{x r:α}{k:Nat}{st:St}{rs:List RX}{rv:List A}{ms':List (Nat×Row)}{k':Nat}{l:List (Nat×Nat)}(b:Bool)(h:some x=some r)
    (hl:rl k b ⟨zE8 0 (resL st rs),st.mem,st.nx⟩ ⟨zE8 0 rv,ms',k'⟩=l:=by((conv=>lhs;reduce)<;>exact rfl))
    (e:x=r->zbA5 st rs/\zbL5 rv=true/\Le l ⟨zE8 0 (resL st rs),st.mem,st.nx⟩ ⟨zE8 0 rv,ms',k'⟩/\zao4 k l k'=true:=by(intro e;subst e;exact lv)):zaR1 k st rs rv ms' k':=by
  obtain⟨h1,h2,h3,h4⟩:=e (cR h);exact⟨h1,h2,l,h3,h4⟩
theorem zcZ5{k:Nat}{st:St}{rs:List RX}{rv:List A}{ms':List (Nat×Row)}{k':Nat}(h:zaR1 k st rs rv ms' k'):zaR1 k st rs rv ms' k':=h
theorem zcH0{an:List (List Nat)}{f:FuncId}{d:Option Nat}{g:Option (Nat×Bool)}{gv:Bool}{ob:Prop}{args:List A}{rw:List (Nat×MS)}{ids:List Nat}{cok:Bool}{ps:List POp}{st:St}{log:List (List Nat×List Nat)}{K:St->Prop}(h:zaJ9 C an f d g gv ob args rw ids cok ps st log K):zaJ9 C an f d g gv ob args rw ids cok ps st log K:=h
theorem zcH1{f:FuncId}{d:Option Nat}{g:Option (Nat×Bool)}{gv:Bool}{ob:Prop}{vals:List A}{ps:List POp}{st:St}{K:St->Prop}(h:zaR6 C f d g gv ob vals ps st K):zaR6 C f d g gv ob vals ps st K:=h
theorem zcp6{an:List (List Nat)}{f:FuncId}{d:Option Nat}{g:Option (Nat×Bool)}{gv:Bool}{ob:Prop}{vals:List A}{vi:List Nat}{cok:Bool}{ps:List POp}{st:St}{log:List (List Nat×List Nat)}{K:St->Prop}(h:zaA9 C an f d g gv ob vals vi cok ps st log K):zaA9 C an f d g gv ob vals vi cok ps st log K:=h
theorem zaf5{f:FuncId}{d:Option Nat}{ob:Prop}{vals:List A}{ps:List POp}{st:St}{K:St->Prop}{l nl:List (Nat×Nat)}{ids:List Nat}{av:List A}{ms ms':List (Nat×Row)}{k k':Nat}{r:A}(b:Bool)
    (hf:MFn C f av ms k r ms' k') (h:q) (hl:cl b vals av st.mem ms=l:=by((conv=>lhs;reduce)<;>exact rfl)) (hnl:newL k st.nx (k'-k)=nl:=by((conv=>lhs;reduce)<;>exact rfl)) (hids:ms.map (·.1)++(List.range (k'-k)).map (k+·)=ids:=by((conv=>lhs;reduce)<;>exact rfl))
    (e:Imp q (arun C ps (st.app d (renR (l++nl) r) (zM9 st.m (fzM vals av)++zac5 (l++nl) ms' ids)) K):=by exact im)
    (hok:okM st.m st.nx l vals av ms k k':=by exact lv) (ho:ob:=by trivial) (hr:zbN2 r=true:=by rfl):zaR6 C f d none true ob vals ps st K:=
  zp6 l nl ids hf hnl hids h e hok ho hr
theorem zac6{an:List (List Nat)}{f:FuncId}{d:Option Nat}{ob:Prop}{vals:List A}{vi:List Nat}{cok:Bool}{ps:List POp}{st:St}{log:List (List Nat×List Nat)}{K:St->Prop}{l nl:List (Nat×Nat)}{ids:List Nat}{av:List A}{ms ms':List (Nat×Row)}{k k':Nat}{r:A}(b:Bool)
    (hf:MFn C f av ms k r ms' k') (h:q) (hl:cl b vals av st.mem ms=l:=by((conv=>lhs;reduce)<;>exact rfl)) (hnl:newL k st.nx (k'-k)=nl:=by((conv=>lhs;reduce)<;>exact rfl)) (hids:ms.map (·.1)++(List.range (k'-k)).map (k+·)=ids:=by((conv=>lhs;reduce)<;>exact rfl))
    (e:Imp q (zaU7 (an.getD log.length []) 0 log vi ((zM9 st.m (fzM vals av)++zac5 (l++nl) ms' ids).map (·.1))=true/\cok=true/\zao6 C an ps (st.app d (renR (l++nl) r) (zM9 st.m (fzM vals av)++zac5 (l++nl) ms' ids)) (log++[(vi,(zM9 st.m (fzM vals av)++zac5 (l++nl) ms' ids).map (·.1))]) K):=by exact im)
    (hok:okM st.m st.nx l vals av ms k k':=by exact lv) (ho:ob:=by trivial) (hr:zbN2 r=true:=by rfl):zaA9 C an f d none true ob vals vi cok ps st log K:=
  zaM3 l nl ids hf hnl hids h e hok ho hr
theorem gogo{p:Prop}(w:p:=by
      (skip
       repeat' first
        | (with_reducible refine isAW ?_
           first
           |(with_reducible obtain⟨_,h⟩:=ze3 h)
           | (with_reducible obtain⟨hm,h⟩:=zdE1 kx h
              clear kx
              try dsimp only at h)
           |refine za0 ?_
           |refine ze2 ?_
           |refine zA6 ?_
           |refine zm2 ?_
           |refine za1 hG ?_
           |refine zbl3 zC5 hG ?_
           |refine zai3 zC5 hG ?_
           | (refine zdm8 hm rfl hG h (λ v hm h=>?_) (λ _ h=>?_) (λ _ h=>?_)
              focus (try refine g_st ?_))
           |(refine ze5 rfl hG h (λ _ h=>?_) (λ _ h=>?_))
           |refine zak3 rfl hG ?_
           |refine zaB0 rfl hG ?_
           | (refine zaw7 hm h (λ v hm h=>?_) ?_
              focus (try refine g_st ?_))
           |refine zw6 ?_
           |(refine zcZ2 hm hK h (λ g y hm kx h=>?_) false;try refine g_st ?_)
           |(refine zcZ2 hm hK h (λ g y hm kx h=>?_) true;try refine g_st ?_))
        | (with_reducible refine zcZ1 ?_
           first
           |(refine zm4 (λ _=>OkT.ok) ?_)
           | (obtain⟨v,hv,h⟩:=zb8 h;have hm:=mkP hm v
              repeat(with_reducible obtain⟨_,h⟩:=ze3 h)
              first
              |refine zm4 (λ _=>OkP.ok _ hv) ?_
              |refine zm4 (λ hg=>OkP.ok _ (zcc6 hg hv)) ?_
              |refine zm4 (λ _=>PFn.unfull (OkP.ok _ hv)) ?_
              |refine zm4 (λ _=>hrc _ _ hv) ?_
              |refine zm4 (λ _=>hrc _ _ _ hv) ?_
              |refine zm4 (λ _=>hrc _ _ _ _ hv) ?_
              |refine zm4 (λ _=>hrc _ _ _ _ _ hv) ?_))
        | (with_reducible refine zcG9 ?_
           first
           |(refine zaf4 (λ _=>OkT.ok) ?_)
           | (obtain⟨v,hv,h⟩:=zb8 h;have hm:=mkP hm v
              repeat(with_reducible obtain⟨_,h⟩:=ze3 h)
              first
              |refine zaf4 (λ _=>OkP.ok _ hv) ?_
              |refine zaf4 (λ hg=>OkP.ok _ (zcc6 hg hv)) ?_
              |refine zaf4 (λ _=>PFn.unfull (OkP.ok _ hv)) ?_
              |refine zaf4 (λ _=>hrc _ _ hv) ?_
              |refine zaf4 (λ _=>hrc _ _ _ hv) ?_
              |refine zaf4 (λ _=>hrc _ _ _ _ hv) ?_
              |refine zaf4 (λ _=>hrc _ _ _ _ _ hv) ?_))
        | (with_reducible refine zcH0 ?_
           first
           |(refine zH5 (λ _=>OkT.ok) ?_)
           | (obtain⟨v,hv,h⟩:=zb8 h;have hm:=mkP hm v
              repeat(with_reducible obtain⟨_,h⟩:=ze3 h)
              first
              |refine zH5 (λ _=>OkP.ok _ hv) ?_
              |refine zH5 (λ hg=>OkP.ok _ (zcc6 hg hv)) ?_
              |refine zH5 (λ _=>hrc _ _ hv) ?_
              |refine zH5 (λ _=>hrc _ _ _ hv) ?_
              |refine zH5 (λ _=>hrc _ _ _ _ hv) ?_
              |refine zH5 (λ _=>hrc _ _ _ _ _ hv) ?_))
        | (with_reducible refine zcH1 ?_
           obtain⟨v,hv,h⟩:=zb8 h;have hm:=mkP hm v
           repeat(with_reducible obtain⟨_,h⟩:=ze3 h)
           first
           |refine zaf5 false (OkM.ok _ hv) ?_
           |refine zaf5 true (OkM.ok _ hv) ?_
           |refine zaf5 false (MFn.unfull1 (OkM.ok _ hv)) ?_
           |refine zaf5 false (hrc _ _ hv) ?_
           |refine zaf5 true (hrc _ _ hv) ?_
           |refine zaf5 false (hrc _ _ _ hv) ?_
           |refine zaf5 true (hrc _ _ _ hv) ?_
           |refine zaf5 false (hrc _ _ _ _ hv) ?_
           |refine zaf5 true (hrc _ _ _ _ hv) ?_
           |refine zaf5 false (hrc _ _ _ _ _ hv) ?_
           |refine zaf5 true (hrc _ _ _ _ _ hv) ?_
           | (rcases v with v|v
              all_goals dsimp only at h
              all_goals first
              |refine zaf5 false (OkL.ok _ hv) ?_
              |refine zaf5 false (OkR.ok _ hv) ?_))
        | (with_reducible refine zcp6 ?_
           obtain⟨v,hv,h⟩:=zb8 h;have hm:=mkP hm v
           repeat(with_reducible obtain⟨_,h⟩:=ze3 h)
           first
           |refine zac6 false (OkM.ok _ hv) ?_
           |refine zac6 true (OkM.ok _ hv) ?_
           |refine zac6 false (MFn.unfull1 (OkM.ok _ hv)) ?_
           |refine zac6 false (hrc _ _ hv) ?_
           |refine zac6 true (hrc _ _ hv) ?_
           |refine zac6 false (hrc _ _ _ hv) ?_
           |refine zac6 true (hrc _ _ _ hv) ?_
           |refine zac6 false (hrc _ _ _ _ hv) ?_
           |refine zac6 true (hrc _ _ _ _ hv) ?_
           |refine zac6 false (hrc _ _ _ _ _ hv) ?_
           |refine zac6 true (hrc _ _ _ _ _ hv) ?_)
        | (with_reducible refine zcZ5 ?_
           first
           |exact zch9 false h
           |exact zch9 true h
           |exact zch9 false (inl_inj h)
           |exact zch9 false (inr_inj h)
           |(cases h;done))
        |exact zcZ4 hK h false
        |exact zcZ3 hK h false
        |exact zcZ4 hK h true
        |exact zcZ3 hK h true
        | (fail_if_success (with_reducible refine isAW ?_)
           fail_if_success (with_reducible refine zcZ1 ?_)
           fail_if_success (with_reducible refine zcG9 ?_)
           fail_if_success (with_reducible refine zcH0 ?_)
           fail_if_success (with_reducible refine zcH1 ?_)
           fail_if_success (with_reducible refine zcp6 ?_)
           fail_if_success (with_reducible refine zcZ5 ?_)
           fail_if_success (with_reducible refine isJoin ?_)
           fail_if_success (with_reducible refine isNext ?_)
           first
           |exact zt1 h
           |exact zas4 h))):p:=w
theorem zW0(F:Func)(hs:List (Nat×Nat)){f:FuncId}{av:List A}{r:A}{pc:(Nat->Nat->List A)->({o:Operand}->Nat->PX)->PC}{N np:Nat}{rs:List RX}
    (h:∀E:Env,E.G=C.G->E.N=N->E.k0=0->AW C E (pc cZ (@kon cZ)) (Post rs r) ⟨zE8 0 av,[],0⟩)
    {us ut:Nat} (hu:zcp5 F=(us,ut):=by((conv=>lhs;reduce)<;>exact rfl)) (hp:∀(Z:Nat->Nat->List A) (K:{o:Operand}->Nat->PX),TC.tr ⟨cT,cM,Z,@K⟩ hs us ut F=(pc Z @K,N,rs,np):=by(intro Z K;((conv=>lhs;reduce)<;>exact rfl))) (hchk:chkF C.P f (pc cZ (@kon cZ)) N rs np=true:=by kernel_rfl) (hnp:av.length=np:=by rfl):PFn C f av r:=zbu5 hchk hnp h
theorem zZ4(F:Func)(hs:List (Nat×Nat)){f:FuncId}{av:List A}{ms ms':List (Nat×Row)}{k k':Nat}(rl:List A){pc:(Nat->Nat->List A)->({o:Operand}->Nat->PX)->PC}{N np:Nat}{rs:List RX}
    (h:∀E:Env,E.G=C.G->E.N=N->E.k0=k->AW C E (pc cZ (@kon cZ)) (zcn2 k rs rl ms' k') ⟨zE8 0 av,ms,k⟩)
    {us ut:Nat} (hu:zcp5 F=(us,ut):=by((conv=>lhs;reduce)<;>exact rfl)) (hp:∀(Z:Nat->Nat->List A) (K:{o:Operand}->Nat->PX),TC.tr ⟨cT,cM,Z,@K⟩ hs us ut F=(pc Z @K,N,rs,np):=by(intro Z K;((conv=>lhs;reduce)<;>exact rfl))) (hchk:chkF C.P f (pc cZ (@kon cZ)) N rs np=true:=by kernel_rfl)
    (hnp:av.length=np:=by rfl) (hms:zcc0 ms=true:=by rfl) (hall:zbA2 ms k=true:=by rfl) (hrl:rl.length=rs.length:=by rfl):MFn C f av ms k (zcb8 rl) ms' k':=zcc1 hchk hnp hms hall hrl h
theorem ok1{α:Type}{m m':Option α}(u:m=m')(F:Func)(hs:List (Nat×Nat)){f:FuncId}{av:List A}{R:α->A}{pc:(Nat->Nat->List A)->({o:Operand}->Nat->PX)->PC}{N np:Nat}{rs:List RX}{us ut:Nat}(hu:zcp5 F=(us,ut):=by((conv=>lhs;reduce)<;>exact rfl))(hp:∀(Z:Nat->Nat->List A) (K:{o:Operand}->Nat->PX),TC.tr ⟨cT,cM,Z,@K⟩ hs us ut F=(pc Z @K,N,rs,np):=by(intro Z K;((conv=>lhs;reduce)<;>exact rfl)))(hchk:chkF C.P f (pc cZ (@kon cZ)) N rs np=true:=by kernel_rfl)
    (w:∀E:Env,∀r,E.G=C.G->E.k0=0->Mk m->m'=some r->AW C E (pc cZ (@kon cZ)) (Post rs (R r)) ⟨zE8 0 av,[],0⟩:=by
      (intro E r hG hK hm h;exact gogo)) (hnp:av.length=np:=by rfl):OkP m f av R:=
  ⟨λ r h=>zbu5 hchk hnp λ E hG _ hK=>w E r hG hK trivial (u▸h)⟩
theorem ok2{α:Type}(R:α->A){m m':α}(u:m=m')(F:Func)(hs:List (Nat×Nat)){f:FuncId}{av:List A}{pc:(Nat->Nat->List A)->({o:Operand}->Nat->PX)->PC}{N np:Nat}{rs:List RX}{us ut:Nat}(hu:zcp5 F=(us,ut):=by((conv=>lhs;reduce)<;>exact rfl))(hp:∀(Z:Nat->Nat->List A) (K:{o:Operand}->Nat->PX),TC.tr ⟨cT,cM,Z,@K⟩ hs us ut F=(pc Z @K,N,rs,np):=by(intro Z K;((conv=>lhs;reduce)<;>exact rfl)))(hchk:chkF C.P f (pc cZ (@kon cZ)) N rs np=true:=by kernel_rfl)
    (w:∀E:Env,∀r,E.G=C.G->E.k0=0->Mk m->m'=r->AW C E (pc cZ (@kon cZ)) (Post rs (R r)) ⟨zE8 0 av,[],0⟩:=by
      (intro E r hG hK hm h;exact gogo)) (hnp:av.length=np:=by rfl):OkT f av (R m):=
  ⟨zbu5 hchk hnp λ E hG _ hK=>w E m hG hK trivial u.symm⟩
theorem okm{α:Type}{m m':Option α}(u:m=m'){f:FuncId}{av:List A}{ms:List (Nat×Row)}{k k':Nat}(rv:α->List A){ms':α->List (Nat×Row)}(F:Func)(hs:List (Nat×Nat)){pc:(Nat->Nat->List A)->({o:Operand}->Nat->PX)->PC}{N np:Nat}{rs:List RX}{us ut:Nat}(hu:zcp5 F=(us,ut):=by((conv=>lhs;reduce)<;>exact rfl))(hp:∀(Z:Nat->Nat->List A) (K:{o:Operand}->Nat->PX),TC.tr ⟨cT,cM,Z,@K⟩ hs us ut F=(pc Z @K,N,rs,np):=by(intro Z K;((conv=>lhs;reduce)<;>exact rfl)))(hchk:chkF C.P f (pc cZ (@kon cZ)) N rs np=true:=by kernel_rfl)
    (w:∀E:Env,∀r,E.G=C.G->E.k0=k->Mk m->m'=some r->AW C E (pc cZ (@kon cZ)) (zcn2 k rs (rv r) (ms' r) k') ⟨zE8 0 av,ms,k⟩:=by
      (intro E r hG hK hm h;exact gogo))
    (hnp:av.length=np:=by rfl) (hms:zcc0 ms=true:=by rfl) (hall:zbA2 ms k=true:=by rfl) (hrl:∀r,(rv r).length=rs.length:=by(intro r;rfl)):OkM m f av ms k (λ r=>zcb8 (rv r)) ms' k':=
  ⟨λ r h=>zcc1 (rl:=rv r) hchk hnp hms hall (hrl r) λ E hG _ hK=>w E r hG hK trivial (u▸h)⟩
end
open Go.Shelf
theorem zdE2(r:Row):(⟨[],[(0,r)],1⟩:St).m=setM (⟨[],[],0⟩:St).m [(0,.row r)]:=by
 funext x
 by_cases h:x=0
 .subst h;simp[St.m,setM,look]
 .simp[St.m,setM,look,h,Nat.one_le_iff_ne_zero]
theorem zcZ6{w:World}{W:Nat->Prop}{μ:Nat->Loc}{v:Value}(h:RepV w W μ v (.full [])):∃a,v=.slice a 0 0:=by
 have h':RepC w W v (.full []):=h;cases h' with
 |full a n es h1=>
  cases h1 with
  |sl0=>exact⟨_,rfl⟩
  |sl b off cap sz es us hb hlt hn=>simp at hn
def zcZ7(P:Program)(t:TypeId)(sz:Nat):Bool:=
 match P.info? t with
 |some i=>i.size==sz&&decide (0<sz)&&(match i.zero with|some z=>z.cells.size==sz|none=>false)&&decide (4294967296*i.bytes<=140737488355328)
 |none=>false
theorem zcZ8{C:Cx}{ρ:Ren}(L:Lays8.n4 C.P ρ){sz:Nat}(hok:zcZ7 C.P (ρ.t 25) sz=true)
  {f:FuncId} (hf:ρ.f 4=f) (zz:List A) (a0:Int) (h0:0<=a0) (h1:a0<=4294967296):MFn C f [.full [],.int .i64 a0] [] 0 (.own 0 0 0) [(0,⟨false,sz,zz,[]⟩)] 1:=by
 subst hf;obtain⟨i0,z,hi0,hz0,hsz,hpos,hzs,hby⟩:∃i0 z,C.P.info? (ρ.t 25)=some i0/\i0.zero=some z/\i0.size=sz/\0<sz/\z.cells.size=sz/\4294967296*i0.bytes<=140737488355328:=by
  unfold zcZ7 at hok;split at hok
  .rename_i i hi;split at hok
   .rename_i z hz;simp only[bK,dA,bQ]at hok;obtain⟨⟨⟨h1,h2⟩,h3⟩,h4⟩:=hok;exact⟨i,z,hi,hz,h1,h2,h3,h4⟩
   .simp at hok
  .simp at hok
 subst hsz;intro w W μ vs hG hW hl hv hm hi;obtain⟨v0,v1,rfl⟩:∃v0 v1,vs=[v0,v1]:=by
  match vs,hl with
  |[a,b],_=>exact⟨a,b,rfl⟩
 obtain⟨ad,rfl⟩:=zcZ6 (hv 0 v0 (.full []) rfl rfl);have r1:RepC w W v1 (.int .i64 a0):=hv 1 v1 (.int .i64 a0) rfl rfl;cases r1;obtain⟨n,rfl⟩:∃n:Nat,a0=n:=⟨a0.toNat,by omega⟩;have hid:(⟨[],[],0⟩:St).m 0=.fresh:=by simp[St.m]
 rw[zdE2]
 by_cases hn:n=0
 .subst hn;refine(Any8.slices_Grow_room L ad 0 0 0 w (cQ _) (by omega) (by omega) (by omega)).mono λ e w' ⟨he,hw⟩=>?_;subst hw;exact⟨_,W,_,he,Step.newEmpty hm hi hW hid hpos rfl (Keeps.refl _ _),zaJ5 (by simp) 0⟩
 .refine(Any8.slices_Grow_grow L i0 z hi0 hz0 hpos ad 0 0 n [] w (cQ _) (by omega) ?_ (by omega) (by simp) (λ _=>rfl) (λ a _ j v h=>by simp at h)).mono λ e w' ⟨he,hw⟩=>?_
  .simp only[dC];exact eV (cX _ (by omega)) hby
  have hc1:grownCap w (0+n) 0 (ρ.t 25)<=maxLen:=grownCap_le_maxLen w (0+n) 0 (ρ.t 25) (by simp only[maxLen];omega);generalize hc:grownCap w (0+n) 0 (ρ.t 25)=c at*;have hc0:0+n<=c:=by rw[<-hc];exact grownCap_ge _ _ _ _
  obtain⟨R,hR⟩:∃R:List Value,(([]:List Value).toArray++Builtin.zeroCells z.cells (0+n-0)++Builtin.zeroCells z.cells (c-(0+n)))=R.toArray:=⟨_,Array.toArray_toList.symm⟩;have hRl:R.length=c*i0.size:=by
   have:(R.toArray).size=c*i0.size:=by rw[<-hR];simp only[Array.size_append,size_zeroCells,hzs,dC,gK,List.length_nil];rw[<-dF];congr 1;omega
   simpa using this
  rw[hR]at hw;subst hw;have hst:=Step.new (w':=w.drew.alloc (.cells (([]:List Value)++R).toArray (ρ.t 25))) hm hi hW hid (r:=⟨false,i0.size,zz,[]⟩) (us:=[]) (rest:=R) (e:=ρ.t 25) hpos (zV9 _ _)
   ⟨by simp,λ i c h=>by simp at h,λ i c j a h=>by simp at h⟩ (by simpa using heap_alloc_new w.drew _)
  refine⟨_,_,_,he,hst,?_⟩;have:=zal6 (w:=w.drew.alloc (.cells (([]:List Value)++R).toArray (ρ.t 25))) (W:=λ b=>W b\/b=w.heap.size)
   (μ:=λ x=>if x=0 then Loc.at_ ⟨w.heap.size,i0.size,([]:List Value).length+R.length⟩else μ x) (x:=0) (lo:=0) (n:=0) (cap:=c)
   (k:=⟨w.heap.size,i0.size,([]:List Value).length+R.length⟩) (by simp) (by simp[hRl]) (eY _) (by omega)
  simpa using this
end Ab
end Go.Proofs.YtdlfhmkmnjbihaaGreatDoor
