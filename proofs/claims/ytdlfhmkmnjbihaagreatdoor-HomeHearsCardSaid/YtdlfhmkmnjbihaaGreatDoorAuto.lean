import Derived.Test.YtdlfhmkmnjbihaaGreatDoorDec
import Derived.Test.YtdlfhmkmnjbihaaGreatDoorProg
import Derived.KernelRfl
namespace Go.Proofs.YtdlfhmkmnjbihaaGreatDoor
namespace Ab
set_option linter.unusedVariables false
inductive TK where
 |b
 |i (k:IntKind)
 |s
 |st (fs:List (Nat×Nat))
 |ar (n e:Nat)
 |sl (e:Nat)
 |mp (k e:Nat)
 |o
structure TI where
 k:TK
 n:Nat
 y:Nat
def lk{α:Type}:List (Nat×α)->Nat->α->α
 |[],_,d=>d
 |q::r,n,d=>bif Nat.beq q.1 n then q.2 else lk r n d
structure TC where
 t:List (Nat×TI)
 m:List (Nat×Option Unit)
 z:Nat->Nat->List A
 k:{o:Operand}->Nat->PX
def TC.ty(c:TC)(t:Nat):TI:=lk c.t t ⟨.o,1,0⟩
def TC.el(c:TC)(t:Nat):Nat:=match(c.ty t).k with|.sl e=>e|.ar _ e=>e|_=>0
def TC.ag(c:TC)(t:Nat):Bool:=match(c.ty t).k with|.st _=>true|.ar _ _=>true|_=>false
def TC.kz(c:TC)(t:Nat):A:=match(c.ty t).k with|.mp k _=>bif c.ag k then .agg (c.z 0 k)else(c.z 0 k).headD .any|_=>.any
def TC.me(c:TC)(t:Nat):Nat:=match(c.ty t).k with|.mp _ e=>e|_=>0
def TC.mt(c:TC)(t:Nat):Nat:=match(c.ty t).k with|.mp k _=>k|_=>0
def TC.md(c:TC)(t:Nat):List A:=c.kz t::c.z 0 (c.me t)
def TC.lf(c:TC):Nat->Nat->List LK
 |0,_=>[]
 |d+1,t=>match(c.ty t).k with
  | .b=>[.b]
  | .i k=>[.i k]
  | .s=>[.s]
  | .st fs=>fs.flatMap λ q=>c.lf d q.2
  |_=>[]
def TC.x(c:TC)(t:Nat)(o:Operand):PX:=match o with
 | .tmp n=>.t n
 | .const _=>c.k (o:=o) t
 | .global g=>.g g
 | .func f=>.f f
def zdv5:Operand->Bool
 | .const (.slice _ _ _)=>true
 |_=>false
def TC.bo(c:TC)(op:BinOp)(t:Nat)(x y:Operand):PO×List PX:=match(c.ty t).k with
 | .sl _=>(.eqNil,[c.x t x])
 | .b=>(.eqb (match op with|.neq=>true|_=>false),[c.x t x,c.x t y])
 | .st _=>(.eqa (match op with|.neq=>true|_=>false) (c.lf 9 t),[c.x t x,c.x t y])
 | .ar _ _=>(.eqa (match op with|.neq=>true|_=>false) (c.lf 9 t),[c.x t x,c.x t y])
 |_=>(.bin op,[c.x t x,c.x t y])
def TC.args(c:TC):List Operand->List Nat->List PX
 |x::xs,t::ts=>c.x t x::c.args xs ts
 |x::xs,[]=>c.x 0 x::c.args xs []
 |[],_=>[]
def TC.op(c:TC)(h ty:Nat):Op->PO×List PX
 | .move x=>bif zdv5 x then(bif Nat.beq h 0 then(.mv,[.c (A.sl [])])else(.nilown (c.ty (c.el ty)).n (c.z 0 (c.el ty)),[.c (A.full [])]))else(.mv,[c.x ty x])
 | .assign x=>bif zdv5 x then(bif Nat.beq h 0 then(.mv,[.c (A.sl [])])else(.nilown (c.ty (c.el ty)).n (c.z 0 (c.el ty)),[.c (A.full [])]))else(.mv,[c.x ty x])
 | .pick a x y=>(.pick,[c.x 0 a,c.x 0 x,c.x 0 y])
 | .box t x=>(.box (c.ty t).n,[c.x t x])
 | .alloc t=>(.alloc (c.ty t).n (c.z h t),[])
 | .build t ps=>(.build (c.z h t) (ps.toList.map λ p=>match(c.ty t).k with
   | .st fs=>((fs.getD p.1 (0,0)).1,(c.ty (fs.getD p.1 (0,0)).2).n)
   |_=>(p.1*(c.ty (c.el t)).n,(c.ty (c.el t)).n)),ps.toList.map λ p=>match(c.ty t).k with
   | .st fs=>c.x (fs.getD p.1 (0,0)).2 p.2
   |_=>c.x (c.el t) p.2)
 | .buildSlice t _ ps=>(bif Nat.beq h 0 then .bslice (c.ty (c.el t)).n (c.z 0 (c.el t))else .bown (c.ty (c.el t)).n (c.z 0 (c.el t)),ps.toList.map λ p=>c.x (c.el t) p.2)
 | .load t x=>(.load (c.ty t).n (c.ag t),[c.x 0 x])
 | .store t x y=>(.store (c.ty t).n,[c.x 0 x,bif zdv5 y then .c (A.sl [])else c.x t y])
 | .binOp op t x y _=>c.bo op t x y
 | .unOp .neg _ x=>(.neg,[c.x 0 x])
 | .unOp _ _ x=>(.not,[c.x 0 x])
 | .convert t u x=>(match(c.ty t).k,(c.ty u).k with
  | .sl _,.s=>.cvS
  | .s,.sl _=>.cvB
  |_,.i k=>.conv k
  |_,_=>.mv,[c.x 0 x])
 | .field t x i=>(match(c.ty t).k with
  | .st fs=>.field (fs.getD i (0,0)).1 (c.ty (fs.getD i (0,0)).2).n (c.ag (fs.getD i (0,0)).2)
  |_=>.mv,[c.x 0 x])
 | .fieldAddr t x i=>(match(c.ty t).k with
  | .st fs=>.faddr (fs.getD i (0,0)).1
  |_=>.mv,[c.x 0 x])
 | .indexAddr t x i=>(match(c.ty t).k with
  | .ar n e=>.iaA n (c.ty e).n
  |_=>.iaS (c.ty (c.el t)).n (c.z 0 (c.el t)),[c.x 0 x,c.x 0 i])
 | .index t x i=>(match(c.ty t).k with
  | .ar n e=>.idxA n (c.ty e).n (c.ag e)
  |_=>.idxS,[c.x t x,c.x 0 i])
 | .slice t x l u m=>(match(c.ty t).k with
  | .s=>.slcS l.isSome u.isSome
  |_=>.slc (c.ty (c.el t)).n l.isSome u.isSome m.isSome,c.x 0 x::(l.toList++u.toList++m.toList).map (c.x 0))
 | .extract x i=>(.ext i,[c.x 0 x])
 | .nilCheck x=>(.nilck,[c.x 0 x])
 | .range t x=>(.rng,[c.x 0 x])
 | .next x _=>(.next (c.md h),[c.x 0 x])
 | .entry x=>(.entry (c.md h),[c.x 0 x])
 | .makeMap t _=>(.mkmap [c.kz t,.bool (c.ag (c.me t))],[])
 | .lookup t x i ok=>(.lkp ok (c.ag (c.me t)) (c.kz t) (c.z 0 (c.me t)),[c.x 0 x,c.x (c.mt t) i])
 | .insert t x i y=>(.mupd (c.kz t) (c.ag (c.me t)) (c.ty (c.me t)).n,[c.x 0 x,c.x (c.mt t) i,c.x (c.me t) y])
 | .mapUpdate t x i y=>(.mupd (c.kz t) (c.ag (c.me t)) (c.ty (c.me t)).n,[c.x 0 x,c.x (c.mt t) i,c.x (c.me t) y])
 | .makeSlice t x y=>(.mk (c.ty (c.el t)).n (c.ty (c.el t)).y (c.z 0 (c.el t)),[c.x 0 x,c.x 0 y])
 | .makeFunc (.func f) bs xs=>(match bs.toList with|[]=>(.mkf f,xs.toList.map (c.x 0))|b::_=>(.mkb f,[c.x 0 b]))
 | .call ⟨.builtin b,xs,ts⟩=>(match b,ts.toList with
  | .len,[t]=>(match(c.ty t).k with|.s=>.lenS|.mp _ _=>.lenM|_=>.len)
  | .append,t::_=>(match h with
   |0=>.append (c.ty (c.el t)).n (c.ty (c.el t)).y (c.z 0 (c.el t))
   |1=>.appc (c.ty (c.el t)).n (c.ty (c.el t)).y
   |_=>.apl (c.ty (c.el t)).n (c.ty (c.el t)).y)
  | .copy,t::_=>.copy (c.ty (c.el t)).n
  | .clear,t::_=>.clear (c.ty (c.el t)).n (c.z 0 (c.el t))
  | .min,_=>.min
  | .max,_=>.max
  |_,_=>.mv,xs.toList.map (c.x 0))
 | .call ⟨.value (.func f),xs,ts⟩=>(match lk c.m f none,h with
  |none,0=>.call f
  |none,_=>.callm f
  |some _,0=>.callm f
  |some _,_=>.call f,c.args xs.toList ts.toList)
 | .call ⟨.value x,xs,_⟩=>(match h with|0=>.callv|2=>.callb|_=>.callvm,c.x 0 x::xs.toList.map (c.x 0))
 |_=>(.mv,[])
def opTs:List Operand->List Nat
 |[]=>[]
 | .tmp n::r=>n::opTs r
 |_::r=>opTs r
def gTs(ops:List Oper):Option (Nat×Bool)->List Nat
 |none=>[]
 |some q=>match(ops[q.1]?).bind (·.dst)with
  |some d=>[d]
  |none=>[]
def zcT2(ops:List Oper):List Oper->List Nat
 |[]=>[]
 |o::r=>opTs o.op.operands.toList++gTs ops o.guard++zcT2 ops r
def bits:List Nat->Nat
 |[]=>0
 |t::r=>Nat.lor (Nat.shiftLeft 1 t) (bits r)
def zdR1(m:Nat)(a:Nat×Nat):Nat×Nat:=match a with
 |(s,u)=>(Nat.lor s m,Nat.lor u (Nat.land s m))
def zbR4:Code->Nat×Nat->Nat×Nat
 | .region _ ops _,a=>zdR1 (bits (zcT2 ops.toList ops.toList)) a
 | .seq x y,a=>zbR4 y (zbR4 x a)
 | .cond x y z,a=>zbR4 z (zbR4 y (zdR1 (bits (opTs [x])) a))
 | .block _ x,a=>zbR4 x a
 | .loop x,a=>zbR4 x a
 | .scope x,a=>zbR4 x a
 |_,a=>a
def resU:List ResultVar->List Nat
 |[]=>[]
 | .tmp t::r=>t::resU r
 | .cell t _::r=>t::resU r
def zcH2(f:Func):Nat×Nat:=match f.body with
 |some b=>zbR4 b (0,bits (resU f.results.toList))
 |none=>(0,0)
def has(m t:Nat):Bool:=Nat.beq (Nat.land (Nat.shiftRight m t) 1) 1
def zbs2(s u m:Nat):List Oper->List Nat
 |[]=>[]
 |o::r=>match o.dst with
  |none=>zbs2 s u m r
  |some t=>bif has u t then zbs2 s u m r else bif has m t then t::zbs2 s u m r else bif has s t then zbs2 s u m r else t::zbs2 s u m r
def zcT3(s u:Nat)(ops:List Oper):List Nat:=zbs2 s u (bits (zcT2 ops ops)) ops
def PO.wr:PO->Bool
 | .nilown _ _|.box _|.alloc _ _|.bown _ _|.store _|.append _ _ _|.appc _ _|.copy _| .clear _ _|.mkmap _|.mupd _ _ _|.rng|.next _|.entry _|.mk _ _ _|.callm _|.callvm=>true
 |_=>false
def zdR2:List Oper->Bool
 |[]=>false
 |o::r=>match o.op with
  | .panic _=>true
  |_=>zdR2 r
def gOf(ops:List Oper):Option (Nat×Bool)->Option (Nat×Bool)
 |none=>none
 |some q=>some (((ops[q.1]?).bind (·.dst)).getD 0,q.2)
def TC.ops(c:TC)(hs:List (Nat×Nat))(all:List Oper):List Oper->List POp
 |[]=>[]
 |o::r=>(match c.op (match o.dst with|some d=>lk hs d 0|none=>0) o.type o.op with
  |(p,xs)=>⟨o.dst,gOf all o.guard,p,xs⟩)::c.ops hs all r
def wrs:List POp->Bool
 |[]=>false
 |p::r=>bif p.po.wr then true else wrs r
def TC.code(c:TC)(hs:List (Nat×Nat))(s u:Nat):Code->PC
 | .skip=>.skip
 | .region id ops d=>bif zdR2 ops.toList then .dead else
   match d with
   |false=>.reg (zcT3 s u ops.toList) (c.ops hs ops.toList ops.toList)
   |true=>bif wrs (c.ops hs ops.toList ops.toList)||(Nat.beq (lk hs (1000+id) 0) 1)then .regm (zcT3 s u ops.toList) (ancs [] (ops.toList.map zF3)) (c.ops hs ops.toList ops.toList)else .regd (zcT3 s u ops.toList) (c.ops hs ops.toList ops.toList)
 | .seq a b=>.seq (c.code hs s u a) (c.code hs s u b)
 | .cond x a b=>.cond (c.x 0 x) (c.code hs s u a) (c.code hs s u b)
 | .block i a=>.block i (c.code hs s u a)
 | .loop a=>.loop (c.code hs s u a)
 | .exit i=>.exit i
 | .scope a=>.scope (c.code hs s u a)
 | .label _=>.label
 | .ret=>.ret
 |_=>.skip
def TC.rx(c:TC):List ResultVar->List RX
 |[]=>[]
 | .tmp t::r=>.t t::c.rx r
 | .cell t y::r=>.c t (c.ty y).n (c.ag y)::c.rx r
def TC.tr(c:TC)(hs:List (Nat×Nat))(s u:Nat)(f:Func):PC×Nat×List RX×Nat:=
 (match f.body with
  |some b=>c.code hs s u b
  |none=>.skip,f.ntmps,c.rx f.results.toList,Nat.add f.params.size f.nfree)
def cst(z:Nat->Nat->List A)(t:Nat):Value->A
 | .bool b=>.bool b
 | .int k n=>.int k n
 | .string s=>.str s
 | .slice _ _ _=>.full []
 | .agg _=>.agg (z 0 t)
 |_=>.any
def kon(z:Nat->Nat->List A){o:Operand}(t:Nat):PX:=match o with
 | .const v=>.c (cst z t v)
 |_=>.c .any
attribute [go_sem] kon cst
def zz1:Arr ByteArray 16:=⟨[⟨#[]⟩,⟨#[80,71,65,89]⟩,⟨#[80,71,97]⟩,⟨#[80,71,97,68]⟩,⟨#[80,71,65]⟩,⟨#[83,73]⟩,⟨#[82]⟩,⟨#[82,78,79]⟩,⟨#[82]⟩,⟨#[82,76]⟩,⟨#[82,69,80,71,66]⟩,⟨#[82,80,68]⟩,⟨#[69,83]⟩,⟨#[69]⟩,⟨#[69]⟩,⟨#[69]⟩],rfl⟩
def zcy1:Arr (Arr Bool 5) 5:=⟨[⟨[true,true,true,true,false],rfl⟩,⟨[true,true,false,false,false],rfl⟩,⟨[true,false,true,false,false],rfl⟩,⟨[true,false,false,false,false],rfl⟩,⟨[false,false,false,false,false],rfl⟩],rfl⟩
noncomputable def C:Cx:=⟨Tryz.prog,[(0,Arr.enc eS zz1),(1,Arr.enc (Arr.enc eB) zcy1)]⟩
@[go_sem] theorem C_G:C.G=[(0,Arr.enc eS zz1),(1,Arr.enc (Arr.enc eB) zcy1)]:=rfl
theorem zK6:C.P.follows .mixedOrders=true:=by kernel_rfl
def cT:List (Nat×TI):=[(0,⟨.o,1,0⟩),(1,⟨.o,1,8⟩),(3,⟨.i .i64,1,8⟩),(4,⟨.b,1,1⟩),(5,⟨.i .u8,1,1⟩),(9,⟨.s,1,16⟩),(20,⟨.o,1,16⟩),(22,⟨.sl 62,1,24⟩),(23,⟨.sl 66,1,24⟩),(24,⟨.sl 92,1,24⟩),(26,⟨.st [(0,23),(1,24)],2,48⟩),(29,⟨.i .i64,1,8⟩),(30,⟨.o,1,0⟩),(35,⟨.st [(0,3),(1,3),(2,3)],3,24⟩),(37,⟨.st [(0,3),(1,3)],2,16⟩),(39,⟨.st [(0,9),(1,37)],3,32⟩),(40,⟨.sl 105,1,24⟩),(42,⟨.st [(0,23),(1,40)],2,48⟩),(43,⟨.sl 191,1,24⟩),(45,⟨.st [(0,3),(1,35),(4,3),(5,39),(8,3),(9,3),(10,3),(11,3),(12,3),(13,3),(14,4),(15,42),(17,43)],18,200⟩),(46,⟨.sl 3,1,24⟩),(49,⟨.sl 76,1,24⟩),(50,⟨.sl 71,1,24⟩),(51,⟨.o,1,0⟩),(55,⟨.o,1,8⟩),(57,⟨.st [(0,46),(1,3)],2,32⟩),(62,⟨.st [(0,9),(1,3),(2,3),(3,3)],4,40⟩),(63,⟨.sl 161,1,24⟩),(64,⟨.sl 125,1,24⟩),(66,⟨.st [(0,62),(4,63),(5,64),(6,64),(7,3)],8,120⟩),(67,⟨.sl 35,1,24⟩),(71,⟨.st [(0,3),(1,35),(4,9),(5,37)],7,64⟩),(76,⟨.st [(0,3),(1,45)],19,208⟩),(78,⟨.o,1,0⟩),(87,⟨.o,1,0⟩),(92,⟨.st [(0,35),(3,9),(4,3)],5,48⟩),(96,⟨.o,1,0⟩),(101,⟨.sl 103,1,24⟩),(103,⟨.st [(0,3),(1,39),(4,101)],5,64⟩),(105,⟨.st [(0,35),(3,103),(8,3)],9,96⟩),(108,⟨.o,1,0⟩),(115,⟨.o,1,0⟩),(125,⟨.st [(0,35),(3,37),(5,3),(6,3)],7,56⟩),(129,⟨.o,1,0⟩),(134,⟨.o,1,8⟩),(136,⟨.sl 5,1,24⟩),(143,⟨.o,1,8⟩),(148,⟨.o,1,0⟩),(158,⟨.sl 9,1,24⟩),(161,⟨.st [(0,35),(3,37)],5,40⟩),(167,⟨.ar 3 3,3,24⟩),(170,⟨.mp 5 175,1,8⟩),(172,⟨.ar 16 9,16,256⟩),(173,⟨.o,1,8⟩),(175,⟨.st [(0,173),(1,3),(2,3),(3,3)],4,32⟩),(176,⟨.o,1,0⟩),(177,⟨.o,1,8⟩),(178,⟨.o,1,8⟩),(181,⟨.i .u64,1,8⟩),(183,⟨.o,1,0⟩),(189,⟨.sl 39,1,24⟩),(191,⟨.st [(0,35),(3,3),(4,3),(5,189)],6,64⟩),(195,⟨.o,1,0⟩),(200,⟨.o,1,0⟩),(202,⟨.o,1,0⟩),(208,⟨.o,1,0⟩),(213,⟨.i .u64,1,8⟩),(216,⟨.o,1,8⟩),(223,⟨.o,1,0⟩),(240,⟨.sl 64,1,24⟩),(245,⟨.sl 1,1,24⟩),(247,⟨.i .i64,1,8⟩),(249,⟨.o,1,0⟩),(251,⟨.sl 37,1,24⟩),(261,⟨.o,1,8⟩),(262,⟨.ar 6 4,6,6⟩),(266,⟨.o,1,0⟩),(272,⟨.ar 5 4,5,5⟩),(273,⟨.ar 5 272,25,25⟩)]
@[irreducible] def cZ:Nat->Nat->List A
 |0,3=>[A.int .i64 0]
 |0,4=>[A.bool false]
 |0,5=>[A.int .u8 0]
 |0,9=>[A.str ⟨#[]⟩]
 |0,22=>[A.sl []]
 |0,23=>[A.sl []]
 |0,24=>[A.sl []]
 |0,26=>bC.enc bC.zero
 |0,29=>[A.int .i64 0]
 |0,35=>aF.enc aF.zero
 |0,37=>aC.enc aC.zero
 |0,39=>aO.enc aO.zero
 |0,40=>[A.sl []]
 |0,42=>aS.enc aS.zero
 |0,43=>[A.sl []]
 |0,45=>aK.enc aK.zero
 |0,46=>[A.sl []]
 |0,49=>[A.sl []]
 |0,50=>[A.sl []]
 |0,57=>bJ.enc bJ.zero
 |0,62=>aD.enc aD.zero
 |0,63=>[A.sl []]
 |0,64=>[A.sl []]
 |0,66=>aA.enc aA.zero
 |0,67=>[A.sl []]
 |0,71=>aY.enc aY.zero
 |0,76=>bD.enc bD.zero
 |0,92=>bF.enc bF.zero
 |0,101=>[A.sl []]
 |0,103=>aZ.enc aZ.zero
 |0,105=>bI.enc bI.zero
 |0,125=>aM.enc aM.zero
 |0,136=>[A.sl []]
 |0,158=>[A.sl []]
 |0,161=>aT.enc aT.zero
 |0,167=>Arr.enc (eI .i64) (Arr.rep 3 0)
 |0,175=>bH.enc bH.zero
 |0,181=>[A.int .u64 0]
 |0,189=>[A.sl []]
 |0,191=>bB.enc bB.zero
 |0,213=>[A.int .u64 0]
 |0,240=>[A.sl []]
 |0,245=>[A.sl []]
 |0,247=>[A.int .i64 0]
 |0,251=>[A.sl []]
 |0,262=>Arr.enc eB (Arr.rep 6 false)
 |0,272=>Arr.enc eB (Arr.rep 5 false)
 |3,26=>[.full [],.sl []]
 |3,189=>[.full []]
 |_,_=>[A.any]
attribute [go_sem] cZ
def cM:List (Nat×Option Unit):=[(21,some ()),(22,some ()),(23,some ()),(65,some ()),(66,some ()),(69,some ()),(85,some ()),(102,some ()),(134,some ()),(135,some ()),(140,some ()),(142,some ()),(144,some ()),(145,some ()),(149,some ()),(162,some ()),(166,some ()),(200,some ()),(205,some ()),(244,some ()),(254,some ()),(257,some ()),(276,some ()),(279,some ()),(283,some ()),(285,some ())]
set_option linter.unusedSimpArgs false
class OkP {α:Type} (m:Option α) (f:outParam FuncId) (av:outParam (List A)) (R:outParam (α->A)):Prop where
  ok:∀r,m=some r->PFn C f av (R r)
class OkM {α:Type} (m:Option α) (f:outParam FuncId) (av:outParam (List A)) (ms:outParam (List (Nat×Row))) (k:outParam Nat) (R:outParam (α->A)) (ms':outParam (α->List (Nat×Row))) (k':outParam Nat):Prop where
  ok:∀r,m=some r->MFn C f av ms k (R r) (ms' r) k'
class OkT (f:FuncId) (av:List A) (r:outParam A):Prop where
  ok:PFn C f av r
class OkL {α β:Type} (m:Option (α⊕β)) (f:outParam FuncId) (av:outParam (List A)) (ms:outParam (List (Nat×Row))) (k:outParam Nat) (R:outParam (α->A)) (ms':outParam (α->List (Nat×Row))) (k':outParam Nat):Prop where
  ok:∀r,m=some (.inl r)->MFn C f av ms k (R r) (ms' r) k'
class OkR {α β:Type} (m:Option (α⊕β)) (f:outParam FuncId) (av:outParam (List A)) (ms:outParam (List (Nat×Row))) (k:outParam Nat) (R:outParam (β->A)) (ms':outParam (β->List (Nat×Row))) (k':outParam Nat):Prop where
  ok:∀r,m=some (.inr r)->MFn C f av ms k (R r) (ms' r) k'
theorem zbl7{T:Type}{P:T->Prop}{fr:Nat->T}(h0:P (fr 0))(hs:∀n,P (fr n)->P (fr (n+1))):∀n,P (fr n)
  |0=>h0
  |n+1=>hs n (zbl7 h0 hs n)
def Mk{α:Type}(x:α):Prop:=True
theorem mkP{α β:Type}{x:α}(hm:Mk x)(v:β):Mk (x,v):=trivial
class JS {α:Type} (x:α) (id:Nat) {γ:outParam Type} {V:outParam Type} (k k':outParam (V->γ)) (J:outParam (V->St)):Prop where
  e:∀v,k v=k' v
class LS {α G X:Type} (x:α) (b:G->Option (G⊕X)) (b':outParam (G->Option (G⊕X))) (I:outParam (G->St)):Prop where
  e:∀v,b v=b' v
theorem mkJ{α:Type}(x:α)(id:Nat){γ V:Type}{k k':V->γ}(e:∀v,k v=k' v)(J:V->St):JS x id k k' J:=⟨e⟩
theorem mkL{α G X:Type}(x:α){b b':G->Option (G⊕X)}(e:∀v,b v=b' v)(I:G->St):LS x b b' I:=⟨e⟩
theorem MFn.unfull1{f:FuncId}{es:List (List A)}{az:List A}{ms:List (Nat×Row)}{k:Nat}{r:A}{ms':List (Nat×Row)}{k':Nat}(h:MFn C f (.sl es::az) ms k r ms' k'):MFn C f (.full es::az) ms k r ms' k':=by
  intro w W μ vs hg hW hl ha hm hi;refine h w W μ vs hg hW hl (λ i v a hv hx=>?_) hm hi;cases i with
  |succ i=>exact ha (i+1) v a hv hx
  |zero=>
    simp only[List.getElem?_cons_zero,cK]at hx;subst hx;have h2:RepC w W v (.full es):=ha 0 v (.full es) hv rfl;cases h2 with
    |full a n es h3=>exact h3
def prA:A->A->List (Nat×Nat)
  | .ptr x _ _,.ptr y _ _=>[(y,x)]
  | .own x _ _,.own y _ _=>[(y,x)]
  |_,_=>[]
def prC:List A->List A->List (Nat×Nat)
  |a::r,b::s=>prA a b++prC r s
  |_,_=>[]
def prE:List (List A)->List (List A)->List (Nat×Nat)
  |a::r,b::s=>prC a b++prE r s
  |_,_=>[]
def prS(s:List (Nat×A)):List (Nat×A)->List (Nat×Nat)
  |[]=>[]
  |q::r=>(match look s q.1 with|some b=>prA b q.2|none=>[])++prS s r
def prM(m:List (Nat×Row))(l:List (Nat×Nat)):List (Nat×Row)->List (Nat×Nat)
  |[]=>[]
  |q::r=>(match look l q.1 with|some x=>(match look m x with|some w=>prE w.es q.2.es|none=>[])|none=>[])++prM m l r
def ptS(s:List (Nat×A)):List (Nat×A)->List (Nat×Nat)
  |[]=>[]
  |q::r=>(match q.2,look s q.1 with|.ptr y _ _,some (.ptr x _ _)=>[(y,x)]|_,_=>[])++ptS s r
def idL:Nat->List (Nat×Nat)
  |0=>[]
  |n+1=>idL n++[(n,n)]
def rl(k:Nat)(b:Bool)(s J:St):List (Nat×Nat):=idL k++prS s.fr J.fr++if b then prM s.mem (idL k++ptS s.fr J.fr) J.mem else[]
def ptC:List A->List A->List (Nat×Nat)
  | .ptr x _ _::r,.ptr y _ _::s=>(y,x)::ptC r s
  |_::r,_::s=>ptC r s
  |_,_=>[]
def cl(b:Bool)(vals av:List A)(m ms:List (Nat×Row)):List (Nat×Nat):=prC vals av++if b then prM m (ptC vals av) ms else[]
theorem lv{p:Prop}(w:p:=by
  (simp only[go_sem,↓reduceIte,reduceCtorEq,Nat.reduceEqDiff,Nat.reduceAdd,Nat.reduceSub,Nat.reduceMul,Nat.reduceLeDiff,Nat.reduceLT,Int.reduceLE,Int.reduceLT,Int.reduceToNat,Int.reduceNeg]
   first
   |(done)
   |trivial
   |(simp;done)
   |((repeat'(first|rfl|trivial|omega|(simp;done)|(simp;omega)|(congr 1;omega)|(congr 1;simp only[bR,dT,eU,gN];omega)|apply And.intro))<;>fail))):p:=w
section
variable {E:Env} {Q:Exit→St→Prop} {st:St} {q:Prop}
theorem isAW{c:PC}(h:AW C E c Q st):AW C E c Q st:=h
theorem zdv6{f:FuncId}{d:Option Nat}{g:Option (Nat×Bool)}{gv:Bool}{ob:Prop}{args:List A}{rw:List (Nat×MS)}{ps:List POp}{st:St}{K:St->Prop}(h:zbw5 C f d g gv ob args rw ps st K):zbw5 C f d g gv ob args rw ps st K:=h
theorem zdb3{f:FuncId}{d:Option Nat}{g:Option (Nat×Bool)}{gv:Bool}{ob:Prop}{args:List A}{rw:List (Nat×MS)}{ps:List POp}{st:St}{K:St->Prop}(h:zaX1 C f d g gv ob args rw ps st K):zaX1 C f d g gv ob args rw ps st K:=h
theorem zaJ2{α γ V:Type}{x:α}{id:Nat}{k k':V->γ}{J:V->St}{R:γ}{c:PC}{m:γ}(hm:Mk x)(h:m=R)[i:JS x id k k' J]
    (hk:∀v,Mk (k v)->k' v=R->Q .normal (J v)) (hb:AW C E c (BlkJ E id J (λ v=>k v=R) Q) st):AW C E (.block id c) Q st:=
  zB7 J _ (λ v e=>hk v trivial (by rw[<-i.e];exact e)) hb
theorem zdL9{α γ V:Type}{z:α}{k k':V->γ}{J:V->St}{x:PX}{p q:PC}{b c:Bool}{X Y r:γ}(hm:Mk z)(hx:xv C.G st.slot x=.bool b)(hG:E.G=C.G)(h:(if c=true then X else Y)=r)[i:JS z 999 k k' J]
    (hk:∀v,Mk (k v)->k' v=r->Q .normal (J v)) (ht:b=true->X=r->AW C E p (zbw7 E J (λ v=>k v=r) Q) st) (hf:b=false->Y=r->AW C E q (zbw7 E J (λ v=>k v=r) Q) st) (e:b=c:=by first|rfl|(simp;done)|grind):AW C E (.cond x p q) Q st:=
  zaA2 J _ hx hG h (λ v e=>hk v trivial (by rw[<-i.e];exact e)) ht hf e
theorem zdv7{α:Type}{x:α}{c:PC}{G X β:Type}{body body':G->Option (G⊕X)}{I:G->St}{g0:G}{kk:X->Option β}{r:β}{k:Nat}{l:List (Nat×Nat)}(hm:Mk x)(hK:E.k0=k)(h:(zc1 body g0).bind kk=some r)[i:LS x body body' I]
    (hb:∀g y,Mk (body g)->(∀x',y=.inr x'->Mk x/\kk x'=some r)->body' g=some y->AW C E c (zbR3 E I y Q) (I g))
    (b:Bool) (hl:rl k b st (I g0)=l:=by((conv=>lhs;reduce)<;>exact rfl))
    (hle:Le l st (I g0)/\zaz7 k l (I g0).nx=true:=by exact lv):AW C E (.loop c) Q st:=by
  obtain⟨x,hx,hk⟩:=zd0 h;refine zcx5 I hK _ hx hle λ g y hy hz=>hb g y trivial (λ x' e=>⟨hm,?_⟩) (by rw[<-i.e];exact hy);rw[hz x' e];exact hk
theorem zdM0{α:Type}{x:α}{c:PC}{G X β:Type}{body body':G->Option (G⊕X)}{I:G->St}{g0:G}{kk:X->Option β}{r:β}{k:Nat}(hm:Mk x)(hK:E.k0=k)(l:List (Nat×Nat))(h:(zc1 body g0).bind kk=some r)[i:LS x body body' I]
    (hb:∀g y,Mk (body g)->(∀x',y=.inr x'->Mk x/\kk x'=some r)->body' g=some y->AW C E c (zbR3 E I y Q) (I g))
    (hle:Le l st (I g0)/\zaz7 k l (I g0).nx=true:=by exact lv):AW C E (.loop c) Q st:=by
  obtain⟨x,hx,hk⟩:=zd0 h;refine zcx5 I hK l hx hle λ g y hy hz=>hb g y trivial (λ x' e=>⟨hm,?_⟩) (by rw[<-i.e];exact hy);rw[hz x' e];exact hk
theorem zdv8{V γ:Type}{J:V->St}{k:V->γ}{R:γ}{s:St}{n:Nat}{v:V}{l:List (Nat×Nat)}(hK:E.k0=n)(h:k v=R)
    (b:Bool) (hl:rl n b s (J v)=l:=by((conv=>lhs;reduce)<;>exact rfl))
    (hle:Le l s (J v)/\zaz7 n l (J v).nx=true:=by exact lv):zaZ4 E J (λ v=>k v=R) s:=zcG4 hK v h _ hle
theorem zdv9{G X:Type}{I:G->St}{g':G}{y:G⊕X}{s:St}{k:Nat}{l:List (Nat×Nat)}(hK:E.k0=k)(h:some (.inl g')=some y)
    (b:Bool) (hl:rl k b s (I g')=l:=by((conv=>lhs;reduce)<;>exact rfl))
    (hle:Le l s (I g')/\zaz7 k l (I g').nx=true:=by exact lv):zcG5 E I y s:=by
  cases h;exact zcG6 hK _ hle
theorem zee2{G X β:Type}{M:Prop}{y:G⊕X}{x:X}{kk:X->Option β}{R:Option β}(kx:∀x',y=.inr x'->M/\kk x'=R)(h:some (.inr x)=some y):M/\kk x=R:=kx x (dP h).symm
theorem zcy2{α:Type}{x r:α}{k:Nat}{st:St}{rs:List RX}{rv:List A}{ms':List (Nat×Row)}{k':Nat}{l:List (Nat×Nat)}(b:Bool)(h:some x=some r)
    (hl:rl k b ⟨zI9 0 (resL st rs),st.mem,st.nx⟩ ⟨zI9 0 rv,ms',k'⟩=l:=by((conv=>lhs;reduce)<;>exact rfl))
    (e:x=r->zbQ2 st rs/\zca7 rv=true/\Le l ⟨zI9 0 (resL st rs),st.mem,st.nx⟩ ⟨zI9 0 rv,ms',k'⟩/\zaz7 k l k'=true:=by(intro e;subst e;exact lv)):zbe0 k st rs rv ms' k':=by
  obtain⟨h1,h2,h3,h4⟩:=e (dP h);exact⟨h1,h2,l,h3,h4⟩
theorem zdw0{k:Nat}{st:St}{rs:List RX}{rv:List A}{ms':List (Nat×Row)}{k':Nat}(h:zbe0 k st rs rv ms' k'):zbe0 k st rs rv ms' k':=h
theorem zdb4{an:List (List Nat)}{f:FuncId}{d:Option Nat}{g:Option (Nat×Bool)}{gv:Bool}{ob:Prop}{args:List A}{rw:List (Nat×MS)}{ids:List Nat}{cok:Bool}{ps:List POp}{st:St}{log:List (List Nat×List Nat)}{K:St->Prop}(h:zaX2 C an f d g gv ob args rw ids cok ps st log K):zaX2 C an f d g gv ob args rw ids cok ps st log K:=h
theorem zdb5{f:FuncId}{d:Option Nat}{g:Option (Nat×Bool)}{gv:Bool}{ob:Prop}{vals:List A}{ps:List POp}{st:St}{K:St->Prop}(h:zaA0 C f d g gv ob vals ps st K):zaA0 C f d g gv ob vals ps st K:=h
theorem zcH3{an:List (List Nat)}{f:FuncId}{d:Option Nat}{g:Option (Nat×Bool)}{gv:Bool}{ob:Prop}{vals:List A}{vi:List Nat}{cok:Bool}{ps:List POp}{st:St}{log:List (List Nat×List Nat)}{K:St->Prop}(h:zaN1 C an f d g gv ob vals vi cok ps st log K):zaN1 C an f d g gv ob vals vi cok ps st log K:=h
theorem zaq0{f:FuncId}{d:Option Nat}{ob:Prop}{vals:List A}{ps:List POp}{st:St}{K:St->Prop}{l nl:List (Nat×Nat)}{ids:List Nat}{av:List A}{ms ms':List (Nat×Row)}{k k':Nat}{r:A}(b:Bool)
    (hf:MFn C f av ms k r ms' k') (h:q) (hl:cl b vals av st.mem ms=l:=by((conv=>lhs;reduce)<;>exact rfl)) (hnl:newL k st.nx (k'-k)=nl:=by((conv=>lhs;reduce)<;>exact rfl)) (hids:ms.map (·.1)++(List.range (k'-k)).map (k+·)=ids:=by((conv=>lhs;reduce)<;>exact rfl))
    (e:Imp q (arun C ps (st.app d (renR (l++nl) r) (zP9 st.m (fzM vals av)++zak7 (l++nl) ms' ids)) K):=by exact im)
    (hok:okM st.m st.nx l vals av ms k k':=by exact lv) (ho:ob:=by trivial) (hr:zbF0 r=true:=by rfl):zaA0 C f d none true ob vals ps st K:=
  zs8 l nl ids hf hnl hids h e hok ho hr
theorem zam6{an:List (List Nat)}{f:FuncId}{d:Option Nat}{ob:Prop}{vals:List A}{vi:List Nat}{cok:Bool}{ps:List POp}{st:St}{log:List (List Nat×List Nat)}{K:St->Prop}{l nl:List (Nat×Nat)}{ids:List Nat}{av:List A}{ms ms':List (Nat×Row)}{k k':Nat}{r:A}(b:Bool)
    (hf:MFn C f av ms k r ms' k') (h:q) (hl:cl b vals av st.mem ms=l:=by((conv=>lhs;reduce)<;>exact rfl)) (hnl:newL k st.nx (k'-k)=nl:=by((conv=>lhs;reduce)<;>exact rfl)) (hids:ms.map (·.1)++(List.range (k'-k)).map (k+·)=ids:=by((conv=>lhs;reduce)<;>exact rfl))
    (e:Imp q (zbh3 (an.getD log.length []) 0 log vi ((zP9 st.m (fzM vals av)++zak7 (l++nl) ms' ids).map (·.1))=true/\cok=true/\zaz9 C an ps (st.app d (renR (l++nl) r) (zP9 st.m (fzM vals av)++zak7 (l++nl) ms' ids)) (log++[(vi,(zP9 st.m (fzM vals av)++zak7 (l++nl) ms' ids).map (·.1))]) K):=by exact im)
    (hok:okM st.m st.nx l vals av ms k k':=by exact lv) (ho:ob:=by trivial) (hr:zbF0 r=true:=by rfl):zaN1 C an f d none true ob vals vi cok ps st log K:=
  zbF3 l nl ids hf hnl hids h e hok ho hr
theorem gogo{p:Prop}(w:p:=by
      (skip
       repeat' first
        | (with_reducible refine isAW ?_
           first
           |(with_reducible obtain⟨_,h⟩:=zg4 h)
           | (with_reducible obtain⟨hm,h⟩:=zee2 kx h
              clear kx
              try dsimp only at h)
           |refine za0 ?_
           |refine zh7 ?_
           |refine zE5 ?_
           |refine zm8 ?_
           |refine za1 hG ?_
           |refine zby9 zK6 hG ?_
           |refine zaE3 zK6 hG ?_
           | (refine zdL9 hm rfl hG h (λ v hm h=>?_) (λ _ h=>?_) (λ _ h=>?_)
              focus (try refine g_st ?_))
           |(refine zh9 rfl hG h (λ _ h=>?_) (λ _ h=>?_))
           |refine zac1 rfl hG ?_
           |refine zaH9 rfl hG ?_
           | (refine zaJ2 hm h (λ v hm h=>?_) ?_
              focus (try refine g_st ?_))
           |refine zy9 ?_
           |(refine zdv7 hm hK h (λ g y hm kx h=>?_) false;try refine g_st ?_)
           |(refine zdv7 hm hK h (λ g y hm kx h=>?_) true;try refine g_st ?_))
        | (with_reducible refine zdv6 ?_
           first
           |(refine zr3 (λ _=>OkT.ok) ?_)
           | (obtain⟨v,hv,h⟩:=zd0 h;have hm:=mkP hm v
              repeat(with_reducible obtain⟨_,h⟩:=zg4 h)
              first
              |refine zr3 (λ _=>OkP.ok _ hv) ?_
              |refine zr3 (λ hg=>OkP.ok _ (zbw6 hg hv)) ?_
              |refine zr3 (λ _=>PFn.unfull (OkP.ok _ hv)) ?_
              |refine zr3 (λ _=>hrc _ _ hv) ?_
              |refine zr3 (λ _=>hrc _ _ _ hv) ?_
              |refine zr3 (λ _=>hrc _ _ _ _ hv) ?_
              |refine zr3 (λ _=>hrc _ _ _ _ _ hv) ?_))
        | (with_reducible refine zdb3 ?_
           first
           |(refine zaA1 (λ _=>OkT.ok) ?_)
           | (obtain⟨v,hv,h⟩:=zd0 h;have hm:=mkP hm v
              repeat(with_reducible obtain⟨_,h⟩:=zg4 h)
              first
              |refine zaA1 (λ _=>OkP.ok _ hv) ?_
              |refine zaA1 (λ hg=>OkP.ok _ (zbw6 hg hv)) ?_
              |refine zaA1 (λ _=>PFn.unfull (OkP.ok _ hv)) ?_
              |refine zaA1 (λ _=>hrc _ _ hv) ?_
              |refine zaA1 (λ _=>hrc _ _ _ hv) ?_
              |refine zaA1 (λ _=>hrc _ _ _ _ hv) ?_
              |refine zaA1 (λ _=>hrc _ _ _ _ _ hv) ?_))
        | (with_reducible refine zdb4 ?_
           first
           |(refine zS0 (λ _=>OkT.ok) ?_)
           | (obtain⟨v,hv,h⟩:=zd0 h;have hm:=mkP hm v
              repeat(with_reducible obtain⟨_,h⟩:=zg4 h)
              first
              |refine zS0 (λ _=>OkP.ok _ hv) ?_
              |refine zS0 (λ hg=>OkP.ok _ (zbw6 hg hv)) ?_
              |refine zS0 (λ _=>hrc _ _ hv) ?_
              |refine zS0 (λ _=>hrc _ _ _ hv) ?_
              |refine zS0 (λ _=>hrc _ _ _ _ hv) ?_
              |refine zS0 (λ _=>hrc _ _ _ _ _ hv) ?_))
        | (with_reducible refine zdb5 ?_
           obtain⟨v,hv,h⟩:=zd0 h;have hm:=mkP hm v
           repeat(with_reducible obtain⟨_,h⟩:=zg4 h)
           first
           |refine zaq0 false (OkM.ok _ hv) ?_
           |refine zaq0 true (OkM.ok _ hv) ?_
           |refine zaq0 false (MFn.unfull1 (OkM.ok _ hv)) ?_
           |refine zaq0 false (hrc _ _ hv) ?_
           |refine zaq0 true (hrc _ _ hv) ?_
           |refine zaq0 false (hrc _ _ _ hv) ?_
           |refine zaq0 true (hrc _ _ _ hv) ?_
           |refine zaq0 false (hrc _ _ _ _ hv) ?_
           |refine zaq0 true (hrc _ _ _ _ hv) ?_
           |refine zaq0 false (hrc _ _ _ _ _ hv) ?_
           |refine zaq0 true (hrc _ _ _ _ _ hv) ?_
           | (rcases v with v|v
              all_goals dsimp only at h
              all_goals first
              |refine zaq0 false (OkL.ok _ hv) ?_
              |refine zaq0 false (OkR.ok _ hv) ?_))
        | (with_reducible refine zcH3 ?_
           obtain⟨v,hv,h⟩:=zd0 h;have hm:=mkP hm v
           repeat(with_reducible obtain⟨_,h⟩:=zg4 h)
           first
           |refine zam6 false (OkM.ok _ hv) ?_
           |refine zam6 true (OkM.ok _ hv) ?_
           |refine zam6 false (MFn.unfull1 (OkM.ok _ hv)) ?_
           |refine zam6 false (hrc _ _ hv) ?_
           |refine zam6 true (hrc _ _ hv) ?_
           |refine zam6 false (hrc _ _ _ hv) ?_
           |refine zam6 true (hrc _ _ _ hv) ?_
           |refine zam6 false (hrc _ _ _ _ hv) ?_
           |refine zam6 true (hrc _ _ _ _ hv) ?_
           |refine zam6 false (hrc _ _ _ _ _ hv) ?_
           |refine zam6 true (hrc _ _ _ _ _ hv) ?_)
        | (with_reducible refine zdw0 ?_
           first
           |exact zcy2 false h
           |exact zcy2 true h
           |exact zcy2 false (zcy0 h)
           |exact zcy2 false (zbs1 h)
           |(cases h;done))
        |exact zdv9 hK h false
        |exact zdv8 hK h false
        |exact zdv9 hK h true
        |exact zdv8 hK h true
        | (fail_if_success (with_reducible refine isAW ?_)
           fail_if_success (with_reducible refine zdv6 ?_)
           fail_if_success (with_reducible refine zdb3 ?_)
           fail_if_success (with_reducible refine zdb4 ?_)
           fail_if_success (with_reducible refine zdb5 ?_)
           fail_if_success (with_reducible refine zcH3 ?_)
           fail_if_success (with_reducible refine zdw0 ?_)
           fail_if_success (with_reducible refine isJoin ?_)
           fail_if_success (with_reducible refine isNext ?_)
           first
           |exact zy2 h
           |exact zaE4 h))):p:=w
theorem zW4(F:Func)(hs:List (Nat×Nat)){f:FuncId}{av:List A}{r:A}{pc:(Nat->Nat->List A)->({o:Operand}->Nat->PX)->PC}{N np:Nat}{rs:List RX}
    (h:∀E:Env,E.G=C.G->E.N=N->E.k0=0->AW C E (pc cZ (@kon cZ)) (Post rs r) ⟨zI9 0 av,[],0⟩)
    {us ut:Nat} (hu:zcH2 F=(us,ut):=by((conv=>lhs;reduce)<;>exact rfl)) (hp:∀(Z:Nat->Nat->List A) (K:{o:Operand}->Nat->PX),TC.tr ⟨cT,cM,Z,@K⟩ hs us ut F=(pc Z @K,N,rs,np):=by(intro Z K;((conv=>lhs;reduce)<;>exact rfl))) (hchk:chkF C.P f (pc cZ (@kon cZ)) N rs np=true:=by kernel_rfl) (hnp:av.length=np:=by rfl):PFn C f av r:=zbK1 hchk hnp h
theorem zU4(F:Func)(hs:List (Nat×Nat)){f:FuncId}{av:List A}{ms ms':List (Nat×Row)}{k k':Nat}(rl:List A){pc:(Nat->Nat->List A)->({o:Operand}->Nat->PX)->PC}{N np:Nat}{rs:List RX}
    (h:∀E:Env,E.G=C.G->E.N=N->E.k0=k->AW C E (pc cZ (@kon cZ)) (zcE8 k rs rl ms' k') ⟨zI9 0 av,ms,k⟩)
    {us ut:Nat} (hu:zcH2 F=(us,ut):=by((conv=>lhs;reduce)<;>exact rfl)) (hp:∀(Z:Nat->Nat->List A) (K:{o:Operand}->Nat->PX),TC.tr ⟨cT,cM,Z,@K⟩ hs us ut F=(pc Z @K,N,rs,np):=by(intro Z K;((conv=>lhs;reduce)<;>exact rfl))) (hchk:chkF C.P f (pc cZ (@kon cZ)) N rs np=true:=by kernel_rfl)
    (hnp:av.length=np:=by rfl) (hms:zcs2 ms=true:=by rfl) (hall:zbP9 ms k=true:=by rfl) (hrl:rl.length=rs.length:=by rfl):MFn C f av ms k (zcs0 rl) ms' k':=zcs3 hchk hnp hms hall hrl h
theorem ok1{α:Type}{m m':Option α}(u:m=m')(F:Func)(hs:List (Nat×Nat)){f:FuncId}{av:List A}{R:α->A}{pc:(Nat->Nat->List A)->({o:Operand}->Nat->PX)->PC}{N np:Nat}{rs:List RX}{us ut:Nat}(hu:zcH2 F=(us,ut):=by((conv=>lhs;reduce)<;>exact rfl))(hp:∀(Z:Nat->Nat->List A) (K:{o:Operand}->Nat->PX),TC.tr ⟨cT,cM,Z,@K⟩ hs us ut F=(pc Z @K,N,rs,np):=by(intro Z K;((conv=>lhs;reduce)<;>exact rfl)))(hchk:chkF C.P f (pc cZ (@kon cZ)) N rs np=true:=by kernel_rfl)
    (w:∀E:Env,∀r,E.G=C.G->E.k0=0->Mk m->m'=some r->AW C E (pc cZ (@kon cZ)) (Post rs (R r)) ⟨zI9 0 av,[],0⟩:=by
      (intro E r hG hK hm h;exact gogo)) (hnp:av.length=np:=by rfl):OkP m f av R:=
  ⟨λ r h=>zbK1 hchk hnp λ E hG _ hK=>w E r hG hK trivial (u▸h)⟩
theorem ok2{α:Type}(R:α->A){m m':α}(u:m=m')(F:Func)(hs:List (Nat×Nat)){f:FuncId}{av:List A}{pc:(Nat->Nat->List A)->({o:Operand}->Nat->PX)->PC}{N np:Nat}{rs:List RX}{us ut:Nat}(hu:zcH2 F=(us,ut):=by((conv=>lhs;reduce)<;>exact rfl))(hp:∀(Z:Nat->Nat->List A) (K:{o:Operand}->Nat->PX),TC.tr ⟨cT,cM,Z,@K⟩ hs us ut F=(pc Z @K,N,rs,np):=by(intro Z K;((conv=>lhs;reduce)<;>exact rfl)))(hchk:chkF C.P f (pc cZ (@kon cZ)) N rs np=true:=by kernel_rfl)
    (w:∀E:Env,∀r,E.G=C.G->E.k0=0->Mk m->m'=r->AW C E (pc cZ (@kon cZ)) (Post rs (R r)) ⟨zI9 0 av,[],0⟩:=by
      (intro E r hG hK hm h;exact gogo)) (hnp:av.length=np:=by rfl):OkT f av (R m):=
  ⟨zbK1 hchk hnp λ E hG _ hK=>w E m hG hK trivial u.symm⟩
theorem okm{α:Type}{m m':Option α}(u:m=m'){f:FuncId}{av:List A}{ms:List (Nat×Row)}{k k':Nat}(rv:α->List A){ms':α->List (Nat×Row)}(F:Func)(hs:List (Nat×Nat)){pc:(Nat->Nat->List A)->({o:Operand}->Nat->PX)->PC}{N np:Nat}{rs:List RX}{us ut:Nat}(hu:zcH2 F=(us,ut):=by((conv=>lhs;reduce)<;>exact rfl))(hp:∀(Z:Nat->Nat->List A) (K:{o:Operand}->Nat->PX),TC.tr ⟨cT,cM,Z,@K⟩ hs us ut F=(pc Z @K,N,rs,np):=by(intro Z K;((conv=>lhs;reduce)<;>exact rfl)))(hchk:chkF C.P f (pc cZ (@kon cZ)) N rs np=true:=by kernel_rfl)
    (w:∀E:Env,∀r,E.G=C.G->E.k0=k->Mk m->m'=some r->AW C E (pc cZ (@kon cZ)) (zcE8 k rs (rv r) (ms' r) k') ⟨zI9 0 av,ms,k⟩:=by
      (intro E r hG hK hm h;exact gogo))
    (hnp:av.length=np:=by rfl) (hms:zcs2 ms=true:=by rfl) (hall:zbP9 ms k=true:=by rfl) (hrl:∀r,(rv r).length=rs.length:=by(intro r;rfl)):OkM m f av ms k (λ r=>zcs0 (rv r)) ms' k':=
  ⟨λ r h=>zcs3 (rl:=rv r) hchk hnp hms hall (hrl r) λ E hG _ hK=>w E r hG hK trivial (u▸h)⟩
end
end Ab
end Go.Proofs.YtdlfhmkmnjbihaaGreatDoor
