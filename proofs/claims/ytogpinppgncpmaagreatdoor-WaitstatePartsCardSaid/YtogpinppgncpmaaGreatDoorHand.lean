import Derived.Test.YtogpinppgncpmaaGreatDoorDec
import Derived.Test.YtogpinppgncpmaaGreatDoorProg
import Derived.KernelRfl
import Derived.Test.YtogpinppgncpmaaGreatDoorAb17
import Derived.Shelf.Spec.SlicesGrow
namespace Go.Proofs.YtogpinppgncpmaaGreatDoor
namespace Ab
set_option linter.unusedVariables false
inductive TK where
 | b
 | i (k:IntKind)
 | s
 | st (fs:List (Nat×Nat))
 | ar (n e:Nat)
 | sl (e:Nat)
 | o
structure TI where
 k:TK
 n:Nat
 y:Nat
def lk {α:Type}:List (Nat×α)→Nat→α→α
 | [],_,d=>d
 | q :: r,n,d=>bif Nat.beq q.1 n then q.2 else lk r n d
structure TC where
 t:List (Nat×TI)
 m:List (Nat×Option Unit)
 z:Nat→Nat→List A
 k:{o:Operand}→Nat→PX
def TC.ty (c:TC) (t:Nat):TI:=lk c.t t ⟨.o,1,0⟩
def TC.el (c:TC) (t:Nat):Nat:=match (c.ty t).k with|.sl e=>e|.ar _ e=>e|_=>0
def TC.ag (c:TC) (t:Nat):Bool:=match (c.ty t).k with|.st _=>true|.ar _ _=>true|_=>false
def TC.lf (c:TC):Nat→Nat→List LK
 | 0,_=>[]
 | d+1,t=>match (c.ty t).k with
  | .b=>[.b]
  | .i k=>[.i k]
  | .s=>[.s]
  | .st fs=>fs.flatMap fun q=>c.lf d q.2
  | _=>[]
def TC.x (c:TC) (t:Nat) (o:Operand):PX:=match o with
 | .tmp n=>.t n
 | .const _=>c.k (o:=o) t
 | .global g=>.g g
 | .func f=>.f f
def zds3:Operand→Bool
 | .const (.slice _ _ _)=>true
 | _=>false
def TC.bo (c:TC) (op:BinOp) (t:Nat) (x y:Operand):PO×List PX:=match (c.ty t).k with
 | .sl _=>(.eqNil,[c.x t x])
 | .b=>(.eqb (match op with|.neq=>true|_=>false),[c.x t x,c.x t y])
 | .st _=>(.eqa (match op with|.neq=>true|_=>false) (c.lf 9 t),[c.x t x,c.x t y])
 | .ar _ _=>(.eqa (match op with|.neq=>true|_=>false) (c.lf 9 t),[c.x t x,c.x t y])
 | _=>(.bin op,[c.x t x,c.x t y])
def TC.args (c:TC):List Operand→List Nat→List PX
 | x :: xs,t :: ts=>c.x t x :: c.args xs ts
 | x :: xs,[]=>c.x 0 x :: c.args xs []
 | [],_=>[]
def TC.op (c:TC) (h ty:Nat):Op→PO×List PX
 | .move x=>bif zds3 x then (bif Nat.beq h 0 then (.mv,[.c (A.sl [])]) else (.nilown (c.ty (c.el ty)).n (c.z 0 (c.el ty)),[.c (A.full [])])) else (.mv,[c.x ty x])
 | .assign x=>bif zds3 x then (bif Nat.beq h 0 then (.mv,[.c (A.sl [])]) else (.nilown (c.ty (c.el ty)).n (c.z 0 (c.el ty)),[.c (A.full [])])) else (.mv,[c.x ty x])
 | .pick a x y=>(.pick,[c.x 0 a,c.x 0 x,c.x 0 y])
 | .box t x=>(.box (c.ty t).n,[c.x t x])
 | .alloc t=>(.alloc (c.ty t).n (c.z h t),[])
 | .build t ps=>(.build (c.z h t) (ps.toList.map fun p=>match (c.ty t).k with
   | .st fs=>((fs.getD p.1 (0,0)).1,(c.ty (fs.getD p.1 (0,0)).2).n)
   | _=>(p.1 * (c.ty (c.el t)).n,(c.ty (c.el t)).n)),ps.toList.map fun p=>match (c.ty t).k with
   | .st fs=>c.x (fs.getD p.1 (0,0)).2 p.2
   | _=>c.x (c.el t) p.2)
 | .buildSlice t _ ps=>(bif Nat.beq h 0 then .bslice (c.ty (c.el t)).n (c.z 0 (c.el t)) else .bown (c.ty (c.el t)).n (c.z 0 (c.el t)),ps.toList.map fun p=>c.x (c.el t) p.2)
 | .load t x=>(.load (c.ty t).n (c.ag t),[c.x 0 x])
 | .store t x y=>(.store (c.ty t).n,[c.x 0 x,c.x t y])
 | .binOp op t x y _=>c.bo op t x y
 | .unOp .neg _ x=>(.neg,[c.x 0 x])
 | .unOp _ _ x=>(.not,[c.x 0 x])
 | .convert t u x=>(match (c.ty t).k,(c.ty u).k with
  | .sl _,.s=>.cvS
  | .s,.sl _=>.cvB
  | _,.i k=>.conv k
  | _,_=>.mv,[c.x 0 x])
 | .field t x i=>(match (c.ty t).k with
  | .st fs=>.field (fs.getD i (0,0)).1 (c.ty (fs.getD i (0,0)).2).n (c.ag (fs.getD i (0,0)).2)
  | _=>.mv,[c.x 0 x])
 | .fieldAddr t x i=>(match (c.ty t).k with
  | .st fs=>.faddr (fs.getD i (0,0)).1
  | _=>.mv,[c.x 0 x])
 | .indexAddr t x i=>(match (c.ty t).k with
  | .ar n e=>.iaA n (c.ty e).n
  | _=>.iaS (c.ty (c.el t)).n (c.z 0 (c.el t)),[c.x 0 x,c.x 0 i])
 | .index t x i=>(match (c.ty t).k with
  | .ar n e=>.idxA n (c.ty e).n (c.ag e)
  | _=>.idxS,[c.x t x,c.x 0 i])
 | .slice t x l u m=>(match (c.ty t).k with
  | .s=>.slcS l.isSome u.isSome
  | _=>.slc (c.ty (c.el t)).n l.isSome u.isSome m.isSome,c.x 0 x :: (l.toList++u.toList++m.toList).map (c.x 0))
 | .extract x i=>(.ext i,[c.x 0 x])
 | .nilCheck x=>(.nilck,[c.x 0 x])
 | .makeSlice t x y=>(.mk (c.ty (c.el t)).n (c.ty (c.el t)).y (c.z 0 (c.el t)),[c.x 0 x,c.x 0 y])
 | .makeFunc (.func f) _ xs=>(.mkf f,xs.toList.map (c.x 0))
 | .call ⟨.builtin b,xs,ts⟩=>(match b,ts.toList with
  | .len,[t]=>(match (c.ty t).k with|.s=>.lenS|_=>.len)
  | .append,t :: _=>(match h with
   | 0=>.append (c.ty (c.el t)).n (c.ty (c.el t)).y (c.z 0 (c.el t))
   | 1=>.appc (c.ty (c.el t)).n (c.ty (c.el t)).y
   | _=>.apl (c.ty (c.el t)).n (c.ty (c.el t)).y)
  | .copy,t :: _=>.copy (c.ty (c.el t)).n
  | .clear,t :: _=>.clear (c.ty (c.el t)).n (c.z 0 (c.el t))
  | .min,_=>.min
  | .max,_=>.max
  | _,_=>.mv,xs.toList.map (c.x 0))
 | .call ⟨.value (.func f),xs,ts⟩=>(match lk c.m f none,h with
  | none,0=>.call f
  | none,_=>.callm f
  | some _,0=>.callm f
  | some _,_=>.call f,c.args xs.toList ts.toList)
 | .call ⟨.value x,xs,_⟩=>(match h with|0=>.callv|_=>.callvm,c.x 0 x :: xs.toList.map (c.x 0))
 | _=>(.mv,[])
def opTs:List Operand→List Nat
 | []=>[]
 | .tmp n :: r=>n :: opTs r
 | _ :: r=>opTs r
def gTs (ops:List Oper):Option (Nat×Bool)→List Nat
 | none=>[]
 | some q=>match (ops[q.1]?).bind (·.dst) with
  | some d=>[d]
  | none=>[]
def zcz9 (ops:List Oper):List Oper→List Nat
 | []=>[]
 | o :: r=>opTs o.op.operands.toList++gTs ops o.guard++zcz9 ops r
def bits:List Nat→Nat
 | []=>0
 | t :: r=>Nat.lor (Nat.shiftLeft 1 t) (bits r)
def zds4 (m:Nat) (a:Nat×Nat):Nat×Nat:=match a with
 | (s,u)=>(Nat.lor s m,Nat.lor u (Nat.land s m))
def zbF5:Code→Nat×Nat→Nat×Nat
 | .region _ ops _,a=>zds4 (bits (zcz9 ops.toList ops.toList)) a
 | .seq x y,a=>zbF5 y (zbF5 x a)
 | .cond x y z,a=>zbF5 z (zbF5 y (zds4 (bits (opTs [x])) a))
 | .block _ x,a=>zbF5 x a
 | .loop x,a=>zbF5 x a
 | .scope x,a=>zbF5 x a
 | _,a=>a
def resU:List ResultVar→List Nat
 | []=>[]
 | .tmp t :: r=>t :: resU r
 | .cell t _ :: r=>t :: resU r
def zcq0 (f:Func):Nat×Nat:=match f.body with
 | some b=>zbF5 b (0,bits (resU f.results.toList))
 | none=>(0,0)
def has (m t:Nat):Bool:=Nat.beq (Nat.land (Nat.shiftRight m t) 1) 1
def zbk1 (s u m:Nat):List Oper→List Nat
 | []=>[]
 | o :: r=>match o.dst with
  | none=>zbk1 s u m r
  | some t=>bif has u t then zbk1 s u m r else bif has m t then t :: zbk1 s u m r else bif has s t then zbk1 s u m r else t :: zbk1 s u m r
def zcA0 (s u:Nat) (ops:List Oper):List Nat:=zbk1 s u (bits (zcz9 ops ops)) ops
def PO.wr:PO→Bool
 | .nilown _ _|.box _|.alloc _ _|.bown _ _|.store _|.append _ _ _|.appc _ _|.copy _|.clear _ _|.mk _ _ _|.callm _|.callvm=>true
 | _=>false
def zds5:List Oper→Bool
 | []=>false
 | o :: r=>match o.op with
  | .panic _=>true
  | _=>zds5 r
def gOf (ops:List Oper):Option (Nat×Bool)→Option (Nat×Bool)
 | none=>none
 | some q=>some (((ops[q.1]?).bind (·.dst)).getD 0,q.2)
def TC.ops (c:TC) (hs:List (Nat×Nat)) (all:List Oper):List Oper→List POp
 | []=>[]
 | o :: r=>(match c.op (match o.dst with|some d=>lk hs d 0|none=>0) o.type o.op with
  | (p,xs)=>⟨o.dst,gOf all o.guard,p,xs⟩) :: c.ops hs all r
def wrs:List POp→Bool
 | []=>false
 | p :: r=>bif p.po.wr then true else wrs r
def TC.code (c:TC) (hs:List (Nat×Nat)) (s u:Nat):Code→PC
 | .skip=>.skip
 | .region id ops d=>bif zds5 ops.toList then .dead else
   match d with
   | false=>.reg (zcA0 s u ops.toList) (c.ops hs ops.toList ops.toList)
   | true=>bif wrs (c.ops hs ops.toList ops.toList)||(Nat.beq (lk hs (1000+id) 0) 1) then .regm (zcA0 s u ops.toList) (ancs [] (ops.toList.map zF1)) (c.ops hs ops.toList ops.toList) else .regd (zcA0 s u ops.toList) (c.ops hs ops.toList ops.toList)
 | .seq a b=>.seq (c.code hs s u a) (c.code hs s u b)
 | .cond x a b=>.cond (c.x 0 x) (c.code hs s u a) (c.code hs s u b)
 | .block i a=>.block i (c.code hs s u a)
 | .loop a=>.loop (c.code hs s u a)
 | .exit i=>.exit i
 | .scope a=>.scope (c.code hs s u a)
 | .label _=>.label
 | .ret=>.ret
 | _=>.skip
def TC.rx (c:TC):List ResultVar→List RX
 | []=>[]
 | .tmp t :: r=>.t t :: c.rx r
 | .cell t y :: r=>.c t (c.ty y).n (c.ag y) :: c.rx r
def TC.tr (c:TC) (hs:List (Nat×Nat)) (s u:Nat) (f:Func):PC×Nat×List RX×Nat :=
 (match f.body with
  | some b=>c.code hs s u b
  | none=>.skip,f.ntmps,c.rx f.results.toList,Nat.add f.params.size f.nfree)
def cst (z:Nat→Nat→List A) (t:Nat):Value→A
 | .bool b=>.bool b
 | .int k n=>.int k n
 | .string s=>.str s
 | .slice _ _ _=>.full []
 | .agg _=>.agg (z 0 t)
 | _=>.any
def kon (z:Nat→Nat→List A) {o:Operand} (t:Nat):PX:=match o with
 | .const v=>.c (cst z t v)
 | _=>.c .any
attribute [go_sem] kon cst
def zci1:Arr (Arr Bool 5) 5:=⟨[⟨[true,true,true,true,false],rfl⟩,⟨[true,true,false,false,false],rfl⟩,⟨[true,false,true,false,false],rfl⟩,⟨[true,false,false,false,false],rfl⟩,⟨[false,false,false,false,false],rfl⟩],rfl⟩
noncomputable def C:Cx:=⟨Tryz.prog,[(1,Arr.enc (Arr.enc eB) zci1)]⟩
@[go_sem] theorem C_G:C.G=[(1,Arr.enc (Arr.enc eB) zci1)]:=rfl
theorem zw6:C.P.follows .mixedOrders=true:=by kernel_rfl
def cT:List (Nat×TI):=[(0,⟨.o,1,0⟩),(3,⟨.i .i64,1,8⟩),(4,⟨.b,1,1⟩),(5,⟨.i .u8,1,1⟩),(9,⟨.s,1,16⟩),(20,⟨.o,1,16⟩),(22,⟨.sl 3,1,24⟩),(25,⟨.sl 39,1,24⟩),(26,⟨.sl 50,1,24⟩),(28,⟨.st [(0,25),(1,26)],2,48⟩),(30,⟨.o,1,8⟩),(32,⟨.st [(0,22),(1,3)],2,32⟩),(35,⟨.st [(0,9),(1,3),(2,3),(3,3)],4,40⟩),(36,⟨.sl 130,1,24⟩),(37,⟨.sl 133,1,24⟩),(39,⟨.st [(0,35),(4,36),(5,37),(6,37),(7,3)],8,120⟩),(41,⟨.st [(0,3),(1,3),(2,3)],3,24⟩),(43,⟨.st [(0,3),(1,3)],2,16⟩),(45,⟨.st [(0,9),(1,43)],3,32⟩),(46,⟨.sl 48,1,24⟩),(48,⟨.st [(0,3),(1,45),(4,46)],5,64⟩),(50,⟨.st [(0,41),(3,48),(8,3)],9,96⟩),(51,⟨.i .i64,1,8⟩),(52,⟨.o,1,0⟩),(57,⟨.sl 5,1,24⟩),(58,⟨.o,1,0⟩),(61,⟨.o,1,0⟩),(63,⟨.sl 4,1,24⟩),(66,⟨.sl 41,1,24⟩),(69,⟨.sl 120,1,24⟩),(71,⟨.st [(0,3),(1,25),(2,69)],3,56⟩),(77,⟨.o,1,8⟩),(80,⟨.o,1,8⟩),(83,⟨.o,1,8⟩),(85,⟨.o,1,8⟩),(86,⟨.o,1,8⟩),(92,⟨.o,1,8⟩),(94,⟨.st [(0,57),(1,51)],2,32⟩),(96,⟨.st [(0,94)],2,32⟩),(101,⟨.sl 45,1,24⟩),(103,⟨.o,1,0⟩),(113,⟨.sl 250,1,24⟩),(114,⟨.sl 255,1,24⟩),(116,⟨.st [(0,113),(1,114)],2,48⟩),(118,⟨.st [(0,48),(5,3),(6,3)],7,80⟩),(120,⟨.st [(0,41),(3,3),(4,116),(6,4),(7,118),(14,3),(15,3)],16,184⟩),(121,⟨.sl 35,1,24⟩),(122,⟨.sl 167,1,24⟩),(123,⟨.o,1,0⟩),(125,⟨.o,1,0⟩),(130,⟨.st [(0,41),(3,43)],5,40⟩),(133,⟨.st [(0,41),(3,43),(5,3),(6,3)],7,56⟩),(136,⟨.o,1,8⟩),(138,⟨.o,1,8⟩),(141,⟨.i .u64,1,8⟩),(144,⟨.ar 3 3,3,24⟩),(146,⟨.i .u64,1,8⟩),(148,⟨.o,1,8⟩),(152,⟨.o,1,0⟩),(159,⟨.o,1,8⟩),(167,⟨.st [(0,3),(1,41),(4,118),(11,9),(12,3)],13,136⟩),(169,⟨.o,1,0⟩),(171,⟨.sl 312,1,24⟩),(172,⟨.o,1,0⟩),(176,⟨.o,1,8⟩),(194,⟨.o,1,0⟩),(196,⟨.o,1,0⟩),(200,⟨.o,1,0⟩),(204,⟨.o,1,8⟩),(221,⟨.sl 9,1,24⟩),(224,⟨.o,1,8⟩),(227,⟨.st [(0,71),(3,171)],4,80⟩),(237,⟨.sl 37,1,24⟩),(250,⟨.st [(0,9),(1,43),(3,43)],5,48⟩),(255,⟨.st [(0,3),(1,3)],2,16⟩),(260,⟨.o,1,0⟩),(272,⟨.o,1,0⟩),(276,⟨.o,1,0⟩),(279,⟨.sl 43,1,24⟩),(289,⟨.o,1,0⟩),(294,⟨.o,1,0⟩),(301,⟨.o,1,0⟩),(303,⟨.o,1,0⟩),(305,⟨.o,1,0⟩),(307,⟨.ar 6 4,6,6⟩),(312,⟨.st [(0,3),(1,41),(4,9),(5,43)],7,64⟩),(313,⟨.o,1,0⟩),(321,⟨.ar 5 4,5,5⟩),(322,⟨.ar 5 321,25,25⟩),(326,⟨.o,1,0⟩),(328,⟨.o,1,0⟩),(330,⟨.o,1,0⟩)]
@[irreducible] def cZ:Nat→Nat→List A
 | 0,3=>[A.int .i64 0]
 | 0,4=>[A.bool false]
 | 0,5=>[A.int .u8 0]
 | 0,9=>[A.str ⟨#[]⟩]
 | 0,22=>[A.sl []]
 | 0,25=>[A.sl []]
 | 0,26=>[A.sl []]
 | 0,28=>aD.enc aD.zero
 | 0,32=>bJ.enc bJ.zero
 | 0,35=>aI.enc aI.zero
 | 0,36=>[A.sl []]
 | 0,37=>[A.sl []]
 | 0,39=>aA.enc aA.zero
 | 0,41=>aJ.enc aJ.zero
 | 0,43=>aC.enc aC.zero
 | 0,45=>aM.enc aM.zero
 | 0,46=>[A.sl []]
 | 0,48=>aO.enc aO.zero
 | 0,50=>bC.enc bC.zero
 | 0,51=>[A.int .i64 0]
 | 0,57=>[A.sl []]
 | 0,63=>[A.sl []]
 | 0,66=>[A.sl []]
 | 0,69=>[A.sl []]
 | 0,71=>aZ.enc aZ.zero
 | 0,94=>bP.enc bP.zero
 | 0,96=>aY.enc aY.zero
 | 0,101=>[A.sl []]
 | 0,113=>[A.sl []]
 | 0,114=>[A.sl []]
 | 0,116=>aX.enc aX.zero
 | 0,118=>bL.enc bL.zero
 | 0,120=>aH.enc aH.zero
 | 0,121=>[A.sl []]
 | 0,122=>[A.sl []]
 | 0,130=>aU.enc aU.zero
 | 0,133=>aT.enc aT.zero
 | 0,141=>[A.int .u64 0]
 | 0,144=>Arr.enc (eI .i64) (Arr.rep 3 0)
 | 0,146=>[A.int .u64 0]
 | 0,167=>bM.enc bM.zero
 | 0,171=>[A.sl []]
 | 0,221=>[A.sl []]
 | 0,227=>aW.enc aW.zero
 | 0,237=>[A.sl []]
 | 0,250=>bK.enc bK.zero
 | 0,255=>bR.enc bR.zero
 | 0,279=>[A.sl []]
 | 0,307=>Arr.enc eB (Arr.rep 6 false)
 | 0,312=>bI.enc bI.zero
 | 0,321=>Arr.enc eB (Arr.rep 5 false)
 | 2,28=>[.sl [],.sl []]
 | 2,116=>[.sl [],.sl []]
 | 3,101=>[.full []]
 | 4,28=>[.sl [],.full []]
 | 5,28=>[.full [],.full []]
 | 5,116=>[.full [],.full []]
 | 14,227=>[.int .i64 0,.sl [],.full [],.full []]
 | 18,48=>[.int .i64 0,.str ⟨#[]⟩,.int .i64 0,.int .i64 0,.full []]
 | 114,39=>[.str ⟨#[]⟩,.int .i64 0,.int .i64 0,.int .i64 0,.full [],.full [],.full [],.int .i64 0]
 | _,_=>[A.any]
attribute [go_sem] cZ
def cM:List (Nat×Option Unit):=[(7,some ()),(21,some ()),(28,some ()),(31,some ()),(40,some ()),(41,some ()),(42,some ()),(43,some ()),(44,some ()),(47,some ()),(48,some ()),(62,some ()),(75,some ()),(76,some ()),(77,some ()),(79,some ()),(84,some ()),(86,some ()),(87,some ()),(93,some ()),(94,some ()),(95,some ()),(99,some ()),(101,some ()),(130,some ()),(132,some ()),(133,some ()),(156,some ()),(158,some ()),(159,some ()),(169,some ()),(187,some ()),(206,some ()),(208,some ()),(209,some ()),(210,some ()),(211,some ()),(212,some ()),(213,some ()),(214,some ()),(216,some ()),(217,some ()),(242,some ()),(247,some ()),(248,some ()),(249,some ()),(251,some ()),(252,some ()),(253,some ()),(255,some ())]
set_option linter.unusedSimpArgs false
class OkP {α:Type} (m:Option α) (f:outParam FuncId) (av:outParam (List A)) (R:outParam (α→A)):Prop where
  ok:∀ r,m=some r→PFn C f av (R r)
class OkM {α:Type} (m:Option α) (f:outParam FuncId) (av:outParam (List A)) (ms:outParam (List (Nat×Row))) (k:outParam Nat) (R:outParam (α→A)) (ms':outParam (α→List (Nat×Row))) (k':outParam Nat):Prop where
  ok:∀ r,m=some r→MFn C f av ms k (R r) (ms' r) k'
class OkT (f:FuncId) (av:List A) (r:outParam A):Prop where
  ok:PFn C f av r
class OkL {α β:Type} (m:Option (α⊕β)) (f:outParam FuncId) (av:outParam (List A)) (ms:outParam (List (Nat×Row))) (k:outParam Nat) (R:outParam (α→A)) (ms':outParam (α→List (Nat×Row))) (k':outParam Nat):Prop where
  ok:∀ r,m=some (.inl r)→MFn C f av ms k (R r) (ms' r) k'
class OkR {α β:Type} (m:Option (α⊕β)) (f:outParam FuncId) (av:outParam (List A)) (ms:outParam (List (Nat×Row))) (k:outParam Nat) (R:outParam (β→A)) (ms':outParam (β→List (Nat×Row))) (k':outParam Nat):Prop where
  ok:∀ r,m=some (.inr r)→MFn C f av ms k (R r) (ms' r) k'
theorem zaR5 {T:Type} {P:T→Prop} {fr:Nat→T} (h0:P (fr 0)) (hs:∀ n,P (fr n)→P (fr (n+1))):∀ n,P (fr n)
  | 0=>h0
  | n+1=>hs n (zaR5 h0 hs n)
def Mk {α:Type} (x:α):Prop:=True
theorem mkP {α β:Type} {x:α} (hm:Mk x) (v:β):Mk (x,v):=trivial
class JS {α:Type} (x:α) (id:Nat) {γ:outParam Type} {V:outParam Type} (k k':outParam (V→γ)) (J:outParam (V→St)):Prop where
  e:∀ v,k v=k' v
class LS {α G X:Type} (x:α) (b:G→Option (G⊕X)) (b':outParam (G→Option (G⊕X))) (I:outParam (G→St)):Prop where
  e:∀ v,b v=b' v
theorem mkJ {α:Type} (x:α) (id:Nat) {γ V:Type} {k k':V→γ} (e:∀ v,k v=k' v) (J:V→St):JS x id k k' J:=⟨e⟩
theorem mkL {α G X:Type} (x:α) {b b':G→Option (G⊕X)} (e:∀ v,b v=b' v) (I:G→St):LS x b b' I:=⟨e⟩
def prA:A→A→List (Nat×Nat)
  | .ptr x _ _,.ptr y _ _=>[(y,x)]
  | .own x _ _,.own y _ _=>[(y,x)]
  | _,_=>[]
def prC:List A→List A→List (Nat×Nat)
  | a :: r,b :: s=>prA a b++prC r s
  | _,_=>[]
def prE:List (List A)→List (List A)→List (Nat×Nat)
  | a :: r,b :: s=>prC a b++prE r s
  | _,_=>[]
def prS (s:List (Nat×A)):List (Nat×A)→List (Nat×Nat)
  | []=>[]
  | q :: r=>(match look s q.1 with|some b=>prA b q.2|none=>[])++prS s r
def prM (m:List (Nat×Row)) (l:List (Nat×Nat)):List (Nat×Row)→List (Nat×Nat)
  | []=>[]
  | q :: r=>(match look l q.1 with|some x=>(match look m x with|some w=>prE w.es q.2.es|none=>[])|none=>[])++prM m l r
def ptS (s:List (Nat×A)):List (Nat×A)→List (Nat×Nat)
  | []=>[]
  | q :: r=>(match q.2,look s q.1 with|.ptr y _ _,some (.ptr x _ _)=>[(y,x)]|_,_=>[])++ptS s r
def idL:Nat→List (Nat×Nat)
  | 0=>[]
  | n+1=>idL n++[(n,n)]
def rl (k:Nat) (b:Bool) (s J:St):List (Nat×Nat):=idL k++prS s.fr J.fr++if b then prM s.mem (idL k++ptS s.fr J.fr) J.mem else []
def ptC:List A→List A→List (Nat×Nat)
  | .ptr x _ _ :: r,.ptr y _ _ :: s=>(y,x) :: ptC r s
  | _ :: r,_ :: s=>ptC r s
  | _,_=>[]
def cl (b:Bool) (vals av:List A) (m ms:List (Nat×Row)):List (Nat×Nat):=prC vals av++if b then prM m (ptC vals av) ms else []
theorem lv {p:Prop} (w:p:=by
  (simp only [go_sem,↓reduceIte,reduceCtorEq,Nat.reduceEqDiff,Nat.reduceAdd,Nat.reduceSub,Nat.reduceMul,Nat.reduceLeDiff,Nat.reduceLT,Int.reduceLE,Int.reduceLT,Int.reduceToNat,Int.reduceNeg]
   first
   | (done)
   | trivial
   | (simp; done)
   | ((repeat' (first|rfl|trivial|omega|(simp; done)|(simp; omega)|(congr 1; omega)|(congr 1; simp only [bX,dB,eC,gI]; omega)|apply And.intro)) <;> fail))):p:=w
section
variable {E:Env} {Q:Exit→St→Prop} {st:St} {q:Prop}
theorem isAW {c:PC} (h:AW C E c Q st):AW C E c Q st:=h
theorem zcZ8 {f:FuncId} {d:Option Nat} {g:Option (Nat×Bool)} {gv:Bool} {ob:Prop} {args:List A} {rw:List (Nat×MS)} {ps:List POp} {st:St} {K:St→Prop} (h:zbF3 C f d g gv ob args rw ps st K):zbF3 C f d g gv ob args rw ps st K:=h
theorem zcI3 {f:FuncId} {d:Option Nat} {g:Option (Nat×Bool)} {gv:Bool} {ob:Prop} {args:List A} {rw:List (Nat×MS)} {ps:List POp} {st:St} {K:St→Prop} (h:zbf3 C f d g gv ob args rw ps st K):zbf3 C f d g gv ob args rw ps st K:=h
theorem zax0 {α γ V:Type} {x:α} {id:Nat} {k k':V→γ} {J:V→St} {R:γ} {c:PC} {m:γ} (hm:Mk x) (h:m=R) [i:JS x id k k' J]
    (hk:∀ v,Mk (k v)→k' v=R→Q .normal (J v)) (hb:AW C E c (BlkJ E id J (fun v=>k v=R) Q) st):AW C E (.block id c) Q st :=
  zB6 J _ (fun v e=>hk v trivial (by rw [← i.e]; exact e)) hb
theorem zdo2 {α γ V:Type} {z:α} {k k':V→γ} {J:V→St} {x:PX} {p q:PC} {b c:Bool} {X Y r:γ} (hm:Mk z) (hx:xv C.G st.slot x=.bool b) (hG:E.G=C.G) (h:(if c=true then X else Y)=r) [i:JS z 999 k k' J]
    (hk:∀ v,Mk (k v)→k' v=r→Q .normal (J v)) (ht:b=true→X=r→AW C E p (zbn6 E J (fun v=>k v=r) Q) st) (hf:b=false→Y=r→AW C E q (zbn6 E J (fun v=>k v=r) Q) st) (e:b=c:=by first|rfl|(simp; done)|grind):AW C E (.cond x p q) Q st :=
  zaP1 J _ hx hG h (fun v e=>hk v trivial (by rw [← i.e]; exact e)) ht hf e
theorem zcZ9 {α:Type} {x:α} {c:PC} {G X β:Type} {body body':G→Option (G⊕X)} {I:G→St} {g0:G} {kk:X→Option β} {r:β} {k:Nat} {l:List (Nat×Nat)} (hm:Mk x) (hK:E.k0=k) (h:(zc0 body g0).bind kk=some r) [i:LS x body body' I]
    (hb:∀ g y,Mk (body g)→(∀ x',y=.inr x'→Mk x∧kk x'=some r)→body' g=some y→AW C E c (zbF4 E I y Q) (I g))
    (b:Bool) (hl:rl k b st (I g0)=l:=by ((conv=>lhs; reduce) <;> exact rfl))
    (hle:Le l st (I g0)∧zaE2 k l (I g0).nx=true:=by exact lv):AW C E (.loop c) Q st:=by
  obtain ⟨x,hx,hk⟩:=zc9 h
  refine zch4 I hK _ hx hle fun g y hy hz=>hb g y trivial (fun x' e=>⟨hm,?_⟩) (by rw [← i.e]; exact hy)
  rw [hz x' e]; exact hk
theorem zdo3 {α:Type} {x:α} {c:PC} {G X β:Type} {body body':G→Option (G⊕X)} {I:G→St} {g0:G} {kk:X→Option β} {r:β} {k:Nat} (hm:Mk x) (hK:E.k0=k) (l:List (Nat×Nat)) (h:(zc0 body g0).bind kk=some r) [i:LS x body body' I]
    (hb:∀ g y,Mk (body g)→(∀ x',y=.inr x'→Mk x∧kk x'=some r)→body' g=some y→AW C E c (zbF4 E I y Q) (I g))
    (hle:Le l st (I g0)∧zaE2 k l (I g0).nx=true:=by exact lv):AW C E (.loop c) Q st:=by
  obtain ⟨x,hx,hk⟩:=zc9 h
  refine zch4 I hK l hx hle fun g y hy hz=>hb g y trivial (fun x' e=>⟨hm,?_⟩) (by rw [← i.e]; exact hy)
  rw [hz x' e]; exact hk
theorem zda0 {V γ:Type} {J:V→St} {k:V→γ} {R:γ} {s:St} {n:Nat} {v:V} {l:List (Nat×Nat)} (hK:E.k0=n) (h:k v=R)
    (b:Bool) (hl:rl n b s (J v)=l:=by ((conv=>lhs; reduce) <;> exact rfl))
    (hle:Le l s (J v)∧zaE2 n l (J v).nx=true:=by exact lv):zaS8 E J (fun v=>k v=R) s:=zcp1 hK v h _ hle
theorem zda1 {G X:Type} {I:G→St} {g':G} {y:G⊕X} {s:St} {k:Nat} {l:List (Nat×Nat)} (hK:E.k0=k) (h:some (.inl g')=some y)
    (b:Bool) (hl:rl k b s (I g')=l:=by ((conv=>lhs; reduce) <;> exact rfl))
    (hle:Le l s (I g')∧zaE2 k l (I g').nx=true:=by exact lv):zcp2 E I y s:=by
  cases h; exact zcp3 hK _ hle
theorem zdD2 {G X β:Type} {M:Prop} {y:G⊕X} {x:X} {kk:X→Option β} {R:Option β} (kx:∀ x',y=.inr x'→M∧kk x'=R) (h:some (.inr x)=some y):M∧kk x=R:=kx x (dU h).symm
theorem zci2 {α:Type} {x r:α} {k:Nat} {st:St} {rs:List RX} {rv:List A} {ms':List (Nat×Row)} {k':Nat} {l:List (Nat×Nat)} (b:Bool) (h:some x=some r)
    (hl:rl k b ⟨zI8 0 (resL st rs),st.mem,st.nx⟩ ⟨zI8 0 rv,ms',k'⟩=l:=by ((conv=>lhs; reduce) <;> exact rfl))
    (e:x=r→zbE2 st rs∧zbM8 rv=true∧Le l ⟨zI8 0 (resL st rs),st.mem,st.nx⟩ ⟨zI8 0 rv,ms',k'⟩∧zaE2 k l k'=true:=by (intro e; subst e; exact lv)):zaX0 k st rs rv ms' k':=by
  obtain ⟨h1,h2,h3,h4⟩:=e (dU h)
  exact ⟨h1,h2,l,h3,h4⟩
theorem zda2 {k:Nat} {st:St} {rs:List RX} {rv:List A} {ms':List (Nat×Row)} {k':Nat} (h:zaX0 k st rs rv ms' k'):zaX0 k st rs rv ms' k':=h
theorem zcI4 {an:List (List Nat)} {f:FuncId} {d:Option Nat} {g:Option (Nat×Bool)} {gv:Bool} {ob:Prop} {args:List A} {rw:List (Nat×MS)} {ids:List Nat} {cok:Bool} {ps:List POp} {st:St} {log:List (List Nat×List Nat)} {K:St→Prop} (h:zbf4 C an f d g gv ob args rw ids cok ps st log K):zbf4 C an f d g gv ob args rw ids cok ps st log K:=h
theorem zcI5 {f:FuncId} {d:Option Nat} {g:Option (Nat×Bool)} {gv:Bool} {ob:Prop} {vals:List A} {ps:List POp} {st:St} {K:St→Prop} (h:zap9 C f d g gv ob vals ps st K):zap9 C f d g gv ob vals ps st K:=h
theorem zcq1 {an:List (List Nat)} {f:FuncId} {d:Option Nat} {g:Option (Nat×Bool)} {gv:Bool} {ob:Prop} {vals:List A} {vi:List Nat} {cok:Bool} {ps:List POp} {st:St} {log:List (List Nat×List Nat)} {K:St→Prop} (h:zaI7 C an f d g gv ob vals vi cok ps st log K):zaI7 C an f d g gv ob vals vi cok ps st log K:=h
theorem zar6 {f:FuncId} {d:Option Nat} {ob:Prop} {vals:List A} {ps:List POp} {st:St} {K:St→Prop} {l nl:List (Nat×Nat)} {ids:List Nat} {av:List A} {ms ms':List (Nat×Row)} {k k':Nat} {r:A} (b:Bool)
    (hf:MFn C f av ms k r ms' k') (h:q) (hl:cl b vals av st.mem ms=l:=by ((conv=>lhs; reduce) <;> exact rfl)) (hnl:newL k st.nx (k' - k)=nl:=by ((conv=>lhs; reduce) <;> exact rfl)) (hids:ms.map (·.1)++(List.range (k' - k)).map (k+·)=ids:=by ((conv=>lhs; reduce) <;> exact rfl))
    (e:Imp q (arun C ps (st.app d (renR (l++nl) r) (zT2 st.m (fzM vals av)++zag1 (l++nl) ms' ids)) K):=by exact im)
    (hok:okM st.m st.nx l vals av ms k k':=by exact lv) (ho:ob:=by trivial) (hr:zbf1 r=true:=by rfl):zap9 C f d none true ob vals ps st K :=
  zs2 l nl ids hf hnl hids h e hok ho hr
theorem zaq6 {an:List (List Nat)} {f:FuncId} {d:Option Nat} {ob:Prop} {vals:List A} {vi:List Nat} {cok:Bool} {ps:List POp} {st:St} {log:List (List Nat×List Nat)} {K:St→Prop} {l nl:List (Nat×Nat)} {ids:List Nat} {av:List A} {ms ms':List (Nat×Row)} {k k':Nat} {r:A} (b:Bool)
    (hf:MFn C f av ms k r ms' k') (h:q) (hl:cl b vals av st.mem ms=l:=by ((conv=>lhs; reduce) <;> exact rfl)) (hnl:newL k st.nx (k' - k)=nl:=by ((conv=>lhs; reduce) <;> exact rfl)) (hids:ms.map (·.1)++(List.range (k' - k)).map (k+·)=ids:=by ((conv=>lhs; reduce) <;> exact rfl))
    (e:Imp q (zba7 (an.getD log.length []) 0 log vi ((zT2 st.m (fzM vals av)++zag1 (l++nl) ms' ids).map (·.1))=true∧cok=true∧zaz7 C an ps (st.app d (renR (l++nl) r) (zT2 st.m (fzM vals av)++zag1 (l++nl) ms' ids)) (log++[(vi,(zT2 st.m (fzM vals av)++zag1 (l++nl) ms' ids).map (·.1))]) K):=by exact im)
    (hok:okM st.m st.nx l vals av ms k k':=by exact lv) (ho:ob:=by trivial) (hr:zbf1 r=true:=by rfl):zaI7 C an f d none true ob vals vi cok ps st log K :=
  zbO6 l nl ids hf hnl hids h e hok ho hr
theorem gogo {p:Prop} (w:p:=by
      (skip
       repeat' first
        | (with_reducible refine isAW ?_
           first
           | (with_reducible obtain ⟨_,h⟩:=zd5 h)
           | (with_reducible obtain ⟨hm,h⟩:=zdD2 kx h
              clear kx
              try dsimp only at h)
           | refine za2 ?_
           | refine zj2 ?_
           | refine zH3 ?_
           | refine zt2 ?_
           | refine za3 hG ?_
           | refine zaX8 zw6 hG ?_
           | refine zad1 zw6 hG ?_
           | (refine zdo2 hm rfl hG h (fun v hm h=>?_) (fun _ h=>?_) (fun _ h=>?_)
              focus (try refine g_st ?_))
           | (refine zl0 rfl hG h (fun _ h=>?_) (fun _ h=>?_))
           | refine zbj9 rfl hG ?_
           | refine zch9 rfl hG ?_
           | (refine zax0 hm h (fun v hm h=>?_) ?_
              focus (try refine g_st ?_))
           | refine zB5 ?_
           | (refine zcZ9 hm hK h (fun g y hm kx h=>?_) false; try refine g_st ?_)
           | (refine zcZ9 hm hK h (fun g y hm kx h=>?_) true; try refine g_st ?_))
        | (with_reducible refine zcZ8 ?_
           first
           | (refine zq4 (fun _=>OkT.ok) ?_)
           | (obtain ⟨v,hv,h⟩:=zc9 h
              have hm:=mkP hm v
              repeat (with_reducible obtain ⟨_,h⟩:=zd5 h)
              first
              | refine zq4 (fun _=>OkP.ok _ hv) ?_
              | refine zq4 (fun hg=>OkP.ok _ (zaH9 hg hv)) ?_
              | refine zq4 (fun _=>PFn.unfull (OkP.ok _ hv)) ?_
              | refine zq4 (fun _=>hrc _ _ hv) ?_
              | refine zq4 (fun _=>hrc _ _ _ hv) ?_
              | refine zq4 (fun _=>hrc _ _ _ _ hv) ?_
              | refine zq4 (fun _=>hrc _ _ _ _ _ hv) ?_))
        | (with_reducible refine zcI3 ?_
           first
           | (refine zan4 (fun _=>OkT.ok) ?_)
           | (obtain ⟨v,hv,h⟩:=zc9 h
              have hm:=mkP hm v
              repeat (with_reducible obtain ⟨_,h⟩:=zd5 h)
              first
              | refine zan4 (fun _=>OkP.ok _ hv) ?_
              | refine zan4 (fun hg=>OkP.ok _ (zaH9 hg hv)) ?_
              | refine zan4 (fun _=>PFn.unfull (OkP.ok _ hv)) ?_
              | refine zan4 (fun _=>hrc _ _ hv) ?_
              | refine zan4 (fun _=>hrc _ _ _ hv) ?_
              | refine zan4 (fun _=>hrc _ _ _ _ hv) ?_
              | refine zan4 (fun _=>hrc _ _ _ _ _ hv) ?_))
        | (with_reducible refine zcI4 ?_
           first
           | (refine zaa0 (fun _=>OkT.ok) ?_)
           | (obtain ⟨v,hv,h⟩:=zc9 h
              have hm:=mkP hm v
              repeat (with_reducible obtain ⟨_,h⟩:=zd5 h)
              first
              | refine zaa0 (fun _=>OkP.ok _ hv) ?_
              | refine zaa0 (fun hg=>OkP.ok _ (zaH9 hg hv)) ?_
              | refine zaa0 (fun _=>hrc _ _ hv) ?_
              | refine zaa0 (fun _=>hrc _ _ _ hv) ?_
              | refine zaa0 (fun _=>hrc _ _ _ _ hv) ?_
              | refine zaa0 (fun _=>hrc _ _ _ _ _ hv) ?_))
        | (with_reducible refine zcI5 ?_
           obtain ⟨v,hv,h⟩:=zc9 h
           have hm:=mkP hm v
           repeat (with_reducible obtain ⟨_,h⟩:=zd5 h)
           first
           | refine zar6 false (OkM.ok _ hv) ?_
           | refine zar6 true (OkM.ok _ hv) ?_
           | refine zar6 false (hrc _ _ hv) ?_
           | refine zar6 true (hrc _ _ hv) ?_
           | refine zar6 false (hrc _ _ _ hv) ?_
           | refine zar6 true (hrc _ _ _ hv) ?_
           | refine zar6 false (hrc _ _ _ _ hv) ?_
           | refine zar6 true (hrc _ _ _ _ hv) ?_
           | refine zar6 false (hrc _ _ _ _ _ hv) ?_
           | refine zar6 true (hrc _ _ _ _ _ hv) ?_
           | (rcases v with v|v
              all_goals dsimp only at h
              all_goals first
              | refine zar6 false (OkL.ok _ hv) ?_
              | refine zar6 false (OkR.ok _ hv) ?_))
        | (with_reducible refine zcq1 ?_
           obtain ⟨v,hv,h⟩:=zc9 h
           have hm:=mkP hm v
           repeat (with_reducible obtain ⟨_,h⟩:=zd5 h)
           first
           | refine zaq6 false (OkM.ok _ hv) ?_
           | refine zaq6 true (OkM.ok _ hv) ?_
           | refine zaq6 false (hrc _ _ hv) ?_
           | refine zaq6 true (hrc _ _ hv) ?_
           | refine zaq6 false (hrc _ _ _ hv) ?_
           | refine zaq6 true (hrc _ _ _ hv) ?_
           | refine zaq6 false (hrc _ _ _ _ hv) ?_
           | refine zaq6 true (hrc _ _ _ _ hv) ?_
           | refine zaq6 false (hrc _ _ _ _ _ hv) ?_
           | refine zaq6 true (hrc _ _ _ _ _ hv) ?_)
        | (with_reducible refine zda2 ?_
           first
           | exact zci2 false h
           | exact zci2 true h
           | exact zci2 false (zci0 h)
           | exact zci2 false (zbk0 h)
           | (cases h; done))
        | exact zda1 hK h false
        | exact zda0 hK h false
        | exact zda1 hK h true
        | exact zda0 hK h true
        | (fail_if_success (with_reducible refine isAW ?_)
           fail_if_success (with_reducible refine zcZ8 ?_)
           fail_if_success (with_reducible refine zcI3 ?_)
           fail_if_success (with_reducible refine zcI4 ?_)
           fail_if_success (with_reducible refine zcI5 ?_)
           fail_if_success (with_reducible refine zcq1 ?_)
           fail_if_success (with_reducible refine zda2 ?_)
           fail_if_success (with_reducible refine isJoin ?_)
           fail_if_success (with_reducible refine isNext ?_)
           first
           | exact zI9 h
           | exact zdv2 h))):p:=w
theorem zad2 (F:Func) (hs:List (Nat×Nat)) {f:FuncId} {av:List A} {r:A} {pc:(Nat→Nat→List A)→({o:Operand}→Nat→PX)→PC} {N np:Nat} {rs:List RX}
    (h:∀ E:Env,E.G=C.G→E.N=N→E.k0=0→AW C E (pc cZ (@kon cZ)) (Post rs r) ⟨zI8 0 av,[],0⟩)
    {us ut:Nat} (hu:zcq0 F=(us,ut):=by ((conv=>lhs; reduce) <;> exact rfl)) (hp:∀ (Z:Nat→Nat→List A) (K:{o:Operand}→Nat→PX),TC.tr ⟨cT,cM,Z,@K⟩ hs us ut F=(pc Z @K,N,rs,np):=by (intro Z K; ((conv=>lhs; reduce) <;> exact rfl))) (hchk:chkF C.P f (pc cZ (@kon cZ)) N rs np=true:=by kernel_rfl) (hnp:av.length=np:=by rfl):PFn C f av r:=zbz2 hchk hnp h
theorem zaz8 (F:Func) (hs:List (Nat×Nat)) {f:FuncId} {av:List A} {ms ms':List (Nat×Row)} {k k':Nat} (rl:List A) {pc:(Nat→Nat→List A)→({o:Operand}→Nat→PX)→PC} {N np:Nat} {rs:List RX}
    (h:∀ E:Env,E.G=C.G→E.N=N→E.k0=k→AW C E (pc cZ (@kon cZ)) (zcn7 k rs rl ms' k') ⟨zI8 0 av,ms,k⟩)
    {us ut:Nat} (hu:zcq0 F=(us,ut):=by ((conv=>lhs; reduce) <;> exact rfl)) (hp:∀ (Z:Nat→Nat→List A) (K:{o:Operand}→Nat→PX),TC.tr ⟨cT,cM,Z,@K⟩ hs us ut F=(pc Z @K,N,rs,np):=by (intro Z K; ((conv=>lhs; reduce) <;> exact rfl))) (hchk:chkF C.P f (pc cZ (@kon cZ)) N rs np=true:=by kernel_rfl)
    (hnp:av.length=np:=by rfl) (hms:zcb7 ms=true:=by rfl) (hall:zbD9 ms k=true:=by rfl) (hrl:rl.length=rs.length:=by rfl):MFn C f av ms k (zcb5 rl) ms' k':=zcb8 hchk hnp hms hall hrl h
theorem ok1 {α:Type} {m m':Option α} (u:m=m') (F:Func) (hs:List (Nat×Nat)) {f:FuncId} {av:List A} {R:α→A} {pc:(Nat→Nat→List A)→({o:Operand}→Nat→PX)→PC} {N np:Nat} {rs:List RX} {us ut:Nat} (hu:zcq0 F=(us,ut):=by ((conv=>lhs; reduce) <;> exact rfl)) (hp:∀ (Z:Nat→Nat→List A) (K:{o:Operand}→Nat→PX),TC.tr ⟨cT,cM,Z,@K⟩ hs us ut F=(pc Z @K,N,rs,np):=by (intro Z K; ((conv=>lhs; reduce) <;> exact rfl))) (hchk:chkF C.P f (pc cZ (@kon cZ)) N rs np=true:=by kernel_rfl)
    (w:∀ E:Env,∀ r,E.G=C.G→E.k0=0→Mk m→m'=some r→AW C E (pc cZ (@kon cZ)) (Post rs (R r)) ⟨zI8 0 av,[],0⟩:=by
      (intro E r hG hK hm h; exact gogo)) (hnp:av.length=np:=by rfl):OkP m f av R :=
  ⟨fun r h=>zbz2 hchk hnp fun E hG _ hK=>w E r hG hK trivial (u ▸ h)⟩
theorem ok2 {α:Type} (R:α→A) {m m':α} (u:m=m') (F:Func) (hs:List (Nat×Nat)) {f:FuncId} {av:List A} {pc:(Nat→Nat→List A)→({o:Operand}→Nat→PX)→PC} {N np:Nat} {rs:List RX} {us ut:Nat} (hu:zcq0 F=(us,ut):=by ((conv=>lhs; reduce) <;> exact rfl)) (hp:∀ (Z:Nat→Nat→List A) (K:{o:Operand}→Nat→PX),TC.tr ⟨cT,cM,Z,@K⟩ hs us ut F=(pc Z @K,N,rs,np):=by (intro Z K; ((conv=>lhs; reduce) <;> exact rfl))) (hchk:chkF C.P f (pc cZ (@kon cZ)) N rs np=true:=by kernel_rfl)
    (w:∀ E:Env,∀ r,E.G=C.G→E.k0=0→Mk m→m'=r→AW C E (pc cZ (@kon cZ)) (Post rs (R r)) ⟨zI8 0 av,[],0⟩:=by
      (intro E r hG hK hm h; exact gogo)) (hnp:av.length=np:=by rfl):OkT f av (R m) :=
  ⟨zbz2 hchk hnp fun E hG _ hK=>w E m hG hK trivial u.symm⟩
theorem okm {α:Type} {m m':Option α} (u:m=m') {f:FuncId} {av:List A} {ms:List (Nat×Row)} {k k':Nat} (rv:α→List A) {ms':α→List (Nat×Row)} (F:Func) (hs:List (Nat×Nat)) {pc:(Nat→Nat→List A)→({o:Operand}→Nat→PX)→PC} {N np:Nat} {rs:List RX} {us ut:Nat} (hu:zcq0 F=(us,ut):=by ((conv=>lhs; reduce) <;> exact rfl)) (hp:∀ (Z:Nat→Nat→List A) (K:{o:Operand}→Nat→PX),TC.tr ⟨cT,cM,Z,@K⟩ hs us ut F=(pc Z @K,N,rs,np):=by (intro Z K; ((conv=>lhs; reduce) <;> exact rfl))) (hchk:chkF C.P f (pc cZ (@kon cZ)) N rs np=true:=by kernel_rfl)
    (w:∀ E:Env,∀ r,E.G=C.G→E.k0=k→Mk m→m'=some r→AW C E (pc cZ (@kon cZ)) (zcn7 k rs (rv r) (ms' r) k') ⟨zI8 0 av,ms,k⟩:=by
      (intro E r hG hK hm h; exact gogo))
    (hnp:av.length=np:=by rfl) (hms:zcb7 ms=true:=by rfl) (hall:zbD9 ms k=true:=by rfl) (hrl:∀ r,(rv r).length=rs.length:=by (intro r; rfl)):OkM m f av ms k (fun r=>zcb5 (rv r)) ms' k' :=
  ⟨fun r h=>zcb8 (rl:=rv r) hchk hnp hms hall (hrl r) fun E hG _ hK=>w E r hG hK trivial (u ▸ h)⟩
end
open Go.Shelf
theorem zdD3 (r:Row):(⟨[],[(0,r)],1⟩:St).m=setM (⟨[],[],0⟩:St).m [(0,.row r)]:=by
 funext x
 by_cases h:x=0
 ·subst h; simp [St.m,setM,look]
 ·simp [St.m,setM,look,h,Nat.one_le_iff_ne_zero]
theorem zda3 {w:World} {W:Nat→Prop} {μ:Nat→Loc} {v:Value} (h:RepV w W μ v (.full [])):∃ a,v=.slice a 0 0:=by
 have h':RepC w W v (.full []):=h
 cases h' with
 | full a n es h1 =>
  cases h1 with
  | sl0=>exact ⟨_,rfl⟩
  | sl b off cap sz es us hb hlt hn=>simp at hn
def zda4 (P:Program) (t:TypeId) (sz:Nat):Bool :=
 match P.info? t with
 | some i=>i.size == sz&&decide (0 < sz)&&(match i.zero with|some z=>z.cells.size == sz|none=>false)&&decide (4294967296 * i.bytes≤140737488355328)
 | none=>false
theorem zda5 {C:Cx} {ρ:Ren} (L:Lays8.n4 C.P ρ) {sz:Nat} (hok:zda4 C.P (ρ.t 25) sz=true)
  {f:FuncId} (hf:ρ.f 4=f) (zz:List A) (a0:Int) (h0:0≤a0) (h1:a0≤4294967296):MFn C f [.full [],.int .i64 a0] [] 0 (.own 0 0 0) [(0,⟨false,sz,zz,[]⟩)] 1:=by
 subst hf
 obtain ⟨i0,z,hi0,hz0,hsz,hpos,hzs,hby⟩:∃ i0 z,C.P.info? (ρ.t 25)=some i0∧i0.zero=some z∧i0.size=sz∧0 < sz∧z.cells.size=sz∧4294967296 * i0.bytes≤140737488355328:=by
  unfold zda4 at hok
  split at hok
  ·rename_i i hi
   split at hok
   ·rename_i z hz
    simp only [bT,dG,bY] at hok
    obtain ⟨⟨⟨h1,h2⟩,h3⟩,h4⟩:=hok
    exact ⟨i,z,hi,hz,h1,h2,h3,h4⟩
   ·simp at hok
  ·simp at hok
 subst hsz
 intro w W μ vs hG hW hl hv hm hi
 obtain ⟨v0,v1,rfl⟩:∃ v0 v1,vs=[v0,v1]:=by
  match vs,hl with
  | [a,b],_=>exact ⟨a,b,rfl⟩
 obtain ⟨ad,rfl⟩:=zda3 (hv 0 v0 (.full []) rfl rfl)
 have r1:RepC w W v1 (.int .i64 a0):=hv 1 v1 (.int .i64 a0) rfl rfl
 cases r1
 obtain ⟨n,rfl⟩:∃ n:Nat,a0=n:=⟨a0.toNat,by omega⟩
 have hid:(⟨[],[],0⟩:St).m 0=.fresh:=by simp [St.m]
 rw [zdD3]
 by_cases hn:n=0
 ·subst hn
  refine (Any8.slices_Grow_room L ad 0 0 0 w (dD _) (by omega) (by omega) (by omega)).mono fun e w' ⟨he,hw⟩=>?_
  subst hw
  exact ⟨_,W,_,he,Step.newEmpty hm hi hW hid hpos rfl (Keeps.refl _ _),zaR2 (by simp) 0⟩
 ·refine (Any8.slices_Grow_grow L i0 z hi0 hz0 hpos ad 0 0 n [] w (dD _) (by omega) ?_ (by omega) (by simp) (fun _=>rfl) (fun a _ j v h=>by simp at h)).mono fun e w' ⟨he,hw⟩=>?_
  ·simp only [dR]
   exact eA (dF _ (by omega)) hby
  have hc1:grownCap w (0+n) 0 (ρ.t 25)≤maxLen:=grownCap_le_maxLen w (0+n) 0 (ρ.t 25) (by simp only [maxLen]; omega)
  generalize hc:grownCap w (0+n) 0 (ρ.t 25)=c at *
  have hc0:0+n≤c:=by rw [← hc]; exact grownCap_ge _ _ _ _
  obtain ⟨R,hR⟩:∃ R:List Value,(([]:List Value).toArray++Builtin.zeroCells z.cells (0+n - 0)++Builtin.zeroCells z.cells (c - (0+n)))=R.toArray:=⟨_,Array.toArray_toList.symm⟩
  have hRl:R.length=c * i0.size:=by
   have:(R.toArray).size=c * i0.size:=by
    rw [← hR]
    simp only [Array.size_append,size_zeroCells,hzs,dR,gW,List.length_nil]
    rw [← dM]; congr 1; omega
   simpa using this
  rw [hR] at hw
  subst hw
  have hst:=Step.new (w':=w.drew.alloc (.cells (([]:List Value)++R).toArray (ρ.t 25))) hm hi hW hid (r:=⟨false,i0.size,zz,[]⟩) (us:=[]) (rest:=R) (e:=ρ.t 25) hpos (zad0 _ _)
   ⟨by simp,fun i c h=>by simp at h,fun i c j a h=>by simp at h⟩ (by simpa using heap_alloc_new w.drew _)
  refine ⟨_,_,_,he,hst,?_⟩
  have:=zas7 (w:=w.drew.alloc (.cells (([]:List Value)++R).toArray (ρ.t 25))) (W:=fun b=>W b∨b=w.heap.size)
   (μ:=fun x=>if x=0 then Loc.at_ ⟨w.heap.size,i0.size,([]:List Value).length+R.length⟩ else μ x) (x:=0) (lo:=0) (n:=0) (cap:=c)
   (k:=⟨w.heap.size,i0.size,([]:List Value).length+R.length⟩) (by simp) (by simp [hRl]) (fP _) (by omega)
  simpa using this
end Ab
end Go.Proofs.YtogpinppgncpmaaGreatDoor
