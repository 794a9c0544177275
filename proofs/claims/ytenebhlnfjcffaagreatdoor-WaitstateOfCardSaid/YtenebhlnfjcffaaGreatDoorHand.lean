import Derived.Test.YtenebhlnfjcffaaGreatDoorDec
import Derived.Test.YtenebhlnfjcffaaGreatDoorProg
import Derived.KernelRfl
import Derived.Test.YtenebhlnfjcffaaGreatDoorAb16
import Derived.Shelf.Spec.SlicesGrow
namespace Go.Proofs.YtenebhlnfjcffaaGreatDoor
namespace Ab
set_option linter.unusedVariables false
inductive TK where
 | b
 | i (k:IntKind)
 | s
 | st (fs:List (Nat×Nat))
 | ar (n e:Nat)
 | sl (e:Nat)
 | mp (k e:Nat)
 | o
structure TI where
 k:TK
 n:Nat
 y:Nat
def lk {α:Type}:List (Nat×α)→Nat→α→α
 | [],_,d=>d
 | q :: r,n,d=>bif Nat.beq q.1 n then q.2 else lk r n d
structure TC where
 t:List (Nat×TI)
 m:List (Nat×Option Unit)
 z:Nat→Nat→List A
 k:{o:Operand}→Nat→PX
def TC.ty (c:TC) (t:Nat):TI:=lk c.t t ⟨.o,1,0⟩
def TC.el (c:TC) (t:Nat):Nat:=match (c.ty t).k with|.sl e=>e|.ar _ e=>e|_=>0
def TC.ag (c:TC) (t:Nat):Bool:=match (c.ty t).k with|.st _=>true|.ar _ _=>true|_=>false
def TC.kz (c:TC) (t:Nat):A:=match (c.ty t).k with|.mp k _=>(c.z 0 k).headD .any|_=>.any
def TC.me (c:TC) (t:Nat):Nat:=match (c.ty t).k with|.mp _ e=>e|_=>0
def TC.mt (c:TC) (t:Nat):Nat:=match (c.ty t).k with|.mp k _=>k|_=>0
def TC.md (c:TC) (t:Nat):List A:=c.kz t :: c.z 0 (c.me t)
def TC.lf (c:TC):Nat→Nat→List LK
 | 0,_=>[]
 | d+1,t=>match (c.ty t).k with
  | .b=>[.b]
  | .i k=>[.i k]
  | .s=>[.s]
  | .st fs=>fs.flatMap fun q=>c.lf d q.2
  | _=>[]
def TC.x (c:TC) (t:Nat) (o:Operand):PX:=match o with
 | .tmp n=>.t n
 | .const _=>c.k (o:=o) t
 | .global g=>.g g
 | .func f=>.f f
def zcO9:Operand→Bool
 | .const (.slice _ _ _)=>true
 | _=>false
def TC.bo (c:TC) (op:BinOp) (t:Nat) (x y:Operand):PO×List PX:=match (c.ty t).k with
 | .sl _=>(.eqNil,[c.x t x])
 | .b=>(.eqb (match op with|.neq=>true|_=>false),[c.x t x,c.x t y])
 | .st _=>(.eqa (match op with|.neq=>true|_=>false) (c.lf 9 t),[c.x t x,c.x t y])
 | .ar _ _=>(.eqa (match op with|.neq=>true|_=>false) (c.lf 9 t),[c.x t x,c.x t y])
 | _=>(.bin op,[c.x t x,c.x t y])
def TC.args (c:TC):List Operand→List Nat→List PX
 | x :: xs,t :: ts=>c.x t x :: c.args xs ts
 | x :: xs,[]=>c.x 0 x :: c.args xs []
 | [],_=>[]
def TC.op (c:TC) (h ty:Nat):Op→PO×List PX
 | .move x=>bif zcO9 x then (bif Nat.beq h 0 then (.mv,[.c (A.sl [])]) else (.nilown (c.ty (c.el ty)).n (c.z 0 (c.el ty)),[.c (A.full [])])) else (.mv,[c.x ty x])
 | .assign x=>bif zcO9 x then (bif Nat.beq h 0 then (.mv,[.c (A.sl [])]) else (.nilown (c.ty (c.el ty)).n (c.z 0 (c.el ty)),[.c (A.full [])])) else (.mv,[c.x ty x])
 | .pick a x y=>(.pick,[c.x 0 a,c.x 0 x,c.x 0 y])
 | .box t x=>(.box (c.ty t).n,[c.x t x])
 | .alloc t=>(.alloc (c.ty t).n (c.z h t),[])
 | .build t ps=>(.build (c.z h t) (ps.toList.map fun p=>match (c.ty t).k with
   | .st fs=>((fs.getD p.1 (0,0)).1,(c.ty (fs.getD p.1 (0,0)).2).n)
   | _=>(p.1 * (c.ty (c.el t)).n,(c.ty (c.el t)).n)),ps.toList.map fun p=>match (c.ty t).k with
   | .st fs=>c.x (fs.getD p.1 (0,0)).2 p.2
   | _=>c.x (c.el t) p.2)
 | .buildSlice t _ ps=>(bif Nat.beq h 0 then .bslice (c.ty (c.el t)).n (c.z 0 (c.el t)) else .bown (c.ty (c.el t)).n (c.z 0 (c.el t)),ps.toList.map fun p=>c.x (c.el t) p.2)
 | .load t x=>(.load (c.ty t).n (c.ag t),[c.x 0 x])
 | .store t x y=>(.store (c.ty t).n,[c.x 0 x,c.x t y])
 | .binOp op t x y _=>c.bo op t x y
 | .unOp .neg _ x=>(.neg,[c.x 0 x])
 | .unOp _ _ x=>(.not,[c.x 0 x])
 | .convert t u x=>(match (c.ty t).k,(c.ty u).k with
  | .sl _,.s=>.cvS
  | .s,.sl _=>.cvB
  | _,.i k=>.conv k
  | _,_=>.mv,[c.x 0 x])
 | .field t x i=>(match (c.ty t).k with
  | .st fs=>.field (fs.getD i (0,0)).1 (c.ty (fs.getD i (0,0)).2).n (c.ag (fs.getD i (0,0)).2)
  | _=>.mv,[c.x 0 x])
 | .fieldAddr t x i=>(match (c.ty t).k with
  | .st fs=>.faddr (fs.getD i (0,0)).1
  | _=>.mv,[c.x 0 x])
 | .indexAddr t x i=>(match (c.ty t).k with
  | .ar n e=>.iaA n (c.ty e).n
  | _=>.iaS (c.ty (c.el t)).n (c.z 0 (c.el t)),[c.x 0 x,c.x 0 i])
 | .index t x i=>(match (c.ty t).k with
  | .ar n e=>.idxA n (c.ty e).n (c.ag e)
  | _=>.idxS,[c.x t x,c.x 0 i])
 | .slice t x l u m=>(match (c.ty t).k with
  | .s=>.slcS l.isSome u.isSome
  | _=>.slc (c.ty (c.el t)).n l.isSome u.isSome m.isSome,c.x 0 x :: (l.toList++u.toList++m.toList).map (c.x 0))
 | .extract x i=>(.ext i,[c.x 0 x])
 | .nilCheck x=>(.nilck,[c.x 0 x])
 | .range t x=>(.rng,[c.x 0 x])
 | .next x _=>(.next (c.md h),[c.x 0 x])
 | .entry x=>(.entry (c.md h),[c.x 0 x])
 | .makeMap t _=>(.mkmap [c.kz t,.bool (c.ag (c.me t))],[])
 | .lookup t x i ok=>(.lkp ok (c.ag (c.me t)) (c.kz t) (c.z 0 (c.me t)),[c.x 0 x,c.x (c.mt t) i])
 | .mapUpdate t x i y=>(.mupd (c.kz t) (c.ag (c.me t)) (c.ty (c.me t)).n,[c.x 0 x,c.x (c.mt t) i,c.x (c.me t) y])
 | .makeSlice t x y=>(.mk (c.ty (c.el t)).n (c.ty (c.el t)).y (c.z 0 (c.el t)),[c.x 0 x,c.x 0 y])
 | .makeFunc (.func f) bs xs=>(match bs.toList with|[]=>(.mkf f,xs.toList.map (c.x 0))|b :: _=>(.mkb f,[c.x 0 b]))
 | .call ⟨.builtin b,xs,ts⟩=>(match b,ts.toList with
  | .len,[t]=>(match (c.ty t).k with|.s=>.lenS|.mp _ _=>.lenM|_=>.len)
  | .append,t :: _=>(match h with
   | 0=>.append (c.ty (c.el t)).n (c.ty (c.el t)).y (c.z 0 (c.el t))
   | 1=>.appc (c.ty (c.el t)).n (c.ty (c.el t)).y
   | _=>.apl (c.ty (c.el t)).n (c.ty (c.el t)).y)
  | .copy,t :: _=>.copy (c.ty (c.el t)).n
  | .clear,t :: _=>.clear (c.ty (c.el t)).n (c.z 0 (c.el t))
  | .min,_=>.min
  | .max,_=>.max
  | _,_=>.mv,xs.toList.map (c.x 0))
 | .call ⟨.value (.func f),xs,ts⟩=>(match lk c.m f none,h with
  | none,0=>.call f
  | none,_=>.callm f
  | some _,0=>.callm f
  | some _,_=>.call f,c.args xs.toList ts.toList)
 | .call ⟨.value x,xs,_⟩=>(match h with|0=>.callv|2=>.callb|_=>.callvm,c.x 0 x :: xs.toList.map (c.x 0))
 | _=>(.mv,[])
def opTs:List Operand→List Nat
 | []=>[]
 | .tmp n :: r=>n :: opTs r
 | _ :: r=>opTs r
def gTs (ops:List Oper):Option (Nat×Bool)→List Nat
 | none=>[]
 | some q=>match (ops[q.1]?).bind (·.dst) with
  | some d=>[d]
  | none=>[]
def zbZ1 (ops:List Oper):List Oper→List Nat
 | []=>[]
 | o :: r=>opTs o.op.operands.toList++gTs ops o.guard++zbZ1 ops r
def bits:List Nat→Nat
 | []=>0
 | t :: r=>Nat.lor (Nat.shiftLeft 1 t) (bits r)
def zcP0 (m:Nat) (a:Nat×Nat):Nat×Nat:=match a with
 | (s,u)=>(Nat.lor s m,Nat.lor u (Nat.land s m))
def zbi5:Code→Nat×Nat→Nat×Nat
 | .region _ ops _,a=>zcP0 (bits (zbZ1 ops.toList ops.toList)) a
 | .seq x y,a=>zbi5 y (zbi5 x a)
 | .cond x y z,a=>zbi5 z (zbi5 y (zcP0 (bits (opTs [x])) a))
 | .block _ x,a=>zbi5 x a
 | .loop x,a=>zbi5 x a
 | .scope x,a=>zbi5 x a
 | _,a=>a
def resU:List ResultVar→List Nat
 | []=>[]
 | .tmp t :: r=>t :: resU r
 | .cell t _ :: r=>t :: resU r
def zbQ8 (f:Func):Nat×Nat:=match f.body with
 | some b=>zbi5 b (0,bits (resU f.results.toList))
 | none=>(0,0)
def has (m t:Nat):Bool:=Nat.beq (Nat.land (Nat.shiftRight m t) 1) 1
def zaQ9 (s u m:Nat):List Oper→List Nat
 | []=>[]
 | o :: r=>match o.dst with
  | none=>zaQ9 s u m r
  | some t=>bif has u t then zaQ9 s u m r else bif has m t then t :: zaQ9 s u m r else bif has s t then zaQ9 s u m r else t :: zaQ9 s u m r
def zbZ2 (s u:Nat) (ops:List Oper):List Nat:=zaQ9 s u (bits (zbZ1 ops ops)) ops
def PO.wr:PO→Bool
 | .nilown _ _|.box _|.alloc _ _|.bown _ _|.store _|.append _ _ _|.appc _ _|.copy _ |   .clear _ _|.mkmap _|.mupd _ _ _|.rng|.next _|.entry _|.mk _ _ _|.callm _|.callvm=>true
 | _=>false
def zcP1:List Oper→Bool
 | []=>false
 | o :: r=>match o.op with
  | .panic _=>true
  | _=>zcP1 r
def gOf (ops:List Oper):Option (Nat×Bool)→Option (Nat×Bool)
 | none=>none
 | some q=>some (((ops[q.1]?).bind (·.dst)).getD 0,q.2)
def TC.ops (c:TC) (hs:List (Nat×Nat)) (all:List Oper):List Oper→List POp
 | []=>[]
 | o :: r=>(match c.op (match o.dst with|some d=>lk hs d 0|none=>0) o.type o.op with
  | (p,xs)=>⟨o.dst,gOf all o.guard,p,xs⟩) :: c.ops hs all r
def wrs:List POp→Bool
 | []=>false
 | p :: r=>bif p.po.wr then true else wrs r
def TC.code (c:TC) (hs:List (Nat×Nat)) (s u:Nat):Code→PC
 | .skip=>.skip
 | .region id ops d=>bif zcP1 ops.toList then .dead else
   match d with
   | false=>.reg (zbZ2 s u ops.toList) (c.ops hs ops.toList ops.toList)
   | true=>bif wrs (c.ops hs ops.toList ops.toList)||(Nat.beq (lk hs (1000+id) 0) 1) then .regm (zbZ2 s u ops.toList) (ancs [] (ops.toList.map zB1)) (c.ops hs ops.toList ops.toList) else .regd (zbZ2 s u ops.toList) (c.ops hs ops.toList ops.toList)
 | .seq a b=>.seq (c.code hs s u a) (c.code hs s u b)
 | .cond x a b=>.cond (c.x 0 x) (c.code hs s u a) (c.code hs s u b)
 | .block i a=>.block i (c.code hs s u a)
 | .loop a=>.loop (c.code hs s u a)
 | .exit i=>.exit i
 | .scope a=>.scope (c.code hs s u a)
 | .label _=>.label
 | .ret=>.ret
 | _=>.skip
def TC.rx (c:TC):List ResultVar→List RX
 | []=>[]
 | .tmp t :: r=>.t t :: c.rx r
 | .cell t y :: r=>.c t (c.ty y).n (c.ag y) :: c.rx r
def TC.tr (c:TC) (hs:List (Nat×Nat)) (s u:Nat) (f:Func):PC×Nat×List RX×Nat :=
 (match f.body with
  | some b=>c.code hs s u b
  | none=>.skip,f.ntmps,c.rx f.results.toList,Nat.add f.params.size f.nfree)
def cst (z:Nat→Nat→List A) (t:Nat):Value→A
 | .bool b=>.bool b
 | .int k n=>.int k n
 | .string s=>.str s
 | .slice _ _ _=>.full []
 | .agg _=>.agg (z 0 t)
 | _=>.any
def kon (z:Nat→Nat→List A) {o:Operand} (t:Nat):PX:=match o with
 | .const v=>.c (cst z t v)
 | _=>.c .any
attribute [go_sem] kon cst
def zbI6:Arr (Arr Bool 5) 5:=⟨[⟨[true,true,true,true,false],rfl⟩,⟨[true,true,false,false,false],rfl⟩,⟨[true,false,true,false,false],rfl⟩,⟨[true,false,false,false,false],rfl⟩,⟨[false,false,false,false,false],rfl⟩],rfl⟩
noncomputable def C:Cx:=⟨Tryz.prog,[(1,Arr.enc (Arr.enc eB) zbI6)]⟩
@[go_sem] theorem C_G:C.G=[(1,Arr.enc (Arr.enc eB) zbI6)]:=rfl
theorem zab9:C.P.follows .mixedOrders=true:=by kernel_rfl
def cT:List (Nat×TI):=[(0,⟨.o,1,0⟩),(3,⟨.i .i64,1,8⟩),(4,⟨.b,1,1⟩),(5,⟨.i .u8,1,1⟩),(9,⟨.s,1,16⟩),(20,⟨.o,1,16⟩),(22,⟨.sl 79,1,24⟩),(23,⟨.sl 53,1,24⟩),(25,⟨.st [(0,3),(1,22),(2,23)],3,56⟩),(28,⟨.sl 55,1,24⟩),(30,⟨.st [(0,22),(1,28)],2,48⟩),(33,⟨.sl 3,1,24⟩),(38,⟨.st [(0,3),(1,3),(2,3)],3,24⟩),(39,⟨.sl 222,1,24⟩),(40,⟨.sl 235,1,24⟩),(42,⟨.st [(0,39),(1,40)],2,48⟩),(44,⟨.st [(0,3),(1,3)],2,16⟩),(46,⟨.st [(0,9),(1,44)],3,32⟩),(47,⟨.sl 49,1,24⟩),(49,⟨.st [(0,3),(1,46),(4,47)],5,64⟩),(51,⟨.st [(0,49),(5,3),(6,3)],7,80⟩),(53,⟨.st [(0,38),(3,3),(4,42),(6,4),(7,51),(14,3),(15,3)],16,184⟩),(55,⟨.st [(0,38),(3,49),(8,3)],9,96⟩),(56,⟨.o,1,0⟩),(59,⟨.sl 4,1,24⟩),(64,⟨.sl 5,1,24⟩),(65,⟨.i .i64,1,8⟩),(66,⟨.o,1,0⟩),(68,⟨.o,1,0⟩),(70,⟨.sl 38,1,24⟩),(73,⟨.o,1,8⟩),(75,⟨.st [(0,9),(1,3),(2,3),(3,3)],4,40⟩),(76,⟨.sl 131,1,24⟩),(77,⟨.sl 134,1,24⟩),(79,⟨.st [(0,75),(4,76),(5,77),(6,77),(7,3)],8,120⟩),(82,⟨.sl 75,1,24⟩),(83,⟨.sl 141,1,24⟩),(84,⟨.o,1,0⟩),(86,⟨.o,1,0⟩),(92,⟨.o,1,8⟩),(94,⟨.sl 46,1,24⟩),(97,⟨.o,1,0⟩),(99,⟨.o,1,0⟩),(102,⟨.o,1,0⟩),(110,⟨.o,1,8⟩),(112,⟨.st [(0,64),(1,65)],2,32⟩),(114,⟨.st [(0,112)],2,32⟩),(121,⟨.o,1,8⟩),(125,⟨.o,1,8⟩),(131,⟨.st [(0,38),(3,44)],5,40⟩),(134,⟨.st [(0,38),(3,44),(5,3),(6,3)],7,56⟩),(136,⟨.o,1,8⟩),(138,⟨.st [(0,33),(1,3)],2,32⟩),(141,⟨.st [(0,3),(1,38),(4,51),(11,9),(12,3)],13,136⟩),(143,⟨.o,1,0⟩),(145,⟨.sl 308,1,24⟩),(146,⟨.o,1,0⟩),(151,⟨.o,1,8⟩),(153,⟨.ar 3 3,3,24⟩),(155,⟨.o,1,8⟩),(162,⟨.i .u64,1,8⟩),(164,⟨.o,1,8⟩),(168,⟨.o,1,0⟩),(178,⟨.o,1,8⟩),(186,⟨.sl 9,1,24⟩),(189,⟨.o,1,8⟩),(192,⟨.st [(0,25),(3,145)],4,80⟩),(194,⟨.o,1,0⟩),(198,⟨.o,1,8⟩),(199,⟨.o,1,8⟩),(206,⟨.o,1,0⟩),(209,⟨.i .u64,1,8⟩),(210,⟨.o,1,0⟩),(212,⟨.o,1,0⟩),(215,⟨.o,1,8⟩),(220,⟨.mp 9 44,1,8⟩),(222,⟨.st [(0,9),(1,44),(3,44)],5,48⟩),(227,⟨.o,1,8⟩),(229,⟨.o,1,8⟩),(235,⟨.st [(0,3),(1,3)],2,16⟩),(245,⟨.o,1,0⟩),(251,⟨.sl 77,1,24⟩),(260,⟨.o,1,0⟩),(270,⟨.o,1,0⟩),(275,⟨.o,1,0⟩),(282,⟨.o,1,0⟩),(284,⟨.o,1,0⟩),(286,⟨.o,1,0⟩),(288,⟨.sl 44,1,24⟩),(296,⟨.ar 6 4,6,6⟩),(305,⟨.st [(0,94),(1,59)],2,48⟩),(308,⟨.st [(0,3),(1,38),(4,9),(5,44)],7,64⟩),(309,⟨.o,1,0⟩),(325,⟨.o,1,0⟩),(327,⟨.o,1,0⟩),(329,⟨.ar 5 4,5,5⟩),(330,⟨.ar 5 329,25,25⟩),(332,⟨.o,1,0⟩)]
@[irreducible] def cZ:Nat→Nat→List A
 | 0,3=>[A.int .i64 0]
 | 0,4=>[A.bool false]
 | 0,5=>[A.int .u8 0]
 | 0,9=>[A.str ⟨#[]⟩]
 | 0,22=>[A.sl []]
 | 0,23=>[A.sl []]
 | 0,25=>aY.enc aY.zero
 | 0,28=>[A.sl []]
 | 0,30=>aK.enc aK.zero
 | 0,33=>[A.sl []]
 | 0,38=>aH.enc aH.zero
 | 0,39=>[A.sl []]
 | 0,40=>[A.sl []]
 | 0,42=>bC.enc bC.zero
 | 0,44=>aA.enc aA.zero
 | 0,46=>aD.enc aD.zero
 | 0,47=>[A.sl []]
 | 0,49=>aG.enc aG.zero
 | 0,51=>bG.enc bG.zero
 | 0,53=>aO.enc aO.zero
 | 0,55=>bK.enc bK.zero
 | 0,59=>[A.sl []]
 | 0,64=>[A.sl []]
 | 0,65=>[A.int .i64 0]
 | 0,70=>[A.sl []]
 | 0,75=>aC.enc aC.zero
 | 0,76=>[A.sl []]
 | 0,77=>[A.sl []]
 | 0,79=>aF.enc aF.zero
 | 0,82=>[A.sl []]
 | 0,83=>[A.sl []]
 | 0,94=>[A.sl []]
 | 0,112=>bJ.enc bJ.zero
 | 0,114=>aU.enc aU.zero
 | 0,131=>aT.enc aT.zero
 | 0,134=>aR.enc aR.zero
 | 0,138=>Tape.enc Tape.zero
 | 0,141=>bQ.enc bQ.zero
 | 0,145=>[A.sl []]
 | 0,153=>Arr.enc (eI .i64) (Arr.rep 3 0)
 | 0,162=>[A.int .u64 0]
 | 0,186=>[A.sl []]
 | 0,192=>bP.enc bP.zero
 | 0,209=>[A.int .u64 0]
 | 0,222=>bB.enc bB.zero
 | 0,235=>bI.enc bI.zero
 | 0,251=>[A.sl []]
 | 0,288=>[A.sl []]
 | 0,296=>Arr.enc eB (Arr.rep 6 false)
 | 0,305=>bN.enc bN.zero
 | 0,308=>bR.enc bR.zero
 | 0,329=>Arr.enc eB (Arr.rep 5 false)
 | 2,30=>[.sl [],.sl []]
 | 2,42=>[.sl [],.sl []]
 | 3,94=>[.full []]
 | 4,30=>[.sl [],.full []]
 | 5,30=>[.full [],.full []]
 | 5,42=>[.full [],.full []]
 | 14,192=>[.int .i64 0,.sl [],.full [],.full []]
 | 18,49=>[.int .i64 0,.str ⟨#[]⟩,.int .i64 0,.int .i64 0,.full []]
 | 114,79=>[.str ⟨#[]⟩,.int .i64 0,.int .i64 0,.int .i64 0,.full [],.full [],.full [],.int .i64 0]
 | _,_=>[A.any]
attribute [go_sem] cZ
def cM:List (Nat×Option Unit):=[(48,some ()),(49,some ()),(50,some ()),(51,some ()),(52,some ()),(53,some ()),(55,some ()),(72,some ()),(73,some ()),(74,some ()),(75,some ()),(81,some ()),(83,some ()),(85,some ()),(92,some ()),(95,some ()),(96,some ()),(97,some ()),(103,some ()),(104,some ()),(112,some ()),(130,some ()),(132,some ()),(133,some ()),(137,some ()),(139,some ()),(152,some ()),(154,some ()),(155,some ()),(162,some ()),(163,some ()),(178,some ()),(191,some ()),(193,some ()),(194,some ()),(195,some ()),(196,some ()),(197,some ()),(198,some ()),(199,some ()),(201,some ()),(202,some ()),(210,some ()),(235,some ()),(244,some ()),(245,some ()),(246,some ()),(248,some ()),(249,some ()),(250,some ()),(252,some ()),(281,some ()),(304,some ())]
set_option linter.unusedSimpArgs false
class OkP {α:Type} (m:Option α) (f:outParam FuncId) (av:outParam (List A)) (R:outParam (α→A)):Prop where
  ok:∀ r,m=some r→PFn C f av (R r)
class OkM {α:Type} (m:Option α) (f:outParam FuncId) (av:outParam (List A)) (ms:outParam (List (Nat×Row))) (k:outParam Nat) (R:outParam (α→A)) (ms':outParam (α→List (Nat×Row))) (k':outParam Nat):Prop where
  ok:∀ r,m=some r→MFn C f av ms k (R r) (ms' r) k'
class OkT (f:FuncId) (av:List A) (r:outParam A):Prop where
  ok:PFn C f av r
class OkL {α β:Type} (m:Option (α⊕β)) (f:outParam FuncId) (av:outParam (List A)) (ms:outParam (List (Nat×Row))) (k:outParam Nat) (R:outParam (α→A)) (ms':outParam (α→List (Nat×Row))) (k':outParam Nat):Prop where
  ok:∀ r,m=some (.inl r)→MFn C f av ms k (R r) (ms' r) k'
class OkR {α β:Type} (m:Option (α⊕β)) (f:outParam FuncId) (av:outParam (List A)) (ms:outParam (List (Nat×Row))) (k:outParam Nat) (R:outParam (β→A)) (ms':outParam (β→List (Nat×Row))) (k':outParam Nat):Prop where
  ok:∀ r,m=some (.inr r)→MFn C f av ms k (R r) (ms' r) k'
theorem zav6 {T:Type} {P:T→Prop} {fr:Nat→T} (h0:P (fr 0)) (hs:∀ n,P (fr n)→P (fr (n+1))):∀ n,P (fr n)
  | 0=>h0
  | n+1=>hs n (zav6 h0 hs n)
def Mk {α:Type} (x:α):Prop:=True
theorem mkP {α β:Type} {x:α} (hm:Mk x) (v:β):Mk (x,v):=trivial
class JS {α:Type} (x:α) (id:Nat) {γ:outParam Type} {V:outParam Type} (k k':outParam (V→γ)) (J:outParam (V→St)):Prop where
  e:∀ v,k v=k' v
class LS {α G X:Type} (x:α) (b:G→Option (G⊕X)) (b':outParam (G→Option (G⊕X))) (I:outParam (G→St)):Prop where
  e:∀ v,b v=b' v
theorem mkJ {α:Type} (x:α) (id:Nat) {γ V:Type} {k k':V→γ} (e:∀ v,k v=k' v) (J:V→St):JS x id k k' J:=⟨e⟩
theorem mkL {α G X:Type} (x:α) {b b':G→Option (G⊕X)} (e:∀ v,b v=b' v) (I:G→St):LS x b b' I:=⟨e⟩
def prA:A→A→List (Nat×Nat)
  | .ptr x _ _,.ptr y _ _=>[(y,x)]
  | .own x _ _,.own y _ _=>[(y,x)]
  | _,_=>[]
def prC:List A→List A→List (Nat×Nat)
  | a :: r,b :: s=>prA a b++prC r s
  | _,_=>[]
def prE:List (List A)→List (List A)→List (Nat×Nat)
  | a :: r,b :: s=>prC a b++prE r s
  | _,_=>[]
def prS (s:List (Nat×A)):List (Nat×A)→List (Nat×Nat)
  | []=>[]
  | q :: r=>(match look s q.1 with|some b=>prA b q.2|none=>[])++prS s r
def prM (m:List (Nat×Row)) (l:List (Nat×Nat)):List (Nat×Row)→List (Nat×Nat)
  | []=>[]
  | q :: r=>(match look l q.1 with|some x=>(match look m x with|some w=>prE w.es q.2.es|none=>[])|none=>[])++prM m l r
def ptS (s:List (Nat×A)):List (Nat×A)→List (Nat×Nat)
  | []=>[]
  | q :: r=>(match q.2,look s q.1 with|.ptr y _ _,some (.ptr x _ _)=>[(y,x)]|_,_=>[])++ptS s r
def idL:Nat→List (Nat×Nat)
  | 0=>[]
  | n+1=>idL n++[(n,n)]
def rl (k:Nat) (b:Bool) (s J:St):List (Nat×Nat):=idL k++prS s.fr J.fr++if b then prM s.mem (idL k++ptS s.fr J.fr) J.mem else []
def ptC:List A→List A→List (Nat×Nat)
  | .ptr x _ _ :: r,.ptr y _ _ :: s=>(y,x) :: ptC r s
  | _ :: r,_ :: s=>ptC r s
  | _,_=>[]
def cl (b:Bool) (vals av:List A) (m ms:List (Nat×Row)):List (Nat×Nat):=prC vals av++if b then prM m (ptC vals av) ms else []
theorem lv {p:Prop} (w:p:=by
  (simp only [go_sem,↓reduceIte,reduceCtorEq,Nat.reduceEqDiff,Nat.reduceAdd,Nat.reduceSub,Nat.reduceMul,Nat.reduceLeDiff,Nat.reduceLT,Int.reduceLE,Int.reduceLT,Int.reduceToNat,Int.reduceNeg]
   first
   | (done)
   | trivial
   | (simp; done)
   | ((repeat' (first|rfl|trivial|omega|(simp; done)|(simp; omega)|(congr 1; omega)|(congr 1; simp only [cI,dL,fK,fT]; omega)|apply And.intro)) <;> fail))):p:=w
section
variable {E:Env} {Q:Exit→St→Prop} {st:St} {q:Prop}
theorem isAW {c:PC} (h:AW C E c Q st):AW C E c Q st:=h
theorem zcx2 {f:FuncId} {d:Option Nat} {g:Option (Nat×Bool)} {gv:Bool} {ob:Prop} {args:List A} {rw:List (Nat×MS)} {ps:List POp} {st:St} {K:St→Prop} (h:zaS8 C f d g gv ob args rw ps st K):zaS8 C f d g gv ob args rw ps st K:=h
theorem zcg8 {f:FuncId} {d:Option Nat} {g:Option (Nat×Bool)} {gv:Bool} {ob:Prop} {args:List A} {rw:List (Nat×MS)} {ps:List POp} {st:St} {K:St→Prop} (h:zaB8 C f d g gv ob args rw ps st K):zaB8 C f d g gv ob args rw ps st K:=h
theorem zaq2 {α γ V:Type} {x:α} {id:Nat} {k k':V→γ} {J:V→St} {R:γ} {c:PC} {m:γ} (hm:Mk x) (h:m=R) [i:JS x id k k' J]
    (hk:∀ v,Mk (k v)→k' v=R→Q .normal (J v)) (hb:AW C E c (BlkJ E id J (fun v=>k v=R) Q) st):AW C E (.block id c) Q st :=
  zO1 J _ (fun v e=>hk v trivial (by rw [← i.e]; exact e)) hb
theorem zcM4 {α γ V:Type} {z:α} {k k':V→γ} {J:V→St} {x:PX} {p q:PC} {b c:Bool} {X Y r:γ} (hm:Mk z) (hx:xv C.G st.slot x=.bool b) (hG:E.G=C.G) (h:(if c=true then X else Y)=r) [i:JS z 999 k k' J]
    (hk:∀ v,Mk (k v)→k' v=r→Q .normal (J v)) (ht:b=true→X=r→AW C E p (zaS9 E J (fun v=>k v=r) Q) st) (hf:b=false→Y=r→AW C E q (zaS9 E J (fun v=>k v=r) Q) st) (e:b=c:=by first|rfl|(simp; done)|grind):AW C E (.cond x p q) Q st :=
  zcg3 J _ hx hG h (fun v e=>hk v trivial (by rw [← i.e]; exact e)) ht hf e
theorem zcx3 {α:Type} {x:α} {c:PC} {G X β:Type} {body body':G→Option (G⊕X)} {I:G→St} {g0:G} {kk:X→Option β} {r:β} {k:Nat} {l:List (Nat×Nat)} (hm:Mk x) (hK:E.k0=k) (h:(zc6 body g0).bind kk=some r) [i:LS x body body' I]
    (hb:∀ g y,Mk (body g)→(∀ x',y=.inr x'→Mk x∧kk x'=some r)→body' g=some y→AW C E c (zbi4 E I y Q) (I g))
    (b:Bool) (hl:rl k b st (I g0)=l:=by ((conv=>lhs; reduce) <;> exact rfl))
    (hle:Le l st (I g0)∧zaj2 k l (I g0).nx=true:=by exact lv):AW C E (.loop c) Q st:=by
  obtain ⟨x,hx,hk⟩:=zn1 h
  refine zbH9 I hK _ hx hle fun g y hy hz=>hb g y trivial (fun x' e=>⟨hm,?_⟩) (by rw [← i.e]; exact hy)
  rw [hz x' e]; exact hk
theorem zcM5 {α:Type} {x:α} {c:PC} {G X β:Type} {body body':G→Option (G⊕X)} {I:G→St} {g0:G} {kk:X→Option β} {r:β} {k:Nat} (hm:Mk x) (hK:E.k0=k) (l:List (Nat×Nat)) (h:(zc6 body g0).bind kk=some r) [i:LS x body body' I]
    (hb:∀ g y,Mk (body g)→(∀ x',y=.inr x'→Mk x∧kk x'=some r)→body' g=some y→AW C E c (zbi4 E I y Q) (I g))
    (hle:Le l st (I g0)∧zaj2 k l (I g0).nx=true:=by exact lv):AW C E (.loop c) Q st:=by
  obtain ⟨x,hx,hk⟩:=zn1 h
  refine zbH9 I hK l hx hle fun g y hy hz=>hb g y trivial (fun x' e=>⟨hm,?_⟩) (by rw [← i.e]; exact hy)
  rw [hz x' e]; exact hk
theorem zcx4 {V γ:Type} {J:V→St} {k:V→γ} {R:γ} {s:St} {n:Nat} {v:V} {l:List (Nat×Nat)} (hK:E.k0=n) (h:k v=R)
    (b:Bool) (hl:rl n b s (J v)=l:=by ((conv=>lhs; reduce) <;> exact rfl))
    (hle:Le l s (J v)∧zaj2 n l (J v).nx=true:=by exact lv):zaD2 E J (fun v=>k v=R) s:=zbP9 hK v h _ hle
theorem zcx5 {G X:Type} {I:G→St} {g':G} {y:G⊕X} {s:St} {k:Nat} {l:List (Nat×Nat)} (hK:E.k0=k) (h:some (.inl g')=some y)
    (b:Bool) (hl:rl k b s (I g')=l:=by ((conv=>lhs; reduce) <;> exact rfl))
    (hle:Le l s (I g')∧zaj2 k l (I g').nx=true:=by exact lv):zbQ0 E I y s:=by
  cases h; exact zbQ1 hK _ hle
theorem zcY9 {G X β:Type} {M:Prop} {y:G⊕X} {x:X} {kk:X→Option β} {R:Option β} (kx:∀ x',y=.inr x'→M∧kk x'=R) (h:some (.inr x)=some y):M∧kk x=R:=kx x (dG h).symm
theorem zbI7 {α:Type} {x r:α} {k:Nat} {st:St} {rs:List RX} {rv:List A} {ms':List (Nat×Row)} {k':Nat} {l:List (Nat×Nat)} (b:Bool) (h:some x=some r)
    (hl:rl k b ⟨zE4 0 (resL st rs),st.mem,st.nx⟩ ⟨zE4 0 rv,ms',k'⟩=l:=by ((conv=>lhs; reduce) <;> exact rfl))
    (e:x=r→zbh3 st rs∧zbp9 rv=true∧Le l ⟨zE4 0 (resL st rs),st.mem,st.nx⟩ ⟨zE4 0 rv,ms',k'⟩∧zaj2 k l k'=true:=by (intro e; subst e; exact lv)):zaF6 k st rs rv ms' k':=by
  obtain ⟨h1,h2,h3,h4⟩:=e (dG h)
  exact ⟨h1,h2,l,h3,h4⟩
theorem zcx6 {k:Nat} {st:St} {rs:List RX} {rv:List A} {ms':List (Nat×Row)} {k':Nat} (h:zaF6 k st rs rv ms' k'):zaF6 k st rs rv ms' k':=h
theorem zcg9 {an:List (List Nat)} {f:FuncId} {d:Option Nat} {g:Option (Nat×Bool)} {gv:Bool} {ob:Prop} {args:List A} {rw:List (Nat×MS)} {ids:List Nat} {cok:Bool} {ps:List POp} {st:St} {log:List (List Nat×List Nat)} {K:St→Prop} (h:zaB9 C an f d g gv ob args rw ids cok ps st log K):zaB9 C an f d g gv ob args rw ids cok ps st log K:=h
theorem zch0 {f:FuncId} {d:Option Nat} {g:Option (Nat×Bool)} {gv:Bool} {ob:Prop} {vals:List A} {ps:List POp} {st:St} {K:St→Prop} (h:zad8 C f d g gv ob vals ps st K):zad8 C f d g gv ob vals ps st K:=h
theorem zbQ9 {an:List (List Nat)} {f:FuncId} {d:Option Nat} {g:Option (Nat×Bool)} {gv:Bool} {ob:Prop} {vals:List A} {vi:List Nat} {cok:Bool} {ps:List POp} {st:St} {log:List (List Nat×List Nat)} {K:St→Prop} (h:zat9 C an f d g gv ob vals vi cok ps st log K):zat9 C an f d g gv ob vals vi cok ps st log K:=h
theorem zae8 {f:FuncId} {d:Option Nat} {ob:Prop} {vals:List A} {ps:List POp} {st:St} {K:St→Prop} {l nl:List (Nat×Nat)} {ids:List Nat} {av:List A} {ms ms':List (Nat×Row)} {k k':Nat} {r:A} (b:Bool)
    (hf:MFn C f av ms k r ms' k') (h:q) (hl:cl b vals av st.mem ms=l:=by ((conv=>lhs; reduce) <;> exact rfl)) (hnl:newL k st.nx (k' - k)=nl:=by ((conv=>lhs; reduce) <;> exact rfl)) (hids:ms.map (·.1)++(List.range (k' - k)).map (k+·)=ids:=by ((conv=>lhs; reduce) <;> exact rfl))
    (e:Imp q (arun C ps (st.app d (renR (l++nl) r) (zI1 st.m (fzM vals av)++zV2 (l++nl) ms' ids)) K):=by exact im)
    (hok:okM st.m st.nx l vals av ms k k':=by exact lv) (ho:ob:=by trivial) (hr:zaM1 r=true:=by rfl):zad8 C f d none true ob vals ps st K :=
  zB2 l nl ids hf hnl hids h e hok ho hr
theorem zae2 {an:List (List Nat)} {f:FuncId} {d:Option Nat} {ob:Prop} {vals:List A} {vi:List Nat} {cok:Bool} {ps:List POp} {st:St} {log:List (List Nat×List Nat)} {K:St→Prop} {l nl:List (Nat×Nat)} {ids:List Nat} {av:List A} {ms ms':List (Nat×Row)} {k k':Nat} {r:A} (b:Bool)
    (hf:MFn C f av ms k r ms' k') (h:q) (hl:cl b vals av st.mem ms=l:=by ((conv=>lhs; reduce) <;> exact rfl)) (hnl:newL k st.nx (k' - k)=nl:=by ((conv=>lhs; reduce) <;> exact rfl)) (hids:ms.map (·.1)++(List.range (k' - k)).map (k+·)=ids:=by ((conv=>lhs; reduce) <;> exact rfl))
    (e:Imp q (zaH9 (an.getD log.length []) 0 log vi ((zI1 st.m (fzM vals av)++zV2 (l++nl) ms' ids).map (·.1))=true∧cok=true∧zaj3 C an ps (st.app d (renR (l++nl) r) (zI1 st.m (fzM vals av)++zV2 (l++nl) ms' ids)) (log++[(vi,(zI1 st.m (fzM vals av)++zV2 (l++nl) ms' ids).map (·.1))]) K):=by exact im)
    (hok:okM st.m st.nx l vals av ms k k':=by exact lv) (ho:ob:=by trivial) (hr:zaM1 r=true:=by rfl):zat9 C an f d none true ob vals vi cok ps st log K :=
  zbQ5 l nl ids hf hnl hids h e hok ho hr
theorem gogo {p:Prop} (w:p:=by
      (skip
       repeat' first
        | (with_reducible refine isAW ?_
           first
           | (with_reducible obtain ⟨_,h⟩:=zm3 h)
           | (with_reducible obtain ⟨hm,h⟩:=zcY9 kx h
              clear kx
              try dsimp only at h)
           | refine zb2 ?_
           | refine zr8 ?_
           | refine zO2 ?_
           | refine zy1 ?_
           | refine zc0 hG ?_
           | refine zbr6 zab9 hG ?_
           | refine zbI4 zab9 hG ?_
           | (refine zcM4 hm rfl hG h (fun v hm h=>?_) (fun _ h=>?_) (fun _ h=>?_)
              focus (try refine g_st ?_))
           | (refine zs2 rfl hG h (fun _ h=>?_) (fun _ h=>?_))
           | refine zaG2 rfl hG ?_
           | refine zbm6 rfl hG ?_
           | (refine zaq2 hm h (fun v hm h=>?_) ?_
              focus (try refine g_st ?_))
           | refine zK3 ?_
           | (refine zcx3 hm hK h (fun g y hm kx h=>?_) false; try refine g_st ?_)
           | (refine zcx3 hm hK h (fun g y hm kx h=>?_) true; try refine g_st ?_))
        | (with_reducible refine zcx2 ?_
           first
           | (refine zA8 (fun _=>OkT.ok) ?_)
           | (obtain ⟨v,hv,h⟩:=zn1 h
              have hm:=mkP hm v
              repeat (with_reducible obtain ⟨_,h⟩:=zm3 h)
              first
              | refine zA8 (fun _=>OkP.ok _ hv) ?_
              | refine zA8 (fun hg=>OkP.ok _ (zaD1 hg hv)) ?_
              | refine zA8 (fun _=>PFn.unfull (OkP.ok _ hv)) ?_
              | refine zA8 (fun _=>hrc _ _ hv) ?_
              | refine zA8 (fun _=>hrc _ _ _ hv) ?_
              | refine zA8 (fun _=>hrc _ _ _ _ hv) ?_
              | refine zA8 (fun _=>hrc _ _ _ _ _ hv) ?_))
        | (with_reducible refine zcg8 ?_
           first
           | (refine zaz7 (fun _=>OkT.ok) ?_)
           | (obtain ⟨v,hv,h⟩:=zn1 h
              have hm:=mkP hm v
              repeat (with_reducible obtain ⟨_,h⟩:=zm3 h)
              first
              | refine zaz7 (fun _=>OkP.ok _ hv) ?_
              | refine zaz7 (fun hg=>OkP.ok _ (zaD1 hg hv)) ?_
              | refine zaz7 (fun _=>PFn.unfull (OkP.ok _ hv)) ?_
              | refine zaz7 (fun _=>hrc _ _ hv) ?_
              | refine zaz7 (fun _=>hrc _ _ _ hv) ?_
              | refine zaz7 (fun _=>hrc _ _ _ _ hv) ?_
              | refine zaz7 (fun _=>hrc _ _ _ _ _ hv) ?_))
        | (with_reducible refine zcg9 ?_
           first
           | (refine zaG1 (fun _=>OkT.ok) ?_)
           | (obtain ⟨v,hv,h⟩:=zn1 h
              have hm:=mkP hm v
              repeat (with_reducible obtain ⟨_,h⟩:=zm3 h)
              first
              | refine zaG1 (fun _=>OkP.ok _ hv) ?_
              | refine zaG1 (fun hg=>OkP.ok _ (zaD1 hg hv)) ?_
              | refine zaG1 (fun _=>hrc _ _ hv) ?_
              | refine zaG1 (fun _=>hrc _ _ _ hv) ?_
              | refine zaG1 (fun _=>hrc _ _ _ _ hv) ?_
              | refine zaG1 (fun _=>hrc _ _ _ _ _ hv) ?_))
        | (with_reducible refine zch0 ?_
           obtain ⟨v,hv,h⟩:=zn1 h
           have hm:=mkP hm v
           repeat (with_reducible obtain ⟨_,h⟩:=zm3 h)
           first
           | refine zae8 false (OkM.ok _ hv) ?_
           | refine zae8 true (OkM.ok _ hv) ?_
           | refine zae8 false (hrc _ _ hv) ?_
           | refine zae8 true (hrc _ _ hv) ?_
           | refine zae8 false (hrc _ _ _ hv) ?_
           | refine zae8 true (hrc _ _ _ hv) ?_
           | refine zae8 false (hrc _ _ _ _ hv) ?_
           | refine zae8 true (hrc _ _ _ _ hv) ?_
           | refine zae8 false (hrc _ _ _ _ _ hv) ?_
           | refine zae8 true (hrc _ _ _ _ _ hv) ?_
           | (rcases v with v|v
              all_goals dsimp only at h
              all_goals first
              | refine zae8 false (OkL.ok _ hv) ?_
              | refine zae8 false (OkR.ok _ hv) ?_))
        | (with_reducible refine zbQ9 ?_
           obtain ⟨v,hv,h⟩:=zn1 h
           have hm:=mkP hm v
           repeat (with_reducible obtain ⟨_,h⟩:=zm3 h)
           first
           | refine zae2 false (OkM.ok _ hv) ?_
           | refine zae2 true (OkM.ok _ hv) ?_
           | refine zae2 false (hrc _ _ hv) ?_
           | refine zae2 true (hrc _ _ hv) ?_
           | refine zae2 false (hrc _ _ _ hv) ?_
           | refine zae2 true (hrc _ _ _ hv) ?_
           | refine zae2 false (hrc _ _ _ _ hv) ?_
           | refine zae2 true (hrc _ _ _ _ hv) ?_
           | refine zae2 false (hrc _ _ _ _ _ hv) ?_
           | refine zae2 true (hrc _ _ _ _ _ hv) ?_)
        | (with_reducible refine zcx6 ?_
           first
           | exact zbI7 false h
           | exact zbI7 true h
           | exact zbI7 false (zbI5 h)
           | exact zbI7 false (zaQ8 h)
           | (cases h; done))
        | exact zcx5 hK h false
        | exact zcx4 hK h false
        | exact zcx5 hK h true
        | exact zcx4 hK h true
        | (fail_if_success (with_reducible refine isAW ?_)
           fail_if_success (with_reducible refine zcx2 ?_)
           fail_if_success (with_reducible refine zcg8 ?_)
           fail_if_success (with_reducible refine zcg9 ?_)
           fail_if_success (with_reducible refine zch0 ?_)
           fail_if_success (with_reducible refine zbQ9 ?_)
           fail_if_success (with_reducible refine zcx6 ?_)
           fail_if_success (with_reducible refine isJoin ?_)
           fail_if_success (with_reducible refine isNext ?_)
           first
           | exact zV4 h
           | exact zcS3 h))):p:=w
theorem zae3 (F:Func) (hs:List (Nat×Nat)) {f:FuncId} {av:List A} {r:A} {pc:(Nat→Nat→List A)→({o:Operand}→Nat→PX)→PC} {N np:Nat} {rs:List RX}
    (h:∀ E:Env,E.G=C.G→E.N=N→E.k0=0→AW C E (pc cZ (@kon cZ)) (Post rs r) ⟨zE4 0 av,[],0⟩)
    {us ut:Nat} (hu:zbQ8 F=(us,ut):=by ((conv=>lhs; reduce) <;> exact rfl)) (hp:∀ (Z:Nat→Nat→List A) (K:{o:Operand}→Nat→PX),TC.tr ⟨cT,cM,Z,@K⟩ hs us ut F=(pc Z @K,N,rs,np):=by (intro Z K; ((conv=>lhs; reduce) <;> exact rfl))) (hchk:chkF C.P f (pc cZ (@kon cZ)) N rs np=true:=by kernel_rfl) (hnp:av.length=np:=by rfl):PFn C f av r:=zbc5 hchk hnp h
theorem zaM3 (F:Func) (hs:List (Nat×Nat)) {f:FuncId} {av:List A} {ms ms':List (Nat×Row)} {k k':Nat} (rl:List A) {pc:(Nat→Nat→List A)→({o:Operand}→Nat→PX)→PC} {N np:Nat} {rs:List RX}
    (h:∀ E:Env,E.G=C.G→E.N=N→E.k0=k→AW C E (pc cZ (@kon cZ)) (zbO5 k rs rl ms' k') ⟨zE4 0 av,ms,k⟩)
    {us ut:Nat} (hu:zbQ8 F=(us,ut):=by ((conv=>lhs; reduce) <;> exact rfl)) (hp:∀ (Z:Nat→Nat→List A) (K:{o:Operand}→Nat→PX),TC.tr ⟨cT,cM,Z,@K⟩ hs us ut F=(pc Z @K,N,rs,np):=by (intro Z K; ((conv=>lhs; reduce) <;> exact rfl))) (hchk:chkF C.P f (pc cZ (@kon cZ)) N rs np=true:=by kernel_rfl)
    (hnp:av.length=np:=by rfl) (hms:zbD4 ms=true:=by rfl) (hall:zbh0 ms k=true:=by rfl) (hrl:rl.length=rs.length:=by rfl):MFn C f av ms k (zbD2 rl) ms' k':=zbD5 hchk hnp hms hall hrl h
theorem ok1 {α:Type} {m m':Option α} (u:m=m') (F:Func) (hs:List (Nat×Nat)) {f:FuncId} {av:List A} {R:α→A} {pc:(Nat→Nat→List A)→({o:Operand}→Nat→PX)→PC} {N np:Nat} {rs:List RX} {us ut:Nat} (hu:zbQ8 F=(us,ut):=by ((conv=>lhs; reduce) <;> exact rfl)) (hp:∀ (Z:Nat→Nat→List A) (K:{o:Operand}→Nat→PX),TC.tr ⟨cT,cM,Z,@K⟩ hs us ut F=(pc Z @K,N,rs,np):=by (intro Z K; ((conv=>lhs; reduce) <;> exact rfl))) (hchk:chkF C.P f (pc cZ (@kon cZ)) N rs np=true:=by kernel_rfl)
    (w:∀ E:Env,∀ r,E.G=C.G→E.k0=0→Mk m→m'=some r→AW C E (pc cZ (@kon cZ)) (Post rs (R r)) ⟨zE4 0 av,[],0⟩:=by
      (intro E r hG hK hm h; exact gogo)) (hnp:av.length=np:=by rfl):OkP m f av R :=
  ⟨fun r h=>zbc5 hchk hnp fun E hG _ hK=>w E r hG hK trivial (u ▸ h)⟩
theorem ok2 {α:Type} (R:α→A) {m m':α} (u:m=m') (F:Func) (hs:List (Nat×Nat)) {f:FuncId} {av:List A} {pc:(Nat→Nat→List A)→({o:Operand}→Nat→PX)→PC} {N np:Nat} {rs:List RX} {us ut:Nat} (hu:zbQ8 F=(us,ut):=by ((conv=>lhs; reduce) <;> exact rfl)) (hp:∀ (Z:Nat→Nat→List A) (K:{o:Operand}→Nat→PX),TC.tr ⟨cT,cM,Z,@K⟩ hs us ut F=(pc Z @K,N,rs,np):=by (intro Z K; ((conv=>lhs; reduce) <;> exact rfl))) (hchk:chkF C.P f (pc cZ (@kon cZ)) N rs np=true:=by kernel_rfl)
    (w:∀ E:Env,∀ r,E.G=C.G→E.k0=0→Mk m→m'=r→AW C E (pc cZ (@kon cZ)) (Post rs (R r)) ⟨zE4 0 av,[],0⟩:=by
      (intro E r hG hK hm h; exact gogo)) (hnp:av.length=np:=by rfl):OkT f av (R m) :=
  ⟨zbc5 hchk hnp fun E hG _ hK=>w E m hG hK trivial u.symm⟩
theorem okm {α:Type} {m m':Option α} (u:m=m') {f:FuncId} {av:List A} {ms:List (Nat×Row)} {k k':Nat} (rv:α→List A) {ms':α→List (Nat×Row)} (F:Func) (hs:List (Nat×Nat)) {pc:(Nat→Nat→List A)→({o:Operand}→Nat→PX)→PC} {N np:Nat} {rs:List RX} {us ut:Nat} (hu:zbQ8 F=(us,ut):=by ((conv=>lhs; reduce) <;> exact rfl)) (hp:∀ (Z:Nat→Nat→List A) (K:{o:Operand}→Nat→PX),TC.tr ⟨cT,cM,Z,@K⟩ hs us ut F=(pc Z @K,N,rs,np):=by (intro Z K; ((conv=>lhs; reduce) <;> exact rfl))) (hchk:chkF C.P f (pc cZ (@kon cZ)) N rs np=true:=by kernel_rfl)
    (w:∀ E:Env,∀ r,E.G=C.G→E.k0=k→Mk m→m'=some r→AW C E (pc cZ (@kon cZ)) (zbO5 k rs (rv r) (ms' r) k') ⟨zE4 0 av,ms,k⟩:=by
      (intro E r hG hK hm h; exact gogo))
    (hnp:av.length=np:=by rfl) (hms:zbD4 ms=true:=by rfl) (hall:zbh0 ms k=true:=by rfl) (hrl:∀ r,(rv r).length=rs.length:=by (intro r; rfl)):OkM m f av ms k (fun r=>zbD2 (rv r)) ms' k' :=
  ⟨fun r h=>zbD5 (rl:=rv r) hchk hnp hms hall (hrl r) fun E hG _ hK=>w E r hG hK trivial (u ▸ h)⟩
end
open Go.Shelf
theorem zcZ0 (r:Row):(⟨[],[(0,r)],1⟩:St).m=setM (⟨[],[],0⟩:St).m [(0,.row r)]:=by
 funext x
 by_cases h:x=0
 ·subst h; simp [St.m,setM,look]
 ·simp [St.m,setM,look,h,Nat.one_le_iff_ne_zero]
theorem zcx7 {w:World} {W:Nat→Prop} {μ:Nat→Loc} {v:Value} (h:RepV w W μ v (.full [])):∃ a,v=.slice a 0 0:=by
 have h':RepC w W v (.full []):=h
 cases h' with
 | full a n es h1 =>
  cases h1 with
  | sl0=>exact ⟨_,rfl⟩
  | sl b off cap sz es us hb hlt hn=>simp at hn
def zcx8 (P:Program) (t:TypeId) (sz:Nat):Bool :=
 match P.info? t with
 | some i=>i.size == sz&&decide (0 < sz)&&(match i.zero with|some z=>z.cells.size == sz|none=>false)&&decide (4294967296 * i.bytes≤140737488355328)
 | none=>false
theorem zcx9 {C:Cx} {ρ:Ren} (L:Lays8.n4 C.P ρ) {sz:Nat} (hok:zcx8 C.P (ρ.t 25) sz=true)
  {f:FuncId} (hf:ρ.f 4=f) (zz:List A) (a0:Int) (h0:0≤a0) (h1:a0≤4294967296):MFn C f [.full [],.int .i64 a0] [] 0 (.own 0 0 0) [(0,⟨false,sz,zz,[]⟩)] 1:=by
 subst hf
 obtain ⟨i0,z,hi0,hz0,hsz,hpos,hzs,hby⟩:∃ i0 z,C.P.info? (ρ.t 25)=some i0∧i0.zero=some z∧i0.size=sz∧0 < sz∧z.cells.size=sz∧4294967296 * i0.bytes≤140737488355328:=by
  unfold zcx8 at hok
  split at hok
  ·rename_i i hi
   split at hok
   ·rename_i z hz
    simp only [bS,cY,bV] at hok
    obtain ⟨⟨⟨h1,h2⟩,h3⟩,h4⟩:=hok
    exact ⟨i,z,hi,hz,h1,h2,h3,h4⟩
   ·simp at hok
  ·simp at hok
 subst hsz
 intro w W μ vs hG hW hl hv hm hi
 obtain ⟨v0,v1,rfl⟩:∃ v0 v1,vs=[v0,v1]:=by
  match vs,hl with
  | [a,b],_=>exact ⟨a,b,rfl⟩
 obtain ⟨ad,rfl⟩:=zcx7 (hv 0 v0 (.full []) rfl rfl)
 have r1:RepC w W v1 (.int .i64 a0):=hv 1 v1 (.int .i64 a0) rfl rfl
 cases r1
 obtain ⟨n,rfl⟩:∃ n:Nat,a0=n:=⟨a0.toNat,by omega⟩
 have hid:(⟨[],[],0⟩:St).m 0=.fresh:=by simp [St.m]
 rw [zcZ0]
 by_cases hn:n=0
 ·subst hn
  refine (Any8.slices_Grow_room L ad 0 0 0 w (cS _) (by omega) (by omega) (by omega)).mono fun e w' ⟨he,hw⟩=>?_
  subst hw
  exact ⟨_,W,_,he,Step.newEmpty hm hi hW hid hpos rfl (Keeps.refl _ _),zaB5 (by simp) 0⟩
 ·refine (Any8.slices_Grow_grow L i0 z hi0 hz0 hpos ad 0 0 n [] w (cS _) (by omega) ?_ (by omega) (by simp) (fun _=>rfl) (fun a _ j v h=>by simp at h)).mono fun e w' ⟨he,hw⟩=>?_
  ·simp only [dJ]
   exact gT (dC _ (by omega)) hby
  have hc1:grownCap w (0+n) 0 (ρ.t 25)≤maxLen:=grownCap_le_maxLen w (0+n) 0 (ρ.t 25) (by simp only [maxLen]; omega)
  generalize hc:grownCap w (0+n) 0 (ρ.t 25)=c at *
  have hc0:0+n≤c:=by rw [← hc]; exact grownCap_ge _ _ _ _
  obtain ⟨R,hR⟩:∃ R:List Value,(([]:List Value).toArray++Builtin.zeroCells z.cells (0+n - 0)++Builtin.zeroCells z.cells (c - (0+n)))=R.toArray:=⟨_,Array.toArray_toList.symm⟩
  have hRl:R.length=c * i0.size:=by
   have:(R.toArray).size=c * i0.size:=by
    rw [← hR]
    simp only [Array.size_append,size_zeroCells,hzs,dJ,gZ,List.length_nil]
    rw [← dN]; congr 1; omega
   simpa using this
  rw [hR] at hw
  subst hw
  have hst:=Step.new (w':=w.drew.alloc (.cells (([]:List Value)++R).toArray (ρ.t 25))) hm hi hW hid (r:=⟨false,i0.size,zz,[]⟩) (us:=[]) (rest:=R) (e:=ρ.t 25) hpos (zS4 _ _)
   ⟨by simp,fun i c h=>by simp at h,fun i c j a h=>by simp at h⟩ (by simpa using heap_alloc_new w.drew _)
  refine ⟨_,_,_,he,hst,?_⟩
  have:=zaf6 (w:=w.drew.alloc (.cells (([]:List Value)++R).toArray (ρ.t 25))) (W:=fun b=>W b∨b=w.heap.size)
   (μ:=fun x=>if x=0 then Loc.at_ ⟨w.heap.size,i0.size,([]:List Value).length+R.length⟩ else μ x) (x:=0) (lo:=0) (n:=0) (cap:=c)
   (k:=⟨w.heap.size,i0.size,([]:List Value).length+R.length⟩) (by simp) (by simp [hRl]) (fF _) (by omega)
  simpa using this
end Ab
end Go.Proofs.YtenebhlnfjcffaaGreatDoor
