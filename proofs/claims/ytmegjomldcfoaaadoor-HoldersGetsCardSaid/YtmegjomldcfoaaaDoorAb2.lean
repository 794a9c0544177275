/-
  The operations of the small machine, what each yields, and which operation of the program each one stands for.
-/
import Derived.Test.YtmegjomldcfoaaaDoorAb1
namespace Go.Proofs.YtmegjomldcfoaaaDoor
namespace Ab

/-! ### Small functions on cells -/

def sub (cs : List A) (off n : Nat) : List A := (cs.drop off).take n
def upd (cs : List A) (off : Nat) (new : List A) : List A := cs.take off ++ new ++ cs.drop (off + new.length)
def AllLen (n : Nat) (es : List (List A)) : Prop := ∀ c ∈ es, c.length = n

def A.cells : A → List A
  | .agg cs => cs
  | a => [a]

/-- A value that can be stored. -/
def A.isV : A → Bool
  | .bool _ | .int _ _ | .str _ | .sl _ | .full _ | .own _ _ _ | .ptr _ _ _ | .agg _ => true
  | .clo _ _ => true
  | _ => false

def ofCells (ag : Bool) (cs : List A) : A := if ag then .agg cs else cs.headD .any

/-- Kinds of comparable cells. -/
inductive LK where
  | b
  | i (k : IntKind)
  | s
  deriving DecidableEq

def LK.fits : LK → A → Bool
  | .b, .bool _ => true
  | .i k, .int k' _ => k == k'
  | .s, .str _ => true
  | _, _ => false

def kindsOk : List LK → List A → Bool
  | [], [] => true
  | k :: ks, a :: as => k.fits a && kindsOk ks as
  | _, _ => false

def eq1 : A → A → Bool
  | .bool a, .bool b => a == b
  | .int _ a, .int _ b => a == b
  | .str a, .str b => a.toList == b.toList
  | _, _ => false

def eqA : List A → List A → Bool
  | a :: as, b :: bs => eq1 a b && eqA as bs
  | _, _ => true

/-- An index into an array, held within it. -/
def clampN (i n : Nat) : Nat := if i < n then i else n - 1

/-- The bits of two integers. -/
def bitop (op : BinOp) (k : IntKind) (x y : Int) : Int :=
  match op with
  | .and => k.wrap (BitVec.ofInt k.bits x &&& BitVec.ofInt k.bits y).toNat
  | .or => k.wrap (BitVec.ofInt k.bits x ||| BitVec.ofInt k.bits y).toNat
  | .xor => k.wrap (BitVec.ofInt k.bits x ^^^ BitVec.ofInt k.bits y).toNat
  | .andNot => k.wrap (BitVec.ofInt k.bits x &&& ~~~(BitVec.ofInt k.bits y)).toNat
  | _ => 0

/-! ### Operations -/

inductive PO where
  | mv
  | nilown (sz : Nat) (z : List A)
  | pick
  | box (n : Nat)
  | alloc (n : Nat) (z : List A)
  | build (z : List A) (ps : List (Nat × Nat))
  | bslice (sz : Nat) (z : List A)
  | bown (sz : Nat) (z : List A)
  | load (n : Nat) (ag : Bool)
  | store (n : Nat)
  | bin (op : BinOp)
  | eqb (neg : Bool)
  | eqa (neg : Bool) (ks : List LK)
  | not
  | neg
  | field (off n : Nat) (ag : Bool)
  | faddr (off : Nat)
  | iaA (n sz : Nat)
  | iaS (sz : Nat) (z : List A)
  | idxA (n sz : Nat) (ag : Bool)
  | idxS
  | slc (sz : Nat) (lo hi mx : Bool)
  | slcS (lo hi : Bool)
  | ext (i : Nat)
  | len
  | lenS
  | append (sz bytes : Nat) (z : List A)
  | copy (sz : Nat)
  | mk (sz bytes : Nat) (z : List A)
  | conv (k : IntKind)
  | min
  | max
  | nilck
  | call (f : FuncId)
  | callv
  | callm (f : FuncId)
  | callvm
  | mkf (f : FuncId)

inductive PX where
  | t (n : Nat)
  | c (a : A)
  | g (g : Nat)
  | f (f : FuncId)

structure POp where
  dst : Option Nat
  g : Option (Nat × Bool)
  po : PO
  xs : List PX

/-- What an operation yields: what it asks; its value; what becomes of memory. -/
structure Ef where
  obl : Prop
  v : A
  mw : List (Nat × MS)

def evBin (op : BinOp) : A → A → Option (Prop × A)
  | .int k a, .int k' b =>
    match op with
    | .shl => some (0 ≤ b, .int k (k.wrap (a * 2 ^ (Nat.min b.toNat k.bits))))
    | .shr => some (0 ≤ b, .int k (a.fdiv (2 ^ (Nat.min b.toNat k.bits))))
    | op => if k = k' then
        match op with
        | .add => some (True, .int k (k.wrap (a + b)))
        | .sub => some (True, .int k (k.wrap (a - b)))
        | .mul => some (True, .int k (k.wrap (a * b)))
        | .quo => some (b ≠ 0, .int k (k.wrap (a.tdiv b)))
        | .rem => some (b ≠ 0, .int k (a.tmod b))
        | .eql => some (True, .bool (decide (a = b)))
        | .neq => some (True, .bool (!decide (a = b)))
        | .lss => some (True, .bool (decide (a < b)))
        | .leq => some (True, .bool (decide (a ≤ b)))
        | .gtr => some (True, .bool (decide (b < a)))
        | .geq => some (True, .bool (decide (b ≤ a)))
        | .and => some (True, .int k (bitop .and k a b))
        | .or => some (True, .int k (bitop .or k a b))
        | .xor => some (True, .int k (bitop .xor k a b))
        | .andNot => some (True, .int k (bitop .andNot k a b))
        | _ => none
      else none
  | .str a, .str b =>
    match op with
    | .add => some (((a.size + b.size : Nat) : Int) ≤ IntKind.i64.max, .str (a ++ b))
    | .eql => some (True, .bool (a.toList == b.toList))
    | .neq => some (True, .bool (!(a.toList == b.toList)))
    | .lss => some (True, .bool (Op.bytesLess a.toList b.toList))
    | .leq => some (True, .bool (Op.bytesLess a.toList b.toList || a.toList == b.toList))
    | .gtr => some (True, .bool (!(Op.bytesLess a.toList b.toList || a.toList == b.toList)))
    | .geq => some (True, .bool (!Op.bytesLess a.toList b.toList))
    | _ => none
  | _, _ => none

/-- The elements of a slice's value, if known. -/
def elems (m : Nat → MS) : A → Option (List (List A))
  | .sl es => some es
  | .full es => some es
  | .own x lo n => match m x with
    | .row r => some ((r.es.drop lo).take n)
    | _ => none
  | .str s => some (s.toList.map fun b => [A.int .u8 b.toNat])
  | _ => none

def elemsOk (m : Nat → MS) : A → Prop
  | .own x lo n => match m x with
    | .row r => lo + n ≤ r.es.length
    | _ => False
  | _ => True

/-- A cut of a slice or a string: the bounds are given or left out. -/
def evSlc (m : Nat → MS) (sz : Nat) (x : A) (lo hi : Option Int) (mx : Option Int) : Option (Prop × A) :=
  match x, mx with
  | .sl es, none => some (0 ≤ lo.getD 0 ∧ lo.getD 0 ≤ hi.getD es.length ∧ hi.getD es.length ≤ es.length ∧ AllLen sz es, .sl ((es.take (hi.getD es.length).toNat).drop (lo.getD 0).toNat))
  | .full es, none => some (0 ≤ lo.getD 0 ∧ lo.getD 0 ≤ hi.getD es.length ∧ hi.getD es.length ≤ es.length ∧ AllLen sz es, .sl ((es.take (hi.getD es.length).toNat).drop (lo.getD 0).toNat))
  | .own y l n, none => match m y with
    | .row r => some (0 ≤ lo.getD 0 ∧ lo.getD 0 ≤ hi.getD n ∧ hi.getD n ≤ n ∧ r.sz = sz, .own y (l + (lo.getD 0).toNat) ((hi.getD n).toNat - (lo.getD 0).toNat))
    | _ => none
  | .str s, none => some (0 ≤ lo.getD 0 ∧ lo.getD 0 ≤ hi.getD s.size ∧ hi.getD s.size ≤ s.size, .str (s.extract (lo.getD 0).toNat (hi.getD s.size).toNat))
  | .sl es, some m => match hi with
    | some h => some (0 ≤ lo.getD 0 ∧ lo.getD 0 ≤ h ∧ h ≤ es.length ∧ h = m ∧ AllLen sz es, .full ((es.take h.toNat).drop (lo.getD 0).toNat))
    | none => none
  | .full es, some m => match hi with
    | some h => some (0 ≤ lo.getD 0 ∧ lo.getD 0 ≤ h ∧ h ≤ es.length ∧ h = m ∧ AllLen sz es, .full ((es.take h.toNat).drop (lo.getD 0).toNat))
    | none => none
  | _, _ => none

/-- Parts laid into a struct's or an array's cells. -/
def laid : List A → List (Nat × Nat) → List A → List A
  | z, p :: ps, x :: xs => laid (upd z p.1 x.cells) ps xs
  | z, _, _ => z

def laidOk (n : Nat) : List (Nat × Nat) → List A → Prop
  | p :: ps, x :: xs => x.isV = true ∧ x.cells.length = p.2 ∧ p.1 + p.2 ≤ n ∧ laidOk n ps xs
  | [], [] => True
  | _, _ => False

def allV : List A → Bool
  | [] => true
  | x :: xs => x.isV && allV xs

def mapCells : List A → List (List A)
  | [] => []
  | x :: xs => x.cells :: mapCells xs

def A.isStr : A → Bool
  | .str _ => true
  | _ => false

def A.isK : A → Bool
  | .bool _ | .int _ _ | .str _ | .sl _ | .full _ | .own _ _ _ | .ptr _ _ _ => true
  | .clo _ [] => true
  | _ => false

def allK : List A → Bool
  | [] => true
  | x :: xs => x.isK && allK xs

/-- Plain data in one cell, by its look. -/
def A.pure1 : A → Bool
  | .bool _ | .int _ _ | .str _ | .sl _ | .full _ | .clo _ [] => true
  | _ => false

def PureRows (es : List (List A)) : Prop := ∀ c ∈ es, ∀ a ∈ c, A.pure1 a = true

/-- What an operation but a call or a pick yields, at its operands' values. 'id': the name of what it makes. -/
def ev (id : Nat) (m : Nat → MS) : PO → List A → Option Ef
  | .mv, [x] => some ⟨True, x, []⟩
  | .nilown sz z, [_] => some ⟨0 < sz, .own id 0 0, [(id, .row ⟨false, sz, z, []⟩)]⟩
  | .box n, [x] => some ⟨x.isV = true ∧ 0 < n ∧ x.cells.length = n, .ptr id 0 0, [(id, .row ⟨false, n, x.cells, [x.cells]⟩)]⟩
  | .alloc n z, [] => some ⟨0 < n ∧ z.length = n, .ptr id 0 0, [(id, .row ⟨false, n, z, [z]⟩)]⟩
  | .build z ps, xs => some ⟨laidOk z.length ps xs, .agg (laid z ps xs), []⟩
  | .bslice sz _, xs => some ⟨0 < sz ∧ allV xs = true ∧ AllLen sz (mapCells xs) ∧ PureRows (mapCells xs) ∧ xs.length * sz ≤ 16777216, .full (mapCells xs), []⟩
  | .bown sz z, xs => some ⟨0 < sz ∧ allV xs = true ∧ AllLen sz (mapCells xs) ∧ xs.length * sz ≤ 16777216, .own id 0 xs.length, [(id, .row ⟨false, sz, z, mapCells xs⟩)]⟩
  | .load n ag, [x] =>
    match x with
    | .ptr y i j => match m y with
      | .row r => some ⟨i < r.es.length ∧ j + n ≤ r.sz, ofCells ag (sub (r.es.getD i r.z) j n), []⟩
      | _ => none
    | .rd cs off => some ⟨off + n ≤ cs.length, ofCells ag (sub cs off n), []⟩
    | _ => none
  | .store n, [p, x] =>
    match p with
    | .ptr y i j => match m y with
      | .row r => some ⟨r.ro = false ∧ x.isV = true ∧ i < r.es.length ∧ j + n ≤ r.sz ∧ x.cells.length = n, .any,
          [(y, .row ⟨r.ro, r.sz, r.z, r.es.set i (upd (r.es.getD i r.z) j x.cells)⟩)]⟩
      | _ => none
    | _ => none
  | .bin op, [x, y] => (evBin op x y).map fun q => ⟨q.1, q.2, []⟩
  | .eqb neg, [.bool x, .bool y] => some ⟨True, .bool (if neg then !decide (x = y) else decide (x = y)), []⟩
  | .eqa neg ks, [.agg xs, .agg ys] => some ⟨kindsOk ks xs = true ∧ kindsOk ks ys = true, .bool (if neg then !eqA xs ys else eqA xs ys), []⟩
  | .not, [.bool x] => some ⟨True, .bool (!x), []⟩
  | .neg, [.int k n] => some ⟨True, .int k (k.wrap (0 - n)), []⟩
  | .field off n ag, [.agg cs] => some ⟨off + n ≤ cs.length, ofCells ag (sub cs off n), []⟩
  | .faddr off, [x] =>
    match x with
    | .ptr y i j => match m y with
      | .row _ => some ⟨True, .ptr y i (j + off), []⟩
      | _ => none
    | .rd cs o => some ⟨True, .rd cs (o + off), []⟩
    | _ => none
  | .iaA n sz, [x, .int _ k] =>
    match x with
    | .ptr y i j => match m y with
      | .row _ => some ⟨0 ≤ k ∧ k < n, .ptr y i (j + clampN k.toNat n * sz), []⟩
      | _ => none
    | .rd cs o => some ⟨0 ≤ k ∧ k < n, .rd cs (o + clampN k.toNat n * sz), []⟩
    | _ => none
  | .iaS sz z, [x, .int _ k] =>
    match x with
    | .sl es => some ⟨0 ≤ k ∧ k < es.length ∧ (es.getD k.toNat z).length = sz, .rd (es.getD k.toNat z) 0, []⟩
    | .full es => some ⟨0 ≤ k ∧ k < es.length ∧ (es.getD k.toNat z).length = sz, .rd (es.getD k.toNat z) 0, []⟩
    | .own y lo n => match m y with
      | .row r => some ⟨0 ≤ k ∧ k < n ∧ r.sz = sz, .ptr y (lo + k.toNat) 0, []⟩
      | _ => none
    | _ => none
  | .idxA n sz ag, [.agg cs, .int _ k] => some ⟨0 ≤ k ∧ k < n ∧ n * sz = cs.length, ofCells ag (sub cs (clampN k.toNat n * sz) sz), []⟩
  | .idxS, [.str s, .int _ k] => some ⟨0 ≤ k ∧ k < s.size, .int .u8 (s.toList.getD k.toNat 0).toNat, []⟩
  | .slc sz false false false, [x] => if x.isStr then none else (evSlc m sz x none none none).map fun q => ⟨q.1, q.2, []⟩
  | .slc sz true false false, [x, .int _ l] => if x.isStr then none else (evSlc m sz x (some l) none none).map fun q => ⟨q.1, q.2, []⟩
  | .slc sz false true false, [x, .int _ h] => if x.isStr then none else (evSlc m sz x none (some h) none).map fun q => ⟨q.1, q.2, []⟩
  | .slc sz true true false, [x, .int _ l, .int _ h] => if x.isStr then none else (evSlc m sz x (some l) (some h) none).map fun q => ⟨q.1, q.2, []⟩
  | .slc sz false true true, [x, .int _ h, .int _ c] => if x.isStr then none else (evSlc m sz x none (some h) (some c)).map fun q => ⟨q.1, q.2, []⟩
  | .slc sz true true true, [x, .int _ l, .int _ h, .int _ c] => if x.isStr then none else (evSlc m sz x (some l) (some h) (some c)).map fun q => ⟨q.1, q.2, []⟩
  | .slcS false false, [.str s] => (evSlc m 0 (.str s) none none none).map fun q => ⟨q.1, q.2, []⟩
  | .slcS true false, [.str s, .int _ l] => (evSlc m 0 (.str s) (some l) none none).map fun q => ⟨q.1, q.2, []⟩
  | .slcS false true, [.str s, .int _ h] => (evSlc m 0 (.str s) none (some h) none).map fun q => ⟨q.1, q.2, []⟩
  | .slcS true true, [.str s, .int _ l, .int _ h] => (evSlc m 0 (.str s) (some l) (some h) none).map fun q => ⟨q.1, q.2, []⟩
  | .ext i, [.tup vs] => some ⟨i < vs.length, vs.getD i .any, []⟩
  | .len, [x] =>
    match x with
    | .sl es => some ⟨True, .int .i64 es.length, []⟩
    | .full es => some ⟨True, .int .i64 es.length, []⟩
    | .own y _ n => match m y with
      | .row _ => some ⟨True, .int .i64 n, []⟩
      | _ => none
    | _ => none
  | .lenS, [.str s] => some ⟨True, .int .i64 s.size, []⟩
  | .append sz bytes z, [b, x] =>
    (elems m x).bind fun new =>
    match b with
    | .full es => some ⟨0 < sz ∧ es = [] ∧ elemsOk m x ∧ AllLen sz new ∧ new.length * bytes ≤ 140737488355328 ∧ new.length ≤ maxLen, .own id 0 new.length, [(id, .row ⟨false, sz, z, new⟩)]⟩
    | .own y lo n => match m y with
      | .row r => some ⟨r.ro = false ∧ lo = 0 ∧ n = r.es.length ∧ r.sz = sz ∧ elemsOk m x ∧ AllLen sz new ∧ (n + new.length) * bytes ≤ 140737488355328 ∧ n + new.length ≤ maxLen,
          .own id 0 (n + new.length), [(y, .dead), (id, .row ⟨false, sz, r.z, r.es ++ new⟩)]⟩
      | _ => none
    | _ => none
  | .copy sz, [d, x] =>
    (elems m x).bind fun new =>
    match d with
    | .own y lo n => match m y with
      | .row r => some ⟨r.ro = false ∧ r.sz = sz ∧ lo + n ≤ r.es.length ∧ elemsOk m x ∧ AllLen sz new, .int .i64 (Nat.min new.length n),
          [(y, .row ⟨false, sz, r.z, r.es.take lo ++ new.take n ++ r.es.drop (lo + Nat.min new.length n)⟩)]⟩
      | _ => none
    | _ => none
  | .mk sz bytes z, [.int _ l, .int _ c] =>
    some ⟨0 < sz ∧ z.length = sz ∧ 0 ≤ l ∧ l ≤ c ∧ c * bytes ≤ 140737488355328 ∧ c ≤ maxLen, .own id 0 l.toNat, [(id, .row ⟨false, sz, z, List.replicate l.toNat z⟩)]⟩
  | .conv k, [.int _ n] => some ⟨True, .int k (k.wrap n), []⟩
  | .min, [.int k x, .int k' y] => some ⟨k = k', .int k (if y < x then y else x), []⟩
  | .max, [.int k x, .int k' y] => some ⟨k = k', .int k (if x < y then y else x), []⟩
  | .nilck, [x] =>
    match x with
    | .ptr y _ _ => match m y with
      | .row _ => some ⟨True, x, []⟩
      | _ => none
    | .rd _ _ => some ⟨True, x, []⟩
    | .clo _ _ => some ⟨True, x, []⟩
    | _ => none
  | .mkf f, xs => some ⟨allK xs = true, .clo f xs, []⟩
  | _, _ => none

/-! ### States -/

structure S where
  fr : Nat → A
  mem : Nat → MS

structure Env where
  w0 : World
  Win : Nat → Prop
  Mb : Nat → Prop
  N : Nat
  G : Globs
  k0 : Nat
  μ0 : Nat → Loc

structure SatW (E : Env) (s : S) (a : Act) (w : World) (W : Nat → Prop) (μ : Nat → Loc) : Prop where
  defers : a.defers = []
  size : a.tmps.size = E.N
  fr : ∀ t, Rep w W μ (a.tmps.getD t undef) (s.fr t)
  mem : MemOk w W μ s.mem
  inj : ∀ x y k k', μ x = .at_ k → μ y = .at_ k' → k.b = k'.b → x = y
  keeps : Keeps E.Mb E.w0 w
  winlt : ∀ b, E.Win b → b < E.w0.heap.size
  wsub : ∀ b, W b → E.Win b ∨ E.w0.heap.size ≤ b
  wsup : ∀ b, E.Win b → W b ∨ E.Mb b
  wlt : ∀ b, W b → b < w.heap.size
  live : ∀ x k, μ x = .at_ k → E.Mb k.b ∨ E.w0.heap.size ≤ k.b
  glob : GlobOk w W E.G
  fix : ∀ x, x < E.k0 → (μ x = E.μ0 x ∧ μ x ≠ .fresh) ∨ μ x = .dead

def Sat (E : Env) (s : S) (a : Act) (w : World) : Prop := ∃ W μ, SatW E s a w W μ

/-- Memory after some writes. -/
def setM (m : Nat → MS) : List (Nat × MS) → Nat → MS
  | [] => m
  | q :: r => setM (fun x => if x = q.1 then q.2 else m x) r

def setF (f : Nat → A) (d : Option Nat) (a : A) : Nat → A := fun t => if d = some t then a else f t

/-- A step of the world with its readings. -/
structure Step (m m' : Nat → MS) (w w' : World) (W W' : Nat → Prop) (μ μ' : Nat → Loc) : Prop where
  keeps : Keeps (fun b => W b ∧ ∃ y k, μ y = .at_ k ∧ k.b = b) w w'
  hW : ∀ b, b < w.heap.size → W' b → W b
  wsup : ∀ b, W b → W' b ∨ ∃ y k, μ y = .at_ k ∧ k.b = b
  wlt0 : ∀ b, W b → b < w.heap.size
  wlt : ∀ b, W' b → b < w'.heap.size
  old : Old μ μ'
  mem : MemOk w' W' μ' m'
  inj : ∀ x y k k', μ' x = .at_ k → μ' y = .at_ k' → k.b = k'.b → x = y
  live : ∀ x k, μ' x = .at_ k → (∃ y k', μ y = .at_ k' ∧ k'.b = k.b) ∨ w.heap.size ≤ k.b

theorem Rep.step {m m' : Nat → MS} {w w' : World} {W W' : Nat → Prop} {μ μ' : Nat → Loc} (h : Step m m' w w' W W' μ μ') {v : Value} {a : A} (hr : Rep w W μ v a) : Rep w' W' μ' v a :=
  hr.goes h.keeps (fun _ _ h1 h2 => h1 h2.1) (fun b hb h1 h2 => h1 (h.hW b hb h2)) h.old

theorem RepV.step {m m' : Nat → MS} {w w' : World} {W W' : Nat → Prop} {μ μ' : Nat → Loc} (h : Step m m' w w' W W' μ μ') {v : Value} {a : A} (hr : RepV w W μ v a) : RepV w' W' μ' v a :=
  hr.goes h.keeps (fun _ _ h1 h2 => h1 h2.1) (fun b hb h1 h2 => h1 (h.hW b hb h2)) h.old

theorem RepK.step {m m' : Nat → MS} {w w' : World} {W W' : Nat → Prop} {μ μ' : Nat → Loc} (h : Step m m' w w' W W' μ μ') {v : Value} {a : A} (hr : RepK w W μ v a) : RepK w' W' μ' v a :=
  hr.goes h.keeps (fun _ _ h1 h2 => h1 h2.1) (fun b hb h1 h2 => h1 (h.hW b hb h2)) h.old

theorem getD_put (a : Act) (d : Option Nat) (v : Value) (t : Nat) (hd : ∀ x, d = some x → x < a.tmps.size) :
    (a.put d v).tmps.getD t undef = if d = some t then v else a.tmps.getD t undef := by
  cases d with
  | none => simp [Act.put]
  | some x =>
    have hx := hd x rfl
    simp only [Act.put, Option.some.injEq]
    by_cases h : x = t
    · subst h; simp [hx]
    · simp only [if_neg h, Array.getD_eq_getD_getElem?, Array.getElem?_setIfInBounds_ne h]

theorem SatW.step {E : Env} {s : S} {a : Act} {w w' : World} {W W' : Nat → Prop} {μ μ' : Nat → Loc} (hs : SatW E s a w W μ) {m' : Nat → MS} (h : Step s.mem m' w w' W W' μ μ')
    {d : Option Nat} {v : Value} {av : A} (hd : ∀ x, d = some x → x < E.N) (hv : Rep w' W' μ' v av) : SatW E ⟨setF s.fr d av, m'⟩ (a.put d v) w' W' μ' where
  defers := by cases d <;> exact hs.defers
  size := by
    have := hs.size
    cases d <;> simp [Act.put, this]
  fr := fun t => by
    rw [getD_put a d v t (fun x hx => by rw [hs.size]; exact hd x hx)]
    simp only [setF]
    split
    · exact hv
    · exact (hs.fr t).step h
  mem := h.mem
  inj := h.inj
  keeps := hs.keeps.trans h.keeps (fun x hx hh => by
    obtain ⟨_, y, k, hy, rfl⟩ := hh
    rcases hs.live y k hy with h1 | h1
    · exact h1
    · omega)
  winlt := hs.winlt
  wsub := fun b hb => by
    by_cases hlt : b < w.heap.size
    · exact hs.wsub b (h.hW b hlt hb)
    · have := hs.keeps.size; exact .inr (by omega)
  wsup := fun b hb => by
    rcases hs.wsup b hb with h1 | h1
    · rcases h.wsup b h1 with h2 | ⟨y, k, hy, rfl⟩
      · exact .inl h2
      · rcases hs.live y k hy with h3 | h3
        · exact .inr h3
        · have := hs.winlt _ hb; omega
    · exact .inr h1
  wlt := h.wlt
  live := fun x k hx => by
    rcases h.live x k hx with ⟨y, k', hy, he⟩ | h1
    · rw [← he]; exact hs.live y k' hy
    · have := hs.keeps.size; exact .inr (by omega)
  glob := fun g cs hg => by
    obtain ⟨h1, h2, h3⟩ := hs.glob g cs hg
    refine ⟨fun hh => h1 (h.hW g h2 hh), Nat.lt_of_lt_of_le h2 h.keeps.size, fun j a hj => ?_⟩
    obtain ⟨u, hu, hr⟩ := h3 j a hj
    exact ⟨u, (World.cell?_of_block (w := w) (h.keeps.block g h2 (fun hh => h1 hh.1))).trans hu,
      hr.keep h.keeps (fun _ _ h1 h2 => h1 h2.1) (fun b hb h1 h2 => h1 (h.hW b hb h2))⟩
  fix := fun x hx => by
    rcases hs.fix x hx with ⟨h1, h2⟩ | h1
    · rcases h.old x h2 with e | e
      · exact .inl ⟨e.trans h1, by rw [e]; exact h2⟩
      · exact .inr e
    · rcases h.old x (by rw [h1]; simp) with e | e
      · exact .inr (e.trans h1)
      · exact .inr e

/-! ### Steps of several kinds -/

section
variable {w w' : World} {W W' : Nat → Prop} {μ μ' : Nat → Loc} {m : Nat → MS}

theorem RowOk.goes {D : Nat → Prop} {r : Row} {k : Blk} (hk : Keeps D w w') (hD : ∀ b, b < w.heap.size → ¬ W b → ¬ D b) (hW : ∀ b, b < w.heap.size → ¬ W b → ¬ W' b) (ho : Old μ μ')
    (hb : ¬ D k.b) (hw : W k.b → W' k.b) (h : RowOk w W μ r k) : RowOk w' W' μ' r k := by
  obtain ⟨h1, h2, h3, us, rest, e, h4, h5, h6⟩ := h
  refine ⟨fun hr => hw (h1 hr), h2, h3, us, rest, e, ?_, h5, h6.mono fun u a hr => hr.goes hk hD hW ho⟩
  rw [hk.block k.b (Array.getElem?_eq_some_iff.1 h4).1 hb]
  exact h4

theorem RowOk.lt {r : Row} {k : Blk} (h : RowOk w W μ r k) : k.b < w.heap.size := by
  obtain ⟨_, _, _, us, rest, e, h4, _⟩ := h
  exact (Array.getElem?_eq_some_iff.1 h4).1

theorem MemAt.goes {D : Nat → Prop} {x : Nat} {q : MS} (hk : Keeps D w w') (hD : ∀ b, b < w.heap.size → ¬ W b → ¬ D b) (hW : ∀ b, b < w.heap.size → ¬ W b → ¬ W' b) (ho : Old μ μ')
    (hx : μ' x = μ x) (hb : ∀ k, μ x = .at_ k → ¬ D k.b) (hw : ∀ b, W b → W' b) (h : MemAt w W μ x q) : MemAt w' W' μ' x q := by
  cases q with
  | fresh => exact hx.trans h
  | dead => exact hx.trans h
  | row r =>
    rcases h with ⟨h1, h2⟩ | ⟨k, h1, h2⟩
    · exact .inl ⟨hx.trans h1, h2⟩
    · exact .inr ⟨k, hx.trans h1, h2.goes hk hD hW ho (hb k h1) (hw _)⟩

/-- What an id's block is. -/
theorem MemOk.at_ (h : MemOk w W μ m) {x : Nat} {k : Blk} (hx : μ x = .at_ k) : ∃ r, m x = .row r ∧ RowOk w W μ r k := by
  have := h x
  cases hr : m x with
  | fresh => rw [hr] at this; exact absurd (hx.symm.trans this) (by simp)
  | dead => rw [hr] at this; exact absurd (hx.symm.trans this) (by simp)
  | row r =>
    rw [hr] at this
    rcases this with ⟨h1, _⟩ | ⟨k', h1, h2⟩
    · rw [hx] at h1; cases h1
    · rw [hx] at h1; cases h1; exact ⟨r, rfl, h2⟩

/-- Nothing owned turns: reads, draws, new blocks that hold plain data. -/
theorem Step.quiet (hk : Keeps (fun _ => False) w w') (hm : MemOk w W μ m) (hi : ∀ x y k k', μ x = .at_ k → μ y = .at_ k' → k.b = k'.b → x = y) (hl : ∀ b, W b → b < w.heap.size) :
    Step m m w w' W W μ μ where
  keeps := hk.mono fun _ _ h => h.elim
  hW := fun _ _ h => h
  wsup := fun _ h => .inl h
  wlt := fun b h => Nat.lt_of_lt_of_le (hl b h) hk.size
  old := Old.refl μ
  wlt0 := hl
  mem := fun x => (hm x).goes hk (fun _ _ _ h => h) (fun _ _ h => h) (Old.refl μ) rfl (fun _ _ h => h) (fun _ h => h)
  inj := hi
  live := fun x k h => .inl ⟨x, k, h, rfl⟩

/-- A new row, in a new block. -/
theorem Step.new (hm : MemOk w W μ m) (hi : ∀ x y k k', μ x = .at_ k → μ y = .at_ k' → k.b = k'.b → x = y) (hl : ∀ b, W b → b < w.heap.size)
    {id : Nat} (hid : m id = .fresh) {r : Row} {us rest : List Value} {e : TypeId} (hz : 0 < r.sz) (hk : Keeps (fun _ => False) w w') (hf : Flat (RepK w W μ) r.sz us r.es)
    (hh : w'.heap[w.heap.size]? = some (.cells (us ++ rest).toArray e (0, 0))) :
    Step m (setM m [(id, .row r)]) w w' W (fun b => W b ∨ b = w.heap.size) μ (fun x => if x = id then .at_ ⟨w.heap.size, r.sz, us.length + rest.length⟩ else μ x) := by
  have hfr : μ id = .fresh := by have := hm id; rw [hid] at this; exact this
  have hold : Old μ (fun x => if x = id then .at_ ⟨w.heap.size, r.sz, us.length + rest.length⟩ else μ x) := fun x hx => by
    by_cases h : x = id
    · subst h; exact absurd hfr hx
    · exact .inl (by simp [h])
  have hlt : w.heap.size < w'.heap.size := (Array.getElem?_eq_some_iff.1 hh).1
  refine ⟨hk.mono fun _ _ h => h.elim, fun b hb h => ?_, fun b h => .inl (.inl h), hl, fun b h => ?_, hold, fun x => ?_, fun x y k k' hx hy he => ?_, fun x k hx => ?_⟩
  · rcases h with h | h
    · exact h
    · omega
  · rcases h with h | h
    · exact Nat.lt_of_lt_of_le (hl b h) hk.size
    · omega
  · simp only [setM]
    by_cases h : x = id
    · subst h
      simp only [if_true]
      exact .inr ⟨⟨w.heap.size, r.sz, us.length + rest.length⟩, by simp, fun _ => .inr rfl, rfl, hz, us, rest, e, hh, rfl, hf.mono fun u a hr => hr.goes hk (fun _ _ _ h => h) (fun b hb h1 h2 => h2.elim h1 (by omega)) hold⟩
    · simp only [if_neg h]
      exact (hm x).goes hk (fun _ _ _ h => h) (fun b hb h1 h2 => h2.elim h1 (by omega)) hold (by simp [h]) (fun _ _ h => h) (fun _ h => .inl h)
  · have big : ∀ z kz, μ z = .at_ kz → kz.b < w.heap.size := fun z kz hz => by obtain ⟨_, _, h⟩ := hm.at_ hz; exact h.lt
    try simp only at hx hy
    split at hx <;> split at hy
    · subst_vars; rfl
    · cases hx; have := big _ _ hy; simp only at he; omega
    · cases hy; have := big _ _ hx; simp only at he; omega
    · exact hi x y k k' hx hy he
  · try simp only at hx
    split at hx
    · cases hx; exact .inr (Nat.le_refl _)
    · exact .inl ⟨x, k, hx, rfl⟩

/-- A new row without a block. -/
theorem Step.newEmpty (hm : MemOk w W μ m) (hi : ∀ x y k k', μ x = .at_ k → μ y = .at_ k' → k.b = k'.b → x = y) (hl : ∀ b, W b → b < w.heap.size)
    {id : Nat} (hid : m id = .fresh) {r : Row} (hz : 0 < r.sz) (he : r.es = []) (hk : Keeps (fun _ => False) w w') :
    Step m (setM m [(id, .row r)]) w w' W W μ (fun x => if x = id then .empty else μ x) := by
  have hfr : μ id = .fresh := by have := hm id; rw [hid] at this; exact this
  have hold : Old μ (fun x => if x = id then .empty else μ x) := fun x hx => by
    by_cases h : x = id
    · subst h; exact absurd hfr hx
    · exact .inl (by simp [h])
  refine ⟨hk.mono fun _ _ h => h.elim, fun b hb h => h, fun b h => .inl h, hl, fun b h => Nat.lt_of_lt_of_le (hl b h) hk.size, hold, fun x => ?_, fun x y k k' hx hy he => ?_, fun x k hx => ?_⟩
  · simp only [setM]
    by_cases h : x = id
    · subst h
      simp only [if_true]
      exact .inl ⟨by simp, he, hz⟩
    · simp only [if_neg h]
      exact (hm x).goes hk (fun _ _ _ h => h) (fun _ _ h => h) hold (by simp [h]) (fun _ _ h => h) (fun _ h => h)
  · try simp only at hx hy
    split at hx <;> split at hy <;> first | (cases hx; done) | (cases hy; done) | exact hi x y k k' hx hy he
  · try simp only at hx
    split at hx
    · cases hx
    · exact .inl ⟨x, k, hx, rfl⟩

/-- A row's cells are written. -/
theorem Step.write (hm : MemOk w W μ m) (hi : ∀ x y k k', μ x = .at_ k → μ y = .at_ k' → k.b = k'.b → x = y) (hl : ∀ b, W b → b < w.heap.size)
    {x : Nat} {k : Blk} {r r' : Row} (hx : μ x = .at_ k) (hr : m x = .row r) (hro : r.ro = false) (hsz : r'.sz = r.sz)
    {us rest : List Value} {e : TypeId} (hk : Keeps (fun b => b = k.b) w w') (hf : Flat (RepK w W μ) r'.sz us r'.es)
    (hh : w'.heap[k.b]? = some (.cells (us ++ rest).toArray e (0, 0))) (ht : us.length + rest.length = k.tot) :
    Step m (setM m [(x, .row r')]) w w' W W μ μ := by
  obtain ⟨r0, h0, hrow⟩ := hm.at_ hx
  rw [hr] at h0; cases h0
  have hWk : W k.b := hrow.1 hro
  have hD : ∀ b, b < w.heap.size → ¬ W b → ¬ b = k.b := fun b _ h1 h2 => h1 (h2 ▸ hWk)
  refine ⟨hk.mono fun b _ h => h ▸ ⟨hWk, x, k, hx, rfl⟩, fun _ _ h => h, fun _ h => .inl h, hl, fun b h => Nat.lt_of_lt_of_le (hl b h) hk.size, Old.refl μ, fun y => ?_, hi, fun y k' h => .inl ⟨y, k', h, rfl⟩⟩
  simp only [setM]
  by_cases h : y = x
  · subst h
    simp only [if_true]
    exact .inr ⟨k, hx, fun _ => hWk, hrow.2.1.trans hsz.symm, hsz ▸ hrow.2.2.1, us, rest, e, hh, ht, hf.mono fun u a hr => hr.goes hk hD (fun _ _ h => h) (Old.refl μ)⟩
  · simp only [if_neg h]
    exact (hm y).goes hk hD (fun _ _ h => h) (Old.refl μ) rfl (fun k1 h1 he => h (hi y x k1 k h1 hx he)) (fun _ h => h)

/-- An id is given up. -/
theorem Step.kill (hm : MemOk w W μ m) (hi : ∀ x y k k', μ x = .at_ k → μ y = .at_ k' → k.b = k'.b → x = y) (hl : ∀ b, W b → b < w.heap.size) {x : Nat} :
    Step m (setM m [(x, .dead)]) w w W W μ (fun y => if y = x then .dead else μ y) := by
  have hold : Old μ (fun y => if y = x then .dead else μ y) := fun y hy => by
    by_cases h : y = x
    · exact .inr (by simp [h])
    · exact .inl (by simp [h])
  refine ⟨Keeps.refl _ w, fun _ _ h => h, fun _ h => .inl h, hl, hl, hold, fun y => ?_, fun y z k k' hy hz he => ?_, fun y k hy => ?_⟩
  · simp only [setM]
    by_cases h : y = x
    · simp only [if_pos h, MemAt]
    · simp only [if_neg h]
      exact (hm y).goes (Keeps.refl (fun _ => False) w) (fun _ _ _ h => h) (fun _ _ h => h) hold (by simp [h]) (fun _ _ h => h) (fun _ h => h)
  · try simp only at hy hz
    split at hy <;> split at hz <;> first | (cases hy; done) | (cases hz; done) | exact hi y z k k' hy hz he
  · try simp only at hy
    split at hy
    · cases hy
    · exact .inl ⟨y, k, hy, rfl⟩

/-- A block goes from one id to a new one, with what has been written. -/
theorem Step.moved (hm : MemOk w W μ m) (hi : ∀ x y k k', μ x = .at_ k → μ y = .at_ k' → k.b = k'.b → x = y) (hl : ∀ b, W b → b < w.heap.size)
    {x id : Nat} {k : Blk} {r r' : Row} (hx : μ x = .at_ k) (hr : m x = .row r) (hro : r.ro = false) (hsz : r'.sz = r.sz) (hid : m id = .fresh)
    {us rest : List Value} {e : TypeId} (hk : Keeps (fun b => b = k.b) w w') (hf : Flat (RepK w W μ) r'.sz us r'.es)
    (hh : w'.heap[k.b]? = some (.cells (us ++ rest).toArray e (0, 0))) (ht : us.length + rest.length = k.tot) :
    Step m (setM m [(x, .dead), (id, .row r')]) w w' W W μ (fun y => if y = id then .at_ k else if y = x then .dead else μ y) := by
  obtain ⟨r0, h0, hrow⟩ := hm.at_ hx
  rw [hr] at h0; cases h0
  have hfr : μ id = .fresh := by have := hm id; rw [hid] at this; exact this
  have hne : id ≠ x := fun e => by subst e; rw [hid] at hr; cases hr
  have hWk : W k.b := hrow.1 hro
  have hD : ∀ b, b < w.heap.size → ¬ W b → ¬ b = k.b := fun b _ h1 h2 => h1 (h2 ▸ hWk)
  have hold : Old μ (fun y => if y = id then .at_ k else if y = x then .dead else μ y) := fun y hy => by
    by_cases h : y = id
    · subst h; exact absurd hfr hy
    · by_cases h2 : y = x
      · subst h2; exact .inr (by simp [h])
      · exact .inl (by simp [h, h2])
  refine ⟨hk.mono fun b _ h => h ▸ ⟨hWk, x, k, hx, rfl⟩, fun _ _ h => h, fun _ h => .inl h, hl, fun b h => Nat.lt_of_lt_of_le (hl b h) hk.size, hold, fun y => ?_, fun y z k1 k2 hy hz he => ?_, fun y k1 hy => ?_⟩
  · simp only [setM]
    by_cases h : y = id
    · subst h
      simp only [if_true]
      exact .inr ⟨k, by simp, fun _ => hWk, hrow.2.1.trans hsz.symm, hsz ▸ hrow.2.2.1, us, rest, e, hh, ht, hf.mono fun u a hr => hr.goes hk hD (fun _ _ h => h) hold⟩
    · simp only [if_neg h]
      by_cases h2 : y = x
      · simp only [if_pos h2, MemAt, if_neg h]
      · simp only [if_neg h2]
        exact (hm y).goes hk hD (fun _ _ h => h) hold (by simp [h, h2]) (fun k1 h1 he => h2 (hi y x k1 k h1 hx he)) (fun _ h => h)
  · try simp only at hy hz
    have ex : ∀ y' k', ¬ y' = x → μ y' = .at_ k' → k'.b ≠ k.b := fun y' k' hn h1 h2 => hn (hi y' x k' k h1 hx h2)
    split at hy <;> split at hz
    · subst_vars; rfl
    · cases hy
      split at hz
      · cases hz
      · rename_i hn; exact absurd he.symm (ex _ _ hn hz)
    · cases hz
      split at hy
      · cases hy
      · rename_i hn; exact absurd he (ex _ _ hn hy)
    · split at hy
      · cases hy
      · split at hz
        · cases hz
        · exact hi y z k1 k2 hy hz he
  · try simp only at hy
    split at hy
    · cases hy; exact .inl ⟨x, k, hx, rfl⟩
    · split at hy
      · cases hy
      · exact .inl ⟨y, k1, hy, rfl⟩

theorem Step.trans {w'' : World} {W'' : Nat → Prop} {μ'' : Nat → Loc} {m' m'' : Nat → MS} (h : Step m m' w w' W W' μ μ') (k : Step m' m'' w' w'' W' W'' μ' μ'') : Step m m'' w w'' W W'' μ μ'' where
  keeps := h.keeps.trans k.keeps (fun x hx hh => by
    obtain ⟨h1, y, kk, hy, rfl⟩ := hh
    rcases h.live y kk hy with ⟨z, kz, hz, he⟩ | h2
    · exact ⟨h.hW _ hx h1, z, kz, hz, he⟩
    · omega)
  hW := fun b hb h1 => h.hW b hb (k.hW b (Nat.lt_of_lt_of_le hb h.keeps.size) h1)
  wsup := fun b hb => by
    rcases h.wsup b hb with h1 | h1
    · rcases k.wsup b h1 with h2 | ⟨y, kk, hy, rfl⟩
      · exact .inl h2
      · rcases h.live y kk hy with ⟨z, kz, hz, he⟩ | h3
        · exact .inr ⟨z, kz, hz, he⟩
        · have := h.wlt0 _ hb; omega
    · exact .inr h1
  wlt0 := h.wlt0
  wlt := k.wlt
  old := fun x hx => by
    rcases h.old x hx with e | e
    · rcases k.old x (e ▸ hx) with e2 | e2
      · exact .inl (e2.trans e)
      · exact .inr e2
    · rcases k.old x (by rw [e]; simp) with e2 | e2
      · exact .inr (e2.trans e)
      · exact .inr e2
  mem := k.mem
  inj := k.inj
  live := fun x kk hx => by
    rcases k.live x kk hx with ⟨y, ky, hy, he⟩ | h1
    · rcases h.live y ky hy with ⟨z, kz, hz, he2⟩ | h2
      · exact .inl ⟨z, kz, hz, he2.trans he⟩
      · exact .inr (he ▸ h2)
    · have := h.keeps.size; exact .inr (by omega)
end
end Ab
end Go.Proofs.YtmegjomldcfoaaaDoor
