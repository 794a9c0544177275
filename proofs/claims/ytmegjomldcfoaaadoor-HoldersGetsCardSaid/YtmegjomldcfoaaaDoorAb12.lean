/-
  The check that an operation of the small machine stands for one of the program, and what follows for each.
-/
import Derived.Test.YtmegjomldcfoaaaDoorAb11
namespace Go.Proofs.YtmegjomldcfoaaaDoor
namespace Ab

def chkXs : List Operand → List PX → Bool
  | [], [] => true
  | x :: xs, p :: ps => chkX x p && chkXs xs ps
  | _, _ => false

def isNilC : Operand → Bool
  | .const (.slice none 0 0) => true
  | _ => false

def undIs (P : Program) (T : TypeId) (f : TypeDesc → Bool) : Bool := match P.underlying T with | some d => f d | none => false

def isString : TypeDesc → Bool | .string => true | _ => false
def isSlice : TypeDesc → Bool | .slice _ => true | _ => false
def isBool : TypeDesc → Bool | .bool => true | _ => false
def isIntK (k : IntKind) : TypeDesc → Bool | .int k' => k == k' | _ => false

def fieldTy (P : Program) (T : TypeId) (f off n : Nat) (ag : Bool) : Bool :=
  (match P.underlying T with | some (.struct fs) => (match fs[f]? with | some g => g.offset == off && tyOk P g.type ag n | none => false) | _ => false)

def idxTy (P : Program) (T : TypeId) (n sz : Nat) (ag : Bool) : Bool :=
  (match P.underlying T with | some (.array m e) => m == n && tyOk P e ag sz | _ => false)

/-- A function with a body of its own. -/
def hasBody (P : Program) (f : FuncId) : Bool := match P.funcs[f]? with | some fn => fn.body.isSome && !(fn.name == "runtime.NumGoroutine") | none => false

def chkOp (P : Program) (op : Op) (po : PO) (xs : List PX) : Bool :=
  match po with
  | .mv => (match op with | .move x => chkXs [x] xs | .assign x => chkXs [x] xs | _ => false)
  | .nilown _ _ => (match op with | .move x => isNilC x && xs.length == 1 | .assign x => isNilC x && xs.length == 1 | _ => false)
  | .pick => (match op with | .pick c x y => chkXs [c, x, y] xs | _ => false)
  | .box _ => (match op with | .box _ x => chkXs [x] xs | _ => false)
  | .alloc n z => (match op with | .alloc T => zeroOk P T z && z.length == n && xs.isEmpty | _ => false)
  | .build z ps => (match op with | .build T parts => zeroOk P T z && buildTy P T parts.toList ps && chkXs (parts.toList.map (·.2)) xs | _ => false)
  | .bslice sz z => (match op with | .buildSlice T n parts => n == xs.length && bsTy P T sz z && inOrder 0 parts.toList && chkXs (parts.toList.map (·.2)) xs | _ => false)
  | .bown sz z => (match op with | .buildSlice T n parts => n == xs.length && bsTy P T sz z && inOrder 0 parts.toList && chkXs (parts.toList.map (·.2)) xs | _ => false)
  | .load n ag => (match op with | .load T x => tyOk P T ag n && chkXs [x] xs | _ => false)
  | .store n => (match op with | .store T x y => szIs P T n && chkXs [x, y] xs | _ => false)
  | .bin b => (match op with | .binOp b' _ x y _ => b == b' && chkXs [x, y] xs | _ => false)
  | .eqb neg => (match op with | .binOp b' T x y _ => (b' == if neg then .neq else .eql) && undIs P T isBool && chkXs [x, y] xs | _ => false)
  | .eqa neg ks => (match op with | .binOp b' T x y _ => (b' == if neg then .neq else .eql) && leafs P 20 T == some ks && undIs P T aggD && !P.eqGuardType P.depth T && chkXs [x, y] xs | _ => false)
  | .not => (match op with | .unOp .not _ x => chkXs [x] xs | _ => false)
  | .neg => (match op with | .unOp .neg _ x => chkXs [x] xs | _ => false)
  | .field off n ag => (match op with | .field T x f => fieldTy P T f off n ag && chkXs [x] xs | _ => false)
  | .faddr off => (match op with | .fieldAddr T x f => fieldOk P T f off && chkXs [x] xs | _ => false)
  | .iaA n sz => (match op with | .indexAddr T x i => arrOk P T n sz && chkXs [x, i] xs | _ => false)
  | .iaS sz _ => (match op with | .indexAddr T x i => slcOk P T sz && chkXs [x, i] xs | _ => false)
  | .idxA n sz ag => (match op with | .index T x i => idxTy P T n sz ag && chkXs [x, i] xs | _ => false)
  | .idxS => (match op with | .index T x i => undIs P T isString && chkXs [x, i] xs | _ => false)
  | .slc sz l h m => (match op with | .slice T x lo hi mx => undIs P T isSlice && slcTy P T sz && l == lo.isSome && h == hi.isSome && m == mx.isSome && chkXs ([x] ++ lo.toList ++ hi.toList ++ mx.toList) xs | _ => false)
  | .slcS l h => (match op with | .slice T x lo hi mx => undIs P T isString && l == lo.isSome && h == hi.isSome && mx.isNone && chkXs ([x] ++ lo.toList ++ hi.toList) xs | _ => false)
  | .ext i => (match op with | .extract x i' => i == i' && chkXs [x] xs | _ => false)
  | .len => (match op with | .call { callee := .builtin .len, args, argTypes } => (match args.toList, argTypes.toList with | [x], [t] => undIs P t isSlice && chkXs [x] xs | _, _ => false) | _ => false)
  | .lenS => (match op with | .call { callee := .builtin .len, args, argTypes } => (match args.toList, argTypes.toList with | [x], [t] => undIs P t isString && chkXs [x] xs | _, _ => false) | _ => false)
  | .append sz by_ _ => (match op with | .call { callee := .builtin .append, args, argTypes } => (match args.toList, argTypes.toList with | [x, y], [T, U] => appTy P T U sz by_ && chkXs [x, y] xs | _, _ => false) | _ => false)
  | .copy sz => (match op with | .call { callee := .builtin .copy, args, argTypes } => (match args.toList, argTypes.toList with | [x, y], [T, _] => slcOk P T sz && chkXs [x, y] xs | _, _ => false) | _ => false)
  | .mk sz by_ z => (match op with | .makeSlice T x y => mkTy P T sz by_ z && chkXs [x, y] xs | _ => false)
  | .conv k => (match op with | .convert T T2 x => undIs P T (fun _ => true) && undIs P T2 (isIntK k) && chkXs [x] xs | _ => false)
  | .min => (match op with | .call { callee := .builtin .min, args, .. } => (match args.toList with | [x, y] => chkXs [x, y] xs | _ => false) | _ => false)
  | .max => (match op with | .call { callee := .builtin .max, args, .. } => (match args.toList with | [x, y] => chkXs [x, y] xs | _ => false) | _ => false)
  | .nilck => (match op with | .nilCheck x => chkXs [x] xs | _ => false)
  | .mkf f => (match op with | .makeFunc (.func f') fst caps => f == f' && fst.isEmpty && chkXs caps.toList xs | _ => false)
  | .call f => (match op with | .call { callee := .value (.func f'), args, .. } => f == f' && chkXs args.toList xs && hasBody P f | _ => false)
  | .callm f => (match op with | .call { callee := .value (.func f'), args, .. } => f == f' && chkXs args.toList xs && hasBody P f | _ => false)
  | .callv => (match op with | .call { callee := .value (.tmp t), args, .. } => chkXs (.tmp t :: args.toList) xs | _ => false)
  | .callvm => (match op with | .call { callee := .value (.tmp t), args, .. } => chkXs (.tmp t :: args.toList) xs | _ => false)

section
variable {P : Program} {o : Oper} {a : Act} {E : Env} {s : S} {w : World} {W : Nat → Prop} {μ : Nat → Loc}

theorem chkXs_length : ∀ {xs : List Operand} {ps : List PX}, chkXs xs ps = true → xs.length = ps.length
  | [], [], _ => rfl
  | x :: xs, p :: ps, h => by
    simp only [chkXs, Bool.and_eq_true] at h
    simp [chkXs_length h.2]
  | [], _ :: _, h => by simp [chkXs] at h
  | _ :: _, [], h => by simp [chkXs] at h

theorem chkXs_at : ∀ {xs : List Operand} {ps : List PX}, chkXs xs ps = true → ∀ (i : Nat) (x : Operand) (p : PX), xs[i]? = some x → ps[i]? = some p → chkX x p = true
  | x :: xs, p :: ps, h, i, y, q, h1, h2 => by
    simp only [chkXs, Bool.and_eq_true] at h
    cases i with
    | zero => simp at h1 h2; subst h1; subst h2; exact h.1
    | succ i => exact chkXs_at h.2 i y q (by simpa using h1) (by simpa using h2)
  | [], _, _, i, _, _, h1, _ => by simp at h1
  | _ :: _, [], h, _, _, _, _, _ => by simp [chkXs] at h

/-- Operands and their readings. -/
def Vals (w : World) (W : Nat → Prop) (μ : Nat → Loc) (a : Act) (xs : List Operand) (vs : List A) : Prop :=
  xs.length = vs.length ∧ ∀ (i : Nat) (x : Operand) (v : A), xs[i]? = some x → vs[i]? = some v → Rep w W μ (a.eval x) v

theorem Vals.one {x : Operand} {vs : List A} (h : Vals w W μ a [x] vs) : ∃ v, vs = [v] ∧ Rep w W μ (a.eval x) v := by
  match vs, h.1 with
  | [v], _ => exact ⟨v, rfl, h.2 0 x v rfl rfl⟩

theorem Vals.two {x y : Operand} {vs : List A} (h : Vals w W μ a [x, y] vs) : ∃ v u, vs = [v, u] ∧ Rep w W μ (a.eval x) v ∧ Rep w W μ (a.eval y) u := by
  match vs, h.1 with
  | [v, u], _ => exact ⟨v, u, rfl, h.2 0 x v rfl rfl, h.2 1 y u rfl rfl⟩

theorem Vals.three {x y z : Operand} {vs : List A} (h : Vals w W μ a [x, y, z] vs) : ∃ v u t, vs = [v, u, t] ∧ Rep w W μ (a.eval x) v ∧ Rep w W μ (a.eval y) u ∧ Rep w W μ (a.eval z) t := by
  match vs, h.1 with
  | [v, u, t], _ => exact ⟨v, u, t, rfl, h.2 0 x v rfl rfl, h.2 1 y u rfl rfl, h.2 2 z t rfl rfl⟩

theorem Vals.four {x y z q : Operand} {vs : List A} (h : Vals w W μ a [x, y, z, q] vs) : ∃ v u t r, vs = [v, u, t, r] ∧ Rep w W μ (a.eval x) v ∧ Rep w W μ (a.eval y) u ∧ Rep w W μ (a.eval z) t ∧ Rep w W μ (a.eval q) r := by
  match vs, h.1 with
  | [v, u, t, r], _ => exact ⟨v, u, t, r, rfl, h.2 0 x v rfl rfl, h.2 1 y u rfl rfl, h.2 2 z t rfl rfl, h.2 3 q r rfl rfl⟩

theorem undIs_spec {T : TypeId} {f : TypeDesc → Bool} (h : undIs P T f = true) : ∃ d, P.underlying T = some d ∧ f d = true := by
  unfold undIs at h
  split at h
  · rename_i d hd; exact ⟨d, hd, h⟩
  · cases h

end
end Ab
end Go.Proofs.YtmegjomldcfoaaaDoor
