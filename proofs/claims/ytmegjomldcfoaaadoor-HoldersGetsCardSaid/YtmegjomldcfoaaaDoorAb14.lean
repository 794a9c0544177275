/-
  States of the small machine as lists; a call of a function that only computes; one operation, and several in the text's order.
-/
import Derived.Test.YtmegjomldcfoaaaDoorAb13
namespace Go.Proofs.YtmegjomldcfoaaaDoor
namespace Ab

structure Cx where
  P : Program
  G : Globs

/-- Nothing of memory is owned. -/
def noLoc : Nat → Loc := fun _ => .fresh

/-- Called with these data, the function returns that datum; what was there before stays. -/
def PFn (C : Cx) (f : FuncId) (as : List A) (r : A) : Prop :=
  ∀ (w : World) (W : Nat → Prop) (vs : List Value), GlobOk w W C.G → (∀ b, W b → b < w.heap.size) → vs.length = as.length →
    (∀ (i : Nat) (v : Value) (a : A), vs[i]? = some v → as[i]? = some a → RepV w W noLoc v a) →
    Calls C.P f vs.toArray w fun e w' => ∃ v, e = .returned v ∧ Keeps (fun _ => False) w w' ∧ Rep w' W noLoc v r

def look {α : Type} : List (Nat × α) → Nat → Option α
  | [], _ => none
  | q :: r, n => if q.1 = n then some q.2 else look r n

def rm {α : Type} (n : Nat) : List (Nat × α) → List (Nat × α)
  | [] => []
  | q :: r => if q.1 = n then rm n r else q :: rm n r

def rmAll {α : Type} : List Nat → List (Nat × α) → List (Nat × α)
  | [], l => l
  | n :: ns, l => rmAll ns (rm n l)

structure St where
  fr : List (Nat × A)
  mem : List (Nat × Row)
  nx : Nat

def St.slot (st : St) (t : Nat) : A := (look st.fr t).getD .any
def St.m (st : St) (x : Nat) : MS := if st.nx ≤ x then .fresh else match look st.mem x with
  | some r => .row r
  | none => .dead
def St.toS (st : St) : S := ⟨st.slot, st.m⟩

def putM : List (Nat × MS) → List (Nat × Row) → List (Nat × Row)
  | [], m => m
  | (x, .row r) :: q, m => putM q ((x, r) :: rm x m)
  | (x, _) :: q, m => putM q (rm x m)

def nxt (nx : Nat) : List (Nat × MS) → Nat
  | [] => nx
  | q :: r => nxt (if q.1 = nx then nx + 1 else nx) r

def putF (d : Option Nat) (v : A) (fr : List (Nat × A)) : List (Nat × A) := match d with
  | none => fr
  | some d => (d, v) :: rm d fr

def St.app (st : St) (d : Option Nat) (v : A) (mw : List (Nat × MS)) : St := ⟨putF d v st.fr, putM mw st.mem, nxt st.nx mw⟩

/-- Owned slices as plain data. -/
def frz1 (m : Nat → MS) : A → A
  | .own x lo n => match m x with
    | .row r => .sl ((r.es.drop lo).take n)
    | _ => .any
  | a => a

def pureCs : List A → Bool
  | [] => true
  | a :: as => a.pure1 && pureCs as

def frz (m : Nat → MS) : A → A
  | .agg cs => if pureCs cs then .agg cs else .agg (cs.map (frz1 m))
  | a => frz1 m a

def frzOk1 (m : Nat → MS) : A → Prop
  | .own x lo n => match m x with
    | .row r => lo + n ≤ r.es.length ∧ PureRows ((r.es.drop lo).take n)
    | _ => False
  | a => a.pure1 = true

def frzOk (m : Nat → MS) : A → Prop
  | .agg cs => if pureCs cs then True else ∀ c ∈ cs, frzOk1 m c
  | .clo _ cs => cs = []
  | a => frzOk1 m a

def frzAll (m : Nat → MS) : List A → List A
  | [] => []
  | a :: as => frz m a :: frzAll m as

def frzOkAll (m : Nat → MS) : List A → Prop
  | [] => True
  | a :: as => frzOk m a ∧ frzOkAll m as

/-- The ids of owned slices that a call hands over. -/
def ownIds1 : A → List Nat
  | .own x _ _ => [x]
  | _ => []
def ownIds : A → List Nat
  | .agg cs => if pureCs cs then [] else cs.flatMap ownIds1
  | a => ownIds1 a
def ownIdsAll : List A → List Nat
  | [] => []
  | a :: as => ownIds a ++ ownIdsAll as

/-- A result in which no slice lies. -/
def A.scal1 : A → Bool
  | .bool _ | .int _ _ | .str _ => true
  | _ => false
def scalCs : List A → Bool
  | [] => true
  | a :: as => a.scal1 && scalCs as
def A.scal2 : A → Bool
  | .agg cs => scalCs cs
  | a => a.scal1
def scalVs : List A → Bool
  | [] => true
  | a :: as => a.scal2 && scalVs as
def A.scal : A → Bool
  | .tup vs => scalVs vs
  | a => a.scal2

/-- The rows of these ids are read alone from now on. -/
def roAll (m : Nat → MS) : List Nat → List (Nat × MS)
  | [] => []
  | x :: xs => match m x with
    | .row r => (x, .row ⟨true, r.sz, r.z, r.es⟩) :: roAll m xs
    | _ => roAll m xs

def callMw (m : Nat → MS) (vals : List A) (r : A) : List (Nat × MS) := if r.scal then [] else roAll m (ownIdsAll vals)

/-- The guard of an operation: does it run? -/
def guardOf (st : St) : Option (Nat × Bool) → Option Bool
  | none => some true
  | some q => match st.slot q.1 with
    | .bool b => some (if q.2 then b else !b)
    | .cnd g (.bool b) => some (g && if q.2 then b else !b)
    | _ => none

def wrapG (g : Option (Nat × Bool)) (b : Bool) (v : A) : A := match g with
  | none => v
  | some _ => .cnd b v

def valsOf (C : Cx) (st : St) : List PX → List A
  | [] => []
  | p :: ps => (xv C.G st.slot p).nc :: valsOf C st ps

def gdsOf (C : Cx) (st : St) : List PX → Prop
  | [] => True
  | p :: ps => (xv C.G st.slot p).gd = true ∧ gdsOf C st ps

/-- Neither several values, nor a guarded one, nor one of which nothing is known. -/
def A.isVV : A → Bool
  | .any | .tup _ | .cnd _ _ => false
  | _ => true

/-! ### A call that hands memory over -/

def rho (l : List (Nat × Nat)) (x : Nat) : Nat := (look l x).getD x

def ren0 (l : List (Nat × Nat)) : A → A
  | .own x lo n => .own (rho l x) lo n
  | .ptr x i j => .ptr (rho l x) i j
  | a => a

def ren1 (l : List (Nat × Nat)) : A → A
  | .clo f cs => .clo f (cs.map (ren0 l))
  | a => ren0 l a

def ren (l : List (Nat × Nat)) : A → A
  | .agg cs => if pureCs cs then .agg cs else .agg (cs.map (ren1 l))
  | a => ren1 l a

def renR (l : List (Nat × Nat)) : A → A
  | .tup vs => .tup (vs.map (ren l))
  | a => ren l a

def idOk0 (nx : Nat) : A → Prop
  | .own x _ _ => x < nx
  | .ptr x _ _ => x < nx
  | _ => True

def idOk1 (nx : Nat) : A → Prop
  | .clo _ cs => ∀ c ∈ cs, idOk0 nx c
  | a => idOk0 nx a

def pureEs : List (List A) → Bool
  | [] => true
  | c :: cs => pureCs c && pureEs cs

def renEs (l : List (Nat × Nat)) (es : List (List A)) : List (List A) := if pureEs es then es else es.map (·.map (ren1 l))
def idEs (nx : Nat) (es : List (List A)) : Prop := if pureEs es then True else ∀ c ∈ es, ∀ a ∈ c, idOk1 nx a

def distinct : List Nat → Bool
  | [] => true
  | x :: xs => !xs.contains x && distinct xs

/-- Called with these data and this memory (of which nothing is read alone), the function returns that datum and leaves that memory; the ids below 'k' stand for what they stood for. -/
def MFn (C : Cx) (f : FuncId) (as : List A) (ms : List (Nat × Row)) (k : Nat) (r : A) (ms' : List (Nat × Row)) (k' : Nat) : Prop :=
  ∀ (w : World) (W : Nat → Prop) (μ : Nat → Loc) (vs : List Value), GlobOk w W C.G → (∀ b, W b → b < w.heap.size) → vs.length = as.length →
    (∀ (i : Nat) (v : Value) (a : A), vs[i]? = some v → as[i]? = some a → RepV w W μ v a) → MemOk w W μ (⟨[], ms, k⟩ : St).m →
    (∀ x y b b', μ x = .at_ b → μ y = .at_ b' → b.b = b'.b → x = y) →
    Calls C.P f vs.toArray w fun e w' => ∃ v W' μ', e = .returned v ∧ Step (⟨[], ms, k⟩ : St).m (⟨[], ms', k'⟩ : St).m w w' W W' μ μ' ∧ Rep w' W' μ' v r

/-- An argument that hands memory over. -/
def A.hands : A → Bool
  | .own _ _ _ | .ptr _ _ _ => true
  | .clo _ cs => !cs.isEmpty
  | _ => false

def argM (m : Nat → MS) (l : List (Nat × Nat)) (k : Nat) (v a : A) : Prop :=
  if a.hands then v = ren1 l a ∧ idOk1 k a else frzOk m v ∧ frz m v = a
def argsM (m : Nat → MS) (l : List (Nat × Nat)) (k : Nat) : List A → List A → Prop
  | v :: vs, a :: as => argM m l k v a ∧ argsM m l k vs as
  | [], [] => True
  | _, _ => False
def fzM : List A → List A → List Nat
  | v :: vs, a :: as => (if a.hands then [] else ownIds v) ++ fzM vs as
  | _, _ => []
def rowsM (m : Nat → MS) (l : List (Nat × Nat)) (k : Nat) (fz : List Nat) : List (Nat × Row) → Prop
  | [] => True
  | q :: r => (match m (rho l q.1) with
      | .row r' => r'.ro = false ∧ r'.sz = q.2.sz ∧ r'.es = renEs l q.2.es
      | _ => False) ∧ q.2.ro = false ∧ q.1 < k ∧ idEs k q.2.es ∧ fz.contains (rho l q.1) = false ∧ rowsM m l k fz r
def allIn {α : Type} (ms : List (Nat × α)) : Nat → Bool
  | 0 => true
  | n + 1 => (look ms n).isSome && allIn ms n
def okM (m : Nat → MS) (nx : Nat) (l : List (Nat × Nat)) (vals as : List A) (ms : List (Nat × Row)) (k k' : Nat) : Prop :=
  argsM m l k vals as ∧ rowsM m l k (fzM vals as) ms ∧ distinct (ms.map fun q => rho l q.1) = true ∧ distinct (ms.map (·.1)) = true ∧ allIn ms k = true ∧ Nat.ble k k' = true ∧ (∀ q ∈ ms, rho l q.1 < nx) ∧ (∀ q ∈ l, q.1 < k)

/-- The new ids, in the caller's count. -/
def newL (k nx : Nat) : Nat → List (Nat × Nat)
  | 0 => []
  | n + 1 => (k, nx) :: newL (k + 1) (nx + 1) n
def entM (l : List (Nat × Nat)) : Option Row → MS
  | some r => .row ⟨r.ro, r.sz, r.z, renEs l r.es⟩
  | none => .dead
def mwIds (l : List (Nat × Nat)) (ms' : List (Nat × Row)) : List Nat → List (Nat × MS)
  | [] => []
  | x :: xs => (rho l x, entM l (look ms' x)) :: mwIds l ms' xs
def mwM (m : Nat → MS) (l : List (Nat × Nat)) (vals as : List A) (ms ms' : List (Nat × Row)) (k k' : Nat) : List (Nat × MS) :=
  roAll m (fzM vals as) ++ mwIds l ms' (ms.map (·.1) ++ (List.range (k' - k)).map (k + ·))

def callM (C : Cx) (m : Nat → MS) (nx : Nat) (f : FuncId) (vals : List A) (F : Nat → Prop) (K : A → List (Nat × MS) → Prop) : Prop :=
  ∃ l as ms k r ms' k', MFn C f as ms k r ms' k' ∧ okM m nx l vals as ms k k' ∧ (∀ g c, r ≠ .cnd g c) ∧ F (k' - k) ∧ K (renR (l ++ newL k nx (k' - k)) r) (mwM m (l ++ newL k nx (k' - k)) vals as ms ms' k k')

/-- One operation. -/
def aop (C : Cx) (p : POp) (st : St) (K : St → Prop) : Prop :=
  match guardOf st p.g with
  | none => False
  | some g =>
    match p.po with
    | .pick => match p.xs with
      | [c, x, y] => match (xv C.G st.slot c).nc, (xv C.G st.slot x).nc, (xv C.G st.slot y).nc with
        | .bool b, .bool u, .bool v => (g = true → (xv C.G st.slot c).gd = true ∧ (b = true → (xv C.G st.slot x).gd = true) ∧ (b = false → (xv C.G st.slot y).gd = true)) ∧ K (st.app p.dst (wrapG p.g g (.bool (cond b u v))) [])
        | _, _, _ => False
      | _ => False
    | .call f => ∃ r, (g = true → gdsOf C st p.xs ∧ frzOkAll st.m (valsOf C st p.xs) ∧ PFn C f (frzAll st.m (valsOf C st p.xs)) r) ∧
        (p.g = none ∨ callMw st.m (valsOf C st p.xs) r = [] ∧ r.isVV = true) ∧ K (st.app p.dst (wrapG p.g g r) (callMw st.m (valsOf C st p.xs) r))
    | .callv => match valsOf C st p.xs with
      | .clo f caps :: vals => ∃ r, (g = true → gdsOf C st p.xs ∧ hasBody C.P f = true ∧ frzOkAll st.m (vals ++ caps) ∧ PFn C f (frzAll st.m (vals ++ caps)) r) ∧
        (p.g = none ∨ callMw st.m (vals ++ caps) r = [] ∧ r.isVV = true) ∧ K (st.app p.dst (wrapG p.g g r) (callMw st.m (vals ++ caps) r))
      | _ => False
    | .callm f => p.g = none ∧ gdsOf C st p.xs ∧ callM C st.m st.nx f (valsOf C st p.xs) (fun _ => True) fun v mw => K (st.app p.dst v mw)
    | .callvm => match valsOf C st p.xs with
      | .clo f caps :: vals => p.g = none ∧ gdsOf C st p.xs ∧ hasBody C.P f = true ∧ callM C st.m st.nx f (vals ++ caps) (fun _ => True) fun v mw => K (st.app p.dst v mw)
      | _ => False
    | po => match ev st.nx st.m po (valsOf C st p.xs) with
      | some ef => (g = true → gdsOf C st p.xs ∧ ef.obl) ∧ (p.g = none ∨ ef.mw = [] ∧ ef.v.isVV = true) ∧ K (st.app p.dst (wrapG p.g g ef.v) ef.mw)
      | none => False

/-- The same, over bare slots and memory; the names of new rows begin with 'id'. -/
def guardF (fr : Nat → A) : Option (Nat × Bool) → Option Bool
  | none => some true
  | some q => match fr q.1 with
    | .bool b => some (if q.2 then b else !b)
    | .cnd g (.bool b) => some (g && if q.2 then b else !b)
    | _ => none
def valsF (C : Cx) (fr : Nat → A) : List PX → List A
  | [] => []
  | p :: ps => (xv C.G fr p).nc :: valsF C fr ps
def gdsF (C : Cx) (fr : Nat → A) : List PX → Prop
  | [] => True
  | p :: ps => (xv C.G fr p).gd = true ∧ gdsF C fr ps
def aopS (C : Cx) (p : POp) (s : S) (id : Nat) (K : A → List (Nat × MS) → Prop) : Prop :=
  match guardF s.fr p.g with
  | none => False
  | some g =>
    match p.po with
    | .pick => match p.xs with
      | [c, x, y] => match (xv C.G s.fr c).nc, (xv C.G s.fr x).nc, (xv C.G s.fr y).nc with
        | .bool b, .bool u, .bool v => (g = true → (xv C.G s.fr c).gd = true ∧ (b = true → (xv C.G s.fr x).gd = true) ∧ (b = false → (xv C.G s.fr y).gd = true)) ∧ K (wrapG p.g g (.bool (cond b u v))) []
        | _, _, _ => False
      | _ => False
    | .call f => ∃ r, (g = true → gdsF C s.fr p.xs ∧ frzOkAll s.mem (valsF C s.fr p.xs) ∧ PFn C f (frzAll s.mem (valsF C s.fr p.xs)) r) ∧
        (p.g = none ∨ callMw s.mem (valsF C s.fr p.xs) r = [] ∧ r.isVV = true) ∧ K (wrapG p.g g r) (callMw s.mem (valsF C s.fr p.xs) r)
    | .callv => match valsF C s.fr p.xs with
      | .clo f caps :: vals => ∃ r, (g = true → gdsF C s.fr p.xs ∧ hasBody C.P f = true ∧ frzOkAll s.mem (vals ++ caps) ∧ PFn C f (frzAll s.mem (vals ++ caps)) r) ∧
        (p.g = none ∨ callMw s.mem (vals ++ caps) r = [] ∧ r.isVV = true) ∧ K (wrapG p.g g r) (callMw s.mem (vals ++ caps) r)
      | _ => False
    | .callm f => p.g = none ∧ gdsF C s.fr p.xs ∧ callM C s.mem id f (valsF C s.fr p.xs) (fun n => ∀ x, id ≤ x → x < id + n → s.mem x = .fresh) K
    | .callvm => match valsF C s.fr p.xs with
      | .clo f caps :: vals => p.g = none ∧ gdsF C s.fr p.xs ∧ hasBody C.P f = true ∧ callM C s.mem id f (vals ++ caps) (fun n => ∀ x, id ≤ x → x < id + n → s.mem x = .fresh) K
      | _ => False
    | po => match ev id s.mem po (valsF C s.fr p.xs) with
      | some ef => (g = true → gdsF C s.fr p.xs ∧ ef.obl) ∧ (p.g = none ∨ ef.mw = [] ∧ ef.v.isVV = true) ∧ K (wrapG p.g g ef.v) ef.mw
      | none => False

def arun (C : Cx) : List POp → St → (St → Prop) → Prop
  | [], st, K => K st
  | p :: ps, st, K => aop C p st fun st' => arun C ps st' K

/-! ### What the lists say -/

theorem look_rm {α : Type} (n x : Nat) : ∀ l : List (Nat × α), look (rm n l) x = if x = n then none else look l x
  | [] => by simp [rm, look]
  | q :: r => by
    unfold rm
    split
    · rename_i h
      rw [look_rm n x r]
      by_cases hx : x = n
      · simp [hx]
      · rw [if_neg hx, if_neg hx]
        simp only [look]
        rw [if_neg (by omega)]
    · rename_i h
      simp only [look]
      split
      · rename_i h2
        rw [if_neg (by omega)]
      · exact look_rm n x r

theorem slot_put (st : St) (d : Option Nat) (v : A) (mw : List (Nat × MS)) : (st.app d v mw).slot = setF st.slot d v := by
  funext t
  simp only [St.slot, St.app, setF, putF]
  cases d with
  | none => simp
  | some d =>
    simp only [look, Option.some.injEq]
    split
    · rfl
    · rename_i h
      rw [look_rm, if_neg (by omega)]

/-- Writes to ids that are known, or to the next one. -/
def mwOk : Nat → List (Nat × MS) → Prop
  | _, [] => True
  | nx, q :: r => q.1 ≤ nx ∧ q.2 ≠ .fresh ∧ mwOk (if q.1 = nx then nx + 1 else nx) r

theorem m_putM : ∀ (mw : List (Nat × MS)) (fr : List (Nat × A)) (mem : List (Nat × Row)) (nx : Nat), mwOk nx mw → ∀ f2, (⟨f2, putM mw mem, nxt nx mw⟩ : St).m = setM (⟨fr, mem, nx⟩ : St).m mw
  | [], fr, mem, nx, _, f2 => by simp [putM, nxt, setM, St.m]; rfl
  | q :: r, fr, mem, nx, h, f2 => by
    obtain ⟨h1, h2, h3⟩ := h
    have e : (fun x => if x = q.1 then q.2 else (⟨fr, mem, nx⟩ : St).m x) = (⟨fr, (match q with | (x, .row r) => (x, r) :: rm x mem | (x, _) => rm x mem), if q.1 = nx then nx + 1 else nx⟩ : St).m := by
      funext x
      obtain ⟨y, q2⟩ := q
      simp only at h1 h2
      by_cases hx : x = y
      · subst hx
        rw [if_pos rfl]
        cases q2 with
        | fresh => exact absurd rfl h2
        | dead => simp only [St.m, look_rm, if_true]; rw [if_neg (by split <;> omega)]
        | row r => simp only [St.m, look, if_true]; rw [if_neg (by split <;> omega)]
      · rw [if_neg hx]
        cases q2 with
        | fresh => exact absurd rfl h2
        | dead =>
          simp only [St.m, look_rm, hx, if_false]
          split
          · rename_i hh; rw [if_pos (by split <;> omega)]
          · rename_i hh; rw [if_neg (by split <;> omega)]
        | row r =>
          simp only [St.m, look, look_rm, hx, if_false, show ¬ y = x by omega]
          split
          · rename_i hh; rw [if_pos (by split <;> omega)]
          · rename_i hh; rw [if_neg (by split <;> omega)]
    simp only [setM, nxt]
    rw [e]
    obtain ⟨y, q2⟩ := q
    cases q2 with
    | fresh => exact absurd rfl h2
    | dead => exact m_putM r fr _ _ h3 f2
    | row r' => exact m_putM r fr _ _ h3 f2

end Ab
end Go.Proofs.YtmegjomldcfoaaaDoor
