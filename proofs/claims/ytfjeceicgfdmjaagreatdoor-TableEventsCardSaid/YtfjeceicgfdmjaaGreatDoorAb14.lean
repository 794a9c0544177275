/-
  What each operation of the program yields, by the readings of its operands: structs compared, closures, bytes of a string.
-/
import Derived.Test.YtfjeceicgfdmjaaGreatDoorAb10
namespace Go.Proofs.YtfjeceicgfdmjaaGreatDoor
namespace Ab
set_option linter.unusedSimpArgs false
set_option linter.unusedVariables false
def zaU1 (f : TypeId → Option (List LK)) (P : Program) : Nat → List Field → Option (List LK)
 | _, [] => some []
 | off, g :: gs => if g.offset == off && g.name != "_" then
   match f g.type with
   | some ks => if szIs P g.type ks.length && !ks.isEmpty then (match zaU1 f P (off + ks.length) gs with | some r => some (ks ++ r) | none => none) else none
   | none => none
  else none
def zaz7 (P : Program) : Nat → TypeId → Option (List LK)
 | 0, _ => none
 | d + 1, T => match P.underlying T with
  | some .bool => some [.b]
  | some (.int k) => some [.i k]
  | some .string => some [.s]
  | some (.struct fs) => if P.stoodInHeld T then none else zaU1 (zaz7 P d) P 0 fs.toList
  | _ => none
section
variable {P : Program} {o : Oper} {a : Act} {E : Env} {s : S} {w : World} {W : Nat → Prop} {μ : Nat → Loc}
def zaE6 (P : Program) (T : TypeId) (us : List Value) : Value := match P.underlying T with
 | some d => if aggD d then .agg us.toArray else us.headD undef
 | none => undef
theorem zB2 : ∀ {ks : List LK} {cs : List A}, zg8 ks cs = true → cs.length = ks.length
 | [], [], _ => rfl
 | k :: ks, c :: cs, h => by
  simp only [zg8, Bool.and_eq_true] at h
  simp [zB2 h.2]
 | [], _ :: _, h => by simp [zg8] at h
 | _ :: _, [], h => by simp [zg8] at h
theorem zaU2 : ∀ {as bs cs ds : List A}, as.length = bs.length → eqA (as ++ cs) (bs ++ ds) = (eqA as bs && eqA cs ds)
 | [], [], cs, ds, _ => by simp [eqA]
 | a :: as, b :: bs, cs, ds, h => by
  simp only [List.cons_append, eqA]
  rw [zaU2 (by simpa using h), Bool.and_assoc]
 | [], _ :: _, _, _, h => by simp at h
 | _ :: _, [], _, _, h => by simp at h
theorem zac3 : ∀ {k1 k2 : List LK} {cs : List A}, zg8 (k1 ++ k2) cs = true → zg8 k1 (cs.take k1.length) = true ∧ zg8 k2 (cs.drop k1.length) = true
 | [], k2, cs, h => by simpa [zg8] using h
 | k :: k1, k2, c :: cs, h => by
  simp only [List.cons_append, zg8, Bool.and_eq_true] at h
  have := zac3 h.2
  simp [zg8, h.1, this.1, this.2]
 | k :: k1, k2, [], h => by simp [zg8] at h
theorem Cs.take {R : Value → A → Prop} {us : List Value} {cs : List A} (h : Cs R us cs) (n : Nat) : Cs R (us.take n) (cs.take n) :=
 ⟨by simp [h.1], fun i u b hu hb => by
  rw [List.getElem?_take] at hu hb
  split at hu
  ·rename_i hi; rw [if_pos hi] at hb; exact h.2 i u b hu hb
  ·cases hu⟩
theorem Cs.drop {R : Value → A → Prop} {us : List Value} {cs : List A} (h : Cs R us cs) (n : Nat) : Cs R (us.drop n) (cs.drop n) :=
 ⟨by simp [h.1], fun i u b hu hb => by
  rw [List.getElem?_drop] at hu hb
  exact h.2 _ u b hu hb⟩
theorem zbg7 {d : Nat} {T : TypeId} {ks : List LK} (h : zaz7 P d T = some ks) : ∃ t, P.underlying T = some t ∧ (aggD t = false → ks.length = 1) := by
 cases d with
 | zero => simp [zaz7] at h
 | succ d =>
  unfold zaz7 at h
  split at h
  ·rename_i hu; cases h; exact ⟨_, hu, fun _ => rfl⟩
  ·rename_i k hu; cases h; exact ⟨_, hu, fun _ => rfl⟩
  ·rename_i hu; cases h; exact ⟨_, hu, fun _ => rfl⟩
  ·rename_i fs hu; exact ⟨_, hu, fun h => by simp [aggD] at h⟩
  ·cases h
theorem zbq7 {T : TypeId} {t : TypeDesc} {n off : Nat} (hu : P.underlying T = some t) (hz : szIs P T n = true) (hn : aggD t = false → n = 1) (us : List Value) (hfit : off + n ≤ us.length) :
  (part T us.toArray off).run P w = .ok (zaE6 P T ((us.drop off).take n)) w := by
 unfold zaE6
 simp only [hu]
 cases ha : aggD t with
 | true => simp [part, zR7 hu, ha, zS3 hz]
 | false =>
  have := hn ha
  subst this
  have hlt : off < us.length := by omega
  simp [part, zR7 hu, ha, zai4 hlt, hlt]
theorem zaP9 (d : Nat) : ∀ (T : TypeId) (ks : List LK), zaz7 P d T = some ks → ∀ (D : Nat), d ≤ D → ∀ (us vs : List Value) (cs ds : List A), zg8 ks cs = true → zg8 ks ds = true → Cs (RepK w W μ) us cs → Cs (RepK w W μ) vs ds →
  (Op.equalIn D T (zaE6 P T us) (zaE6 P T vs)).run P w = .ok (eqA cs ds) w := by
 induction d with
 | zero => intro T ks h; simp [zaz7] at h
 | succ d ih =>
  intro T ks h D hD us vs cs ds hc hd hu hv
  obtain ⟨D', rfl⟩ : ∃ D', D = D' + 1 := ⟨D - 1, by omega⟩
  have one : ∀ (k : LK), ks = [k] → ∃ c e u v, cs = [c] ∧ ds = [e] ∧ us = [u] ∧ vs = [v] ∧ k.fits c = true ∧ k.fits e = true ∧ RepK w W μ u c ∧ RepK w W μ v e := fun k hk => by
   subst hk
   have l1 := zB2 hc
   have l2 := zB2 hd
   have l3 := hu.1
   have l4 := hv.1
   match cs, ds, us, vs, l1, l2, l3, l4 with
   | [c], [e], [u], [v], _, _, _, _ =>
    simp only [zg8, Bool.and_true] at hc hd
    exact ⟨c, e, u, v, rfl, rfl, rfl, rfl, hc, hd, hu.2 0 u c rfl rfl, hv.2 0 v e rfl rfl⟩
  unfold zaz7 at h
  split at h
  ·rename_i hT
   cases h
   obtain ⟨c, e, u, v, rfl, rfl, rfl, rfl, h1, h2, h3, h4⟩ := one _ rfl
   cases c <;> simp [LK.fits] at h1
   cases e <;> simp [LK.fits] at h2
   have e1 := Rep.bool (ze8 (ze6 h3))
   have e2 := Rep.bool (ze8 (ze6 h4))
   subst e1; subst e2
   simp only [zaE6, hT, aggD, Bool.false_eq_true, if_false, List.headD_cons, run_equalIn_bool' w D' T _ _ hT, eqA, eq1, Bool.and_true]
  ·rename_i k hT
   cases h
   obtain ⟨c, e, u, v, rfl, rfl, rfl, rfl, h1, h2, h3, h4⟩ := one _ rfl
   cases c <;> simp [LK.fits] at h1
   cases e <;> simp [LK.fits] at h2
   have e1 := Rep.int (ze8 (ze6 h3))
   have e2 := Rep.int (ze8 (ze6 h4))
   subst e1; subst e2; subst h1; subst h2
   simp only [zaE6, hT, aggD, Bool.false_eq_true, if_false, List.headD_cons, run_equalIn_int w D' T _ _ _ _ hT, eqA, eq1, Bool.and_true]
  ·rename_i hT
   cases h
   obtain ⟨c, e, u, v, rfl, rfl, rfl, rfl, h1, h2, h3, h4⟩ := one _ rfl
   cases c <;> simp [LK.fits] at h1
   cases e <;> simp [LK.fits] at h2
   have e1 := Rep.str (ze8 (ze6 h3))
   have e2 := Rep.str (ze8 (ze6 h4))
   subst e1; subst e2
   simp only [zaE6, hT, aggD, Bool.false_eq_true, if_false, List.headD_cons, run_equalIn_string w D' T _ _ hT, eqA, eq1, Bool.and_true]
  ·rename_i fs hT
   split at h
   ·cases h
   ·rename_i hst
    have hfo : P.fieldsOf T = fs := by simp [Program.fieldsOf, hT]
    simp only [zaE6, hT, aggD, if_true]
    rw [run_equalIn_agg w D' T us.toArray vs.toArray (by rw [hfo]; exact hT) (by simpa using hst), hfo]
    have key : ∀ (gs : List Field) (off : Nat) (kk : List LK), zaU1 (zaz7 P d) P off gs = some kk → zg8 kk (cs.drop off) = true → zg8 kk (ds.drop off) = true →
      (Op.eqFields D' us.toArray vs.toArray gs).run P w = .ok (eqA (cs.drop off) (ds.drop off)) w := by
     intro gs
     induction gs with
     | nil =>
      intro off kk h1 h2 h3
      simp only [zaU1, Option.some.injEq] at h1
      subst h1
      have l1 := zB2 h2
      have l2 := zB2 h3
      rw [List.eq_nil_of_length_eq_zero l1, List.eq_nil_of_length_eq_zero l2]
      rfl
     | cons g gs ihg =>
      intro off kk h1 h2 h3
      unfold zaU1 at h1
      split at h1
      ·rename_i hg
       simp only [Bool.and_eq_true, beq_iff_eq, bne_iff_ne] at hg
       obtain ⟨hgo, hgn⟩ := hg
       split at h1
       ·rename_i ks1 hk1
        split at h1
        ·rename_i hsz
         split at h1
         ·rename_i r hr
          cases h1
          obtain ⟨a1, a2⟩ := zac3 h2
          obtain ⟨b1, b2⟩ := zac3 h3
          obtain ⟨t, ht, htn⟩ := zbg7 hk1
          have l1 := zB2 h2
          have l2 := zB2 h3
          simp only [List.length_drop, List.length_append] at l1 l2
          simp only [Bool.and_eq_true, Bool.not_eq_true', List.isEmpty_eq_false_iff] at hsz
          obtain ⟨hsz, hne⟩ := hsz
          have hpos : 0 < ks1.length := List.length_pos_iff.2 hne
          have l3 := hu.1
          have l4 := hv.1
          have p1 := zbq7 (w := w) ht hsz htn us (off := off) (by omega)
          have p2 := zbq7 (w := w) ht hsz htn vs (off := off) (by omega)
          have q := ih g.type ks1 hk1 D' (by omega) _ _ _ _ a1 b1 ((hu.drop off).take _) ((hv.drop off).take _)
          rw [List.drop_drop] at a2 b2
          have r2 := ihg (off + ks1.length) r hr a2 b2
          have hsplit : eqA (cs.drop off) (ds.drop off) = (eqA ((cs.drop off).take ks1.length) ((ds.drop off).take ks1.length) && eqA (cs.drop (off + ks1.length)) (ds.drop (off + ks1.length))) := by
           rw [← List.drop_drop, ← List.drop_drop, ← zaU2 (by simp; omega), List.take_append_drop, List.take_append_drop]
          rw [hsplit]
          simp only [Op.eqFields, ne_eq, hgn, not_false_eq_true, if_true, hgo, Sem.run_bind, p1, p2, Result.andThen_ok, q]
          cases eqA ((cs.drop off).take ks1.length) ((ds.drop off).take ks1.length) with
          | true => simpa using r2
          | false => simp
         ·cases h1
        ·cases h1
       ·cases h1
      ·cases h1
    exact key fs.toList 0 ks h (by simpa using hc) (by simpa using hd)
  ·cases h
theorem zem7 (hs : SatW E s a w W μ) {x y : Operand} {T T2 : TypeId} {neg : Bool} {ks : List LK} {cs ds : List A} (ho : o.op = .binOp (if neg then .neq else .eql) T x y T2) (hT : zaz7 P 20 T = some ks) (hag : (match P.underlying T with | some d => aggD d | none => false) = true)
  (hg : P.eqGuardType P.depth T = false) (hx : Rep w W μ (a.eval x) (.agg cs)) (hy : Rep w W μ (a.eval y) (.agg ds)) (hc : zg8 ks cs = true) (hd : zg8 ks ds = true) :
  ze7 P o a w W μ s.mem (.bool (if neg then !eqA cs ds else eqA cs ds)) s.mem := by
 obtain ⟨us, hxv, hu1, hu2⟩ : RepV w W μ (a.eval x) (.agg cs) := hx
 obtain ⟨vs, hyv, hv1, hv2⟩ : RepV w W μ (a.eval y) (.agg ds) := hy
 have h := zaP9 (P := P) (w := w) (W := W) (μ := μ) 20 T ks hT 10000 (by omega) us vs cs ds hc hd ⟨hu1, hu2⟩ ⟨hv1, hv2⟩
 obtain ⟨d, hd', _⟩ := zbg7 hT
 rw [hd'] at hag
 simp only [zaE6, hd', show aggD d = true from hag, if_true] at h
 refine hs.still (v := .bool (if neg then !eqA cs ds else eqA cs ds)) ?_ (zu2 (.bool _))
 cases neg
 ·have ho' : o.op = .binOp .eql T x y T2 := ho
  simp only [execOp, ho', hxv, hyv, Sem.run_bind, run_eqGuard_agg w .eql T x y us.toArray vs.toArray hg, Result.andThen_ok, run_eql_struct, h, Bool.false_eq_true, if_false, Sem.run_pure]
 ·have ho' : o.op = .binOp .neq T x y T2 := ho
  simp only [execOp, ho', hxv, hyv, Sem.run_bind, run_eqGuard_agg w .neq T x y us.toArray vs.toArray hg, Result.andThen_ok, run_neq_struct, h, if_true, Sem.run_pure]
theorem zem8 (hs : SatW E s a w W μ) {f : FuncId} {caps : Array Operand} {xs : List A} (ho : o.op = .makeFunc (.func f) #[] caps) (hl : caps.toList.length = xs.length) (hx : ∀ (i : Nat) (p : Operand) (x : A), caps.toList[i]? = some p → xs[i]? = some x → Rep w W μ (a.eval p) x)
  (hv : ∀ x ∈ xs, x.isK = true) : ze7 P o a w W μ s.mem (.clo f xs) s.mem := by
 refine hs.still (v := .func (.func f) #[] (caps.map a.eval)) (by simp [execOp, ho, Instr.makeFunc]) (ze8 ?_)
 refine ⟨(caps.map a.eval).toList, by rw [Array.toArray_toList], by simpa using hl, fun i u b hu hb => ?_⟩
 simp only [Array.toList_map, List.getElem?_map, Option.map_eq_some_iff] at hu
 obtain ⟨p, hp, rfl⟩ := hu
 have h1 := hx i p b hp hb
 have h2 := hv b (List.mem_of_getElem? hb)
 cases b <;> first | exact h1 | (simp [A.isK] at h2; done) | skip
 rename_i f' cs
 cases cs with
 | nil =>
  obtain ⟨vs, hv', hl', _⟩ : RepK w W μ _ (.clo f' []) := h1
  have : vs = [] := List.eq_nil_of_length_eq_zero hl'
  subst this
  rw [hv']
  exact show RepC w W _ _ from .fn f'
 | cons => simp [A.isK] at h2
theorem zdW3 (hs : SatW E s a w W μ) {x i : Operand} {T : TypeId} {b : ByteArray} {k : IntKind} {q : Int} (ho : o.op = .index T x i) (hT : P.underlying T = some .string) (hx : Rep w W μ (a.eval x) (.str b)) (hi : Rep w W μ (a.eval i) (.int k q)) (h0 : 0 ≤ q) (h1 : q < b.size) :
  ze7 P o a w W μ s.mem (.int .u8 (b.toList.getD q.toNat 0).toNat) s.mem := by
 refine hs.still (v := .int .u8 (b.toList.getD q.toNat 0).toNat) ?_ (zu2 (.int _ _))
 have hlt : q.toNat < b.size := by omega
 have hbl : b.toList = b.data.toList := ByteArray.toList_eq b
 have hb : b[q.toNat]? = some (b.toList.getD q.toNat 0) := by
  rw [hbl]
  simp [getElem?_def, hlt]
  rfl
 simp [execOp, ho, hx.str, hi.int, Instr.index, asIntOf, run_underlying hT, h0, hb]
end
end Ab
end Go.Proofs.YtfjeceicgfdmjaaGreatDoor
namespace Go.Proofs.YtfjeceicgfdmjaaGreatDoor
namespace Ab
set_option linter.unusedSimpArgs false
set_option linter.unusedVariables false
def zm8 : List Operand → List PX → Bool
 | [], [] => true
 | x :: xs, p :: ps => chkX x p && zm8 xs ps
 | _, _ => false
def zaU3 : Operand → Bool
 | .const (.slice none 0 0) => true
 | _ => false
def zar9 (P : Program) (T : TypeId) (f : TypeDesc → Bool) : Bool := match P.underlying T with | some d => f d | none => false
def zak2 : TypeDesc → Bool | .string => true | _ => false
def zaS1 : TypeDesc → Bool | .slice _ => true | _ => false
def zbM9 : TypeDesc → Bool | .bool => true | _ => false
def zbN0 (k : IntKind) : TypeDesc → Bool | .int k' => k == k' | _ => false
def zci0 (P : Program) (T : TypeId) (f off n : Nat) (ag : Bool) : Bool :=
 (match P.underlying T with | some (.struct fs) => (match fs[f]? with | some g => g.offset == off && tyOk P g.type ag n | none => false) | _ => false)
def zem9 (P : Program) (T : TypeId) (n sz : Nat) (ag : Bool) : Bool :=
 (match P.underlying T with | some (.array m e) => m == n && tyOk P e ag sz | _ => false)
def zG6 (P : Program) (f : FuncId) : Bool := match P.funcs[f]? with | some fn => fn.body.isSome && !(fn.name == "runtime.NumGoroutine") | none => false
def zaE7 (P : Program) (op : Op) (po : PO) (xs : List PX) : Bool :=
 match po with
 | .mv => (match op with | .move x => zm8 [x] xs | .assign x => zm8 [x] xs | _ => false)
 | .nilown _ _ => (match op with | .move x => zaU3 x && xs.length == 1 | .assign x => zaU3 x && xs.length == 1 | _ => false)
 | .pick => (match op with | .pick c x y => zm8 [c, x, y] xs | _ => false)
 | .box _ => (match op with | .box _ x => zm8 [x] xs | _ => false)
 | .alloc n z => (match op with | .alloc T => zar7 P T z && z.length == n && xs.isEmpty | _ => false)
 | .build z ps => (match op with | .build T parts => zar7 P T z && zbk8 P T parts.toList ps && zm8 (parts.toList.map (·.2)) xs | _ => false)
 | .bslice sz z => (match op with | .buildSlice T n parts => n == xs.length && bsTy P T sz z && zag8 0 parts.toList && zm8 (parts.toList.map (·.2)) xs | _ => false)
 | .bown sz z => (match op with | .buildSlice T n parts => n == xs.length && bsTy P T sz z && zag8 0 parts.toList && zm8 (parts.toList.map (·.2)) xs | _ => false)
 | .load n ag => (match op with | .load T x => tyOk P T ag n && zm8 [x] xs | _ => false)
 | .store n => (match op with | .store T x y => szIs P T n && zm8 [x, y] xs | _ => false)
 | .bin b => (match op with | .binOp b' _ x y _ => b == b' && zm8 [x, y] xs | _ => false)
 | .eqb neg => (match op with | .binOp b' T x y _ => (b' == if neg then .neq else .eql) && zar9 P T zbM9 && zm8 [x, y] xs | _ => false)
 | .eqa neg ks => (match op with | .binOp b' T x y _ => (b' == if neg then .neq else .eql) && zaz7 P 20 T == some ks && zar9 P T aggD && !P.eqGuardType P.depth T && zm8 [x, y] xs | _ => false)
 | .not => (match op with | .unOp .not _ x => zm8 [x] xs | _ => false)
 | .neg => (match op with | .unOp .neg _ x => zm8 [x] xs | _ => false)
 | .field off n ag => (match op with | .field T x f => zci0 P T f off n ag && zm8 [x] xs | _ => false)
 | .faddr off => (match op with | .fieldAddr T x f => zaS0 P T f off && zm8 [x] xs | _ => false)
 | .iaA n sz => (match op with | .indexAddr T x i => zbD1 P T n sz && zm8 [x, i] xs | _ => false)
 | .iaS sz _ => (match op with | .indexAddr T x i => zbg1 P T sz && zm8 [x, i] xs | _ => false)
 | .idxA n sz ag => (match op with | .index T x i => zem9 P T n sz ag && zm8 [x, i] xs | _ => false)
 | .idxS => (match op with | .index T x i => zar9 P T zak2 && zm8 [x, i] xs | _ => false)
 | .slc sz l h m => (match op with | .slice T x lo hi mx => zar9 P T zaS1 && zbg2 P T sz && l == lo.isSome && h == hi.isSome && m == mx.isSome && zm8 ([x] ++ lo.toList ++ hi.toList ++ mx.toList) xs | _ => false)
 | .slcS l h => (match op with | .slice T x lo hi mx => zar9 P T zak2 && l == lo.isSome && h == hi.isSome && mx.isNone && zm8 ([x] ++ lo.toList ++ hi.toList) xs | _ => false)
 | .ext i => (match op with | .extract x i' => i == i' && zm8 [x] xs | _ => false)
 | .len => (match op with | .call { callee := .builtin .len, args, argTypes } => (match args.toList, argTypes.toList with | [x], [t] => zar9 P t zaS1 && zm8 [x] xs | _, _ => false) | _ => false)
 | .lenS => (match op with | .call { callee := .builtin .len, args, argTypes } => (match args.toList, argTypes.toList with | [x], [t] => zar9 P t zak2 && zm8 [x] xs | _, _ => false) | _ => false)
 | .append sz by_ _ => (match op with | .call { callee := .builtin .append, args, argTypes } => (match args.toList, argTypes.toList with | [x, y], [T, U] => zbg3 P T U sz by_ && zm8 [x, y] xs | _, _ => false) | _ => false)
 | .apl sz by_ => (match op with | .call { callee := .builtin .append, args, argTypes } => (match args.toList, argTypes.toList with | [x, y], [T, U] => zbg3 P T U sz by_ && zm8 [x, y] xs | _, _ => false) | _ => false)
 | .copy sz => (match op with | .call { callee := .builtin .copy, args, argTypes } => (match args.toList, argTypes.toList with | [x, y], [T, _] => zbg1 P T sz && zm8 [x, y] xs | _, _ => false) | _ => false)
 | .clear sz z => (match op with | .call { callee := .builtin .clear, args, argTypes } => (match args.toList, argTypes.toList with | [x], [T] => zbM8 P T sz z && zm8 [x] xs | _, _ => false) | _ => false)
 | .mk sz by_ z => (match op with | .makeSlice T x y => mkTy P T sz by_ z && zm8 [x, y] xs | _ => false)
 | .conv k => (match op with | .convert T T2 x => zar9 P T (fun _ => true) && zar9 P T2 (zbN0 k) && zm8 [x] xs | _ => false)
 | .min => (match op with | .call { callee := .builtin .min, args, .. } => (match args.toList with | [x, y] => zm8 [x, y] xs | _ => false) | _ => false)
 | .max => (match op with | .call { callee := .builtin .max, args, .. } => (match args.toList with | [x, y] => zm8 [x, y] xs | _ => false) | _ => false)
 | .nilck => (match op with | .nilCheck x => zm8 [x] xs | _ => false)
 | .mkf f => (match op with | .makeFunc (.func f') fst caps => f == f' && fst.isEmpty && zm8 caps.toList xs | _ => false)
 | .call f => (match op with | .call { callee := .value (.func f'), args, .. } => f == f' && zm8 args.toList xs && zG6 P f | _ => false)
 | .callm f => (match op with | .call { callee := .value (.func f'), args, .. } => f == f' && zm8 args.toList xs && zG6 P f | _ => false)
 | .callv => (match op with | .call { callee := .value (.tmp t), args, .. } => zm8 (.tmp t :: args.toList) xs | _ => false)
 | .callvm => (match op with | .call { callee := .value (.tmp t), args, .. } => zm8 (.tmp t :: args.toList) xs | _ => false)
section
variable {P : Program} {o : Oper} {a : Act} {E : Env} {s : S} {w : World} {W : Nat → Prop} {μ : Nat → Loc}
def Vals (w : World) (W : Nat → Prop) (μ : Nat → Loc) (a : Act) (xs : List Operand) (vs : List A) : Prop :=
 xs.length = vs.length ∧ ∀ (i : Nat) (x : Operand) (v : A), xs[i]? = some x → vs[i]? = some v → Rep w W μ (a.eval x) v
theorem Vals.one {x : Operand} {vs : List A} (h : Vals w W μ a [x] vs) : ∃ v, vs = [v] ∧ Rep w W μ (a.eval x) v := by
 match vs, h.1 with
 | [v], _ => exact ⟨v, rfl, h.2 0 x v rfl rfl⟩
theorem Vals.two {x y : Operand} {vs : List A} (h : Vals w W μ a [x, y] vs) : ∃ v u, vs = [v, u] ∧ Rep w W μ (a.eval x) v ∧ Rep w W μ (a.eval y) u := by
 match vs, h.1 with
 | [v, u], _ => exact ⟨v, u, rfl, h.2 0 x v rfl rfl, h.2 1 y u rfl rfl⟩
theorem Vals.three {x y z : Operand} {vs : List A} (h : Vals w W μ a [x, y, z] vs) : ∃ v u t, vs = [v, u, t] ∧ Rep w W μ (a.eval x) v ∧ Rep w W μ (a.eval y) u ∧ Rep w W μ (a.eval z) t := by
 match vs, h.1 with
 | [v, u, t], _ => exact ⟨v, u, t, rfl, h.2 0 x v rfl rfl, h.2 1 y u rfl rfl, h.2 2 z t rfl rfl⟩
theorem Vals.four {x y z q : Operand} {vs : List A} (h : Vals w W μ a [x, y, z, q] vs) : ∃ v u t r, vs = [v, u, t, r] ∧ Rep w W μ (a.eval x) v ∧ Rep w W μ (a.eval y) u ∧ Rep w W μ (a.eval z) t ∧ Rep w W μ (a.eval q) r := by
 match vs, h.1 with
 | [v, u, t, r], _ => exact ⟨v, u, t, r, rfl, h.2 0 x v rfl rfl, h.2 1 y u rfl rfl, h.2 2 z t rfl rfl, h.2 3 q r rfl rfl⟩
theorem zK9 {T : TypeId} {f : TypeDesc → Bool} (h : zar9 P T f = true) : ∃ d, P.underlying T = some d ∧ f d = true := by
 unfold zar9 at h
 split at h
 ·rename_i d hd; exact ⟨d, hd, h⟩
 ·cases h
end
end Ab
end Go.Proofs.YtfjeceicgfdmjaaGreatDoor
namespace Go.Proofs.YtfjeceicgfdmjaaGreatDoor
namespace Ab
set_option linter.unusedSimpArgs false
set_option linter.unusedVariables false
section
variable {P : Program} {o : Oper} {a : Act} {E : Env} {s : S} {w : World} {W : Nat → Prop} {μ : Nat → Loc}
theorem ze7.mw {av : A} {m m' m'' : Nat → MS} (h : ze7 P o a w W μ m av m') (e : m' = m'') : ze7 P o a w W μ m av m'' := e ▸ h
theorem zaC0 {parts : List (Nat × Operand)} {vs : List A} (h : Vals w W μ a (parts.map (·.2)) vs) :
  parts.length = vs.length ∧ ∀ (i : Nat) (p : Nat × Operand) (x : A), parts[i]? = some p → vs[i]? = some x → Rep w W μ (a.eval p.2) x :=
 ⟨by simpa using h.1, fun i p x h1 h2 => h.2 i p.2 x (by simp [h1]) h2⟩
theorem zbq8 {x : Operand} (h : zaU3 x = true) : x = .const (.slice none 0 0) := by
 unfold zaU3 at h
 split at h
 ·rfl
 ·cases h
theorem zbg8 : ∀ {xs : List A}, allK xs = true → ∀ x ∈ xs, x.isK = true
 | x :: xs, h, y, hy => by
  simp only [allK, Bool.and_eq_true] at h
  rcases List.mem_cons.1 hy with rfl | hy
  ·exact h.1
  ·exact zbg8 h.2 y hy
theorem zbN1 (hs : SatW E s a w W μ) {id : Nat} (hid : s.mem id = .fresh) (po : PO) (xs : List PX) (vals : List A) (hV : ∀ ops, zm8 ops xs = true → Vals w W μ a ops vals) (hlen : xs.length = vals.length)
  (hchk : zaE7 P o.op po xs = true) {ef : Ef} (he : ev id s.mem po vals = some ef) (hobl : ef.obl) (hnp : po ≠ .pick) : ze7 P o a w W μ s.mem ef.v (setM s.mem ef.mw) := by
 cases po <;> simp only [zaE7] at hchk
 case pick => exact absurd rfl hnp
 case mv =>
  split at hchk
  ·rename_i x ho
   obtain ⟨v, rfl, hv⟩ := (hV _ hchk).one
   cases he
   exact zbM4 hs (.inl ho) hv
  ·rename_i x ho
   obtain ⟨v, rfl, hv⟩ := (hV _ hchk).one
   cases he
   exact zbM4 hs (.inr ho) hv
  ·cases hchk
 case nilown sz z =>
  have key : ∀ x, (o.op = .move x ∨ o.op = .assign x) → (zaU3 x && xs.length == 1) = true → ze7 P o a w W μ s.mem ef.v (setM s.mem ef.mw) := fun x ho h => by
   simp only [Bool.and_eq_true, beq_iff_eq] at h
   match vals, (show vals.length = 1 by omega) with
   | [v], _ =>
    cases he
    exact zbM5 hs ho (zbq8 h.1) hid hobl
  split at hchk
  ·rename_i x ho; exact key x (.inl ho) hchk
  ·rename_i x ho; exact key x (.inr ho) hchk
  ·cases hchk
 case box n =>
  split at hchk
  ·rename_i T x ho
   obtain ⟨v, rfl, hv⟩ := (hV _ hchk).one
   cases he
   exact zem5 hs ho hv hid hobl.1 hobl.2.1 hobl.2.2
  ·cases hchk
 case alloc n z =>
  split at hchk
  ·rename_i T ho
   simp only [Bool.and_eq_true, beq_iff_eq] at hchk
   obtain ⟨⟨h1, h2⟩, h3⟩ := hchk
   have : vals = [] := by
    have : xs = [] := by simpa using h3
    subst this
    exact List.eq_nil_of_length_eq_zero hlen.symm
   subst this
   subst h2
   cases he
   exact zch6 hs ho h1 hid hobl.1
  ·cases hchk
 case build z ps =>
  split at hchk
  ·rename_i T parts ho
   simp only [Bool.and_eq_true] at hchk
   obtain ⟨⟨h1, h2⟩, h3⟩ := hchk
   obtain ⟨h4, h5⟩ := zaC0 (hV _ h3)
   cases vals <;> (cases he; exact zch8 hs ho h1 h2 h4 h5 hobl)
  ·cases hchk
 case bslice sz z =>
  split at hchk
  ·rename_i T n parts ho
   simp only [Bool.and_eq_true, beq_iff_eq] at hchk
   obtain ⟨⟨⟨h0, h1⟩, h2⟩, h3⟩ := hchk
   obtain ⟨h4, h5⟩ := zaC0 (hV _ h3)
   cases vals <;> (cases he; exact zbM7 hs ho (by omega) h1 h2 h4 hobl.2.2.2.2 h5 hobl.2.1 hobl.2.2.1 hobl.2.2.2.1)
  ·cases hchk
 case bown sz z =>
  split at hchk
  ·rename_i T n parts ho
   simp only [Bool.and_eq_true, beq_iff_eq] at hchk
   obtain ⟨⟨⟨h0, h1⟩, h2⟩, h3⟩ := hchk
   obtain ⟨h4, h5⟩ := zaC0 (hV _ h3)
   cases vals <;> (cases he; exact zdW1 hs ho (by omega) h1 h2 h4 hobl.2.2.2 h5 hid hobl.1 hobl.2.1 hobl.2.2.1)
  ·cases hchk
 case load n ag =>
  split at hchk
  ·rename_i T x ho
   simp only [Bool.and_eq_true] at hchk
   obtain ⟨v, rfl, hv⟩ := (hV _ hchk.2).one
   refine (zdV8 hs ho hchk.1 hv he hobl).mw ?_
   simp only [ev] at he
   split at he
   ·split at he <;> first | (cases he; rfl) | cases he
   ·cases he; rfl
   ·cases he
  ·cases hchk
 case store n =>
  split at hchk
  ·rename_i T x y ho
   simp only [Bool.and_eq_true] at hchk
   obtain ⟨v, u, rfl, hv, hu⟩ := (hV _ hchk.2).two
   exact zch7 hs ho hchk.1 hv hu he hobl
  ·cases hchk
 case bin b =>
  split at hchk
  ·rename_i b' T x y T2 ho
   simp only [Bool.and_eq_true, beq_iff_eq] at hchk
   obtain ⟨rfl, h2⟩ := hchk
   obtain ⟨v, u, rfl, hv, hu⟩ := (hV _ h2).two
   simp only [ev, Option.map_eq_some_iff] at he
   obtain ⟨q, hq, rfl⟩ := he
   exact zel7 hs ho hv hu hq hobl
  ·cases hchk
 case eqb neg =>
  split at hchk
  ·rename_i b' T x y T2 ho
   simp only [Bool.and_eq_true, beq_iff_eq] at hchk
   obtain ⟨⟨rfl, h2⟩, h3⟩ := hchk
   obtain ⟨v, u, rfl, hv, hu⟩ := (hV _ h3).two
   obtain ⟨d, hd, hd2⟩ := zK9 h2
   have hT : P.underlying T = some .bool := by cases d <;> simp [zbM9] at hd2; exact hd
   cases v <;> simp only [ev] at he <;> try (cases he; done)
   cases u <;> simp only [ev] at he <;> try (cases he; done)
   cases he
   exact zem4 hs ho hT hv hu
  ·cases hchk
 case eqa neg ks =>
  split at hchk
  ·rename_i b' T x y T2 ho
   simp only [Bool.and_eq_true, beq_iff_eq, Bool.not_eq_true'] at hchk
   obtain ⟨⟨⟨⟨rfl, h2⟩, h3⟩, h4⟩, h5⟩ := hchk
   obtain ⟨v, u, rfl, hv, hu⟩ := (hV _ h5).two
   cases v <;> simp only [ev] at he <;> try (cases he; done)
   cases u <;> simp only [ev] at he <;> try (cases he; done)
   cases he
   exact zem7 hs ho h2 h3 h4 hv hu hobl.1 hobl.2
  ·cases hchk
 case not =>
  split at hchk
  ·rename_i T x ho
   obtain ⟨v, rfl, hv⟩ := (hV _ hchk).one
   cases v <;> simp only [ev] at he <;> try (cases he; done)
   cases he
   exact zel5 hs ho hv
  ·cases hchk
 case neg =>
  split at hchk
  ·rename_i T x ho
   obtain ⟨v, rfl, hv⟩ := (hV _ hchk).one
   cases v <;> simp only [ev] at he <;> try (cases he; done)
   cases he
   exact zel6 hs ho hv
  ·cases hchk
 case field off n ag =>
  split at hchk
  ·rename_i T x f ho
   simp only [Bool.and_eq_true] at hchk
   obtain ⟨v, rfl, hv⟩ := (hV _ hchk.2).one
   refine (zch3 hs ho hchk.1 hv he hobl).mw ?_
   cases v <;> simp only [ev] at he <;> first | (cases he; rfl) | cases he
  ·cases hchk
 case faddr off =>
  split at hchk
  ·rename_i T x f ho
   simp only [Bool.and_eq_true] at hchk
   obtain ⟨v, rfl, hv⟩ := (hV _ hchk.2).one
   refine (zch2 hs ho hchk.1 hv he).mw ?_
   simp only [ev] at he
   split at he
   ·split at he <;> first | (cases he; rfl) | cases he
   ·cases he; rfl
   ·cases he
  ·cases hchk
 case iaA n sz =>
  split at hchk
  ·rename_i T x i ho
   simp only [Bool.and_eq_true] at hchk
   obtain ⟨v, u, rfl, hv, hu⟩ := (hV _ hchk.2).two
   refine (zem0 hs ho hchk.1 hv hu he hobl).mw ?_
   cases u <;> simp only [ev] at he <;> try (cases he; done)
   split at he
   ·split at he <;> first | (cases he; rfl) | cases he
   ·cases he; rfl
   ·cases he
  ·cases hchk
 case iaS sz z =>
  split at hchk
  ·rename_i T x i ho
   simp only [Bool.and_eq_true] at hchk
   obtain ⟨v, u, rfl, hv, hu⟩ := (hV _ hchk.2).two
   refine (zem1 hs ho hchk.1 hv hu he hobl).mw ?_
   cases u <;> simp only [ev] at he <;> try (cases he; done)
   split at he
   ·cases he; rfl
   ·cases he; rfl
   ·split at he <;> first | (cases he; rfl) | cases he
   ·cases he
  ·cases hchk
 case idxA n sz ag =>
  split at hchk
  ·rename_i T x i ho
   simp only [Bool.and_eq_true] at hchk
   obtain ⟨v, u, rfl, hv, hu⟩ := (hV _ hchk.2).two
   refine (zdV9 hs ho hchk.1 hv hu he hobl).mw ?_
   cases v <;> simp only [ev] at he <;> try (cases he; done)
   cases u <;> simp only [ev] at he <;> try (cases he; done)
   cases he; rfl
  ·cases hchk
 case idxS =>
  split at hchk
  ·rename_i T x i ho
   simp only [Bool.and_eq_true] at hchk
   obtain ⟨v, u, rfl, hv, hu⟩ := (hV _ hchk.2).two
   obtain ⟨d, hd, hd2⟩ := zK9 hchk.1
   have hT : P.underlying T = some .string := by cases d <;> simp [zak2] at hd2; exact hd
   cases v <;> simp only [ev] at he <;> try (cases he; done)
   cases u <;> simp only [ev] at he <;> try (cases he; done)
   cases he
   exact zdW3 hs ho hT hv hu hobl.1 hobl.2
  ·cases hchk
 case slc sz l h m =>
  split at hchk
  ·rename_i T x lo hi mx ho
   simp only [Bool.and_eq_true, beq_iff_eq] at hchk
   obtain ⟨⟨⟨⟨⟨h1, h2⟩, rfl⟩, rfl⟩, rfl⟩, h6⟩ := hchk
   have V := hV _ h6
   obtain ⟨d, hd, hd2⟩ := zK9 h1
   have fin : ∀ v, Rep w W μ (a.eval x) v → ∀ l h m, Bds (lo.map a.eval) (hi.map a.eval) (mx.map a.eval) l h m → (if v.isStr then none else (zV6 s.mem sz v l h m).map fun q => (⟨q.1, q.2, []⟩ : Ef)) = some ef → ze7 P o a w W μ s.mem ef.v (setM s.mem ef.mw) := fun v hv l h m hb hq => by
    split at hq
    ·cases hq
    ·rename_i hns
     simp only [Option.map_eq_some_iff] at hq
     obtain ⟨q, hq, rfl⟩ := hq
     refine zcl4 hs ho h2 hv ⟨fun ⟨b, hb⟩ => ?_, fun hu => ?_⟩ hb hq hobl
     ·subst hb; exact absurd rfl hns
     ·rw [hd] at hu; cases hu; simp [zaS1] at hd2
   cases lo with
   | none =>
    cases hi with
    | none =>
     cases mx with
     | none =>
      obtain ⟨v, rfl, hv⟩ := V.one
      exact fin v hv none none none ⟨.inl ⟨rfl, rfl⟩, .inl ⟨rfl, rfl⟩, .inl ⟨rfl, rfl⟩⟩ he
     | some m0 =>
      obtain ⟨v, u, rfl, hv, hu⟩ := V.two
      exact absurd he (by simp [ev])
    | some h0 =>
     cases mx with
     | none =>
      obtain ⟨v, u, rfl, hv, hu⟩ := V.two
      cases u <;> simp only [ev, Option.isSome] at he <;> try (cases he; done)
      exact fin v hv none (some _) none ⟨.inl ⟨rfl, rfl⟩, .inr ⟨_, _, congrArg some hu.int, rfl⟩, .inl ⟨rfl, rfl⟩⟩ he
     | some m0 =>
      obtain ⟨v, u, t, rfl, hv, hu, ht⟩ := V.three
      cases u <;> simp only [ev, Option.isSome] at he <;> try (cases he; done)
      cases t <;> (try simp only at he) <;> try (cases he; done)
      exact fin v hv none (some _) (some _) ⟨.inl ⟨rfl, rfl⟩, .inr ⟨_, _, congrArg some hu.int, rfl⟩, .inr ⟨_, _, congrArg some ht.int, rfl⟩⟩ he
   | some l0 =>
    cases hi with
    | none =>
     cases mx with
     | none =>
      obtain ⟨v, u, rfl, hv, hu⟩ := V.two
      cases u <;> simp only [ev, Option.isSome] at he <;> try (cases he; done)
      exact fin v hv (some _) none none ⟨.inr ⟨_, _, congrArg some hu.int, rfl⟩, .inl ⟨rfl, rfl⟩, .inl ⟨rfl, rfl⟩⟩ he
     | some m0 =>
      obtain ⟨v, u, t, rfl, hv, hu, ht⟩ := V.three
      exact absurd he (by simp [ev])
    | some h0 =>
     cases mx with
     | none =>
      obtain ⟨v, u, t, rfl, hv, hu, ht⟩ := V.three
      cases u <;> simp only [ev, Option.isSome] at he <;> try (cases he; done)
      cases t <;> (try simp only at he) <;> try (cases he; done)
      exact fin v hv (some _) (some _) none ⟨.inr ⟨_, _, congrArg some hu.int, rfl⟩, .inr ⟨_, _, congrArg some ht.int, rfl⟩, .inl ⟨rfl, rfl⟩⟩ he
     | some m0 =>
      obtain ⟨v, u, t, r, rfl, hv, hu, ht, hr⟩ := V.four
      cases u <;> simp only [ev, Option.isSome] at he <;> try (cases he; done)
      cases t <;> (try simp only at he) <;> try (cases he; done)
      cases r <;> (try simp only at he) <;> try (cases he; done)
      exact fin v hv (some _) (some _) (some _) ⟨.inr ⟨_, _, congrArg some hu.int, rfl⟩, .inr ⟨_, _, congrArg some ht.int, rfl⟩, .inr ⟨_, _, congrArg some hr.int, rfl⟩⟩ he
  ·cases hchk
 case slcS l h =>
  split at hchk
  ·rename_i T x lo hi mx ho
   simp only [Bool.and_eq_true, beq_iff_eq] at hchk
   obtain ⟨⟨⟨⟨h1, rfl⟩, rfl⟩, h4⟩, h6⟩ := hchk
   have V := hV _ h6
   obtain ⟨d, hd, hd2⟩ := zK9 h1
   have hT : P.underlying T = some .string := by cases d <;> simp [zak2] at hd2; exact hd
   have h2 : zbg2 P T 0 = true := by simp [zbg2, hT]
   have hmx : mx = none := by simpa using h4
   subst hmx
   have fin : ∀ b, Rep w W μ (a.eval x) (.str b) → ∀ l h, Bds (lo.map a.eval) (hi.map a.eval) none l h none → ((zV6 s.mem 0 (.str b) l h none).map fun q => (⟨q.1, q.2, []⟩ : Ef)) = some ef → ze7 P o a w W μ s.mem ef.v (setM s.mem ef.mw) := fun b hv l h hb hq => by
    simp only [Option.map_eq_some_iff] at hq
    obtain ⟨q, hq, rfl⟩ := hq
    exact zcl4 hs ho h2 hv ⟨fun _ => hT, fun _ => ⟨b, rfl⟩⟩ hb hq hobl
   cases lo with
   | none =>
    cases hi with
    | none =>
     obtain ⟨v, rfl, hv⟩ := V.one
     cases v <;> simp only [ev, Option.isSome] at he <;> try (cases he; done)
     exact fin _ hv none none ⟨.inl ⟨rfl, rfl⟩, .inl ⟨rfl, rfl⟩, .inl ⟨rfl, rfl⟩⟩ he
    | some h0 =>
     obtain ⟨v, u, rfl, hv, hu⟩ := V.two
     cases v <;> simp only [ev, Option.isSome] at he <;> try (cases he; done)
     cases u <;> (try simp only at he) <;> try (cases he; done)
     exact fin _ hv none (some _) ⟨.inl ⟨rfl, rfl⟩, .inr ⟨_, _, congrArg some hu.int, rfl⟩, .inl ⟨rfl, rfl⟩⟩ he
   | some l0 =>
    cases hi with
    | none =>
     obtain ⟨v, u, rfl, hv, hu⟩ := V.two
     cases v <;> simp only [ev, Option.isSome] at he <;> try (cases he; done)
     cases u <;> (try simp only at he) <;> try (cases he; done)
     exact fin _ hv (some _) none ⟨.inr ⟨_, _, congrArg some hu.int, rfl⟩, .inl ⟨rfl, rfl⟩, .inl ⟨rfl, rfl⟩⟩ he
    | some h0 =>
     obtain ⟨v, u, t, rfl, hv, hu, ht⟩ := V.three
     cases v <;> simp only [ev, Option.isSome] at he <;> try (cases he; done)
     cases u <;> (try simp only at he) <;> try (cases he; done)
     cases t <;> (try simp only at he) <;> try (cases he; done)
     exact fin _ hv (some _) (some _) ⟨.inr ⟨_, _, congrArg some hu.int, rfl⟩, .inr ⟨_, _, congrArg some ht.int, rfl⟩, .inl ⟨rfl, rfl⟩⟩ he
  ·cases hchk
 case ext i =>
  split at hchk
  ·rename_i x i' ho
   simp only [Bool.and_eq_true, beq_iff_eq] at hchk
   obtain ⟨rfl, h2⟩ := hchk
   obtain ⟨v, rfl, hv⟩ := (hV _ h2).one
   cases v <;> simp only [ev] at he <;> try (cases he; done)
   cases he
   exact zel8 hs ho hv hobl
  ·cases hchk
 case len =>
  split at hchk
  ·rename_i args ats ho
   split at hchk
   ·rename_i x t hx ht
    simp only [Bool.and_eq_true] at hchk
    obtain ⟨v, rfl, hv⟩ := (hV _ hchk.2).one
    obtain ⟨d, hd, hd2⟩ := zK9 hchk.1
    have hT : ∃ e, P.underlying t = some (.slice e) := by cases d <;> simp [zaS1] at hd2; exact ⟨_, hd⟩
    have ha : args = #[x] := by rw [← hx]
    have hat : ats[0]? = some t := by
     have : ats = #[t] := by rw [← ht]
     rw [this]; rfl
    subst ha
    refine (zel9 hs ho hat hT hv he).mw ?_
    simp only [ev] at he
    split at he
    ·cases he; rfl
    ·cases he; rfl
    ·split at he <;> first | (cases he; rfl) | cases he
    ·cases he
   ·cases hchk
  ·cases hchk
 case lenS =>
  split at hchk
  ·rename_i args ats ho
   split at hchk
   ·rename_i x t hx ht
    simp only [Bool.and_eq_true] at hchk
    obtain ⟨v, rfl, hv⟩ := (hV _ hchk.2).one
    obtain ⟨d, hd, hd2⟩ := zK9 hchk.1
    have hT : P.underlying t = some .string := by cases d <;> simp [zak2] at hd2; exact hd
    have ha : args = #[x] := by rw [← hx]
    have hat : ats[0]? = some t := by
     have : ats = #[t] := by rw [← ht]
     rw [this]; rfl
    subst ha
    cases v <;> simp only [ev] at he <;> try (cases he; done)
    cases he
    exact zdV7 hs ho hat hT hv
   ·cases hchk
  ·cases hchk
 case append sz by_ z =>
  split at hchk
  ·rename_i args ats ho
   split at hchk
   ·rename_i x y T U hx ht
    simp only [Bool.and_eq_true] at hchk
    obtain ⟨v, u, rfl, hv, hu⟩ := (hV _ hchk.2).two
    have ha : args = #[x, y] := by rw [← hx]
    have hat : ats = #[T, U] := by rw [← ht]
    subst ha; subst hat
    exact zbM6 hs ho hchk.1 hv hu hid he hobl
   ·cases hchk
  ·cases hchk
 case apl sz by_ =>
  split at hchk
  ·rename_i args ats ho
   split at hchk
   ·rename_i x y T U hx ht
    simp only [Bool.and_eq_true] at hchk
    obtain ⟨v, u, rfl, hv, hu⟩ := (hV _ hchk.2).two
    have ha : args = #[x, y] := by rw [← hx]
    have hat : ats = #[T, U] := by rw [← ht]
    subst ha; subst hat
    cases v <;> first | (cases he; done) | skip
    cases u <;> first | (cases he; done) | skip
    cases he
    obtain ⟨h1, rfl, h3, h4, h5⟩ := hobl
    exact zem6 hs ho hchk.1 hv hu h3 h4 h5
   ·cases hchk
  ·cases hchk
 case clear sz z =>
  split at hchk
  ·rename_i args ats ho
   split at hchk
   ·rename_i x T hx ht
    simp only [Bool.and_eq_true] at hchk
    obtain ⟨v, rfl, hv⟩ := (hV _ hchk.2).one
    have ha : args = #[x] := by rw [← hx]
    have hat : ats = #[T] := by rw [← ht]
    subst ha; subst hat
    exact zch9 hs ho hchk.1 hv he hobl
   ·cases hchk
  ·cases hchk
 case copy sz =>
  split at hchk
  ·rename_i args ats ho
   split at hchk
   ·rename_i x y T U hx ht
    simp only [Bool.and_eq_true] at hchk
    obtain ⟨v, u, rfl, hv, hu⟩ := (hV _ hchk.2).two
    have ha : args = #[x, y] := by rw [← hx]
    have hat : ats = #[T, U] := by rw [← ht]
    subst ha; subst hat
    exact zdW2 hs ho hchk.1 hv hu he hobl
   ·cases hchk
  ·cases hchk
 case mk sz by_ z =>
  split at hchk
  ·rename_i T x y ho
   simp only [Bool.and_eq_true] at hchk
   obtain ⟨v, u, rfl, hv, hu⟩ := (hV _ hchk.2).two
   cases v <;> simp only [ev] at he <;> try (cases he; done)
   cases u <;> simp only [ev] at he <;> try (cases he; done)
   cases he
   obtain ⟨h1, _, h3, h4, h5, h6⟩ := hobl
   exact y_mk hs ho hchk.1 hv hu hid h1 h3 h4 h5 h6
  ·cases hchk
 case conv k =>
  split at hchk
  ·rename_i T T2 x ho
   simp only [Bool.and_eq_true] at hchk
   obtain ⟨⟨h1, h2⟩, h3⟩ := hchk
   obtain ⟨v, rfl, hv⟩ := (hV _ h3).one
   obtain ⟨d, hd, _⟩ := zK9 h1
   obtain ⟨d2, hd2, hd3⟩ := zK9 h2
   have hT : P.underlying T2 = some (.int k) := by cases d2 <;> simp [zbN0] at hd3; subst hd3; exact hd2
   cases v <;> simp only [ev] at he <;> try (cases he; done)
   cases he
   exact zdW0 hs ho ⟨⟨d, hd⟩, hT⟩ hv
  ·cases hchk
 case min =>
  split at hchk
  ·rename_i args ats ho
   split at hchk
   ·rename_i x y hx
    obtain ⟨v, u, rfl, hv, hu⟩ := (hV _ hchk).two
    have ha : args = #[x, y] := by rw [← hx]
    subst ha
    cases v <;> simp only [ev] at he <;> try (cases he; done)
    cases u <;> simp only [ev] at he <;> try (cases he; done)
    cases he
    have : _ = _ := hobl
    subst this
    exact zem2 hs ho hv hu
   ·cases hchk
  ·cases hchk
 case max =>
  split at hchk
  ·rename_i args ats ho
   split at hchk
   ·rename_i x y hx
    obtain ⟨v, u, rfl, hv, hu⟩ := (hV _ hchk).two
    have ha : args = #[x, y] := by rw [← hx]
    subst ha
    cases v <;> simp only [ev] at he <;> try (cases he; done)
    cases u <;> simp only [ev] at he <;> try (cases he; done)
    cases he
    have : _ = _ := hobl
    subst this
    exact zem3 hs ho hv hu
   ·cases hchk
  ·cases hchk
 case nilck =>
  split at hchk
  ·rename_i x ho
   obtain ⟨v, rfl, hv⟩ := (hV _ hchk).one
   refine (zch4 hs ho hv he).mw ?_
   simp only [ev] at he
   split at he
   ·split at he <;> first | (cases he; rfl) | cases he
   ·cases he; rfl
   ·cases he; rfl
   ·cases he
  ·cases hchk
 case mkf f =>
  split at hchk
  ·rename_i f' fst caps ho
   simp only [Bool.and_eq_true, beq_iff_eq] at hchk
   obtain ⟨⟨rfl, h2⟩, h3⟩ := hchk
   have hf : fst = #[] := by simpa using h2
   subst hf
   have hv := hV _ h3
   cases vals <;> (cases he; exact zem8 hs ho hv.1 hv.2 (zbg8 hobl))
  ·cases hchk
 case call f => cases vals <;> (simp [ev] at he)
 case callv => cases vals <;> (simp [ev] at he)
 case callm f => cases vals <;> (simp [ev] at he)
 case callvm => cases vals <;> (simp [ev] at he)
end
end Ab
end Go.Proofs.YtfjeceicgfdmjaaGreatDoor
namespace Go.Proofs.YtfjeceicgfdmjaaGreatDoor
namespace Ab
set_option linter.unusedSimpArgs false
set_option linter.unusedVariables false
structure Cx where
 P : Program
 G : zaN3
def zS4 : Nat → Loc := fun _ => .fresh
def PFn (C : Cx) (f : FuncId) (as : List A) (r : A) : Prop :=
 ∀ (w : World) (W : Nat → Prop) (vs : List Value), zar5 w W C.G → (∀ b, W b → b < w.heap.size) → vs.length = as.length →
  (∀ (i : Nat) (v : Value) (a : A), vs[i]? = some v → as[i]? = some a → RepV w W zS4 v a) →
  Calls C.P f vs.toArray w fun e w' => ∃ v, e = .returned v ∧ Keeps (fun _ => False) w w' ∧ Rep w' W zS4 v r
def look {α : Type} : List (Nat × α) → Nat → Option α
 | [], _ => none
 | q :: r, n => if q.1 = n then some q.2 else look r n
def rm {α : Type} (n : Nat) : List (Nat × α) → List (Nat × α)
 | [] => []
 | q :: r => if q.1 = n then rm n r else q :: rm n r
def zbg9 {α : Type} : List Nat → List (Nat × α) → List (Nat × α)
 | [], l => l
 | n :: ns, l => zbg9 ns (rm n l)
structure St where
 fr : List (Nat × A)
 mem : List (Nat × Row)
 nx : Nat
def St.slot (st : St) (t : Nat) : A := (look st.fr t).getD .any
def St.m (st : St) (x : Nat) : MS := if st.nx ≤ x then .fresh else match look st.mem x with
 | some r => .row r
 | none => .dead
def St.toS (st : St) : S := ⟨st.slot, st.m⟩
def putM : List (Nat × MS) → List (Nat × Row) → List (Nat × Row)
 | [], m => m
 | (x, .row r) :: q, m => putM q ((x, r) :: rm x m)
 | (x, _) :: q, m => putM q (rm x m)
def nxt (nx : Nat) : List (Nat × MS) → Nat
 | [] => nx
 | q :: r => nxt (if q.1 = nx then nx + 1 else nx) r
def putF (d : Option Nat) (v : A) (fr : List (Nat × A)) : List (Nat × A) := match d with
 | none => fr
 | some d => (d, v) :: rm d fr
def St.app (st : St) (d : Option Nat) (v : A) (mw : List (Nat × MS)) : St := ⟨putF d v st.fr, putM mw st.mem, nxt st.nx mw⟩
def frz1 (m : Nat → MS) : A → A
 | .own x lo n => match m x with
  | .row r => .sl ((r.es.drop lo).take n)
  | _ => .any
 | a => a
def zg5 : List A → Bool
 | [] => true
 | a :: as => a.pure1 && zg5 as
def frz (m : Nat → MS) : A → A
 | .agg cs => if zg5 cs then .agg cs else .agg (cs.map (frz1 m))
 | a => frz1 m a
def zS5 (m : Nat → MS) : A → Prop
 | .own x lo n => match m x with
  | .row r => lo + n ≤ r.es.length ∧ zs5 ((r.es.drop lo).take n)
  | _ => False
 | a => a.pure1 = true
def zZ0 (m : Nat → MS) : A → Prop
 | .agg cs => if zg5 cs then True else ∀ c ∈ cs, zS5 m c
 | .clo _ cs => cs = []
 | a => zS5 m a
def zz2 (m : Nat → MS) : List A → List A
 | [] => []
 | a :: as => frz m a :: zz2 m as
def zs6 (m : Nat → MS) : List A → Prop
 | [] => True
 | a :: as => zZ0 m a ∧ zs6 m as
def zx6 : A → List Nat
 | .own x _ _ => [x]
 | _ => []
def zaa0 : A → List Nat
 | .agg cs => if zg5 cs then [] else cs.flatMap zx6
 | a => zx6 a
def zu4 : List A → List Nat
 | [] => []
 | a :: as => zaa0 a ++ zu4 as
def A.scal1 : A → Bool
 | .bool _ | .int _ _ | .str _ => true
 | _ => false
def zz3 : List A → Bool
 | [] => true
 | a :: as => a.scal1 && zz3 as
def A.scal2 : A → Bool
 | .agg cs => zz3 cs
 | a => a.scal1
def zaU4 : List A → Bool
 | [] => true
 | a :: as => a.scal2 && zaU4 as
def A.scal : A → Bool
 | .tup vs => zaU4 vs
 | a => a.scal2
def zG2 (m : Nat → MS) : List Nat → List (Nat × MS)
 | [] => []
 | x :: xs => match m x with
  | .row r => (x, .row ⟨true, r.sz, r.z, r.es⟩) :: zG2 m xs
  | _ => zG2 m xs
def zu5 (m : Nat → MS) (vals : List A) (r : A) : List (Nat × MS) := if r.scal then [] else zG2 m (zu4 vals)
def zx7 (st : St) : Option (Nat × Bool) → Option Bool
 | none => some true
 | some q => match st.slot q.1 with
  | .bool b => some (if q.2 then b else !b)
  | .cnd g (.bool b) => some (g && if q.2 then b else !b)
  | _ => none
def zI4 (g : Option (Nat × Bool)) (b : Bool) (v : A) : A := match g with
 | none => v
 | some _ => .cnd b v
def zf3 (C : Cx) (st : St) : List PX → List A
 | [] => []
 | p :: ps => (xv C.G st.slot p).nc :: zf3 C st ps
def zV7 (C : Cx) (st : St) : List PX → Prop
 | [] => True
 | p :: ps => (xv C.G st.slot p).gd = true ∧ zV7 C st ps
def A.isVV : A → Bool
 | .any | .tup _ | .cnd _ _ => false
 | _ => true
def rho (l : List (Nat × Nat)) (x : Nat) : Nat := (look l x).getD x
def ren0 (l : List (Nat × Nat)) : A → A
 | .own x lo n => .own (rho l x) lo n
 | .ptr x i j => .ptr (rho l x) i j
 | a => a
def ren1 (l : List (Nat × Nat)) : A → A
 | .clo f cs => .clo f (cs.map (ren0 l))
 | a => ren0 l a
def ren (l : List (Nat × Nat)) : A → A
 | .agg cs => if zg5 cs then .agg cs else .agg (cs.map (ren1 l))
 | a => ren1 l a
def renR (l : List (Nat × Nat)) : A → A
 | .tup vs => .tup (vs.map (ren l))
 | a => ren l a
def zbq9 (nx : Nat) : A → Prop
 | .own x _ _ => x < nx
 | .ptr x _ _ => x < nx
 | _ => True
def zaN4 (nx : Nat) : A → Prop
 | .clo _ cs => ∀ c ∈ cs, zbq9 nx c
 | a => zbq9 nx a
def pureEs : List (List A) → Bool
 | [] => true
 | c :: cs => zg5 c && pureEs cs
def zag9 (l : List (Nat × Nat)) (es : List (List A)) : List (List A) := if pureEs es then es else es.map (·.map (ren1 l))
def idEs (nx : Nat) (es : List (List A)) : Prop := if pureEs es then True else ∀ c ∈ es, ∀ a ∈ c, zaN4 nx a
def zac4 : List Nat → Bool
 | [] => true
 | x :: xs => !xs.contains x && zac4 xs
def MFn (C : Cx) (f : FuncId) (as : List A) (ms : List (Nat × Row)) (k : Nat) (r : A) (ms' : List (Nat × Row)) (k' : Nat) : Prop :=
 ∀ (w : World) (W : Nat → Prop) (μ : Nat → Loc) (vs : List Value), zar5 w W C.G → (∀ b, W b → b < w.heap.size) → vs.length = as.length →
  (∀ (i : Nat) (v : Value) (a : A), vs[i]? = some v → as[i]? = some a → RepV w W μ v a) → zag6 w W μ (⟨[], ms, k⟩ : St).m →
  (∀ x y b b', μ x = .at_ b → μ y = .at_ b' → b.b = b'.b → x = y) →
  Calls C.P f vs.toArray w fun e w' => ∃ v W' μ', e = .returned v ∧ Step (⟨[], ms, k⟩ : St).m (⟨[], ms', k'⟩ : St).m w w' W W' μ μ' ∧ Rep w' W' μ' v r
def A.hands : A → Bool
 | .own _ _ _ | .ptr _ _ _ => true
 | .clo _ cs => !cs.isEmpty
 | _ => false
def argM (m : Nat → MS) (l : List (Nat × Nat)) (k : Nat) (v a : A) : Prop :=
 if a.hands then v = ren1 l a ∧ zaN4 k a else zZ0 m v ∧ frz m v = a
def zaU5 (m : Nat → MS) (l : List (Nat × Nat)) (k : Nat) : List A → List A → Prop
 | v :: vs, a :: as => argM m l k v a ∧ zaU5 m l k vs as
 | [], [] => True
 | _, _ => False
def fzM : List A → List A → List Nat
 | v :: vs, a :: as => (if a.hands then [] else zaa0 v) ++ fzM vs as
 | _, _ => []
def zbh0 (m : Nat → MS) (l : List (Nat × Nat)) (k : Nat) (fz : List Nat) : List (Nat × Row) → Prop
 | [] => True
 | q :: r => (match m (rho l q.1) with
   | .row r' => r'.ro = false ∧ r'.sz = q.2.sz ∧ r'.es = zag9 l q.2.es
   | _ => False) ∧ q.2.ro = false ∧ q.1 < k ∧ idEs k q.2.es ∧ fz.contains (rho l q.1) = false ∧ zbh0 m l k fz r
def zbh1 {α : Type} (ms : List (Nat × α)) : Nat → Bool
 | 0 => true
 | n + 1 => (look ms n).isSome && zbh1 ms n
def okM (m : Nat → MS) (nx : Nat) (l : List (Nat × Nat)) (vals as : List A) (ms : List (Nat × Row)) (k k' : Nat) : Prop :=
 zaU5 m l k vals as ∧ zbh0 m l k (fzM vals as) ms ∧ zac4 (ms.map fun q => rho l q.1) = true ∧ zac4 (ms.map (·.1)) = true ∧ zbh1 ms k = true ∧ Nat.ble k k' = true ∧ (∀ q ∈ ms, rho l q.1 < nx) ∧ (∀ q ∈ l, q.1 < k)
def newL (k nx : Nat) : Nat → List (Nat × Nat)
 | 0 => []
 | n + 1 => (k, nx) :: newL (k + 1) (nx + 1) n
def entM (l : List (Nat × Nat)) : Option Row → MS
 | some r => .row ⟨r.ro, r.sz, r.z, zag9 l r.es⟩
 | none => .dead
def zS6 (l : List (Nat × Nat)) (ms' : List (Nat × Row)) : List Nat → List (Nat × MS)
 | [] => []
 | x :: xs => (rho l x, entM l (look ms' x)) :: zS6 l ms' xs
def mwM (m : Nat → MS) (l : List (Nat × Nat)) (vals as : List A) (ms ms' : List (Nat × Row)) (k k' : Nat) : List (Nat × MS) :=
 zG2 m (fzM vals as) ++ zS6 l ms' (ms.map (·.1) ++ (List.range (k' - k)).map (k + ·))
def zas0 (C : Cx) (m : Nat → MS) (nx : Nat) (f : FuncId) (vals : List A) (F : Nat → Prop) (K : A → List (Nat × MS) → Prop) : Prop :=
 ∃ l as ms k r ms' k', MFn C f as ms k r ms' k' ∧ okM m nx l vals as ms k k' ∧ (∀ g c, r ≠ .cnd g c) ∧ F (k' - k) ∧ K (renR (l ++ newL k nx (k' - k)) r) (mwM m (l ++ newL k nx (k' - k)) vals as ms ms' k k')
def aop (C : Cx) (p : POp) (st : St) (K : St → Prop) : Prop :=
 match zx7 st p.g with
 | none => False
 | some g =>
  match p.po with
  | .pick => match p.xs with
   | [c, x, y] => match (xv C.G st.slot c).nc, (xv C.G st.slot x).nc, (xv C.G st.slot y).nc with
    | .bool b, .bool u, .bool v => (g = true → (xv C.G st.slot c).gd = true ∧ (b = true → (xv C.G st.slot x).gd = true) ∧ (b = false → (xv C.G st.slot y).gd = true)) ∧ K (st.app p.dst (zI4 p.g g (.bool (cond b u v))) [])
    | _, _, _ => False
   | _ => False
  | .call f => ∃ r, (g = true → zV7 C st p.xs ∧ zs6 st.m (zf3 C st p.xs) ∧ PFn C f (zz2 st.m (zf3 C st p.xs)) r) ∧
    (p.g = none ∨ zu5 st.m (zf3 C st p.xs) r = [] ∧ r.isVV = true) ∧ K (st.app p.dst (zI4 p.g g r) (zu5 st.m (zf3 C st p.xs) r))
  | .callv => match zf3 C st p.xs with
   | .clo f caps :: vals => ∃ r, (g = true → zV7 C st p.xs ∧ zG6 C.P f = true ∧ zs6 st.m (vals ++ caps) ∧ PFn C f (zz2 st.m (vals ++ caps)) r) ∧
    (p.g = none ∨ zu5 st.m (vals ++ caps) r = [] ∧ r.isVV = true) ∧ K (st.app p.dst (zI4 p.g g r) (zu5 st.m (vals ++ caps) r))
   | _ => False
  | .callm f => p.g = none ∧ zV7 C st p.xs ∧ zas0 C st.m st.nx f (zf3 C st p.xs) (fun _ => True) fun v mw => K (st.app p.dst v mw)
  | .callvm => match zf3 C st p.xs with
   | .clo f caps :: vals => p.g = none ∧ zV7 C st p.xs ∧ zG6 C.P f = true ∧ zas0 C st.m st.nx f (vals ++ caps) (fun _ => True) fun v mw => K (st.app p.dst v mw)
   | _ => False
  | po => match ev st.nx st.m po (zf3 C st p.xs) with
   | some ef => (g = true → zV7 C st p.xs ∧ ef.obl) ∧ (p.g = none ∨ ef.mw = [] ∧ ef.v.isVV = true) ∧ K (st.app p.dst (zI4 p.g g ef.v) ef.mw)
   | none => False
def zu6 (fr : Nat → A) : Option (Nat × Bool) → Option Bool
 | none => some true
 | some q => match fr q.1 with
  | .bool b => some (if q.2 then b else !b)
  | .cnd g (.bool b) => some (g && if q.2 then b else !b)
  | _ => none
def zv4 (C : Cx) (fr : Nat → A) : List PX → List A
 | [] => []
 | p :: ps => (xv C.G fr p).nc :: zv4 C fr ps
def gdsF (C : Cx) (fr : Nat → A) : List PX → Prop
 | [] => True
 | p :: ps => (xv C.G fr p).gd = true ∧ gdsF C fr ps
def aopS (C : Cx) (p : POp) (s : S) (id : Nat) (K : A → List (Nat × MS) → Prop) : Prop :=
 match zu6 s.fr p.g with
 | none => False
 | some g =>
  match p.po with
  | .pick => match p.xs with
   | [c, x, y] => match (xv C.G s.fr c).nc, (xv C.G s.fr x).nc, (xv C.G s.fr y).nc with
    | .bool b, .bool u, .bool v => (g = true → (xv C.G s.fr c).gd = true ∧ (b = true → (xv C.G s.fr x).gd = true) ∧ (b = false → (xv C.G s.fr y).gd = true)) ∧ K (zI4 p.g g (.bool (cond b u v))) []
    | _, _, _ => False
   | _ => False
  | .call f => ∃ r, (g = true → gdsF C s.fr p.xs ∧ zs6 s.mem (zv4 C s.fr p.xs) ∧ PFn C f (zz2 s.mem (zv4 C s.fr p.xs)) r) ∧
    (p.g = none ∨ zu5 s.mem (zv4 C s.fr p.xs) r = [] ∧ r.isVV = true) ∧ K (zI4 p.g g r) (zu5 s.mem (zv4 C s.fr p.xs) r)
  | .callv => match zv4 C s.fr p.xs with
   | .clo f caps :: vals => ∃ r, (g = true → gdsF C s.fr p.xs ∧ zG6 C.P f = true ∧ zs6 s.mem (vals ++ caps) ∧ PFn C f (zz2 s.mem (vals ++ caps)) r) ∧
    (p.g = none ∨ zu5 s.mem (vals ++ caps) r = [] ∧ r.isVV = true) ∧ K (zI4 p.g g r) (zu5 s.mem (vals ++ caps) r)
   | _ => False
  | .callm f => p.g = none ∧ gdsF C s.fr p.xs ∧ zas0 C s.mem id f (zv4 C s.fr p.xs) (fun n => ∀ x, id ≤ x → x < id + n → s.mem x = .fresh) K
  | .callvm => match zv4 C s.fr p.xs with
   | .clo f caps :: vals => p.g = none ∧ gdsF C s.fr p.xs ∧ zG6 C.P f = true ∧ zas0 C s.mem id f (vals ++ caps) (fun n => ∀ x, id ≤ x → x < id + n → s.mem x = .fresh) K
   | _ => False
  | po => match ev id s.mem po (zv4 C s.fr p.xs) with
   | some ef => (g = true → gdsF C s.fr p.xs ∧ ef.obl) ∧ (p.g = none ∨ ef.mw = [] ∧ ef.v.isVV = true) ∧ K (zI4 p.g g ef.v) ef.mw
   | none => False
def arun (C : Cx) : List POp → St → (St → Prop) → Prop
 | [], st, K => K st
 | p :: ps, st, K => aop C p st fun st' => arun C ps st' K
theorem zab4 {α : Type} (n x : Nat) : ∀ l : List (Nat × α), look (rm n l) x = if x = n then none else look l x
 | [] => by simp [rm, look]
 | q :: r => by
  unfold rm
  split
  ·rename_i h
   rw [zab4 n x r]
   by_cases hx : x = n
   ·simp [hx]
   ·rw [if_neg hx, if_neg hx]
    simp only [look]
    rw [if_neg (by omega)]
  ·rename_i h
   simp only [look]
   split
   ·rename_i h2
    rw [if_neg (by omega)]
   ·exact zab4 n x r
theorem zbr0 (st : St) (d : Option Nat) (v : A) (mw : List (Nat × MS)) : (st.app d v mw).slot = setF st.slot d v := by
 funext t
 simp only [St.slot, St.app, setF, putF]
 cases d with
 | none => simp
 | some d =>
  simp only [look, Option.some.injEq]
  split
  ·rfl
  ·rename_i h
   rw [zab4, if_neg (by omega)]
def mwOk : Nat → List (Nat × MS) → Prop
 | _, [] => True
 | nx, q :: r => q.1 ≤ nx ∧ q.2 ≠ .fresh ∧ mwOk (if q.1 = nx then nx + 1 else nx) r
theorem zbz2 : ∀ (mw : List (Nat × MS)) (fr : List (Nat × A)) (mem : List (Nat × Row)) (nx : Nat), mwOk nx mw → ∀ f2, (⟨f2, putM mw mem, nxt nx mw⟩ : St).m = setM (⟨fr, mem, nx⟩ : St).m mw
 | [], fr, mem, nx, _, f2 => by simp [putM, nxt, setM, St.m]; rfl
 | q :: r, fr, mem, nx, h, f2 => by
  obtain ⟨h1, h2, h3⟩ := h
  have e : (fun x => if x = q.1 then q.2 else (⟨fr, mem, nx⟩ : St).m x) = (⟨fr, (match q with | (x, .row r) => (x, r) :: rm x mem | (x, _) => rm x mem), if q.1 = nx then nx + 1 else nx⟩ : St).m := by
   funext x
   obtain ⟨y, q2⟩ := q
   simp only at h1 h2
   by_cases hx : x = y
   ·subst hx
    rw [if_pos rfl]
    cases q2 with
    | fresh => exact absurd rfl h2
    | dead => simp only [St.m, zab4, if_true]; rw [if_neg (by split <;> omega)]
    | row r => simp only [St.m, look, if_true]; rw [if_neg (by split <;> omega)]
   ·rw [if_neg hx]
    cases q2 with
    | fresh => exact absurd rfl h2
    | dead =>
     simp only [St.m, zab4, hx, if_false]
     split
     ·rename_i hh; rw [if_pos (by split <;> omega)]
     ·rename_i hh; rw [if_neg (by split <;> omega)]
    | row r =>
     simp only [St.m, look, zab4, hx, if_false, show ¬ y = x by omega]
     split
     ·rename_i hh; rw [if_pos (by split <;> omega)]
     ·rename_i hh; rw [if_neg (by split <;> omega)]
  simp only [setM, nxt]
  rw [e]
  obtain ⟨y, q2⟩ := q
  cases q2 with
  | fresh => exact absurd rfl h2
  | dead => exact zbz2 r fr _ _ h3 f2
  | row r' => exact zbz2 r fr _ _ h3 f2
end Ab
end Go.Proofs.YtfjeceicgfdmjaaGreatDoor
