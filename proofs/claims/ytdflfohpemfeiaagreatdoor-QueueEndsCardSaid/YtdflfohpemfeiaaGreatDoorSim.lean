/-
  The small machine's functions as rules of rewriting.
-/
import Derived.Test.YtdflfohpemfeiaaGreatDoorTy
import Derived.Test.YtdflfohpemfeiaaGreatDoorAb22
namespace Go.Proofs.YtdflfohpemfeiaaGreatDoor
namespace Ab
set_option linter.unusedSimpArgs false
set_option linter.unusedVariables false
def acall (C : Cx) (f : FuncId) (d : Option Nat) (g : Option (Nat × Bool)) (gv : Bool) (ob : Prop) (args : List A) (rw : List (Nat × MS)) (ps : List POp) (st : St) (K : St → Prop) : Prop :=
 ∃ r, (gv = true → ob ∧ PFn C f args r) ∧ (g = none ∨ (if r.scal then [] else rw) = [] ∧ r.isVV = true) ∧ arun C ps (st.app d (wrapG g gv r) (if r.scal then [] else rw)) K
theorem acall_of {C : Cx} {f : FuncId} {d : Option Nat} {g : Option (Nat × Bool)} {gv : Bool} {ob : Prop} {args : List A} {rw : List (Nat × MS)} {ps : List POp} {st : St} {K : St → Prop} {r : A}
  (hf : gv = true → PFn C f args r) (h : arun C ps (st.app d (wrapG g gv r) (if r.scal then [] else rw)) K)
  (ho : gv = true → ob := by intro; trivial) (hg : g = none ∨ (if r.scal then [] else rw) = [] ∧ r.isVV = true := by first | exact .inl rfl | exact .inr ⟨rfl, rfl⟩) : acall C f d g gv ob args rw ps st K := ⟨r, fun e => ⟨ho e, hf e⟩, hg, h⟩
def acallm (C : Cx) (f : FuncId) (d : Option Nat) (ob : Prop) (vals : List A) (ps : List POp) (st : St) (K : St → Prop) : Prop :=
 ob ∧ callM C st.m st.nx f vals (fun _ => True) fun v mw => arun C ps (st.app d v mw) K
def noCnd : A → Bool
 | .cnd _ _ => false
 | _ => true
theorem noCnd_ne {r : A} (h : noCnd r = true) : ∀ g c, r ≠ .cnd g c := fun g c e => by subst e; cases h
theorem acallm_of {C : Cx} {f : FuncId} {d : Option Nat} {ob : Prop} {vals : List A} {ps : List POp} {st : St} {K : St → Prop} (l : List (Nat × Nat)) {as : List A} {ms ms' : List (Nat × Row)} {k k' : Nat} {r : A}
  (hf : MFn C f as ms k r ms' k') (hok : okM st.m st.nx l vals as ms k k') (h : arun C ps (st.app d (renR (l ++ newL k st.nx (k' - k)) r) (mwM st.m (l ++ newL k st.nx (k' - k)) vals as ms ms' k k')) K)
  (ho : ob := by trivial) (hr : noCnd r = true := by rfl) : acallm C f d ob vals ps st K :=
 ⟨ho, l, as, ms, k, r, ms', k', hf, hok, noCnd_ne hr, trivial, h⟩
theorem arun_nil (C : Cx) (st : St) (K : St → Prop) : arun C [] st K = K st := rfl
theorem arun_cons (C : Cx) (d : Option Nat) (g : Option (Nat × Bool)) (po : PO) (xs : List PX) (ps : List POp) (st : St) (K : St → Prop) :
  arun C (⟨d, g, po, xs⟩ :: ps) st K = (match po with
   | .call f => (match guardOf st g with
    | none => False
    | some gv => acall C f d g gv (gdsOf C st xs ∧ frzOkAll st.m (valsOf C st xs)) (frzAll st.m (valsOf C st xs)) (roAll st.m (ownIdsAll (valsOf C st xs))) ps st K)
   | .callv => (match guardOf st g with
    | none => False
    | some gv => (match valsOf C st xs with
     | .clo f caps :: vals => acall C f d g gv (gdsOf C st xs ∧ hasBody C.P f = true ∧ frzOkAll st.m (vals ++ caps)) (frzAll st.m (vals ++ caps)) (roAll st.m (ownIdsAll (vals ++ caps))) ps st K
     | _ => False))
   | .callm f => (match guardOf st g with
    | none => False
    | some _ => g = none ∧ acallm C f d (gdsOf C st xs) (valsOf C st xs) ps st K)
   | .callvm => (match guardOf st g with
    | none => False
    | some _ => (match valsOf C st xs with
     | .clo f caps :: vals => g = none ∧ acallm C f d (gdsOf C st xs ∧ hasBody C.P f = true) (vals ++ caps) ps st K
     | _ => False))
   | po => aop C ⟨d, g, po, xs⟩ st fun st' => arun C ps st' K) := by
 cases po with
 | call f =>
  simp only [arun, aop, acall]
  cases guardOf st g with
  | none => rfl
  | some gv => simp only [callMw, and_assoc]
 | callv =>
  simp only [arun, aop]
  cases guardOf st g with
  | none => rfl
  | some gv =>
   simp only
   generalize valsOf C st xs = vv
   rcases vv with _ | ⟨x, vs⟩
   ·rfl
   ·cases x <;> first | rfl | (simp only [acall, callMw, and_assoc])
 | callm f =>
  simp only [arun, aop, acallm]
  cases guardOf st g with
  | none => rfl
  | some gv => rfl
 | callvm =>
  simp only [arun, aop]
  cases guardOf st g with
  | none => rfl
  | some gv =>
   simp only
   generalize valsOf C st xs = vv
   rcases vv with _ | ⟨x, vs⟩
   ·rfl
   ·cases x <;> first | rfl | (simp only [acallm, and_assoc])
 | _ => rfl
def acalld (C : Cx) (f : FuncId) (d : Option Nat) (g : Option (Nat × Bool)) (gv : Bool) (ob : Prop) (args : List A) (rw : List (Nat × MS)) (ps : List POp) (st : St) (K : St → Prop) : Prop :=
 ∃ r, (gv = true → ob ∧ PFn C f args r) ∧ (g = none ∨ (if r.scal then [] else rw) = [] ∧ r.isVV = true) ∧ ((st.app d (wrapG g gv r) (if r.scal then [] else rw)).mem = st.mem ∧ (st.app d (wrapG g gv r) (if r.scal then [] else rw)).nx = st.nx) ∧ arund C ps (st.app d (wrapG g gv r) (if r.scal then [] else rw)) K
theorem acalld_of {C : Cx} {f : FuncId} {d : Option Nat} {g : Option (Nat × Bool)} {gv : Bool} {ob : Prop} {args : List A} {rw : List (Nat × MS)} {ps : List POp} {st : St} {K : St → Prop} {r : A}
  (hf : gv = true → PFn C f args r) (h : arund C ps (st.app d (wrapG g gv r) []) K)
  (ho : gv = true → ob := by intro; trivial) (hg : g = none ∨ (if r.scal then [] else rw) = [] ∧ r.isVV = true := by first | exact .inl rfl | exact .inr ⟨rfl, rfl⟩) (hn : (if r.scal then [] else rw) = [] := by rfl) : acalld C f d g gv ob args rw ps st K := ⟨r, fun e => ⟨ho e, hf e⟩, hg, by rw [hn]; exact ⟨rfl, rfl⟩, by rw [hn]; exact h⟩
theorem arund_nil (C : Cx) (st : St) (K : St → Prop) : arund C [] st K = K st := rfl
theorem arund_cons (C : Cx) (d : Option Nat) (g : Option (Nat × Bool)) (po : PO) (xs : List PX) (ps : List POp) (st : St) (K : St → Prop) :
  arund C (⟨d, g, po, xs⟩ :: ps) st K = (match po with
   | .call f => (match guardOf st g with
    | none => False
    | some gv => acalld C f d g gv (gdsOf C st xs ∧ frzOkAll st.m (valsOf C st xs)) (frzAll st.m (valsOf C st xs)) (roAll st.m (ownIdsAll (valsOf C st xs))) ps st K)
   | .callv => (match guardOf st g with
    | none => False
    | some gv => (match valsOf C st xs with
     | .clo f caps :: vals => acalld C f d g gv (gdsOf C st xs ∧ hasBody C.P f = true ∧ frzOkAll st.m (vals ++ caps)) (frzAll st.m (vals ++ caps)) (roAll st.m (ownIdsAll (vals ++ caps))) ps st K
     | _ => False))
   | po => aop C ⟨d, g, po, xs⟩ st fun st' => (st'.mem = st.mem ∧ st'.nx = st.nx) ∧ arund C ps st' K) := by
 cases po with
 | call f =>
  simp only [arund, aop, acalld]
  cases guardOf st g with
  | none => rfl
  | some gv => simp only [callMw, and_assoc]
 | callv =>
  simp only [arund, aop]
  cases guardOf st g with
  | none => rfl
  | some gv =>
   simp only
   generalize valsOf C st xs = vv
   rcases vv with _ | ⟨x, vs⟩
   ·rfl
   ·cases x <;> first | rfl | (simp only [acalld, callMw, and_assoc])
 | _ => rfl
def acallM (C : Cx) (an : List (List Nat)) (f : FuncId) (d : Option Nat) (g : Option (Nat × Bool)) (gv : Bool) (ob : Prop) (args : List A) (rw : List (Nat × MS)) (ids : List Nat) (cok : Bool) (ps : List POp) (st : St) (log : List (List Nat × List Nat)) (K : St → Prop) : Prop :=
 ∃ r, (gv = true → ob ∧ PFn C f args r) ∧ (g = none ∨ (if r.scal then [] else rw) = [] ∧ r.isVV = true) ∧ indep (an.getD log.length []) 0 log ids ((if r.scal then [] else rw).map (·.1)) = true ∧ cok = true ∧
  arunM C an ps (st.app d (wrapG g gv r) (if r.scal then [] else rw)) (log ++ [(ids, (if r.scal then [] else rw).map (·.1))]) K
theorem acallM_of {C : Cx} {an : List (List Nat)} {f : FuncId} {d : Option Nat} {g : Option (Nat × Bool)} {gv : Bool} {ob : Prop} {args : List A} {rw : List (Nat × MS)} {ids : List Nat} {cok : Bool} {ps : List POp} {st : St} {log : List (List Nat × List Nat)} {K : St → Prop} {r : A}
  (hf : gv = true → PFn C f args r) (h : indep (an.getD log.length []) 0 log ids ((if r.scal then [] else rw).map (·.1)) = true ∧ cok = true ∧ arunM C an ps (st.app d (wrapG g gv r) (if r.scal then [] else rw)) (log ++ [(ids, (if r.scal then [] else rw).map (·.1))]) K)
  (ho : gv = true → ob := by intro; trivial) (hg : g = none ∨ (if r.scal then [] else rw) = [] ∧ r.isVV = true := by first | exact .inl rfl | exact .inr ⟨rfl, rfl⟩) : acallM C an f d g gv ob args rw ids cok ps st log K := ⟨r, fun e => ⟨ho e, hf e⟩, hg, h.1, h.2.1, h.2.2⟩
def acallmM (C : Cx) (an : List (List Nat)) (f : FuncId) (d : Option Nat) (ob : Prop) (vals : List A) (ids : List Nat) (cok : Bool) (ps : List POp) (st : St) (log : List (List Nat × List Nat)) (K : St → Prop) : Prop :=
 ob ∧ callM C st.m st.nx f vals (fun n => ∀ x, st.nx ≤ x → x < st.nx + n → st.m x = .fresh) fun v mw => indep (an.getD log.length []) 0 log ids (mw.map (·.1)) = true ∧ cok = true ∧ arunM C an ps (st.app d v mw) (log ++ [(ids, mw.map (·.1))]) K
theorem acallmM_of {C : Cx} {an : List (List Nat)} {f : FuncId} {d : Option Nat} {ob : Prop} {vals : List A} {ids : List Nat} {cok : Bool} {ps : List POp} {st : St} {log : List (List Nat × List Nat)} {K : St → Prop} (l : List (Nat × Nat)) {as : List A} {ms ms' : List (Nat × Row)} {k k' : Nat} {r : A}
  (hf : MFn C f as ms k r ms' k') (hok : okM st.m st.nx l vals as ms k k')
  (h : indep (an.getD log.length []) 0 log ids ((mwM st.m (l ++ newL k st.nx (k' - k)) vals as ms ms' k k').map (·.1)) = true ∧ cok = true ∧ arunM C an ps (st.app d (renR (l ++ newL k st.nx (k' - k)) r) (mwM st.m (l ++ newL k st.nx (k' - k)) vals as ms ms' k k')) (log ++ [(ids, (mwM st.m (l ++ newL k st.nx (k' - k)) vals as ms ms' k k').map (·.1))]) K)
  (ho : ob := by trivial) (hr : noCnd r = true := by rfl) : acallmM C an f d ob vals ids cok ps st log K :=
 ⟨ho, l, as, ms, k, r, ms', k', hf, hok, noCnd_ne hr, fun x hx _ => m_fresh st x hx, h⟩
theorem arunM_nil (C : Cx) (an : List (List Nat)) (st : St) (log : List (List Nat × List Nat)) (K : St → Prop) : arunM C an [] st log K = K st := rfl
theorem arunM_cons (C : Cx) (an : List (List Nat)) (d : Option Nat) (g : Option (Nat × Bool)) (po : PO) (xs : List PX) (ps : List POp) (st : St) (log : List (List Nat × List Nat)) (K : St → Prop) :
  arunM C an (⟨d, g, po, xs⟩ :: ps) st log K = (match po with
   | .call f => (match guardF st.slot g with
    | none => False
    | some gv => acallM C an f d g gv (gdsF C st.slot xs ∧ frzOkAll st.m (valsF C st.slot xs)) (frzAll st.m (valsF C st.slot xs)) (roAll st.m (ownIdsAll (valsF C st.slot xs))) (idsAll (valsOf C st xs)) (capsOk (valsOf C st xs)) ps st log K)
   | .callv => (match guardF st.slot g with
    | none => False
    | some gv => (match valsF C st.slot xs with
     | .clo f caps :: vals => acallM C an f d g gv (gdsF C st.slot xs ∧ hasBody C.P f = true ∧ frzOkAll st.m (vals ++ caps)) (frzAll st.m (vals ++ caps)) (roAll st.m (ownIdsAll (vals ++ caps))) (idsAll (valsOf C st xs)) (capsOk (valsOf C st xs)) ps st log K
     | _ => False))
   | .callm f => (match guardF st.slot g with
    | none => False
    | some _ => g = none ∧ acallmM C an f d (gdsF C st.slot xs) (valsF C st.slot xs) (idsAll (valsOf C st xs)) (capsOk (valsOf C st xs)) ps st log K)
   | .callvm => (match guardF st.slot g with
    | none => False
    | some _ => (match valsF C st.slot xs with
     | .clo f caps :: vals => g = none ∧ acallmM C an f d (gdsF C st.slot xs ∧ hasBody C.P f = true) (vals ++ caps) (idsAll (valsOf C st xs)) (capsOk (valsOf C st xs)) ps st log K
     | _ => False))
   | po => aopS C ⟨d, g, po, xs⟩ st.toS st.nx fun v mw => indep (an.getD log.length []) 0 log (idsAll (valsOf C st xs)) (mw.map (·.1)) = true ∧ capsOk (valsOf C st xs) = true ∧
     arunM C an ps (st.app d v mw) (log ++ [(idsAll (valsOf C st xs), mw.map (·.1))]) K) := by
 cases po with
 | call f =>
  simp only [arunM, aopS, acallM, St.toS]
  cases guardF st.slot g with
  | none => rfl
  | some gv => simp only [callMw, and_assoc]
 | callv =>
  simp only [arunM, aopS, St.toS]
  cases guardF st.slot g with
  | none => rfl
  | some gv =>
   simp only
   generalize valsF C st.slot xs = vv
   rcases vv with _ | ⟨x, vs⟩
   ·rfl
   ·cases x <;> first | rfl | (simp only [acallM, callMw, and_assoc])
 | callm f =>
  simp only [arunM, aopS, acallmM, St.toS]
  cases guardF st.slot g with
  | none => rfl
  | some gv => rfl
 | callvm =>
  simp only [arunM, aopS, St.toS]
  cases guardF st.slot g with
  | none => rfl
  | some gv =>
   simp only
   generalize valsF C st.slot xs = vv
   rcases vv with _ | ⟨x, vs⟩
   ·rfl
   ·cases x <;> first | rfl | (simp only [acallmM, and_assoc])
 | _ => rfl
attribute [go_sem ↓] aop aopS
attribute [go_sem] arun_nil arun_cons arund_nil arund_cons arunM_nil arunM_cons guardF valsF gdsF St.toS idsAll idsA idsA1 idsA0 capsOk flatCaps A.flatCap okM argsM argM A.hands fzM rowsM allIn newL mwIds mwM entM renR ren0 idOk0 resL resGs allVV guardOf St.slot St.m look valsOf gdsOf xv A.nc A.gd ev evBin evSlc elems elemsOk A.cells A.isV A.isK A.isStr A.isVV allV allK mapCells laid laidOk ofCells
 wrapG St.app putF putM nxt rm rmAll St.drop callMw frzAll frzOkAll frz frz1 frzOk frzOk1 ownIds ownIds1 ownIdsAll roAll A.scal A.scal1 A.scal2 scalCs scalVs pureCs A.pure1 pureEs
 kindsOk LK.fits eqA eq1 glob initFr resOk allG resAs resA resG tupOf Le leF leM rho ren ren1 renEs idOk idOk1 idEs distinct
def SeqQ (C : Cx) (E : Env) (y : PC) (Q : Exit → St → Prop) : Exit → St → Prop := fun e s => match e with | .normal => AW C E y Q s | e => Q e s
def BlkQ (id : Nat) (Q : Exit → St → Prop) : Exit → St → Prop := fun e s => match e with | .exit i => (if i = id then Q .normal s else Q (.exit i) s) | e => Q e s
def LoopQ (E : Env) {G : Type} (I : G → St) (inv : G → Prop) (μ : G → Nat) (g : G) (Q : Exit → St → Prop) : Exit → St → Prop := fun e s => match e with | .normal => ∃ g', inv g' ∧ St.le E s (I g') ∧ μ g' < μ g | e => Q e s
section
variable {C : Cx} {E : Env} {Q : Exit → St → Prop} {st : St}
theorem s_seq {x y : PC} (h : AW C E x (SeqQ C E y Q) st) : AW C E (.seq x y) Q st := aw_seq h
theorem s_block {id : Nat} {c : PC} (h : AW C E c (BlkQ id Q) st) : AW C E (.block id c) Q st := aw_block h
theorem s_loop {c : PC} {G : Type} (I : G → St) (inv : G → Prop) (μ : G → Nat) (g0 : G) (h0 : inv g0) (hle : St.le E st (I g0))
  (h : ∀ g, inv g → AW C E c (LoopQ E I inv μ g Q) (I g)) : AW C E (.loop c) Q st := aw_loop I inv μ g0 h0 hle h
theorem seqQ_normal {y : PC} (s : St) : SeqQ C E y Q .normal s = AW C E y Q s := rfl
theorem seqQ_ret {y : PC} (s : St) : SeqQ C E y Q .ret s = Q .ret s := rfl
theorem seqQ_exit {y : PC} (i : Nat) (s : St) : SeqQ C E y Q (.exit i) s = Q (.exit i) s := rfl
theorem blkQ_normal (i : Nat) (s : St) : BlkQ i Q .normal s = Q .normal s := rfl
theorem blkQ_ret (i : Nat) (s : St) : BlkQ i Q .ret s = Q .ret s := rfl
theorem blkQ_exit (i j : Nat) (s : St) : BlkQ i Q (.exit j) s = if j = i then Q .normal s else Q (.exit j) s := rfl
theorem loopQ_normal {G : Type} (I : G → St) (inv : G → Prop) (μ : G → Nat) (g : G) (s : St) : LoopQ E I inv μ g Q .normal s = ∃ g', inv g' ∧ St.le E s (I g') ∧ μ g' < μ g := rfl
theorem loopQ_ret {G : Type} (I : G → St) (inv : G → Prop) (μ : G → Nat) (g : G) (s : St) : LoopQ E I inv μ g Q .ret s = Q .ret s := rfl
theorem loopQ_exit {G : Type} (I : G → St) (inv : G → Prop) (μ : G → Nat) (g : G) (i : Nat) (s : St) : LoopQ E I inv μ g Q (.exit i) s = Q (.exit i) s := rfl
theorem post_ret (rs : List RX) (r : A) (fr : List (Nat × A)) (m : List (Nat × Row)) (n : Nat) : Post rs r .ret ⟨fr, m, n⟩ = resOk ⟨fr, m, n⟩ rs r := rfl
theorem post_normal (rs : List RX) (r : A) (fr : List (Nat × A)) (m : List (Nat × Row)) (n : Nat) : Post rs r .normal ⟨fr, m, n⟩ = resOk ⟨fr, m, n⟩ rs r := rfl
theorem postM_ret (k : Nat) (rs : List RX) (rl : List A) (ms' : List (Nat × Row)) (k' : Nat) (fr : List (Nat × A)) (m : List (Nat × Row)) (n : Nat) : PostM k rs rl ms' k' .ret ⟨fr, m, n⟩ = resOkM k ⟨fr, m, n⟩ rs rl ms' k' := rfl
theorem postM_normal (k : Nat) (rs : List RX) (rl : List A) (ms' : List (Nat × Row)) (k' : Nat) (fr : List (Nat × A)) (m : List (Nat × Row)) (n : Nat) : PostM k rs rl ms' k' .normal ⟨fr, m, n⟩ = resOkM k ⟨fr, m, n⟩ rs rl ms' k' := rfl
attribute [go_sem] postM_ret postM_normal unrQ_normal unrQ_ret unrQ_exit St.gh St.ghOk St.fz St.fzOk St.own0 St.cast St.unf unfMem unfCs unfA memN fzA fzCs fzV fzEs fzFr fzMem fzOkA fzOkCs fzOkV fzOkEsL fzOkEs fzOkFr fzOkMem frR frOkR
attribute [go_sem] seqQ_normal seqQ_ret seqQ_exit blkQ_normal blkQ_ret blkQ_exit loopQ_normal loopQ_ret loopQ_exit post_ret post_normal
end
theorem allLen_nil (n : Nat) : AllLen n [] := by intro c hc; cases hc
theorem allLen_append (n : Nat) (a b : List (List A)) : AllLen n (a ++ b) ↔ AllLen n a ∧ AllLen n b := by
 simp only [AllLen, List.mem_append]
 exact ⟨fun h => ⟨fun c hc => h c (.inl hc), fun c hc => h c (.inr hc)⟩, fun ⟨h1, h2⟩ c hc => hc.elim (h1 c) (h2 c)⟩
theorem allLen_cons (n : Nat) (a : List A) (b : List (List A)) : AllLen n (a :: b) ↔ a.length = n ∧ AllLen n b := by
 simp only [AllLen, List.mem_cons]
 exact ⟨fun h => ⟨h a (.inl rfl), fun c hc => h c (.inr hc)⟩, fun ⟨h1, h2⟩ c hc => hc.elim (fun e => e ▸ h1) (h2 c)⟩
theorem pureRows_nil : PureRows [] := by intro c hc; cases hc
attribute [go_sem] Nat.zero_add Nat.add_zero Nat.lt_irrefl Nat.le_refl Nat.lt_add_one Nat.zero_le Int.toNat_zero Int.toNat_natCast Int.natCast_zero imp_self and_self true_and and_true false_and and_false or_true true_or or_false false_or forall_const true_implies false_implies implies_true if_true if_false eq_self ne_eq not_true_eq_false not_false_eq_true Bool.true_and Bool.and_true Bool.false_and Bool.and_false Bool.not_true Bool.not_false Bool.not_not Bool.false_eq_true Bool.true_eq_false cond_true cond_false Bool.cond_true_left Bool.cond_true_right Bool.cond_false_left Bool.cond_false_right decide_true decide_false Option.getD_some Option.getD_none Option.map_some Option.map_none Option.bind_some Option.isSome_some Option.isNone_none List.length_cons List.length_nil List.length_map List.length_append List.all_nil List.all_cons List.nil_append List.append_nil List.map_nil List.map_cons List.set_cons_zero List.set_nil List.getD_cons_zero List.getD_cons_succ List.length_set List.headD_cons List.contains_nil List.take_nil List.drop_nil beq_self_eq_true
attribute [go_sem] allLen_nil allLen_append allLen_cons pureRows_nil
@[go_sem] theorem fm_nil : ([] : List A).flatMap ownIds1 = [] := rfl
@[go_sem] theorem fm_own (x lo n : Nat) (cs : List A) : (A.own x lo n :: cs).flatMap ownIds1 = x :: cs.flatMap ownIds1 := rfl
@[go_sem] theorem fm_str (s : ByteArray) (cs : List A) : (A.str s :: cs).flatMap ownIds1 = cs.flatMap ownIds1 := rfl
@[go_sem] theorem fm_int (k : IntKind) (n : Int) (cs : List A) : (A.int k n :: cs).flatMap ownIds1 = cs.flatMap ownIds1 := rfl
@[go_sem] theorem fm_bool (b : Bool) (cs : List A) : (A.bool b :: cs).flatMap ownIds1 = cs.flatMap ownIds1 := rfl
@[go_sem] theorem fm_sl (l : List (List A)) (cs : List A) : (A.sl l :: cs).flatMap ownIds1 = cs.flatMap ownIds1 := rfl
attribute [go_sem] List.isEmpty_nil List.isEmpty_cons ite_self List.forall_mem_cons List.not_mem_nil
@[go_sem ↓] theorem scal_nil (r : A) : (if r.scal = true then ([] : List (Nat × MS)) else []) = [] := ite_self _
@[go_sem] theorem wrap_s0 : IntKind.i64.wrap (0 + 1) = 1 := by decide
@[go_sem] theorem wrap_s1 : IntKind.i64.wrap (1 + 1) = 2 := by decide
@[go_sem] theorem wrap_s2 : IntKind.i64.wrap (2 + 1) = 3 := by decide
@[go_sem] theorem wrap_s3 : IntKind.i64.wrap (3 + 1) = 4 := by decide
@[go_sem] theorem wrap_s4 : IntKind.i64.wrap (4 + 1) = 5 := by decide
@[go_sem] theorem wrap_s5 : IntKind.i64.wrap (5 + 1) = 6 := by decide
@[go_sem] theorem wrap_s6 : IntKind.i64.wrap (6 + 1) = 7 := by decide
@[go_sem] theorem wrap_s7 : IntKind.i64.wrap (7 + 1) = 8 := by decide
@[go_sem] theorem upd_cs0 (c x : A) (cs xs : List A) : upd (c :: cs) 0 (x :: xs) = x :: upd cs 0 xs := by simp [upd, Nat.add_comm]
@[go_sem] theorem upd_nil (cs : List A) (n : Nat) : upd cs n [] = cs := by simp [upd]
@[go_sem] theorem upd_cs (c : A) (cs new : List A) (n : Nat) : upd (c :: cs) (n + 1) new = c :: upd cs n new := by simp [upd, Nat.add_right_comm]
@[go_sem] theorem sub_cs0 (c : A) (cs : List A) (k : Nat) : sub (c :: cs) 0 (k + 1) = c :: sub cs 0 k := by simp [sub]
@[go_sem] theorem sub_nil (cs : List A) (n : Nat) : sub cs n 0 = [] := by simp [sub]
@[go_sem] theorem sub_cs (c : A) (cs : List A) (n k : Nat) : sub (c :: cs) (n + 1) k = sub cs n k := by simp [sub]
end Ab
end Go.Proofs.YtdflfohpemfeiaaGreatDoor
