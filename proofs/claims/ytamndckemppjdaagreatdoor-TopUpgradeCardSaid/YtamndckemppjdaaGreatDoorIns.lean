import Derived.Test.YtamndckemppjdaaGreatDoorAuto
import Derived.Shelf.Spec.SlicesInsertGrow
import Derived.Lib.Overlaps
import Derived.WalkKit
import Derived.KernelRfl
namespace Go.Proofs.YtamndckemppjdaaGreatDoor
open Go.Proofs Go.Lib
set_option linter.unusedVariables false
set_option linter.unusedSimpArgs false
theorem run_overlaps_own {P : Program} (w : World) (tS tR e : TypeId) (ht : P.underlying tS = some (.slice e)) (size : Nat) (hz : ∀ w, (Go.sizeOf e).run P w = .ok size w)
    (a b : Addr) (la ca lb cb : Nat) (hne : a.block ≠ b.block) (c1 : Array Value) (t1 : TypeId) (f1 : Nat × Nat) (ha : w.heap[a.block]? = some (.cells c1 t1 f1)) (h1 : c1.size ≠ 0)
    (c2 : Array Value) (t2 : TypeId) (hb : w.heap[b.block]? = some (.cells c2 t2 (0, 0))) :
    (Extern.SlicesOverlaps.overlaps #[tS, tS] #[tR] #[.slice (some a) la ca, .slice (some b) lb cb]).run P w = .ok (.bool false) w := by
  have hnb : (a.block != b.block) = true := by simpa using hne
  have hnb' : (a.block == b.block) = false := by simpa using hne
  have hsa : w.shape? a.block = some (t1, c1.size) := by simp [World.shape?, ha]
  have hsb : w.shape? b.block = some (t2, c2.size) := by simp [World.shape?, hb]
  have hf1 : w.frozen? b = false := by simp [World.frozen?, hb]
  have hf2 : w.frozen? { block := b.block, off := c2.size } = false := by simp [World.frozen?, hb]
  change Sem.run P (α := Value) (do
    let some t := (#[tS, tS] : Array TypeId)[0]? | stuck "slices.overlaps: no parameter types"
    let .slice elem ← underlying t | stuck "slices.overlaps: slice type expected"
    let size ← sizeOf elem
    match (some a : Option Addr), (some b : Option Addr) with
    | some a, some b =>
      if la = 0 ∨ lb = 0 ∨ size = 0 then pure (Value.bool false)
      else if a.block != b.block && (← frozen a) && (← frozen b) then unsupported .addressObserved
      else do
        if a.block != b.block then do
          noView a; noView b
          if ← mayBeOne a b then return Value.bool ((← choose (.extern "sameAddr.stringBytes" 2)) == 1)
        pure (Value.bool (a.block == b.block && a.off < b.off + lb * size && b.off < a.off + la * size))
    | _, _ => pure (Value.bool false)) w = _
  by_cases h0 : la = 0 ∨ lb = 0 ∨ size = 0
  · simp [run_underlying ht, hz, h0]
  · cases hk : c1.size with
    | zero => exact absurd hk h1
    | succ kA =>
      rw [hk] at hsa
      cases hfa : w.frozen? a <;> cases hfe : w.frozen? { block := a.block, off := kA + 1 } <;>
        simp [run_underlying ht, hz, h0, hnb, hnb', frozen, noView, viewAt, mayBeOne, stringish, shape, Sem.run, hsa, hsb, hf1, hf2, hfa, hfe]
theorem run_copy_row {P : Program} {t e : TypeId} (u : P.underlying t = some (.slice e)) {k : Nat} (z : ∀ w, (Go.sizeOf e).run P w = .ok k w) (ty : TypeId) (w : World) (b o dn dc n sc : Nat) (sa : Addr) (cur : Array Value) (e0 : TypeId) (vals : List Value)
    (hb : w.heap[b]? = some (.cells cur e0 (0, 0))) (hl : vals.length = Nat.min n dn * k) (hfit : o + vals.length ≤ cur.size) (hs : ∀ j v, vals[j]? = some v → w.cell? (sa.add j) = some v) (h1 : ∀ v ∈ vals, v.oneCell' = true) :
    (Builtin.copy_ #[t, t] ty #[.slice (some ⟨b, o, none⟩) dn dc, .slice (some sa) n sc]).run P w = .ok (goInt (Nat.min n dn)) (w.setRow b (cur.toList.take o ++ vals ++ cur.toList.drop (o + vals.length)).toArray) := by
  have h3 := run_firstCells_some (P := P) (w := w) k (Nat.min n dn) sa n sc vals hl hs
  have hst := run_storeCells_at P b o e0 vals 0 cur w hb (by omega) h1
  simp only [Nat.add_zero] at hst
  simp [Builtin.copy_, Builtin.lenOf, run_underlying u, z, h3, hst]
theorem cell_row {w : World} {b : Nat} {cur : Array Value} {e : TypeId} {f : Nat × Nat} (hb : w.heap[b]? = some (.cells cur e f)) (q : Nat) : w.cell? ⟨b, q, none⟩ = cur[q]? := by simp [World.cell?, hb]
theorem ins_info : (Tryz.prog.info? 115).map (fun i => (i.size, Nat.ble i.bytes 4096, i.zero.map fun z => z.cells.size)) = some (16, true, some 16) := by kernel_rfl
theorem ins_ovl (w : World) (a b : Addr) (la ca lb cb : Nat) (hne : a.block ≠ b.block) (c1 : Array Value) (t1 : TypeId) (f1 : Nat × Nat) (ha : w.heap[a.block]? = some (.cells c1 t1 f1)) (h1 : c1.size ≠ 0)
    (c2 : Array Value) (t2 : TypeId) (hb : w.heap[b.block]? = some (.cells c2 t2 (0, 0))) : (callFunc 209 #[.slice (some a) la ca, .slice (some b) lb cb]).run Tryz.prog w = .ok (.value (.bool false)) w := by
  rw [run_callFunc_extern Tryz.func209 (by kernel_rfl) (by kernel_rfl) (by kernel_rfl) (e := Extern.SlicesOverlaps.overlaps #[25, 25] #[4]) (by kernel_rfl),
    run_overlaps_own w 25 4 115 Tryz.underlying25 16 Tryz.sizeOf115 a b la ca lb cb hne c1 t1 f1 ha h1 c2 t2 hb]
  rfl
set_option maxHeartbeats 4000000 in
set_option maxRecDepth 100000 in
theorem ins_shift (b n c i vb voff m vc : Nat) (us rest vus : List Value) (e0 : TypeId) (w : World) (hi : i < n) (hm : 0 < m) (hroom : n + m ≤ c) (hc63 : c ≤ 9223372036854775807) (hvb : vb ≠ b)
    (hul : us.length = n * 16) (hrl : m * 16 ≤ rest.length) (hvl : vus.length = m * 16) (hb : w.heap[b]? = some (.cells (us ++ rest).toArray e0 (0, 0)))
    (hvs : ∀ j v, vus[j]? = some v → w.cell? ⟨vb, voff + j, none⟩ = some v) (h1c : ∀ v ∈ us, v.oneCell' = true) (h1v : ∀ v ∈ vus, v.oneCell' = true)
    (c1 : Array Value) (t1 : TypeId) (f1 : Nat × Nat) (hv1 : w.heap[vb]? = some (.cells c1 t1 f1)) (hv2 : c1.size ≠ 0) :
    Calls Tryz.prog 143 #[.slice (some ⟨b, 0, none⟩) n c, .int .i64 i, .slice (some ⟨vb, voff, none⟩) m vc] w fun e w' =>
      e = .returned (.slice (some ⟨b, 0, none⟩) (n + m) c) ∧ ∃ c2 : Array Value, w' = (w.drew.setRow b c2).setRow b (us.take (i * 16) ++ vus ++ us.drop (i * 16) ++ rest.drop (m * 16)).toArray := by
  have hz1 : ¬ ((m : Int) = 0) := by omega
  have hz2 : ¬ ((i : Int) = (n : Int)) := by omega
  have hbl : b < w.heap.size := (Array.getElem?_eq_some_iff.1 hb).1
  have hov : ∀ lb cb, (callFunc 209 #[.slice (some ⟨vb, voff, none⟩) m vc, .slice (some ⟨b, (i + m) * 16, none⟩) lb cb]).run Tryz.prog w = .ok (.value (.bool false)) w := fun lb cb =>
    ins_ovl w ⟨vb, voff, none⟩ ⟨b, _, none⟩ m vc lb cb hvb c1 t1 f1 hv1 hv2 _ e0 hb
  have hw1 : IntKind.i64.wrap ((i : Int) + (m : Int)) = (i : Int) + (m : Int) := by rw [IntKind.wrap_i64]; omega
  have hb1 : (0 : Int) ≤ (i : Int) + (m : Int) := by omega
  have hin : i ≤ n := by omega
  have htn : ((i : Int) + (m : Int)).toNat = i + m := by omega
  have hb2 : ¬ (c = i + m) := by omega
  have hb3 : (i : Int) ≤ (n : Int) + (m : Int) := by omega
  have hb4 : ¬ (c = i) := by omega
  have hbd : w.drew.heap[b]? = some (.cells (us ++ rest).toArray e0 (0, 0)) := hb
  obtain ⟨C1, hC1⟩ : ∃ C1, C1 = ((us ++ rest).toArray.toList.take ((i + m) * 16) ++ us.drop (i * 16) ++ (us ++ rest).toArray.toList.drop ((i + m) * 16 + (us.drop (i * 16)).length)).toArray := ⟨_, rfl⟩
  have hcp1 : ∀ ty dc sc, (Builtin.copy_ #[25, 25] ty #[.slice (some ⟨b, (i + m) * 16, none⟩) (n + m - (i + m)) dc, .slice (some ⟨b, i * 16, none⟩) (n + m - i) sc]).run Tryz.prog w.drew = .ok (goInt (n - i : Nat)) (w.drew.setRow b C1) := fun ty dc sc => by
    have hmin : Nat.min (n + m - i) (n + m - (i + m)) = n - i := by show min _ _ = _; omega
    have h := run_copy_row (t := 25) Tryz.underlying25 (k := 16) Tryz.sizeOf115 ty w.drew b ((i + m) * 16) (n + m - (i + m)) dc (n + m - i) sc ⟨b, i * 16, none⟩ _ e0 (us.drop (i * 16)) hbd
      (by rw [hmin, List.length_drop]; omega) (by simp; omega) (fun j v hj => by
        rw [List.getElem?_drop] at hj
        have := (List.getElem?_eq_some_iff.1 hj).1
        rw [Addr.add_lit, cell_row hbd, List.getElem?_toArray, List.getElem?_append_left (by omega)]
        exact hj) (fun v hv => h1c v (List.mem_of_mem_drop hv))
    rw [hmin, ← hC1] at h
    simpa using h
  have hb1' : (w.drew.setRow b C1).heap[b]? = some (.cells C1 e0 (0, 0)) := setRow_heap _ _ _ _ _ _ hbd
  have hcs : C1.size = us.length + rest.length := by
    rw [hC1]; simp; omega
  have hcp2 : ∀ (W : World), W.heap = (w.drew.setRow b C1).heap → ∀ ty dc, (Builtin.copy_ #[25, 25] ty #[.slice (some ⟨b, i * 16, none⟩) (n + m - i) dc, .slice (some ⟨vb, voff, none⟩) m vc]).run Tryz.prog W = .ok (goInt (m : Nat)) (W.setRow b (us.take (i * 16) ++ vus ++ us.drop (i * 16) ++ rest.drop (m * 16)).toArray) := fun W hW ty dc => by
    have hmin : Nat.min m (n + m - i) = m := by show min _ _ = _; omega
    have hbW : W.heap[b]? = some (.cells C1 e0 (0, 0)) := hW ▸ hb1'
    have hvW : W.heap[vb]? = some (.cells c1 t1 f1) := by rw [hW, setRow_other _ _ _ _ hvb]; exact hv1
    have h := run_copy_row (t := 25) Tryz.underlying25 (k := 16) Tryz.sizeOf115 ty W b (i * 16) (n + m - i) dc m vc ⟨vb, voff, none⟩ _ e0 vus hbW
      (by rw [hmin, hvl]) (by rw [hcs]; omega) (fun j v hj => by
        have := hvs j v hj
        rw [cell_row hv1] at this
        rw [Addr.add_lit, cell_row hvW]
        exact this) h1v
    rw [hmin] at h
    have e : C1.toList.take (i * 16) ++ vus ++ C1.toList.drop (i * 16 + vus.length) = us.take (i * 16) ++ vus ++ us.drop (i * 16) ++ rest.drop (m * 16) := by
      have l1 : ((us ++ rest).take ((i + m) * 16)).length = i * 16 + vus.length := by simp; omega
      rw [hC1]
      simp only [List.append_assoc]
      rw [List.take_append_of_le_length (by omega), List.take_take, Nat.min_eq_left (by omega), List.take_append_of_le_length (by omega), List.drop_left' l1,
        show (i + m) * 16 + (us.drop (i * 16)).length = us.length + m * 16 by simp; omega, ← List.drop_drop, List.drop_left]
    rw [e] at h
    simpa using h
  have mixed : Tryz.prog.follows .mixedOrders = true := by kernel_rfl
  go_enter Tryz.func143, Tryz.ntmps143
  go_wp2_with (simp only [hov])
  go_region_law_o (refine step_copy_runI rfl _ _ 25 25 rfl _ _ (by simp [Act.eval, Act.put]) (by simp [Act.eval, Act.put]) (hcp1 _ _ _) ?_)
  go_wp2_with (at_builtin; refine wpList_copy_runI _ rfl _ _ 25 25 rfl _ _ rfl rfl (hcp2 _ rfl _ _) ?_)
  go_ret
  exact ⟨rfl, _, by simp only [List.append_assoc]; rfl⟩

set_option maxHeartbeats 4000000 in
set_option maxRecDepth 100000 in
theorem ins_grow (b n c i vb voff m vc : Nat) (us rest vus : List Value) (e0 : TypeId) (w : World) (hi : i < n) (hm : 0 < m) (hnc : n ≤ c) (hroom : c < n + m) (hbig : n + m ≤ 4294967296)
    (hul : us.length = n * 16) (hvl : vus.length = m * 16) (hb : w.heap[b]? = some (.cells (us ++ rest).toArray e0 (0, 0)))
    (hvs : ∀ j v, vus[j]? = some v → w.cell? ⟨vb, voff + j, none⟩ = some v) (h1c : ∀ v ∈ us, v.oneCell' = true) (h1v : ∀ v ∈ vus, v.oneCell' = true)
    (c1 : Array Value) (t1 : TypeId) (f1 : Nat × Nat) (hv1 : w.heap[vb]? = some (.cells c1 t1 f1)) :
    Calls Tryz.prog 143 #[.slice (some ⟨b, 0, none⟩) n c, .int .i64 i, .slice (some ⟨vb, voff, none⟩) m vc] w fun e w' =>
      ∃ (G : Nat) (zs : List Value) (R c2 : Array Value), e = .returned (.slice (some ⟨w.heap.size, 0, none⟩) (n + m) G) ∧ n + m ≤ G ∧ G ≤ maxLen ∧ zs.length = (G - (n + m)) * 16 ∧
        w' = (((w.alloc (.cells R 115)).drew.setRow w.heap.size c2).drew).setRow w.heap.size (us.take (i * 16) ++ vus ++ us.drop (i * 16) ++ zs).toArray := by
  have mixed : Tryz.prog.follows .mixedOrders = true := by kernel_rfl
  obtain ⟨i0, hi0, h0⟩ := Option.map_eq_some_iff.1 ins_info
  simp only [Prod.mk.injEq] at h0
  obtain ⟨hzs, hzb, hz0⟩ := h0
  obtain ⟨z, hz0, hzc⟩ := Option.map_eq_some_iff.1 hz0
  have hzb := Nat.le_of_ble_eq_true hzb
  have hz1 : ¬ ((m : Int) = 0) := by omega
  have hz2 : ¬ ((i : Int) = (n : Int)) := by omega
  have hz3 : (c : Int) < (n : Int) + (m : Int) := by omega
  have hbw : b < w.heap.size := (Array.getElem?_eq_some_iff.1 hb).1
  have hvw : vb < w.heap.size := (Array.getElem?_eq_some_iff.1 hv1).1
  have hkk : (n : Int) + (m : Int) - (i : Int) = ((n + m - i : Nat) : Int) := by omega
  have hik : i + (n + m - i) = n + m := by omega
  have hold : (Builtin.firstCells i0.size i (.slice (some ⟨b, 0, none⟩) i c)).run Tryz.prog w.drew = .ok (us.take (i * 16)).toArray w.drew := by
    rw [hzs]
    exact run_firstCells_some (w := w.drew) 16 i ⟨b, 0, none⟩ i c (us.take (i * 16)) (by rw [List.length_take]; omega) (fun j v hj => by
      rw [List.getElem?_take] at hj
      split at hj
      · have := (List.getElem?_eq_some_iff.1 hj).1
        rw [Addr.add_lit, cell_row (w := w.drew) hb, List.getElem?_toArray, Nat.zero_add, List.getElem?_append_left (by omega)]
        exact hj
      · cases hj)
  have hrz : ∀ ty, (Builtin.append_ #[25, 3] ty #[.slice (some ⟨b, 0, none⟩) i c, .int .i64 ((n : Int) + (m : Int) - (i : Int))]).run Tryz.prog w =
      .ok (.slice (some ⟨w.heap.size, 0, none⟩) (n + m) (grownCap w (n + m) c 115)) (w.drew.alloc (.cells ((us.take (i * 16)).toArray ++ Builtin.zeroCells z.cells (n + m - i) ++ Builtin.zeroCells z.cells (grownCap w (n + m) c 115 - (n + m))) 115)) := fun ty => by
    have hfit : Builtin.nextslicecap (n + m) c * i0.bytes ≤ 281474976710656 := growslice_fits hroom (by
      have : (n + m) * i0.bytes ≤ 4294967296 * 4096 := Nat.mul_le_mul hbig hzb
      omega)
    have h := Lib.run_append_grow_zeros w 25 3 ty 115 i0 _ .i64 .i64 Tryz.underlying25 Tryz.underlying3 hi0 hz0 (some ⟨b, 0, none⟩) i c _ hold (n + m - i) (by omega) (by omega) (by omega) (by omega) (by
      have : (n + m - i) * i0.bytes ≤ 4294967296 * 4096 := Nat.mul_le_mul (by omega) hzb
      omega) (by rw [hik]; exact hfit)
    rw [hik] at h
    rw [hkk]
    exact h
  obtain ⟨G, hG⟩ : ∃ G, G = grownCap w (n + m) c 115 := ⟨_, rfl⟩
  obtain ⟨zs, hzs0⟩ : ∃ zs, zs = (Builtin.zeroCells z.cells (G - (n + m))).toList := ⟨_, rfl⟩
  have hzl : zs.length = (G - (n + m)) * 16 := by rw [hzs0]; simp [Builtin.zeroCells, hzc]
  obtain ⟨mid, hmid⟩ : ∃ mid, mid = (Builtin.zeroCells z.cells (n + m - i)).toList := ⟨_, rfl⟩
  have hml : mid.length = (n + m - i) * 16 := by rw [hmid]; simp [Builtin.zeroCells, hzc]
  obtain ⟨R, hR⟩ : ∃ R : Array Value, R = (us.take (i * 16) ++ mid ++ zs).toArray := ⟨_, rfl⟩
  have hR0 : (us.take (i * 16)).toArray ++ Builtin.zeroCells z.cells (n + m - i) ++ Builtin.zeroCells z.cells (grownCap w (n + m) c 115 - (n + m)) = R := by
    rw [hR, hmid, hzs0, hG]
    simp
  rw [← hG] at hrz hR0
  have hGn : n + m ≤ G := by rw [hG]; exact grownCap_ge w _ _ _
  have hGx : G ≤ maxLen := by rw [hG]; exact grownCap_le_maxLen w (n + m) c 115 (by unfold maxLen; omega)
  have hG63 : G ≤ 9223372036854775807 := by unfold maxLen at hGx; omega
  rw [hR0] at hrz
  obtain ⟨W1, hW1⟩ : ∃ W1, W1 = w.drew.alloc (.cells R 115) := ⟨_, rfl⟩
  rw [← hW1] at hrz
  have hg1 : W1.heap[w.heap.size]? = some (.cells R 115 (0, 0)) := by rw [hW1]; simp only [World.alloc, World.drew, Array.getElem?_push_size]
  have hgb : W1.heap[b]? = some (.cells (us ++ rest).toArray e0 (0, 0)) := by
    rw [hW1]; simp only [World.alloc, World.drew]; rw [Array.getElem?_push_lt hbw, ← Array.getElem?_eq_getElem hbw]; exact hb
  have hgv : W1.heap[vb]? = some (.cells c1 t1 f1) := by
    rw [hW1]; simp only [World.alloc, World.drew]; rw [Array.getElem?_push_lt hvw, ← Array.getElem?_eq_getElem hvw]; exact hv1
  have hRl : R.toList.length = i * 16 + (n + m - i) * 16 + (G - (n + m)) * 16 := by rw [hR]; simp [hml, hzl]; omega
  have hRs : R.size = i * 16 + (n + m - i) * 16 + (G - (n + m)) * 16 := by rw [← hRl, Array.length_toList]
  obtain ⟨C2, hC2⟩ : ∃ C2 : Array Value, C2 = (R.toList.take (i * 16) ++ vus ++ R.toList.drop (i * 16 + vus.length)).toArray := ⟨_, rfl⟩
  have hcpA : ∀ (W : World), W.heap = W1.heap → ∀ ty dc, (Builtin.copy_ #[25, 25] ty #[.slice (some ⟨w.heap.size, i * 16, none⟩) (n + m - i) dc, .slice (some ⟨vb, voff, none⟩) m vc]).run Tryz.prog W = .ok (goInt (m : Nat)) (W.setRow w.heap.size C2) := fun W hW ty dc => by
    have hmin : Nat.min m (n + m - i) = m := by show min _ _ = _; omega
    have h := run_copy_row (t := 25) Tryz.underlying25 (k := 16) Tryz.sizeOf115 ty W w.heap.size (i * 16) (n + m - i) dc m vc ⟨vb, voff, none⟩ _ 115 vus (by rw [hW]; exact hg1)
      (by rw [hmin, hvl]) (by rw [hRs]; omega) (fun j v hj => by
        have := hvs j v hj
        rw [cell_row hv1] at this
        rw [Addr.add_lit, cell_row (by rw [hW]; exact hgv)]
        exact this) h1v
    rw [hmin, ← hC2] at h
    exact h
  have hg2 : (W1.setRow w.heap.size C2).heap[w.heap.size]? = some (.cells C2 115 (0, 0)) := setRow_heap _ _ _ _ _ _ hg1
  have hgb2 : (W1.setRow w.heap.size C2).heap[b]? = some (.cells (us ++ rest).toArray e0 (0, 0)) := by rw [setRow_other _ _ _ _ (by omega)]; exact hgb
  have hCs : C2.size = R.size := by rw [hC2]; simp; omega
  have hdl : (us.drop (i * 16)).length = (n - i) * 16 := by rw [List.length_drop]; omega
  have hfin : C2.toList.take ((i + m) * 16) ++ us.drop (i * 16) ++ C2.toList.drop ((i + m) * 16 + (us.drop (i * 16)).length) = us.take (i * 16) ++ vus ++ us.drop (i * 16) ++ zs := by
    have l1 : (us.take (i * 16)).length = i * 16 := by simp; omega
    have r1 : R.toList.take (i * 16) = us.take (i * 16) := by rw [hR]; simp only [List.append_assoc]; rw [List.take_left' l1]
    have l2 : (us.take (i * 16) ++ vus).length = (i + m) * 16 := by rw [List.length_append, l1]; omega
    have r2 : R.toList.drop (i * 16 + vus.length + (us.drop (i * 16)).length) = zs := by
      rw [hR]
      exact List.drop_left' (by simp [hml]; omega)
    have t1 : C2.toList.take ((i + m) * 16) = us.take (i * 16) ++ vus := by rw [hC2, r1]; exact List.take_left' l2
    have t2 : C2.toList.drop ((i + m) * 16 + (us.drop (i * 16)).length) = zs := by
      rw [hC2, r1, ← List.drop_drop]
      simp only []
      rw [List.drop_left' l2, List.drop_drop, r2]
    rw [t1, t2]
  have hcpB : ∀ (W : World), W.heap = (W1.setRow w.heap.size C2).heap → ∀ ty dc sc, (Builtin.copy_ #[25, 25] ty #[.slice (some ⟨w.heap.size, (i + m) * 16, none⟩) (n + m - (i + m)) dc, .slice (some ⟨b, i * 16, none⟩) (n - i) sc]).run Tryz.prog W = .ok (goInt (n - i : Nat)) (W.setRow w.heap.size (us.take (i * 16) ++ vus ++ us.drop (i * 16) ++ zs).toArray) := fun W hW ty dc sc => by
    have hmin : Nat.min (n - i) (n + m - (i + m)) = n - i := by show min _ _ = _; omega
    have h := run_copy_row (t := 25) Tryz.underlying25 (k := 16) Tryz.sizeOf115 ty W w.heap.size ((i + m) * 16) (n + m - (i + m)) dc (n - i) sc ⟨b, i * 16, none⟩ _ 115 (us.drop (i * 16)) (by rw [hW]; exact hg2)
      (by rw [hmin, hdl]) (by rw [hCs, hRs, hdl]; omega) (fun j v hj => by
        rw [List.getElem?_drop] at hj
        have := (List.getElem?_eq_some_iff.1 hj).1
        rw [Addr.add_lit, cell_row (by rw [hW]; exact hgb2), List.getElem?_toArray, List.getElem?_append_left (by omega)]
        exact hj) (fun v hv => h1c v (List.mem_of_mem_drop hv))
    rw [hmin, hfin] at h
    exact h
  have hGi : ¬ (G = i) := by omega
  have hGim : ¬ (G = i + m) := by omega
  have hci : ¬ (c = i) := by omega
  have hbN : b ≠ w.heap.size := by omega
  have hw1 : IntKind.i64.wrap ((i : Int) + (m : Int)) = (i : Int) + (m : Int) := by rw [IntKind.wrap_i64]; omega
  have hb1 : (0 : Int) ≤ (i : Int) + (m : Int) := by omega
  have hin : i ≤ n := by omega
  have htn : ((i : Int) + (m : Int)).toNat = i + m := by omega
  have hb3 : (i : Int) ≤ (n : Int) := by omega
  subst hW1
  have hE : ((w.alloc (.cells R 115)).drew).heap = (w.drew.alloc (.cells R 115)).heap := rfl
  have hF : (((w.alloc (.cells R 115)).drew.setRow w.heap.size C2).drew).heap = ((w.drew.alloc (.cells R 115)).setRow w.heap.size C2).heap := rfl
  clear hC2 hzs0 hkk hik hold hG hRl hRs hR hR0 hfin hmid hzc hz0 hml hCs hdl hg1 hg2 hgb hgv hgb2
  go_enter Tryz.func143, Tryz.ntmps143
  go_wp2_with (first
    | (at_builtin; refine Lib.wpList_append_run _ rfl _ _ _ _ rfl _ _ rfl rfl _ _ (hrz _) ?_)
    | (at_builtin; refine wpList_copy_runI _ rfl _ _ 25 25 rfl _ _ rfl rfl (hcpA _ hE _ _) ?_))
  go_region_law_o (refine step_copy_runI rfl _ _ 25 25 rfl (.slice (some ⟨w.heap.size, (i + m) * 16, none⟩) (n + m - (i + m)) (G - (i + m))) (.slice (some ⟨b, i * 16, none⟩) (n - i) (c - i)) (by simp [Act.eval, Act.put]) (by simp [Act.eval, Act.put]) (hcpB _ hF 3 (G - (i + m)) (c - i)) ?_)
  go_wp2
  go_ret
  exact ⟨G, zs, R, C2, rfl, hGn, hGx, hzl, by simp only [List.append_assoc]⟩
namespace Ab
theorem zaS2(D:Nat->Prop)(w:World):Keeps D w w.drew:=⟨rfl,rfl,rfl,hY _,cU _,λ _ _ _=>rfl⟩
theorem zbn5{w:World}{b o:Nat}{u:Value}(h:w.cell? ⟨b,o,none⟩=some u):∃c e f,w.heap[b]? =some (.cells c e f)/\c.size≠0:=by
 simp only[World.cell?]at h;split at h
 .rename_i c e f hb;refine⟨c,e,f,hb,λ h0=>?_⟩;simp at h;have:=(cO.1 h).1;omega
 .cases h
theorem zbR5{C:Cx}{f:FuncId}{x y r:A}{es:List (List A)}{ms ms':List (Nat×Row)}{k k':Nat}(h:MFn C f [x,y,.sl es] ms k r ms' k'):MFn C f [x,y,.full es] ms k r ms' k':=by
 intro w W μ vs hG hW hl hv;refine h w W μ vs hG hW hl λ i v a h1 h2=>?_
 match i with
 |0=>exact hv 0 v a h1 h2
 |1=>exact hv 1 v a h1 h2
 |2=>
  cases h2;have q:RepC w W v (.full es):=hv 2 v (.full es) h1 rfl;cases q with
  |full a n es h=>exact h
 |n+3=>simp at h2
theorem zch6{T:Type}(enc:T->List A)(hk:∀x,(enc x).length=16)(zz:List A)(i:Nat)(vs l:List T)(hil:i<l.length)(hvs:0<vs.length)(hbig:l.length+vs.length<=4294967296):
  MFn C 143 [.own 0 0 l.length,.int .i64 i,.sl (vs.map enc)] [(0,⟨false,16,zz,l.map enc⟩)] 1 (.own 1 0 (l.length+vs.length)) [(1,⟨false,16,zz,(l.take i++vs++l.drop i).map enc⟩)] 2:=by
 intro w W μ xs hG hW hvl hv hm hi;obtain⟨v0,v1,v2,rfl⟩:∃v0 v1 v2,xs=[v0,v1,v2]:=by
  match xs,hvl with
  |[a,b,c],_=>exact⟨a,b,c,rfl⟩
 have r0:RepP w W μ v0 (.own 0 0 l.length):=hv 0 v0 (.own 0 0 l.length) rfl rfl;have r1:RepC w W v1 (.int .i64 i):=hv 1 v1 (.int .i64 i) rfl rfl;have r2:RepC w W v2 (.sl (vs.map enc)):=hv 2 v2 (.sl (vs.map enc)) rfl rfl;cases r1;have hm0:(⟨[],[(0,⟨false,16,zz,l.map enc⟩)],1⟩:St).m 0=.row ⟨false,16,zz,l.map enc⟩:=by simp[St.m,look]
 have hm1:(⟨[],[(0,⟨false,16,zz,l.map enc⟩)],1⟩:St).m 1=.fresh:=by simp[St.m]
 have hmm:=hm 0;rw[hm0]at hmm;obtain⟨hone,r0⟩:=r0;rcases hmm with⟨h1,h2,h3⟩|⟨kb,h1,h2⟩
 .simp only[eX]at h2;subst h2;simp at hil
 rw[h1]at r0;obtain⟨hkp,r0⟩:=r0;rcases r0 with⟨hn,_⟩|⟨cap,hp,hcap,hle,hmax⟩
 .omega
 subst hp;have hrow:=h2.ok hkp;obtain⟨hWb,hsz,_,us,rest,e0,hheap,htot,hflat⟩:=hrow;simp only at hWb hsz hflat;have hWk:=hWb trivial;have hul:us.length=l.length*16:=by simpa using hflat.hl
 obtain⟨b2,off,cap2,vus,rfl,hb2,hvul,hvc,hvf⟩:∃b2 off cap2,∃vus:List Value,v2=.slice (some ⟨b2,off,none⟩) vs.length cap2/\¬W b2/\vus.length=vs.length*16/\(∀q u,vus[q]? =some u->w.cell? ⟨b2,off+q,none⟩=some u)/\Flat (RepC w W) 16 vus (vs.map enc):=by
  generalize hes:vs.map enc=es at r2;have hel:es.length=vs.length:=by rw[<-hes,eA]
  have hec:∀c∈es,c.length=16:=λ c hc=>by rw[<-hes]at hc;obtain⟨x,_,rfl⟩:=cS.1 hc;exact hk x
  cases r2 with
  |sl0 a c=>simp at hel;omega
  |sl b o c sz _ u hb hlt hn hc hs hl hcc hr=>
   have h16:sz=16:=by have:=hs 0 es[0] (cJ hn);rw[hec _ (gX hn)]at this;exact this.symm
   subst h16;refine⟨b,o,c,u,by rw[hel],hb,by rw[hl,hel],hcc,⟨by rw[hl],hs,λ p q j a hp hq=>?_⟩⟩;have hpl:=(cH.1 hp).1;have hjl:j<16:=by rw[<-hs p q hp];exact(cH.1 hq).1
   have hx:p*16+j<u.length:=by omega
   have:=hr p q j a hp hq;rw[cK,cJ hx,Option.getD_some]at this;exact⟨_,cJ hx,this⟩
 have hb2k:b2≠kb.b:=λ e=>hb2 (e▸hWk);have hv0:0<vus.length:=by omega
 obtain⟨c1,t1,f1,hv1,hv2⟩:=zbn5 (hvc 0 _ (cJ hv0));have one:∀{R:Value->A->Prop} {us:List Value} {es:List (List A)},Flat R 16 us es->(∀u a,R u a->u.oneCell'=true)->∀u∈us,u.oneCell'=true:=λ{R us es} hf hR u hu=>by
  obtain⟨q,hq⟩:=fK hu;have hq1:=(cH.1 hq).1;have hql:q/16<es.length:=by have:=hf.hl;omega
  have hc:=cJ hql;have hcl:=hf.hs _ _ hc;have hj:q% 16<(es[q/16]).length:=by rw[hcl];exact gU _ (by omega)
  obtain⟨u',hu2,hr2⟩:=hf.ha _ _ _ _ hc (cJ hj);rw[gB]at hu2;rw[hq]at hu2;cases hu2;exact hR _ _ hr2
 have h1c:=one hflat λ u a h=>h.oneCell;have h1v:=one hvf λ u a h=>(zp5 (μ:=μ) h).oneCell;have hcat:Flat (RepK w W μ) 16 (us.take (i*16)++vus++us.drop (i*16)) ((l.take i++vs++l.drop i).map enc):=by rw[eZ,eZ,List.map_take,List.map_drop];exact((hflat.take i).append (hvf.mono λ u a h=>zp5 h)).append (hflat.drop i)
 simp only[dJ,hsz]at hcap;rw[gP];have hcl:(us.take (i*16)++vus++us.drop (i*16)).length=(l.length+vs.length)*16:=by simp;omega
 have hmem:∀r:Row,setM (⟨[],[(0,⟨false,16,zz,l.map enc⟩)],1⟩:St).m [(0,.dead),(1,.row r)]=(⟨[],[(1,r)],2⟩:St).m:=λ r=>by
  funext x
  match x with
  |0=>simp[St.m,setM,look]
  |1=>simp[St.m,setM,look]
  |x+2=>simp[St.m,setM,look]
 by_cases hroom:l.length+vs.length<=cap
 .refine(ins_shift kb.b l.length cap i b2 off vs.length cap2 us rest vus e0 w hil hvs hroom (by unfold maxLen at hmax;omega) hb2k hul (by omega) hvul hheap hvc h1c h1v c1 t1 f1 hv1 hv2).mono λ e w' ⟨he,c2,hw⟩=>?_;subst hw;have hst:=Step.moved (x:=0) (id:=1) hm hi hW h1 hm0 rfl (r':=⟨false,16,zz,(l.take i++vs++l.drop i).map enc⟩) rfl hm1 (w':=(w.drew.setRow kb.b c2).setRow kb.b (us.take (i*16)++vus++us.drop (i*16)++rest.drop (vs.length*16)).toArray)
   (us:=us.take (i*16)++vus++us.drop (i*16)) (rest:=rest.drop (vs.length*16)) (e:=e0) (Keeps.trans (Keeps.trans (zaS2 _ w) (zN5 w.drew kb.b c2) λ _ _ h=>h) (zN5 _ _ _) λ _ _ h=>h) hcat
   (setRow_heap _ _ _ _ _ _ (setRow_heap _ _ _ _ _ _ hheap)) (by rw[hcl];simp;omega)
  rw[hmem]at hst;refine⟨_,W,_,he,hst,?_⟩;have:=zS2 (w:=(w.drew.setRow kb.b c2).setRow kb.b (us.take (i*16)++vus++us.drop (i*16)++rest.drop (vs.length*16)).toArray) (W:=W) (μ:=λ y=>if y=1 then .at_ kb else if y=0 then .dead else μ y) (x:=1) (lo:=0) (n:=l.length+vs.length) (k:=kb) (cap:=cap) (by simp) (by rw[hsz];simpa using hcap) hroom (by omega)
  simpa using this
 .have hkill:=Step.kill (x:=0) hm hi hW;have hid':setM (⟨[],[(0,⟨false,16,zz,l.map enc⟩)],1⟩:St).m [(0,.dead)] 1=.fresh:=by simp[setM,hm1]
  refine(ins_grow kb.b l.length cap i b2 off vs.length cap2 us rest vus e0 w hil hvs hle (by omega) hbig hul hvul hheap hvc h1c h1v c1 t1 f1 hv1).mono λ e w' ⟨G,zs,R,c2,he,hG1,hG2,hzl,hw⟩=>?_;subst hw;have hcat':Flat (RepK w W (λ y=>if y=0 then .dead else μ y)) 16 (us.take (i*16)++vus++us.drop (i*16)) ((l.take i++vs++l.drop i).map enc):=hcat.mono λ u b hub=>hub.step hkill;have hsn:∀b:Nat,b<w.heap.size->b≠w.heap.size:=λ b h=>by omega
  have hnew:(w.alloc (.cells R 115)).heap[w.heap.size]? =some (.cells R 115 (0,0)):=heap_alloc_new w _;have hst:=Step.new (w':=(((w.alloc (.cells R 115)).drew.setRow w.heap.size c2).drew).setRow w.heap.size (us.take (i*16)++vus++us.drop (i*16)++zs).toArray) hkill.mem hkill.inj hkill.wlt hid' (r:=⟨false,16,zz,(l.take i++vs++l.drop i).map enc⟩) (us:=us.take (i*16)++vus++us.drop (i*16)) (rest:=zs) (e:=115) (by show 0<16;omega)
   ((zR5 w (.cells R 115)).trans (D':=λ b=>b=w.heap.size) (Keeps.trans (zaS2 (λ b=>b=w.heap.size) _) (Keeps.trans (zN5 (w.alloc (.cells R 115)).drew w.heap.size c2) (Keeps.trans (zaS2 (λ b=>b=w.heap.size) _) (zN5 _ _ _) λ _ _ h=>h) λ _ _ h=>h) λ _ _ h=>h) λ x hx hh=>absurd hh (hsn x hx)) hcat'
   (setRow_heap _ _ _ _ _ _ (setRow_heap _ _ _ _ _ _ hnew))
  have hst2:=hkill.trans hst;rw[show setM (setM (⟨[],[(0,⟨false,16,zz,l.map enc⟩)],1⟩:St).m [(0,.dead)]) [(1,.row ⟨false,16,zz,(l.take i++vs++l.drop i).map enc⟩)]=setM (⟨[],[(0,⟨false,16,zz,l.map enc⟩)],1⟩:St).m [(0,.dead),(1,.row ⟨false,16,zz,(l.take i++vs++l.drop i).map enc⟩)]from rfl,hmem]at hst2;refine⟨_,_,_,he,hst2,?_⟩;have:=zS2 (w:=(((w.alloc (.cells R 115)).drew.setRow w.heap.size c2).drew).setRow w.heap.size (us.take (i*16)++vus++us.drop (i*16)++zs).toArray) (W:=λ b=>W b\/b=w.heap.size)
   (μ:=λ x=>if x=1 then Loc.at_ ⟨w.heap.size,16,(us.take (i*16)++vus++us.drop (i*16)).length+zs.length⟩else if x=0 then .dead else μ x) (x:=1) (lo:=0) (n:=l.length+vs.length) (cap:=G)
   (k:=⟨w.heap.size,16,(us.take (i*16)++vus++us.drop (i*16)).length+zs.length⟩) (by simp) (by simp only[hcl,hzl];omega) hG1 (by omega)
  simpa using this
end Ab
end Go.Proofs.YtamndckemppjdaaGreatDoor
