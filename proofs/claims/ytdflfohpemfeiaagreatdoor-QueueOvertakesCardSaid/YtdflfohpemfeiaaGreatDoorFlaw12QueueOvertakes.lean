/-
  A law's own code and what it computes.
-/
import Derived.Test.YtdflfohpemfeiaaGreatDoorFn
namespace Go.Proofs.YtdflfohpemfeiaaGreatDoor
namespace Ab
set_option linter.unusedSimpArgs false
set_option linter.unusedVariables false
set_option maxRecDepth 100000
set_option maxHeartbeats 1000000

attribute [local irreducible] f_mill_Mod f_mill_Proc f_catalog_ValidName f_catalog_ValidResource f_queue_New f_ident_compare f_ident_CompareProc f_mode_Compatible f_amount_Compatible f_holders_Valid f_holders_Get f_queue_Held f_line_Find f_mode_Covers f_amount_Covers f_queue_soundConverts f_line_Valid f_queue_soundWaits f_queue_Sound f_queue_head f_holders_proper f_holders_Set f_holders_Room f_queue_Settled f_queue_Valid f_slices_Grow_api_Wait_api_Wait_m f_slices_Concat_api_Wait_api_Wait f_queue_order f_queue_Wanted f_queue_clone_m f_mode_Sup f_amount_Join f_queue_Claim_1_m f_queue_advance_m f_queue_finish_m f_line_Insert f_queue_Claim_2_m f_queue_finish_m1 f_queue_Claim f_queue_Order f_holders_Procs_m f_slices_SortFunc_api_Proc_api_Proc_m f_slices_Compact_api_Proc_api_Proc_m f_ident_SortProcs f_queue_Procs f_slices_Index_api_Proc_api_Proc f_slices_Contains_api_Proc_api_Proc f_ident_HasProc f_queue_clone f_queue_Remove_1_m f_line_Remove f_queue_Remove_2_m f_queue_Remove_3_m f_queue_finish_m2 f_queue_Remove f_law12_awake f_ref05_ValidName f_ref05_ValidResource f_ref12_New f_ref10_Amounts f_ref04_Compatible f_ref10_Valid f_ref11_Find f_ref11_Valid f_ref10_Get f_ref12_Sound f_ref12_Head f_ref10_Set f_ref10_Room f_ref12_Settled f_ref12_Valid f_ref10_SameHolds f_ref11_SameWaits f_ref12_Same f_ref12_Wanted f_ref12_Copy_m f_ref12_Held f_ref03_Sup f_ref04_Join f_ref12_Copy f_ref12_Advance f_ref12_changed f_ref11_Insert f_ref12_Claim f_law12_same f_mill_Tape_Next_m f_mill_Catalog_m f_mill_Resource f_mill_Mode f_mill_Amount f_ref11_Remove f_ref12_Cancel f_ref12_Lower f_ref12_Has f_ref12_Remove f_law12_made f_ref02_HasProc f_ref02_SameProcs f_queue_Advance f_queue_Cancel_1_m f_queue_Cancel_2_m f_queue_finish_m3 f_queue_Cancel f_queue_Lower_1_m f_queue_finish_m4 f_queue_Lower f_law12_step f_line_Ahead_m f_holders_Against f_queue_Blockers f_holders_Procs f_line_Ahead
def r48_0 := [mo 4 .mv [oFa]]
def r48_1 := [oV 17 1,oC 18 31 [.t 17],mo 19 .not [.t 18]]
def r48_2 := [oC 20 18 [],oV 4 20]
def r48_3 := [oV 22 0,oC 23 53 [.t 22],oC 24 19 [.t 23],oV 21 24,oE 25 0 21,oE 26 1 21,mo 5 (.alloc 8 (Queue.enc Queue.zero)) [],oS 8 5 25,oV 6 26]
def r48_4 := [mo 7 (.alloc 8 (Arr.enc (eI .i64) (Arr.rep 8 0))) []]
def r48_5 := [oI 8 0]
def r48_6 := [oV 27 8,oV 28 1,mo 29 .len [.t 28],oP 30 .lss [.t 27, .t 29]]
def r48_8 := [oL 34 8 5,oV 35 1,oV 36 8,mo 37 (.iaS 1 [A.int .i64 0]) [.t 35, .t 36],oM 38 1 37,oC 39 54 [.t 34, .t 38],oV 33 39,oE 40 0 33,oE 41 1 33,oE 42 2 33,mo 9 (.alloc 8 (Queue.enc Queue.zero)) [],oS 8 9 40,oV 10 41,oV 11 42]
def r48_9 := [oV 43 11,mo 44 .not [.t 43]]
def r48_10 := [mo 4 .mv [oFa]]
def r48_11 := [oI 12 0]
def r48_12 := [oV 45 12,oP 46 .lss [.t 45, oK 8]]
def r48_14 := [oV 49 12,oC 50 34 [.t 49],mo 13 (.alloc 3 (Proc.enc Proc.zero)) [],oS 3 13 50]
def r48_15 := [oA 51 6 5,oM 52 1 51,oL 53 3 13,oC 54 59 [.t 52, .t 53],oA 55 6 9,oM 56 1 55,oL 57 3 13,oC 58 59 [.t 56, .t 57],oV 14 54,oV 15 58]
def r48_16 := [oV 59 14,oP 60 .lss [.t 59, oK 0],oV 61 60,oG 62 61 false .mv [.t 15],oG 63 61 false (.bin .lss) [.t 62, oK 0],mo 64 .pick [.t 61, oTr, .t 63]]
def r48_17 := [oV 65 12,mo 66 (.iaA 8 1) [.t 7, .t 65],mz (.store 1) [.t 66, oK 0]]
def r48_18 := [oI 16 0]
def r48_19 := [oV 67 16,oV 68 15,oP 69 .lss [.t 67, .t 68]]
def r48_21 := [oA 72 6 5,oM 73 1 72,oA 74 6 9,oM 75 1 74,oV 76 16,mo 77 (.iaS 7 (Wait.enc Wait.zero)) [.t 75, .t 76],oA 78 0 77,oL 79 3 78,oC 80 59 [.t 73, .t 79],oP 81 .lss [.t 80, oK 0]]
def r48_22 := [oV 82 12,mo 83 (.iaA 8 1) [.t 7, .t 82],oM 84 1 83,oP 85 .add [.t 84, oK 1],mo 86 (.iaA 8 1) [.t 7, .t 82],oS 1 86 85]
def r48_20 := [oV 70 16,oP 71 .add [.t 70, oK 1],oV 16 71]
def r48_23 := [oV 87 12,mo 88 (.iaA 8 1) [.t 7, .t 87],oM 89 1 88,oP 90 .gtr [.t 89, oK 3]]
def r48_24 := [mo 4 .mv [oFa]]
def r48_13 := [oV 47 12,oP 48 .add [.t 47, oK 1],oV 12 48]
def r48_25 := [oL 91 8 9,oS 8 5 91]
def r48_7 := [oV 31 8,oP 32 .add [.t 31, oK 1],oV 8 32]
def r48_26 := [oC 92 18 [],oV 4 92]
def pc_48 : PC := (.seq (.reg [] r48_0) (.seq (.seq (.reg [17, 18] r48_1) (.cond (.t 19) (.seq (.reg [20] r48_2) .ret) .skip)) (.seq (.reg [6, 21, 22, 23, 24, 25, 26] r48_3) (.seq (.reg [] r48_4) (.seq (.seq (.reg [] r48_5) (.block 0 (.loop (.seq (.seq (.reg [27, 28, 29] r48_6) (.cond (.t 30) .skip (.exit 0))) (.seq (.block 1 (.seq (.regm [10, 33, 34, 35, 36, 37, 38, 39, 40, 41, 42] [[], [], [], [1, 2], [3, 1, 2], [0, 4, 3, 1, 2], [5, 0, 4, 3, 1, 2], [6, 5, 0, 4, 3, 1, 2], [6, 5, 0, 4, 3, 1, 2], [6, 5, 0, 4, 3, 1, 2], [], [10, 7, 5, 0, 1, 2, 3, 4, 5, 6, 7, 10, 6, 5, 0, 4, 3, 1, 2, 0, 4, 3, 1, 2, 1, 2, 3, 1, 2, 0, 4, 3, 1, 2, 5, 0, 4, 3, 1, 2, 6, 5, 0, 4, 3, 1, 2], [8, 11, 0, 1, 2, 3, 4, 5, 6, 7, 8, 10, 11, 6, 5, 0, 4, 3, 1, 2, 10, 7, 5, 0, 1, 2, 3, 4, 5, 6, 7, 10, 6, 5, 0, 4, 3, 1, 2, 0, 4, 3, 1, 2, 1, 2, 3, 1, 2, 0, 4, 3, 1, 2, 5, 0, 4, 3, 1, 2, 6, 5, 0, 4, 3, 1, 2, 1, 2, 3, 1, 2, 0, 4, 3, 1, 2, 5, 0, 4, 3, 1, 2, 6, 5, 0, 4, 3, 1, 2, 6, 5, 0, 4, 3, 1, 2, 10, 7, 5, 0, 1, 2, 3, 4, 5, 6, 7, 10, 6, 5, 0, 4, 3, 1, 2, 0, 4, 3, 1, 2, 1, 2, 3, 1, 2, 0, 4, 3, 1, 2, 5, 0, 4, 3, 1, 2, 6, 5, 0, 4, 3, 1, 2], [9, 12, 0, 1, 2, 3, 4, 5, 6, 7, 8, 9, 10, 11, 12, 6, 5, 0, 4, 3, 1, 2, 8, 11, 0, 1, 2, 3, 4, 5, 6, 7, 8, 10, 11, 6, 5, 0, 4, 3, 1, 2, 10, 7, 5, 0, 1, 2, 3, 4, 5, 6, 7, 10, 6, 5, 0, 4, 3, 1, 2, 0, 4, 3, 1, 2, 1, 2, 3, 1, 2, 0, 4, 3, 1, 2, 5, 0, 4, 3, 1, 2, 6, 5, 0, 4, 3, 1, 2, 1, 2, 3, 1, 2, 0, 4, 3, 1, 2, 5, 0, 4, 3, 1, 2, 6, 5, 0, 4, 3, 1, 2, 6, 5, 0, 4, 3, 1, 2, 10, 7, 5, 0, 1, 2, 3, 4, 5, 6, 7, 10, 6, 5, 0, 4, 3, 1, 2, 0, 4, 3, 1, 2, 1, 2, 3, 1, 2, 0, 4, 3, 1, 2, 5, 0, 4, 3, 1, 2, 6, 5, 0, 4, 3, 1, 2, 1, 2, 3, 1, 2, 0, 4, 3, 1, 2, 5, 0, 4, 3, 1, 2, 6, 5, 0, 4, 3, 1, 2, 6, 5, 0, 4, 3, 1, 2, 6, 5, 0, 4, 3, 1, 2, 10, 7, 5, 0, 1, 2, 3, 4, 5, 6, 7, 10, 6, 5, 0, 4, 3, 1, 2, 0, 4, 3, 1, 2, 1, 2, 3, 1, 2, 0, 4, 3, 1, 2, 5, 0, 4, 3, 1, 2, 6, 5, 0, 4, 3, 1, 2, 8, 11, 0, 1, 2, 3, 4, 5, 6, 7, 8, 10, 11, 6, 5, 0, 4, 3, 1, 2, 10, 7, 5, 0, 1, 2, 3, 4, 5, 6, 7, 10, 6, 5, 0, 4, 3, 1, 2, 0, 4, 3, 1, 2, 1, 2, 3, 1, 2, 0, 4, 3, 1, 2, 5, 0, 4, 3, 1, 2, 6, 5, 0, 4, 3, 1, 2, 1, 2, 3, 1, 2, 0, 4, 3, 1, 2, 5, 0, 4, 3, 1, 2, 6, 5, 0, 4, 3, 1, 2, 6, 5, 0, 4, 3, 1, 2, 10, 7, 5, 0, 1, 2, 3, 4, 5, 6, 7, 10, 6, 5, 0, 4, 3, 1, 2, 0, 4, 3, 1, 2, 1, 2, 3, 1, 2, 0, 4, 3, 1, 2, 5, 0, 4, 3, 1, 2, 6, 5, 0, 4, 3, 1, 2]] r48_8) (.seq (.seq (.reg [43] r48_9) (.cond (.t 44) (.seq (.reg [] r48_10) .ret) .skip)) (.seq (.seq (.reg [] r48_11) (.block 2 (.loop (.seq (.seq (.reg [45] r48_12) (.cond (.t 46) .skip (.exit 2))) (.seq (.block 3 (.seq (.reg [49, 50] r48_14) (.seq (.regd [51, 52, 53, 54, 55, 56, 57, 58] r48_15) (.seq (.seq (.reg [59, 60, 61, 62, 63] r48_16) (.cond (.t 64) (.seq (.reg [65, 66] r48_17) (.exit 3)) .skip)) (.seq (.seq (.reg [] r48_18) (.block 4 (.loop (.seq (.seq (.reg [67, 68] r48_19) (.cond (.t 69) .skip (.exit 4))) (.seq (.block 5 (.seq (.regd [72, 73, 74, 75, 76, 77, 78, 79, 80] r48_21) (.cond (.t 81) (.reg [82, 83, 84, 85, 86] r48_22) .skip))) (.reg [70, 71] r48_20)))))) (.seq (.reg [87, 88, 89] r48_23) (.cond (.t 90) (.seq (.reg [] r48_24) .ret) .skip))))))) (.reg [47, 48] r48_13)))))) (.reg [91] r48_25))))) (.reg [31, 32] r48_7)))))) (.seq (.reg [92] r48_26) .ret))))))
theorem ck_48 : chkF C.P 16 pc_48 93 [.t 4] 2 = true := by kernel_rfl
attribute [go_sem] r48_0 r48_1 r48_2 r48_3 r48_4 r48_5 r48_6 r48_8 r48_9 r48_10 r48_11 r48_12 r48_14 r48_15 r48_16 r48_17 r48_18 r48_19 r48_21 r48_22 r48_20 r48_23 r48_24 r48_13 r48_25 r48_7 r48_26

noncomputable def f_law12_QueueOvertakes_k1  (j1 : Unit) : Option (Bool) :=
 (f_law12_awake).bind fun v4 =>
 some v4
@[go_sem] def J48_k1  (j1 : Unit) : St := ⟨[], [], 0⟩
noncomputable def f_law12_QueueOvertakes_k2 (g1 : Int × Queue × (Arr Int 8)) (v5 : Queue × (List Hold) × Bool) (j2 : (Arr Int 8)) : Option ((Int × Queue × (Arr Int 8)) ⊕ ((Unit) ⊕ (Bool))) :=
 some (.inl ((IntKind.i64.wrap (g1.1 + 1)), v5.1, j2))
@[go_sem] def J48_k2 (a1 : List Int) (g1 : Int × Queue × (Arr Int 8)) (v5 : Queue × (List Hold) × Bool) (j2 : (Arr Int 8)) : St := ⟨[(1, .sl (a1.map (eI .i64))), (5, .ptr 0 0 0), (7, .ptr 1 0 0), (8, .int .i64 g1.1), (9, .ptr 2 0 0)], [(0, ⟨false, 8, (Queue.enc Queue.zero), [Queue.enc g1.2.1]⟩), (1, ⟨false, 8, (Arr.enc (eI .i64) (Arr.rep 8 0)), [Arr.enc (eI .i64) j2]⟩), (2, ⟨false, 8, (Queue.enc Queue.zero), [Queue.enc v5.1]⟩)], 3⟩
noncomputable def f_law12_QueueOvertakes_k3 (g2 : Int × (Arr Int 8)) (j3 : (Arr Int 8)) : Option ((Int × (Arr Int 8)) ⊕ (((Arr Int 8)) ⊕ (Bool))) :=
 gd (0 ≤ g2.1 ∧ g2.1 < 8) <|
 (if (decide (3 < (Arr.get j3 g2.1.toNat 0))) = true then
  some (.inr (.inr false))
 else
  some (.inl ((IntKind.i64.wrap (g2.1 + 1)), j3)))
@[go_sem] def J48_k3 (a1 : List Int) (g1 : Int × Queue × (Arr Int 8)) (v5 : Queue × (List Hold) × Bool) (g2 : Int × (Arr Int 8)) (j3 : (Arr Int 8)) : St := ⟨[(1, .sl (a1.map (eI .i64))), (5, .ptr 0 0 0), (7, .ptr 1 0 0), (8, .int .i64 g1.1), (9, .ptr 2 0 0), (12, .int .i64 g2.1)], [(0, ⟨false, 8, (Queue.enc Queue.zero), [Queue.enc g1.2.1]⟩), (1, ⟨false, 8, (Arr.enc (eI .i64) (Arr.rep 8 0)), [Arr.enc (eI .i64) j3]⟩), (2, ⟨false, 8, (Queue.enc Queue.zero), [Queue.enc v5.1]⟩)], 3⟩
noncomputable def f_law12_QueueOvertakes_l3 (g1 : Int × Queue × (Arr Int 8)) (v5 : Queue × (List Hold) × Bool) (g2 : Int × (Arr Int 8)) (v8 : Int) (g3 : Int × (Arr Int 8)) : Option ((Int × (Arr Int 8)) ⊕ (((Arr Int 8)))) :=
 (if (decide (g3.1 < v8)) = true then
  gd (0 ≤ g3.1 ∧ g3.1 < (v5.1.waits.length : Int)) <|
  (f_ref11_Find g1.2.1.waits ((v5.1.waits.getD g3.1.toNat Wait.zero).proc)).bind fun v9 =>
  (if (decide (v9 < 0)) = true then
   gd (0 ≤ g2.1 ∧ g2.1 < 8) <|
   gd (0 ≤ g2.1 ∧ g2.1 < 8) <|
   some (.inl ((IntKind.i64.wrap (g3.1 + 1)), (Arr.put g3.2 g2.1.toNat (IntKind.i64.wrap ((Arr.get g3.2 g2.1.toNat 0) + 1)))))
  else
   some (.inl ((IntKind.i64.wrap (g3.1 + 1)), g3.2)))
 else
  some (.inr g3.2))
@[go_sem] def I48_l3 (a1 : List Int) (g1 : Int × Queue × (Arr Int 8)) (v5 : Queue × (List Hold) × Bool) (g2 : Int × (Arr Int 8)) (v8 : Int) (g3 : Int × (Arr Int 8)) : St := ⟨[(1, .sl (a1.map (eI .i64))), (5, .ptr 0 0 0), (7, .ptr 1 0 0), (8, .int .i64 g1.1), (9, .ptr 2 0 0), (12, .int .i64 g2.1), (15, .int .i64 v8), (16, .int .i64 g3.1)], [(0, ⟨false, 8, (Queue.enc Queue.zero), [Queue.enc g1.2.1]⟩), (1, ⟨false, 8, (Arr.enc (eI .i64) (Arr.rep 8 0)), [Arr.enc (eI .i64) g3.2]⟩), (2, ⟨false, 8, (Queue.enc Queue.zero), [Queue.enc v5.1]⟩)], 3⟩
noncomputable def f_law12_QueueOvertakes_l2 (g1 : Int × Queue × (Arr Int 8)) (v5 : Queue × (List Hold) × Bool) (g2 : Int × (Arr Int 8)) : Option ((Int × (Arr Int 8)) ⊕ (((Arr Int 8)) ⊕ (Bool))) :=
 (if (decide (g2.1 < 8)) = true then
  (f_mill_Proc g2.1).bind fun v6 =>
  (f_ref11_Find g1.2.1.waits v6).bind fun v7 =>
  (f_ref11_Find v5.1.waits v6).bind fun v8 =>
  (if ((decide (v7 < 0)) || (decide (v8 < 0))) = true then
   gd (0 ≤ g2.1 ∧ g2.1 < 8) <|
   some (.inl ((IntKind.i64.wrap (g2.1 + 1)), (Arr.put g2.2 g2.1.toNat 0)))
  else
   (loopO (f_law12_QueueOvertakes_l3 g1 v5 g2 v8) (0, g2.2)).bind (fun z => f_law12_QueueOvertakes_k3 g2 z))
 else
  some (.inr (.inl g2.2)))
@[go_sem] def I48_l2 (a1 : List Int) (g1 : Int × Queue × (Arr Int 8)) (v5 : Queue × (List Hold) × Bool) (g2 : Int × (Arr Int 8)) : St := ⟨[(1, .sl (a1.map (eI .i64))), (5, .ptr 0 0 0), (7, .ptr 1 0 0), (8, .int .i64 g1.1), (9, .ptr 2 0 0), (12, .int .i64 g2.1)], [(0, ⟨false, 8, (Queue.enc Queue.zero), [Queue.enc g1.2.1]⟩), (1, ⟨false, 8, (Arr.enc (eI .i64) (Arr.rep 8 0)), [Arr.enc (eI .i64) g2.2]⟩), (2, ⟨false, 8, (Queue.enc Queue.zero), [Queue.enc v5.1]⟩)], 3⟩
noncomputable def f_law12_QueueOvertakes_l1 (a1 : List Int) (g1 : Int × Queue × (Arr Int 8)) : Option ((Int × Queue × (Arr Int 8)) ⊕ ((Unit) ⊕ (Bool))) :=
 (if (decide (g1.1 < (a1.length : Int))) = true then
  gd (0 ≤ g1.1 ∧ g1.1 < (a1.length : Int)) <|
  (f_law12_step g1.2.1 (a1.getD g1.1.toNat 0)).bind fun v5 =>
  (if (!v5.2.2) = true then
   some (.inr (.inr false))
  else
   (loopO (f_law12_QueueOvertakes_l2 g1 v5) (0, g1.2.2)).bind (fun | .inl z => f_law12_QueueOvertakes_k2 g1 v5 z | .inr z => some (.inr (.inr z))))
 else
  some (.inr (.inl ())))
@[go_sem] def I48_l1 (a1 : List Int) (g1 : Int × Queue × (Arr Int 8)) : St := ⟨[(1, .sl (a1.map (eI .i64))), (5, .ptr 0 0 0), (7, .ptr 1 0 0), (8, .int .i64 g1.1)], [(0, ⟨false, 8, (Queue.enc Queue.zero), [Queue.enc g1.2.1]⟩), (1, ⟨false, 8, (Arr.enc (eI .i64) (Arr.rep 8 0)), [Arr.enc (eI .i64) g1.2.2]⟩)], 2⟩
noncomputable def f_law12_QueueOvertakes (a0 : Int) (a1 : List Int) : Option (Bool) :=
 (if (!(f_mill_Light a1)) = true then
  (f_law12_awake).bind fun v1 =>
  some v1
 else
  (f_mill_Resource a0).bind fun v2 =>
  (f_queue_New v2).bind fun v3 =>
  (loopO (f_law12_QueueOvertakes_l1 a1) (0, v3.1, (Arr.rep 8 0))).bind (fun | .inl z => f_law12_QueueOvertakes_k1 z | .inr z => some z))
theorem law12_QueueOvertakes_ok (a0 : Int) (a1 : List Int) (r : Bool) (h : f_law12_QueueOvertakes a0 a1 = some r) : PFn C 16 [.int .i64 a0, .sl (a1.map (eI .i64))] (.bool r) := by
 refine pfn_intro ck_48 rfl fun E hG hN hK => ?_
 unfold pc_48
 unfold f_law12_QueueOvertakes at h
 refine s_seq (g_reg hG ?_)
 refine s_seq (s_seq (g_reg hG ?_))
 refine g_call (fun hg => mill_Light_ok a1) ?_
 refine g_cond rfl hG h (fun _ h => ?_) (fun _ h => ?_)
 · refine s_seq (g_reg hG ?_)
   obtain ⟨v1, hv1, h⟩ := bind_of h
   refine g_call (fun hg => law12_awake_ok  _ (hv1)) ?_
   refine g_ret ?_
   exact g_end h
 refine g_skip ?_
 refine s_seq (g_reg hG ?_)
 obtain ⟨v2, hv2, h⟩ := bind_of h
 refine g_call (fun hg => mill_Resource_ok a0 _ (hv2)) ?_
 obtain ⟨v3, hv3, h⟩ := bind_of h
 refine g_call (fun hg => queue_New_ok v2 _ (hv3)) ?_
 refine s_seq (g_reg hG ?_)
 refine s_seq (s_seq (g_reg hG ?_))
 refine s_blockJ (J48_k1) (fun v => f_law12_QueueOvertakes_k1 v = some r) ?_ ?_
 · intro j1 h
   unfold f_law12_QueueOvertakes_k1 at h
   refine g_st ?_
   refine s_seq (g_reg hG ?_)
   obtain ⟨v4, hv4, h⟩ := bind_of h
   refine g_call (fun hg => law12_awake_ok  _ (hv4)) ?_
   refine g_ret ?_
   exact g_end h
 refine g_loop (I48_l1 a1) hK [(0, 0), (1, 1)] h (fun x_l1 h g1 y_l1 h_l1 hx_l1 => ?_)
 unfold f_law12_QueueOvertakes_l1 at h_l1
 refine g_st ?_
 refine s_seq (s_seq (g_reg hG ?_))
 refine g_cond rfl hG h_l1 (fun _ h_l1 => ?_) (fun _ h_l1 => ?_)
 · refine g_skip ?_
   refine s_seq (s_block (s_seq ?_))
   obtain ⟨hb6, h_l1⟩ := gd_some h_l1
   refine g_regm C_mixed hG ?_
   obtain ⟨v5, hv5, h_l1⟩ := bind_of h_l1
   refine g_callM (fun hg => law12_step_ok g1.2.1 (a1.getD g1.1.toNat 0) _ (hv5)) ?_
   refine s_seq (s_seq (g_reg hG ?_))
   refine g_cond rfl hG h_l1 (fun _ h_l1 => ?_) (fun _ h_l1 => ?_)
   · refine s_seq (g_reg hG ?_)
     refine g_ret ?_
     obtain rfl := Option.some.inj h_l1
     have hx := hx_l1 _ rfl
     subst hx
     try dsimp only at h
     exact g_end h
   refine g_skip ?_
   refine s_seq (s_seq (g_reg hG ?_))
   refine s_blockJ (J48_k2 a1 g1 v5) (fun v => f_law12_QueueOvertakes_k2 g1 v5 v = some y_l1) ?_ ?_
   · intro j2 h_l1
     unfold f_law12_QueueOvertakes_k2 at h_l1
     refine g_st ?_
     refine g_reg hG ?_
     refine g_reg hG ?_
     exact g_next hK [(0, 0), (1, 1)] h_l1
   refine g_loop (I48_l2 a1 g1 v5) hK [(0, 0), (1, 1), (2, 2)] h_l1 (fun x_l2 h_l1 g2 y_l2 h_l2 hx_l2 => ?_)
   unfold f_law12_QueueOvertakes_l2 at h_l2
   refine g_st ?_
   refine s_seq (s_seq (g_reg hG ?_))
   refine g_cond rfl hG h_l2 (fun _ h_l2 => ?_) (fun _ h_l2 => ?_)
   · refine g_skip ?_
     refine s_seq (s_block (s_seq (g_reg hG ?_)))
     obtain ⟨v6, hv6, h_l2⟩ := bind_of h_l2
     refine g_call (fun hg => mill_Proc_ok g2.1 _ (hv6)) ?_
     refine s_seq (g_regd C_mixed hG ?_)
     obtain ⟨v7, hv7, h_l2⟩ := bind_of h_l2
     refine g_calld (fun hg => ref11_Find_ok g1.2.1.waits v6 _ (hv7)) ?_
     obtain ⟨v8, hv8, h_l2⟩ := bind_of h_l2
     refine g_calld (fun hg => ref11_Find_ok v5.1.waits v6 _ (hv8)) ?_
     refine s_seq (s_seq (g_reg hG ?_))
     refine g_cond rfl hG h_l2 (fun _ h_l2 => ?_) (fun _ h_l2 => ?_)
     · refine s_seq ?_
       obtain ⟨hb1, h_l2⟩ := gd_some h_l2
       refine g_reg hG ?_
       refine g_exit ?_
       refine g_reg hG ?_
       exact g_next hK [(0, 0), (1, 1), (2, 2)] h_l2
     refine g_skip ?_
     refine s_seq (s_seq (g_reg hG ?_))
     refine s_blockJ (J48_k3 a1 g1 v5 g2) (fun v => f_law12_QueueOvertakes_k3 g2 v = some y_l2) ?_ ?_
     · intro j3 h_l2
       unfold f_law12_QueueOvertakes_k3 at h_l2
       refine g_st ?_
       refine s_seq ?_
       obtain ⟨hb2, h_l2⟩ := gd_some h_l2
       refine g_reg hG ?_
       refine g_cond rfl hG h_l2 (fun _ h_l2 => ?_) (fun _ h_l2 => ?_)
       · refine s_seq (g_reg hG ?_)
         refine g_ret ?_
         obtain rfl := Option.some.inj h_l2
         have hx := hx_l2 _ rfl
         subst hx
         try dsimp only at h_l1
         obtain rfl := Option.some.inj h_l1
         have hx := hx_l1 _ rfl
         subst hx
         try dsimp only at h
         exact g_end h
       refine g_skip ?_
       refine g_reg hG ?_
       exact g_next hK [(0, 0), (1, 1), (2, 2)] h_l2
     refine g_loop (I48_l3 a1 g1 v5 g2 v8) hK [(0, 0), (1, 1), (2, 2)] h_l2 (fun x_l3 h_l2 g3 y_l3 h_l3 hx_l3 => ?_)
     unfold f_law12_QueueOvertakes_l3 at h_l3
     refine g_st ?_
     refine s_seq (s_seq (g_reg hG ?_))
     refine g_cond rfl hG h_l3 (fun _ h_l3 => ?_) (fun _ h_l3 => ?_)
     · refine g_skip ?_
       refine s_seq (s_block (s_seq ?_))
       obtain ⟨hb5, h_l3⟩ := gd_some h_l3
       refine g_regd C_mixed hG ?_
       obtain ⟨v9, hv9, h_l3⟩ := bind_of h_l3
       refine g_calld (fun hg => ref11_Find_ok g1.2.1.waits ((v5.1.waits.getD g3.1.toNat Wait.zero).proc) _ (hv9)) ?_
       refine g_cond rfl hG h_l3 (fun _ h_l3 => ?_) (fun _ h_l3 => ?_)
       · obtain ⟨hb3, h_l3⟩ := gd_some h_l3
         obtain ⟨hb4, h_l3⟩ := gd_some h_l3
         refine g_reg hG ?_
         refine g_reg hG ?_
         exact g_next hK [(0, 0), (1, 1), (2, 2)] h_l3
       refine g_skip ?_
       refine g_reg hG ?_
       exact g_next hK [(0, 0), (1, 1), (2, 2)] h_l3
     refine g_exit ?_
     obtain rfl := Option.some.inj h_l3
     have hx := hx_l3 _ rfl
     subst hx
     try dsimp only at h_l2
     exact g_join hK [(0, 0), (1, 1), (2, 2)] g3.2 (by exact h_l2)
   refine g_exit ?_
   obtain rfl := Option.some.inj h_l2
   have hx := hx_l2 _ rfl
   subst hx
   try dsimp only at h_l1
   exact g_join hK [(0, 0), (1, 1), (2, 2)] g2.2 (by exact h_l1)
 refine g_exit ?_
 obtain rfl := Option.some.inj h_l1
 have hx := hx_l1 _ rfl
 subst hx
 try dsimp only at h
 exact g_join hK [] () (by exact h)
attribute [local irreducible] f_law12_QueueOvertakes
end Ab
end Go.Proofs.YtdflfohpemfeiaaGreatDoor
