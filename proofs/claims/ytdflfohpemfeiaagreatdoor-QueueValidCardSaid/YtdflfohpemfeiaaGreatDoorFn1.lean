/-
  Functions of the program, as Lean functions; what the program's code computes is what they say.
-/
import Derived.Test.YtdflfohpemfeiaaGreatDoorCode
import Derived.Test.YtdflfohpemfeiaaGreatDoorHand
import Derived.Test.YtdflfohpemfeiaaGreatDoorSort
namespace Go.Proofs.YtdflfohpemfeiaaGreatDoor
namespace Ab
set_option linter.unusedSimpArgs false
set_option linter.unusedVariables false
set_option maxRecDepth 100000
set_option maxHeartbeats 1000000

def f_law12_small (a0 : Queue) : Bool :=
 (((decide ((a0.holds.length : Int) ≤ 40)) && (decide ((a0.converts.length : Int) ≤ 40))) && (decide ((a0.waits.length : Int) ≤ 40)))
theorem law12_small_ok (a0 : Queue) : PFn C 17 [.agg (Queue.enc a0)] (.bool (f_law12_small a0)) := by
 generalize h : f_law12_small a0 = r
 refine pfn_intro ck_0 rfl fun E hG hN hK => ?_
 unfold pc_0
 unfold f_law12_small at h
 refine s_seq (g_reg hG ?_)
 refine s_seq (g_reg hG ?_)
 refine g_ret ?_
 exact g_endT h

noncomputable def f_mill_Mod (a0 : Int) (a1 : Int) : Option (Int) :=
 (if (decide (a1 < 1)) = true then
  some 0
 else
  gd (a1 ≠ 0) <|
  (if (decide ((a0.tmod a1) < 0)) = true then
   some (IntKind.i64.wrap ((a0.tmod a1) + a1))
  else
   some (a0.tmod a1)))
theorem mill_Mod_ok (a0 : Int) (a1 : Int) (r : Int) (h : f_mill_Mod a0 a1 = some r) : PFn C 39 [.int .i64 a0, .int .i64 a1] (.int .i64 r) := by
 refine pfn_intro ck_1 rfl fun E hG hN hK => ?_
 unfold pc_1
 unfold f_mill_Mod at h
 refine s_seq (g_reg hG ?_)
 refine s_seq (s_seq (g_reg hG ?_))
 refine g_cond rfl hG h (fun _ h => ?_) (fun _ h => ?_)
 · refine s_seq (g_reg hG ?_)
   refine g_ret ?_
   exact g_end h
 refine g_skip ?_
 refine s_seq ?_
 obtain ⟨hb1, h⟩ := gd_some h
 refine g_reg hG ?_
 refine s_seq (s_seq (g_reg hG ?_))
 refine g_cond rfl hG h (fun _ h => ?_) (fun _ h => ?_)
 · refine g_reg hG ?_
   refine s_seq (g_reg hG ?_)
   refine g_ret ?_
   exact g_end h
 refine g_skip ?_
 refine s_seq (g_reg hG ?_)
 refine g_ret ?_
 exact g_end h
attribute [local irreducible] f_mill_Mod

noncomputable def f_mill_Proc (a0 : Int) : Option (Proc) :=
 (f_mill_Mod a0 8).bind fun v1 =>
 some (⟨(v1.tmod 4), 1, (IntKind.i64.wrap (1 + (IntKind.i64.wrap (v1.tdiv 4))))⟩ : Proc)
theorem mill_Proc_ok (a0 : Int) (r : Proc) (h : f_mill_Proc a0 = some r) : PFn C 34 [.int .i64 a0] (.agg (Proc.enc r)) := by
 refine pfn_intro ck_2 rfl fun E hG hN hK => ?_
 unfold pc_2
 unfold f_mill_Proc at h
 refine s_seq (g_reg hG ?_)
 refine s_seq (g_reg hG ?_)
 obtain ⟨v1, hv1, h⟩ := bind_of h
 refine g_call (fun hg => mill_Mod_ok a0 8 _ (hv1)) ?_
 refine s_seq (g_reg hG ?_)
 refine g_ret ?_
 exact g_end h
attribute [local irreducible] f_mill_Proc

def f_catalog_Reserved_k1  (j1 : Bool) : Bool :=
 (if j1 = true then
  true
 else
  false)
@[go_sem] def J3_k1  (j1 : Bool) : St := ⟨[(4, .bool j1)], [], 0⟩
def f_catalog_Reserved (a0 : ByteArray) : Bool :=
 (if (a0.toList == (⟨#[97, 108, 108]⟩ : ByteArray).toList) = true then
  f_catalog_Reserved_k1 (a0.toList == (⟨#[97, 108, 108]⟩ : ByteArray).toList)
 else
  (if (a0.toList == (⟨#[97, 110, 121]⟩ : ByteArray).toList) = true then
   f_catalog_Reserved_k1 (a0.toList == (⟨#[97, 110, 121]⟩ : ByteArray).toList)
  else
   (if (a0.toList == (⟨#[111, 102]⟩ : ByteArray).toList) = true then
    f_catalog_Reserved_k1 (a0.toList == (⟨#[111, 102]⟩ : ByteArray).toList)
   else
    (if (a0.toList == (⟨#[112, 114, 105, 111]⟩ : ByteArray).toList) = true then
     f_catalog_Reserved_k1 (a0.toList == (⟨#[112, 114, 105, 111]⟩ : ByteArray).toList)
    else
     f_catalog_Reserved_k1 (a0.toList == (⟨#[108, 105, 109, 105, 116]⟩ : ByteArray).toList)))))
theorem catalog_Reserved_ok (a0 : ByteArray) : PFn C 141 [.str a0] (.bool (f_catalog_Reserved a0)) := by
 generalize h : f_catalog_Reserved a0 = r
 refine pfn_intro ck_3 rfl fun E hG hN hK => ?_
 unfold pc_3
 unfold f_catalog_Reserved at h
 refine s_seq (g_reg hG ?_)
 refine s_seq (s_seq (g_reg hG ?_))
 refine s_block (s_seq (s_seq (g_reg hG ?_)))
 refine g_condJ (J3_k1) (fun v => f_catalog_Reserved_k1 v = r) rfl hG h ?_ (fun _ h => ?_) (fun _ h => ?_)
 · intro j1 h
   unfold f_catalog_Reserved_k1 at h
   refine g_st ?_
   refine g_cond rfl hG h (fun _ h => ?_) (fun _ h => ?_)
   · refine s_seq (g_reg hG ?_)
     refine g_ret ?_
     exact g_endT h
   refine g_skip ?_
   refine s_seq (g_reg hG ?_)
   refine g_ret ?_
   exact g_endT h
 · refine g_skip ?_
   exact g_join hK [] (a0.toList == (⟨#[97, 108, 108]⟩ : ByteArray).toList) (by exact h)
 refine s_seq (g_reg hG ?_)
 refine g_cond rfl hG h (fun _ h => ?_) (fun _ h => ?_)
 · refine g_skip ?_
   exact g_join hK [] (a0.toList == (⟨#[97, 110, 121]⟩ : ByteArray).toList) (by exact h)
 refine s_seq (g_reg hG ?_)
 refine g_cond rfl hG h (fun _ h => ?_) (fun _ h => ?_)
 · refine g_skip ?_
   exact g_join hK [] (a0.toList == (⟨#[111, 102]⟩ : ByteArray).toList) (by exact h)
 refine s_seq (g_reg hG ?_)
 refine g_cond rfl hG h (fun _ h => ?_) (fun _ h => ?_)
 · refine g_skip ?_
   exact g_join hK [] (a0.toList == (⟨#[112, 114, 105, 111]⟩ : ByteArray).toList) (by exact h)
 refine g_reg hG ?_
 exact g_join hK [] (a0.toList == (⟨#[108, 105, 109, 105, 116]⟩ : ByteArray).toList) (by exact h)

noncomputable def f_catalog_ValidName_k1  (j1 : Unit) : Option (Bool) :=
 some true
@[go_sem] def J4_k1  (j1 : Unit) : St := ⟨[], [], 0⟩
noncomputable def f_catalog_ValidName_l1 (a0 : ByteArray) (g1 : Int) : Option ((Int) ⊕ ((Unit) ⊕ (Bool))) :=
 (if (decide (g1 < (a0.size : Int))) = true then
  gd (0 ≤ g1 ∧ g1 < (a0.size : Int)) <|
  (if ((!((decide (97 ≤ ((a0.toList.getD g1.toNat 0).toNat : Int))) && (decide (((a0.toList.getD g1.toNat 0).toNat : Int) ≤ 122)))) && ((decide (g1 = 0)) || (!((((decide (48 ≤ ((a0.toList.getD g1.toNat 0).toNat : Int))) && (decide (((a0.toList.getD g1.toNat 0).toNat : Int) ≤ 57))) || (decide (((a0.toList.getD g1.toNat 0).toNat : Int) = 95))) || (decide (((a0.toList.getD g1.toNat 0).toNat : Int) = 45)))))) = true then
   some (.inr (.inr false))
  else
   some (.inl (IntKind.i64.wrap (g1 + 1))))
 else
  some (.inr (.inl ())))
@[go_sem] def I4_l1 (a0 : ByteArray) (g1 : Int) : St := ⟨[(0, .str a0), (20, .int .i64 (a0.size : Int)), (21, .int .i64 g1)], [], 0⟩
noncomputable def f_catalog_ValidName (a0 : ByteArray) : Option (Bool) :=
 (if (((decide ((a0.size : Int) < 1)) || (decide (12 < (a0.size : Int)))) || (f_catalog_Reserved a0)) = true then
  some false
 else
  (loopO (f_catalog_ValidName_l1 a0) 0).bind (fun | .inl z => f_catalog_ValidName_k1 z | .inr z => some z))
theorem catalog_ValidName_ok (a0 : ByteArray) (r : Bool) (h : f_catalog_ValidName a0 = some r) : PFn C 116 [.str a0] (.bool r) := by
 refine pfn_intro ck_4 rfl fun E hG hN hK => ?_
 unfold pc_4
 unfold f_catalog_ValidName at h
 refine s_seq (g_reg hG ?_)
 refine s_seq (s_seq (g_reg hG ?_))
 refine g_call (fun hg => catalog_Reserved_ok a0) ?_
 refine g_cond rfl hG h (fun _ h => ?_) (fun _ h => ?_)
 · refine s_seq (g_reg hG ?_)
   refine g_ret ?_
   exact g_end h
 refine g_skip ?_
 refine s_seq (s_seq (g_reg hG ?_))
 refine s_blockJ (J4_k1) (fun v => f_catalog_ValidName_k1 v = some r) ?_ ?_
 · intro j1 h
   unfold f_catalog_ValidName_k1 at h
   refine g_st ?_
   refine s_seq (g_reg hG ?_)
   refine g_ret ?_
   exact g_end h
 refine g_loop (I4_l1 a0) hK [] h (fun x_l1 h g1 y_l1 h_l1 hx_l1 => ?_)
 unfold f_catalog_ValidName_l1 at h_l1
 refine g_st ?_
 refine s_seq (g_reg hG ?_)
 refine s_seq ?_
 refine g_cond rfl hG h_l1 (fun _ h_l1 => ?_) (fun _ h_l1 => ?_)
 · refine g_skip ?_
   refine s_seq (s_block (s_seq (g_reg hG ?_)))
   refine s_seq ?_
   obtain ⟨hb1, h_l1⟩ := gd_some h_l1
   refine g_reg hG ?_
   refine s_seq (g_reg hG ?_)
   refine s_seq (g_reg hG ?_)
   refine s_seq (g_reg hG ?_)
   refine g_cond rfl hG h_l1 (fun _ h_l1 => ?_) (fun _ h_l1 => ?_)
   · refine s_seq (g_reg hG ?_)
     refine g_ret ?_
     obtain rfl := Option.some.inj h_l1
     have hx := hx_l1 _ rfl
     subst hx
     try dsimp only at h
     exact g_end h
   refine g_skip ?_
   refine g_reg hG ?_
   exact g_next hK [] h_l1
 refine g_exit ?_
 obtain rfl := Option.some.inj h_l1
 have hx := hx_l1 _ rfl
 subst hx
 try dsimp only at h
 exact g_join hK [] () (by exact h)
attribute [local irreducible] f_catalog_ValidName

def f_amount_Shaped (a0 : Resource) : Bool :=
 (if (decide (a0.kind = 1)) = true then
  (decide (a0.units = 1))
 else
  (if (decide (a0.kind = 2)) = true then
   ((decide (1 ≤ a0.units)) && (decide (a0.units ≤ 8)))
  else
   false))
theorem amount_Shaped_ok (a0 : Resource) : PFn C 117 [.agg (Resource.enc a0)] (.bool (f_amount_Shaped a0)) := by
 generalize h : f_amount_Shaped a0 = r
 refine pfn_intro ck_5 rfl fun E hG hN hK => ?_
 unfold pc_5
 unfold f_amount_Shaped at h
 refine s_seq (g_reg hG ?_)
 refine s_seq (s_seq (g_reg hG ?_))
 refine s_block (s_seq (g_reg hG ?_))
 refine g_cond rfl hG h (fun _ h => ?_) (fun _ h => ?_)
 · refine s_seq (g_reg hG ?_)
   refine g_ret ?_
   exact g_endT h
 refine s_seq (g_reg hG ?_)
 refine g_cond rfl hG h (fun _ h => ?_) (fun _ h => ?_)
 · refine s_seq (g_reg hG ?_)
   refine g_ret ?_
   exact g_endT h
 refine g_skip ?_
 refine s_seq (g_reg hG ?_)
 refine g_ret ?_
 exact g_endT h

noncomputable def f_catalog_ValidResource (a0 : Resource) : Option (Bool) :=
 (f_catalog_ValidName a0.name).bind fun v1 =>
 some (((v1 && (f_amount_Shaped a0)) && (decide (0 ≤ a0.home))) && (decide (a0.home < 4)))
theorem catalog_ValidResource_ok (a0 : Resource) (r : Bool) (h : f_catalog_ValidResource a0 = some r) : PFn C 60 [.agg (Resource.enc a0)] (.bool r) := by
 refine pfn_intro ck_6 rfl fun E hG hN hK => ?_
 unfold pc_6
 unfold f_catalog_ValidResource at h
 refine s_seq (g_reg hG ?_)
 refine s_seq (g_reg hG ?_)
 obtain ⟨v1, hv1, h⟩ := bind_of h
 refine g_call (fun hg => catalog_ValidName_ok a0.name _ (hv1)) ?_
 refine g_call (fun hg => amount_Shaped_ok a0) ?_
 refine g_ret ?_
 exact g_end h
attribute [local irreducible] f_catalog_ValidResource

noncomputable def f_queue_New (a0 : Resource) : Option (Queue × Int) :=
 (f_catalog_ValidResource a0).bind fun v1 =>
 (if (!v1) = true then
  some ({ Queue.zero with  }, 1)
 else
  some ({ Queue.zero with resource := a0 }, 0))
theorem queue_New_ok (a0 : Resource) (r : Queue × Int) (h : f_queue_New a0 = some r) : PFn C 19 [.agg (Resource.enc a0)] (.tup [.agg (Queue.enc r.1), .int .i64 r.2]) := by
 refine pfn_intro ck_7 rfl fun E hG hN hK => ?_
 unfold pc_7
 unfold f_queue_New at h
 refine s_seq (g_reg hG ?_)
 refine s_seq (s_seq (g_reg hG ?_))
 obtain ⟨v1, hv1, h⟩ := bind_of h
 refine g_call (fun hg => catalog_ValidResource_ok a0 _ (hv1)) ?_
 refine g_cond rfl hG h (fun _ h => ?_) (fun _ h => ?_)
 · refine s_seq (g_reg hG ?_)
   refine g_ret ?_
   exact g_end h
 refine g_skip ?_
 refine s_seq (g_reg hG ?_)
 refine g_ret ?_
 exact g_end h
attribute [local irreducible] f_queue_New

def f_ident_between (a0 : Int) (a1 : Int) (a2 : Int) : Bool :=
 ((decide (a1 ≤ a0)) && (decide (a0 ≤ a2)))
theorem ident_between_ok (a0 : Int) (a1 : Int) (a2 : Int) : PFn C 126 [.int .i64 a0, .int .i64 a1, .int .i64 a2] (.bool (f_ident_between a0 a1 a2)) := by
 generalize h : f_ident_between a0 a1 a2 = r
 refine pfn_intro ck_8 rfl fun E hG hN hK => ?_
 unfold pc_8
 unfold f_ident_between at h
 refine s_seq (g_reg hG ?_)
 refine s_seq (g_reg hG ?_)
 refine g_ret ?_
 exact g_endT h

def f_ident_ValidProc (a0 : Proc) : Bool :=
 (((f_ident_between a0.site 0 3) && (f_ident_between a0.inc 1 99)) && (f_ident_between a0.num 1 999))
theorem ident_ValidProc_ok (a0 : Proc) : PFn C 75 [.agg (Proc.enc a0)] (.bool (f_ident_ValidProc a0)) := by
 generalize h : f_ident_ValidProc a0 = r
 refine pfn_intro ck_9 rfl fun E hG hN hK => ?_
 unfold pc_9
 unfold f_ident_ValidProc at h
 refine s_seq (g_reg hG ?_)
 refine s_seq (g_reg hG ?_)
 refine g_call (fun hg => ident_between_ok a0.site 0 3) ?_
 refine g_call (fun hg => ident_between_ok a0.inc 1 99) ?_
 refine g_call (fun hg => ident_between_ok a0.num 1 999) ?_
 refine g_ret ?_
 exact g_endT h

def f_mode_Valid (a0 : Int) : Bool :=
 ((decide (1 ≤ a0)) && (decide (a0 ≤ 5)))
theorem mode_Valid_ok (a0 : Int) : PFn C 127 [.int .i64 a0] (.bool (f_mode_Valid a0)) := by
 generalize h : f_mode_Valid a0 = r
 refine pfn_intro ck_a rfl fun E hG hN hK => ?_
 unfold pc_a
 unfold f_mode_Valid at h
 refine s_seq (g_reg hG ?_)
 refine s_seq (g_reg hG ?_)
 refine g_ret ?_
 exact g_endT h

def f_amount_Fits (a0 : Resource) (a1 : Amount) : Bool :=
 (if (!(f_amount_Shaped a0)) = true then
  false
 else
  (if (decide (a0.kind = 1)) = true then
   ((f_mode_Valid a1.mode) && (decide (a1.units = 0)))
  else
   (((decide (a1.mode = 0)) && (decide (1 ≤ a1.units))) && (decide (a1.units ≤ a0.units)))))
theorem amount_Fits_ok (a0 : Resource) (a1 : Amount) : PFn C 76 [.agg (Resource.enc a0), .agg (Amount.enc a1)] (.bool (f_amount_Fits a0 a1)) := by
 generalize h : f_amount_Fits a0 a1 = r
 refine pfn_intro ck_b rfl fun E hG hN hK => ?_
 unfold pc_b
 unfold f_amount_Fits at h
 refine s_seq (g_reg hG ?_)
 refine s_seq (s_seq (g_reg hG ?_))
 refine g_call (fun hg => amount_Shaped_ok a0) ?_
 refine g_cond rfl hG h (fun _ h => ?_) (fun _ h => ?_)
 · refine s_seq (g_reg hG ?_)
   refine g_ret ?_
   exact g_endT h
 refine g_skip ?_
 refine s_seq (s_seq (g_reg hG ?_))
 refine g_cond rfl hG h (fun _ h => ?_) (fun _ h => ?_)
 · refine s_seq (g_reg hG ?_)
   refine g_call (fun hg => mode_Valid_ok a1.mode) ?_
   refine g_ret ?_
   exact g_endT h
 refine g_skip ?_
 refine s_seq (g_reg hG ?_)
 refine g_ret ?_
 exact g_endT h

noncomputable def f_ident_compare_k1  (j1 : Unit) : Option (Int) :=
 some 0
@[go_sem] def Jc_k1  (j1 : Unit) : St := ⟨[], [], 0⟩
noncomputable def f_ident_compare_l1 (a0 : Arr Int 3) (a1 : Arr Int 3) (g1 : Int) : Option ((Int) ⊕ ((Unit) ⊕ (Int))) :=
 (if (decide (g1 < 3)) = true then
  gd (0 ≤ g1 ∧ g1 < 3) <|
  gd (0 ≤ g1 ∧ g1 < 3) <|
  (if (decide ((Arr.get a0 g1.toNat 0) < (Arr.get a1 g1.toNat 0))) = true then
   some (.inr (.inr (-1)))
  else
   gd (0 ≤ g1 ∧ g1 < 3) <|
   (if (decide ((Arr.get a1 g1.toNat 0) < (Arr.get a0 g1.toNat 0))) = true then
    some (.inr (.inr 1))
   else
    some (.inl (IntKind.i64.wrap (g1 + 1)))))
 else
  some (.inr (.inl ())))
@[go_sem] def Ic_l1 (a0 : Arr Int 3) (a1 : Arr Int 3) (g1 : Int) : St := ⟨[(3, .ptr 0 0 0), (7, .agg (Arr.enc (eI .i64) a0)), (8, .int .i64 g1)], [(0, ⟨false, 3, (Arr.enc (eI .i64) (Arr.rep 3 0)), [Arr.enc (eI .i64) a1]⟩)], 1⟩
noncomputable def f_ident_compare (a0 : Arr Int 3) (a1 : Arr Int 3) : Option (Int) :=
 (loopO (f_ident_compare_l1 a0 a1) 0).bind (fun | .inl z => f_ident_compare_k1 z | .inr z => some z)
theorem ident_compare_ok (a0 : Arr Int 3) (a1 : Arr Int 3) (r : Int) (h : f_ident_compare a0 a1 = some r) : PFn C 145 [.agg (Arr.enc (eI .i64) a0), .agg (Arr.enc (eI .i64) a1)] (.int .i64 r) := by
 refine pfn_intro ck_c rfl fun E hG hN hK => ?_
 unfold pc_c
 unfold f_ident_compare at h
 refine s_seq (g_reg hG ?_)
 refine s_seq (s_seq (g_reg hG ?_))
 refine s_blockJ (Jc_k1) (fun v => f_ident_compare_k1 v = some r) ?_ ?_
 · intro j1 h
   unfold f_ident_compare_k1 at h
   refine g_st ?_
   refine s_seq (g_reg hG ?_)
   refine g_ret ?_
   exact g_end h
 refine g_loop (Ic_l1 a0 a1) hK [(0, 1)] h (fun x_l1 h g1 y_l1 h_l1 hx_l1 => ?_)
 unfold f_ident_compare_l1 at h_l1
 refine g_st ?_
 refine s_seq (g_reg hG ?_)
 refine s_seq ?_
 refine g_cond rfl hG h_l1 (fun _ h_l1 => ?_) (fun _ h_l1 => ?_)
 · refine g_skip ?_
   refine s_seq (s_block (s_seq ?_))
   obtain ⟨hb3, h_l1⟩ := gd_some h_l1
   refine g_reg hG ?_
   refine s_seq (s_seq ?_)
   obtain ⟨hb2, h_l1⟩ := gd_some h_l1
   refine g_reg hG ?_
   refine g_cond rfl hG h_l1 (fun _ h_l1 => ?_) (fun _ h_l1 => ?_)
   · refine s_seq (g_reg hG ?_)
     refine g_ret ?_
     obtain rfl := Option.some.inj h_l1
     have hx := hx_l1 _ rfl
     subst hx
     try dsimp only at h
     exact g_end h
   refine g_skip ?_
   refine s_seq ?_
   obtain ⟨hb1, h_l1⟩ := gd_some h_l1
   refine g_reg hG ?_
   refine g_cond rfl hG h_l1 (fun _ h_l1 => ?_) (fun _ h_l1 => ?_)
   · refine s_seq (g_reg hG ?_)
     refine g_ret ?_
     obtain rfl := Option.some.inj h_l1
     have hx := hx_l1 _ rfl
     subst hx
     try dsimp only at h
     exact g_end h
   refine g_skip ?_
   refine g_reg hG ?_
   exact g_next hK [(0, 0)] h_l1
 refine g_exit ?_
 obtain rfl := Option.some.inj h_l1
 have hx := hx_l1 _ rfl
 subst hx
 try dsimp only at h
 exact g_join hK [] () (by exact h)
attribute [local irreducible] f_ident_compare

noncomputable def f_ident_CompareProc (a0 : Proc) (a1 : Proc) : Option (Int) :=
 (f_ident_compare (⟨[a0.site, a0.inc, a0.num], rfl⟩ : Arr Int 3) (⟨[a1.site, a1.inc, a1.num], rfl⟩ : Arr Int 3)).bind fun v1 =>
 some v1
theorem ident_CompareProc_ok (a0 : Proc) (a1 : Proc) (r : Int) (h : f_ident_CompareProc a0 a1 = some r) : PFn C 119 [.agg (Proc.enc a0), .agg (Proc.enc a1)] (.int .i64 r) := by
 refine pfn_intro ck_d rfl fun E hG hN hK => ?_
 unfold pc_d
 unfold f_ident_CompareProc at h
 refine s_seq (g_reg hG ?_)
 refine s_seq (g_reg hG ?_)
 obtain ⟨v1, hv1, h⟩ := bind_of h
 refine g_call (fun hg => ident_compare_ok (⟨[a0.site, a0.inc, a0.num], rfl⟩ : Arr Int 3) (⟨[a1.site, a1.inc, a1.num], rfl⟩ : Arr Int 3) _ (hv1)) ?_
 refine g_ret ?_
 exact g_end h
attribute [local irreducible] f_ident_CompareProc

def f_amount_Zero (a0 : Amount) : Bool :=
 (decide (a0 = { Amount.zero with  }))
theorem amount_Zero_ok (a0 : Amount) : PFn C 79 [.agg (Amount.enc a0)] (.bool (f_amount_Zero a0)) := by
 generalize h : f_amount_Zero a0 = r
 refine pfn_intro ck_e rfl fun E hG hN hK => ?_
 unfold pc_e
 unfold f_amount_Zero at h
 refine s_seq (g_reg hG ?_)
 refine s_seq (g_reg hG ?_)
 refine g_ret ?_
 exact g_endT h

def f_amount_permitted (a0 : Resource) (a1 : Amount) : Bool :=
 ((f_amount_Shaped a0) && ((f_amount_Zero a1) || (f_amount_Fits a0 a1)))
theorem amount_permitted_ok (a0 : Resource) (a1 : Amount) : PFn C 128 [.agg (Resource.enc a0), .agg (Amount.enc a1)] (.bool (f_amount_permitted a0 a1)) := by
 generalize h : f_amount_permitted a0 a1 = r
 refine pfn_intro ck_f rfl fun E hG hN hK => ?_
 unfold pc_f
 unfold f_amount_permitted at h
 refine s_seq (g_reg hG ?_)
 refine s_seq (g_reg hG ?_)
 refine g_call (fun hg => amount_Shaped_ok a0) ?_
 refine g_call (fun hg => amount_Zero_ok a1) ?_
 refine g_call (fun hg => amount_Fits_ok a0 a1) ?_
 refine g_ret ?_
 exact g_endT h

noncomputable def f_mode_Compatible (a0 : Int) (a1 : Int) : Option (Bool) :=
 gd (((f_mode_Valid a0) && (f_mode_Valid a1)) = true → 0 ≤ (IntKind.i64.wrap (a0 - 1)) ∧ (IntKind.i64.wrap (a0 - 1)) < 5) <|
 gd (((f_mode_Valid a0) && (f_mode_Valid a1)) = true → 0 ≤ (IntKind.i64.wrap (a1 - 1)) ∧ (IntKind.i64.wrap (a1 - 1)) < 5) <|
 some (((f_mode_Valid a0) && (f_mode_Valid a1)) && (Arr.get (Arr.get glob_0 ((IntKind.i64.wrap (a0 - 1)).toNat) (Arr.rep 5 false)) ((IntKind.i64.wrap (a1 - 1)).toNat) false))
theorem mode_Compatible_ok (a0 : Int) (a1 : Int) (r : Bool) (h : f_mode_Compatible a0 a1 = some r) : PFn C 146 [.int .i64 a0, .int .i64 a1] (.bool r) := by
 refine pfn_intro ck_g rfl fun E hG hN hK => ?_
 unfold pc_g
 unfold f_mode_Compatible at h
 refine s_seq (g_reg hG ?_)
 refine s_seq (g_reg hG ?_)
 refine g_call (fun hg => mode_Valid_ok a0) ?_
 obtain ⟨hb1, h⟩ := gd_some h
 obtain ⟨hb2, h⟩ := gd_some h
 refine g_call (fun hg => mode_Valid_ok a1) ?_
 refine g_ret ?_
 exact g_end h
attribute [local irreducible] f_mode_Compatible

noncomputable def f_amount_Compatible_k1  (j1 : Bool) : Option (Bool) :=
 some j1
@[go_sem] def Jh_k1  (j1 : Bool) : St := ⟨[(5, .bool j1)], [], 0⟩
noncomputable def f_amount_Compatible_k2 (a1 : List Amount) (g1 : Int × Int × (Arr Bool 6)) (j2 : Unit) : Option ((Int × Int × (Arr Bool 6)) ⊕ ((Bool))) :=
 gd (0 ≤ (a1.getD g1.2.1.toNat Amount.zero).mode ∧ (a1.getD g1.2.1.toNat Amount.zero).mode < 6) <|
 some (.inl ((IntKind.i64.wrap (g1.1 + (a1.getD g1.2.1.toNat Amount.zero).units)), (IntKind.i64.wrap (g1.2.1 + 1)), (Arr.put g1.2.2 (((a1.getD g1.2.1.toNat Amount.zero).mode).toNat) true)))
@[go_sem] def Jh_k2 (a0 : Resource) (a1 : List Amount) (g1 : Int × Int × (Arr Bool 6)) (j2 : Unit) : St := ⟨[(2, .ptr 0 0 0), (5, .bool true), (6, .ptr 1 0 0), (7, .int .i64 (IntKind.i64.wrap (g1.1 + (a1.getD g1.2.1.toNat Amount.zero).units))), (9, .ptr 2 0 0), (15, .sl (a1.map Amount.enc)), (16, .int .i64 (a1.length : Int)), (17, .int .i64 g1.2.1)], [(0, ⟨false, 4, (Resource.enc Resource.zero), [Resource.enc a0]⟩), (1, ⟨false, 6, (Arr.enc eB (Arr.rep 6 false)), [Arr.enc eB g1.2.2]⟩), (2, ⟨false, 2, (Amount.enc Amount.zero), [Amount.enc (a1.getD g1.2.1.toNat Amount.zero)]⟩)], 3⟩
noncomputable def f_amount_Compatible_l2 (a1 : List Amount) (g1 : Int × Int × (Arr Bool 6)) (g2 : Int) : Option ((Int) ⊕ ((Unit) ⊕ (Bool))) :=
 (if (decide (g2 < 6)) = true then
  gd (0 ≤ g2 ∧ g2 < 6) <|
  ((if (Arr.get g1.2.2 g2.toNat false) = true then f_mode_Compatible g2 ((a1.getD g1.2.1.toNat Amount.zero).mode) else some (false))).bind fun v1 =>
  (if ((Arr.get g1.2.2 g2.toNat false) && (!v1)) = true then
   some (.inr (.inr false))
  else
   some (.inl (IntKind.i64.wrap (g2 + 1))))
 else
  some (.inr (.inl ())))
@[go_sem] def Ih_l2 (a0 : Resource) (a1 : List Amount) (g1 : Int × Int × (Arr Bool 6)) (g2 : Int) : St := ⟨[(2, .ptr 0 0 0), (5, .bool true), (6, .ptr 1 0 0), (7, .int .i64 (IntKind.i64.wrap (g1.1 + (a1.getD g1.2.1.toNat Amount.zero).units))), (9, .ptr 2 0 0), (15, .sl (a1.map Amount.enc)), (16, .int .i64 (a1.length : Int)), (17, .int .i64 g1.2.1), (41, .agg (Arr.enc eB g1.2.2)), (42, .int .i64 g2)], [(0, ⟨false, 4, (Resource.enc Resource.zero), [Resource.enc a0]⟩), (1, ⟨false, 6, (Arr.enc eB (Arr.rep 6 false)), [Arr.enc eB g1.2.2]⟩), (2, ⟨false, 2, (Amount.enc Amount.zero), [Amount.enc (a1.getD g1.2.1.toNat Amount.zero)]⟩)], 3⟩
noncomputable def f_amount_Compatible_l1 (a0 : Resource) (a1 : List Amount) (g1 : Int × Int × (Arr Bool 6)) : Option ((Int × Int × (Arr Bool 6)) ⊕ ((Bool))) :=
 (if (decide (g1.2.1 < (a1.length : Int))) = true then
  gd (0 ≤ g1.2.1 ∧ g1.2.1 < (a1.length : Int)) <|
  (if ((!(f_amount_permitted a0 (a1.getD g1.2.1.toNat Amount.zero))) || (decide (a0.units < (IntKind.i64.wrap (g1.1 + (a1.getD g1.2.1.toNat Amount.zero).units))))) = true then
   some (.inr false)
  else
   (if (decide ((a1.getD g1.2.1.toNat Amount.zero).mode = 0)) = true then
    some (.inl ((IntKind.i64.wrap (g1.1 + (a1.getD g1.2.1.toNat Amount.zero).units)), (IntKind.i64.wrap (g1.2.1 + 1)), g1.2.2))
   else
    (loopO (f_amount_Compatible_l2 a1 g1) 0).bind (fun | .inl z => f_amount_Compatible_k2 a1 g1 z | .inr z => some (.inr z))))
 else
  some (.inr true))
@[go_sem] def Ih_l1 (a0 : Resource) (a1 : List Amount) (g1 : Int × Int × (Arr Bool 6)) : St := ⟨[(2, .ptr 0 0 0), (5, .bool true), (6, .ptr 1 0 0), (7, .int .i64 g1.1), (15, .sl (a1.map Amount.enc)), (16, .int .i64 (a1.length : Int)), (17, .int .i64 g1.2.1)], [(0, ⟨false, 4, (Resource.enc Resource.zero), [Resource.enc a0]⟩), (1, ⟨false, 6, (Arr.enc eB (Arr.rep 6 false)), [Arr.enc eB g1.2.2]⟩)], 2⟩
noncomputable def f_amount_Compatible (a0 : Resource) (a1 : List Amount) : Option (Bool) :=
 (if (!(f_amount_Shaped a0)) = true then
  some false
 else
  (loopO (f_amount_Compatible_l1 a0 a1) (0, 0, (Arr.rep 6 false))).bind (fun z => f_amount_Compatible_k1 z))
theorem amount_Compatible_ok (a0 : Resource) (a1 : List Amount) (r : Bool) (h : f_amount_Compatible a0 a1 = some r) : PFn C 120 [.agg (Resource.enc a0), .sl (a1.map Amount.enc)] (.bool r) := by
 refine pfn_intro ck_h rfl fun E hG hN hK => ?_
 unfold pc_h
 unfold f_amount_Compatible at h
 refine s_seq (g_reg hG ?_)
 refine aw_scope ?_
 refine s_seq (s_seq (g_reg hG ?_))
 refine g_call (fun hg => amount_Shaped_ok a0) ?_
 refine g_cond rfl hG h (fun _ h => ?_) (fun _ h => ?_)
 · refine s_seq (g_reg hG ?_)
   refine g_ret ?_
   exact g_end h
 refine g_skip ?_
 refine s_seq (g_reg hG ?_)
 refine s_seq (g_reg hG ?_)
 refine s_seq (g_reg hG ?_)
 refine s_seq ?_
 refine g_label ?_
 refine s_seq (s_seq (g_reg hG ?_))
 refine s_blockJ (Jh_k1) (fun v => f_amount_Compatible_k1 v = some r) ?_ ?_
 · intro j1 h
   unfold f_amount_Compatible_k1 at h
   refine g_st ?_
   refine s_seq (g_reg hG ?_)
   refine g_ret ?_
   exact g_end h
 refine g_loop (Ih_l1 a0 a1) hK [(0, 0), (1, 1)] h (fun x_l1 h g1 y_l1 h_l1 hx_l1 => ?_)
 unfold f_amount_Compatible_l1 at h_l1
 refine g_st ?_
 refine s_seq (g_reg hG ?_)
 refine s_seq ?_
 refine g_cond rfl hG h_l1 (fun _ h_l1 => ?_) (fun _ h_l1 => ?_)
 · refine g_skip ?_
   refine s_seq (s_block (s_seq ?_))
   obtain ⟨hb3, h_l1⟩ := gd_some h_l1
   refine g_reg hG ?_
   refine s_seq (s_seq (g_reg hG ?_))
   refine g_call (fun hg => amount_permitted_ok a0 (a1.getD g1.2.1.toNat Amount.zero)) ?_
   refine g_cond rfl hG h_l1 (fun _ h_l1 => ?_) (fun _ h_l1 => ?_)
   · refine s_seq (g_reg hG ?_)
     refine g_exit ?_
     obtain rfl := Option.some.inj h_l1
     have hx := hx_l1 _ rfl
     subst hx
     try dsimp only at h
     exact g_join hK [] false (by exact h)
   refine g_skip ?_
   refine s_seq (g_reg hG ?_)
   refine s_seq (s_seq (g_reg hG ?_))
   refine g_cond rfl hG h_l1 (fun _ h_l1 => ?_) (fun _ h_l1 => ?_)
   · refine g_exit ?_
     refine g_reg hG ?_
     exact g_next hK [(0, 0), (1, 1)] h_l1
   refine g_skip ?_
   refine s_seq (s_seq (g_reg hG ?_))
   refine s_blockJ (Jh_k2 a0 a1 g1) (fun v => f_amount_Compatible_k2 a1 g1 v = some y_l1) ?_ ?_
   · intro j2 h_l1
     unfold f_amount_Compatible_k2 at h_l1
     refine g_st ?_
     obtain ⟨hb1, h_l1⟩ := gd_some h_l1
     refine g_reg hG ?_
     refine g_reg hG ?_
     exact g_next hK [(0, 0), (1, 1)] h_l1
   refine g_loop (Ih_l2 a0 a1 g1) hK [(0, 0), (1, 1), (2, 2)] h_l1 (fun x_l2 h_l1 g2 y_l2 h_l2 hx_l2 => ?_)
   unfold f_amount_Compatible_l2 at h_l2
   refine g_st ?_
   refine s_seq (g_reg hG ?_)
   refine s_seq ?_
   refine g_cond rfl hG h_l2 (fun _ h_l2 => ?_) (fun _ h_l2 => ?_)
   · refine g_skip ?_
     refine s_seq (s_block (s_seq ?_))
     obtain ⟨hb2, h_l2⟩ := gd_some h_l2
     refine g_reg hG ?_
     refine s_seq (g_reg hG ?_)
     obtain ⟨v1, hv1, h_l2⟩ := bind_of h_l2
     refine g_call (fun hg => mode_Compatible_ok g2 ((a1.getD g1.2.1.toNat Amount.zero).mode) _ (ite_t hg hv1)) ?_
     refine g_cond rfl hG h_l2 (fun _ h_l2 => ?_) (fun _ h_l2 => ?_)
     · refine s_seq (g_reg hG ?_)
       refine g_exit ?_
       obtain rfl := Option.some.inj h_l2
       have hx := hx_l2 _ rfl
       subst hx
       try dsimp only at h_l1
       obtain rfl := Option.some.inj h_l1
       have hx := hx_l1 _ rfl
       subst hx
       try dsimp only at h
       exact g_join hK [] false (by exact h)
     refine g_skip ?_
     refine g_reg hG ?_
     exact g_next hK [(0, 0), (1, 1), (2, 2)] h_l2
   refine g_exit ?_
   obtain rfl := Option.some.inj h_l2
   have hx := hx_l2 _ rfl
   subst hx
   try dsimp only at h_l1
   exact g_join hK [(0, 0), (1, 1), (2, 2)] () (by exact h_l1)
 refine g_exit ?_
 obtain rfl := Option.some.inj h_l1
 have hx := hx_l1 _ rfl
 subst hx
 try dsimp only at h
 exact g_join hK [] true (by exact h)
attribute [local irreducible] f_amount_Compatible

noncomputable def f_holders_Valid_k1 (a0 : Resource) (j1 : (List Amount)) : Option (Bool) :=
 (f_amount_Compatible a0 j1).bind fun v1 =>
 some v1
@[go_sem] def Ji_k1 (a0 : Resource) (j1 : (List Amount)) : St := ⟨[(2, .ptr 0 0 0), (5, .own 1 0 j1.length)], [(0, ⟨false, 4, (Resource.enc Resource.zero), [Resource.enc a0]⟩), (1, ⟨false, 2, (Amount.enc Amount.zero), j1.map Amount.enc⟩)], 2⟩
noncomputable def f_holders_Valid_l1 (a0 : Resource) (a1 : List Hold) (g1 : Int × (List Amount)) : Option ((Int × (List Amount)) ⊕ (((List Amount)) ⊕ (Bool))) :=
 (if (decide (g1.1 < (a1.length : Int))) = true then
  gd (0 ≤ g1.1 ∧ g1.1 < (a1.length : Int)) <|
  (if ((!(f_ident_ValidProc ((a1.getD g1.1.toNat Hold.zero).proc))) || (!(f_amount_Fits a0 ((a1.getD g1.1.toNat Hold.zero).amount)))) = true then
   some (.inr (.inr false))
  else
   gd ((decide (0 < g1.1)) = true → 0 ≤ (IntKind.i64.wrap (g1.1 - 1)) ∧ (IntKind.i64.wrap (g1.1 - 1)) < (a1.length : Int)) <|
   ((if (decide (0 < g1.1)) = true then f_ident_CompareProc ((a1.getD ((IntKind.i64.wrap (g1.1 - 1)).toNat) Hold.zero).proc) ((a1.getD g1.1.toNat Hold.zero).proc) else some (0))).bind fun v2 =>
   (if ((decide (0 < g1.1)) && (decide (0 ≤ v2))) = true then
    some (.inr (.inr false))
   else
    gd (g1.2.length + 1 ≤ 4294967296) <|
    some (.inl ((IntKind.i64.wrap (g1.1 + 1)), (g1.2 ++ [(a1.getD g1.1.toNat Hold.zero).amount])))))
 else
  some (.inr (.inl g1.2)))
@[go_sem] def Ii_l1 (a0 : Resource) (a1 : List Hold) (g1 : Int × (List Amount)) : St := ⟨[(1, .sl (a1.map Hold.enc)), (2, .ptr 0 0 0), (5, .own 1 0 g1.2.length), (16, .sl (a1.map Hold.enc)), (17, .int .i64 (a1.length : Int)), (18, .int .i64 g1.1)], [(0, ⟨false, 4, (Resource.enc Resource.zero), [Resource.enc a0]⟩), (1, ⟨false, 2, (Amount.enc Amount.zero), g1.2.map Amount.enc⟩)], 2⟩
noncomputable def f_holders_Valid (a0 : Resource) (a1 : List Hold) : Option (Bool) :=
 (if ((!(f_amount_Shaped a0)) || (decide (8 < (a1.length : Int)))) = true then
  some false
 else
  (loopO (f_holders_Valid_l1 a0 a1) (0, [])).bind (fun | .inl z => f_holders_Valid_k1 a0 z | .inr z => some z))
theorem holders_Valid_ok (a0 : Resource) (a1 : List Hold) (r : Bool) (h : f_holders_Valid a0 a1 = some r) : PFn C 62 [.agg (Resource.enc a0), .sl (a1.map Hold.enc)] (.bool r) := by
 refine pfn_intro ck_i rfl fun E hG hN hK => ?_
 unfold pc_i
 unfold f_holders_Valid at h
 refine s_seq (g_reg hG ?_)
 refine s_seq (s_seq (g_reg hG ?_))
 refine g_call (fun hg => amount_Shaped_ok a0) ?_
 refine g_cond rfl hG h (fun _ h => ?_) (fun _ h => ?_)
 · refine s_seq (g_reg hG ?_)
   refine g_ret ?_
   exact g_end h
 refine g_skip ?_
 refine s_seq (g_reg hG ?_)
 refine s_seq (s_seq (g_reg hG ?_))
 refine s_blockJ (Ji_k1 a0) (fun v => f_holders_Valid_k1 a0 v = some r) ?_ ?_
 · intro j1 h
   unfold f_holders_Valid_k1 at h
   refine g_st ?_
   refine s_seq (g_reg hG ?_)
   obtain ⟨v1, hv1, h⟩ := bind_of h
   refine g_call (fun hg => amount_Compatible_ok a0 j1 _ (hv1)) ?_
   refine g_ret ?_
   exact g_end h
 refine g_loop (Ii_l1 a0 a1) hK [(0, 0), (1, 1)] h (fun x_l1 h g1 y_l1 h_l1 hx_l1 => ?_)
 unfold f_holders_Valid_l1 at h_l1
 refine g_st ?_
 refine s_seq (g_reg hG ?_)
 refine s_seq ?_
 refine g_cond rfl hG h_l1 (fun _ h_l1 => ?_) (fun _ h_l1 => ?_)
 · refine g_skip ?_
   refine s_seq (s_block (s_seq ?_))
   obtain ⟨hb3, h_l1⟩ := gd_some h_l1
   refine g_reg hG ?_
   refine s_seq (s_seq (g_reg hG ?_))
   refine g_call (fun hg => ident_ValidProc_ok ((a1.getD g1.1.toNat Hold.zero).proc)) ?_
   refine g_call (fun hg => amount_Fits_ok a0 ((a1.getD g1.1.toNat Hold.zero).amount)) ?_
   refine g_cond rfl hG h_l1 (fun _ h_l1 => ?_) (fun _ h_l1 => ?_)
   · refine s_seq (g_reg hG ?_)
     refine g_ret ?_
     obtain rfl := Option.some.inj h_l1
     have hx := hx_l1 _ rfl
     subst hx
     try dsimp only at h
     exact g_end h
   refine g_skip ?_
   refine s_seq (s_seq ?_)
   obtain ⟨hb2, h_l1⟩ := gd_some h_l1
   refine g_regd C_mixed hG ?_
   obtain ⟨v2, hv2, h_l1⟩ := bind_of h_l1
   refine g_calld (fun hg => ident_CompareProc_ok ((a1.getD ((IntKind.i64.wrap (g1.1 - 1)).toNat) Hold.zero).proc) ((a1.getD g1.1.toNat Hold.zero).proc) _ (ite_t hg hv2)) ?_
   refine g_cond rfl hG h_l1 (fun _ h_l1 => ?_) (fun _ h_l1 => ?_)
   · refine s_seq (g_reg hG ?_)
     refine g_ret ?_
     obtain rfl := Option.some.inj h_l1
     have hx := hx_l1 _ rfl
     subst hx
     try dsimp only at h
     exact g_end h
   refine g_skip ?_
   obtain ⟨hb1, h_l1⟩ := gd_some h_l1
   refine g_reg hG ?_
   refine g_reg hG ?_
   exact g_next hK [(0, 0), (1, 3)] h_l1
 refine g_exit ?_
 obtain rfl := Option.some.inj h_l1
 have hx := hx_l1 _ rfl
 subst hx
 try dsimp only at h
 exact g_join hK [(0, 0), (1, 1)] g1.2 (by exact h)
attribute [local irreducible] f_holders_Valid

noncomputable def f_holders_Get_k1  (j1 : Unit) : Option (Amount) :=
 some ({ Amount.zero with  })
@[go_sem] def Jj_k1  (j1 : Unit) : St := ⟨[(4, .ptr 0 0 0)], [(0, ⟨false, 2, (Amount.enc Amount.zero), [Amount.enc Amount.zero]⟩)], 1⟩
noncomputable def f_holders_Get_l1 (a0 : List Hold) (a1 : Proc) (g1 : Int) : Option ((Int) ⊕ ((Unit) ⊕ (Amount))) :=
 (if (decide (g1 < (a0.length : Int))) = true then
  gd (0 ≤ g1 ∧ g1 < (a0.length : Int)) <|
  (if (decide ((a0.getD g1.toNat Hold.zero).proc = a1)) = true then
   some (.inr (.inr ((a0.getD g1.toNat Hold.zero).amount)))
  else
   some (.inl (IntKind.i64.wrap (g1 + 1))))
 else
  some (.inr (.inl ())))
@[go_sem] def Ij_l1 (a0 : List Hold) (a1 : Proc) (g1 : Int) : St := ⟨[(3, .ptr 0 0 0), (4, .ptr 1 0 0), (7, .sl (a0.map Hold.enc)), (8, .int .i64 (a0.length : Int)), (9, .int .i64 g1)], [(0, ⟨false, 3, (Proc.enc Proc.zero), [Proc.enc a1]⟩), (1, ⟨false, 2, (Amount.enc Amount.zero), [Amount.enc Amount.zero]⟩)], 2⟩
noncomputable def f_holders_Get (a0 : List Hold) (a1 : Proc) : Option (Amount) :=
 (loopO (f_holders_Get_l1 a0 a1) 0).bind (fun | .inl z => f_holders_Get_k1 z | .inr z => some z)
theorem holders_Get_ok (a0 : List Hold) (a1 : Proc) (r : Amount) (h : f_holders_Get a0 a1 = some r) : PFn C 98 [.sl (a0.map Hold.enc), .agg (Proc.enc a1)] (.agg (Amount.enc r)) := by
 refine pfn_intro ck_j rfl fun E hG hN hK => ?_
 unfold pc_j
 unfold f_holders_Get at h
 refine s_seq (g_reg hG ?_)
 refine s_seq (s_seq (g_reg hG ?_))
 refine s_blockJ (Jj_k1) (fun v => f_holders_Get_k1 v = some r) ?_ ?_
 · intro j1 h
   unfold f_holders_Get_k1 at h
   refine g_st ?_
   refine s_seq (g_reg hG ?_)
   refine g_ret ?_
   exact g_end h
 refine g_loop (Ij_l1 a0 a1) hK [(0, 0), (1, 1)] h (fun x_l1 h g1 y_l1 h_l1 hx_l1 => ?_)
 unfold f_holders_Get_l1 at h_l1
 refine g_st ?_
 refine s_seq (g_reg hG ?_)
 refine s_seq ?_
 refine g_cond rfl hG h_l1 (fun _ h_l1 => ?_) (fun _ h_l1 => ?_)
 · refine g_skip ?_
   refine s_seq (s_block (s_seq ?_))
   obtain ⟨hb1, h_l1⟩ := gd_some h_l1
   refine g_reg hG ?_
   refine s_seq (g_reg hG ?_)
   refine g_cond rfl hG h_l1 (fun _ h_l1 => ?_) (fun _ h_l1 => ?_)
   · refine s_seq (g_reg hG ?_)
     refine g_ret ?_
     obtain rfl := Option.some.inj h_l1
     have hx := hx_l1 _ rfl
     subst hx
     try dsimp only at h
     exact g_end h
   refine g_skip ?_
   refine g_reg hG ?_
   exact g_next hK [(0, 0), (1, 1)] h_l1
 refine g_exit ?_
 obtain rfl := Option.some.inj h_l1
 have hx := hx_l1 _ rfl
 subst hx
 try dsimp only at h
 exact g_join hK [(0, 1)] () (by exact h)
attribute [local irreducible] f_holders_Get

noncomputable def f_queue_Held (a0 : Queue) (a1 : Proc) : Option (Amount) :=
 (f_holders_Get a0.holds a1).bind fun v1 =>
 some v1
theorem queue_Held_ok (a0 : Queue) (a1 : Proc) (r : Amount) (h : f_queue_Held a0 a1 = some r) : PFn C 37 [.agg (Queue.enc a0), .agg (Proc.enc a1)] (.agg (Amount.enc r)) := by
 refine pfn_intro ck_k rfl fun E hG hN hK => ?_
 unfold pc_k
 unfold f_queue_Held at h
 refine s_seq (g_reg hG ?_)
 refine s_seq (g_reg hG ?_)
 obtain ⟨v1, hv1, h⟩ := bind_of h
 refine g_call (fun hg => holders_Get_ok a0.holds a1 _ (hv1)) ?_
 refine g_ret ?_
 exact g_end h
attribute [local irreducible] f_queue_Held

noncomputable def f_line_Find_k1  (j1 : Unit) : Option (Int) :=
 some (-1)
@[go_sem] def Jl_k1  (j1 : Unit) : St := ⟨[], [], 0⟩
noncomputable def f_line_Find_l1 (a0 : List Wait) (a1 : Proc) (g1 : Int) : Option ((Int) ⊕ ((Unit) ⊕ (Int))) :=
 (if (decide (g1 < (a0.length : Int))) = true then
  gd (0 ≤ g1 ∧ g1 < (a0.length : Int)) <|
  (if (decide ((a0.getD g1.toNat Wait.zero).proc = a1)) = true then
   some (.inr (.inr g1))
  else
   some (.inl (IntKind.i64.wrap (g1 + 1))))
 else
  some (.inr (.inl ())))
@[go_sem] def Il_l1 (a0 : List Wait) (a1 : Proc) (g1 : Int) : St := ⟨[(3, .ptr 0 0 0), (7, .sl (a0.map Wait.enc)), (8, .int .i64 (a0.length : Int)), (9, .int .i64 g1)], [(0, ⟨false, 3, (Proc.enc Proc.zero), [Proc.enc a1]⟩)], 1⟩
noncomputable def f_line_Find (a0 : List Wait) (a1 : Proc) : Option (Int) :=
 (loopO (f_line_Find_l1 a0 a1) 0).bind (fun | .inl z => f_line_Find_k1 z | .inr z => some z)
theorem line_Find_ok (a0 : List Wait) (a1 : Proc) (r : Int) (h : f_line_Find a0 a1 = some r) : PFn C 109 [.sl (a0.map Wait.enc), .agg (Proc.enc a1)] (.int .i64 r) := by
 refine pfn_intro ck_l rfl fun E hG hN hK => ?_
 unfold pc_l
 unfold f_line_Find at h
 refine s_seq (g_reg hG ?_)
 refine s_seq (s_seq (g_reg hG ?_))
 refine s_blockJ (Jl_k1) (fun v => f_line_Find_k1 v = some r) ?_ ?_
 · intro j1 h
   unfold f_line_Find_k1 at h
   refine g_st ?_
   refine s_seq (g_reg hG ?_)
   refine g_ret ?_
   exact g_end h
 refine g_loop (Il_l1 a0 a1) hK [(0, 0)] h (fun x_l1 h g1 y_l1 h_l1 hx_l1 => ?_)
 unfold f_line_Find_l1 at h_l1
 refine g_st ?_
 refine s_seq (g_reg hG ?_)
 refine s_seq ?_
 refine g_cond rfl hG h_l1 (fun _ h_l1 => ?_) (fun _ h_l1 => ?_)
 · refine g_skip ?_
   refine s_seq (s_block (s_seq ?_))
   obtain ⟨hb1, h_l1⟩ := gd_some h_l1
   refine g_reg hG ?_
   refine s_seq (g_reg hG ?_)
   refine g_cond rfl hG h_l1 (fun _ h_l1 => ?_) (fun _ h_l1 => ?_)
   · refine s_seq (g_reg hG ?_)
     refine g_ret ?_
     obtain rfl := Option.some.inj h_l1
     have hx := hx_l1 _ rfl
     subst hx
     try dsimp only at h
     exact g_end h
   refine g_skip ?_
   refine g_reg hG ?_
   exact g_next hK [(0, 0)] h_l1
 refine g_exit ?_
 obtain rfl := Option.some.inj h_l1
 have hx := hx_l1 _ rfl
 subst hx
 try dsimp only at h
 exact g_join hK [] () (by exact h)
attribute [local irreducible] f_line_Find

def f_mode_covered (a0 : Int) : (Arr Bool 6) :=
 (if (decide (a0 = 5)) = true then
  (Arr.put (Arr.put (Arr.put (Arr.put (Arr.put (Arr.rep 6 false) 5 true) 4 true) 3 true) 2 true) 1 true)
 else
  (if (decide (a0 = 4)) = true then
   (Arr.put (Arr.put (Arr.put (Arr.put (Arr.rep 6 false) 4 true) 3 true) 2 true) 1 true)
  else
   (if (decide (a0 = 2)) = true then
    (Arr.put (Arr.put (Arr.rep 6 false) 2 true) 1 true)
   else
    (if (decide (a0 = 1)) = true then
     (Arr.put (Arr.rep 6 false) 1 true)
    else
     (if (decide (a0 = 3)) = true then
      (Arr.put (Arr.put (Arr.rep 6 false) 3 true) 1 true)
     else
      (Arr.rep 6 false))))))
theorem mode_covered_ok (a0 : Int) : PFn C 149 [.int .i64 a0] (.agg (Arr.enc eB (f_mode_covered a0))) := by
 generalize h : f_mode_covered a0 = r
 refine pfn_intro ck_m rfl fun E hG hN hK => ?_
 unfold pc_m
 unfold f_mode_covered at h
 refine s_seq (g_reg hG ?_)
 refine s_seq (g_reg hG ?_)
 refine s_seq (s_seq (g_reg hG ?_))
 refine s_block (s_seq (s_block (s_seq (s_block (s_seq (s_block (s_seq (s_block (s_seq (s_block (s_seq (s_seq (s_seq (g_reg hG ?_))))))))))))))
 refine g_cond rfl hG h (fun _ h => ?_) (fun _ h => ?_)
 · refine g_exit ?_
   refine g_reg hG ?_
   refine s_seq (g_reg hG ?_)
   refine g_reg hG ?_
   refine g_reg hG ?_
   refine s_seq (g_reg hG ?_)
   refine g_exit ?_
   refine s_seq (g_reg hG ?_)
   refine g_ret ?_
   exact g_endT h
 refine g_skip ?_
 refine s_seq (s_seq (g_reg hG ?_))
 refine g_cond rfl hG h (fun _ h => ?_) (fun _ h => ?_)
 · refine g_exit ?_
   refine s_seq (g_reg hG ?_)
   refine g_reg hG ?_
   refine g_reg hG ?_
   refine s_seq (g_reg hG ?_)
   refine g_exit ?_
   refine s_seq (g_reg hG ?_)
   refine g_ret ?_
   exact g_endT h
 refine g_skip ?_
 refine s_seq (s_seq (g_reg hG ?_))
 refine g_cond rfl hG h (fun _ h => ?_) (fun _ h => ?_)
 · refine g_exit ?_
   refine g_reg hG ?_
   refine s_seq (g_reg hG ?_)
   refine g_exit ?_
   refine s_seq (g_reg hG ?_)
   refine g_ret ?_
   exact g_endT h
 refine g_skip ?_
 refine s_seq (s_seq (g_reg hG ?_))
 refine g_cond rfl hG h (fun _ h => ?_) (fun _ h => ?_)
 · refine g_exit ?_
   refine s_seq (g_reg hG ?_)
   refine g_exit ?_
   refine s_seq (g_reg hG ?_)
   refine g_ret ?_
   exact g_endT h
 refine g_skip ?_
 refine s_seq (g_reg hG ?_)
 refine g_cond rfl hG h (fun _ h => ?_) (fun _ h => ?_)
 · refine g_exit ?_
   refine s_seq (s_seq (g_reg hG ?_))
   refine g_reg hG ?_
   refine g_exit ?_
   refine s_seq (g_reg hG ?_)
   refine g_ret ?_
   exact g_endT h
 refine g_skip ?_
 refine g_exit ?_
 refine s_seq (g_reg hG ?_)
 refine g_ret ?_
 exact g_endT h

noncomputable def f_mode_Covers (a0 : Int) (a1 : Int) : Option (Bool) :=
 gd (((f_mode_Valid a0) && (f_mode_Valid a1)) = true → 0 ≤ a1 ∧ a1 < 6) <|
 some (((f_mode_Valid a0) && (f_mode_Valid a1)) && (Arr.get (f_mode_covered a0) a1.toNat false))
theorem mode_Covers_ok (a0 : Int) (a1 : Int) (r : Bool) (h : f_mode_Covers a0 a1 = some r) : PFn C 129 [.int .i64 a0, .int .i64 a1] (.bool r) := by
 refine pfn_intro ck_n rfl fun E hG hN hK => ?_
 unfold pc_n
 unfold f_mode_Covers at h
 refine s_seq (g_reg hG ?_)
 refine s_seq (g_reg hG ?_)
 refine g_call (fun hg => mode_Valid_ok a0) ?_
 refine g_call (fun hg => mode_Valid_ok a1) ?_
 obtain ⟨hb1, h⟩ := gd_some h
 refine g_call (fun hg => mode_covered_ok a0) ?_
 refine g_ret ?_
 exact g_end h
attribute [local irreducible] f_mode_Covers

noncomputable def f_amount_Covers (a0 : Resource) (a1 : Amount) (a2 : Amount) : Option (Bool) :=
 (if ((!(f_amount_permitted a0 a1)) || (!(f_amount_permitted a0 a2))) = true then
  some false
 else
  (if ((f_amount_Zero a1) || (f_amount_Zero a2)) = true then
   some (f_amount_Zero a2)
  else
   (if (decide (a0.kind = 1)) = true then
    (f_mode_Covers a1.mode a2.mode).bind fun v1 =>
    some v1
   else
    some (decide (a2.units ≤ a1.units)))))
theorem amount_Covers_ok (a0 : Resource) (a1 : Amount) (a2 : Amount) (r : Bool) (h : f_amount_Covers a0 a1 a2 = some r) : PFn C 78 [.agg (Resource.enc a0), .agg (Amount.enc a1), .agg (Amount.enc a2)] (.bool r) := by
 refine pfn_intro ck_o rfl fun E hG hN hK => ?_
 unfold pc_o
 unfold f_amount_Covers at h
 refine s_seq (g_reg hG ?_)
 refine s_seq (s_seq (g_reg hG ?_))
 refine g_call (fun hg => amount_permitted_ok a0 a1) ?_
 refine g_call (fun hg => amount_permitted_ok a0 a2) ?_
 refine g_cond rfl hG h (fun _ h => ?_) (fun _ h => ?_)
 · refine s_seq (g_reg hG ?_)
   refine g_ret ?_
   exact g_end h
 refine g_skip ?_
 refine s_seq (s_seq (g_reg hG ?_))
 refine g_call (fun hg => amount_Zero_ok a1) ?_
 refine g_call (fun hg => amount_Zero_ok a2) ?_
 refine g_cond rfl hG h (fun _ h => ?_) (fun _ h => ?_)
 · refine s_seq (g_reg hG ?_)
   refine g_call (fun hg => amount_Zero_ok a2) ?_
   refine g_ret ?_
   exact g_end h
 refine g_skip ?_
 refine s_seq (s_seq (g_reg hG ?_))
 refine g_cond rfl hG h (fun _ h => ?_) (fun _ h => ?_)
 · refine s_seq (g_reg hG ?_)
   obtain ⟨v1, hv1, h⟩ := bind_of h
   refine g_call (fun hg => mode_Covers_ok a1.mode a2.mode _ (hv1)) ?_
   refine g_ret ?_
   exact g_end h
 refine g_skip ?_
 refine s_seq (g_reg hG ?_)
 refine g_ret ?_
 exact g_end h
attribute [local irreducible] f_amount_Covers

noncomputable def f_queue_soundConverts_k1  (j1 : Unit) : Option (Bool) :=
 some true
@[go_sem] def Jp_k1  (j1 : Unit) : St := ⟨[], [], 0⟩
noncomputable def f_queue_soundConverts_l1 (a0 : Queue) (g1 : Int) : Option ((Int) ⊕ ((Unit) ⊕ (Bool))) :=
 (if (decide (g1 < (a0.converts.length : Int))) = true then
  gd (0 ≤ g1 ∧ g1 < (a0.converts.length : Int)) <|
  (f_queue_Held a0 ((a0.converts.getD g1.toNat Wait.zero).proc)).bind fun v1 =>
  (f_line_Find a0.converts ((a0.converts.getD g1.toNat Wait.zero).proc)).bind fun v2 =>
  (if ((!decide (v2 = g1)) || (f_amount_Zero v1)) = true then
   some (.inr (.inr false))
  else
   ((if (f_amount_Fits a0.resource ((a0.converts.getD g1.toNat Wait.zero).amount)) = true then f_amount_Covers a0.resource ((a0.converts.getD g1.toNat Wait.zero).amount) v1 else some (false))).bind fun v3 =>
   (if (((!(f_amount_Fits a0.resource ((a0.converts.getD g1.toNat Wait.zero).amount))) || (!v3)) || (decide ((a0.converts.getD g1.toNat Wait.zero).amount = v1))) = true then
    some (.inr (.inr false))
   else
    (if ((!decide ((a0.converts.getD g1.toNat Wait.zero).priority = 0)) || (!decide ((a0.converts.getD g1.toNat Wait.zero).passed = 0))) = true then
     some (.inr (.inr false))
    else
     some (.inl (IntKind.i64.wrap (g1 + 1))))))
 else
  some (.inr (.inl ())))
@[go_sem] def Ip_l1 (a0 : Queue) (g1 : Int) : St := ⟨[(1, .ptr 0 0 0), (11, .sl (a0.converts.map Wait.enc)), (12, .int .i64 (a0.converts.length : Int)), (13, .int .i64 g1)], [(0, ⟨false, 8, (Queue.enc Queue.zero), [Queue.enc a0]⟩)], 1⟩
noncomputable def f_queue_soundConverts (a0 : Queue) : Option (Bool) :=
 (if (decide (8 < (a0.converts.length : Int))) = true then
  some false
 else
  (loopO (f_queue_soundConverts_l1 a0) 0).bind (fun | .inl z => f_queue_soundConverts_k1 z | .inr z => some z))
theorem queue_soundConverts_ok (a0 : Queue) (r : Bool) (h : f_queue_soundConverts a0 = some r) : PFn C 63 [.agg (Queue.enc a0)] (.bool r) := by
 refine pfn_intro ck_p rfl fun E hG hN hK => ?_
 unfold pc_p
 unfold f_queue_soundConverts at h
 refine s_seq (g_reg hG ?_)
 refine s_seq (s_seq (g_reg hG ?_))
 refine g_cond rfl hG h (fun _ h => ?_) (fun _ h => ?_)
 · refine s_seq (g_reg hG ?_)
   refine g_ret ?_
   exact g_end h
 refine g_skip ?_
 refine s_seq (s_seq (g_reg hG ?_))
 refine s_blockJ (Jp_k1) (fun v => f_queue_soundConverts_k1 v = some r) ?_ ?_
 · intro j1 h
   unfold f_queue_soundConverts_k1 at h
   refine g_st ?_
   refine s_seq (g_reg hG ?_)
   refine g_ret ?_
   exact g_end h
 refine g_loop (Ip_l1 a0) hK [(0, 0)] h (fun x_l1 h g1 y_l1 h_l1 hx_l1 => ?_)
 unfold f_queue_soundConverts_l1 at h_l1
 refine g_st ?_
 refine s_seq (g_reg hG ?_)
 refine s_seq ?_
 refine g_cond rfl hG h_l1 (fun _ h_l1 => ?_) (fun _ h_l1 => ?_)
 · refine g_skip ?_
   refine s_seq (s_block (s_seq ?_))
   obtain ⟨hb1, h_l1⟩ := gd_some h_l1
   refine g_reg hG ?_
   refine s_seq (g_reg hG ?_)
   obtain ⟨v1, hv1, h_l1⟩ := bind_of h_l1
   refine g_call (fun hg => queue_Held_ok a0 ((a0.converts.getD g1.toNat Wait.zero).proc) _ (hv1)) ?_
   refine s_seq (s_seq (g_reg hG ?_))
   obtain ⟨v2, hv2, h_l1⟩ := bind_of h_l1
   refine g_call (fun hg => line_Find_ok a0.converts ((a0.converts.getD g1.toNat Wait.zero).proc) _ (hv2)) ?_
   refine g_call (fun hg => amount_Zero_ok v1) ?_
   refine g_cond rfl hG h_l1 (fun _ h_l1 => ?_) (fun _ h_l1 => ?_)
   · refine s_seq (g_reg hG ?_)
     refine g_ret ?_
     obtain rfl := Option.some.inj h_l1
     have hx := hx_l1 _ rfl
     subst hx
     try dsimp only at h
     exact g_end h
   refine g_skip ?_
   refine s_seq (s_seq (g_reg hG ?_))
   refine g_call (fun hg => amount_Fits_ok a0.resource ((a0.converts.getD g1.toNat Wait.zero).amount)) ?_
   obtain ⟨v3, hv3, h_l1⟩ := bind_of h_l1
   refine g_call (fun hg => amount_Covers_ok a0.resource ((a0.converts.getD g1.toNat Wait.zero).amount) v1 _ (ite_t hg hv3)) ?_
   refine g_cond rfl hG h_l1 (fun _ h_l1 => ?_) (fun _ h_l1 => ?_)
   · refine s_seq (g_reg hG ?_)
     refine g_ret ?_
     obtain rfl := Option.some.inj h_l1
     have hx := hx_l1 _ rfl
     subst hx
     try dsimp only at h
     exact g_end h
   refine g_skip ?_
   refine s_seq (g_reg hG ?_)
   refine g_cond rfl hG h_l1 (fun _ h_l1 => ?_) (fun _ h_l1 => ?_)
   · refine s_seq (g_reg hG ?_)
     refine g_ret ?_
     obtain rfl := Option.some.inj h_l1
     have hx := hx_l1 _ rfl
     subst hx
     try dsimp only at h
     exact g_end h
   refine g_skip ?_
   refine g_reg hG ?_
   exact g_next hK [(0, 0)] h_l1
 refine g_exit ?_
 obtain rfl := Option.some.inj h_l1
 have hx := hx_l1 _ rfl
 subst hx
 try dsimp only at h
 exact g_join hK [] () (by exact h)
attribute [local irreducible] f_queue_soundConverts

def f_line_ValidWait (a0 : Wait) : Bool :=
 ((((((f_ident_ValidProc a0.proc) && ((f_amount_Fits ({ Resource.zero with kind := 1, units := 1 }) a0.amount) || (f_amount_Fits ({ Resource.zero with kind := 2, units := 8 }) a0.amount))) && (decide (0 ≤ a0.priority))) && (decide (a0.priority ≤ 7))) && (decide (0 ≤ a0.passed))) && (decide (a0.passed ≤ 3)))
theorem line_ValidWait_ok (a0 : Wait) : PFn C 132 [.agg (Wait.enc a0)] (.bool (f_line_ValidWait a0)) := by
 generalize h : f_line_ValidWait a0 = r
 refine pfn_intro ck_q rfl fun E hG hN hK => ?_
 unfold pc_q
 unfold f_line_ValidWait at h
 refine s_seq (g_reg hG ?_)
 refine s_seq (g_reg hG ?_)
 refine s_seq (g_reg hG ?_)
 refine s_seq (g_reg hG ?_)
 refine g_call (fun hg => ident_ValidProc_ok a0.proc) ?_
 refine g_call (fun hg => amount_Fits_ok ({ Resource.zero with kind := 1, units := 1 }) a0.amount) ?_
 refine g_call (fun hg => amount_Fits_ok ({ Resource.zero with kind := 2, units := 8 }) a0.amount) ?_
 refine g_ret ?_
 exact g_endT h

noncomputable def f_line_Valid_k1  (j1 : Unit) : Option (Bool) :=
 some true
@[go_sem] def Jr_k1  (j1 : Unit) : St := ⟨[], [], 0⟩
noncomputable def f_line_Valid_l1 (a0 : List Wait) (g1 : Int) : Option ((Int) ⊕ ((Unit) ⊕ (Bool))) :=
 (if (decide (g1 < (a0.length : Int))) = true then
  gd (0 ≤ g1 ∧ g1 < (a0.length : Int)) <|
  ((if (f_line_ValidWait (a0.getD g1.toNat Wait.zero)) = true then f_line_Find a0 ((a0.getD g1.toNat Wait.zero).proc) else some (0))).bind fun v1 =>
  (if ((!(f_line_ValidWait (a0.getD g1.toNat Wait.zero))) || (!decide (v1 = g1))) = true then
   some (.inr (.inr false))
  else
   some (.inl (IntKind.i64.wrap (g1 + 1))))
 else
  some (.inr (.inl ())))
@[go_sem] def Ir_l1 (a0 : List Wait) (g1 : Int) : St := ⟨[(0, .sl (a0.map Wait.enc)), (8, .sl (a0.map Wait.enc)), (9, .int .i64 (a0.length : Int)), (10, .int .i64 g1)], [], 0⟩
noncomputable def f_line_Valid (a0 : List Wait) : Option (Bool) :=
 (if (decide (8 < (a0.length : Int))) = true then
  some false
 else
  (loopO (f_line_Valid_l1 a0) 0).bind (fun | .inl z => f_line_Valid_k1 z | .inr z => some z))
theorem line_Valid_ok (a0 : List Wait) (r : Bool) (h : f_line_Valid a0 = some r) : PFn C 121 [.sl (a0.map Wait.enc)] (.bool r) := by
 refine pfn_intro ck_r rfl fun E hG hN hK => ?_
 unfold pc_r
 unfold f_line_Valid at h
 refine s_seq (g_reg hG ?_)
 refine s_seq (s_seq (g_reg hG ?_))
 refine g_cond rfl hG h (fun _ h => ?_) (fun _ h => ?_)
 · refine s_seq (g_reg hG ?_)
   refine g_ret ?_
   exact g_end h
 refine g_skip ?_
 refine s_seq (s_seq (g_reg hG ?_))
 refine s_blockJ (Jr_k1) (fun v => f_line_Valid_k1 v = some r) ?_ ?_
 · intro j1 h
   unfold f_line_Valid_k1 at h
   refine g_st ?_
   refine s_seq (g_reg hG ?_)
   refine g_ret ?_
   exact g_end h
 refine g_loop (Ir_l1 a0) hK [] h (fun x_l1 h g1 y_l1 h_l1 hx_l1 => ?_)
 unfold f_line_Valid_l1 at h_l1
 refine g_st ?_
 refine s_seq (g_reg hG ?_)
 refine s_seq ?_
 refine g_cond rfl hG h_l1 (fun _ h_l1 => ?_) (fun _ h_l1 => ?_)
 · refine g_skip ?_
   refine s_seq (s_block (s_seq ?_))
   obtain ⟨hb1, h_l1⟩ := gd_some h_l1
   refine g_reg hG ?_
   refine s_seq (g_reg hG ?_)
   refine g_call (fun hg => line_ValidWait_ok (a0.getD g1.toNat Wait.zero)) ?_
   obtain ⟨v1, hv1, h_l1⟩ := bind_of h_l1
   refine g_call (fun hg => line_Find_ok a0 ((a0.getD g1.toNat Wait.zero).proc) _ (ite_t hg hv1)) ?_
   refine g_cond rfl hG h_l1 (fun _ h_l1 => ?_) (fun _ h_l1 => ?_)
   · refine s_seq (g_reg hG ?_)
     refine g_ret ?_
     obtain rfl := Option.some.inj h_l1
     have hx := hx_l1 _ rfl
     subst hx
     try dsimp only at h
     exact g_end h
   refine g_skip ?_
   refine g_reg hG ?_
   exact g_next hK [] h_l1
 refine g_exit ?_
 obtain rfl := Option.some.inj h_l1
 have hx := hx_l1 _ rfl
 subst hx
 try dsimp only at h
 exact g_join hK [] () (by exact h)
attribute [local irreducible] f_line_Valid

noncomputable def f_queue_soundWaits_k1  (j1 : Unit) : Option (Bool) :=
 some true
@[go_sem] def Js_k1  (j1 : Unit) : St := ⟨[], [], 0⟩
noncomputable def f_queue_soundWaits_l1 (a0 : Queue) (g1 : Int) : Option ((Int) ⊕ ((Unit) ⊕ (Bool))) :=
 (if (decide (g1 < (a0.waits.length : Int))) = true then
  gd (0 ≤ g1 ∧ g1 < (a0.waits.length : Int)) <|
  ((if (f_amount_Fits a0.resource ((a0.waits.getD g1.toNat Wait.zero).amount)) = true then f_queue_Held a0 ((a0.waits.getD g1.toNat Wait.zero).proc) else some (Amount.zero))).bind fun v2 =>
  (if ((!(f_amount_Fits a0.resource ((a0.waits.getD g1.toNat Wait.zero).amount))) || (!(f_amount_Zero v2))) = true then
   some (.inr (.inr false))
  else
   some (.inl (IntKind.i64.wrap (g1 + 1))))
 else
  some (.inr (.inl ())))
@[go_sem] def Is_l1 (a0 : Queue) (g1 : Int) : St := ⟨[(1, .ptr 0 0 0), (20, .sl (a0.waits.map Wait.enc)), (21, .int .i64 (a0.waits.length : Int)), (22, .int .i64 g1)], [(0, ⟨false, 8, (Queue.enc Queue.zero), [Queue.enc a0]⟩)], 1⟩
noncomputable def f_queue_soundWaits (a0 : Queue) : Option (Bool) :=
 (f_line_Valid a0.waits).bind fun v1 =>
 (if ((!v1) || (decide (8 < (IntKind.i64.wrap ((a0.holds.length : Int) + (a0.waits.length : Int)))))) = true then
  some false
 else
  (loopO (f_queue_soundWaits_l1 a0) 0).bind (fun | .inl z => f_queue_soundWaits_k1 z | .inr z => some z))
theorem queue_soundWaits_ok (a0 : Queue) (r : Bool) (h : f_queue_soundWaits a0 = some r) : PFn C 64 [.agg (Queue.enc a0)] (.bool r) := by
 refine pfn_intro ck_s rfl fun E hG hN hK => ?_
 unfold pc_s
 unfold f_queue_soundWaits at h
 refine s_seq (g_reg hG ?_)
 refine s_seq (s_seq (g_reg hG ?_))
 obtain ⟨v1, hv1, h⟩ := bind_of h
 refine g_call (fun hg => line_Valid_ok a0.waits _ (hv1)) ?_
 refine g_cond rfl hG h (fun _ h => ?_) (fun _ h => ?_)
 · refine s_seq (g_reg hG ?_)
   refine g_ret ?_
   exact g_end h
 refine g_skip ?_
 refine s_seq (s_seq (g_reg hG ?_))
 refine s_blockJ (Js_k1) (fun v => f_queue_soundWaits_k1 v = some r) ?_ ?_
 · intro j1 h
   unfold f_queue_soundWaits_k1 at h
   refine g_st ?_
   refine s_seq (g_reg hG ?_)
   refine g_ret ?_
   exact g_end h
 refine g_loop (Is_l1 a0) hK [(0, 0)] h (fun x_l1 h g1 y_l1 h_l1 hx_l1 => ?_)
 unfold f_queue_soundWaits_l1 at h_l1
 refine g_st ?_
 refine s_seq (g_reg hG ?_)
 refine s_seq ?_
 refine g_cond rfl hG h_l1 (fun _ h_l1 => ?_) (fun _ h_l1 => ?_)
 · refine g_skip ?_
   refine s_seq (s_block (s_seq ?_))
   obtain ⟨hb1, h_l1⟩ := gd_some h_l1
   refine g_reg hG ?_
   refine s_seq (g_reg hG ?_)
   refine g_call (fun hg => amount_Fits_ok a0.resource ((a0.waits.getD g1.toNat Wait.zero).amount)) ?_
   obtain ⟨v2, hv2, h_l1⟩ := bind_of h_l1
   refine g_call (fun hg => queue_Held_ok a0 ((a0.waits.getD g1.toNat Wait.zero).proc) _ (ite_t hg hv2)) ?_
   refine g_call (fun hg => amount_Zero_ok v2) ?_
   refine g_cond rfl hG h_l1 (fun _ h_l1 => ?_) (fun _ h_l1 => ?_)
   · refine s_seq (g_reg hG ?_)
     refine g_ret ?_
     obtain rfl := Option.some.inj h_l1
     have hx := hx_l1 _ rfl
     subst hx
     try dsimp only at h
     exact g_end h
   refine g_skip ?_
   refine g_reg hG ?_
   exact g_next hK [(0, 0)] h_l1
 refine g_exit ?_
 obtain rfl := Option.some.inj h_l1
 have hx := hx_l1 _ rfl
 subst hx
 try dsimp only at h
 exact g_join hK [] () (by exact h)
attribute [local irreducible] f_queue_soundWaits

noncomputable def f_queue_Sound (a0 : Queue) : Option (Bool) :=
 (f_catalog_ValidResource a0.resource).bind fun v1 =>
 ((if v1 = true then f_holders_Valid a0.resource a0.holds else some (false))).bind fun v2 =>
 ((if (v1 && v2) = true then f_queue_soundConverts a0 else some (false))).bind fun v3 =>
 ((if ((v1 && v2) && v3) = true then f_queue_soundWaits a0 else some (false))).bind fun v4 =>
 some (((((v1 && v2) && v3) && v4) && (decide (0 ≤ a0.gen))) && (decide (a0.gen ≤ 1073741824)))
theorem queue_Sound_ok (a0 : Queue) (r : Bool) (h : f_queue_Sound a0 = some r) : PFn C 21 [.agg (Queue.enc a0)] (.bool r) := by
 refine pfn_intro ck_t rfl fun E hG hN hK => ?_
 unfold pc_t
 unfold f_queue_Sound at h
 refine s_seq (g_reg hG ?_)
 refine s_seq (g_reg hG ?_)
 obtain ⟨v1, hv1, h⟩ := bind_of h
 refine g_call (fun hg => catalog_ValidResource_ok a0.resource _ (hv1)) ?_
 obtain ⟨v2, hv2, h⟩ := bind_of h
 refine g_call (fun hg => holders_Valid_ok a0.resource a0.holds _ (ite_t hg hv2)) ?_
 obtain ⟨v3, hv3, h⟩ := bind_of h
 refine g_call (fun hg => queue_soundConverts_ok a0 _ (ite_t hg hv3)) ?_
 obtain ⟨v4, hv4, h⟩ := bind_of h
 refine g_call (fun hg => queue_soundWaits_ok a0 _ (ite_t hg hv4)) ?_
 refine g_ret ?_
 exact g_end h
attribute [local irreducible] f_queue_Sound

noncomputable def f_queue_head (a0 : Queue) : Option (Wait × Bool) :=
 (if (decide (0 < (a0.converts.length : Int))) = true then
  gd (0 ≤ 0 ∧ 0 < (a0.converts.length : Int)) <|
  some ((a0.converts.getD 0 Wait.zero), true)
 else
  (if (decide (0 < (a0.waits.length : Int))) = true then
   gd (0 ≤ 0 ∧ 0 < (a0.waits.length : Int)) <|
   some ((a0.waits.getD 0 Wait.zero), true)
  else
   some ({ Wait.zero with  }, false)))
theorem queue_head_ok (a0 : Queue) (r : Wait × Bool) (h : f_queue_head a0 = some r) : PFn C 70 [.agg (Queue.enc a0)] (.tup [.agg (Wait.enc r.1), .bool r.2]) := by
 refine pfn_intro ck_u rfl fun E hG hN hK => ?_
 unfold pc_u
 unfold f_queue_head at h
 refine s_seq (g_reg hG ?_)
 refine s_seq (s_block (s_seq (g_reg hG ?_)))
 refine g_cond rfl hG h (fun _ h => ?_) (fun _ h => ?_)
 · refine s_seq ?_
   obtain ⟨hb1, h⟩ := gd_some h
   refine g_reg hG ?_
   refine g_ret ?_
   exact g_end h
 refine s_seq (g_reg hG ?_)
 refine g_cond rfl hG h (fun _ h => ?_) (fun _ h => ?_)
 · refine s_seq ?_
   obtain ⟨hb2, h⟩ := gd_some h
   refine g_reg hG ?_
   refine g_ret ?_
   exact g_end h
 refine g_skip ?_
 refine s_seq (g_reg hG ?_)
 refine g_ret ?_
 exact g_end h
attribute [local irreducible] f_queue_head

noncomputable def f_holders_proper (a0 : Resource) (a1 : List Hold) (a2 : Proc) (a3 : Amount) : Option (Bool) :=
 (f_holders_Valid a0 a1).bind fun v1 =>
 some ((v1 && (f_ident_ValidProc a2)) && (f_amount_Fits a0 a3))
theorem holders_proper_ok (a0 : Resource) (a1 : List Hold) (a2 : Proc) (a3 : Amount) (r : Bool) (h : f_holders_proper a0 a1 a2 a3 = some r) : PFn C 125 [.agg (Resource.enc a0), .sl (a1.map Hold.enc), .agg (Proc.enc a2), .agg (Amount.enc a3)] (.bool r) := by
 refine pfn_intro ck_v rfl fun E hG hN hK => ?_
 unfold pc_v
 unfold f_holders_proper at h
 refine s_seq (g_reg hG ?_)
 refine s_seq (g_reg hG ?_)
 obtain ⟨v1, hv1, h⟩ := bind_of h
 refine g_call (fun hg => holders_Valid_ok a0 a1 _ (hv1)) ?_
 refine g_call (fun hg => ident_ValidProc_ok a2) ?_
 refine g_call (fun hg => amount_Fits_ok a0 a3) ?_
 refine g_ret ?_
 exact g_end h
attribute [local irreducible] f_holders_proper

noncomputable def f_holders_Set_k1 (a1 : Proc) (a2 : Amount) (j1 : Int × (List Hold)) : Option ((List Hold)) :=
 (if (f_amount_Zero a2) = true then
  some j1.2
 else
  (if (decide (j1.1 < 0)) = true then
   gd (j1.2.length + 1 ≤ 4294967296) <|
   gd (0 ≤ (IntKind.i64.wrap (((j1.2.length : Nat) : Int) + 1)) ∧ (IntKind.i64.wrap (((j1.2.length : Nat) : Int) + 1)) ≤ ((j1.2.length + 1 : Nat) : Int) ∧ ((j1.2.length + 1 : Nat) : Int) ≤ ((j1.2.length + 1 : Nat) : Int)) <|
   gd (0 ≤ ((j1.2.length : Nat) : Int) ∧ ((j1.2.length : Nat) : Int) ≤ ((j1.2.length + 1 : Nat) : Int) ∧ ((j1.2.length + 1 : Nat) : Int) ≤ ((j1.2.length + 1 : Nat) : Int)) <|
   gd (0 ≤ ((j1.2.length : Nat) : Int) ∧ ((j1.2.length : Nat) : Int) < ((j1.2.length + 1 : Nat) : Int)) <|
   some (((j1.2 ++ [{ Hold.zero with  }]).take (IntKind.i64.wrap (((j1.2.length : Nat) : Int) + 1)).toNat ++ (((j1.2 ++ [{ Hold.zero with  }]).drop (((j1.2.length : Nat) : Int).toNat)).take (j1.2.length + 1 - ((j1.2.length : Nat) : Int).toNat)).take (j1.2.length + 1 - (IntKind.i64.wrap (((j1.2.length : Nat) : Int) + 1)).toNat) ++ (j1.2 ++ [{ Hold.zero with  }]).drop ((IntKind.i64.wrap (((j1.2.length : Nat) : Int) + 1)).toNat + min (((j1.2 ++ [{ Hold.zero with  }]).drop (((j1.2.length : Nat) : Int).toNat)).take (j1.2.length + 1 - ((j1.2.length : Nat) : Int).toNat)).length (j1.2.length + 1 - (IntKind.i64.wrap (((j1.2.length : Nat) : Int) + 1)).toNat))).set (((j1.2.length : Nat) : Int).toNat) (⟨a1, a2⟩ : Hold))
  else
   gd (j1.2.length + 1 ≤ 4294967296) <|
   gd (0 ≤ (IntKind.i64.wrap (j1.1 + 1)) ∧ (IntKind.i64.wrap (j1.1 + 1)) ≤ ((j1.2.length + 1 : Nat) : Int) ∧ ((j1.2.length + 1 : Nat) : Int) ≤ ((j1.2.length + 1 : Nat) : Int)) <|
   gd (0 ≤ j1.1 ∧ j1.1 ≤ ((j1.2.length + 1 : Nat) : Int) ∧ ((j1.2.length + 1 : Nat) : Int) ≤ ((j1.2.length + 1 : Nat) : Int)) <|
   gd (0 ≤ j1.1 ∧ j1.1 < ((j1.2.length + 1 : Nat) : Int)) <|
   some (((j1.2 ++ [{ Hold.zero with  }]).take (IntKind.i64.wrap (j1.1 + 1)).toNat ++ (((j1.2 ++ [{ Hold.zero with  }]).drop j1.1.toNat).take (j1.2.length + 1 - j1.1.toNat)).take (j1.2.length + 1 - (IntKind.i64.wrap (j1.1 + 1)).toNat) ++ (j1.2 ++ [{ Hold.zero with  }]).drop ((IntKind.i64.wrap (j1.1 + 1)).toNat + min (((j1.2 ++ [{ Hold.zero with  }]).drop j1.1.toNat).take (j1.2.length + 1 - j1.1.toNat)).length (j1.2.length + 1 - (IntKind.i64.wrap (j1.1 + 1)).toNat))).set j1.1.toNat (⟨a1, a2⟩ : Hold))))
@[go_sem] def Jw_k1 (a1 : Proc) (a2 : Amount) (j1 : Int × (List Hold)) : St := ⟨[(4, .ptr 0 0 0), (5, .ptr 1 0 0), (7, .own 2 0 j1.2.length), (8, .int .i64 j1.1)], [(0, ⟨false, 3, (Proc.enc Proc.zero), [Proc.enc a1]⟩), (1, ⟨false, 2, (Amount.enc Amount.zero), [Amount.enc a2]⟩), (2, ⟨false, 5, (Hold.enc Hold.zero), j1.2.map Hold.enc⟩)], 3⟩
noncomputable def f_holders_Set_l1 (a0 : List Hold) (a1 : Proc) (g1 : Int × Int × (List Hold)) : Option ((Int × Int × (List Hold)) ⊕ ((Int × (List Hold)))) :=
 (if (decide (g1.2.1 < (a0.length : Int))) = true then
  gd (0 ≤ g1.2.1 ∧ g1.2.1 < (a0.length : Int)) <|
  (if (decide ((a0.getD g1.2.1.toNat Hold.zero).proc = a1)) = true then
   some (.inl (g1.1, (IntKind.i64.wrap (g1.2.1 + 1)), g1.2.2))
  else
   ((if (decide (g1.1 < 0)) = true then f_ident_CompareProc ((a0.getD g1.2.1.toNat Hold.zero).proc) a1 else some (0))).bind fun v1 =>
   (if ((decide (g1.1 < 0)) && (decide (0 < v1))) = true then
    gd (g1.2.2.length + 1 ≤ 4294967296) <|
    some (.inl (((g1.2.2.length : Nat) : Int), (IntKind.i64.wrap (g1.2.1 + 1)), (g1.2.2 ++ [(a0.getD g1.2.1.toNat Hold.zero)])))
   else
    gd (g1.2.2.length + 1 ≤ 4294967296) <|
    some (.inl (g1.1, (IntKind.i64.wrap (g1.2.1 + 1)), (g1.2.2 ++ [(a0.getD g1.2.1.toNat Hold.zero)])))))
 else
  some (.inr (g1.1, g1.2.2)))
@[go_sem] def Iw_l1 (a0 : List Hold) (a1 : Proc) (a2 : Amount) (g1 : Int × Int × (List Hold)) : St := ⟨[(4, .ptr 0 0 0), (5, .ptr 1 0 0), (7, .own 2 0 g1.2.2.length), (8, .int .i64 g1.1), (15, .sl (a0.map Hold.enc)), (16, .int .i64 (a0.length : Int)), (17, .int .i64 g1.2.1)], [(0, ⟨false, 3, (Proc.enc Proc.zero), [Proc.enc a1]⟩), (1, ⟨false, 2, (Amount.enc Amount.zero), [Amount.enc a2]⟩), (2, ⟨false, 5, (Hold.enc Hold.zero), g1.2.2.map Hold.enc⟩)], 3⟩
noncomputable def f_holders_Set (a0 : List Hold) (a1 : Proc) (a2 : Amount) : Option ((List Hold)) :=
 gd (0 ≤ 0 ∧ 0 ≤ (IntKind.i64.wrap ((a0.length : Int) + 1)) ∧ (IntKind.i64.wrap ((a0.length : Int) + 1)) ≤ 4294967296) <|
 (loopO (f_holders_Set_l1 a0 a1) ((-1), 0, (List.replicate 0 Hold.zero))).bind (fun z => f_holders_Set_k1 a1 a2 z)
theorem holders_Set_ok (a0 : List Hold) (a1 : Proc) (a2 : Amount) (r : (List Hold)) (h : f_holders_Set a0 a1 a2 = some r) : PFn C 92 [.sl (a0.map Hold.enc), .agg (Proc.enc a1), .agg (Amount.enc a2)] (.sl (r.map Hold.enc)) := by
 refine pfn_intro ck_w rfl fun E hG hN hK => ?_
 unfold pc_w
 unfold f_holders_Set at h
 refine s_seq (g_reg hG ?_)
 refine s_seq ?_
 obtain ⟨hb12, h⟩ := gd_some h
 refine g_reg hG ?_
 refine s_seq (g_reg hG ?_)
 refine s_seq (s_seq (g_reg hG ?_))
 refine s_blockJ (Jw_k1 a1 a2) (fun v => f_holders_Set_k1 a1 a2 v = some r) ?_ ?_
 · intro j1 h
   unfold f_holders_Set_k1 at h
   refine g_st ?_
   refine s_seq (s_seq (g_reg hG ?_))
   refine g_call (fun hg => amount_Zero_ok a2) ?_
   refine g_cond rfl hG h (fun _ h => ?_) (fun _ h => ?_)
   · refine s_seq (g_reg hG ?_)
     refine g_ret ?_
     exact g_end h
   refine g_skip ?_
   refine s_seq (s_seq (g_reg hG ?_))
   refine g_cond rfl hG h (fun _ h => ?_) (fun _ h => ?_)
   · refine g_reg hG ?_
     refine s_seq ?_
     obtain ⟨hb4, h⟩ := gd_some h
     refine g_reg hG ?_
     refine s_seq ?_
     obtain ⟨hb2, h⟩ := gd_some h
     obtain ⟨hb3, h⟩ := gd_some h
     refine g_regm C_mixed hG ?_
     refine s_seq ?_
     obtain ⟨hb1, h⟩ := gd_some h
     refine g_reg hG ?_
     refine s_seq (g_reg hG ?_)
     refine g_ret ?_
     exact g_end h
   refine g_skip ?_
   refine s_seq ?_
   obtain ⟨hb8, h⟩ := gd_some h
   refine g_reg hG ?_
   refine s_seq ?_
   obtain ⟨hb6, h⟩ := gd_some h
   obtain ⟨hb7, h⟩ := gd_some h
   refine g_regm C_mixed hG ?_
   refine s_seq ?_
   obtain ⟨hb5, h⟩ := gd_some h
   refine g_reg hG ?_
   refine s_seq (g_reg hG ?_)
   refine g_ret ?_
   exact g_end h
 refine g_loop (Iw_l1 a0 a1 a2) hK [(0, 0), (1, 1), (2, 2)] h (fun x_l1 h g1 y_l1 h_l1 hx_l1 => ?_)
 unfold f_holders_Set_l1 at h_l1
 refine g_st ?_
 refine s_seq (g_reg hG ?_)
 refine s_seq ?_
 refine g_cond rfl hG h_l1 (fun _ h_l1 => ?_) (fun _ h_l1 => ?_)
 · refine g_skip ?_
   refine s_seq (s_block (s_seq ?_))
   obtain ⟨hb11, h_l1⟩ := gd_some h_l1
   refine g_reg hG ?_
   refine s_seq (s_seq (g_reg hG ?_))
   refine g_cond rfl hG h_l1 (fun _ h_l1 => ?_) (fun _ h_l1 => ?_)
   · refine g_exit ?_
     refine g_reg hG ?_
     exact g_next hK [(0, 0), (1, 1), (2, 2)] h_l1
   refine g_skip ?_
   refine s_seq (s_seq (g_reg hG ?_))
   obtain ⟨v1, hv1, h_l1⟩ := bind_of h_l1
   refine g_call (fun hg => ident_CompareProc_ok ((a0.getD g1.2.1.toNat Hold.zero).proc) a1 _ (ite_t hg hv1)) ?_
   refine g_cond rfl hG h_l1 (fun _ h_l1 => ?_) (fun _ h_l1 => ?_)
   · refine g_reg hG ?_
     obtain ⟨hb9, h_l1⟩ := gd_some h_l1
     refine g_reg hG ?_
     refine g_reg hG ?_
     exact g_next hK [(0, 0), (1, 1), (2, 4)] h_l1
   refine g_skip ?_
   obtain ⟨hb10, h_l1⟩ := gd_some h_l1
   refine g_reg hG ?_
   refine g_reg hG ?_
   exact g_next hK [(0, 0), (1, 1), (2, 4)] h_l1
 refine g_exit ?_
 obtain rfl := Option.some.inj h_l1
 have hx := hx_l1 _ rfl
 subst hx
 try dsimp only at h
 exact g_join hK [(0, 0), (1, 1), (2, 2)] (g1.1, g1.2.2) (by exact h)
attribute [local irreducible] f_holders_Set

noncomputable def f_holders_Room (a0 : Resource) (a1 : List Hold) (a2 : Proc) (a3 : Amount) : Option (Bool) :=
 (f_holders_proper a0 a1 a2 a3).bind fun v1 =>
 ((if v1 = true then f_holders_Set a1 a2 a3 else some ([]))).bind fun v2 =>
 ((if v1 = true then f_holders_Valid a0 v2 else some (false))).bind fun v3 =>
 some (v1 && v3)
theorem holders_Room_ok (a0 : Resource) (a1 : List Hold) (a2 : Proc) (a3 : Amount) (r : Bool) (h : f_holders_Room a0 a1 a2 a3 = some r) : PFn C 71 [.agg (Resource.enc a0), .sl (a1.map Hold.enc), .agg (Proc.enc a2), .agg (Amount.enc a3)] (.bool r) := by
 refine pfn_intro ck_x rfl fun E hG hN hK => ?_
 unfold pc_x
 unfold f_holders_Room at h
 refine s_seq (g_reg hG ?_)
 refine s_seq (g_regd C_mixed hG ?_)
 obtain ⟨v1, hv1, h⟩ := bind_of h
 refine g_calld (fun hg => holders_proper_ok a0 a1 a2 a3 _ (hv1)) ?_
 obtain ⟨v2, hv2, h⟩ := bind_of h
 refine g_calld (fun hg => holders_Set_ok a1 a2 a3 _ (ite_t hg hv2)) ?_
 obtain ⟨v3, hv3, h⟩ := bind_of h
 refine g_calld (fun hg => holders_Valid_ok a0 v2 _ (ite_t hg hv3)) ?_
 refine g_ret ?_
 exact g_end h
attribute [local irreducible] f_holders_Room

noncomputable def f_queue_Settled (a0 : Queue) : Option (Bool) :=
 (f_queue_Sound a0).bind fun v1 =>
 (if (!v1) = true then
  some false
 else
  (f_queue_head a0).bind fun v2 =>
  ((if v2.2 = true then f_holders_Room a0.resource a0.holds v2.1.proc v2.1.amount else some (false))).bind fun v3 =>
  some ((!v2.2) || (!v3)))
theorem queue_Settled_ok (a0 : Queue) (r : Bool) (h : f_queue_Settled a0 = some r) : PFn C 23 [.agg (Queue.enc a0)] (.bool r) := by
 refine pfn_intro ck_y rfl fun E hG hN hK => ?_
 unfold pc_y
 unfold f_queue_Settled at h
 refine s_seq (g_reg hG ?_)
 refine s_seq (s_seq (g_reg hG ?_))
 obtain ⟨v1, hv1, h⟩ := bind_of h
 refine g_call (fun hg => queue_Sound_ok a0 _ (hv1)) ?_
 refine g_cond rfl hG h (fun _ h => ?_) (fun _ h => ?_)
 · refine s_seq (g_reg hG ?_)
   refine g_ret ?_
   exact g_end h
 refine g_skip ?_
 refine s_seq (g_reg hG ?_)
 obtain ⟨v2, hv2, h⟩ := bind_of h
 refine g_call (fun hg => queue_head_ok a0 _ (hv2)) ?_
 refine s_seq (g_reg hG ?_)
 obtain ⟨v3, hv3, h⟩ := bind_of h
 refine g_call (fun hg => holders_Room_ok a0.resource a0.holds v2.1.proc v2.1.amount _ (ite_t hg hv3)) ?_
 refine g_ret ?_
 exact g_end h
attribute [local irreducible] f_queue_Settled

noncomputable def f_queue_Valid (a0 : Queue) : Option (Bool) :=
 (f_queue_Settled a0).bind fun v1 =>
 some v1
theorem queue_Valid_ok (a0 : Queue) (r : Bool) (h : f_queue_Valid a0 = some r) : PFn C 25 [.agg (Queue.enc a0)] (.bool r) := by
 refine pfn_intro ck_z rfl fun E hG hN hK => ?_
 unfold pc_z
 unfold f_queue_Valid at h
 refine s_seq (g_reg hG ?_)
 refine s_seq (g_reg hG ?_)
 obtain ⟨v1, hv1, h⟩ := bind_of h
 refine g_call (fun hg => queue_Settled_ok a0 _ (hv1)) ?_
 refine g_ret ?_
 exact g_end h
attribute [local irreducible] f_queue_Valid

def f_slices_Grow_api_Wait_api_Wait_m (a0 : Int) : Option (List Wait) := gd (0 ≤ a0 ∧ a0 ≤ 4294967296) (some [])
theorem slices_Grow_api_Wait_api_Wait_lays : Lays8.n4 C.P ⟨fun | 4 => 151 | n => n, fun | 22 => 25 | 25 => 81 | n => n, fun n => n⟩ where
 mixed := C_mixed
 f4 := ⟨ "slices.Grow[[]clusterlocks/api.Wait,clusterlocks/api.Wait]", by decide, Tryz.func151.trans (congrArg some (by kernel_rfl))⟩
 t0 := Tryz.underlying0
 a0 := Tryz.isAgg0
 z0 := Tryz.sizeOf0
 v0 := Tryz.zeroValue0
 t3 := Tryz.underlying3
 a3 := Tryz.isAgg3
 z3 := Tryz.sizeOf3
 v3 := Tryz.zeroValue3
 t4 := Tryz.underlying4
 a4 := Tryz.isAgg4
 z4 := Tryz.sizeOf4
 v4 := Tryz.zeroValue4
 t9 := Tryz.underlying9
 a9 := Tryz.isAgg9
 z9 := Tryz.sizeOf9
 v9 := Tryz.zeroValue9
 t20 := Tryz.underlying20
 a20 := Tryz.isAgg20
 z20 := Tryz.sizeOf20
 v20 := Tryz.zeroValue20
 t22 := Tryz.underlying25
 a22 := Tryz.isAgg25
 z22 := Tryz.sizeOf25
 v22 := Tryz.zeroValue25
theorem slices_Grow_api_Wait_api_Wait_m_okm (a0 : Int) (r : List Wait) (h : f_slices_Grow_api_Wait_api_Wait_m a0 = some r) : MFn C 151 [.full [], .int .i64 a0] [] 0 (.own 0 0 r.length) [(0, ⟨false, 7, (Wait.enc Wait.zero), r.map Wait.enc⟩)] 1 := by
 obtain ⟨⟨h0, h1⟩, h⟩ := gd_some h
 obtain rfl := Option.some.inj h
 exact grow_own slices_Grow_api_Wait_api_Wait_lays (by kernel_rfl) rfl _ a0 h0 h1
attribute [local irreducible] f_slices_Grow_api_Wait_api_Wait_m

noncomputable def f_slices_Concat_api_Wait_api_Wait_k2  (j2 : (List Wait)) : Option ((List Wait)) :=
 some j2
@[go_sem] def J10_k2  (j2 : (List Wait)) : St := ⟨[(6, .own 0 0 j2.length)], [(0, ⟨false, 7, (Wait.enc Wait.zero), j2.map Wait.enc⟩)], 1⟩
noncomputable def f_slices_Concat_api_Wait_api_Wait_l1 (a0 : List (List Wait)) (g1 : Int × (List Wait)) : Option ((Int × (List Wait)) ⊕ (((List Wait)))) :=
 (if (decide (g1.1 < (a0.length : Int))) = true then
  gd (0 ≤ g1.1 ∧ g1.1 < (a0.length : Int)) <|
  gd (g1.2.length + (a0.getD g1.1.toNat []).length ≤ 4294967296) <|
  some (.inl ((IntKind.i64.wrap (g1.1 + 1)), (g1.2 ++ (a0.getD g1.1.toNat []))))
 else
  some (.inr g1.2))
@[go_sem] def I10_l1 (a0 : List (List Wait)) (g1 : Int × (List Wait)) : St := ⟨[(6, .own 0 0 g1.2.length), (25, .sl (a0.map (eL Wait.enc))), (26, .int .i64 (a0.length : Int)), (27, .int .i64 g1.1)], [(0, ⟨false, 7, (Wait.enc Wait.zero), g1.2.map Wait.enc⟩)], 1⟩
noncomputable def f_slices_Concat_api_Wait_api_Wait_k1 (a0 : List (List Wait)) (j1 : Int) : Option ((List Wait)) :=
 (f_slices_Grow_api_Wait_api_Wait_m j1).bind fun v1 =>
 (loopO (f_slices_Concat_api_Wait_api_Wait_l1 a0) (0, v1)).bind (fun z => f_slices_Concat_api_Wait_api_Wait_k2 z)
@[go_sem] def J10_k1 (a0 : List (List Wait)) (j1 : Int) : St := ⟨[(0, .sl (a0.map (eL Wait.enc))), (3, .int .i64 j1)], [], 0⟩
noncomputable def f_slices_Concat_api_Wait_api_Wait_l2 (a0 : List (List Wait)) (g2 : Int × Int) : Option ((Int × Int) ⊕ ((Int))) :=
 (if (decide (g2.2 < (a0.length : Int))) = true then
  gd (0 ≤ g2.2 ∧ g2.2 < (a0.length : Int)) <|
  (if (decide ((IntKind.i64.wrap (g2.1 + ((a0.getD g2.2.toNat []).length : Int))) < 0)) = true then
   none
  else
   some (.inl ((IntKind.i64.wrap (g2.1 + ((a0.getD g2.2.toNat []).length : Int))), (IntKind.i64.wrap (g2.2 + 1)))))
 else
  some (.inr g2.1))
@[go_sem] def I10_l2 (a0 : List (List Wait)) (g2 : Int × Int) : St := ⟨[(0, .sl (a0.map (eL Wait.enc))), (3, .int .i64 g2.1), (9, .sl (a0.map (eL Wait.enc))), (10, .int .i64 (a0.length : Int)), (11, .int .i64 g2.2)], [], 0⟩
noncomputable def f_slices_Concat_api_Wait_api_Wait (a0 : List (List Wait)) : Option ((List Wait)) :=
 (loopO (f_slices_Concat_api_Wait_api_Wait_l2 a0) (0, 0)).bind (fun z => f_slices_Concat_api_Wait_api_Wait_k1 a0 z)
theorem slices_Concat_api_Wait_api_Wait_ok (a0 : List (List Wait)) (r : (List Wait)) (h : f_slices_Concat_api_Wait_api_Wait a0 = some r) : PFn C 137 [.sl (a0.map (eL Wait.enc))] (.sl (r.map Wait.enc)) := by
 refine pfn_intro ck_10 rfl fun E hG hN hK => ?_
 unfold pc_10
 unfold f_slices_Concat_api_Wait_api_Wait at h
 refine s_seq (g_reg hG ?_)
 refine s_seq (g_reg hG ?_)
 refine s_seq (s_seq (g_reg hG ?_))
 refine s_blockJ (J10_k1 a0) (fun v => f_slices_Concat_api_Wait_api_Wait_k1 a0 v = some r) ?_ ?_
 · intro j1 h
   unfold f_slices_Concat_api_Wait_api_Wait_k1 at h
   refine g_st ?_
   refine s_seq (g_reg hG ?_)
   obtain ⟨v1, hv1, h⟩ := bind_of h
   refine g_callm [] [(0, 0)] [0] (slices_Grow_api_Wait_api_Wait_m_okm j1 _ hv1) rfl rfl ?_
   refine s_seq (s_seq (g_reg hG ?_))
   refine s_blockJ (J10_k2) (fun v => f_slices_Concat_api_Wait_api_Wait_k2 v = some r) ?_ ?_
   · intro j2 h
     unfold f_slices_Concat_api_Wait_api_Wait_k2 at h
     refine g_st ?_
     refine s_seq (g_reg hG ?_)
     refine g_ret ?_
     exact g_end h
   refine g_loop (I10_l1 a0) hK [(0, 0)] h (fun x_l1 h g1 y_l1 h_l1 hx_l1 => ?_)
   unfold f_slices_Concat_api_Wait_api_Wait_l1 at h_l1
   refine g_st ?_
   refine s_seq (g_reg hG ?_)
   refine s_seq ?_
   refine g_cond rfl hG h_l1 (fun _ h_l1 => ?_) (fun _ h_l1 => ?_)
   · refine g_skip ?_
     refine s_seq (s_block (s_seq ?_))
     obtain ⟨hb2, h_l1⟩ := gd_some h_l1
     refine g_reg hG ?_
     obtain ⟨hb1, h_l1⟩ := gd_some h_l1
     refine g_reg hG ?_
     refine g_reg hG ?_
     exact g_next hK [(0, 1)] h_l1
   refine g_exit ?_
   obtain rfl := Option.some.inj h_l1
   have hx := hx_l1 _ rfl
   subst hx
   try dsimp only at h
   exact g_join hK [(0, 0)] g1.2 (by exact h)
 refine g_loop (I10_l2 a0) hK [] h (fun x_l2 h g2 y_l2 h_l2 hx_l2 => ?_)
 unfold f_slices_Concat_api_Wait_api_Wait_l2 at h_l2
 refine g_st ?_
 refine s_seq (g_reg hG ?_)
 refine s_seq ?_
 refine g_cond rfl hG h_l2 (fun _ h_l2 => ?_) (fun _ h_l2 => ?_)
 · refine g_skip ?_
   refine s_seq (s_block (s_seq ?_))
   obtain ⟨hb3, h_l2⟩ := gd_some h_l2
   refine g_reg hG ?_
   refine s_seq (g_reg hG ?_)
   refine s_seq (g_reg hG ?_)
   refine g_cond rfl hG h_l2 (fun _ h_l2 => ?_) (fun _ h_l2 => ?_)
   · exact g_dead h_l2
   refine g_skip ?_
   refine g_reg hG ?_
   exact g_next hK [] h_l2
 refine g_exit ?_
 obtain rfl := Option.some.inj h_l2
 have hx := hx_l2 _ rfl
 subst hx
 try dsimp only at h
 exact g_join hK [] g2.1 (by exact h)
attribute [local irreducible] f_slices_Concat_api_Wait_api_Wait

noncomputable def f_queue_order (a0 : Queue) : Option ((List Wait)) :=
 (f_slices_Concat_api_Wait_api_Wait [a0.converts, a0.waits]).bind fun v1 =>
 some v1
theorem queue_order_ok (a0 : Queue) (r : (List Wait)) (h : f_queue_order a0 = some r) : PFn C 100 [.agg (Queue.enc a0)] (.sl (r.map Wait.enc)) := by
 refine pfn_intro ck_11 rfl fun E hG hN hK => ?_
 unfold pc_11
 unfold f_queue_order at h
 refine s_seq (g_reg hG ?_)
 refine s_seq (g_reg hG ?_)
 obtain ⟨v1, hv1, h⟩ := bind_of h
 refine g_call (fun hg => PFn.unfull (slices_Concat_api_Wait_api_Wait_ok [a0.converts, a0.waits] _ (hv1))) ?_
 refine g_ret ?_
 exact g_end h
attribute [local irreducible] f_queue_order

noncomputable def f_queue_Wanted_k1  (j1 : Unit) : Option (Amount × Bool) :=
 some ({ Amount.zero with  }, false)
@[go_sem] def J12_k1  (j1 : Unit) : St := ⟨[(4, .ptr 0 0 0)], [(0, ⟨false, 2, (Amount.enc Amount.zero), [Amount.enc Amount.zero]⟩)], 1⟩
noncomputable def f_queue_Wanted_l1 (a1 : Proc) (v1 : (List Wait)) (g1 : Int) : Option ((Int) ⊕ ((Unit) ⊕ (Amount × Bool))) :=
 (if (decide (g1 < (v1.length : Int))) = true then
  gd (0 ≤ g1 ∧ g1 < (v1.length : Int)) <|
  (if (decide ((v1.getD g1.toNat Wait.zero).proc = a1)) = true then
   some (.inr (.inr ((v1.getD g1.toNat Wait.zero).amount, true)))
  else
   some (.inl (IntKind.i64.wrap (g1 + 1))))
 else
  some (.inr (.inl ())))
@[go_sem] def I12_l1 (a1 : Proc) (v1 : (List Wait)) (g1 : Int) : St := ⟨[(3, .ptr 0 0 0), (4, .ptr 1 0 0), (9, .sl (v1.map Wait.enc)), (10, .int .i64 (v1.length : Int)), (11, .int .i64 g1)], [(0, ⟨false, 3, (Proc.enc Proc.zero), [Proc.enc a1]⟩), (1, ⟨false, 2, (Amount.enc Amount.zero), [Amount.enc Amount.zero]⟩)], 2⟩
noncomputable def f_queue_Wanted (a0 : Queue) (a1 : Proc) : Option (Amount × Bool) :=
 (f_queue_order a0).bind fun v1 =>
 (loopO (f_queue_Wanted_l1 a1 v1) 0).bind (fun | .inl z => f_queue_Wanted_k1 z | .inr z => some z)
theorem queue_Wanted_ok (a0 : Queue) (a1 : Proc) (r : Amount × Bool) (h : f_queue_Wanted a0 a1 = some r) : PFn C 57 [.agg (Queue.enc a0), .agg (Proc.enc a1)] (.tup [.agg (Amount.enc r.1), .bool r.2]) := by
 refine pfn_intro ck_12 rfl fun E hG hN hK => ?_
 unfold pc_12
 unfold f_queue_Wanted at h
 refine s_seq (g_reg hG ?_)
 refine s_seq (s_seq (g_reg hG ?_))
 obtain ⟨v1, hv1, h⟩ := bind_of h
 refine g_call (fun hg => queue_order_ok a0 _ (hv1)) ?_
 refine s_blockJ (J12_k1) (fun v => f_queue_Wanted_k1 v = some r) ?_ ?_
 · intro j1 h
   unfold f_queue_Wanted_k1 at h
   refine g_st ?_
   refine s_seq (g_reg hG ?_)
   refine g_ret ?_
   exact g_end h
 refine g_loop (I12_l1 a1 v1) hK [(0, 1), (1, 2)] h (fun x_l1 h g1 y_l1 h_l1 hx_l1 => ?_)
 unfold f_queue_Wanted_l1 at h_l1
 refine g_st ?_
 refine s_seq (g_reg hG ?_)
 refine s_seq ?_
 refine g_cond rfl hG h_l1 (fun _ h_l1 => ?_) (fun _ h_l1 => ?_)
 · refine g_skip ?_
   refine s_seq (s_block (s_seq ?_))
   obtain ⟨hb1, h_l1⟩ := gd_some h_l1
   refine g_reg hG ?_
   refine s_seq (g_reg hG ?_)
   refine g_cond rfl hG h_l1 (fun _ h_l1 => ?_) (fun _ h_l1 => ?_)
   · refine s_seq (g_reg hG ?_)
     refine g_ret ?_
     obtain rfl := Option.some.inj h_l1
     have hx := hx_l1 _ rfl
     subst hx
     try dsimp only at h
     exact g_end h
   refine g_skip ?_
   refine g_reg hG ?_
   exact g_next hK [(0, 0), (1, 1)] h_l1
 refine g_exit ?_
 obtain rfl := Option.some.inj h_l1
 have hx := hx_l1 _ rfl
 subst hx
 try dsimp only at h
 exact g_join hK [(0, 1)] () (by exact h)
attribute [local irreducible] f_queue_Wanted

noncomputable def f_queue_clone_m (a0 : Queue) : Option (Queue) :=
 gd (a0.holds.length ≤ 4294967296) <|
 gd (a0.converts.length ≤ 4294967296) <|
 gd (a0.waits.length ≤ 4294967296) <|
 some a0
theorem queue_clone_m_okm (a0 : Queue) (r : Queue) (h : f_queue_clone_m a0 = some r) : MFn C 77 [.agg (Queue.enc a0)] [] 0 (.agg [.str r.resource.name, .int .i64 r.resource.kind, .int .i64 r.resource.units, .int .i64 r.resource.home, .own 0 0 r.holds.length, .own 1 0 r.converts.length, .own 2 0 r.waits.length, .int .i64 r.gen]) [(0, ⟨false, 5, (Hold.enc Hold.zero), r.holds.map Hold.enc⟩), (1, ⟨false, 7, (Wait.enc Wait.zero), r.converts.map Wait.enc⟩), (2, ⟨false, 7, (Wait.enc Wait.zero), r.waits.map Wait.enc⟩)] 3 := by
 refine mfn_intro (rl := [.agg [.str r.resource.name, .int .i64 r.resource.kind, .int .i64 r.resource.units, .int .i64 r.resource.home, .own 0 0 r.holds.length, .own 1 0 r.converts.length, .own 2 0 r.waits.length, .int .i64 r.gen]]) ck_13 rfl rfl rfl rfl fun E hG hN hK => ?_
 unfold pc_13
 unfold f_queue_clone_m at h
 refine s_seq (g_reg hG ?_)
 refine s_seq ?_
 obtain ⟨hb3, h⟩ := gd_some h
 refine g_reg hG ?_
 refine s_seq ?_
 obtain ⟨hb2, h⟩ := gd_some h
 refine g_reg hG ?_
 refine s_seq ?_
 obtain ⟨hb1, h⟩ := gd_some h
 refine g_reg hG ?_
 refine s_seq (g_reg hG ?_)
 refine g_ret ?_
 exact g_retm [(0, 2), (1, 3), (2, 4)] h
attribute [local irreducible] f_queue_clone_m

noncomputable def f_mode_Sup_k1  (j1 : Unit) : Option (Int) :=
 some 0
@[go_sem] def J14_k1  (j1 : Unit) : St := ⟨[], [], 0⟩
noncomputable def f_mode_Sup_l1 (a0 : Int) (a1 : Int) (g1 : Int) : Option ((Int) ⊕ ((Unit) ⊕ (Int))) :=
 (if (decide (g1 ≤ 5)) = true then
  (f_mode_Covers g1 a0).bind fun v1 =>
  ((if v1 = true then f_mode_Covers g1 a1 else some (false))).bind fun v2 =>
  (if (v1 && v2) = true then
   some (.inr (.inr g1))
  else
   some (.inl (IntKind.i64.wrap (g1 + 1))))
 else
  some (.inr (.inl ())))
@[go_sem] def I14_l1 (a0 : Int) (a1 : Int) (g1 : Int) : St := ⟨[(0, .int .i64 a0), (1, .int .i64 a1), (5, .int .i64 g1)], [], 0⟩
noncomputable def f_mode_Sup (a0 : Int) (a1 : Int) : Option (Int) :=
 (loopO (f_mode_Sup_l1 a0 a1) 1).bind (fun | .inl z => f_mode_Sup_k1 z | .inr z => some z)
theorem mode_Sup_ok (a0 : Int) (a1 : Int) (r : Int) (h : f_mode_Sup a0 a1 = some r) : PFn C 131 [.int .i64 a0, .int .i64 a1] (.int .i64 r) := by
 refine pfn_intro ck_14 rfl fun E hG hN hK => ?_
 unfold pc_14
 unfold f_mode_Sup at h
 refine s_seq (g_reg hG ?_)
 refine s_seq (s_seq (g_reg hG ?_))
 refine s_blockJ (J14_k1) (fun v => f_mode_Sup_k1 v = some r) ?_ ?_
 · intro j1 h
   unfold f_mode_Sup_k1 at h
   refine g_st ?_
   refine s_seq (g_reg hG ?_)
   refine g_ret ?_
   exact g_end h
 refine g_loop (I14_l1 a0 a1) hK [] h (fun x_l1 h g1 y_l1 h_l1 hx_l1 => ?_)
 unfold f_mode_Sup_l1 at h_l1
 refine g_st ?_
 refine s_seq (s_seq (g_reg hG ?_))
 refine g_cond rfl hG h_l1 (fun _ h_l1 => ?_) (fun _ h_l1 => ?_)
 · refine g_skip ?_
   refine s_seq (s_block (s_seq (g_reg hG ?_)))
   obtain ⟨v1, hv1, h_l1⟩ := bind_of h_l1
   refine g_call (fun hg => mode_Covers_ok g1 a0 _ (hv1)) ?_
   obtain ⟨v2, hv2, h_l1⟩ := bind_of h_l1
   refine g_call (fun hg => mode_Covers_ok g1 a1 _ (ite_t hg hv2)) ?_
   refine g_cond rfl hG h_l1 (fun _ h_l1 => ?_) (fun _ h_l1 => ?_)
   · refine s_seq (g_reg hG ?_)
     refine g_ret ?_
     obtain rfl := Option.some.inj h_l1
     have hx := hx_l1 _ rfl
     subst hx
     try dsimp only at h
     exact g_end h
   refine g_skip ?_
   refine g_reg hG ?_
   exact g_next hK [] h_l1
 refine g_exit ?_
 obtain rfl := Option.some.inj h_l1
 have hx := hx_l1 _ rfl
 subst hx
 try dsimp only at h
 exact g_join hK [] () (by exact h)
attribute [local irreducible] f_mode_Sup

noncomputable def f_amount_Join (a0 : Resource) (a1 : Amount) (a2 : Amount) : Option (Amount) :=
 (if ((!(f_amount_permitted a0 a1)) || (!(f_amount_permitted a0 a2))) = true then
  some ({ Amount.zero with  })
 else
  (if (f_amount_Zero a1) = true then
   some a2
  else
   (if (f_amount_Zero a2) = true then
    some a1
   else
    (if (decide (a0.kind = 1)) = true then
     (f_mode_Sup a1.mode a2.mode).bind fun v1 =>
     some ({ Amount.zero with mode := v1 })
    else
     some ({ Amount.zero with units := (if a1.units < a2.units then a2.units else a1.units) })))))
theorem amount_Join_ok (a0 : Resource) (a1 : Amount) (a2 : Amount) (r : Amount) (h : f_amount_Join a0 a1 a2 = some r) : PFn C 82 [.agg (Resource.enc a0), .agg (Amount.enc a1), .agg (Amount.enc a2)] (.agg (Amount.enc r)) := by
 refine pfn_intro ck_15 rfl fun E hG hN hK => ?_
 unfold pc_15
 unfold f_amount_Join at h
 refine s_seq (g_reg hG ?_)
 refine s_seq (s_block (s_seq (g_reg hG ?_)))
 refine g_call (fun hg => amount_permitted_ok a0 a1) ?_
 refine g_call (fun hg => amount_permitted_ok a0 a2) ?_
 refine g_cond rfl hG h (fun _ h => ?_) (fun _ h => ?_)
 · refine s_seq (g_reg hG ?_)
   refine g_ret ?_
   exact g_end h
 refine s_seq (g_reg hG ?_)
 refine g_call (fun hg => amount_Zero_ok a1) ?_
 refine g_cond rfl hG h (fun _ h => ?_) (fun _ h => ?_)
 · refine s_seq (g_reg hG ?_)
   refine g_ret ?_
   exact g_end h
 refine s_seq (g_reg hG ?_)
 refine g_call (fun hg => amount_Zero_ok a2) ?_
 refine g_cond rfl hG h (fun _ h => ?_) (fun _ h => ?_)
 · refine s_seq (g_reg hG ?_)
   refine g_ret ?_
   exact g_end h
 refine s_seq (g_reg hG ?_)
 refine g_cond rfl hG h (fun _ h => ?_) (fun _ h => ?_)
 · refine s_seq (g_reg hG ?_)
   obtain ⟨v1, hv1, h⟩ := bind_of h
   refine g_call (fun hg => mode_Sup_ok a1.mode a2.mode _ (hv1)) ?_
   refine g_ret ?_
   exact g_end h
 refine g_skip ?_
 refine s_seq (g_reg hG ?_)
 refine g_ret ?_
 exact g_end h
attribute [local irreducible] f_amount_Join

noncomputable def f_queue_Claim_1_m (a0 : Queue) (a1 : Amount) (a2 : Amount) (a3 : Proc) : Option (ByteArray × Int × Int × Int × Int × Amount × Amount × Proc × (List Hold) × (List Wait) × (List Wait)) :=
 (f_amount_Join a0.resource a1 a2).bind fun v1 =>
 gd (a0.converts.length + 1 ≤ 4294967296) <|
 some (a0.resource.name, a0.resource.kind, a0.resource.units, a0.resource.home, a0.gen, a1, a2, a3, a0.holds, a0.waits, (a0.converts ++ [{ Wait.zero with proc := a3, amount := v1 }]))
theorem queue_Claim_1_m_okm (a0 : Queue) (a1 : Amount) (a2 : Amount) (a3 : Proc) (r : ByteArray × Int × Int × Int × Int × Amount × Amount × Proc × (List Hold) × (List Wait) × (List Wait)) (h : f_queue_Claim_1_m a0 a1 a2 a3 = some r) : MFn C 81 [.ptr 0 0 0, .ptr 1 0 0, .ptr 2 0 0, .ptr 3 0 0] [(0, ⟨false, 8, (Queue.enc Queue.zero), [[.str a0.resource.name, .int .i64 a0.resource.kind, .int .i64 a0.resource.units, .int .i64 a0.resource.home, .own 4 0 a0.holds.length, .own 5 0 a0.converts.length, .own 6 0 a0.waits.length, .int .i64 a0.gen]]⟩), (1, ⟨false, 2, (Amount.enc Amount.zero), [Amount.enc a1]⟩), (2, ⟨false, 2, (Amount.enc Amount.zero), [Amount.enc a2]⟩), (3, ⟨false, 3, (Proc.enc Proc.zero), [Proc.enc a3]⟩), (4, ⟨false, 5, (Hold.enc Hold.zero), a0.holds.map Hold.enc⟩), (5, ⟨false, 7, (Wait.enc Wait.zero), a0.converts.map Wait.enc⟩), (6, ⟨false, 7, (Wait.enc Wait.zero), a0.waits.map Wait.enc⟩)] 7 (.tup []) [(0, ⟨false, 8, (Queue.enc Queue.zero), [[.str r.1, .int .i64 r.2.1, .int .i64 r.2.2.1, .int .i64 r.2.2.2.1, .own 4 0 r.2.2.2.2.2.2.2.2.1.length, .own 7 0 r.2.2.2.2.2.2.2.2.2.2.length, .own 6 0 r.2.2.2.2.2.2.2.2.2.1.length, .int .i64 r.2.2.2.2.1]]⟩), (1, ⟨false, 2, (Amount.enc Amount.zero), [Amount.enc r.2.2.2.2.2.1]⟩), (2, ⟨false, 2, (Amount.enc Amount.zero), [Amount.enc r.2.2.2.2.2.2.1]⟩), (3, ⟨false, 3, (Proc.enc Proc.zero), [Proc.enc r.2.2.2.2.2.2.2.1]⟩), (4, ⟨false, 5, (Hold.enc Hold.zero), r.2.2.2.2.2.2.2.2.1.map Hold.enc⟩), (6, ⟨false, 7, (Wait.enc Wait.zero), r.2.2.2.2.2.2.2.2.2.1.map Wait.enc⟩), (7, ⟨false, 7, (Wait.enc Wait.zero), r.2.2.2.2.2.2.2.2.2.2.map Wait.enc⟩)] 8 := by
 refine mfn_intro (rl := []) ck_16 rfl rfl rfl rfl fun E hG hN hK => ?_
 unfold pc_16
 unfold f_queue_Claim_1_m at h
 refine s_seq (g_reg hG ?_)
 obtain ⟨v1, hv1, h⟩ := bind_of h
 refine g_call (fun hg => amount_Join_ok a0.resource a1 a2 _ (hv1)) ?_
 obtain ⟨hb1, h⟩ := gd_some h
 refine g_reg hG ?_
 exact g_retm [(0, 0), (1, 1), (2, 2), (3, 3), (4, 4), (5, 5), (6, 6), (7, 8)] h
attribute [local irreducible] f_queue_Claim_1_m
end Ab
end Go.Proofs.YtdflfohpemfeiaaGreatDoor
