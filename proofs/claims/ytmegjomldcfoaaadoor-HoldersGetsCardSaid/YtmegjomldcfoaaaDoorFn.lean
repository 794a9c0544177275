/-
  Functions of the program, as Lean functions; what the program's code computes is what they say.
-/
import Derived.Test.YtmegjomldcfoaaaDoorCode
namespace Go.Proofs.YtmegjomldcfoaaaDoor
namespace Ab
set_option linter.unusedSimpArgs false
set_option linter.unusedVariables false
set_option maxRecDepth 100000
set_option maxHeartbeats 1000000

noncomputable def f_ident_compare_k1  (j1 : Unit) : Option (Int) :=
 some 0
@[go_sem] def J_ident_compare_k1  (j1 : Unit) : St := ⟨[], [], 0⟩
noncomputable def f_ident_compare_l1 (a0 : Arr Int 3) (a1 : Arr Int 3) (g1 : Int) : Option ((Int) ⊕ ((Unit) ⊕ (Int))) :=
 (if (decide (g1 < 3)) = true then
  gd (0 ≤ g1 ∧ g1 < 3) <|
  gd (0 ≤ g1 ∧ g1 < 3) <|
  (if (decide ((Arr.get a0 g1.toNat 0) < (Arr.get a1 g1.toNat 0))) = true then
   some (.inr (.inr (-1)))
  else
   gd (0 ≤ g1 ∧ g1 < 3) <|
   (if (decide ((Arr.get a1 g1.toNat 0) < (Arr.get a0 g1.toNat 0))) = true then
    some (.inr (.inr 1))
   else
    some (.inl (IntKind.i64.wrap (g1 + 1)))))
 else
  some (.inr (.inl ())))
@[go_sem] def I_ident_compare_l1 (a0 : Arr Int 3) (a1 : Arr Int 3) (g1 : Int) : St := ⟨[(3, .ptr 0 0 0), (7, .agg (Arr.enc (eI .i64) a0)), (8, .int .i64 g1)], [(0, ⟨false, 3, (Arr.enc (eI .i64) (Arr.rep 3 0)), [Arr.enc (eI .i64) a1]⟩)], 1⟩
noncomputable def f_ident_compare (a0 : Arr Int 3) (a1 : Arr Int 3) : Option (Int) :=
 (loopO (f_ident_compare_l1 a0 a1) 0).bind (fun | .inl z => f_ident_compare_k1 z | .inr z => some z)
theorem ident_compare_ok (a0 : Arr Int 3) (a1 : Arr Int 3) (r : Int) (h : f_ident_compare a0 a1 = some r) : PFn C 48 [.agg (Arr.enc (eI .i64) a0), .agg (Arr.enc (eI .i64) a1)] (.int .i64 r) := by
 refine pfn_intro chk_ident_compare rfl fun E hG hN hK => ?_
 unfold pc_ident_compare
 unfold f_ident_compare at h
 refine s_seq ?_
 refine g_reg hG ?_
 refine s_seq ?_
 refine s_seq ?_
 refine g_reg hG ?_
 refine s_blockJ (J_ident_compare_k1) (fun v => f_ident_compare_k1 v = some r) ?_ ?_
 · intro j1 h
   unfold f_ident_compare_k1 at h
   refine g_st ?_
   refine s_seq ?_
   refine g_reg hG ?_
   refine g_ret ?_
   exact g_end h
 refine g_loop (I_ident_compare_l1 a0 a1) hK [(0, 1)] h (fun x_l1 h g1 y_l1 h_l1 hx_l1 => ?_)
 unfold f_ident_compare_l1 at h_l1
 refine g_st ?_
 refine s_seq ?_
 refine g_reg hG ?_
 refine s_seq ?_
 refine g_cond rfl hG h_l1 (fun _ h_l1 => ?_) (fun _ h_l1 => ?_)
 · refine g_skip ?_
   refine s_seq ?_
   refine s_block ?_
   refine s_seq ?_
   obtain ⟨hb3, h_l1⟩ := gd_some h_l1
   refine g_reg hG ?_
   refine s_seq ?_
   refine s_seq ?_
   obtain ⟨hb2, h_l1⟩ := gd_some h_l1
   refine g_reg hG ?_
   refine g_cond rfl hG h_l1 (fun _ h_l1 => ?_) (fun _ h_l1 => ?_)
   · refine s_seq ?_
     refine g_reg hG ?_
     refine g_ret ?_
     obtain rfl := Option.some.inj h_l1
     have hx := hx_l1 _ rfl
     subst hx
     try dsimp only at h
     exact g_end h
   refine g_skip ?_
   refine s_seq ?_
   obtain ⟨hb1, h_l1⟩ := gd_some h_l1
   refine g_reg hG ?_
   refine g_cond rfl hG h_l1 (fun _ h_l1 => ?_) (fun _ h_l1 => ?_)
   · refine s_seq ?_
     refine g_reg hG ?_
     refine g_ret ?_
     obtain rfl := Option.some.inj h_l1
     have hx := hx_l1 _ rfl
     subst hx
     try dsimp only at h
     exact g_end h
   refine g_skip ?_
   refine g_reg hG ?_
   exact g_next hK [(0, 0)] h_l1
 refine g_exit ?_
 obtain rfl := Option.some.inj h_l1
 have hx := hx_l1 _ rfl
 subst hx
 try dsimp only at h
 exact g_join hK [] () (by exact h)

noncomputable def f_ident_CompareProc (a0 : Proc) (a1 : Proc) : Option (Int) :=
 (f_ident_compare (⟨[a0.site, a0.inc, a0.num], rfl⟩ : Arr Int 3) (⟨[a1.site, a1.inc, a1.num], rfl⟩ : Arr Int 3)).bind fun v1 =>
 some v1
theorem ident_CompareProc_ok (a0 : Proc) (a1 : Proc) (r : Int) (h : f_ident_CompareProc a0 a1 = some r) : PFn C 32 [.agg (Proc.enc a0), .agg (Proc.enc a1)] (.int .i64 r) := by
 refine pfn_intro chk_ident_CompareProc rfl fun E hG hN hK => ?_
 unfold pc_ident_CompareProc
 unfold f_ident_CompareProc at h
 refine s_seq ?_
 refine g_reg hG ?_
 refine s_seq ?_
 refine g_reg hG ?_
 obtain ⟨v1, hv1, h⟩ := bind_of h
 refine g_call (fun hg => ident_compare_ok (⟨[a0.site, a0.inc, a0.num], rfl⟩ : Arr Int 3) (⟨[a1.site, a1.inc, a1.num], rfl⟩ : Arr Int 3) _ (hv1)) ?_
 refine g_ret ?_
 exact g_end h

def f_amount_Zero (a0 : Amount) : Bool :=
 (decide (a0 = { Amount.zero with  }))
theorem amount_Zero_ok (a0 : Amount) : PFn C 33 [.agg (Amount.enc a0)] (.bool (f_amount_Zero a0)) := by
 generalize h : f_amount_Zero a0 = r
 refine pfn_intro chk_amount_Zero rfl fun E hG hN hK => ?_
 unfold pc_amount_Zero
 unfold f_amount_Zero at h
 refine s_seq ?_
 refine g_reg hG ?_
 refine s_seq ?_
 refine g_reg hG ?_
 refine g_ret ?_
 exact g_endT h

noncomputable def f_holders_Set_k1 (a1 : Proc) (a2 : Amount) (j1 : Int × (List Hold)) : Option ((List Hold)) :=
 (if (f_amount_Zero a2) = true then
  some j1.2
 else
  (if (decide (j1.1 < 0)) = true then
   gd (j1.2.length + 1 ≤ 4294967296) <|
   gd (0 ≤ (IntKind.i64.wrap (((j1.2.length : Nat) : Int) + 1)) ∧ (IntKind.i64.wrap (((j1.2.length : Nat) : Int) + 1)) ≤ ((j1.2.length + 1 : Nat) : Int) ∧ ((j1.2.length + 1 : Nat) : Int) ≤ ((j1.2.length + 1 : Nat) : Int)) <|
   gd (0 ≤ ((j1.2.length : Nat) : Int) ∧ ((j1.2.length : Nat) : Int) ≤ ((j1.2.length + 1 : Nat) : Int) ∧ ((j1.2.length + 1 : Nat) : Int) ≤ ((j1.2.length + 1 : Nat) : Int)) <|
   gd (0 ≤ ((j1.2.length : Nat) : Int) ∧ ((j1.2.length : Nat) : Int) < ((j1.2.length + 1 : Nat) : Int)) <|
   some (((j1.2 ++ [{ Hold.zero with  }]).take (IntKind.i64.wrap (((j1.2.length : Nat) : Int) + 1)).toNat ++ (((j1.2 ++ [{ Hold.zero with  }]).drop (((j1.2.length : Nat) : Int).toNat)).take (j1.2.length + 1 - ((j1.2.length : Nat) : Int).toNat)).take (j1.2.length + 1 - (IntKind.i64.wrap (((j1.2.length : Nat) : Int) + 1)).toNat) ++ (j1.2 ++ [{ Hold.zero with  }]).drop ((IntKind.i64.wrap (((j1.2.length : Nat) : Int) + 1)).toNat + min (((j1.2 ++ [{ Hold.zero with  }]).drop (((j1.2.length : Nat) : Int).toNat)).take (j1.2.length + 1 - ((j1.2.length : Nat) : Int).toNat)).length (j1.2.length + 1 - (IntKind.i64.wrap (((j1.2.length : Nat) : Int) + 1)).toNat))).set (((j1.2.length : Nat) : Int).toNat) (⟨a1, a2⟩ : Hold))
  else
   gd (j1.2.length + 1 ≤ 4294967296) <|
   gd (0 ≤ (IntKind.i64.wrap (j1.1 + 1)) ∧ (IntKind.i64.wrap (j1.1 + 1)) ≤ ((j1.2.length + 1 : Nat) : Int) ∧ ((j1.2.length + 1 : Nat) : Int) ≤ ((j1.2.length + 1 : Nat) : Int)) <|
   gd (0 ≤ j1.1 ∧ j1.1 ≤ ((j1.2.length + 1 : Nat) : Int) ∧ ((j1.2.length + 1 : Nat) : Int) ≤ ((j1.2.length + 1 : Nat) : Int)) <|
   gd (0 ≤ j1.1 ∧ j1.1 < ((j1.2.length + 1 : Nat) : Int)) <|
   some (((j1.2 ++ [{ Hold.zero with  }]).take (IntKind.i64.wrap (j1.1 + 1)).toNat ++ (((j1.2 ++ [{ Hold.zero with  }]).drop j1.1.toNat).take (j1.2.length + 1 - j1.1.toNat)).take (j1.2.length + 1 - (IntKind.i64.wrap (j1.1 + 1)).toNat) ++ (j1.2 ++ [{ Hold.zero with  }]).drop ((IntKind.i64.wrap (j1.1 + 1)).toNat + min (((j1.2 ++ [{ Hold.zero with  }]).drop j1.1.toNat).take (j1.2.length + 1 - j1.1.toNat)).length (j1.2.length + 1 - (IntKind.i64.wrap (j1.1 + 1)).toNat))).set j1.1.toNat (⟨a1, a2⟩ : Hold))))
@[go_sem] def J_holders_Set_k1 (a1 : Proc) (a2 : Amount) (j1 : Int × (List Hold)) : St := ⟨[(4, .ptr 0 0 0), (5, .ptr 1 0 0), (7, .own 2 0 j1.2.length), (8, .int .i64 j1.1)], [(0, ⟨false, 3, (Proc.enc Proc.zero), [Proc.enc a1]⟩), (1, ⟨false, 2, (Amount.enc Amount.zero), [Amount.enc a2]⟩), (2, ⟨false, 5, (Hold.enc Hold.zero), j1.2.map Hold.enc⟩)], 3⟩
noncomputable def f_holders_Set_l1 (a0 : List Hold) (a1 : Proc) (g1 : Int × Int × (List Hold)) : Option ((Int × Int × (List Hold)) ⊕ ((Int × (List Hold)))) :=
 (if (decide (g1.2.1 < (a0.length : Int))) = true then
  gd (0 ≤ g1.2.1 ∧ g1.2.1 < (a0.length : Int)) <|
  (if (decide ((a0.getD g1.2.1.toNat Hold.zero).proc = a1)) = true then
   some (.inl (g1.1, (IntKind.i64.wrap (g1.2.1 + 1)), g1.2.2))
  else
   ((if (decide (g1.1 < 0)) = true then f_ident_CompareProc ((a0.getD g1.2.1.toNat Hold.zero).proc) a1 else some (0))).bind fun v1 =>
   (if ((decide (g1.1 < 0)) && (decide (0 < v1))) = true then
    gd (g1.2.2.length + 1 ≤ 4294967296) <|
    some (.inl (((g1.2.2.length : Nat) : Int), (IntKind.i64.wrap (g1.2.1 + 1)), (g1.2.2 ++ [(a0.getD g1.2.1.toNat Hold.zero)])))
   else
    gd (g1.2.2.length + 1 ≤ 4294967296) <|
    some (.inl (g1.1, (IntKind.i64.wrap (g1.2.1 + 1)), (g1.2.2 ++ [(a0.getD g1.2.1.toNat Hold.zero)])))))
 else
  some (.inr (g1.1, g1.2.2)))
@[go_sem] def I_holders_Set_l1 (a0 : List Hold) (a1 : Proc) (a2 : Amount) (g1 : Int × Int × (List Hold)) : St := ⟨[(4, .ptr 0 0 0), (5, .ptr 1 0 0), (7, .own 2 0 g1.2.2.length), (8, .int .i64 g1.1), (15, .sl (a0.map Hold.enc)), (16, .int .i64 (a0.length : Int)), (17, .int .i64 g1.2.1)], [(0, ⟨false, 3, (Proc.enc Proc.zero), [Proc.enc a1]⟩), (1, ⟨false, 2, (Amount.enc Amount.zero), [Amount.enc a2]⟩), (2, ⟨false, 5, (Hold.enc Hold.zero), g1.2.2.map Hold.enc⟩)], 3⟩
noncomputable def f_holders_Set (a0 : List Hold) (a1 : Proc) (a2 : Amount) : Option ((List Hold)) :=
 gd (0 ≤ 0 ∧ 0 ≤ (IntKind.i64.wrap ((a0.length : Int) + 1)) ∧ (IntKind.i64.wrap ((a0.length : Int) + 1)) ≤ 4294967296) <|
 (loopO (f_holders_Set_l1 a0 a1) ((-1), 0, (List.replicate 0 Hold.zero))).bind (fun z => f_holders_Set_k1 a1 a2 z)
theorem holders_Set_ok (a0 : List Hold) (a1 : Proc) (a2 : Amount) (r : (List Hold)) (h : f_holders_Set a0 a1 a2 = some r) : PFn C 13 [.sl (a0.map Hold.enc), .agg (Proc.enc a1), .agg (Amount.enc a2)] (.sl (r.map Hold.enc)) := by
 refine pfn_intro chk_holders_Set rfl fun E hG hN hK => ?_
 unfold pc_holders_Set
 unfold f_holders_Set at h
 refine s_seq ?_
 refine g_reg hG ?_
 refine s_seq ?_
 obtain ⟨hb12, h⟩ := gd_some h
 refine g_reg hG ?_
 refine s_seq ?_
 refine g_reg hG ?_
 refine s_seq ?_
 refine s_seq ?_
 refine g_reg hG ?_
 refine s_blockJ (J_holders_Set_k1 a1 a2) (fun v => f_holders_Set_k1 a1 a2 v = some r) ?_ ?_
 · intro j1 h
   unfold f_holders_Set_k1 at h
   refine g_st ?_
   refine s_seq ?_
   refine s_seq ?_
   refine g_reg hG ?_
   refine g_call (fun hg => amount_Zero_ok a2) ?_
   refine g_cond rfl hG h (fun _ h => ?_) (fun _ h => ?_)
   · refine s_seq ?_
     refine g_reg hG ?_
     refine g_ret ?_
     exact g_end h
   refine g_skip ?_
   refine s_seq ?_
   refine s_seq ?_
   refine g_reg hG ?_
   refine g_cond rfl hG h (fun _ h => ?_) (fun _ h => ?_)
   · refine g_reg hG ?_
     refine s_seq ?_
     obtain ⟨hb4, h⟩ := gd_some h
     refine g_reg hG ?_
     refine s_seq ?_
     obtain ⟨hb2, h⟩ := gd_some h
     obtain ⟨hb3, h⟩ := gd_some h
     refine g_regm C_mixed hG ?_
     refine s_seq ?_
     obtain ⟨hb1, h⟩ := gd_some h
     refine g_reg hG ?_
     refine s_seq ?_
     refine g_reg hG ?_
     refine g_ret ?_
     exact g_end h
   refine g_skip ?_
   refine s_seq ?_
   obtain ⟨hb8, h⟩ := gd_some h
   refine g_reg hG ?_
   refine s_seq ?_
   obtain ⟨hb6, h⟩ := gd_some h
   obtain ⟨hb7, h⟩ := gd_some h
   refine g_regm C_mixed hG ?_
   refine s_seq ?_
   obtain ⟨hb5, h⟩ := gd_some h
   refine g_reg hG ?_
   refine s_seq ?_
   refine g_reg hG ?_
   refine g_ret ?_
   exact g_end h
 refine g_loop (I_holders_Set_l1 a0 a1 a2) hK [(0, 0), (1, 1), (2, 2)] h (fun x_l1 h g1 y_l1 h_l1 hx_l1 => ?_)
 unfold f_holders_Set_l1 at h_l1
 refine g_st ?_
 refine s_seq ?_
 refine g_reg hG ?_
 refine s_seq ?_
 refine g_cond rfl hG h_l1 (fun _ h_l1 => ?_) (fun _ h_l1 => ?_)
 · refine g_skip ?_
   refine s_seq ?_
   refine s_block ?_
   refine s_seq ?_
   obtain ⟨hb11, h_l1⟩ := gd_some h_l1
   refine g_reg hG ?_
   refine s_seq ?_
   refine s_seq ?_
   refine g_reg hG ?_
   refine g_cond rfl hG h_l1 (fun _ h_l1 => ?_) (fun _ h_l1 => ?_)
   · refine g_exit ?_
     refine g_reg hG ?_
     exact g_next hK [(0, 0), (1, 1), (2, 2)] h_l1
   refine g_skip ?_
   refine s_seq ?_
   refine s_seq ?_
   refine g_reg hG ?_
   obtain ⟨v1, hv1, h_l1⟩ := bind_of h_l1
   refine g_call (fun hg => ident_CompareProc_ok ((a0.getD g1.2.1.toNat Hold.zero).proc) a1 _ (ite_t hg hv1)) ?_
   refine g_cond rfl hG h_l1 (fun _ h_l1 => ?_) (fun _ h_l1 => ?_)
   · refine g_reg hG ?_
     obtain ⟨hb9, h_l1⟩ := gd_some h_l1
     refine g_reg hG ?_
     refine g_reg hG ?_
     exact g_next hK [(0, 0), (1, 1), (2, 4)] h_l1
   refine g_skip ?_
   obtain ⟨hb10, h_l1⟩ := gd_some h_l1
   refine g_reg hG ?_
   refine g_reg hG ?_
   exact g_next hK [(0, 0), (1, 1), (2, 4)] h_l1
 refine g_exit ?_
 obtain rfl := Option.some.inj h_l1
 have hx := hx_l1 _ rfl
 subst hx
 try dsimp only at h
 exact g_join hK [(0, 0), (1, 1), (2, 2)] (g1.1, g1.2.2) (by exact h)

def f_amount_Shaped (a0 : Resource) : Bool :=
 (if (decide (a0.kind = 1)) = true then
  (decide (a0.units = 1))
 else
  (if (decide (a0.kind = 2)) = true then
   ((decide (1 ≤ a0.units)) && (decide (a0.units ≤ 8)))
  else
   false))
theorem amount_Shaped_ok (a0 : Resource) : PFn C 43 [.agg (Resource.enc a0)] (.bool (f_amount_Shaped a0)) := by
 generalize h : f_amount_Shaped a0 = r
 refine pfn_intro chk_amount_Shaped rfl fun E hG hN hK => ?_
 unfold pc_amount_Shaped
 unfold f_amount_Shaped at h
 refine s_seq ?_
 refine g_reg hG ?_
 refine s_seq ?_
 refine s_seq ?_
 refine g_reg hG ?_
 refine s_block ?_
 refine s_seq ?_
 refine g_reg hG ?_
 refine g_cond rfl hG h (fun _ h => ?_) (fun _ h => ?_)
 · refine s_seq ?_
   refine g_reg hG ?_
   refine g_ret ?_
   exact g_endT h
 refine s_seq ?_
 refine g_reg hG ?_
 refine g_cond rfl hG h (fun _ h => ?_) (fun _ h => ?_)
 · refine s_seq ?_
   refine g_reg hG ?_
   refine g_ret ?_
   exact g_endT h
 refine g_skip ?_
 refine s_seq ?_
 refine g_reg hG ?_
 refine g_ret ?_
 exact g_endT h

def f_ident_between (a0 : Int) (a1 : Int) (a2 : Int) : Bool :=
 ((decide (a1 ≤ a0)) && (decide (a0 ≤ a2)))
theorem ident_between_ok (a0 : Int) (a1 : Int) (a2 : Int) : PFn C 56 [.int .i64 a0, .int .i64 a1, .int .i64 a2] (.bool (f_ident_between a0 a1 a2)) := by
 generalize h : f_ident_between a0 a1 a2 = r
 refine pfn_intro chk_ident_between rfl fun E hG hN hK => ?_
 unfold pc_ident_between
 unfold f_ident_between at h
 refine s_seq ?_
 refine g_reg hG ?_
 refine s_seq ?_
 refine g_reg hG ?_
 refine g_ret ?_
 exact g_endT h

def f_ident_ValidProc (a0 : Proc) : Bool :=
 (((f_ident_between a0.site 0 3) && (f_ident_between a0.inc 1 99)) && (f_ident_between a0.num 1 999))
theorem ident_ValidProc_ok (a0 : Proc) : PFn C 44 [.agg (Proc.enc a0)] (.bool (f_ident_ValidProc a0)) := by
 generalize h : f_ident_ValidProc a0 = r
 refine pfn_intro chk_ident_ValidProc rfl fun E hG hN hK => ?_
 unfold pc_ident_ValidProc
 unfold f_ident_ValidProc at h
 refine s_seq ?_
 refine g_reg hG ?_
 refine s_seq ?_
 refine g_reg hG ?_
 refine g_call (fun hg => ident_between_ok a0.site 0 3) ?_
 refine g_call (fun hg => ident_between_ok a0.inc 1 99) ?_
 refine g_call (fun hg => ident_between_ok a0.num 1 999) ?_
 refine g_ret ?_
 exact g_endT h

def f_mode_Valid (a0 : Int) : Bool :=
 ((decide (1 ≤ a0)) && (decide (a0 ≤ 5)))
theorem mode_Valid_ok (a0 : Int) : PFn C 57 [.int .i64 a0] (.bool (f_mode_Valid a0)) := by
 generalize h : f_mode_Valid a0 = r
 refine pfn_intro chk_mode_Valid rfl fun E hG hN hK => ?_
 unfold pc_mode_Valid
 unfold f_mode_Valid at h
 refine s_seq ?_
 refine g_reg hG ?_
 refine s_seq ?_
 refine g_reg hG ?_
 refine g_ret ?_
 exact g_endT h

def f_amount_Fits (a0 : Resource) (a1 : Amount) : Bool :=
 (if (!(f_amount_Shaped a0)) = true then
  false
 else
  (if (decide (a0.kind = 1)) = true then
   ((f_mode_Valid a1.mode) && (decide (a1.units = 0)))
  else
   (((decide (a1.mode = 0)) && (decide (1 ≤ a1.units))) && (decide (a1.units ≤ a0.units)))))
theorem amount_Fits_ok (a0 : Resource) (a1 : Amount) : PFn C 45 [.agg (Resource.enc a0), .agg (Amount.enc a1)] (.bool (f_amount_Fits a0 a1)) := by
 generalize h : f_amount_Fits a0 a1 = r
 refine pfn_intro chk_amount_Fits rfl fun E hG hN hK => ?_
 unfold pc_amount_Fits
 unfold f_amount_Fits at h
 refine s_seq ?_
 refine g_reg hG ?_
 refine s_seq ?_
 refine s_seq ?_
 refine g_reg hG ?_
 refine g_call (fun hg => amount_Shaped_ok a0) ?_
 refine g_cond rfl hG h (fun _ h => ?_) (fun _ h => ?_)
 · refine s_seq ?_
   refine g_reg hG ?_
   refine g_ret ?_
   exact g_endT h
 refine g_skip ?_
 refine s_seq ?_
 refine s_seq ?_
 refine g_reg hG ?_
 refine g_cond rfl hG h (fun _ h => ?_) (fun _ h => ?_)
 · refine s_seq ?_
   refine g_reg hG ?_
   refine g_call (fun hg => mode_Valid_ok a1.mode) ?_
   refine g_ret ?_
   exact g_endT h
 refine g_skip ?_
 refine s_seq ?_
 refine g_reg hG ?_
 refine g_ret ?_
 exact g_endT h

def f_amount_permitted (a0 : Resource) (a1 : Amount) : Bool :=
 ((f_amount_Shaped a0) && ((f_amount_Zero a1) || (f_amount_Fits a0 a1)))
theorem amount_permitted_ok (a0 : Resource) (a1 : Amount) : PFn C 51 [.agg (Resource.enc a0), .agg (Amount.enc a1)] (.bool (f_amount_permitted a0 a1)) := by
 generalize h : f_amount_permitted a0 a1 = r
 refine pfn_intro chk_amount_permitted rfl fun E hG hN hK => ?_
 unfold pc_amount_permitted
 unfold f_amount_permitted at h
 refine s_seq ?_
 refine g_reg hG ?_
 refine s_seq ?_
 refine g_reg hG ?_
 refine g_call (fun hg => amount_Shaped_ok a0) ?_
 refine g_call (fun hg => amount_Zero_ok a1) ?_
 refine g_call (fun hg => amount_Fits_ok a0 a1) ?_
 refine g_ret ?_
 exact g_endT h

noncomputable def f_mode_Compatible (a0 : Int) (a1 : Int) : Option (Bool) :=
 gd (((f_mode_Valid a0) && (f_mode_Valid a1)) = true → 0 ≤ (IntKind.i64.wrap (a0 - 1)) ∧ (IntKind.i64.wrap (a0 - 1)) < 5) <|
 gd (((f_mode_Valid a0) && (f_mode_Valid a1)) = true → 0 ≤ (IntKind.i64.wrap (a1 - 1)) ∧ (IntKind.i64.wrap (a1 - 1)) < 5) <|
 some (((f_mode_Valid a0) && (f_mode_Valid a1)) && (Arr.get (Arr.get glob_0 ((IntKind.i64.wrap (a0 - 1)).toNat) (Arr.rep 5 false)) ((IntKind.i64.wrap (a1 - 1)).toNat) false))
theorem mode_Compatible_ok (a0 : Int) (a1 : Int) (r : Bool) (h : f_mode_Compatible a0 a1 = some r) : PFn C 52 [.int .i64 a0, .int .i64 a1] (.bool r) := by
 refine pfn_intro chk_mode_Compatible rfl fun E hG hN hK => ?_
 unfold pc_mode_Compatible
 unfold f_mode_Compatible at h
 refine s_seq ?_
 refine g_reg hG ?_
 refine s_seq ?_
 refine g_reg hG ?_
 refine g_call (fun hg => mode_Valid_ok a0) ?_
 obtain ⟨hb1, h⟩ := gd_some h
 obtain ⟨hb2, h⟩ := gd_some h
 refine g_call (fun hg => mode_Valid_ok a1) ?_
 refine g_ret ?_
 exact g_end h

noncomputable def f_amount_Compatible_k1  (j1 : Bool) : Option (Bool) :=
 some j1
@[go_sem] def J_amount_Compatible_k1  (j1 : Bool) : St := ⟨[(5, .bool j1)], [], 0⟩
noncomputable def f_amount_Compatible_k2 (a1 : List Amount) (g1 : Int × Int × (Arr Bool 6)) (j2 : Unit) : Option ((Int × Int × (Arr Bool 6)) ⊕ ((Bool))) :=
 gd (0 ≤ (a1.getD g1.2.1.toNat Amount.zero).mode ∧ (a1.getD g1.2.1.toNat Amount.zero).mode < 6) <|
 some (.inl ((IntKind.i64.wrap (g1.1 + (a1.getD g1.2.1.toNat Amount.zero).units)), (IntKind.i64.wrap (g1.2.1 + 1)), (Arr.put g1.2.2 (((a1.getD g1.2.1.toNat Amount.zero).mode).toNat) true)))
@[go_sem] def J_amount_Compatible_k2 (a0 : Resource) (a1 : List Amount) (g1 : Int × Int × (Arr Bool 6)) (j2 : Unit) : St := ⟨[(2, .ptr 0 0 0), (5, .bool true), (6, .ptr 1 0 0), (7, .int .i64 (IntKind.i64.wrap (g1.1 + (a1.getD g1.2.1.toNat Amount.zero).units))), (9, .ptr 2 0 0), (15, .sl (a1.map Amount.enc)), (16, .int .i64 (a1.length : Int)), (17, .int .i64 g1.2.1)], [(0, ⟨false, 4, (Resource.enc Resource.zero), [Resource.enc a0]⟩), (1, ⟨false, 6, (Arr.enc eB (Arr.rep 6 false)), [Arr.enc eB g1.2.2]⟩), (2, ⟨false, 2, (Amount.enc Amount.zero), [Amount.enc (a1.getD g1.2.1.toNat Amount.zero)]⟩)], 3⟩
noncomputable def f_amount_Compatible_l2 (a1 : List Amount) (g1 : Int × Int × (Arr Bool 6)) (g2 : Int) : Option ((Int) ⊕ ((Unit) ⊕ (Bool))) :=
 (if (decide (g2 < 6)) = true then
  gd (0 ≤ g2 ∧ g2 < 6) <|
  ((if (Arr.get g1.2.2 g2.toNat false) = true then f_mode_Compatible g2 ((a1.getD g1.2.1.toNat Amount.zero).mode) else some (false))).bind fun v1 =>
  (if ((Arr.get g1.2.2 g2.toNat false) && (!v1)) = true then
   some (.inr (.inr false))
  else
   some (.inl (IntKind.i64.wrap (g2 + 1))))
 else
  some (.inr (.inl ())))
@[go_sem] def I_amount_Compatible_l2 (a0 : Resource) (a1 : List Amount) (g1 : Int × Int × (Arr Bool 6)) (g2 : Int) : St := ⟨[(2, .ptr 0 0 0), (5, .bool true), (6, .ptr 1 0 0), (7, .int .i64 (IntKind.i64.wrap (g1.1 + (a1.getD g1.2.1.toNat Amount.zero).units))), (9, .ptr 2 0 0), (15, .sl (a1.map Amount.enc)), (16, .int .i64 (a1.length : Int)), (17, .int .i64 g1.2.1), (41, .agg (Arr.enc eB g1.2.2)), (42, .int .i64 g2)], [(0, ⟨false, 4, (Resource.enc Resource.zero), [Resource.enc a0]⟩), (1, ⟨false, 6, (Arr.enc eB (Arr.rep 6 false)), [Arr.enc eB g1.2.2]⟩), (2, ⟨false, 2, (Amount.enc Amount.zero), [Amount.enc (a1.getD g1.2.1.toNat Amount.zero)]⟩)], 3⟩
noncomputable def f_amount_Compatible_l1 (a0 : Resource) (a1 : List Amount) (g1 : Int × Int × (Arr Bool 6)) : Option ((Int × Int × (Arr Bool 6)) ⊕ ((Bool))) :=
 (if (decide (g1.2.1 < (a1.length : Int))) = true then
  gd (0 ≤ g1.2.1 ∧ g1.2.1 < (a1.length : Int)) <|
  (if ((!(f_amount_permitted a0 (a1.getD g1.2.1.toNat Amount.zero))) || (decide (a0.units < (IntKind.i64.wrap (g1.1 + (a1.getD g1.2.1.toNat Amount.zero).units))))) = true then
   some (.inr false)
  else
   (if (decide ((a1.getD g1.2.1.toNat Amount.zero).mode = 0)) = true then
    some (.inl ((IntKind.i64.wrap (g1.1 + (a1.getD g1.2.1.toNat Amount.zero).units)), (IntKind.i64.wrap (g1.2.1 + 1)), g1.2.2))
   else
    (loopO (f_amount_Compatible_l2 a1 g1) 0).bind (fun | .inl z => f_amount_Compatible_k2 a1 g1 z | .inr z => some (.inr z))))
 else
  some (.inr true))
@[go_sem] def I_amount_Compatible_l1 (a0 : Resource) (a1 : List Amount) (g1 : Int × Int × (Arr Bool 6)) : St := ⟨[(2, .ptr 0 0 0), (5, .bool true), (6, .ptr 1 0 0), (7, .int .i64 g1.1), (15, .sl (a1.map Amount.enc)), (16, .int .i64 (a1.length : Int)), (17, .int .i64 g1.2.1)], [(0, ⟨false, 4, (Resource.enc Resource.zero), [Resource.enc a0]⟩), (1, ⟨false, 6, (Arr.enc eB (Arr.rep 6 false)), [Arr.enc eB g1.2.2]⟩)], 2⟩
noncomputable def f_amount_Compatible (a0 : Resource) (a1 : List Amount) : Option (Bool) :=
 (if (!(f_amount_Shaped a0)) = true then
  some false
 else
  (loopO (f_amount_Compatible_l1 a0 a1) (0, 0, (Arr.rep 6 false))).bind (fun z => f_amount_Compatible_k1 z))
theorem amount_Compatible_ok (a0 : Resource) (a1 : List Amount) (r : Bool) (h : f_amount_Compatible a0 a1 = some r) : PFn C 38 [.agg (Resource.enc a0), .sl (a1.map Amount.enc)] (.bool r) := by
 refine pfn_intro chk_amount_Compatible rfl fun E hG hN hK => ?_
 unfold pc_amount_Compatible
 unfold f_amount_Compatible at h
 refine s_seq ?_
 refine g_reg hG ?_
 refine aw_scope ?_
 refine s_seq ?_
 refine s_seq ?_
 refine g_reg hG ?_
 refine g_call (fun hg => amount_Shaped_ok a0) ?_
 refine g_cond rfl hG h (fun _ h => ?_) (fun _ h => ?_)
 · refine s_seq ?_
   refine g_reg hG ?_
   refine g_ret ?_
   exact g_end h
 refine g_skip ?_
 refine s_seq ?_
 refine g_reg hG ?_
 refine s_seq ?_
 refine g_reg hG ?_
 refine s_seq ?_
 refine g_reg hG ?_
 refine s_seq ?_
 refine g_label ?_
 refine s_seq ?_
 refine s_seq ?_
 refine g_reg hG ?_
 refine s_blockJ (J_amount_Compatible_k1) (fun v => f_amount_Compatible_k1 v = some r) ?_ ?_
 · intro j1 h
   unfold f_amount_Compatible_k1 at h
   refine g_st ?_
   refine s_seq ?_
   refine g_reg hG ?_
   refine g_ret ?_
   exact g_end h
 refine g_loop (I_amount_Compatible_l1 a0 a1) hK [(0, 0), (1, 1)] h (fun x_l1 h g1 y_l1 h_l1 hx_l1 => ?_)
 unfold f_amount_Compatible_l1 at h_l1
 refine g_st ?_
 refine s_seq ?_
 refine g_reg hG ?_
 refine s_seq ?_
 refine g_cond rfl hG h_l1 (fun _ h_l1 => ?_) (fun _ h_l1 => ?_)
 · refine g_skip ?_
   refine s_seq ?_
   refine s_block ?_
   refine s_seq ?_
   obtain ⟨hb3, h_l1⟩ := gd_some h_l1
   refine g_reg hG ?_
   refine s_seq ?_
   refine s_seq ?_
   refine g_reg hG ?_
   refine g_call (fun hg => amount_permitted_ok a0 (a1.getD g1.2.1.toNat Amount.zero)) ?_
   refine g_cond rfl hG h_l1 (fun _ h_l1 => ?_) (fun _ h_l1 => ?_)
   · refine s_seq ?_
     refine g_reg hG ?_
     refine g_exit ?_
     obtain rfl := Option.some.inj h_l1
     have hx := hx_l1 _ rfl
     subst hx
     try dsimp only at h
     exact g_join hK [] false (by exact h)
   refine g_skip ?_
   refine s_seq ?_
   refine g_reg hG ?_
   refine s_seq ?_
   refine s_seq ?_
   refine g_reg hG ?_
   refine g_cond rfl hG h_l1 (fun _ h_l1 => ?_) (fun _ h_l1 => ?_)
   · refine g_exit ?_
     refine g_reg hG ?_
     exact g_next hK [(0, 0), (1, 1)] h_l1
   refine g_skip ?_
   refine s_seq ?_
   refine s_seq ?_
   refine g_reg hG ?_
   refine s_blockJ (J_amount_Compatible_k2 a0 a1 g1) (fun v => f_amount_Compatible_k2 a1 g1 v = some y_l1) ?_ ?_
   · intro j2 h_l1
     unfold f_amount_Compatible_k2 at h_l1
     refine g_st ?_
     obtain ⟨hb1, h_l1⟩ := gd_some h_l1
     refine g_reg hG ?_
     refine g_reg hG ?_
     exact g_next hK [(0, 0), (1, 1)] h_l1
   refine g_loop (I_amount_Compatible_l2 a0 a1 g1) hK [(0, 0), (1, 1), (2, 2)] h_l1 (fun x_l2 h_l1 g2 y_l2 h_l2 hx_l2 => ?_)
   unfold f_amount_Compatible_l2 at h_l2
   refine g_st ?_
   refine s_seq ?_
   refine g_reg hG ?_
   refine s_seq ?_
   refine g_cond rfl hG h_l2 (fun _ h_l2 => ?_) (fun _ h_l2 => ?_)
   · refine g_skip ?_
     refine s_seq ?_
     refine s_block ?_
     refine s_seq ?_
     obtain ⟨hb2, h_l2⟩ := gd_some h_l2
     refine g_reg hG ?_
     refine s_seq ?_
     refine g_reg hG ?_
     obtain ⟨v1, hv1, h_l2⟩ := bind_of h_l2
     refine g_call (fun hg => mode_Compatible_ok g2 ((a1.getD g1.2.1.toNat Amount.zero).mode) _ (ite_t hg hv1)) ?_
     refine g_cond rfl hG h_l2 (fun _ h_l2 => ?_) (fun _ h_l2 => ?_)
     · refine s_seq ?_
       refine g_reg hG ?_
       refine g_exit ?_
       obtain rfl := Option.some.inj h_l2
       have hx := hx_l2 _ rfl
       subst hx
       try dsimp only at h_l1
       obtain rfl := Option.some.inj h_l1
       have hx := hx_l1 _ rfl
       subst hx
       try dsimp only at h
       exact g_join hK [] false (by exact h)
     refine g_skip ?_
     refine g_reg hG ?_
     exact g_next hK [(0, 0), (1, 1), (2, 2)] h_l2
   refine g_exit ?_
   obtain rfl := Option.some.inj h_l2
   have hx := hx_l2 _ rfl
   subst hx
   try dsimp only at h_l1
   exact g_join hK [(0, 0), (1, 1), (2, 2)] () (by exact h_l1)
 refine g_exit ?_
 obtain rfl := Option.some.inj h_l1
 have hx := hx_l1 _ rfl
 subst hx
 try dsimp only at h
 exact g_join hK [] true (by exact h)

noncomputable def f_holders_Valid_k1 (a0 : Resource) (j1 : (List Amount)) : Option (Bool) :=
 (f_amount_Compatible a0 j1).bind fun v1 =>
 some v1
@[go_sem] def J_holders_Valid_k1 (a0 : Resource) (j1 : (List Amount)) : St := ⟨[(2, .ptr 0 0 0), (5, .own 1 0 j1.length)], [(0, ⟨false, 4, (Resource.enc Resource.zero), [Resource.enc a0]⟩), (1, ⟨false, 2, (Amount.enc Amount.zero), j1.map Amount.enc⟩)], 2⟩
noncomputable def f_holders_Valid_l1 (a0 : Resource) (a1 : List Hold) (g1 : Int × (List Amount)) : Option ((Int × (List Amount)) ⊕ (((List Amount)) ⊕ (Bool))) :=
 (if (decide (g1.1 < (a1.length : Int))) = true then
  gd (0 ≤ g1.1 ∧ g1.1 < (a1.length : Int)) <|
  (if ((!(f_ident_ValidProc ((a1.getD g1.1.toNat Hold.zero).proc))) || (!(f_amount_Fits a0 ((a1.getD g1.1.toNat Hold.zero).amount)))) = true then
   some (.inr (.inr false))
  else
   gd ((decide (0 < g1.1)) = true → 0 ≤ (IntKind.i64.wrap (g1.1 - 1)) ∧ (IntKind.i64.wrap (g1.1 - 1)) < (a1.length : Int)) <|
   ((if (decide (0 < g1.1)) = true then f_ident_CompareProc ((a1.getD ((IntKind.i64.wrap (g1.1 - 1)).toNat) Hold.zero).proc) ((a1.getD g1.1.toNat Hold.zero).proc) else some (0))).bind fun v2 =>
   (if ((decide (0 < g1.1)) && (decide (0 ≤ v2))) = true then
    some (.inr (.inr false))
   else
    gd (g1.2.length + 1 ≤ 4294967296) <|
    some (.inl ((IntKind.i64.wrap (g1.1 + 1)), (g1.2 ++ [(a1.getD g1.1.toNat Hold.zero).amount])))))
 else
  some (.inr (.inl g1.2)))
@[go_sem] def I_holders_Valid_l1 (a0 : Resource) (a1 : List Hold) (g1 : Int × (List Amount)) : St := ⟨[(1, .sl (a1.map Hold.enc)), (2, .ptr 0 0 0), (5, .own 1 0 g1.2.length), (16, .sl (a1.map Hold.enc)), (17, .int .i64 (a1.length : Int)), (18, .int .i64 g1.1)], [(0, ⟨false, 4, (Resource.enc Resource.zero), [Resource.enc a0]⟩), (1, ⟨false, 2, (Amount.enc Amount.zero), g1.2.map Amount.enc⟩)], 2⟩
noncomputable def f_holders_Valid (a0 : Resource) (a1 : List Hold) : Option (Bool) :=
 (if ((!(f_amount_Shaped a0)) || (decide (8 < (a1.length : Int)))) = true then
  some false
 else
  (loopO (f_holders_Valid_l1 a0 a1) (0, [])).bind (fun | .inl z => f_holders_Valid_k1 a0 z | .inr z => some z))
theorem holders_Valid_ok (a0 : Resource) (a1 : List Hold) (r : Bool) (h : f_holders_Valid a0 a1 = some r) : PFn C 25 [.agg (Resource.enc a0), .sl (a1.map Hold.enc)] (.bool r) := by
 refine pfn_intro chk_holders_Valid rfl fun E hG hN hK => ?_
 unfold pc_holders_Valid
 unfold f_holders_Valid at h
 refine s_seq ?_
 refine g_reg hG ?_
 refine s_seq ?_
 refine s_seq ?_
 refine g_reg hG ?_
 refine g_call (fun hg => amount_Shaped_ok a0) ?_
 refine g_cond rfl hG h (fun _ h => ?_) (fun _ h => ?_)
 · refine s_seq ?_
   refine g_reg hG ?_
   refine g_ret ?_
   exact g_end h
 refine g_skip ?_
 refine s_seq ?_
 refine g_reg hG ?_
 refine s_seq ?_
 refine s_seq ?_
 refine g_reg hG ?_
 refine s_blockJ (J_holders_Valid_k1 a0) (fun v => f_holders_Valid_k1 a0 v = some r) ?_ ?_
 · intro j1 h
   unfold f_holders_Valid_k1 at h
   refine g_st ?_
   refine s_seq ?_
   refine g_reg hG ?_
   obtain ⟨v1, hv1, h⟩ := bind_of h
   refine g_call (fun hg => amount_Compatible_ok a0 j1 _ (hv1)) ?_
   refine g_ret ?_
   exact g_end h
 refine g_loop (I_holders_Valid_l1 a0 a1) hK [(0, 0), (1, 1)] h (fun x_l1 h g1 y_l1 h_l1 hx_l1 => ?_)
 unfold f_holders_Valid_l1 at h_l1
 refine g_st ?_
 refine s_seq ?_
 refine g_reg hG ?_
 refine s_seq ?_
 refine g_cond rfl hG h_l1 (fun _ h_l1 => ?_) (fun _ h_l1 => ?_)
 · refine g_skip ?_
   refine s_seq ?_
   refine s_block ?_
   refine s_seq ?_
   obtain ⟨hb3, h_l1⟩ := gd_some h_l1
   refine g_reg hG ?_
   refine s_seq ?_
   refine s_seq ?_
   refine g_reg hG ?_
   refine g_call (fun hg => ident_ValidProc_ok ((a1.getD g1.1.toNat Hold.zero).proc)) ?_
   refine g_call (fun hg => amount_Fits_ok a0 ((a1.getD g1.1.toNat Hold.zero).amount)) ?_
   refine g_cond rfl hG h_l1 (fun _ h_l1 => ?_) (fun _ h_l1 => ?_)
   · refine s_seq ?_
     refine g_reg hG ?_
     refine g_ret ?_
     obtain rfl := Option.some.inj h_l1
     have hx := hx_l1 _ rfl
     subst hx
     try dsimp only at h
     exact g_end h
   refine g_skip ?_
   refine s_seq ?_
   refine s_seq ?_
   obtain ⟨hb2, h_l1⟩ := gd_some h_l1
   refine g_regd C_mixed hG ?_
   obtain ⟨v2, hv2, h_l1⟩ := bind_of h_l1
   refine g_calld (fun hg => ident_CompareProc_ok ((a1.getD ((IntKind.i64.wrap (g1.1 - 1)).toNat) Hold.zero).proc) ((a1.getD g1.1.toNat Hold.zero).proc) _ (ite_t hg hv2)) ?_
   refine g_cond rfl hG h_l1 (fun _ h_l1 => ?_) (fun _ h_l1 => ?_)
   · refine s_seq ?_
     refine g_reg hG ?_
     refine g_ret ?_
     obtain rfl := Option.some.inj h_l1
     have hx := hx_l1 _ rfl
     subst hx
     try dsimp only at h
     exact g_end h
   refine g_skip ?_
   obtain ⟨hb1, h_l1⟩ := gd_some h_l1
   refine g_reg hG ?_
   refine g_reg hG ?_
   exact g_next hK [(0, 0), (1, 3)] h_l1
 refine g_exit ?_
 obtain rfl := Option.some.inj h_l1
 have hx := hx_l1 _ rfl
 subst hx
 try dsimp only at h
 exact g_join hK [(0, 0), (1, 1)] g1.2 (by exact h)

noncomputable def f_holders_proper (a0 : Resource) (a1 : List Hold) (a2 : Proc) (a3 : Amount) : Option (Bool) :=
 (f_holders_Valid a0 a1).bind fun v1 =>
 some ((v1 && (f_ident_ValidProc a2)) && (f_amount_Fits a0 a3))
theorem holders_proper_ok (a0 : Resource) (a1 : List Hold) (a2 : Proc) (a3 : Amount) (r : Bool) (h : f_holders_proper a0 a1 a2 a3 = some r) : PFn C 35 [.agg (Resource.enc a0), .sl (a1.map Hold.enc), .agg (Proc.enc a2), .agg (Amount.enc a3)] (.bool r) := by
 refine pfn_intro chk_holders_proper rfl fun E hG hN hK => ?_
 unfold pc_holders_proper
 unfold f_holders_proper at h
 refine s_seq ?_
 refine g_reg hG ?_
 refine s_seq ?_
 refine g_reg hG ?_
 obtain ⟨v1, hv1, h⟩ := bind_of h
 refine g_call (fun hg => holders_Valid_ok a0 a1 _ (hv1)) ?_
 refine g_call (fun hg => ident_ValidProc_ok a2) ?_
 refine g_call (fun hg => amount_Fits_ok a0 a3) ?_
 refine g_ret ?_
 exact g_end h

noncomputable def f_holders_Room (a0 : Resource) (a1 : List Hold) (a2 : Proc) (a3 : Amount) : Option (Bool) :=
 (f_holders_proper a0 a1 a2 a3).bind fun v1 =>
 ((if v1 = true then f_holders_Set a1 a2 a3 else some ([]))).bind fun v2 =>
 ((if v1 = true then f_holders_Valid a0 v2 else some (false))).bind fun v3 =>
 some (v1 && v3)
theorem holders_Room_ok (a0 : Resource) (a1 : List Hold) (a2 : Proc) (a3 : Amount) (r : Bool) (h : f_holders_Room a0 a1 a2 a3 = some r) : PFn C 15 [.agg (Resource.enc a0), .sl (a1.map Hold.enc), .agg (Proc.enc a2), .agg (Amount.enc a3)] (.bool r) := by
 refine pfn_intro chk_holders_Room rfl fun E hG hN hK => ?_
 unfold pc_holders_Room
 unfold f_holders_Room at h
 refine s_seq ?_
 refine g_reg hG ?_
 refine s_seq ?_
 refine g_regd C_mixed hG ?_
 obtain ⟨v1, hv1, h⟩ := bind_of h
 refine g_calld (fun hg => holders_proper_ok a0 a1 a2 a3 _ (hv1)) ?_
 obtain ⟨v2, hv2, h⟩ := bind_of h
 refine g_calld (fun hg => holders_Set_ok a1 a2 a3 _ (ite_t hg hv2)) ?_
 obtain ⟨v3, hv3, h⟩ := bind_of h
 refine g_calld (fun hg => holders_Valid_ok a0 v2 _ (ite_t hg hv3)) ?_
 refine g_ret ?_
 exact g_end h

noncomputable def f_holders_Against_k1  (j1 : (List Proc)) : Option ((List Proc)) :=
 some j1
@[go_sem] def J_holders_Against_k1  (j1 : (List Proc)) : St := ⟨[(9, .own 0 0 j1.length)], [(0, ⟨false, 3, (Proc.enc Proc.zero), j1.map Proc.enc⟩)], 1⟩
noncomputable def f_holders_Against_l1 (a0 : Resource) (a1 : List Hold) (a2 : Proc) (a3 : Amount) (g1 : Int × (List Proc)) : Option ((Int × (List Proc)) ⊕ (((List Proc)))) :=
 (if (decide (g1.1 < (a1.length : Int))) = true then
  gd (0 ≤ g1.1 ∧ g1.1 < (a1.length : Int)) <|
  (if (decide ((a1.getD g1.1.toNat Hold.zero).proc = a2)) = true then
   some (.inl ((IntKind.i64.wrap (g1.1 + 1)), g1.2))
  else
   ((if (decide (a0.kind = 1)) = true then f_amount_Compatible a0 [(a1.getD g1.1.toNat Hold.zero).amount, a3] else some (false))).bind fun v3 =>
   (if ((decide (a0.kind = 1)) && v3) = true then
    some (.inl ((IntKind.i64.wrap (g1.1 + 1)), g1.2))
   else
    gd (g1.2.length + 1 ≤ 4294967296) <|
    some (.inl ((IntKind.i64.wrap (g1.1 + 1)), (g1.2 ++ [(a1.getD g1.1.toNat Hold.zero).proc])))))
 else
  some (.inr g1.2))
@[go_sem] def I_holders_Against_l1 (a0 : Resource) (a1 : List Hold) (a2 : Proc) (a3 : Amount) (g1 : Int × (List Proc)) : St := ⟨[(4, .ptr 0 0 0), (6, .ptr 1 0 0), (7, .ptr 2 0 0), (9, .own 3 0 g1.2.length), (25, .sl (a1.map Hold.enc)), (26, .int .i64 (a1.length : Int)), (27, .int .i64 g1.1)], [(0, ⟨false, 4, (Resource.enc Resource.zero), [Resource.enc a0]⟩), (1, ⟨false, 3, (Proc.enc Proc.zero), [Proc.enc a2]⟩), (2, ⟨false, 2, (Amount.enc Amount.zero), [Amount.enc a3]⟩), (3, ⟨false, 3, (Proc.enc Proc.zero), g1.2.map Proc.enc⟩)], 4⟩
noncomputable def f_holders_Against (a0 : Resource) (a1 : List Hold) (a2 : Proc) (a3 : Amount) : Option ((List Proc)) :=
 (f_holders_proper a0 a1 a2 a3).bind fun v1 =>
 ((if v1 = true then f_holders_Room a0 a1 a2 a3 else some (false))).bind fun v2 =>
 (if ((!v1) || v2) = true then
  some []
 else
  (loopO (f_holders_Against_l1 a0 a1 a2 a3) (0, [])).bind (fun z => f_holders_Against_k1 z))
theorem holders_Against_ok (a0 : Resource) (a1 : List Hold) (a2 : Proc) (a3 : Amount) (r : (List Proc)) (h : f_holders_Against a0 a1 a2 a3 = some r) : PFn C 18 [.agg (Resource.enc a0), .sl (a1.map Hold.enc), .agg (Proc.enc a2), .agg (Amount.enc a3)] (.sl (r.map Proc.enc)) := by
 refine pfn_intro chk_holders_Against rfl fun E hG hN hK => ?_
 unfold pc_holders_Against
 unfold f_holders_Against at h
 refine s_seq ?_
 refine g_reg hG ?_
 refine s_seq ?_
 refine s_seq ?_
 refine g_reg hG ?_
 obtain ⟨v1, hv1, h⟩ := bind_of h
 refine g_call (fun hg => holders_proper_ok a0 a1 a2 a3 _ (hv1)) ?_
 obtain ⟨v2, hv2, h⟩ := bind_of h
 refine g_call (fun hg => holders_Room_ok a0 a1 a2 a3 _ (ite_t hg hv2)) ?_
 refine g_cond rfl hG h (fun _ h => ?_) (fun _ h => ?_)
 · refine s_seq ?_
   refine g_reg hG ?_
   refine g_ret ?_
   exact g_end h
 refine g_skip ?_
 refine s_seq ?_
 refine g_reg hG ?_
 refine s_seq ?_
 refine s_seq ?_
 refine g_reg hG ?_
 refine s_blockJ (J_holders_Against_k1) (fun v => f_holders_Against_k1 v = some r) ?_ ?_
 · intro j1 h
   unfold f_holders_Against_k1 at h
   refine g_st ?_
   refine s_seq ?_
   refine g_reg hG ?_
   refine g_ret ?_
   exact g_end h
 refine g_loop (I_holders_Against_l1 a0 a1 a2 a3) hK [(0, 0), (1, 1), (2, 2), (3, 3)] h (fun x_l1 h g1 y_l1 h_l1 hx_l1 => ?_)
 unfold f_holders_Against_l1 at h_l1
 refine g_st ?_
 refine s_seq ?_
 refine g_reg hG ?_
 refine s_seq ?_
 refine g_cond rfl hG h_l1 (fun _ h_l1 => ?_) (fun _ h_l1 => ?_)
 · refine g_skip ?_
   refine s_seq ?_
   refine s_block ?_
   refine s_seq ?_
   obtain ⟨hb2, h_l1⟩ := gd_some h_l1
   refine g_reg hG ?_
   refine s_seq ?_
   refine s_seq ?_
   refine g_reg hG ?_
   refine g_cond rfl hG h_l1 (fun _ h_l1 => ?_) (fun _ h_l1 => ?_)
   · refine g_exit ?_
     refine g_reg hG ?_
     exact g_next hK [(0, 0), (1, 1), (2, 2), (3, 3)] h_l1
   refine g_skip ?_
   refine s_seq ?_
   refine s_seq ?_
   refine g_reg hG ?_
   obtain ⟨v3, hv3, h_l1⟩ := bind_of h_l1
   refine g_call (fun hg => PFn.unfull (amount_Compatible_ok a0 [(a1.getD g1.1.toNat Hold.zero).amount, a3] _ (ite_t hg hv3))) ?_
   refine g_cond rfl hG h_l1 (fun _ h_l1 => ?_) (fun _ h_l1 => ?_)
   · refine g_exit ?_
     refine g_reg hG ?_
     exact g_next hK [(0, 0), (1, 1), (2, 2), (3, 3)] h_l1
   refine g_skip ?_
   obtain ⟨hb1, h_l1⟩ := gd_some h_l1
   refine g_reg hG ?_
   refine g_reg hG ?_
   exact g_next hK [(0, 0), (1, 1), (2, 2), (3, 5)] h_l1
 refine g_exit ?_
 obtain rfl := Option.some.inj h_l1
 have hx := hx_l1 _ rfl
 subst hx
 try dsimp only at h
 exact g_join hK [(0, 3)] g1.2 (by exact h)

noncomputable def f_law10_awake  : Option (Bool) :=
 (f_holders_Set [] ({ Proc.zero with inc := 1, num := 2 }) ({ Amount.zero with mode := 1 })).bind fun v1 =>
 (f_holders_Set v1 ({ Proc.zero with inc := 1, num := 1 }) ({ Amount.zero with mode := 2 })).bind fun v2 =>
 (f_holders_Against ({ Resource.zero with name := (⟨#[97]⟩ : ByteArray), kind := 1, units := 1 }) v2 ({ Proc.zero with inc := 1, num := 2 }) ({ Amount.zero with mode := 3 })).bind fun v3 =>
 gd ((decide ((v2.length : Int) = 2)) = true → 0 ≤ 0 ∧ 0 < (v2.length : Int)) <|
 ((if ((decide ((v2.length : Int) = 2)) && (decide ((v2.getD 0 Hold.zero).proc = { Proc.zero with inc := 1, num := 1 }))) = true then f_holders_Valid ({ Resource.zero with name := (⟨#[97]⟩ : ByteArray), kind := 1, units := 1 }) v2 else some (false))).bind fun v4 =>
 gd (((((decide ((v2.length : Int) = 2)) && (decide ((v2.getD 0 Hold.zero).proc = { Proc.zero with inc := 1, num := 1 }))) && v4) && (decide ((v3.length : Int) = 1))) = true → 0 ≤ 0 ∧ 0 < (v3.length : Int)) <|
 ((if (((((decide ((v2.length : Int) = 2)) && (decide ((v2.getD 0 Hold.zero).proc = { Proc.zero with inc := 1, num := 1 }))) && v4) && (decide ((v3.length : Int) = 1))) && (decide ((v3.getD 0 Proc.zero) = { Proc.zero with inc := 1, num := 1 }))) = true then f_holders_Room ({ Resource.zero with name := (⟨#[97]⟩ : ByteArray), kind := 1, units := 1 }) v2 ({ Proc.zero with inc := 1, num := 2 }) ({ Amount.zero with mode := 2 }) else some (false))).bind fun v5 =>
 some ((((((decide ((v2.length : Int) = 2)) && (decide ((v2.getD 0 Hold.zero).proc = { Proc.zero with inc := 1, num := 1 }))) && v4) && (decide ((v3.length : Int) = 1))) && (decide ((v3.getD 0 Proc.zero) = { Proc.zero with inc := 1, num := 1 }))) && v5)
theorem law10_awake_ok  (r : Bool) (h : f_law10_awake = some r) : PFn C 11 [] (.bool r) := by
 refine pfn_intro chk_law10_awake rfl fun E hG hN hK => ?_
 unfold pc_law10_awake
 unfold f_law10_awake at h
 refine s_seq ?_
 refine g_reg hG ?_
 refine s_seq ?_
 refine g_reg hG ?_
 refine s_seq ?_
 refine g_reg hG ?_
 refine s_seq ?_
 refine g_regd C_mixed hG ?_
 obtain ⟨v1, hv1, h⟩ := bind_of h
 refine g_calld (fun hg => PFn.unfull (holders_Set_ok [] ({ Proc.zero with inc := 1, num := 2 }) ({ Amount.zero with mode := 1 }) _ (hv1))) ?_
 obtain ⟨v2, hv2, h⟩ := bind_of h
 refine g_calld (fun hg => holders_Set_ok v1 ({ Proc.zero with inc := 1, num := 1 }) ({ Amount.zero with mode := 2 }) _ (hv2)) ?_
 refine s_seq ?_
 refine g_reg hG ?_
 obtain ⟨v3, hv3, h⟩ := bind_of h
 refine g_call (fun hg => holders_Against_ok ({ Resource.zero with name := (⟨#[97]⟩ : ByteArray), kind := 1, units := 1 }) v2 ({ Proc.zero with inc := 1, num := 2 }) ({ Amount.zero with mode := 3 }) _ (hv3)) ?_
 refine s_seq ?_
 obtain ⟨hb1, h⟩ := gd_some h
 refine g_regd C_mixed hG ?_
 obtain ⟨v4, hv4, h⟩ := bind_of h
 obtain ⟨hb2, h⟩ := gd_some h
 refine g_calld (fun hg => holders_Valid_ok ({ Resource.zero with name := (⟨#[97]⟩ : ByteArray), kind := 1, units := 1 }) v2 _ (ite_t hg hv4)) ?_
 obtain ⟨v5, hv5, h⟩ := bind_of h
 refine g_calld (fun hg => holders_Room_ok ({ Resource.zero with name := (⟨#[97]⟩ : ByteArray), kind := 1, units := 1 }) v2 ({ Proc.zero with inc := 1, num := 2 }) ({ Amount.zero with mode := 2 }) _ (ite_t hg hv5)) ?_
 refine g_ret ?_
 exact g_end h

def f_ref04_Zero (a0 : Amount) : Bool :=
 (decide (a0 = { Amount.zero with  }))
theorem ref04_Zero_ok (a0 : Amount) : PFn C 28 [.agg (Amount.enc a0)] (.bool (f_ref04_Zero a0)) := by
 generalize h : f_ref04_Zero a0 = r
 refine pfn_intro chk_ref04_Zero rfl fun E hG hN hK => ?_
 unfold pc_ref04_Zero
 unfold f_ref04_Zero at h
 refine s_seq ?_
 refine g_reg hG ?_
 refine s_seq ?_
 refine g_reg hG ?_
 refine g_ret ?_
 exact g_endT h

def f_ref02_Order (a0 : Int) (a1 : Int) : Int :=
 (if (decide (a0 < a1)) = true then
  (-1)
 else
  (if (decide (a1 < a0)) = true then
   1
  else
   0))
theorem ref02_Order_ok (a0 : Int) (a1 : Int) : PFn C 49 [.int .i64 a0, .int .i64 a1] (.int .i64 (f_ref02_Order a0 a1)) := by
 generalize h : f_ref02_Order a0 a1 = r
 refine pfn_intro chk_ref02_Order rfl fun E hG hN hK => ?_
 unfold pc_ref02_Order
 unfold f_ref02_Order at h
 refine s_seq ?_
 refine g_reg hG ?_
 refine s_seq ?_
 refine s_seq ?_
 refine g_reg hG ?_
 refine g_cond rfl hG h (fun _ h => ?_) (fun _ h => ?_)
 · refine s_seq ?_
   refine g_reg hG ?_
   refine g_ret ?_
   exact g_endT h
 refine g_skip ?_
 refine s_seq ?_
 refine s_seq ?_
 refine g_reg hG ?_
 refine g_cond rfl hG h (fun _ h => ?_) (fun _ h => ?_)
 · refine s_seq ?_
   refine g_reg hG ?_
   refine g_ret ?_
   exact g_endT h
 refine g_skip ?_
 refine s_seq ?_
 refine g_reg hG ?_
 refine g_ret ?_
 exact g_endT h

def f_ref02_CompareProc (a0 : Proc) (a1 : Proc) : Int :=
 (if (!decide ((f_ref02_Order a0.site a1.site) = 0)) = true then
  (f_ref02_Order a0.site a1.site)
 else
  (if (!decide ((f_ref02_Order a0.inc a1.inc) = 0)) = true then
   (f_ref02_Order a0.inc a1.inc)
  else
   (f_ref02_Order a0.num a1.num)))
theorem ref02_CompareProc_ok (a0 : Proc) (a1 : Proc) : PFn C 34 [.agg (Proc.enc a0), .agg (Proc.enc a1)] (.int .i64 (f_ref02_CompareProc a0 a1)) := by
 generalize h : f_ref02_CompareProc a0 a1 = r
 refine pfn_intro chk_ref02_CompareProc rfl fun E hG hN hK => ?_
 unfold pc_ref02_CompareProc
 unfold f_ref02_CompareProc at h
 refine s_seq ?_
 refine g_reg hG ?_
 refine s_seq ?_
 refine s_seq ?_
 refine g_reg hG ?_
 refine g_call (fun hg => ref02_Order_ok a0.site a1.site) ?_
 refine s_seq ?_
 refine g_reg hG ?_
 refine g_cond rfl hG h (fun _ h => ?_) (fun _ h => ?_)
 · refine s_seq ?_
   refine g_reg hG ?_
   refine g_ret ?_
   exact g_endT h
 refine g_skip ?_
 refine s_seq ?_
 refine s_seq ?_
 refine g_reg hG ?_
 refine g_call (fun hg => ref02_Order_ok a0.inc a1.inc) ?_
 refine s_seq ?_
 refine g_reg hG ?_
 refine g_cond rfl hG h (fun _ h => ?_) (fun _ h => ?_)
 · refine s_seq ?_
   refine g_reg hG ?_
   refine g_ret ?_
   exact g_endT h
 refine g_skip ?_
 refine s_seq ?_
 refine g_reg hG ?_
 refine g_call (fun hg => ref02_Order_ok a0.num a1.num) ?_
 refine g_ret ?_
 exact g_endT h

noncomputable def f_ref10_Set_k1 (a1 : Proc) (a2 : Amount) (j1 : Bool × (List Hold)) : Option ((List Hold)) :=
 (if (!j1.1) = true then
  gd (j1.2.length + 1 ≤ 4294967296) <|
  some (j1.2 ++ [(⟨a1, a2⟩ : Hold)])
 else
  some j1.2)
@[go_sem] def J_ref10_Set_k1 (a1 : Proc) (a2 : Amount) (j1 : Bool × (List Hold)) : St := ⟨[(4, .ptr 0 0 0), (5, .ptr 1 0 0), (7, .own 2 0 j1.2.length), (8, .bool j1.1)], [(0, ⟨false, 3, (Proc.enc Proc.zero), [Proc.enc a1]⟩), (1, ⟨false, 2, (Amount.enc Amount.zero), [Amount.enc a2]⟩), (2, ⟨false, 5, (Hold.enc Hold.zero), j1.2.map Hold.enc⟩)], 3⟩
noncomputable def f_ref10_Set_l1 (a0 : List Hold) (a1 : Proc) (a2 : Amount) (g1 : Bool × Int × (List Hold)) : Option ((Bool × Int × (List Hold)) ⊕ ((Bool × (List Hold)))) :=
 (if (decide (g1.2.1 < (a0.length : Int))) = true then
  gd (0 ≤ g1.2.1 ∧ g1.2.1 < (a0.length : Int)) <|
  (if (decide ((a0.getD g1.2.1.toNat Hold.zero).proc = a1)) = true then
   some (.inl (g1.1, (IntKind.i64.wrap (g1.2.1 + 1)), g1.2.2))
  else
   gd ((!g1.1) = true → 0 ≤ g1.2.1 ∧ g1.2.1 < (a0.length : Int)) <|
   (if ((!g1.1) && (decide (0 < (f_ref02_CompareProc ((a0.getD g1.2.1.toNat Hold.zero).proc) a1)))) = true then
    gd (g1.2.2.length + 1 ≤ 4294967296) <|
    gd (0 ≤ g1.2.1 ∧ g1.2.1 < (a0.length : Int)) <|
    gd (g1.2.2.length + 1 + 1 ≤ 4294967296) <|
    some (.inl (true, (IntKind.i64.wrap (g1.2.1 + 1)), ((g1.2.2 ++ [(⟨a1, a2⟩ : Hold)]) ++ [(a0.getD g1.2.1.toNat Hold.zero)])))
   else
    gd (0 ≤ g1.2.1 ∧ g1.2.1 < (a0.length : Int)) <|
    gd (g1.2.2.length + 1 ≤ 4294967296) <|
    some (.inl (g1.1, (IntKind.i64.wrap (g1.2.1 + 1)), (g1.2.2 ++ [(a0.getD g1.2.1.toNat Hold.zero)])))))
 else
  some (.inr (g1.1, g1.2.2)))
@[go_sem] def I_ref10_Set_l1 (a0 : List Hold) (a1 : Proc) (a2 : Amount) (g1 : Bool × Int × (List Hold)) : St := ⟨[(0, .sl (a0.map Hold.enc)), (4, .ptr 0 0 0), (5, .ptr 1 0 0), (7, .own 2 0 g1.2.2.length), (8, .bool g1.1), (9, .int .i64 g1.2.1)], [(0, ⟨false, 3, (Proc.enc Proc.zero), [Proc.enc a1]⟩), (1, ⟨false, 2, (Amount.enc Amount.zero), [Amount.enc a2]⟩), (2, ⟨false, 5, (Hold.enc Hold.zero), g1.2.2.map Hold.enc⟩)], 3⟩
noncomputable def f_ref10_Set (a0 : List Hold) (a1 : Proc) (a2 : Amount) : Option ((List Hold)) :=
 (loopO (f_ref10_Set_l1 a0 a1 a2) ((f_ref04_Zero a2), 0, [])).bind (fun z => f_ref10_Set_k1 a1 a2 z)
theorem ref10_Set_ok (a0 : List Hold) (a1 : Proc) (a2 : Amount) (r : (List Hold)) (h : f_ref10_Set a0 a1 a2 = some r) : PFn C 14 [.sl (a0.map Hold.enc), .agg (Proc.enc a1), .agg (Amount.enc a2)] (.sl (r.map Hold.enc)) := by
 refine pfn_intro chk_ref10_Set rfl fun E hG hN hK => ?_
 unfold pc_ref10_Set
 unfold f_ref10_Set at h
 refine s_seq ?_
 refine g_reg hG ?_
 refine s_seq ?_
 refine g_reg hG ?_
 refine s_seq ?_
 refine g_reg hG ?_
 refine g_call (fun hg => ref04_Zero_ok a2) ?_
 refine s_seq ?_
 refine s_seq ?_
 refine g_reg hG ?_
 refine s_blockJ (J_ref10_Set_k1 a1 a2) (fun v => f_ref10_Set_k1 a1 a2 v = some r) ?_ ?_
 · intro j1 h
   unfold f_ref10_Set_k1 at h
   refine g_st ?_
   refine s_seq ?_
   refine s_seq ?_
   refine g_reg hG ?_
   refine g_cond rfl hG h (fun _ h => ?_) (fun _ h => ?_)
   · obtain ⟨hb1, h⟩ := gd_some h
     refine g_reg hG ?_
     refine s_seq ?_
     refine g_reg hG ?_
     refine g_ret ?_
     exact g_end h
   refine g_skip ?_
   refine s_seq ?_
   refine g_reg hG ?_
   refine g_ret ?_
   exact g_end h
 refine g_loop (I_ref10_Set_l1 a0 a1 a2) hK [(0, 0), (1, 1), (2, 2)] h (fun x_l1 h g1 y_l1 h_l1 hx_l1 => ?_)
 unfold f_ref10_Set_l1 at h_l1
 refine g_st ?_
 refine s_seq ?_
 refine s_seq ?_
 refine g_reg hG ?_
 refine g_cond rfl hG h_l1 (fun _ h_l1 => ?_) (fun _ h_l1 => ?_)
 · refine g_skip ?_
   refine s_seq ?_
   refine s_block ?_
   refine s_seq ?_
   refine s_seq ?_
   obtain ⟨hb8, h_l1⟩ := gd_some h_l1
   refine g_regd C_mixed hG ?_
   refine g_cond rfl hG h_l1 (fun _ h_l1 => ?_) (fun _ h_l1 => ?_)
   · refine g_exit ?_
     refine g_reg hG ?_
     exact g_next hK [(0, 0), (1, 1), (2, 2)] h_l1
   refine g_skip ?_
   refine s_seq ?_
   refine s_seq ?_
   obtain ⟨hb7, h_l1⟩ := gd_some h_l1
   refine g_regd C_mixed hG ?_
   refine g_calld (fun hg => ref02_CompareProc_ok ((a0.getD g1.2.1.toNat Hold.zero).proc) a1) ?_
   refine g_cond rfl hG h_l1 (fun _ h_l1 => ?_) (fun _ h_l1 => ?_)
   · refine s_seq ?_
     obtain ⟨hb4, h_l1⟩ := gd_some h_l1
     refine g_reg hG ?_
     refine g_reg hG ?_
     obtain ⟨hb2, h_l1⟩ := gd_some h_l1
     obtain ⟨hb3, h_l1⟩ := gd_some h_l1
     refine g_reg hG ?_
     refine g_reg hG ?_
     exact g_next hK [(0, 0), (1, 1), (2, 4)] h_l1
   refine g_skip ?_
   obtain ⟨hb5, h_l1⟩ := gd_some h_l1
   obtain ⟨hb6, h_l1⟩ := gd_some h_l1
   refine g_reg hG ?_
   refine g_reg hG ?_
   exact g_next hK [(0, 0), (1, 1), (2, 3)] h_l1
 refine g_exit ?_
 obtain rfl := Option.some.inj h_l1
 have hx := hx_l1 _ rfl
 subst hx
 try dsimp only at h
 exact g_join hK [(0, 0), (1, 1), (2, 2)] (g1.1, g1.2.2) (by exact h)

noncomputable def f_ref10_SameHolds_k1  (j1 : Unit) : Option (Bool) :=
 some true
@[go_sem] def J_ref10_SameHolds_k1  (j1 : Unit) : St := ⟨[], [], 0⟩
noncomputable def f_ref10_SameHolds_l1 (a0 : List Hold) (a1 : List Hold) (g1 : Int) : Option ((Int) ⊕ ((Unit) ⊕ (Bool))) :=
 (if (decide (g1 < (a0.length : Int))) = true then
  gd (0 ≤ g1 ∧ g1 < (a0.length : Int)) <|
  gd (0 ≤ g1 ∧ g1 < (a1.length : Int)) <|
  (if (!decide ((a0.getD g1.toNat Hold.zero) = (a1.getD g1.toNat Hold.zero))) = true then
   some (.inr (.inr false))
  else
   some (.inl (IntKind.i64.wrap (g1 + 1))))
 else
  some (.inr (.inl ())))
@[go_sem] def I_ref10_SameHolds_l1 (a0 : List Hold) (a1 : List Hold) (g1 : Int) : St := ⟨[(0, .sl (a0.map Hold.enc)), (1, .sl (a1.map Hold.enc)), (5, .int .i64 g1)], [], 0⟩
noncomputable def f_ref10_SameHolds (a0 : List Hold) (a1 : List Hold) : Option (Bool) :=
 (if (!decide ((a0.length : Int) = (a1.length : Int))) = true then
  some false
 else
  (loopO (f_ref10_SameHolds_l1 a0 a1) 0).bind (fun | .inl z => f_ref10_SameHolds_k1 z | .inr z => some z))
theorem ref10_SameHolds_ok (a0 : List Hold) (a1 : List Hold) (r : Bool) (h : f_ref10_SameHolds a0 a1 = some r) : PFn C 12 [.sl (a0.map Hold.enc), .sl (a1.map Hold.enc)] (.bool r) := by
 refine pfn_intro chk_ref10_SameHolds rfl fun E hG hN hK => ?_
 unfold pc_ref10_SameHolds
 unfold f_ref10_SameHolds at h
 refine s_seq ?_
 refine g_reg hG ?_
 refine s_seq ?_
 refine s_seq ?_
 refine g_reg hG ?_
 refine g_cond rfl hG h (fun _ h => ?_) (fun _ h => ?_)
 · refine s_seq ?_
   refine g_reg hG ?_
   refine g_ret ?_
   exact g_end h
 refine g_skip ?_
 refine s_seq ?_
 refine s_seq ?_
 refine g_reg hG ?_
 refine s_blockJ (J_ref10_SameHolds_k1) (fun v => f_ref10_SameHolds_k1 v = some r) ?_ ?_
 · intro j1 h
   unfold f_ref10_SameHolds_k1 at h
   refine g_st ?_
   refine s_seq ?_
   refine g_reg hG ?_
   refine g_ret ?_
   exact g_end h
 refine g_loop (I_ref10_SameHolds_l1 a0 a1) hK [] h (fun x_l1 h g1 y_l1 h_l1 hx_l1 => ?_)
 unfold f_ref10_SameHolds_l1 at h_l1
 refine g_st ?_
 refine s_seq ?_
 refine s_seq ?_
 refine g_reg hG ?_
 refine g_cond rfl hG h_l1 (fun _ h_l1 => ?_) (fun _ h_l1 => ?_)
 · refine g_skip ?_
   refine s_seq ?_
   refine s_block ?_
   refine s_seq ?_
   obtain ⟨hb1, h_l1⟩ := gd_some h_l1
   obtain ⟨hb2, h_l1⟩ := gd_some h_l1
   refine g_regd C_mixed hG ?_
   refine g_cond rfl hG h_l1 (fun _ h_l1 => ?_) (fun _ h_l1 => ?_)
   · refine s_seq ?_
     refine g_reg hG ?_
     refine g_ret ?_
     obtain rfl := Option.some.inj h_l1
     have hx := hx_l1 _ rfl
     subst hx
     try dsimp only at h
     exact g_end h
   refine g_skip ?_
   refine g_reg hG ?_
   exact g_next hK [] h_l1
 refine g_exit ?_
 obtain rfl := Option.some.inj h_l1
 have hx := hx_l1 _ rfl
 subst hx
 try dsimp only at h
 exact g_join hK [] () (by exact h)

noncomputable def f_law10_HoldersSets (a0 : List Hold) (a1 : Proc) (a2 : Amount) : Option (Bool) :=
 (if (decide (100 < (a0.length : Int))) = true then
  (f_law10_awake).bind fun v1 =>
  some v1
 else
  (f_law10_awake).bind fun v2 =>
  ((if v2 = true then f_holders_Set a0 a1 a2 else some ([]))).bind fun v3 =>
  ((if v2 = true then f_ref10_Set a0 a1 a2 else some ([]))).bind fun v4 =>
  ((if v2 = true then f_ref10_SameHolds v3 v4 else some (false))).bind fun v5 =>
  some (v2 && v5))
theorem law10_HoldersSets_ok (a0 : List Hold) (a1 : Proc) (a2 : Amount) (r : Bool) (h : f_law10_HoldersSets a0 a1 a2 = some r) : PFn C 3 [.sl (a0.map Hold.enc), .agg (Proc.enc a1), .agg (Amount.enc a2)] (.bool r) := by
 refine pfn_intro chk_law10_HoldersSets rfl fun E hG hN hK => ?_
 unfold pc_law10_HoldersSets
 unfold f_law10_HoldersSets at h
 refine s_seq ?_
 refine g_reg hG ?_
 refine s_seq ?_
 refine s_seq ?_
 refine g_reg hG ?_
 refine g_cond rfl hG h (fun _ h => ?_) (fun _ h => ?_)
 · refine s_seq ?_
   refine g_reg hG ?_
   obtain ⟨v1, hv1, h⟩ := bind_of h
   refine g_call (fun hg => law10_awake_ok  _ (hv1)) ?_
   refine g_ret ?_
   exact g_end h
 refine g_skip ?_
 refine s_seq ?_
 refine g_regd C_mixed hG ?_
 obtain ⟨v2, hv2, h⟩ := bind_of h
 refine g_calld (fun hg => law10_awake_ok  _ (hv2)) ?_
 obtain ⟨v3, hv3, h⟩ := bind_of h
 refine g_calld (fun hg => holders_Set_ok a0 a1 a2 _ (ite_t hg hv3)) ?_
 obtain ⟨v4, hv4, h⟩ := bind_of h
 refine g_calld (fun hg => ref10_Set_ok a0 a1 a2 _ (ite_t hg hv4)) ?_
 obtain ⟨v5, hv5, h⟩ := bind_of h
 refine g_calld (fun hg => ref10_SameHolds_ok v3 v4 _ (ite_t hg hv5)) ?_
 refine g_ret ?_
 exact g_end h

def f_ref04_Shaped (a0 : Resource) : Bool :=
 (((decide (a0.kind = 1)) && (decide (a0.units = 1))) || (((decide (a0.kind = 2)) && (decide (1 ≤ a0.units))) && (decide (a0.units ≤ 8))))
theorem ref04_Shaped_ok (a0 : Resource) : PFn C 46 [.agg (Resource.enc a0)] (.bool (f_ref04_Shaped a0)) := by
 generalize h : f_ref04_Shaped a0 = r
 refine pfn_intro chk_ref04_Shaped rfl fun E hG hN hK => ?_
 unfold pc_ref04_Shaped
 unfold f_ref04_Shaped at h
 refine s_seq ?_
 refine g_reg hG ?_
 refine s_seq ?_
 refine g_reg hG ?_
 refine g_ret ?_
 exact g_endT h

def f_ref02_ValidProc (a0 : Proc) : Bool :=
 ((((((decide (0 ≤ a0.site)) && (decide (a0.site < 4))) && (decide (1 ≤ a0.inc))) && (decide (a0.inc ≤ 99))) && (decide (1 ≤ a0.num))) && (decide (a0.num ≤ 999)))
theorem ref02_ValidProc_ok (a0 : Proc) : PFn C 36 [.agg (Proc.enc a0)] (.bool (f_ref02_ValidProc a0)) := by
 generalize h : f_ref02_ValidProc a0 = r
 refine pfn_intro chk_ref02_ValidProc rfl fun E hG hN hK => ?_
 unfold pc_ref02_ValidProc
 unfold f_ref02_ValidProc at h
 refine s_seq ?_
 refine g_reg hG ?_
 refine s_seq ?_
 refine g_reg hG ?_
 refine g_ret ?_
 exact g_endT h

def f_ref03_Valid (a0 : Int) : Bool :=
 ((decide (1 ≤ a0)) && (decide (a0 ≤ 5)))
theorem ref03_Valid_ok (a0 : Int) : PFn C 50 [.int .i64 a0] (.bool (f_ref03_Valid a0)) := by
 generalize h : f_ref03_Valid a0 = r
 refine pfn_intro chk_ref03_Valid rfl fun E hG hN hK => ?_
 unfold pc_ref03_Valid
 unfold f_ref03_Valid at h
 refine s_seq ?_
 refine g_reg hG ?_
 refine s_seq ?_
 refine g_reg hG ?_
 refine g_ret ?_
 exact g_endT h

def f_ref04_Fits (a0 : Resource) (a1 : Amount) : Bool :=
 (if (!(f_ref04_Shaped a0)) = true then
  false
 else
  (if (decide (a0.kind = 1)) = true then
   ((f_ref03_Valid a1.mode) && (decide (a1.units = 0)))
  else
   (((decide (a1.mode = 0)) && (decide (1 ≤ a1.units))) && (decide (a1.units ≤ a0.units)))))
theorem ref04_Fits_ok (a0 : Resource) (a1 : Amount) : PFn C 37 [.agg (Resource.enc a0), .agg (Amount.enc a1)] (.bool (f_ref04_Fits a0 a1)) := by
 generalize h : f_ref04_Fits a0 a1 = r
 refine pfn_intro chk_ref04_Fits rfl fun E hG hN hK => ?_
 unfold pc_ref04_Fits
 unfold f_ref04_Fits at h
 refine s_seq ?_
 refine g_reg hG ?_
 refine s_seq ?_
 refine s_seq ?_
 refine g_reg hG ?_
 refine g_call (fun hg => ref04_Shaped_ok a0) ?_
 refine g_cond rfl hG h (fun _ h => ?_) (fun _ h => ?_)
 · refine s_seq ?_
   refine g_reg hG ?_
   refine g_ret ?_
   exact g_endT h
 refine g_skip ?_
 refine s_seq ?_
 refine s_seq ?_
 refine g_reg hG ?_
 refine g_cond rfl hG h (fun _ h => ?_) (fun _ h => ?_)
 · refine s_seq ?_
   refine g_reg hG ?_
   refine g_call (fun hg => ref03_Valid_ok a1.mode) ?_
   refine g_ret ?_
   exact g_endT h
 refine g_skip ?_
 refine s_seq ?_
 refine g_reg hG ?_
 refine g_ret ?_
 exact g_endT h

noncomputable def f_ref10_Amounts_k1  (j1 : (List Amount)) : Option ((List Amount)) :=
 some j1
@[go_sem] def J_ref10_Amounts_k1  (j1 : (List Amount)) : St := ⟨[(3, .own 0 0 j1.length)], [(0, ⟨false, 2, (Amount.enc Amount.zero), j1.map Amount.enc⟩)], 1⟩
noncomputable def f_ref10_Amounts_l1 (a0 : List Hold) (g1 : Int × (List Amount)) : Option ((Int × (List Amount)) ⊕ (((List Amount)))) :=
 (if (decide (g1.1 < (a0.length : Int))) = true then
  gd (0 ≤ g1.1 ∧ g1.1 < (a0.length : Int)) <|
  gd (g1.2.length + 1 ≤ 4294967296) <|
  some (.inl ((IntKind.i64.wrap (g1.1 + 1)), (g1.2 ++ [(a0.getD g1.1.toNat Hold.zero).amount])))
 else
  some (.inr g1.2))
@[go_sem] def I_ref10_Amounts_l1 (a0 : List Hold) (g1 : Int × (List Amount)) : St := ⟨[(0, .sl (a0.map Hold.enc)), (3, .own 0 0 g1.2.length), (4, .int .i64 g1.1)], [(0, ⟨false, 2, (Amount.enc Amount.zero), g1.2.map Amount.enc⟩)], 1⟩
noncomputable def f_ref10_Amounts (a0 : List Hold) : Option ((List Amount)) :=
 (loopO (f_ref10_Amounts_l1 a0) (0, [])).bind (fun z => f_ref10_Amounts_k1 z)
theorem ref10_Amounts_ok (a0 : List Hold) (r : (List Amount)) (h : f_ref10_Amounts a0 = some r) : PFn C 47 [.sl (a0.map Hold.enc)] (.sl (r.map Amount.enc)) := by
 refine pfn_intro chk_ref10_Amounts rfl fun E hG hN hK => ?_
 unfold pc_ref10_Amounts
 unfold f_ref10_Amounts at h
 refine s_seq ?_
 refine g_reg hG ?_
 refine s_seq ?_
 refine g_reg hG ?_
 refine s_seq ?_
 refine s_seq ?_
 refine g_reg hG ?_
 refine s_blockJ (J_ref10_Amounts_k1) (fun v => f_ref10_Amounts_k1 v = some r) ?_ ?_
 · intro j1 h
   unfold f_ref10_Amounts_k1 at h
   refine g_st ?_
   refine s_seq ?_
   refine g_reg hG ?_
   refine g_ret ?_
   exact g_end h
 refine g_loop (I_ref10_Amounts_l1 a0) hK [(0, 0)] h (fun x_l1 h g1 y_l1 h_l1 hx_l1 => ?_)
 unfold f_ref10_Amounts_l1 at h_l1
 refine g_st ?_
 refine s_seq ?_
 refine s_seq ?_
 refine g_reg hG ?_
 refine g_cond rfl hG h_l1 (fun _ h_l1 => ?_) (fun _ h_l1 => ?_)
 · refine g_skip ?_
   refine s_seq ?_
   refine s_block ?_
   obtain ⟨hb1, h_l1⟩ := gd_some h_l1
   obtain ⟨hb2, h_l1⟩ := gd_some h_l1
   refine g_reg hG ?_
   refine g_reg hG ?_
   exact g_next hK [(0, 1)] h_l1
 refine g_exit ?_
 obtain rfl := Option.some.inj h_l1
 have hx := hx_l1 _ rfl
 subst hx
 try dsimp only at h
 exact g_join hK [(0, 0)] g1.2 (by exact h)

def f_ref04_Permitted (a0 : Resource) (a1 : Amount) : Bool :=
 ((f_ref04_Shaped a0) && ((f_ref04_Zero a1) || (f_ref04_Fits a0 a1)))
theorem ref04_Permitted_ok (a0 : Resource) (a1 : Amount) : PFn C 53 [.agg (Resource.enc a0), .agg (Amount.enc a1)] (.bool (f_ref04_Permitted a0 a1)) := by
 generalize h : f_ref04_Permitted a0 a1 = r
 refine pfn_intro chk_ref04_Permitted rfl fun E hG hN hK => ?_
 unfold pc_ref04_Permitted
 unfold f_ref04_Permitted at h
 refine s_seq ?_
 refine g_reg hG ?_
 refine s_seq ?_
 refine g_reg hG ?_
 refine g_call (fun hg => ref04_Shaped_ok a0) ?_
 refine g_call (fun hg => ref04_Zero_ok a1) ?_
 refine g_call (fun hg => ref04_Fits_ok a0 a1) ?_
 refine g_ret ?_
 exact g_endT h

def f_ref03_Compatible (a0 : Int) (a1 : Int) : Bool :=
 (if ((((!(f_ref03_Valid a0)) || (!(f_ref03_Valid a1))) || (decide (a0 = 5))) || (decide (a1 = 5))) = true then
  false
 else
  (((decide (a0 = 1)) || (decide (a1 = 1))) || ((decide (a0 = a1)) && (!decide (a0 = 4)))))
theorem ref03_Compatible_ok (a0 : Int) (a1 : Int) : PFn C 54 [.int .i64 a0, .int .i64 a1] (.bool (f_ref03_Compatible a0 a1)) := by
 generalize h : f_ref03_Compatible a0 a1 = r
 refine pfn_intro chk_ref03_Compatible rfl fun E hG hN hK => ?_
 unfold pc_ref03_Compatible
 unfold f_ref03_Compatible at h
 refine s_seq ?_
 refine g_reg hG ?_
 refine s_seq ?_
 refine s_seq ?_
 refine g_reg hG ?_
 refine g_call (fun hg => ref03_Valid_ok a0) ?_
 refine g_call (fun hg => ref03_Valid_ok a1) ?_
 refine g_cond rfl hG h (fun _ h => ?_) (fun _ h => ?_)
 · refine s_seq ?_
   refine g_reg hG ?_
   refine g_ret ?_
   exact g_endT h
 refine g_skip ?_
 refine s_seq ?_
 refine g_reg hG ?_
 refine g_ret ?_
 exact g_endT h

noncomputable def f_ref04_Compatible_k1  (j1 : Unit) : Option (Bool) :=
 some true
@[go_sem] def J_ref04_Compatible_k1  (j1 : Unit) : St := ⟨[], [], 0⟩
noncomputable def f_ref04_Compatible_k2 (g1 : Int × Int) (j2 : Unit) : Option ((Int × Int) ⊕ ((Unit) ⊕ (Bool))) :=
 some (.inl (g1.1, (IntKind.i64.wrap (g1.2 + 1))))
@[go_sem] def J_ref04_Compatible_k2 (a0 : Resource) (a1 : List Amount) (g1 : Int × Int) (j2 : Unit) : St := ⟨[(1, .sl (a1.map Amount.enc)), (2, .ptr 0 0 0), (5, .int .i64 g1.1), (6, .int .i64 g1.2)], [(0, ⟨false, 4, (Resource.enc Resource.zero), [Resource.enc a0]⟩)], 1⟩
noncomputable def f_ref04_Compatible_l2 (a1 : List Amount) (g1 : Int × Int) (g2 : Int) : Option ((Int) ⊕ ((Unit) ⊕ (Bool))) :=
 (if (decide (g2 < g1.2)) = true then
  gd (0 ≤ g1.2 ∧ g1.2 < (a1.length : Int)) <|
  gd ((!(f_ref04_Zero (a1.getD g1.2.toNat Amount.zero))) = true → 0 ≤ g2 ∧ g2 < (a1.length : Int)) <|
  gd (((!(f_ref04_Zero (a1.getD g1.2.toNat Amount.zero))) && (!(f_ref04_Zero (a1.getD g2.toNat Amount.zero)))) = true → 0 ≤ g1.2 ∧ g1.2 < (a1.length : Int)) <|
  gd (((!(f_ref04_Zero (a1.getD g1.2.toNat Amount.zero))) && (!(f_ref04_Zero (a1.getD g2.toNat Amount.zero)))) = true → 0 ≤ g2 ∧ g2 < (a1.length : Int)) <|
  (if (((!(f_ref04_Zero (a1.getD g1.2.toNat Amount.zero))) && (!(f_ref04_Zero (a1.getD g2.toNat Amount.zero)))) && (!(f_ref03_Compatible ((a1.getD g1.2.toNat Amount.zero).mode) ((a1.getD g2.toNat Amount.zero).mode)))) = true then
   some (.inr (.inr false))
  else
   some (.inl (IntKind.i64.wrap (g2 + 1))))
 else
  some (.inr (.inl ())))
@[go_sem] def I_ref04_Compatible_l2 (a0 : Resource) (a1 : List Amount) (g1 : Int × Int) (g2 : Int) : St := ⟨[(1, .sl (a1.map Amount.enc)), (2, .ptr 0 0 0), (5, .int .i64 g1.1), (6, .int .i64 g1.2), (7, .int .i64 g2)], [(0, ⟨false, 4, (Resource.enc Resource.zero), [Resource.enc a0]⟩)], 1⟩
noncomputable def f_ref04_Compatible_l1 (a0 : Resource) (a1 : List Amount) (g1 : Int × Int) : Option ((Int × Int) ⊕ ((Unit) ⊕ (Bool))) :=
 (if (decide (g1.2 < (a1.length : Int))) = true then
  gd (0 ≤ g1.2 ∧ g1.2 < (a1.length : Int)) <|
  (if (!(f_ref04_Permitted a0 (a1.getD g1.2.toNat Amount.zero))) = true then
   some (.inr (.inr false))
  else
   (if (decide (a0.kind = 2)) = true then
    gd (0 ≤ g1.2 ∧ g1.2 < (a1.length : Int)) <|
    (if (decide (a0.units < (IntKind.i64.wrap (g1.1 + (a1.getD g1.2.toNat Amount.zero).units)))) = true then
     some (.inr (.inr false))
    else
     some (.inl ((IntKind.i64.wrap (g1.1 + (a1.getD g1.2.toNat Amount.zero).units)), (IntKind.i64.wrap (g1.2 + 1)))))
   else
    (loopO (f_ref04_Compatible_l2 a1 g1) 0).bind (fun | .inl z => f_ref04_Compatible_k2 g1 z | .inr z => some (.inr (.inr z)))))
 else
  some (.inr (.inl ())))
@[go_sem] def I_ref04_Compatible_l1 (a0 : Resource) (a1 : List Amount) (g1 : Int × Int) : St := ⟨[(1, .sl (a1.map Amount.enc)), (2, .ptr 0 0 0), (5, .int .i64 g1.1), (6, .int .i64 g1.2)], [(0, ⟨false, 4, (Resource.enc Resource.zero), [Resource.enc a0]⟩)], 1⟩
noncomputable def f_ref04_Compatible (a0 : Resource) (a1 : List Amount) : Option (Bool) :=
 (if (!(f_ref04_Shaped a0)) = true then
  some false
 else
  (loopO (f_ref04_Compatible_l1 a0 a1) (0, 0)).bind (fun | .inl z => f_ref04_Compatible_k1 z | .inr z => some z))
theorem ref04_Compatible_ok (a0 : Resource) (a1 : List Amount) (r : Bool) (h : f_ref04_Compatible a0 a1 = some r) : PFn C 39 [.agg (Resource.enc a0), .sl (a1.map Amount.enc)] (.bool r) := by
 refine pfn_intro chk_ref04_Compatible rfl fun E hG hN hK => ?_
 unfold pc_ref04_Compatible
 unfold f_ref04_Compatible at h
 refine s_seq ?_
 refine g_reg hG ?_
 refine s_seq ?_
 refine s_seq ?_
 refine g_reg hG ?_
 refine g_call (fun hg => ref04_Shaped_ok a0) ?_
 refine g_cond rfl hG h (fun _ h => ?_) (fun _ h => ?_)
 · refine s_seq ?_
   refine g_reg hG ?_
   refine g_ret ?_
   exact g_end h
 refine g_skip ?_
 refine s_seq ?_
 refine g_reg hG ?_
 refine s_seq ?_
 refine s_seq ?_
 refine g_reg hG ?_
 refine s_blockJ (J_ref04_Compatible_k1) (fun v => f_ref04_Compatible_k1 v = some r) ?_ ?_
 · intro j1 h
   unfold f_ref04_Compatible_k1 at h
   refine g_st ?_
   refine s_seq ?_
   refine g_reg hG ?_
   refine g_ret ?_
   exact g_end h
 refine g_loop (I_ref04_Compatible_l1 a0 a1) hK [(0, 0)] h (fun x_l1 h g1 y_l1 h_l1 hx_l1 => ?_)
 unfold f_ref04_Compatible_l1 at h_l1
 refine g_st ?_
 refine s_seq ?_
 refine s_seq ?_
 refine g_reg hG ?_
 refine g_cond rfl hG h_l1 (fun _ h_l1 => ?_) (fun _ h_l1 => ?_)
 · refine g_skip ?_
   refine s_seq ?_
   refine s_block ?_
   refine s_seq ?_
   refine s_seq ?_
   obtain ⟨hb6, h_l1⟩ := gd_some h_l1
   refine g_regd C_mixed hG ?_
   refine g_calld (fun hg => ref04_Permitted_ok a0 (a1.getD g1.2.toNat Amount.zero)) ?_
   refine g_cond rfl hG h_l1 (fun _ h_l1 => ?_) (fun _ h_l1 => ?_)
   · refine s_seq ?_
     refine g_reg hG ?_
     refine g_ret ?_
     obtain rfl := Option.some.inj h_l1
     have hx := hx_l1 _ rfl
     subst hx
     try dsimp only at h
     exact g_end h
   refine g_skip ?_
   refine s_seq ?_
   refine s_seq ?_
   refine g_reg hG ?_
   refine g_cond rfl hG h_l1 (fun _ h_l1 => ?_) (fun _ h_l1 => ?_)
   · refine s_seq ?_
     obtain ⟨hb1, h_l1⟩ := gd_some h_l1
     refine g_reg hG ?_
     refine s_seq ?_
     refine s_seq ?_
     refine g_reg hG ?_
     refine g_cond rfl hG h_l1 (fun _ h_l1 => ?_) (fun _ h_l1 => ?_)
     · refine s_seq ?_
       refine g_reg hG ?_
       refine g_ret ?_
       obtain rfl := Option.some.inj h_l1
       have hx := hx_l1 _ rfl
       subst hx
       try dsimp only at h
       exact g_end h
     refine g_skip ?_
     refine g_exit ?_
     refine g_reg hG ?_
     exact g_next hK [(0, 0)] h_l1
   refine g_skip ?_
   refine s_seq ?_
   refine g_reg hG ?_
   refine s_blockJ (J_ref04_Compatible_k2 a0 a1 g1) (fun v => f_ref04_Compatible_k2 g1 v = some y_l1) ?_ ?_
   · intro j2 h_l1
     unfold f_ref04_Compatible_k2 at h_l1
     refine g_st ?_
     refine g_reg hG ?_
     exact g_next hK [(0, 0)] h_l1
   refine g_loop (I_ref04_Compatible_l2 a0 a1 g1) hK [(0, 0)] h_l1 (fun x_l2 h_l1 g2 y_l2 h_l2 hx_l2 => ?_)
   unfold f_ref04_Compatible_l2 at h_l2
   refine g_st ?_
   refine s_seq ?_
   refine s_seq ?_
   refine g_reg hG ?_
   refine g_cond rfl hG h_l2 (fun _ h_l2 => ?_) (fun _ h_l2 => ?_)
   · refine g_skip ?_
     refine s_seq ?_
     refine s_block ?_
     refine s_seq ?_
     obtain ⟨hb2, h_l2⟩ := gd_some h_l2
     refine g_regd C_mixed hG ?_
     obtain ⟨hb3, h_l2⟩ := gd_some h_l2
     refine g_calld (fun hg => ref04_Zero_ok (a1.getD g1.2.toNat Amount.zero)) ?_
     obtain ⟨hb4, h_l2⟩ := gd_some h_l2
     obtain ⟨hb5, h_l2⟩ := gd_some h_l2
     refine g_calld (fun hg => ref04_Zero_ok (a1.getD g2.toNat Amount.zero)) ?_
     refine g_calld (fun hg => ref03_Compatible_ok ((a1.getD g1.2.toNat Amount.zero).mode) ((a1.getD g2.toNat Amount.zero).mode)) ?_
     refine g_cond rfl hG h_l2 (fun _ h_l2 => ?_) (fun _ h_l2 => ?_)
     · refine s_seq ?_
       refine g_reg hG ?_
       refine g_ret ?_
       obtain rfl := Option.some.inj h_l2
       have hx := hx_l2 _ rfl
       subst hx
       try dsimp only at h_l1
       obtain rfl := Option.some.inj h_l1
       have hx := hx_l1 _ rfl
       subst hx
       try dsimp only at h
       exact g_end h
     refine g_skip ?_
     refine g_reg hG ?_
     exact g_next hK [(0, 0)] h_l2
   refine g_exit ?_
   obtain rfl := Option.some.inj h_l2
   have hx := hx_l2 _ rfl
   subst hx
   try dsimp only at h_l1
   exact g_join hK [(0, 0)] () (by exact h_l1)
 refine g_exit ?_
 obtain rfl := Option.some.inj h_l1
 have hx := hx_l1 _ rfl
 subst hx
 try dsimp only at h
 exact g_join hK [] () (by exact h)

noncomputable def f_ref10_Valid_k1 (a0 : Resource) (a1 : List Hold) (j1 : Unit) : Option (Bool) :=
 (f_ref10_Amounts a1).bind fun v1 =>
 (f_ref04_Compatible a0 v1).bind fun v2 =>
 some v2
@[go_sem] def J_ref10_Valid_k1 (a0 : Resource) (a1 : List Hold) (j1 : Unit) : St := ⟨[(1, .sl (a1.map Hold.enc)), (2, .ptr 0 0 0)], [(0, ⟨false, 4, (Resource.enc Resource.zero), [Resource.enc a0]⟩)], 1⟩
noncomputable def f_ref10_Valid_l1 (a0 : Resource) (a1 : List Hold) (g1 : Int) : Option ((Int) ⊕ ((Unit) ⊕ (Bool))) :=
 (if (decide (g1 < (a1.length : Int))) = true then
  gd (0 ≤ g1 ∧ g1 < (a1.length : Int)) <|
  gd ((f_ref02_ValidProc ((a1.getD g1.toNat Hold.zero).proc)) = true → 0 ≤ g1 ∧ g1 < (a1.length : Int)) <|
  gd (((!((!(f_ref02_ValidProc ((a1.getD g1.toNat Hold.zero).proc))) || (!(f_ref04_Fits a0 ((a1.getD g1.toNat Hold.zero).amount))))) && (decide (0 < g1))) = true → 0 ≤ (IntKind.i64.wrap (g1 - 1)) ∧ (IntKind.i64.wrap (g1 - 1)) < (a1.length : Int)) <|
  gd (((!((!(f_ref02_ValidProc ((a1.getD g1.toNat Hold.zero).proc))) || (!(f_ref04_Fits a0 ((a1.getD g1.toNat Hold.zero).amount))))) && (decide (0 < g1))) = true → 0 ≤ g1 ∧ g1 < (a1.length : Int)) <|
  (if (((!(f_ref02_ValidProc ((a1.getD g1.toNat Hold.zero).proc))) || (!(f_ref04_Fits a0 ((a1.getD g1.toNat Hold.zero).amount)))) || ((decide (0 < g1)) && (decide (0 ≤ (f_ref02_CompareProc ((a1.getD ((IntKind.i64.wrap (g1 - 1)).toNat) Hold.zero).proc) ((a1.getD g1.toNat Hold.zero).proc)))))) = true then
   some (.inr (.inr false))
  else
   some (.inl (IntKind.i64.wrap (g1 + 1))))
 else
  some (.inr (.inl ())))
@[go_sem] def I_ref10_Valid_l1 (a0 : Resource) (a1 : List Hold) (g1 : Int) : St := ⟨[(1, .sl (a1.map Hold.enc)), (2, .ptr 0 0 0), (5, .int .i64 g1)], [(0, ⟨false, 4, (Resource.enc Resource.zero), [Resource.enc a0]⟩)], 1⟩
noncomputable def f_ref10_Valid (a0 : Resource) (a1 : List Hold) : Option (Bool) :=
 (if ((!(f_ref04_Shaped a0)) || (decide (8 < (a1.length : Int)))) = true then
  some false
 else
  (loopO (f_ref10_Valid_l1 a0 a1) 0).bind (fun | .inl z => f_ref10_Valid_k1 a0 a1 z | .inr z => some z))
theorem ref10_Valid_ok (a0 : Resource) (a1 : List Hold) (r : Bool) (h : f_ref10_Valid a0 a1 = some r) : PFn C 26 [.agg (Resource.enc a0), .sl (a1.map Hold.enc)] (.bool r) := by
 refine pfn_intro chk_ref10_Valid rfl fun E hG hN hK => ?_
 unfold pc_ref10_Valid
 unfold f_ref10_Valid at h
 refine s_seq ?_
 refine g_reg hG ?_
 refine s_seq ?_
 refine s_seq ?_
 refine g_reg hG ?_
 refine g_call (fun hg => ref04_Shaped_ok a0) ?_
 refine g_cond rfl hG h (fun _ h => ?_) (fun _ h => ?_)
 · refine s_seq ?_
   refine g_reg hG ?_
   refine g_ret ?_
   exact g_end h
 refine g_skip ?_
 refine s_seq ?_
 refine s_seq ?_
 refine g_reg hG ?_
 refine s_blockJ (J_ref10_Valid_k1 a0 a1) (fun v => f_ref10_Valid_k1 a0 a1 v = some r) ?_ ?_
 · intro j1 h
   unfold f_ref10_Valid_k1 at h
   refine g_st ?_
   refine s_seq ?_
   refine g_regd C_mixed hG ?_
   obtain ⟨v1, hv1, h⟩ := bind_of h
   refine g_calld (fun hg => ref10_Amounts_ok a1 _ (hv1)) ?_
   obtain ⟨v2, hv2, h⟩ := bind_of h
   refine g_calld (fun hg => ref04_Compatible_ok a0 v1 _ (hv2)) ?_
   refine g_ret ?_
   exact g_end h
 refine g_loop (I_ref10_Valid_l1 a0 a1) hK [(0, 0)] h (fun x_l1 h g1 y_l1 h_l1 hx_l1 => ?_)
 unfold f_ref10_Valid_l1 at h_l1
 refine g_st ?_
 refine s_seq ?_
 refine s_seq ?_
 refine g_reg hG ?_
 refine g_cond rfl hG h_l1 (fun _ h_l1 => ?_) (fun _ h_l1 => ?_)
 · refine g_skip ?_
   refine s_seq ?_
   refine s_block ?_
   refine s_seq ?_
   obtain ⟨hb1, h_l1⟩ := gd_some h_l1
   refine g_regd C_mixed hG ?_
   obtain ⟨hb2, h_l1⟩ := gd_some h_l1
   refine g_calld (fun hg => ref02_ValidProc_ok ((a1.getD g1.toNat Hold.zero).proc)) ?_
   obtain ⟨hb3, h_l1⟩ := gd_some h_l1
   obtain ⟨hb4, h_l1⟩ := gd_some h_l1
   refine g_calld (fun hg => ref04_Fits_ok a0 ((a1.getD g1.toNat Hold.zero).amount)) ?_
   refine g_calld (fun hg => ref02_CompareProc_ok ((a1.getD ((IntKind.i64.wrap (g1 - 1)).toNat) Hold.zero).proc) ((a1.getD g1.toNat Hold.zero).proc)) ?_
   refine g_cond rfl hG h_l1 (fun _ h_l1 => ?_) (fun _ h_l1 => ?_)
   · refine s_seq ?_
     refine g_reg hG ?_
     refine g_ret ?_
     obtain rfl := Option.some.inj h_l1
     have hx := hx_l1 _ rfl
     subst hx
     try dsimp only at h
     exact g_end h
   refine g_skip ?_
   refine g_reg hG ?_
   exact g_next hK [(0, 0)] h_l1
 refine g_exit ?_
 obtain rfl := Option.some.inj h_l1
 have hx := hx_l1 _ rfl
 subst hx
 try dsimp only at h
 exact g_join hK [(0, 0)] () (by exact h)

noncomputable def f_ref10_Room (a0 : Resource) (a1 : List Hold) (a2 : Proc) (a3 : Amount) : Option (Bool) :=
 (f_ref10_Valid a0 a1).bind fun v1 =>
 ((if ((v1 && (f_ref02_ValidProc a2)) && (f_ref04_Fits a0 a3)) = true then f_ref10_Set a1 a2 a3 else some ([]))).bind fun v2 =>
 ((if ((v1 && (f_ref02_ValidProc a2)) && (f_ref04_Fits a0 a3)) = true then f_ref10_Valid a0 v2 else some (false))).bind fun v3 =>
 some (((v1 && (f_ref02_ValidProc a2)) && (f_ref04_Fits a0 a3)) && v3)
theorem ref10_Room_ok (a0 : Resource) (a1 : List Hold) (a2 : Proc) (a3 : Amount) (r : Bool) (h : f_ref10_Room a0 a1 a2 a3 = some r) : PFn C 16 [.agg (Resource.enc a0), .sl (a1.map Hold.enc), .agg (Proc.enc a2), .agg (Amount.enc a3)] (.bool r) := by
 refine pfn_intro chk_ref10_Room rfl fun E hG hN hK => ?_
 unfold pc_ref10_Room
 unfold f_ref10_Room at h
 refine s_seq ?_
 refine g_reg hG ?_
 refine s_seq ?_
 refine g_regd C_mixed hG ?_
 obtain ⟨v1, hv1, h⟩ := bind_of h
 refine g_calld (fun hg => ref10_Valid_ok a0 a1 _ (hv1)) ?_
 refine g_calld (fun hg => ref02_ValidProc_ok a2) ?_
 refine g_calld (fun hg => ref04_Fits_ok a0 a3) ?_
 obtain ⟨v2, hv2, h⟩ := bind_of h
 refine g_calld (fun hg => ref10_Set_ok a1 a2 a3 _ (ite_t hg hv2)) ?_
 obtain ⟨v3, hv3, h⟩ := bind_of h
 refine g_calld (fun hg => ref10_Valid_ok a0 v2 _ (ite_t hg hv3)) ?_
 refine g_ret ?_
 exact g_end h

noncomputable def f_law10_HoldersRoom (a0 : Resource) (a1 : List Hold) (a2 : Proc) (a3 : Amount) : Option (Bool) :=
 (if (decide (100 < (a1.length : Int))) = true then
  (f_law10_awake).bind fun v1 =>
  some v1
 else
  (f_law10_awake).bind fun v2 =>
  ((if v2 = true then f_holders_Room a0 a1 a2 a3 else some (false))).bind fun v3 =>
  ((if v2 = true then f_ref10_Room a0 a1 a2 a3 else some (false))).bind fun v4 =>
  some (v2 && (decide (v3 = v4))))
theorem law10_HoldersRoom_ok (a0 : Resource) (a1 : List Hold) (a2 : Proc) (a3 : Amount) (r : Bool) (h : f_law10_HoldersRoom a0 a1 a2 a3 = some r) : PFn C 4 [.agg (Resource.enc a0), .sl (a1.map Hold.enc), .agg (Proc.enc a2), .agg (Amount.enc a3)] (.bool r) := by
 refine pfn_intro chk_law10_HoldersRoom rfl fun E hG hN hK => ?_
 unfold pc_law10_HoldersRoom
 unfold f_law10_HoldersRoom at h
 refine s_seq ?_
 refine g_reg hG ?_
 refine s_seq ?_
 refine s_seq ?_
 refine g_reg hG ?_
 refine g_cond rfl hG h (fun _ h => ?_) (fun _ h => ?_)
 · refine s_seq ?_
   refine g_reg hG ?_
   obtain ⟨v1, hv1, h⟩ := bind_of h
   refine g_call (fun hg => law10_awake_ok  _ (hv1)) ?_
   refine g_ret ?_
   exact g_end h
 refine g_skip ?_
 refine s_seq ?_
 refine g_regd C_mixed hG ?_
 obtain ⟨v2, hv2, h⟩ := bind_of h
 refine g_calld (fun hg => law10_awake_ok  _ (hv2)) ?_
 obtain ⟨v3, hv3, h⟩ := bind_of h
 refine g_calld (fun hg => holders_Room_ok a0 a1 a2 a3 _ (ite_t hg hv3)) ?_
 obtain ⟨v4, hv4, h⟩ := bind_of h
 refine g_calld (fun hg => ref10_Room_ok a0 a1 a2 a3 _ (ite_t hg hv4)) ?_
 refine g_ret ?_
 exact g_end h

noncomputable def f_ref10_Against_k1  (j1 : (List Proc)) : Option ((List Proc)) :=
 some j1
@[go_sem] def J_ref10_Against_k1  (j1 : (List Proc)) : St := ⟨[(9, .own 0 0 j1.length)], [(0, ⟨false, 3, (Proc.enc Proc.zero), j1.map Proc.enc⟩)], 1⟩
noncomputable def f_ref10_Against_l1 (a0 : Resource) (a1 : List Hold) (a2 : Proc) (a3 : Amount) (g1 : Int × (List Proc)) : Option ((Int × (List Proc)) ⊕ (((List Proc)))) :=
 (if (decide (g1.1 < (a1.length : Int))) = true then
  gd (0 ≤ g1.1 ∧ g1.1 < (a1.length : Int)) <|
  (if (decide ((a1.getD g1.1.toNat Hold.zero).proc = a2)) = true then
   some (.inl ((IntKind.i64.wrap (g1.1 + 1)), g1.2))
  else
   gd ((!(decide (a0.kind = 2))) = true → 0 ≤ g1.1 ∧ g1.1 < (a1.length : Int)) <|
   ((if (!(decide (a0.kind = 2))) = true then f_ref04_Compatible a0 [(a1.getD g1.1.toNat Hold.zero).amount, a3] else some (false))).bind fun v3 =>
   (if ((decide (a0.kind = 2)) || (!v3)) = true then
    gd (0 ≤ g1.1 ∧ g1.1 < (a1.length : Int)) <|
    gd (g1.2.length + 1 ≤ 4294967296) <|
    some (.inl ((IntKind.i64.wrap (g1.1 + 1)), (g1.2 ++ [(a1.getD g1.1.toNat Hold.zero).proc])))
   else
    some (.inl ((IntKind.i64.wrap (g1.1 + 1)), g1.2))))
 else
  some (.inr g1.2))
@[go_sem] def I_ref10_Against_l1 (a0 : Resource) (a1 : List Hold) (a2 : Proc) (a3 : Amount) (g1 : Int × (List Proc)) : St := ⟨[(1, .sl (a1.map Hold.enc)), (4, .ptr 0 0 0), (6, .ptr 1 0 0), (7, .ptr 2 0 0), (9, .own 3 0 g1.2.length), (10, .int .i64 g1.1)], [(0, ⟨false, 4, (Resource.enc Resource.zero), [Resource.enc a0]⟩), (1, ⟨false, 3, (Proc.enc Proc.zero), [Proc.enc a2]⟩), (2, ⟨false, 2, (Amount.enc Amount.zero), [Amount.enc a3]⟩), (3, ⟨false, 3, (Proc.enc Proc.zero), g1.2.map Proc.enc⟩)], 4⟩
noncomputable def f_ref10_Against (a0 : Resource) (a1 : List Hold) (a2 : Proc) (a3 : Amount) : Option ((List Proc)) :=
 (f_ref10_Valid a0 a1).bind fun v1 =>
 ((if (!(((!v1) || (!(f_ref02_ValidProc a2))) || (!(f_ref04_Fits a0 a3)))) = true then f_ref10_Room a0 a1 a2 a3 else some (false))).bind fun v2 =>
 (if ((((!v1) || (!(f_ref02_ValidProc a2))) || (!(f_ref04_Fits a0 a3))) || v2) = true then
  some []
 else
  (loopO (f_ref10_Against_l1 a0 a1 a2 a3) (0, [])).bind (fun z => f_ref10_Against_k1 z))
theorem ref10_Against_ok (a0 : Resource) (a1 : List Hold) (a2 : Proc) (a3 : Amount) (r : (List Proc)) (h : f_ref10_Against a0 a1 a2 a3 = some r) : PFn C 19 [.agg (Resource.enc a0), .sl (a1.map Hold.enc), .agg (Proc.enc a2), .agg (Amount.enc a3)] (.sl (r.map Proc.enc)) := by
 refine pfn_intro chk_ref10_Against rfl fun E hG hN hK => ?_
 unfold pc_ref10_Against
 unfold f_ref10_Against at h
 refine s_seq ?_
 refine g_reg hG ?_
 refine s_seq ?_
 refine s_seq ?_
 refine g_reg hG ?_
 obtain ⟨v1, hv1, h⟩ := bind_of h
 refine g_call (fun hg => ref10_Valid_ok a0 a1 _ (hv1)) ?_
 refine g_call (fun hg => ref02_ValidProc_ok a2) ?_
 refine g_call (fun hg => ref04_Fits_ok a0 a3) ?_
 obtain ⟨v2, hv2, h⟩ := bind_of h
 refine g_call (fun hg => ref10_Room_ok a0 a1 a2 a3 _ (ite_t hg hv2)) ?_
 refine g_cond rfl hG h (fun _ h => ?_) (fun _ h => ?_)
 · refine s_seq ?_
   refine g_reg hG ?_
   refine g_ret ?_
   exact g_end h
 refine g_skip ?_
 refine s_seq ?_
 refine g_reg hG ?_
 refine s_seq ?_
 refine s_seq ?_
 refine g_reg hG ?_
 refine s_blockJ (J_ref10_Against_k1) (fun v => f_ref10_Against_k1 v = some r) ?_ ?_
 · intro j1 h
   unfold f_ref10_Against_k1 at h
   refine g_st ?_
   refine s_seq ?_
   refine g_reg hG ?_
   refine g_ret ?_
   exact g_end h
 refine g_loop (I_ref10_Against_l1 a0 a1 a2 a3) hK [(0, 0), (1, 1), (2, 2), (3, 3)] h (fun x_l1 h g1 y_l1 h_l1 hx_l1 => ?_)
 unfold f_ref10_Against_l1 at h_l1
 refine g_st ?_
 refine s_seq ?_
 refine s_seq ?_
 refine g_reg hG ?_
 refine g_cond rfl hG h_l1 (fun _ h_l1 => ?_) (fun _ h_l1 => ?_)
 · refine g_skip ?_
   refine s_seq ?_
   refine s_block ?_
   refine s_seq ?_
   refine s_seq ?_
   obtain ⟨hb4, h_l1⟩ := gd_some h_l1
   refine g_regd C_mixed hG ?_
   refine g_cond rfl hG h_l1 (fun _ h_l1 => ?_) (fun _ h_l1 => ?_)
   · refine g_exit ?_
     refine g_reg hG ?_
     exact g_next hK [(0, 0), (1, 1), (2, 2), (3, 3)] h_l1
   refine g_skip ?_
   refine s_seq ?_
   obtain ⟨hb3, h_l1⟩ := gd_some h_l1
   refine g_regd C_mixed hG ?_
   obtain ⟨v3, hv3, h_l1⟩ := bind_of h_l1
   refine g_calld (fun hg => PFn.unfull (ref04_Compatible_ok a0 [(a1.getD g1.1.toNat Hold.zero).amount, a3] _ (ite_t hg hv3))) ?_
   refine g_cond rfl hG h_l1 (fun _ h_l1 => ?_) (fun _ h_l1 => ?_)
   · obtain ⟨hb1, h_l1⟩ := gd_some h_l1
     obtain ⟨hb2, h_l1⟩ := gd_some h_l1
     refine g_reg hG ?_
     refine g_reg hG ?_
     exact g_next hK [(0, 0), (1, 1), (2, 2), (3, 4)] h_l1
   refine g_skip ?_
   refine g_reg hG ?_
   exact g_next hK [(0, 0), (1, 1), (2, 2), (3, 3)] h_l1
 refine g_exit ?_
 obtain rfl := Option.some.inj h_l1
 have hx := hx_l1 _ rfl
 subst hx
 try dsimp only at h
 exact g_join hK [(0, 3)] g1.2 (by exact h)

noncomputable def f_ref02_SameProcs_k1  (j1 : Unit) : Option (Bool) :=
 some true
@[go_sem] def J_ref02_SameProcs_k1  (j1 : Unit) : St := ⟨[], [], 0⟩
noncomputable def f_ref02_SameProcs_l1 (a0 : List Proc) (a1 : List Proc) (g1 : Int) : Option ((Int) ⊕ ((Unit) ⊕ (Bool))) :=
 (if (decide (g1 < (a0.length : Int))) = true then
  gd (0 ≤ g1 ∧ g1 < (a0.length : Int)) <|
  gd (0 ≤ g1 ∧ g1 < (a1.length : Int)) <|
  (if (!decide ((a0.getD g1.toNat Proc.zero) = (a1.getD g1.toNat Proc.zero))) = true then
   some (.inr (.inr false))
  else
   some (.inl (IntKind.i64.wrap (g1 + 1))))
 else
  some (.inr (.inl ())))
@[go_sem] def I_ref02_SameProcs_l1 (a0 : List Proc) (a1 : List Proc) (g1 : Int) : St := ⟨[(0, .sl (a0.map Proc.enc)), (1, .sl (a1.map Proc.enc)), (5, .int .i64 g1)], [], 0⟩
noncomputable def f_ref02_SameProcs (a0 : List Proc) (a1 : List Proc) : Option (Bool) :=
 (if (!decide ((a0.length : Int) = (a1.length : Int))) = true then
  some false
 else
  (loopO (f_ref02_SameProcs_l1 a0 a1) 0).bind (fun | .inl z => f_ref02_SameProcs_k1 z | .inr z => some z))
theorem ref02_SameProcs_ok (a0 : List Proc) (a1 : List Proc) (r : Bool) (h : f_ref02_SameProcs a0 a1 = some r) : PFn C 17 [.sl (a0.map Proc.enc), .sl (a1.map Proc.enc)] (.bool r) := by
 refine pfn_intro chk_ref02_SameProcs rfl fun E hG hN hK => ?_
 unfold pc_ref02_SameProcs
 unfold f_ref02_SameProcs at h
 refine s_seq ?_
 refine g_reg hG ?_
 refine s_seq ?_
 refine s_seq ?_
 refine g_reg hG ?_
 refine g_cond rfl hG h (fun _ h => ?_) (fun _ h => ?_)
 · refine s_seq ?_
   refine g_reg hG ?_
   refine g_ret ?_
   exact g_end h
 refine g_skip ?_
 refine s_seq ?_
 refine s_seq ?_
 refine g_reg hG ?_
 refine s_blockJ (J_ref02_SameProcs_k1) (fun v => f_ref02_SameProcs_k1 v = some r) ?_ ?_
 · intro j1 h
   unfold f_ref02_SameProcs_k1 at h
   refine g_st ?_
   refine s_seq ?_
   refine g_reg hG ?_
   refine g_ret ?_
   exact g_end h
 refine g_loop (I_ref02_SameProcs_l1 a0 a1) hK [] h (fun x_l1 h g1 y_l1 h_l1 hx_l1 => ?_)
 unfold f_ref02_SameProcs_l1 at h_l1
 refine g_st ?_
 refine s_seq ?_
 refine s_seq ?_
 refine g_reg hG ?_
 refine g_cond rfl hG h_l1 (fun _ h_l1 => ?_) (fun _ h_l1 => ?_)
 · refine g_skip ?_
   refine s_seq ?_
   refine s_block ?_
   refine s_seq ?_
   obtain ⟨hb1, h_l1⟩ := gd_some h_l1
   obtain ⟨hb2, h_l1⟩ := gd_some h_l1
   refine g_regd C_mixed hG ?_
   refine g_cond rfl hG h_l1 (fun _ h_l1 => ?_) (fun _ h_l1 => ?_)
   · refine s_seq ?_
     refine g_reg hG ?_
     refine g_ret ?_
     obtain rfl := Option.some.inj h_l1
     have hx := hx_l1 _ rfl
     subst hx
     try dsimp only at h
     exact g_end h
   refine g_skip ?_
   refine g_reg hG ?_
   exact g_next hK [] h_l1
 refine g_exit ?_
 obtain rfl := Option.some.inj h_l1
 have hx := hx_l1 _ rfl
 subst hx
 try dsimp only at h
 exact g_join hK [] () (by exact h)

noncomputable def f_law10_HoldersAgainst (a0 : Resource) (a1 : List Hold) (a2 : Proc) (a3 : Amount) : Option (Bool) :=
 (if (decide (100 < (a1.length : Int))) = true then
  (f_law10_awake).bind fun v1 =>
  some v1
 else
  (f_law10_awake).bind fun v2 =>
  ((if v2 = true then f_holders_Against a0 a1 a2 a3 else some ([]))).bind fun v3 =>
  ((if v2 = true then f_ref10_Against a0 a1 a2 a3 else some ([]))).bind fun v4 =>
  ((if v2 = true then f_ref02_SameProcs v3 v4 else some (false))).bind fun v5 =>
  some (v2 && v5))
theorem law10_HoldersAgainst_ok (a0 : Resource) (a1 : List Hold) (a2 : Proc) (a3 : Amount) (r : Bool) (h : f_law10_HoldersAgainst a0 a1 a2 a3 = some r) : PFn C 5 [.agg (Resource.enc a0), .sl (a1.map Hold.enc), .agg (Proc.enc a2), .agg (Amount.enc a3)] (.bool r) := by
 refine pfn_intro chk_law10_HoldersAgainst rfl fun E hG hN hK => ?_
 unfold pc_law10_HoldersAgainst
 unfold f_law10_HoldersAgainst at h
 refine s_seq ?_
 refine g_reg hG ?_
 refine s_seq ?_
 refine s_seq ?_
 refine g_reg hG ?_
 refine g_cond rfl hG h (fun _ h => ?_) (fun _ h => ?_)
 · refine s_seq ?_
   refine g_reg hG ?_
   obtain ⟨v1, hv1, h⟩ := bind_of h
   refine g_call (fun hg => law10_awake_ok  _ (hv1)) ?_
   refine g_ret ?_
   exact g_end h
 refine g_skip ?_
 refine s_seq ?_
 refine g_regd C_mixed hG ?_
 obtain ⟨v2, hv2, h⟩ := bind_of h
 refine g_calld (fun hg => law10_awake_ok  _ (hv2)) ?_
 obtain ⟨v3, hv3, h⟩ := bind_of h
 refine g_calld (fun hg => holders_Against_ok a0 a1 a2 a3 _ (ite_t hg hv3)) ?_
 obtain ⟨v4, hv4, h⟩ := bind_of h
 refine g_calld (fun hg => ref10_Against_ok a0 a1 a2 a3 _ (ite_t hg hv4)) ?_
 obtain ⟨v5, hv5, h⟩ := bind_of h
 refine g_calld (fun hg => ref02_SameProcs_ok v3 v4 _ (ite_t hg hv5)) ?_
 refine g_ret ?_
 exact g_end h

def f_mill_Light (a0 : List Int) : Bool :=
 (decide ((a0.length : Int) ≤ 300))
theorem mill_Light_ok (a0 : List Int) : PFn C 20 [.sl (a0.map (eI .i64))] (.bool (f_mill_Light a0)) := by
 generalize h : f_mill_Light a0 = r
 refine pfn_intro chk_mill_Light rfl fun E hG hN hK => ?_
 unfold pc_mill_Light
 unfold f_mill_Light at h
 refine s_seq ?_
 refine g_reg hG ?_
 refine s_seq ?_
 refine g_reg hG ?_
 refine g_ret ?_
 exact g_endT h

noncomputable def f_mill_Mod (a0 : Int) (a1 : Int) : Option (Int) :=
 (if (decide (a1 < 1)) = true then
  some 0
 else
  gd (a1 ≠ 0) <|
  (if (decide ((a0.tmod a1) < 0)) = true then
   some (IntKind.i64.wrap ((a0.tmod a1) + a1))
  else
   some (a0.tmod a1)))
theorem mill_Mod_ok (a0 : Int) (a1 : Int) (r : Int) (h : f_mill_Mod a0 a1 = some r) : PFn C 41 [.int .i64 a0, .int .i64 a1] (.int .i64 r) := by
 refine pfn_intro chk_mill_Mod rfl fun E hG hN hK => ?_
 unfold pc_mill_Mod
 unfold f_mill_Mod at h
 refine s_seq ?_
 refine g_reg hG ?_
 refine s_seq ?_
 refine s_seq ?_
 refine g_reg hG ?_
 refine g_cond rfl hG h (fun _ h => ?_) (fun _ h => ?_)
 · refine s_seq ?_
   refine g_reg hG ?_
   refine g_ret ?_
   exact g_end h
 refine g_skip ?_
 refine s_seq ?_
 obtain ⟨hb1, h⟩ := gd_some h
 refine g_reg hG ?_
 refine s_seq ?_
 refine s_seq ?_
 refine g_reg hG ?_
 refine g_cond rfl hG h (fun _ h => ?_) (fun _ h => ?_)
 · refine g_reg hG ?_
   refine s_seq ?_
   refine g_reg hG ?_
   refine g_ret ?_
   exact g_end h
 refine g_skip ?_
 refine s_seq ?_
 refine g_reg hG ?_
 refine g_ret ?_
 exact g_end h

noncomputable def f_mill_Tape_Next_m (a0 : Int) (a1 : Tape) : Option (Int × Tape) :=
 (if (decide ((a1.l.length : Int) ≤ a1.at_)) = true then
  some (0, a1)
 else
  gd (0 ≤ (IntKind.i64.wrap (({ a1 with at_ := (IntKind.i64.wrap (a1.at_ + 1)) }).at_ - 1)) ∧ (IntKind.i64.wrap (({ a1 with at_ := (IntKind.i64.wrap (a1.at_ + 1)) }).at_ - 1)) < ((({ a1 with at_ := (IntKind.i64.wrap (a1.at_ + 1)) }).l).length : Int)) <|
  (f_mill_Mod ((({ a1 with at_ := (IntKind.i64.wrap (a1.at_ + 1)) }).l).getD ((IntKind.i64.wrap (({ a1 with at_ := (IntKind.i64.wrap (a1.at_ + 1)) }).at_ - 1)).toNat) 0) a0).bind fun v1 =>
  some (v1, { a1 with at_ := (IntKind.i64.wrap (a1.at_ + 1)) }))
theorem mill_Tape_Next_m_okm (a0 : Int) (a1 : Tape) (r : Int × Tape) (h : f_mill_Tape_Next_m a0 a1 = some r) : MFn C 55 [.ptr 0 0 0, .int .i64 a0] [(0, ⟨false, 2, (Tape.enc Tape.zero), [Tape.enc a1]⟩)] 1 (.int .i64 r.1) [(0, ⟨false, 2, (Tape.enc Tape.zero), [Tape.enc r.2]⟩)] 1 := by
 refine mfn_intro (rl := [.int .i64 r.1]) chk_mill_Tape_Next_m rfl rfl rfl rfl fun E hG hN hK => ?_
 unfold pc_mill_Tape_Next_m
 unfold f_mill_Tape_Next_m at h
 refine s_seq ?_
 refine g_reg hG ?_
 refine s_seq ?_
 refine s_seq ?_
 refine g_regd C_mixed hG ?_
 refine g_cond rfl hG h (fun _ h => ?_) (fun _ h => ?_)
 · refine s_seq ?_
   refine g_reg hG ?_
   refine g_ret ?_
   exact g_retm [(0, 0)] h
 refine g_skip ?_
 refine s_seq ?_
 refine g_reg hG ?_
 refine s_seq ?_
 obtain ⟨hb1, h⟩ := gd_some h
 refine g_regd C_mixed hG ?_
 obtain ⟨v1, hv1, h⟩ := bind_of h
 refine g_calld (fun hg => mill_Mod_ok ((({ a1 with at_ := (IntKind.i64.wrap (a1.at_ + 1)) }).l).getD ((IntKind.i64.wrap (({ a1 with at_ := (IntKind.i64.wrap (a1.at_ + 1)) }).at_ - 1)).toNat) 0) a0 _ (hv1)) ?_
 refine g_ret ?_
 exact g_retm [(0, 0)] h

def lit_mill_Catalog_m_1  : List ByteArray := [(⟨#[97]⟩ : ByteArray), (⟨#[98]⟩ : ByteArray), (⟨#[99]⟩ : ByteArray), (⟨#[100]⟩ : ByteArray)]
noncomputable def f_mill_Catalog_m_k1  (j1 : Tape × (List Resource)) : Option ((List Resource) × Tape) :=
 (f_mill_Tape_Next_m 8 j1.1).bind fun v1 =>
 (f_mill_Tape_Next_m 4 v1.2).bind fun v2 =>
 gd (j1.2.length + 1 ≤ 4294967296) <|
 (f_mill_Tape_Next_m 3 v2.2).bind fun v3 =>
 (f_mill_Tape_Next_m 4 v3.2).bind fun v4 =>
 gd (j1.2.length + 1 + 1 ≤ 4294967296) <|
 some (((j1.2 ++ [(⟨(⟨#[112]⟩ : ByteArray), 2, (IntKind.i64.wrap (1 + v1.1)), v2.1⟩ : Resource)]) ++ [(⟨(⟨#[113]⟩ : ByteArray), 2, (IntKind.i64.wrap (1 + v3.1)), v4.1⟩ : Resource)]), v4.2)
@[go_sem] def J_mill_Catalog_m_k1  (j1 : Tape × (List Resource)) : St := ⟨[(0, .ptr 0 0 0), (3, .own 1 0 j1.2.length)], [(0, ⟨false, 2, (Tape.enc Tape.zero), [Tape.enc j1.1]⟩), (1, ⟨false, 4, (Resource.enc Resource.zero), j1.2.map Resource.enc⟩)], 2⟩
noncomputable def f_mill_Catalog_m_l1  (g1 : Int × Tape × (List Resource)) : Option ((Int × Tape × (List Resource)) ⊕ ((Tape × (List Resource)))) :=
 (if (decide (g1.1 < (lit_mill_Catalog_m_1.length : Int))) = true then
  gd (0 ≤ g1.1 ∧ g1.1 < (lit_mill_Catalog_m_1.length : Int)) <|
  (f_mill_Tape_Next_m 4 g1.2.1).bind fun v5 =>
  gd (g1.2.2.length + 1 ≤ 4294967296) <|
  some (.inl ((IntKind.i64.wrap (g1.1 + 1)), v5.2, (g1.2.2 ++ [(⟨(lit_mill_Catalog_m_1.getD g1.1.toNat (⟨#[]⟩)), 1, 1, v5.1⟩ : Resource)])))
 else
  some (.inr (g1.2.1, g1.2.2)))
@[go_sem] def I_mill_Catalog_m_l1  (g1 : Int × Tape × (List Resource)) : St := ⟨[(0, .ptr 0 0 0), (3, .own 1 0 g1.2.2.length), (4, .full (lit_mill_Catalog_m_1.map eS)), (5, .int .i64 g1.1)], [(0, ⟨false, 2, (Tape.enc Tape.zero), [Tape.enc g1.2.1]⟩), (1, ⟨false, 4, (Resource.enc Resource.zero), g1.2.2.map Resource.enc⟩)], 2⟩
noncomputable def f_mill_Catalog_m (a0 : Tape) : Option ((List Resource) × Tape) :=
 (loopO (f_mill_Catalog_m_l1) (0, a0, [])).bind (fun z => f_mill_Catalog_m_k1 z)
theorem mill_Catalog_m_okm (a0 : Tape) (r : (List Resource) × Tape) (h : f_mill_Catalog_m a0 = some r) : MFn C 40 [.ptr 0 0 0] [(0, ⟨false, 2, (Tape.enc Tape.zero), [Tape.enc a0]⟩)] 1 (.sl (r.1.map Resource.enc)) [(0, ⟨false, 2, (Tape.enc Tape.zero), [Tape.enc r.2]⟩)] 1 := by
 refine mfn_intro (rl := [.sl (r.1.map Resource.enc)]) chk_mill_Catalog_m rfl rfl rfl rfl fun E hG hN hK => ?_
 unfold pc_mill_Catalog_m
 unfold f_mill_Catalog_m at h
 refine s_seq ?_
 refine g_reg hG ?_
 refine s_seq ?_
 refine g_reg hG ?_
 refine s_seq ?_
 refine g_reg hG ?_
 refine g_gh (.cast 4 (.full (lit_mill_Catalog_m_1.map eS))) ?_
 refine s_seq ?_
 refine s_seq ?_
 refine g_reg hG ?_
 refine s_blockJ (J_mill_Catalog_m_k1) (fun v => f_mill_Catalog_m_k1 v = some r) ?_ ?_
 · intro j1 h
   unfold f_mill_Catalog_m_k1 at h
   refine g_st ?_
   refine s_seq ?_
   refine g_reg hG ?_
   obtain ⟨v1, hv1, h⟩ := bind_of h
   refine g_callm [(0, 0)] [] [0] (mill_Tape_Next_m_okm 8 j1.1 _ hv1) rfl rfl ?_
   obtain ⟨v2, hv2, h⟩ := bind_of h
   obtain ⟨hb2, h⟩ := gd_some h
   refine g_callm [(0, 0)] [] [0] (mill_Tape_Next_m_okm 4 v1.2 _ hv2) rfl rfl ?_
   refine s_seq ?_
   refine g_reg hG ?_
   obtain ⟨v3, hv3, h⟩ := bind_of h
   refine g_callm [(0, 0)] [] [0] (mill_Tape_Next_m_okm 3 v2.2 _ hv3) rfl rfl ?_
   obtain ⟨v4, hv4, h⟩ := bind_of h
   obtain ⟨hb1, h⟩ := gd_some h
   refine g_callm [(0, 0)] [] [0] (mill_Tape_Next_m_okm 4 v3.2 _ hv4) rfl rfl ?_
   refine g_gh (.fz [3]) ?_
   refine g_ret ?_
   exact g_retm [(0, 0)] h
 refine g_loop (I_mill_Catalog_m_l1) hK [(0, 0), (1, 1)] h (fun x_l1 h g1 y_l1 h_l1 hx_l1 => ?_)
 unfold f_mill_Catalog_m_l1 at h_l1
 refine g_st ?_
 refine s_seq ?_
 refine s_seq ?_
 refine g_reg hG ?_
 refine g_cond rfl hG h_l1 (fun _ h_l1 => ?_) (fun _ h_l1 => ?_)
 · refine g_skip ?_
   refine s_seq ?_
   refine s_block ?_
   obtain ⟨hb3, h_l1⟩ := gd_some h_l1
   refine g_regm C_mixed hG ?_
   obtain ⟨v5, hv5, h_l1⟩ := bind_of h_l1
   obtain ⟨hb4, h_l1⟩ := gd_some h_l1
   refine g_callmM [(0, 0)] [] [0] (mill_Tape_Next_m_okm 4 g1.2.1 _ hv5) rfl rfl ?_
   refine g_reg hG ?_
   exact g_next hK [(0, 0), (1, 2)] h_l1
 refine g_exit ?_
 obtain rfl := Option.some.inj h_l1
 have hx := hx_l1 _ rfl
 subst hx
 try dsimp only at h
 exact g_join hK [(0, 0), (1, 1)] (g1.2.1, g1.2.2) (by exact h)

noncomputable def f_mill_Resource (a0 : Int) : Option (Resource) :=
 (f_mill_Catalog_m (⟨[a0, (a0.fdiv (2 ^ 2)), (a0.fdiv (2 ^ 4)), (a0.fdiv (2 ^ 6)), (a0.fdiv (2 ^ 8)), (a0.fdiv (2 ^ 10)), (a0.fdiv (2 ^ 12)), (a0.fdiv (2 ^ 14))], 0⟩ : Tape)).bind fun v1 =>
 (f_mill_Mod a0 (v1.1.length : Int)).bind fun v2 =>
 gd (0 ≤ v2 ∧ v2 < (v1.1.length : Int)) <|
 some (v1.1.getD v2.toNat Resource.zero)
theorem mill_Resource_ok (a0 : Int) (r : Resource) (h : f_mill_Resource a0 = some r) : PFn C 21 [.int .i64 a0] (.agg (Resource.enc r)) := by
 refine pfn_intro chk_mill_Resource rfl fun E hG hN hK => ?_
 unfold pc_mill_Resource
 unfold f_mill_Resource at h
 refine s_seq ?_
 refine g_reg hG ?_
 refine s_seq ?_
 refine g_reg hG ?_
 refine s_seq ?_
 refine g_gh .unf ?_
 refine g_reg hG ?_
 obtain ⟨v1, hv1, h⟩ := bind_of h
 refine g_callm [(0, 1)] [] [0] (mill_Catalog_m_okm (⟨[a0, (a0.fdiv (2 ^ 2)), (a0.fdiv (2 ^ 4)), (a0.fdiv (2 ^ 6)), (a0.fdiv (2 ^ 8)), (a0.fdiv (2 ^ 10)), (a0.fdiv (2 ^ 12)), (a0.fdiv (2 ^ 14))], 0⟩ : Tape) _ hv1) rfl rfl ?_
 refine s_seq ?_
 refine g_reg hG ?_
 obtain ⟨v2, hv2, h⟩ := bind_of h
 obtain ⟨hb1, h⟩ := gd_some h
 refine g_call (fun hg => mill_Mod_ok a0 (v1.1.length : Int) _ (hv2)) ?_
 refine g_ret ?_
 exact g_end h

noncomputable def f_mill_Proc (a0 : Int) : Option (Proc) :=
 (f_mill_Mod a0 8).bind fun v1 =>
 some (⟨(v1.tmod 4), 1, (IntKind.i64.wrap (1 + (IntKind.i64.wrap (v1.tdiv 4))))⟩ : Proc)
theorem mill_Proc_ok (a0 : Int) (r : Proc) (h : f_mill_Proc a0 = some r) : PFn C 23 [.int .i64 a0] (.agg (Proc.enc r)) := by
 refine pfn_intro chk_mill_Proc rfl fun E hG hN hK => ?_
 unfold pc_mill_Proc
 unfold f_mill_Proc at h
 refine s_seq ?_
 refine g_reg hG ?_
 refine s_seq ?_
 refine g_reg hG ?_
 obtain ⟨v1, hv1, h⟩ := bind_of h
 refine g_call (fun hg => mill_Mod_ok a0 8 _ (hv1)) ?_
 refine s_seq ?_
 refine g_reg hG ?_
 refine g_ret ?_
 exact g_end h

def lit_mill_Mode_1  : List Int := [5, 5, 3, 4, 2, 1, 3, 5]
noncomputable def f_mill_Mode (a0 : Int) : Option (Int) :=
 (f_mill_Mod a0 (lit_mill_Mode_1.length : Int)).bind fun v1 =>
 gd (0 ≤ v1 ∧ v1 < (lit_mill_Mode_1.length : Int)) <|
 some (lit_mill_Mode_1.getD v1.toNat 0)
theorem mill_Mode_ok (a0 : Int) (r : Int) (h : f_mill_Mode a0 = some r) : PFn C 42 [.int .i64 a0] (.int .i64 r) := by
 refine pfn_intro chk_mill_Mode rfl fun E hG hN hK => ?_
 unfold pc_mill_Mode
 unfold f_mill_Mode at h
 refine s_seq ?_
 refine g_reg hG ?_
 refine s_seq ?_
 refine g_reg hG ?_
 refine g_gh (.cast 3 (.full (lit_mill_Mode_1.map (eI .i64)))) ?_
 refine s_seq ?_
 refine g_reg hG ?_
 obtain ⟨v1, hv1, h⟩ := bind_of h
 obtain ⟨hb1, h⟩ := gd_some h
 refine g_call (fun hg => mill_Mod_ok a0 (lit_mill_Mode_1.length : Int) _ (hv1)) ?_
 refine g_ret ?_
 exact g_end h

noncomputable def f_mill_Amount (a0 : Resource) (a1 : Int) : Option (Amount) :=
 (if (decide (a0.kind = 1)) = true then
  (f_mill_Mode a1).bind fun v1 =>
  some ({ Amount.zero with mode := v1 })
 else
  (f_mill_Mod a1 a0.units).bind fun v2 =>
  some ({ Amount.zero with units := (IntKind.i64.wrap (1 + v2)) }))
theorem mill_Amount_ok (a0 : Resource) (a1 : Int) (r : Amount) (h : f_mill_Amount a0 a1 = some r) : PFn C 24 [.agg (Resource.enc a0), .int .i64 a1] (.agg (Amount.enc r)) := by
 refine pfn_intro chk_mill_Amount rfl fun E hG hN hK => ?_
 unfold pc_mill_Amount
 unfold f_mill_Amount at h
 refine s_seq ?_
 refine g_reg hG ?_
 refine s_seq ?_
 refine s_seq ?_
 refine g_reg hG ?_
 refine g_cond rfl hG h (fun _ h => ?_) (fun _ h => ?_)
 · refine s_seq ?_
   refine g_reg hG ?_
   obtain ⟨v1, hv1, h⟩ := bind_of h
   refine g_call (fun hg => mill_Mode_ok a1 _ (hv1)) ?_
   refine g_ret ?_
   exact g_end h
 refine g_skip ?_
 refine s_seq ?_
 refine g_reg hG ?_
 obtain ⟨v2, hv2, h⟩ := bind_of h
 refine g_call (fun hg => mill_Mod_ok a1 a0.units _ (hv2)) ?_
 refine g_ret ?_
 exact g_end h

noncomputable def f_law10_made_k1  (j1 : (List Hold)) : Option ((List Hold)) :=
 some j1
@[go_sem] def J_law10_made_k1  (j1 : (List Hold)) : St := ⟨[(5, .sl (j1.map Hold.enc))], [], 0⟩
noncomputable def f_law10_made_l1 (a0 : Resource) (a1 : List Int) (g1 : (List Hold) × Int) : Option (((List Hold) × Int) ⊕ (((List Hold)))) :=
 (if (decide (g1.2 < (a1.length : Int))) = true then
  gd (0 ≤ g1.2 ∧ g1.2 < (a1.length : Int)) <|
  (f_mill_Proc (a1.getD g1.2.toNat 0)).bind fun v1 =>
  gd (0 ≤ g1.2 ∧ g1.2 < (a1.length : Int)) <|
  (f_mill_Amount a0 ((a1.getD g1.2.toNat 0).fdiv (2 ^ 3))).bind fun v2 =>
  (f_ref10_Room a0 g1.1 v1 v2).bind fun v3 =>
  (if v3 = true then
   (f_ref10_Set g1.1 v1 v2).bind fun v4 =>
   some (.inl (v4, (IntKind.i64.wrap (g1.2 + 1))))
  else
   some (.inl (g1.1, (IntKind.i64.wrap (g1.2 + 1)))))
 else
  some (.inr g1.1))
@[go_sem] def I_law10_made_l1 (a0 : Resource) (a1 : List Int) (g1 : (List Hold) × Int) : St := ⟨[(1, .sl (a1.map (eI .i64))), (2, .ptr 0 0 0), (5, .sl (g1.1.map Hold.enc)), (6, .int .i64 g1.2)], [(0, ⟨false, 4, (Resource.enc Resource.zero), [Resource.enc a0]⟩)], 1⟩
noncomputable def f_law10_made (a0 : Resource) (a1 : List Int) : Option ((List Hold)) :=
 (loopO (f_law10_made_l1 a0 a1) ([], 0)).bind (fun z => f_law10_made_k1 z)
theorem law10_made_ok (a0 : Resource) (a1 : List Int) (r : (List Hold)) (h : f_law10_made a0 a1 = some r) : PFn C 22 [.agg (Resource.enc a0), .sl (a1.map (eI .i64))] (.sl (r.map Hold.enc)) := by
 refine pfn_intro chk_law10_made rfl fun E hG hN hK => ?_
 unfold pc_law10_made
 unfold f_law10_made at h
 refine s_seq ?_
 refine g_reg hG ?_
 refine s_seq ?_
 refine g_reg hG ?_
 refine s_seq ?_
 refine s_seq ?_
 refine g_reg hG ?_
 refine s_blockJ (J_law10_made_k1) (fun v => f_law10_made_k1 v = some r) ?_ ?_
 · intro j1 h
   unfold f_law10_made_k1 at h
   refine g_st ?_
   refine s_seq ?_
   refine g_reg hG ?_
   refine g_ret ?_
   exact g_end h
 refine g_loop (I_law10_made_l1 a0 a1) hK [(0, 0)] h (fun x_l1 h g1 y_l1 h_l1 hx_l1 => ?_)
 unfold f_law10_made_l1 at h_l1
 refine g_st ?_
 refine s_seq ?_
 refine s_seq ?_
 refine g_reg hG ?_
 refine g_cond rfl hG h_l1 (fun _ h_l1 => ?_) (fun _ h_l1 => ?_)
 · refine g_skip ?_
   refine s_seq ?_
   refine s_block ?_
   refine s_seq ?_
   obtain ⟨hb1, h_l1⟩ := gd_some h_l1
   refine g_regm C_mixed hG ?_
   obtain ⟨v1, hv1, h_l1⟩ := bind_of h_l1
   obtain ⟨hb2, h_l1⟩ := gd_some h_l1
   refine g_callM (fun hg => mill_Proc_ok (a1.getD g1.2.toNat 0) _ (hv1)) ?_
   obtain ⟨v2, hv2, h_l1⟩ := bind_of h_l1
   refine g_callM (fun hg => mill_Amount_ok a0 ((a1.getD g1.2.toNat 0).fdiv (2 ^ 3)) _ (hv2)) ?_
   refine s_seq ?_
   refine g_reg hG ?_
   obtain ⟨v3, hv3, h_l1⟩ := bind_of h_l1
   refine g_call (fun hg => ref10_Room_ok a0 g1.1 v1 v2 _ (hv3)) ?_
   refine g_cond rfl hG h_l1 (fun _ h_l1 => ?_) (fun _ h_l1 => ?_)
   · refine g_reg hG ?_
     obtain ⟨v4, hv4, h_l1⟩ := bind_of h_l1
     refine g_call (fun hg => ref10_Set_ok g1.1 v1 v2 _ (hv4)) ?_
     refine g_reg hG ?_
     exact g_next hK [(0, 0)] h_l1
   refine g_skip ?_
   refine g_reg hG ?_
   exact g_next hK [(0, 0)] h_l1
 refine g_exit ?_
 obtain rfl := Option.some.inj h_l1
 have hx := hx_l1 _ rfl
 subst hx
 try dsimp only at h
 exact g_join hK [] g1.1 (by exact h)

noncomputable def f_law10_HoldersYield_k1 (v2 : Resource) (v3 : (List Hold)) (v4 : Proc) (v5 : Amount) (v6 : (List Proc)) (j1 : (List Hold)) : Option (Bool) :=
 (f_law10_awake).bind fun v7 =>
 ((if v7 = true then f_holders_Room v2 v3 v4 v5 else some (false))).bind fun v8 =>
 ((if (v7 && (decide (v8 = (decide ((v6.length : Int) = 0))))) = true then f_holders_Room v2 j1 v4 v5 else some (false))).bind fun v9 =>
 some ((v7 && (decide (v8 = (decide ((v6.length : Int) = 0))))) && v9)
@[go_sem] def J_law10_HoldersYield_k1 (v2 : Resource) (v3 : (List Hold)) (v4 : Proc) (v5 : Amount) (v6 : (List Proc)) (j1 : (List Hold)) : St := ⟨[(9, .ptr 0 0 0), (10, .sl (v3.map Hold.enc)), (11, .ptr 1 0 0), (12, .ptr 2 0 0), (13, .sl (v6.map Proc.enc)), (14, .sl (j1.map Hold.enc))], [(0, ⟨false, 4, (Resource.enc Resource.zero), [Resource.enc v2]⟩), (1, ⟨false, 3, (Proc.enc Proc.zero), [Proc.enc v4]⟩), (2, ⟨false, 2, (Amount.enc Amount.zero), [Amount.enc v5]⟩)], 3⟩
noncomputable def f_law10_HoldersYield_l1 (v6 : (List Proc)) (g1 : (List Hold) × Int) : Option (((List Hold) × Int) ⊕ (((List Hold)))) :=
 (if (decide (g1.2 < (v6.length : Int))) = true then
  gd (0 ≤ g1.2 ∧ g1.2 < (v6.length : Int)) <|
  (f_ref10_Set g1.1 (v6.getD g1.2.toNat Proc.zero) ({ Amount.zero with  })).bind fun v10 =>
  some (.inl (v10, (IntKind.i64.wrap (g1.2 + 1))))
 else
  some (.inr g1.1))
@[go_sem] def I_law10_HoldersYield_l1 (v2 : Resource) (v3 : (List Hold)) (v4 : Proc) (v5 : Amount) (v6 : (List Proc)) (g1 : (List Hold) × Int) : St := ⟨[(9, .ptr 0 0 0), (10, .sl (v3.map Hold.enc)), (11, .ptr 1 0 0), (12, .ptr 2 0 0), (13, .sl (v6.map Proc.enc)), (14, .sl (g1.1.map Hold.enc)), (15, .int .i64 g1.2)], [(0, ⟨false, 4, (Resource.enc Resource.zero), [Resource.enc v2]⟩), (1, ⟨false, 3, (Proc.enc Proc.zero), [Proc.enc v4]⟩), (2, ⟨false, 2, (Amount.enc Amount.zero), [Amount.enc v5]⟩)], 3⟩
noncomputable def f_law10_HoldersYield (a0 : Int) (a1 : List Int) (a2 : Int) (a3 : Int) : Option (Bool) :=
 (if (!(f_mill_Light a1)) = true then
  (f_law10_awake).bind fun v1 =>
  some v1
 else
  (f_mill_Resource a0).bind fun v2 =>
  (f_law10_made v2 a1).bind fun v3 =>
  (f_mill_Proc a2).bind fun v4 =>
  (f_mill_Amount v2 a3).bind fun v5 =>
  (f_holders_Against v2 v3 v4 v5).bind fun v6 =>
  (loopO (f_law10_HoldersYield_l1 v6) (v3, 0)).bind (fun z => f_law10_HoldersYield_k1 v2 v3 v4 v5 v6 z))
theorem law10_HoldersYield_ok (a0 : Int) (a1 : List Int) (a2 : Int) (a3 : Int) (r : Bool) (h : f_law10_HoldersYield a0 a1 a2 a3 = some r) : PFn C 6 [.int .i64 a0, .sl (a1.map (eI .i64)), .int .i64 a2, .int .i64 a3] (.bool r) := by
 refine pfn_intro chk_law10_HoldersYield rfl fun E hG hN hK => ?_
 unfold pc_law10_HoldersYield
 unfold f_law10_HoldersYield at h
 refine s_seq ?_
 refine g_reg hG ?_
 refine s_seq ?_
 refine s_seq ?_
 refine g_reg hG ?_
 refine g_call (fun hg => mill_Light_ok a1) ?_
 refine g_cond rfl hG h (fun _ h => ?_) (fun _ h => ?_)
 · refine s_seq ?_
   refine g_reg hG ?_
   obtain ⟨v1, hv1, h⟩ := bind_of h
   refine g_call (fun hg => law10_awake_ok  _ (hv1)) ?_
   refine g_ret ?_
   exact g_end h
 refine g_skip ?_
 refine s_seq ?_
 refine g_reg hG ?_
 obtain ⟨v2, hv2, h⟩ := bind_of h
 refine g_call (fun hg => mill_Resource_ok a0 _ (hv2)) ?_
 refine s_seq ?_
 refine g_reg hG ?_
 obtain ⟨v3, hv3, h⟩ := bind_of h
 refine g_call (fun hg => law10_made_ok v2 a1 _ (hv3)) ?_
 refine s_seq ?_
 refine g_regm C_mixed hG ?_
 obtain ⟨v4, hv4, h⟩ := bind_of h
 refine g_callM (fun hg => mill_Proc_ok a2 _ (hv4)) ?_
 obtain ⟨v5, hv5, h⟩ := bind_of h
 refine g_callM (fun hg => mill_Amount_ok v2 a3 _ (hv5)) ?_
 refine s_seq ?_
 refine g_reg hG ?_
 obtain ⟨v6, hv6, h⟩ := bind_of h
 refine g_call (fun hg => holders_Against_ok v2 v3 v4 v5 _ (hv6)) ?_
 refine s_seq ?_
 refine g_reg hG ?_
 refine s_seq ?_
 refine s_seq ?_
 refine g_reg hG ?_
 refine s_blockJ (J_law10_HoldersYield_k1 v2 v3 v4 v5 v6) (fun v => f_law10_HoldersYield_k1 v2 v3 v4 v5 v6 v = some r) ?_ ?_
 · intro j1 h
   unfold f_law10_HoldersYield_k1 at h
   refine g_st ?_
   refine s_seq ?_
   refine g_reg hG ?_
   obtain ⟨v7, hv7, h⟩ := bind_of h
   refine g_call (fun hg => law10_awake_ok  _ (hv7)) ?_
   obtain ⟨v8, hv8, h⟩ := bind_of h
   refine g_call (fun hg => holders_Room_ok v2 v3 v4 v5 _ (ite_t hg hv8)) ?_
   obtain ⟨v9, hv9, h⟩ := bind_of h
   refine g_call (fun hg => holders_Room_ok v2 j1 v4 v5 _ (ite_t hg hv9)) ?_
   refine g_ret ?_
   exact g_end h
 refine g_loop (I_law10_HoldersYield_l1 v2 v3 v4 v5 v6) hK [(0, 0), (1, 1), (2, 2)] h (fun x_l1 h g1 y_l1 h_l1 hx_l1 => ?_)
 unfold f_law10_HoldersYield_l1 at h_l1
 refine g_st ?_
 refine s_seq ?_
 refine s_seq ?_
 refine g_reg hG ?_
 refine g_cond rfl hG h_l1 (fun _ h_l1 => ?_) (fun _ h_l1 => ?_)
 · refine g_skip ?_
   refine s_seq ?_
   refine s_block ?_
   obtain ⟨hb1, h_l1⟩ := gd_some h_l1
   refine g_reg hG ?_
   obtain ⟨v10, hv10, h_l1⟩ := bind_of h_l1
   refine g_call (fun hg => ref10_Set_ok g1.1 (v6.getD g1.2.toNat Proc.zero) ({ Amount.zero with  }) _ (hv10)) ?_
   refine g_reg hG ?_
   exact g_next hK [(0, 0), (1, 1), (2, 2)] h_l1
 refine g_exit ?_
 obtain rfl := Option.some.inj h_l1
 have hx := hx_l1 _ rfl
 subst hx
 try dsimp only at h
 exact g_join hK [(0, 0), (1, 1), (2, 2)] g1.1 (by exact h)

noncomputable def f_law10_HoldersShrinks (a0 : Int) (a1 : List Int) (a2 : Int) (a3 : Int) (a4 : Int) : Option (Bool) :=
 (if (!(f_mill_Light a1)) = true then
  (f_law10_awake).bind fun v1 =>
  some v1
 else
  (f_mill_Resource a0).bind fun v2 =>
  (f_law10_made v2 a1).bind fun v3 =>
  (f_mill_Proc a2).bind fun v4 =>
  (f_holders_Set v3 v4 ({ Amount.zero with  })).bind fun v5 =>
  (f_mill_Proc a3).bind fun v6 =>
  (f_mill_Amount v2 a4).bind fun v7 =>
  (f_mill_Proc a2).bind fun v8 =>
  (if (decide (v8 = v6)) = true then
   (f_law10_awake).bind fun v9 =>
   ((if v9 = true then f_holders_Valid v2 v5 else some (false))).bind fun v10 =>
   some (v9 && v10)
  else
   (f_law10_awake).bind fun v11 =>
   ((if v11 = true then f_holders_Valid v2 v3 else some (false))).bind fun v12 =>
   ((if (v11 && v12) = true then f_holders_Valid v2 v5 else some (false))).bind fun v13 =>
   ((if ((v11 && v12) && v13) = true then f_holders_Room v2 v3 v6 v7 else some (false))).bind fun v14 =>
   ((if (((v11 && v12) && v13) && v14) = true then f_holders_Room v2 v5 v6 v7 else some (false))).bind fun v15 =>
   some (((v11 && v12) && v13) && ((!v14) || v15))))
theorem law10_HoldersShrinks_ok (a0 : Int) (a1 : List Int) (a2 : Int) (a3 : Int) (a4 : Int) (r : Bool) (h : f_law10_HoldersShrinks a0 a1 a2 a3 a4 = some r) : PFn C 7 [.int .i64 a0, .sl (a1.map (eI .i64)), .int .i64 a2, .int .i64 a3, .int .i64 a4] (.bool r) := by
 refine pfn_intro chk_law10_HoldersShrinks rfl fun E hG hN hK => ?_
 unfold pc_law10_HoldersShrinks
 unfold f_law10_HoldersShrinks at h
 refine s_seq ?_
 refine g_reg hG ?_
 refine s_seq ?_
 refine s_seq ?_
 refine g_reg hG ?_
 refine g_call (fun hg => mill_Light_ok a1) ?_
 refine g_cond rfl hG h (fun _ h => ?_) (fun _ h => ?_)
 · refine s_seq ?_
   refine g_reg hG ?_
   obtain ⟨v1, hv1, h⟩ := bind_of h
   refine g_call (fun hg => law10_awake_ok  _ (hv1)) ?_
   refine g_ret ?_
   exact g_end h
 refine g_skip ?_
 refine s_seq ?_
 refine g_reg hG ?_
 obtain ⟨v2, hv2, h⟩ := bind_of h
 refine g_call (fun hg => mill_Resource_ok a0 _ (hv2)) ?_
 refine s_seq ?_
 refine g_reg hG ?_
 obtain ⟨v3, hv3, h⟩ := bind_of h
 refine g_call (fun hg => law10_made_ok v2 a1 _ (hv3)) ?_
 refine s_seq ?_
 refine g_reg hG ?_
 obtain ⟨v4, hv4, h⟩ := bind_of h
 refine g_call (fun hg => mill_Proc_ok a2 _ (hv4)) ?_
 obtain ⟨v5, hv5, h⟩ := bind_of h
 refine g_call (fun hg => holders_Set_ok v3 v4 ({ Amount.zero with  }) _ (hv5)) ?_
 refine s_seq ?_
 refine g_regm C_mixed hG ?_
 obtain ⟨v6, hv6, h⟩ := bind_of h
 refine g_callM (fun hg => mill_Proc_ok a3 _ (hv6)) ?_
 obtain ⟨v7, hv7, h⟩ := bind_of h
 refine g_callM (fun hg => mill_Amount_ok v2 a4 _ (hv7)) ?_
 refine s_seq ?_
 refine s_seq ?_
 refine g_regd C_mixed hG ?_
 obtain ⟨v8, hv8, h⟩ := bind_of h
 refine g_calld (fun hg => mill_Proc_ok a2 _ (hv8)) ?_
 refine g_cond rfl hG h (fun _ h => ?_) (fun _ h => ?_)
 · refine s_seq ?_
   refine g_reg hG ?_
   obtain ⟨v9, hv9, h⟩ := bind_of h
   refine g_call (fun hg => law10_awake_ok  _ (hv9)) ?_
   obtain ⟨v10, hv10, h⟩ := bind_of h
   refine g_call (fun hg => holders_Valid_ok v2 v5 _ (ite_t hg hv10)) ?_
   refine g_ret ?_
   exact g_end h
 refine g_skip ?_
 refine s_seq ?_
 refine g_reg hG ?_
 obtain ⟨v11, hv11, h⟩ := bind_of h
 refine g_call (fun hg => law10_awake_ok  _ (hv11)) ?_
 obtain ⟨v12, hv12, h⟩ := bind_of h
 refine g_call (fun hg => holders_Valid_ok v2 v3 _ (ite_t hg hv12)) ?_
 obtain ⟨v13, hv13, h⟩ := bind_of h
 refine g_call (fun hg => holders_Valid_ok v2 v5 _ (ite_t hg hv13)) ?_
 obtain ⟨v14, hv14, h⟩ := bind_of h
 refine g_call (fun hg => holders_Room_ok v2 v3 v6 v7 _ (ite_t hg hv14)) ?_
 obtain ⟨v15, hv15, h⟩ := bind_of h
 refine g_call (fun hg => holders_Room_ok v2 v5 v6 v7 _ (ite_t hg hv15)) ?_
 refine g_ret ?_
 exact g_end h

noncomputable def f_law10_HoldersGrow_k1 (a1 : List Int) (v2 : Resource) (j1 : (List Hold)) : Option (Bool) :=
 (f_law10_awake).bind fun v3 =>
 ((if v3 = true then f_law10_made v2 a1 else some ([]))).bind fun v4 =>
 ((if v3 = true then f_ref10_SameHolds j1 v4 else some (false))).bind fun v5 =>
 some (v3 && v5)
@[go_sem] def J_law10_HoldersGrow_k1 (a1 : List Int) (v2 : Resource) (j1 : (List Hold)) : St := ⟨[(1, .sl (a1.map (eI .i64))), (5, .ptr 0 0 0), (6, .sl (j1.map Hold.enc))], [(0, ⟨false, 4, (Resource.enc Resource.zero), [Resource.enc v2]⟩)], 1⟩
noncomputable def f_law10_HoldersGrow_k2 (v2 : Resource) (g1 : (List Hold) × Int) (j2 : (List Hold)) : Option (((List Hold) × Int) ⊕ (((List Hold)) ⊕ (Bool))) :=
 (f_ref10_Valid v2 j2).bind fun v9 =>
 (if (!v9) = true then
  some (.inr (.inr false))
 else
  some (.inl (j2, (IntKind.i64.wrap (g1.2 + 1)))))
@[go_sem] def J_law10_HoldersGrow_k2 (a1 : List Int) (v2 : Resource) (g1 : (List Hold) × Int) (j2 : (List Hold)) : St := ⟨[(1, .sl (a1.map (eI .i64))), (5, .ptr 0 0 0), (6, .sl (j2.map Hold.enc)), (7, .int .i64 g1.2)], [(0, ⟨false, 4, (Resource.enc Resource.zero), [Resource.enc v2]⟩)], 1⟩
noncomputable def f_law10_HoldersGrow_l1 (a1 : List Int) (v2 : Resource) (g1 : (List Hold) × Int) : Option (((List Hold) × Int) ⊕ (((List Hold)) ⊕ (Bool))) :=
 (if (decide (g1.2 < (a1.length : Int))) = true then
  gd (0 ≤ g1.2 ∧ g1.2 < (a1.length : Int)) <|
  (f_mill_Proc (a1.getD g1.2.toNat 0)).bind fun v6 =>
  gd (0 ≤ g1.2 ∧ g1.2 < (a1.length : Int)) <|
  (f_mill_Amount v2 ((a1.getD g1.2.toNat 0).fdiv (2 ^ 3))).bind fun v7 =>
  (f_holders_Room v2 g1.1 v6 v7).bind fun v8 =>
  (if v8 = true then
   (f_holders_Set g1.1 v6 v7).bind fun v10 =>
   f_law10_HoldersGrow_k2 v2 g1 v10
  else
   f_law10_HoldersGrow_k2 v2 g1 g1.1)
 else
  some (.inr (.inl g1.1)))
@[go_sem] def I_law10_HoldersGrow_l1 (a1 : List Int) (v2 : Resource) (g1 : (List Hold) × Int) : St := ⟨[(1, .sl (a1.map (eI .i64))), (5, .ptr 0 0 0), (6, .sl (g1.1.map Hold.enc)), (7, .int .i64 g1.2)], [(0, ⟨false, 4, (Resource.enc Resource.zero), [Resource.enc v2]⟩)], 1⟩
noncomputable def f_law10_HoldersGrow (a0 : Int) (a1 : List Int) : Option (Bool) :=
 (if (!(f_mill_Light a1)) = true then
  (f_law10_awake).bind fun v1 =>
  some v1
 else
  (f_mill_Resource a0).bind fun v2 =>
  (loopO (f_law10_HoldersGrow_l1 a1 v2) ([], 0)).bind (fun | .inl z => f_law10_HoldersGrow_k1 a1 v2 z | .inr z => some z))
theorem law10_HoldersGrow_ok (a0 : Int) (a1 : List Int) (r : Bool) (h : f_law10_HoldersGrow a0 a1 = some r) : PFn C 8 [.int .i64 a0, .sl (a1.map (eI .i64))] (.bool r) := by
 refine pfn_intro chk_law10_HoldersGrow rfl fun E hG hN hK => ?_
 unfold pc_law10_HoldersGrow
 unfold f_law10_HoldersGrow at h
 refine s_seq ?_
 refine g_reg hG ?_
 refine s_seq ?_
 refine s_seq ?_
 refine g_reg hG ?_
 refine g_call (fun hg => mill_Light_ok a1) ?_
 refine g_cond rfl hG h (fun _ h => ?_) (fun _ h => ?_)
 · refine s_seq ?_
   refine g_reg hG ?_
   obtain ⟨v1, hv1, h⟩ := bind_of h
   refine g_call (fun hg => law10_awake_ok  _ (hv1)) ?_
   refine g_ret ?_
   exact g_end h
 refine g_skip ?_
 refine s_seq ?_
 refine g_reg hG ?_
 obtain ⟨v2, hv2, h⟩ := bind_of h
 refine g_call (fun hg => mill_Resource_ok a0 _ (hv2)) ?_
 refine s_seq ?_
 refine g_reg hG ?_
 refine s_seq ?_
 refine s_seq ?_
 refine g_reg hG ?_
 refine s_blockJ (J_law10_HoldersGrow_k1 a1 v2) (fun v => f_law10_HoldersGrow_k1 a1 v2 v = some r) ?_ ?_
 · intro j1 h
   unfold f_law10_HoldersGrow_k1 at h
   refine g_st ?_
   refine s_seq ?_
   refine g_reg hG ?_
   obtain ⟨v3, hv3, h⟩ := bind_of h
   refine g_call (fun hg => law10_awake_ok  _ (hv3)) ?_
   obtain ⟨v4, hv4, h⟩ := bind_of h
   refine g_call (fun hg => law10_made_ok v2 a1 _ (ite_t hg hv4)) ?_
   obtain ⟨v5, hv5, h⟩ := bind_of h
   refine g_call (fun hg => ref10_SameHolds_ok j1 v4 _ (ite_t hg hv5)) ?_
   refine g_ret ?_
   exact g_end h
 refine g_loop (I_law10_HoldersGrow_l1 a1 v2) hK [(0, 0)] h (fun x_l1 h g1 y_l1 h_l1 hx_l1 => ?_)
 unfold f_law10_HoldersGrow_l1 at h_l1
 refine g_st ?_
 refine s_seq ?_
 refine s_seq ?_
 refine g_reg hG ?_
 refine g_cond rfl hG h_l1 (fun _ h_l1 => ?_) (fun _ h_l1 => ?_)
 · refine g_skip ?_
   refine s_seq ?_
   refine s_block ?_
   refine s_seq ?_
   obtain ⟨hb1, h_l1⟩ := gd_some h_l1
   refine g_regm C_mixed hG ?_
   obtain ⟨v6, hv6, h_l1⟩ := bind_of h_l1
   obtain ⟨hb2, h_l1⟩ := gd_some h_l1
   refine g_callM (fun hg => mill_Proc_ok (a1.getD g1.2.toNat 0) _ (hv6)) ?_
   obtain ⟨v7, hv7, h_l1⟩ := bind_of h_l1
   refine g_callM (fun hg => mill_Amount_ok v2 ((a1.getD g1.2.toNat 0).fdiv (2 ^ 3)) _ (hv7)) ?_
   refine s_seq ?_
   refine s_seq ?_
   refine g_reg hG ?_
   obtain ⟨v8, hv8, h_l1⟩ := bind_of h_l1
   refine g_call (fun hg => holders_Room_ok v2 g1.1 v6 v7 _ (hv8)) ?_
   refine g_condJ (J_law10_HoldersGrow_k2 a1 v2 g1) (fun v => f_law10_HoldersGrow_k2 v2 g1 v = some y_l1) rfl hG h_l1 ?_ (fun _ h_l1 => ?_) (fun _ h_l1 => ?_)
   · intro j2 h_l1
     unfold f_law10_HoldersGrow_k2 at h_l1
     refine g_st ?_
     refine s_seq ?_
     refine g_reg hG ?_
     obtain ⟨v9, hv9, h_l1⟩ := bind_of h_l1
     refine g_call (fun hg => ref10_Valid_ok v2 j2 _ (hv9)) ?_
     refine g_cond rfl hG h_l1 (fun _ h_l1 => ?_) (fun _ h_l1 => ?_)
     · refine s_seq ?_
       refine g_reg hG ?_
       refine g_ret ?_
       obtain rfl := Option.some.inj h_l1
       have hx := hx_l1 _ rfl
       subst hx
       try dsimp only at h
       exact g_end h
     refine g_skip ?_
     refine g_reg hG ?_
     exact g_next hK [(0, 0)] h_l1
   · refine g_reg hG ?_
     obtain ⟨v10, hv10, h_l1⟩ := bind_of h_l1
     refine g_call (fun hg => holders_Set_ok g1.1 v6 v7 _ (hv10)) ?_
     exact g_join hK [(0, 0)] v10 (by exact h_l1)
   refine g_skip ?_
   exact g_join hK [(0, 0)] g1.1 (by exact h_l1)
 refine g_exit ?_
 obtain rfl := Option.some.inj h_l1
 have hx := hx_l1 _ rfl
 subst hx
 try dsimp only at h
 exact g_join hK [(0, 0)] g1.1 (by exact h)

noncomputable def f_holders_Get_k1  (j1 : Unit) : Option (Amount) :=
 some ({ Amount.zero with  })
@[go_sem] def J_holders_Get_k1  (j1 : Unit) : St := ⟨[(4, .ptr 0 0 0)], [(0, ⟨false, 2, (Amount.enc Amount.zero), [Amount.enc Amount.zero]⟩)], 1⟩
noncomputable def f_holders_Get_l1 (a0 : List Hold) (a1 : Proc) (g1 : Int) : Option ((Int) ⊕ ((Unit) ⊕ (Amount))) :=
 (if (decide (g1 < (a0.length : Int))) = true then
  gd (0 ≤ g1 ∧ g1 < (a0.length : Int)) <|
  (if (decide ((a0.getD g1.toNat Hold.zero).proc = a1)) = true then
   some (.inr (.inr ((a0.getD g1.toNat Hold.zero).amount)))
  else
   some (.inl (IntKind.i64.wrap (g1 + 1))))
 else
  some (.inr (.inl ())))
@[go_sem] def I_holders_Get_l1 (a0 : List Hold) (a1 : Proc) (g1 : Int) : St := ⟨[(3, .ptr 0 0 0), (4, .ptr 1 0 0), (7, .sl (a0.map Hold.enc)), (8, .int .i64 (a0.length : Int)), (9, .int .i64 g1)], [(0, ⟨false, 3, (Proc.enc Proc.zero), [Proc.enc a1]⟩), (1, ⟨false, 2, (Amount.enc Amount.zero), [Amount.enc Amount.zero]⟩)], 2⟩
noncomputable def f_holders_Get (a0 : List Hold) (a1 : Proc) : Option (Amount) :=
 (loopO (f_holders_Get_l1 a0 a1) 0).bind (fun | .inl z => f_holders_Get_k1 z | .inr z => some z)
theorem holders_Get_ok (a0 : List Hold) (a1 : Proc) (r : Amount) (h : f_holders_Get a0 a1 = some r) : PFn C 27 [.sl (a0.map Hold.enc), .agg (Proc.enc a1)] (.agg (Amount.enc r)) := by
 refine pfn_intro chk_holders_Get rfl fun E hG hN hK => ?_
 unfold pc_holders_Get
 unfold f_holders_Get at h
 refine s_seq ?_
 refine g_reg hG ?_
 refine s_seq ?_
 refine s_seq ?_
 refine g_reg hG ?_
 refine s_blockJ (J_holders_Get_k1) (fun v => f_holders_Get_k1 v = some r) ?_ ?_
 · intro j1 h
   unfold f_holders_Get_k1 at h
   refine g_st ?_
   refine s_seq ?_
   refine g_reg hG ?_
   refine g_ret ?_
   exact g_end h
 refine g_loop (I_holders_Get_l1 a0 a1) hK [(0, 0), (1, 1)] h (fun x_l1 h g1 y_l1 h_l1 hx_l1 => ?_)
 unfold f_holders_Get_l1 at h_l1
 refine g_st ?_
 refine s_seq ?_
 refine g_reg hG ?_
 refine s_seq ?_
 refine g_cond rfl hG h_l1 (fun _ h_l1 => ?_) (fun _ h_l1 => ?_)
 · refine g_skip ?_
   refine s_seq ?_
   refine s_block ?_
   refine s_seq ?_
   obtain ⟨hb1, h_l1⟩ := gd_some h_l1
   refine g_reg hG ?_
   refine s_seq ?_
   refine g_reg hG ?_
   refine g_cond rfl hG h_l1 (fun _ h_l1 => ?_) (fun _ h_l1 => ?_)
   · refine s_seq ?_
     refine g_reg hG ?_
     refine g_ret ?_
     obtain rfl := Option.some.inj h_l1
     have hx := hx_l1 _ rfl
     subst hx
     try dsimp only at h
     exact g_end h
   refine g_skip ?_
   refine g_reg hG ?_
   exact g_next hK [(0, 0), (1, 1)] h_l1
 refine g_exit ?_
 obtain rfl := Option.some.inj h_l1
 have hx := hx_l1 _ rfl
 subst hx
 try dsimp only at h
 exact g_join hK [(0, 1)] () (by exact h)

noncomputable def f_ref10_Get_k1  (j1 : Unit) : Option (Amount) :=
 some ({ Amount.zero with  })
@[go_sem] def J_ref10_Get_k1  (j1 : Unit) : St := ⟨[(4, .ptr 0 0 0)], [(0, ⟨false, 2, (Amount.enc Amount.zero), [Amount.enc Amount.zero]⟩)], 1⟩
noncomputable def f_ref10_Get_l1 (a0 : List Hold) (a1 : Proc) (g1 : Int) : Option ((Int) ⊕ ((Unit) ⊕ (Amount))) :=
 (if (decide (g1 < (a0.length : Int))) = true then
  gd (0 ≤ g1 ∧ g1 < (a0.length : Int)) <|
  (if (decide ((a0.getD g1.toNat Hold.zero).proc = a1)) = true then
   gd (0 ≤ g1 ∧ g1 < (a0.length : Int)) <|
   some (.inr (.inr ((a0.getD g1.toNat Hold.zero).amount)))
  else
   some (.inl (IntKind.i64.wrap (g1 + 1))))
 else
  some (.inr (.inl ())))
@[go_sem] def I_ref10_Get_l1 (a0 : List Hold) (a1 : Proc) (g1 : Int) : St := ⟨[(0, .sl (a0.map Hold.enc)), (3, .ptr 0 0 0), (4, .ptr 1 0 0), (5, .int .i64 g1)], [(0, ⟨false, 3, (Proc.enc Proc.zero), [Proc.enc a1]⟩), (1, ⟨false, 2, (Amount.enc Amount.zero), [Amount.enc Amount.zero]⟩)], 2⟩
noncomputable def f_ref10_Get (a0 : List Hold) (a1 : Proc) : Option (Amount) :=
 (loopO (f_ref10_Get_l1 a0 a1) 0).bind (fun | .inl z => f_ref10_Get_k1 z | .inr z => some z)
theorem ref10_Get_ok (a0 : List Hold) (a1 : Proc) (r : Amount) (h : f_ref10_Get a0 a1 = some r) : PFn C 29 [.sl (a0.map Hold.enc), .agg (Proc.enc a1)] (.agg (Amount.enc r)) := by
 refine pfn_intro chk_ref10_Get rfl fun E hG hN hK => ?_
 unfold pc_ref10_Get
 unfold f_ref10_Get at h
 refine s_seq ?_
 refine g_reg hG ?_
 refine s_seq ?_
 refine s_seq ?_
 refine g_reg hG ?_
 refine s_blockJ (J_ref10_Get_k1) (fun v => f_ref10_Get_k1 v = some r) ?_ ?_
 · intro j1 h
   unfold f_ref10_Get_k1 at h
   refine g_st ?_
   refine s_seq ?_
   refine g_reg hG ?_
   refine g_ret ?_
   exact g_end h
 refine g_loop (I_ref10_Get_l1 a0 a1) hK [(0, 0), (1, 1)] h (fun x_l1 h g1 y_l1 h_l1 hx_l1 => ?_)
 unfold f_ref10_Get_l1 at h_l1
 refine g_st ?_
 refine s_seq ?_
 refine s_seq ?_
 refine g_reg hG ?_
 refine g_cond rfl hG h_l1 (fun _ h_l1 => ?_) (fun _ h_l1 => ?_)
 · refine g_skip ?_
   refine s_seq ?_
   refine s_block ?_
   refine s_seq ?_
   obtain ⟨hb2, h_l1⟩ := gd_some h_l1
   refine g_regd C_mixed hG ?_
   refine g_cond rfl hG h_l1 (fun _ h_l1 => ?_) (fun _ h_l1 => ?_)
   · refine s_seq ?_
     obtain ⟨hb1, h_l1⟩ := gd_some h_l1
     refine g_reg hG ?_
     refine g_ret ?_
     obtain rfl := Option.some.inj h_l1
     have hx := hx_l1 _ rfl
     subst hx
     try dsimp only at h
     exact g_end h
   refine g_skip ?_
   refine g_reg hG ?_
   exact g_next hK [(0, 0), (1, 1)] h_l1
 refine g_exit ?_
 obtain rfl := Option.some.inj h_l1
 have hx := hx_l1 _ rfl
 subst hx
 try dsimp only at h
 exact g_join hK [(0, 1)] () (by exact h)

noncomputable def f_law10_HoldersGets (a0 : Int) (a1 : List Int) (a2 : Int) (a3 : Int) (a4 : Int) : Option (Bool) :=
 (if (!(f_mill_Light a1)) = true then
  (f_law10_awake).bind fun v1 =>
  some v1
 else
  (f_mill_Resource a0).bind fun v2 =>
  (f_law10_made v2 a1).bind fun v3 =>
  (f_mill_Proc a2).bind fun v4 =>
  (f_mill_Proc a4).bind fun v5 =>
  (f_mill_Amount v2 a3).bind fun v6 =>
  (f_holders_Set v3 v4 v6).bind fun v7 =>
  (f_holders_Set v7 v4 ({ Amount.zero with  })).bind fun v8 =>
  (f_law10_awake).bind fun v9 =>
  ((if v9 = true then f_holders_Get v7 v4 else some (Amount.zero))).bind fun v10 =>
  ((if (v9 && (decide (v10 = v6))) = true then f_holders_Get v8 v4 else some (Amount.zero))).bind fun v11 =>
  ((if (((v9 && (decide (v10 = v6))) && (f_ref04_Zero v11)) && (!(decide (v4 = v5)))) = true then f_holders_Get v7 v5 else some (Amount.zero))).bind fun v12 =>
  ((if (((v9 && (decide (v10 = v6))) && (f_ref04_Zero v11)) && (!(decide (v4 = v5)))) = true then f_ref10_Get v3 v5 else some (Amount.zero))).bind fun v13 =>
  ((if ((((v9 && (decide (v10 = v6))) && (f_ref04_Zero v11)) && (!(decide (v4 = v5)))) && (decide (v12 = v13))) = true then f_holders_Get v8 v5 else some (Amount.zero))).bind fun v14 =>
  ((if ((((v9 && (decide (v10 = v6))) && (f_ref04_Zero v11)) && (!(decide (v4 = v5)))) && (decide (v12 = v13))) = true then f_ref10_Get v3 v5 else some (Amount.zero))).bind fun v15 =>
  some (((v9 && (decide (v10 = v6))) && (f_ref04_Zero v11)) && ((decide (v4 = v5)) || ((decide (v12 = v13)) && (decide (v14 = v15))))))
theorem law10_HoldersGets_ok (a0 : Int) (a1 : List Int) (a2 : Int) (a3 : Int) (a4 : Int) (r : Bool) (h : f_law10_HoldersGets a0 a1 a2 a3 a4 = some r) : PFn C 9 [.int .i64 a0, .sl (a1.map (eI .i64)), .int .i64 a2, .int .i64 a3, .int .i64 a4] (.bool r) := by
 refine pfn_intro chk_law10_HoldersGets rfl fun E hG hN hK => ?_
 unfold pc_law10_HoldersGets
 unfold f_law10_HoldersGets at h
 refine s_seq ?_
 refine g_reg hG ?_
 refine s_seq ?_
 refine s_seq ?_
 refine g_reg hG ?_
 refine g_call (fun hg => mill_Light_ok a1) ?_
 refine g_cond rfl hG h (fun _ h => ?_) (fun _ h => ?_)
 · refine s_seq ?_
   refine g_reg hG ?_
   obtain ⟨v1, hv1, h⟩ := bind_of h
   refine g_call (fun hg => law10_awake_ok  _ (hv1)) ?_
   refine g_ret ?_
   exact g_end h
 refine g_skip ?_
 refine s_seq ?_
 refine g_reg hG ?_
 obtain ⟨v2, hv2, h⟩ := bind_of h
 refine g_call (fun hg => mill_Resource_ok a0 _ (hv2)) ?_
 refine s_seq ?_
 refine g_reg hG ?_
 obtain ⟨v3, hv3, h⟩ := bind_of h
 refine g_call (fun hg => law10_made_ok v2 a1 _ (hv3)) ?_
 refine s_seq ?_
 refine g_reg hG ?_
 obtain ⟨v4, hv4, h⟩ := bind_of h
 refine g_call (fun hg => mill_Proc_ok a2 _ (hv4)) ?_
 obtain ⟨v5, hv5, h⟩ := bind_of h
 refine g_call (fun hg => mill_Proc_ok a4 _ (hv5)) ?_
 refine s_seq ?_
 refine g_reg hG ?_
 obtain ⟨v6, hv6, h⟩ := bind_of h
 refine g_call (fun hg => mill_Amount_ok v2 a3 _ (hv6)) ?_
 refine s_seq ?_
 refine g_reg hG ?_
 obtain ⟨v7, hv7, h⟩ := bind_of h
 refine g_call (fun hg => holders_Set_ok v3 v4 v6 _ (hv7)) ?_
 refine s_seq ?_
 refine g_reg hG ?_
 obtain ⟨v8, hv8, h⟩ := bind_of h
 refine g_call (fun hg => holders_Set_ok v7 v4 ({ Amount.zero with  }) _ (hv8)) ?_
 refine s_seq ?_
 refine g_regd C_mixed hG ?_
 obtain ⟨v9, hv9, h⟩ := bind_of h
 refine g_calld (fun hg => law10_awake_ok  _ (hv9)) ?_
 obtain ⟨v10, hv10, h⟩ := bind_of h
 refine g_calld (fun hg => holders_Get_ok v7 v4 _ (ite_t hg hv10)) ?_
 obtain ⟨v11, hv11, h⟩ := bind_of h
 refine g_calld (fun hg => holders_Get_ok v8 v4 _ (ite_t hg hv11)) ?_
 refine g_calld (fun hg => ref04_Zero_ok v11) ?_
 obtain ⟨v12, hv12, h⟩ := bind_of h
 refine g_calld (fun hg => holders_Get_ok v7 v5 _ (ite_t hg hv12)) ?_
 obtain ⟨v13, hv13, h⟩ := bind_of h
 refine g_calld (fun hg => ref10_Get_ok v3 v5 _ (ite_t hg hv13)) ?_
 obtain ⟨v14, hv14, h⟩ := bind_of h
 refine g_calld (fun hg => holders_Get_ok v8 v5 _ (ite_t hg hv14)) ?_
 obtain ⟨v15, hv15, h⟩ := bind_of h
 refine g_calld (fun hg => ref10_Get_ok v3 v5 _ (ite_t hg hv15)) ?_
 refine g_ret ?_
 exact g_end h

noncomputable def f_holders_Procs_k1  (j1 : (List Proc)) : Option ((List Proc)) :=
 some j1
@[go_sem] def J_holders_Procs_k1  (j1 : (List Proc)) : St := ⟨[(3, .own 0 0 j1.length)], [(0, ⟨false, 3, (Proc.enc Proc.zero), j1.map Proc.enc⟩)], 1⟩
noncomputable def f_holders_Procs_l1 (a0 : List Hold) (g1 : Int × (List Proc)) : Option ((Int × (List Proc)) ⊕ (((List Proc)))) :=
 (if (decide (g1.1 < (a0.length : Int))) = true then
  gd (0 ≤ g1.1 ∧ g1.1 < (a0.length : Int)) <|
  gd (g1.2.length + 1 ≤ 4294967296) <|
  some (.inl ((IntKind.i64.wrap (g1.1 + 1)), (g1.2 ++ [(a0.getD g1.1.toNat Hold.zero).proc])))
 else
  some (.inr g1.2))
@[go_sem] def I_holders_Procs_l1 (a0 : List Hold) (g1 : Int × (List Proc)) : St := ⟨[(3, .own 0 0 g1.2.length), (6, .sl (a0.map Hold.enc)), (7, .int .i64 (a0.length : Int)), (8, .int .i64 g1.1)], [(0, ⟨false, 3, (Proc.enc Proc.zero), g1.2.map Proc.enc⟩)], 1⟩
noncomputable def f_holders_Procs (a0 : List Hold) : Option ((List Proc)) :=
 (loopO (f_holders_Procs_l1 a0) (0, [])).bind (fun z => f_holders_Procs_k1 z)
theorem holders_Procs_ok (a0 : List Hold) (r : (List Proc)) (h : f_holders_Procs a0 = some r) : PFn C 30 [.sl (a0.map Hold.enc)] (.sl (r.map Proc.enc)) := by
 refine pfn_intro chk_holders_Procs rfl fun E hG hN hK => ?_
 unfold pc_holders_Procs
 unfold f_holders_Procs at h
 refine s_seq ?_
 refine g_reg hG ?_
 refine s_seq ?_
 refine g_reg hG ?_
 refine s_seq ?_
 refine s_seq ?_
 refine g_reg hG ?_
 refine s_blockJ (J_holders_Procs_k1) (fun v => f_holders_Procs_k1 v = some r) ?_ ?_
 · intro j1 h
   unfold f_holders_Procs_k1 at h
   refine g_st ?_
   refine s_seq ?_
   refine g_reg hG ?_
   refine g_ret ?_
   exact g_end h
 refine g_loop (I_holders_Procs_l1 a0) hK [(0, 0)] h (fun x_l1 h g1 y_l1 h_l1 hx_l1 => ?_)
 unfold f_holders_Procs_l1 at h_l1
 refine g_st ?_
 refine s_seq ?_
 refine g_reg hG ?_
 refine s_seq ?_
 refine g_cond rfl hG h_l1 (fun _ h_l1 => ?_) (fun _ h_l1 => ?_)
 · refine g_skip ?_
   refine s_seq ?_
   refine s_block ?_
   refine s_seq ?_
   obtain ⟨hb2, h_l1⟩ := gd_some h_l1
   refine g_reg hG ?_
   obtain ⟨hb1, h_l1⟩ := gd_some h_l1
   refine g_reg hG ?_
   refine g_reg hG ?_
   exact g_next hK [(0, 2)] h_l1
 refine g_exit ?_
 obtain rfl := Option.some.inj h_l1
 have hx := hx_l1 _ rfl
 subst hx
 try dsimp only at h
 exact g_join hK [(0, 0)] g1.2 (by exact h)

noncomputable def f_ref10_Procs_k1  (j1 : (List Proc)) : Option ((List Proc)) :=
 some j1
@[go_sem] def J_ref10_Procs_k1  (j1 : (List Proc)) : St := ⟨[(3, .own 0 0 j1.length)], [(0, ⟨false, 3, (Proc.enc Proc.zero), j1.map Proc.enc⟩)], 1⟩
noncomputable def f_ref10_Procs_l1 (a0 : List Hold) (g1 : Int × (List Proc)) : Option ((Int × (List Proc)) ⊕ (((List Proc)))) :=
 (if (decide (g1.1 < (a0.length : Int))) = true then
  gd (0 ≤ g1.1 ∧ g1.1 < (a0.length : Int)) <|
  gd (g1.2.length + 1 ≤ 4294967296) <|
  some (.inl ((IntKind.i64.wrap (g1.1 + 1)), (g1.2 ++ [(a0.getD g1.1.toNat Hold.zero).proc])))
 else
  some (.inr g1.2))
@[go_sem] def I_ref10_Procs_l1 (a0 : List Hold) (g1 : Int × (List Proc)) : St := ⟨[(0, .sl (a0.map Hold.enc)), (3, .own 0 0 g1.2.length), (4, .int .i64 g1.1)], [(0, ⟨false, 3, (Proc.enc Proc.zero), g1.2.map Proc.enc⟩)], 1⟩
noncomputable def f_ref10_Procs (a0 : List Hold) : Option ((List Proc)) :=
 (loopO (f_ref10_Procs_l1 a0) (0, [])).bind (fun z => f_ref10_Procs_k1 z)
theorem ref10_Procs_ok (a0 : List Hold) (r : (List Proc)) (h : f_ref10_Procs a0 = some r) : PFn C 31 [.sl (a0.map Hold.enc)] (.sl (r.map Proc.enc)) := by
 refine pfn_intro chk_ref10_Procs rfl fun E hG hN hK => ?_
 unfold pc_ref10_Procs
 unfold f_ref10_Procs at h
 refine s_seq ?_
 refine g_reg hG ?_
 refine s_seq ?_
 refine g_reg hG ?_
 refine s_seq ?_
 refine s_seq ?_
 refine g_reg hG ?_
 refine s_blockJ (J_ref10_Procs_k1) (fun v => f_ref10_Procs_k1 v = some r) ?_ ?_
 · intro j1 h
   unfold f_ref10_Procs_k1 at h
   refine g_st ?_
   refine s_seq ?_
   refine g_reg hG ?_
   refine g_ret ?_
   exact g_end h
 refine g_loop (I_ref10_Procs_l1 a0) hK [(0, 0)] h (fun x_l1 h g1 y_l1 h_l1 hx_l1 => ?_)
 unfold f_ref10_Procs_l1 at h_l1
 refine g_st ?_
 refine s_seq ?_
 refine s_seq ?_
 refine g_reg hG ?_
 refine g_cond rfl hG h_l1 (fun _ h_l1 => ?_) (fun _ h_l1 => ?_)
 · refine g_skip ?_
   refine s_seq ?_
   refine s_block ?_
   obtain ⟨hb1, h_l1⟩ := gd_some h_l1
   obtain ⟨hb2, h_l1⟩ := gd_some h_l1
   refine g_reg hG ?_
   refine g_reg hG ?_
   exact g_next hK [(0, 1)] h_l1
 refine g_exit ?_
 obtain rfl := Option.some.inj h_l1
 have hx := hx_l1 _ rfl
 subst hx
 try dsimp only at h
 exact g_join hK [(0, 0)] g1.2 (by exact h)

noncomputable def f_law10_HoldersValid (a0 : Resource) (a1 : List Hold) (a2 : Proc) : Option (Bool) :=
 (if (decide (100 < (a1.length : Int))) = true then
  (f_law10_awake).bind fun v1 =>
  some v1
 else
  (f_law10_awake).bind fun v2 =>
  ((if v2 = true then f_holders_Valid a0 a1 else some (false))).bind fun v3 =>
  ((if v2 = true then f_ref10_Valid a0 a1 else some (false))).bind fun v4 =>
  ((if (v2 && (decide (v3 = v4))) = true then f_holders_Get a1 a2 else some (Amount.zero))).bind fun v5 =>
  ((if (v2 && (decide (v3 = v4))) = true then f_ref10_Get a1 a2 else some (Amount.zero))).bind fun v6 =>
  ((if ((v2 && (decide (v3 = v4))) && (decide (v5 = v6))) = true then f_holders_Procs a1 else some ([]))).bind fun v7 =>
  ((if ((v2 && (decide (v3 = v4))) && (decide (v5 = v6))) = true then f_ref10_Procs a1 else some ([]))).bind fun v8 =>
  ((if ((v2 && (decide (v3 = v4))) && (decide (v5 = v6))) = true then f_ref02_SameProcs v7 v8 else some (false))).bind fun v9 =>
  some (((v2 && (decide (v3 = v4))) && (decide (v5 = v6))) && v9))
theorem law10_HoldersValid_ok (a0 : Resource) (a1 : List Hold) (a2 : Proc) (r : Bool) (h : f_law10_HoldersValid a0 a1 a2 = some r) : PFn C 10 [.agg (Resource.enc a0), .sl (a1.map Hold.enc), .agg (Proc.enc a2)] (.bool r) := by
 refine pfn_intro chk_law10_HoldersValid rfl fun E hG hN hK => ?_
 unfold pc_law10_HoldersValid
 unfold f_law10_HoldersValid at h
 refine s_seq ?_
 refine g_reg hG ?_
 refine s_seq ?_
 refine s_seq ?_
 refine g_reg hG ?_
 refine g_cond rfl hG h (fun _ h => ?_) (fun _ h => ?_)
 · refine s_seq ?_
   refine g_reg hG ?_
   obtain ⟨v1, hv1, h⟩ := bind_of h
   refine g_call (fun hg => law10_awake_ok  _ (hv1)) ?_
   refine g_ret ?_
   exact g_end h
 refine g_skip ?_
 refine s_seq ?_
 refine g_regd C_mixed hG ?_
 obtain ⟨v2, hv2, h⟩ := bind_of h
 refine g_calld (fun hg => law10_awake_ok  _ (hv2)) ?_
 obtain ⟨v3, hv3, h⟩ := bind_of h
 refine g_calld (fun hg => holders_Valid_ok a0 a1 _ (ite_t hg hv3)) ?_
 obtain ⟨v4, hv4, h⟩ := bind_of h
 refine g_calld (fun hg => ref10_Valid_ok a0 a1 _ (ite_t hg hv4)) ?_
 obtain ⟨v5, hv5, h⟩ := bind_of h
 refine g_calld (fun hg => holders_Get_ok a1 a2 _ (ite_t hg hv5)) ?_
 obtain ⟨v6, hv6, h⟩ := bind_of h
 refine g_calld (fun hg => ref10_Get_ok a1 a2 _ (ite_t hg hv6)) ?_
 obtain ⟨v7, hv7, h⟩ := bind_of h
 refine g_calld (fun hg => holders_Procs_ok a1 _ (ite_t hg hv7)) ?_
 obtain ⟨v8, hv8, h⟩ := bind_of h
 refine g_calld (fun hg => ref10_Procs_ok a1 _ (ite_t hg hv8)) ?_
 obtain ⟨v9, hv9, h⟩ := bind_of h
 refine g_calld (fun hg => ref02_SameProcs_ok v7 v8 _ (ite_t hg hv9)) ?_
 refine g_ret ?_
 exact g_end h
end Ab
end Go.Proofs.YtmegjomldcfoaaaDoor
