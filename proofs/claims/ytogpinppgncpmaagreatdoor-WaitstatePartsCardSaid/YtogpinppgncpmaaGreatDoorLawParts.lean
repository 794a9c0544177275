/-
  WaitstateParts returns true for every input (a state recorded in parts is put together again by Merge, in either order); no condition.
-/
import Derived.Test.YtogpinppgncpmaaGreatDoorPaA
import Derived.Test.YtogpinppgncpmaaGreatDoorDoor
import Derived.Test.YtogpinppgncpmaaGreatDoorCards
import Derived.Test.YtogpinppgncpmaaGreatDoorTie
import Derived.Test.YtogpinppgncpmaaGreatDoorHead
import Derived.Deep.DeepHandedRow
/-
  A state recorded in two parts is put together again; no condition.
-/
namespace Go.Proofs.YtogpinppgncpmaaGreatDoor
namespace Ab
open Go.ChangeShapes Go.WideShapes Go.ChangeAt Go.RowKit
set_option linter.unusedVariables false
theorem Tryz.own:ownKnob Tryz.prog.godebug=none:=by kernel_rfl
theorem Tryz.laidOut:laidOutB Tryz.prog=true:=by kernel_rfl
theorem zdj1:Tryz.prog.globalNamed "clusterlocks/mode.together"=some 1:=by kernel_rfl
theorem zcU4:(Tryz.prog.globals[1]?).map (·.type)=some 322:=by kernel_rfl
theorem zcU5:Lits Tryz.prog 322:=zbW5 (n:=5) (sz:=5) Tryz.underlying322 (by kernel_rfl) (by kernel_rfl) (zbW5 (n:=5) (sz:=1) Tryz.underlying321 (by kernel_rfl) (by kernel_rfl) (zcU2 Tryz.underlying4))
theorem zdr8:lits (Rows.laid_clusterlocks_mode_together (H:=Unit))=some (Arr.enc (Arr.enc eB) zci1):=by rfl
theorem zdr9:zcf3 Tryz.prog 3 (eI .i64) (fun n:Int=>IntKind.i64.min≤n∧n≤IntKind.i64.max):=zcU0 Tryz.underlying3
theorem zcx1:zcf3 Tryz.prog 22 (eL (eI .i64)) (fun l:List Int=>l.length≤maxLen∧∀ a ∈ l,(fun n:Int=>IntKind.i64.min≤n∧n≤IntKind.i64.max) a):=zcw9 Tryz.underlying22 (sz:=1) (by kernel_rfl) (by omega) (fun _=>rfl) zdr9
set_option maxRecDepth 100000 in
theorem zaW4 (H:Type) (enc:TypeId×Value→H) (W:World) (base:Nat) (args:Array Value) (ds gs:List (DataW H)) (before:List MemPlace)
  (hval:∀ (j:Nat) t v,Tryz.f3.params[j]? = some t→args[j]? = some v→Value.okWide Tryz.prog W .any base t v)
  (hW:DataW.Whole enc Tryz.prog Tryz.f3.params.toList Rows.waitstatePartsSpec.vars false W args.toList ds gs before) (hL:laidMetH Tryz.prog Rows.waitstatePartsRow.laid W) :
  Calls Tryz.prog 3 args W fun e W'=>∃ v,e=.returned v∧Rows.waitstatePartsSpec.post enc Tryz.prog Tryz.f3 false true false false W args v W':=by
 have hW':=hW
 obtain ⟨p,q,hA0,hV,rfl,hfz,hnd⟩:=hW
 have hA:DataW.TrodAll enc Tryz.prog W 0 (fun _=>true) true Tryz.f3.params.toList args.toList ds p:=hA0
 rw [Tryz.params3] at hA hval
 obtain ⟨v0,vs0,d0,ds0,p0,q0,hargs,rfl,rfl,h0,r0⟩:=trodAll_cons hA
 obtain ⟨v1,vs1,d1,ds1,p1,q1,rfl,rfl,rfl,h1,r1⟩:=trodAll_cons r0
 obtain ⟨rfl,rfl,rfl⟩:=trodAll_nil r1
 obtain rfl:args=#[v0,v1]:=by cases args; simp_all
 obtain ⟨rfl,rfl⟩:=trodVars_none hV
 obtain ⟨x0,o0,hv0⟩:=zcM1 (f:=fun x=>.sl (x.map (eI .i64))) zcx1 (fun _=>rfl) (zcf4 Tryz.underlying22 (hval 0 22 v0 rfl rfl)) h0
 obtain ⟨x1,o1,hv1⟩:=zcM1 (f:=fun x=>.sl (x.map (eI .i64))) zcx1 (fun _=>rfl) (zcf4 Tryz.underlying22 (hval 1 22 v1 rfl rfl)) h1
 refine zdi9 Tryz.laidOut (fun t ht=>?_) rfl (by kernel_rfl) Tryz.underlying4 hW' rfl ?_
 ·rw [Tryz.params3] at ht
  simp only [List.mem_cons,List.not_mem_nil,or_false] at ht
  rcases ht with rfl|rfl
  all_goals exact ⟨by kernel_rfl,of_decide_eq_true (by kernel_rfl)⟩
 ·have hp:=zaU9 x0 x1 true (zbm8 x0 x1) W (fun _=>False) [v0,v1] (zcl2 zdj1 zcU4 zcU5 zdr8 hL) (fun b h=>h.elim) rfl (fun i v a hv ha=>?_)
  ·exact hp.mono fun e w' ⟨v,he,hk,hr⟩=>⟨v,he,hk,hr.bool⟩
  ·match i,hv,ha with
   | 0,hv,ha=>cases hv; cases ha; exact hv0
   | 1,hv,ha=>cases hv; cases ha; exact hv1
   | i+2,hv,ha=>simp at hv
noncomputable def zan0 (os:Os):World :=
 { World.holding Tryz.prog os ⟨#[],#[],[]⟩ with heap:=(World.holding Tryz.prog os ⟨#[],#[],[]⟩).heap.modify 1 fun
   | .cells _ t frozen=>.cells #[.bool true,.bool true,.bool true,.bool true,.bool false,.bool true,.bool true,.bool false,.bool false,.bool false,.bool true,.bool false,.bool true,.bool false,.bool false,.bool true,.bool false,.bool false,.bool false,.bool false,.bool false,.bool false,.bool false,.bool false,.bool false] t frozen
   | o=>o }
theorem zbt5 (os:Os):laidMet Tryz.prog Rows.waitstatePartsRow.laid ((zan0 os).forCall (fun _ _=>0) ⟨#[],#[.slice none 0 0,.slice none 0 0],[]⟩).memory:=laidMet_of_run' 8 (by kernel_rfl) (by kernel_rfl)
theorem zbj4 (os:Os) {H:Type} (enc:TypeId×Value→H):∃ x,DataW.whole enc Tryz.prog ((zan0 os).forCall (fun _ _=>0) ⟨#[],#[.slice none 0 0,.slice none 0 0],[]⟩).memory Tryz.f3.params.toList Rows.waitstatePartsSpec.vars false (#[.slice none 0 0,.slice none 0 0]:Array Value).toList 8=some x:=Option.isSome_iff_exists.1 (by kernel_rfl)
set_option maxRecDepth 100000 in
theorem zbe1 (os:Os) (started:os.Started) (H:Type) (enc:TypeId×Value→H) (F:Stop.Interp) :
  ReturnsInHanded {} Tryz.checked os 3 .any ((OpenSpec.ofChange Rows.waitstatePartsSpec).preRow enc Tryz.prog Tryz.f3 Rows.waitstatePartsRow.domain false Rows.waitstatePartsRow.laid) (((OpenSpec.ofChange Rows.waitstatePartsSpec).at F).post enc Tryz.prog Tryz.f3 false true false false):=by
 obtain ⟨x,hx⟩:=zbj4 os enc
 refine returnsInHanded_of_row (C:=Tryz.checked) (s:=OpenSpec.ofChange Rows.waitstatePartsSpec) Tryz.own started (by kernel_rfl) Tryz.func3
  (witness_row_at (enc:=enc) (C:=Tryz.checked) false (zan0 os) #[.slice none 0 0,.slice none 0 0] rfl (by kernel_rfl) (by kernel_rfl) (by kernel_rfl)
   (OpenSpec.preRow_of_cond 8 hx (by kernel_rfl) (fun k hk=>by cases hk) (by kernel_rfl) (zbt5 os))) ?_
 intro W base args ds gs before hval hW _ _ _ hL _ _
 exact zaW4 H enc W base args ds gs before hval hW hL
set_option maxHeartbeats 8000000 in
theorem zbm9:Rows.WaitstatePartsSaid :=
 OpenClaim.holds_of_cond 3 Tryz.f3 rfl rfl rfl rfl rfl rfl rfl ⟨rfl,rfl,rfl,rfl,rfl⟩ rfl rfl rfl rfl rfl (by as_aux_lemma=>kernel_rfl) Tryz.func3 (by
   simp only [joinedFacts,Bool.and_eq_true]
   (repeat' apply And.intro)
   all_goals first|with_reducible exact zbW7|(rw [zbD5]; kernel_rfl)|(rw [zcG1]; kernel_rfl)|(as_aux_lemma=>kernel_rfl))
  (of_decide_eq_true (by kernel_rfl)) (by unfold Func.isWrapper; first|(rw [if_pos (by decide +kernel)]; kernel_rfl)|(rw [if_neg (by decide +kernel)]; exact ⟨rfl,rfl⟩))
  (fun os started H enc _ F=>by rw [OpenClaim.pre_eq_preRow]; exact zbe1 os started H enc F)
theorem zbj5 (f:FuncId) (fn:Func) (hf:Tryz.pinned.checked.prog.funcNamed "clusterlocks/clusterlockslaw16.WaitstateParts"=some f) (hfn:Tryz.pinned.checked.prog.funcs[f]? = some fn) :
  false=Tryz.pinned.checked.prog.looks []∧∀ (j:Nat) t,fn.params[j]? = some t→Tryz.pinned.checked.prog.wantsStandIn t=false:=by
 obtain rfl:f=3:=Option.some.inj ((show Tryz.prog.funcNamed "clusterlocks/clusterlockslaw16.WaitstateParts"=some 3 by kernel_rfl).symm.trans hf) |>.symm
 obtain rfl:fn=Tryz.f3:=(Option.some.inj (Tryz.func3.symm.trans hfn)).symm
 refine ⟨by kernel_rfl,fun j t ht=>?_⟩
 rw [Tryz.params3] at ht
 have hm:=Array.mem_of_getElem? ht
 simp at hm
 rcases hm with rfl|rfl
 all_goals first|with_reducible exact (show Tryz.pinned.checked.prog.wantsStandIn 22=false by kernel_rfl)
theorem WaitstateParts_holds:Rows.WaitstatePartsCardSaid :=
 Claim7.holds_tied_plain_at .later [] _ _ _ _ zbm9 (fun _ h=>by cases h) (by as_aux_lemma=>kernel_rfl) (fun _ h=>by cases h) waitstateParts_row_tie rfl ⟨rfl,rfl⟩ (zcl3.trans (by kernel_rfl)) rfl zbj5 (by as_aux_lemma=>kernel_rfl)
end Ab
end Go.Proofs.YtogpinppgncpmaaGreatDoor
