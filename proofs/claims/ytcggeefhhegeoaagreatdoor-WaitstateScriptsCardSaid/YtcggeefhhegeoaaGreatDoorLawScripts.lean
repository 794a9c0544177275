/-
  WaitstateScripts returns true for every input (the state of a script comes back from its bytes, and with it what every process needs); no condition.
-/
import Derived.Test.YtcggeefhhegeoaaGreatDoorScB
import Derived.Test.YtcggeefhhegeoaaGreatDoorDoor
import Derived.Test.YtcggeefhhegeoaaGreatDoorCards
import Derived.Test.YtcggeefhhegeoaaGreatDoorTie
import Derived.Test.YtcggeefhhegeoaaGreatDoorHead
import Derived.Deep.DeepHandedRow
/-
  What is recorded of a state comes back from its bytes; no condition.
-/
namespace Go.Proofs.YtcggeefhhegeoaaGreatDoor
namespace Ab
open Go.ChangeShapes Go.WideShapes Go.ChangeAt Go.RowKit
set_option linter.unusedVariables false
theorem Tryz.own:ownKnob Tryz.prog.godebug=none:=by kernel_rfl
theorem Tryz.laidOut:laidOutB Tryz.prog=true:=by kernel_rfl
theorem zdf2:Tryz.prog.globalNamed "clusterlocks/mode.together"=some 0:=by kernel_rfl
theorem zcQ3:(Tryz.prog.globals[0]?).map (·.type)=some 306:=by kernel_rfl
theorem zcQ4:Lits Tryz.prog 306:=zbT8 (n:=5) (sz:=5) Tryz.underlying306 (by kernel_rfl) (by kernel_rfl) (zbT8 (n:=5) (sz:=1) Tryz.underlying305 (by kernel_rfl) (by kernel_rfl) (zcQ1 Tryz.underlying4))
theorem zdn6:lits (Rows.laid_clusterlocks_mode_together (H:=Unit))=some (Arr.enc (Arr.enc eB) zcf3):=by rfl
theorem zdn7:zcc5 Tryz.prog 3 (eI .i64) (fun n:Int=>IntKind.i64.min≤n∧n≤IntKind.i64.max):=zcP9 Tryz.underlying3
theorem zcu1:zcc5 Tryz.prog 22 (eL (eI .i64)) (fun l:List Int=>l.length≤maxLen∧∀ a ∈ l,(fun n:Int=>IntKind.i64.min≤n∧n≤IntKind.i64.max) a):=zcu0 Tryz.underlying22 (sz:=1) (by kernel_rfl) (by omega) (fun _=>rfl) zdn7
set_option maxRecDepth 100000 in
theorem zaM3 (H:Type) (enc:TypeId×Value→H) (W:World) (base:Nat) (args:Array Value) (ds gs:List (DataW H)) (before:List MemPlace)
  (hval:∀ (j:Nat) t v,Tryz.f3.params[j]? = some t→args[j]? = some v→Value.okWide Tryz.prog W .any base t v)
  (hW:DataW.Whole enc Tryz.prog Tryz.f3.params.toList Rows.waitstateScriptsSpec.vars false W args.toList ds gs before) (hL:laidMetH Tryz.prog Rows.waitstateScriptsRow.laid W) :
  Calls Tryz.prog 3 args W fun e W'=>∃ v,e=.returned v∧Rows.waitstateScriptsSpec.post enc Tryz.prog Tryz.f3 false true false false W args v W':=by
 have hW':=hW
 obtain ⟨p,q,hA0,hV,rfl,hfz,hnd⟩:=hW
 have hA:DataW.TrodAll enc Tryz.prog W 0 (fun _=>true) true Tryz.f3.params.toList args.toList ds p:=hA0
 rw [Tryz.params3] at hA hval
 obtain ⟨v0,vs0,d0,ds0,p0,q0,hargs,rfl,rfl,h0,r0⟩:=trodAll_cons hA
 obtain ⟨v1,vs1,d1,ds1,p1,q1,rfl,rfl,rfl,h1,r1⟩:=trodAll_cons r0
 obtain ⟨rfl,rfl,rfl⟩:=trodAll_nil r1
 obtain rfl:args=#[v0,v1]:=by cases args; simp_all
 obtain ⟨rfl,rfl⟩:=trodVars_none hV
 obtain ⟨x0,o0,hv0⟩:=zcI2 (f:=fun x=>.sl (x.map (eI .i64))) zcu1 (fun _=>rfl) (zcc6 Tryz.underlying22 (hval 0 22 v0 rfl rfl)) h0
 obtain ⟨x1,o1,hv1⟩:=zcI2 (f:=fun x=>.sl (x.map (eI .i64))) zcu1 (fun _=>rfl) (zcc6 Tryz.underlying22 (hval 1 22 v1 rfl rfl)) h1
 refine zdf0 Tryz.laidOut (fun t ht=>?_) rfl (by kernel_rfl) Tryz.underlying4 hW' rfl ?_
 ·rw [Tryz.params3] at ht
  simp only [List.mem_cons,List.not_mem_nil,or_false] at ht
  rcases ht with rfl|rfl
  all_goals exact ⟨by kernel_rfl,of_decide_eq_true (by kernel_rfl)⟩
 ·have hp:=(zaM2 x0 x1).ok true (zbb4 x0 x1) W (fun _=>False) [v0,v1] (zci6 zdf2 zcQ3 zcQ4 zdn6 hL) (fun b h=>h.elim) rfl (fun i v a hv ha=>?_)
  ·exact hp.mono fun e w' ⟨v,he,hk,hr⟩=>⟨v,he,hk,hr.bool⟩
  ·match i,hv,ha with
   | 0,hv,ha=>cases hv; cases ha; exact hv0
   | 1,hv,ha=>cases hv; cases ha; exact hv1
   | i+2,hv,ha=>simp at hv
noncomputable def zag8 (os:Os):World :=
 { World.holding Tryz.prog os ⟨#[],#[],[]⟩ with heap:=(World.holding Tryz.prog os ⟨#[],#[],[]⟩).heap.modify 0 fun
   | .cells _ t frozen=>.cells #[.bool true,.bool true,.bool true,.bool true,.bool false,.bool true,.bool true,.bool false,.bool false,.bool false,.bool true,.bool false,.bool true,.bool false,.bool false,.bool true,.bool false,.bool false,.bool false,.bool false,.bool false,.bool false,.bool false,.bool false,.bool false] t frozen
   | o=>o }
theorem zbg8 (os:Os):laidMet Tryz.prog Rows.waitstateScriptsRow.laid ((zag8 os).forCall (fun _ _=>0) ⟨#[],#[.slice none 0 0,.slice none 0 0],[]⟩).memory:=laidMet_of_run' 8 (by kernel_rfl) (by kernel_rfl)
theorem zaX9 (os:Os) {H:Type} (enc:TypeId×Value→H):∃ x,DataW.whole enc Tryz.prog ((zag8 os).forCall (fun _ _=>0) ⟨#[],#[.slice none 0 0,.slice none 0 0],[]⟩).memory Tryz.f3.params.toList Rows.waitstateScriptsSpec.vars false (#[.slice none 0 0,.slice none 0 0]:Array Value).toList 8=some x:=Option.isSome_iff_exists.1 (by kernel_rfl)
set_option maxRecDepth 100000 in
theorem zaU1 (os:Os) (started:os.Started) (H:Type) (enc:TypeId×Value→H) (F:Stop.Interp) :
  ReturnsInHanded {} Tryz.checked os 3 .any ((OpenSpec.ofChange Rows.waitstateScriptsSpec).preRow enc Tryz.prog Tryz.f3 Rows.waitstateScriptsRow.domain false Rows.waitstateScriptsRow.laid) (((OpenSpec.ofChange Rows.waitstateScriptsSpec).at F).post enc Tryz.prog Tryz.f3 false true false false):=by
 obtain ⟨x,hx⟩:=zaX9 os enc
 refine returnsInHanded_of_row (C:=Tryz.checked) (s:=OpenSpec.ofChange Rows.waitstateScriptsSpec) Tryz.own started (by kernel_rfl) Tryz.func3
  (witness_row_at (enc:=enc) (C:=Tryz.checked) false (zag8 os) #[.slice none 0 0,.slice none 0 0] rfl (by kernel_rfl) (by kernel_rfl) (by kernel_rfl)
   (OpenSpec.preRow_of_cond 8 hx (by kernel_rfl) (fun k hk=>by cases hk) (by kernel_rfl) (zbg8 os))) ?_
 intro W base args ds gs before hval hW _ _ _ hL _ _
 exact zaM3 H enc W base args ds gs before hval hW hL
set_option maxHeartbeats 8000000 in
theorem zbb5:Rows.WaitstateScriptsSaid :=
 OpenClaim.holds_of_cond 3 Tryz.f3 rfl rfl rfl rfl rfl rfl rfl ⟨rfl,rfl,rfl,rfl,rfl⟩ rfl rfl rfl rfl rfl (by as_aux_lemma=>kernel_rfl) Tryz.func3 (by
   simp only [joinedFacts,Bool.and_eq_true]
   (repeat' apply And.intro)
   all_goals first|with_reducible exact zbU1|(rw [zbA0]; kernel_rfl)|(rw [zcC8]; kernel_rfl)|(as_aux_lemma=>kernel_rfl))
  (of_decide_eq_true (by kernel_rfl)) (by unfold Func.isWrapper; first|(rw [if_pos (by decide +kernel)]; kernel_rfl)|(rw [if_neg (by decide +kernel)]; exact ⟨rfl,rfl⟩))
  (fun os started H enc _ F=>by rw [OpenClaim.pre_eq_preRow]; exact zaU1 os started H enc F)
theorem zaY0 (f:FuncId) (fn:Func) (hf:Tryz.pinned.checked.prog.funcNamed "clusterlocks/clusterlockslaw16.WaitstateScripts"=some f) (hfn:Tryz.pinned.checked.prog.funcs[f]? = some fn) :
  false=Tryz.pinned.checked.prog.looks []∧∀ (j:Nat) t,fn.params[j]? = some t→Tryz.pinned.checked.prog.wantsStandIn t=false:=by
 obtain rfl:f=3:=Option.some.inj ((show Tryz.prog.funcNamed "clusterlocks/clusterlockslaw16.WaitstateScripts"=some 3 by kernel_rfl).symm.trans hf) |>.symm
 obtain rfl:fn=Tryz.f3:=(Option.some.inj (Tryz.func3.symm.trans hfn)).symm
 refine ⟨by kernel_rfl,fun j t ht=>?_⟩
 rw [Tryz.params3] at ht
 have hm:=Array.mem_of_getElem? ht
 simp at hm
 rcases hm with rfl|rfl
 all_goals first|with_reducible exact (show Tryz.pinned.checked.prog.wantsStandIn 22=false by kernel_rfl)
theorem WaitstateScripts_holds:Rows.WaitstateScriptsCardSaid :=
 Claim7.holds_tied_plain_at .later [] _ _ _ _ zbb5 (fun _ h=>by cases h) (by as_aux_lemma=>kernel_rfl) (fun _ h=>by cases h) waitstateScripts_row_tie rfl ⟨rfl,rfl⟩ (head_mainIs'.trans (by kernel_rfl)) rfl zaY0 (by as_aux_lemma=>kernel_rfl)
end Ab
end Go.Proofs.YtcggeefhhegeoaaGreatDoor
