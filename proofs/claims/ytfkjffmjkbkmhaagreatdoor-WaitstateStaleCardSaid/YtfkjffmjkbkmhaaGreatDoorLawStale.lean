/-
  WaitstateStale returns true for every input (parts of different generations are not put together); no condition.
-/
import Derived.Test.YtfkjffmjkbkmhaaGreatDoorStB
import Derived.Test.YtfkjffmjkbkmhaaGreatDoorDoor
import Derived.Test.YtfkjffmjkbkmhaaGreatDoorCards
import Derived.Test.YtfkjffmjkbkmhaaGreatDoorTie
import Derived.Test.YtfkjffmjkbkmhaaGreatDoorHead
import Derived.Deep.DeepHandedRow
/-
  Parts of different generations are not put together; no condition.
-/
namespace Go.Proofs.YtfkjffmjkbkmhaaGreatDoor
namespace Ab
open Go.ChangeShapes Go.WideShapes Go.ChangeAt Go.RowKit
set_option linter.unusedVariables false
theorem Tryz.own:ownKnob Tryz.prog.godebug=none:=by kernel_rfl
theorem Tryz.laidOut:laidOutB Tryz.prog=true:=by kernel_rfl
theorem zdf2:Tryz.prog.globalNamed "clusterlocks/mode.together"=some 1:=by kernel_rfl
theorem zcP9:(Tryz.prog.globals[1]?).map (·.type)=some 321:=by kernel_rfl
theorem zcQ0:Lits Tryz.prog 321:=zbS0 (n:=5) (sz:=5) Tryz.underlying321 (by kernel_rfl) (by kernel_rfl) (zbS0 (n:=5) (sz:=1) Tryz.underlying320 (by kernel_rfl) (by kernel_rfl) (zcP7 Tryz.underlying4))
theorem zdn9:lits (Rows.laid_clusterlocks_mode_together (H:=Unit))=some (Arr.enc (Arr.enc eB) zcd2):=by rfl
theorem zch3:zca5 Tryz.prog 3 (eI .i64) (fun n:Int=>IntKind.i64.min≤n∧n≤IntKind.i64.max):=zcP4 Tryz.underlying3
theorem zdf3:zca5 Tryz.prog 22 (eL (eI .i64)) (fun l:List Int=>l.length≤maxLen∧∀ a ∈ l,(fun n:Int=>IntKind.i64.min≤n∧n≤IntKind.i64.max) a):=zcs7 Tryz.underlying22 (sz:=1) (by kernel_rfl) (by omega) (fun _=>rfl) zch3
set_option maxRecDepth 100000 in
theorem zaU8 (H:Type) (enc:TypeId×Value→H) (W:World) (base:Nat) (args:Array Value) (ds gs:List (DataW H)) (before:List MemPlace)
  (hval:∀ (j:Nat) t v,Tryz.f3.params[j]? = some t→args[j]? = some v→Value.okWide Tryz.prog W .any base t v)
  (hW:DataW.Whole enc Tryz.prog Tryz.f3.params.toList Rows.waitstateStaleSpec.vars false W args.toList ds gs before) (hL:laidMetH Tryz.prog Rows.waitstateStaleRow.laid W) :
  Calls Tryz.prog 3 args W fun e W'=>∃ v,e=.returned v∧Rows.waitstateStaleSpec.post enc Tryz.prog Tryz.f3 false true false false W args v W':=by
 have hW':=hW
 obtain ⟨p,q,hA0,hV,rfl,hfz,hnd⟩:=hW
 have hA:DataW.TrodAll enc Tryz.prog W 0 (fun _=>true) true Tryz.f3.params.toList args.toList ds p:=hA0
 rw [Tryz.params3] at hA hval
 obtain ⟨v0,vs0,d0,ds0,p0,q0,hargs,rfl,rfl,h0,r0⟩:=trodAll_cons hA
 obtain ⟨v1,vs1,d1,ds1,p1,q1,rfl,rfl,rfl,h1,r1⟩:=trodAll_cons r0
 obtain ⟨v2,vs2,d2,ds2,p2,q2,rfl,rfl,rfl,h2,r2⟩:=trodAll_cons r1
 obtain ⟨rfl,rfl,rfl⟩:=trodAll_nil r2
 obtain rfl:args=#[v0,v1,v2]:=by cases args; simp_all
 obtain ⟨rfl,rfl⟩:=trodVars_none hV
 obtain ⟨x0,o0,hv0⟩:=zch0 (f:=fun x=>.sl (x.map (eI .i64))) zdf3 (fun _=>rfl) (zcP6 Tryz.underlying22 (hval 0 22 v0 rfl rfl)) h0
 obtain ⟨x1,o1,hv1⟩:=zch0 (f:=fun x=>.int .i64 x) zch3 (fun _=>rfl) (zcG9 Tryz.underlying3 (hval 1 3 v1 rfl rfl)) h1
 obtain ⟨x2,o2,hv2⟩:=zch0 (f:=fun x=>.int .i64 x) zch3 (fun _=>rfl) (zcG9 Tryz.underlying3 (hval 2 3 v2 rfl rfl)) h2
 refine zdf0 Tryz.laidOut (fun t ht=>?_) rfl (by kernel_rfl) Tryz.underlying4 hW' rfl ?_
 ·rw [Tryz.params3] at ht
  simp only [List.mem_cons,List.not_mem_nil,or_false] at ht
  rcases ht with rfl|rfl|rfl
  all_goals exact ⟨by kernel_rfl,of_decide_eq_true (by kernel_rfl)⟩
 ·have hp:=(zaS9 x0 x1 x2).ok true (zbj8 x0 x1 x2) W (fun _=>False) [v0,v1,v2] (zch1 zdf2 zcP9 zcQ0 zdn9 hL) (fun b h=>h.elim) rfl (fun i v a hv ha=>?_)
  ·exact hp.mono fun e w' ⟨v,he,hk,hr⟩=>⟨v,he,hk,hr.bool⟩
  ·match i,hv,ha with
   | 0,hv,ha=>cases hv; cases ha; exact hv0
   | 1,hv,ha=>cases hv; cases ha; exact hv1
   | 2,hv,ha=>cases hv; cases ha; exact hv2
   | i+3,hv,ha=>simp at hv
noncomputable def zaj2 (os:Os):World :=
 { World.holding Tryz.prog os ⟨#[],#[],[]⟩ with heap:=(World.holding Tryz.prog os ⟨#[],#[],[]⟩).heap.modify 1 fun
   | .cells _ t frozen=>.cells #[.bool true,.bool true,.bool true,.bool true,.bool false,.bool true,.bool true,.bool false,.bool false,.bool false,.bool true,.bool false,.bool true,.bool false,.bool false,.bool true,.bool false,.bool false,.bool false,.bool false,.bool false,.bool false,.bool false,.bool false,.bool false] t frozen
   | o=>o }
theorem zbq4 (os:Os):laidMet Tryz.prog Rows.waitstateStaleRow.laid ((zaj2 os).forCall (fun _ _=>0) ⟨#[],#[.slice none 0 0,.int .i64 0,.int .i64 0],[]⟩).memory:=laidMet_of_run' 8 (by kernel_rfl) (by kernel_rfl)
theorem zbg8 (os:Os) {H:Type} (enc:TypeId×Value→H):∃ x,DataW.whole enc Tryz.prog ((zaj2 os).forCall (fun _ _=>0) ⟨#[],#[.slice none 0 0,.int .i64 0,.int .i64 0],[]⟩).memory Tryz.f3.params.toList Rows.waitstateStaleSpec.vars false (#[.slice none 0 0,.int .i64 0,.int .i64 0]:Array Value).toList 8=some x:=Option.isSome_iff_exists.1 (by kernel_rfl)
set_option maxRecDepth 100000 in
theorem zbb2 (os:Os) (started:os.Started) (H:Type) (enc:TypeId×Value→H) (F:Stop.Interp) :
  ReturnsInHanded {} Tryz.checked os 3 .any ((OpenSpec.ofChange Rows.waitstateStaleSpec).preRow enc Tryz.prog Tryz.f3 Rows.waitstateStaleRow.domain false Rows.waitstateStaleRow.laid) (((OpenSpec.ofChange Rows.waitstateStaleSpec).at F).post enc Tryz.prog Tryz.f3 false true false false):=by
 obtain ⟨x,hx⟩:=zbg8 os enc
 refine returnsInHanded_of_row (C:=Tryz.checked) (s:=OpenSpec.ofChange Rows.waitstateStaleSpec) Tryz.own started (by kernel_rfl) Tryz.func3
  (witness_row_at (enc:=enc) (C:=Tryz.checked) false (zaj2 os) #[.slice none 0 0,.int .i64 0,.int .i64 0] rfl (by kernel_rfl) (by kernel_rfl) (by kernel_rfl)
   (OpenSpec.preRow_of_cond 8 hx (by kernel_rfl) (fun k hk=>by cases hk) (by kernel_rfl) (zbq4 os))) ?_
 intro W base args ds gs before hval hW _ _ _ hL _ _
 exact zaU8 H enc W base args ds gs before hval hW hL
set_option maxHeartbeats 8000000 in
theorem zbj9:Rows.WaitstateStaleSaid :=
 OpenClaim.holds_of_cond 3 Tryz.f3 rfl rfl rfl rfl rfl rfl rfl ⟨rfl,rfl,rfl,rfl,rfl⟩ rfl rfl rfl rfl rfl (by as_aux_lemma=>kernel_rfl) Tryz.func3 (by
   simp only [joinedFacts,Bool.and_eq_true]
   (repeat' apply And.intro)
   all_goals first|with_reducible exact zbS2|(rw [zbz3]; kernel_rfl)|(rw [zcB3]; kernel_rfl)|(as_aux_lemma=>kernel_rfl))
  (of_decide_eq_true (by kernel_rfl)) (by unfold Func.isWrapper; first|(rw [if_pos (by decide +kernel)]; kernel_rfl)|(rw [if_neg (by decide +kernel)]; exact ⟨rfl,rfl⟩))
  (fun os started H enc _ F=>by rw [OpenClaim.pre_eq_preRow]; exact zbb2 os started H enc F)
theorem zbg9 (f:FuncId) (fn:Func) (hf:Tryz.pinned.checked.prog.funcNamed "clusterlocks/clusterlockslaw16.WaitstateStale"=some f) (hfn:Tryz.pinned.checked.prog.funcs[f]? = some fn) :
  false=Tryz.pinned.checked.prog.looks []∧∀ (j:Nat) t,fn.params[j]? = some t→Tryz.pinned.checked.prog.wantsStandIn t=false:=by
 obtain rfl:f=3:=Option.some.inj ((show Tryz.prog.funcNamed "clusterlocks/clusterlockslaw16.WaitstateStale"=some 3 by kernel_rfl).symm.trans hf) |>.symm
 obtain rfl:fn=Tryz.f3:=(Option.some.inj (Tryz.func3.symm.trans hfn)).symm
 refine ⟨by kernel_rfl,fun j t ht=>?_⟩
 rw [Tryz.params3] at ht
 have hm:=Array.mem_of_getElem? ht
 simp at hm
 rcases hm with rfl|rfl|rfl
 all_goals first|with_reducible exact (show Tryz.pinned.checked.prog.wantsStandIn 3=false by kernel_rfl)|with_reducible exact (show Tryz.pinned.checked.prog.wantsStandIn 22=false by kernel_rfl)
theorem WaitstateStale_holds:Rows.WaitstateStaleCardSaid :=
 Claim7.holds_tied_plain_at .later [] _ _ _ _ zbj9 (fun _ h=>by cases h) (by as_aux_lemma=>kernel_rfl) (fun _ h=>by cases h) waitstateStale_row_tie rfl ⟨rfl,rfl⟩ (zch2.trans (by kernel_rfl)) rfl zbg9 (by as_aux_lemma=>kernel_rfl)
end Ab
end Go.Proofs.YtfkjffmjkbkmhaaGreatDoor
