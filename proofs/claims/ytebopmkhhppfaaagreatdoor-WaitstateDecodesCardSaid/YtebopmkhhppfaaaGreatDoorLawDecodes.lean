/-
  Every slice of bytes is decoded as the document says; no condition.
-/
import Derived.Test.YtebopmkhhppfaaaGreatDoorWsP
import Derived.Test.YtebopmkhhppfaaaGreatDoorDoor
import Derived.Test.YtebopmkhhppfaaaGreatDoorCards
import Derived.Test.YtebopmkhhppfaaaGreatDoorTie
import Derived.Test.YtebopmkhhppfaaaGreatDoorHead
import Derived.Deep.DeepHandedRow
namespace Go.Proofs.YtebopmkhhppfaaaGreatDoor
namespace Ab
open Go.ChangeShapes Go.WideShapes Go.ChangeAt Go.RowKit
set_option linter.unusedVariables false
theorem Tryz.own:ownKnob Tryz.prog.godebug=none:=by kernel_rfl
theorem Tryz.laidOut:laidOutB Tryz.prog=true:=by kernel_rfl
theorem tab0_num:Tryz.prog.globalNamed "clusterlocks/mode.together"=some 0:=by kernel_rfl
theorem tab0_type:(Tryz.prog.globals[0]?).map (·.type)=some 198:=by kernel_rfl
theorem tab0_lits:Lits Tryz.prog 198:=zaB7 (n:=5) (sz:=5) Tryz.underlying198 (by kernel_rfl) (by kernel_rfl) (zaB7 (n:=5) (sz:=1) Tryz.underlying197 (by kernel_rfl) (by kernel_rfl) (zbw2 Tryz.underlying4))
theorem tab0_is:lits (Rows.laid_clusterlocks_mode_together (H:=Unit))=some (Arr.enc (Arr.enc eB) zbh9):=by rfl
theorem zcB8:zS5 Tryz.prog 5 (eI .u8) (fun n:Int=>IntKind.u8.min≤n∧n≤IntKind.u8.max):=zbw1 Tryz.underlying5
theorem zcw1:zS5 Tryz.prog 22 (eL (eI .u8)) (fun l:List Int=>l.length≤maxLen∧∀ a ∈ l,(fun n:Int=>IntKind.u8.min≤n∧n≤IntKind.u8.max) a):=zam4 Tryz.underlying22 (sz:=1) (by kernel_rfl) (by omega) (fun _=>rfl) zcB8
set_option maxRecDepth 100000 in
theorem zas3 (H:Type) (enc:TypeId×Value→H) (W:World) (base:Nat) (args:Array Value) (ds gs:List (DataW H)) (before:List MemPlace)
  (hval:∀ (j:Nat) t v,Tryz.f3.params[j]? = some t→args[j]? = some v→Value.okWide Tryz.prog W .any base t v)
  (hW:DataW.Whole enc Tryz.prog Tryz.f3.params.toList Rows.waitstateDecodesSpec.vars false W args.toList ds gs before) (hL:laidMetH Tryz.prog Rows.waitstateDecodesRow.laid W) :
  Calls Tryz.prog 3 args W fun e W'=>∃ v,e=.returned v∧Rows.waitstateDecodesSpec.post enc Tryz.prog Tryz.f3 false true false false W args v W':=by
 have hW':=hW
 obtain ⟨p,q,hA0,hV,rfl,hfz,hnd⟩:=hW
 have hA:DataW.TrodAll enc Tryz.prog W 0 (fun _=>true) true Tryz.f3.params.toList args.toList ds p:=hA0
 rw [Tryz.params3] at hA hval
 obtain ⟨v0,vs0,d0,ds0,p0,q0,hargs,rfl,rfl,h0,r0⟩:=trodAll_cons hA
 obtain ⟨rfl,rfl,rfl⟩:=trodAll_nil r0
 obtain rfl:args=#[v0]:=by cases args; simp_all
 obtain ⟨rfl,rfl⟩:=trodVars_none hV
 obtain ⟨x0,o0,hv0⟩:=zcB7 (f:=fun x=>.sl (x.map (eI .u8))) zcw1 (fun _=>rfl) (zbT5 Tryz.underlying22 (hval 0 22 v0 rfl rfl)) h0
 refine zbG4 Tryz.laidOut (fun t ht=>?_) rfl (by kernel_rfl) Tryz.underlying4 hW' rfl ?_
 ·rw [Tryz.params3] at ht
  simp only [List.mem_cons,List.not_mem_nil,or_false] at ht
  rcases ht with rfl
  all_goals exact ⟨by kernel_rfl,of_decide_eq_true (by kernel_rfl)⟩
 ·have hp:=zas1 x0 true (zaE0 x0 o0) W (fun _=>False) [v0] (zaT9 tab0_num tab0_type tab0_lits tab0_is hL) (fun b h=>h.elim) rfl (fun i v a hv ha=>?_)
  ·exact hp.mono fun e w' ⟨v,he,hk,hr⟩=>⟨v,he,hk,hr.bool⟩
  ·match i,hv,ha with
   | 0,hv,ha=>cases hv; cases ha; exact hv0
   | i+1,hv,ha=>simp at hv
noncomputable def zU6 (os:Os):World :=
 { World.holding Tryz.prog os ⟨#[],#[],[]⟩ with heap:=(World.holding Tryz.prog os ⟨#[],#[],[]⟩).heap.modify 0 fun
   | .cells _ t frozen=>.cells #[.bool true,.bool true,.bool true,.bool true,.bool false,.bool true,.bool true,.bool false,.bool false,.bool false,.bool true,.bool false,.bool true,.bool false,.bool false,.bool true,.bool false,.bool false,.bool false,.bool false,.bool false,.bool false,.bool false,.bool false,.bool false] t frozen
   | o=>o }
theorem zaI7 (os:Os):laidMet Tryz.prog Rows.waitstateDecodesRow.laid ((zU6 os).forCall (fun _ _=>0) ⟨#[],#[.slice none 0 0],[]⟩).memory:=laidMet_of_run' 8 (by kernel_rfl) (by kernel_rfl)
theorem zaB8 (os:Os) {H:Type} (enc:TypeId×Value→H):∃ x,DataW.whole enc Tryz.prog ((zU6 os).forCall (fun _ _=>0) ⟨#[],#[.slice none 0 0],[]⟩).memory Tryz.f3.params.toList Rows.waitstateDecodesSpec.vars false (#[.slice none 0 0]:Array Value).toList 8=some x:=Option.isSome_iff_exists.1 (by kernel_rfl)
set_option maxRecDepth 100000 in
theorem zay7 (os:Os) (started:os.Started) (H:Type) (enc:TypeId×Value→H) (F:Stop.Interp) :
  ReturnsInHanded {} Tryz.checked os 3 .any ((OpenSpec.ofChange Rows.waitstateDecodesSpec).preRow enc Tryz.prog Tryz.f3 Rows.waitstateDecodesRow.domain false Rows.waitstateDecodesRow.laid) (((OpenSpec.ofChange Rows.waitstateDecodesSpec).at F).post enc Tryz.prog Tryz.f3 false true false false):=by
 obtain ⟨x,hx⟩:=zaB8 os enc
 refine returnsInHanded_of_row (C:=Tryz.checked) (s:=OpenSpec.ofChange Rows.waitstateDecodesSpec) Tryz.own started (by kernel_rfl) Tryz.func3
  (witness_row_at (enc:=enc) (C:=Tryz.checked) false (zU6 os) #[.slice none 0 0] rfl (by kernel_rfl) (by kernel_rfl) (by kernel_rfl)
   (OpenSpec.preRow_of_cond 8 hx (by kernel_rfl) (fun k hk=>by cases hk) (by kernel_rfl) (zaI7 os))) ?_
 intro W base args ds gs before hval hW _ _ _ hL _ _
 exact zas3 H enc W base args ds gs before hval hW hL
set_option maxHeartbeats 8000000 in
theorem zaE2:Rows.WaitstateDecodesSaid :=
 OpenClaim.holds_of_cond 3 Tryz.f3 rfl rfl rfl rfl rfl rfl rfl ⟨rfl,rfl,rfl,rfl,rfl⟩ rfl rfl rfl rfl rfl (by as_aux_lemma=>kernel_rfl) Tryz.func3 (by
   simp only [joinedFacts,Bool.and_eq_true]
   (repeat' apply And.intro)
   all_goals first|with_reducible exact zaI6|(rw [zay6]; kernel_rfl)|(rw [zbo6]; kernel_rfl)|(as_aux_lemma=>kernel_rfl))
  (of_decide_eq_true (by kernel_rfl)) (by unfold Func.isWrapper; first|(rw [if_pos (by decide +kernel)]; kernel_rfl)|(rw [if_neg (by decide +kernel)]; exact ⟨rfl,rfl⟩))
  (fun os started H enc _ F=>by rw [OpenClaim.pre_eq_preRow]; exact zay7 os started H enc F)
theorem zaB9 (f:FuncId) (fn:Func) (hf:Tryz.pinned.checked.prog.funcNamed "clusterlocks/clusterlockslaw16.WaitstateDecodes"=some f) (hfn:Tryz.pinned.checked.prog.funcs[f]? = some fn) :
  false=Tryz.pinned.checked.prog.looks []∧∀ (j:Nat) t,fn.params[j]? = some t→Tryz.pinned.checked.prog.wantsStandIn t=false:=by
 obtain rfl:f=3:=Option.some.inj ((show Tryz.prog.funcNamed "clusterlocks/clusterlockslaw16.WaitstateDecodes"=some 3 by kernel_rfl).symm.trans hf) |>.symm
 obtain rfl:fn=Tryz.f3:=(Option.some.inj (Tryz.func3.symm.trans hfn)).symm
 refine ⟨by kernel_rfl,fun j t ht=>?_⟩
 rw [Tryz.params3] at ht
 have hm:=Array.mem_of_getElem? ht
 simp at hm
 rcases hm with rfl
 all_goals first|with_reducible exact (show Tryz.pinned.checked.prog.wantsStandIn 22=false by kernel_rfl)
theorem WaitstateDecodes_holds:Rows.WaitstateDecodesCardSaid :=
 Claim7.holds_tied_plain_at .later [] _ _ _ _ zaE2 (fun _ h=>by cases h) (by as_aux_lemma=>kernel_rfl) (fun _ h=>by cases h) waitstateDecodes_row_tie rfl ⟨rfl,rfl⟩ (zaU1.trans (by kernel_rfl)) rfl zaB9 (by as_aux_lemma=>kernel_rfl)
end Ab
end Go.Proofs.YtebopmkhhppfaaaGreatDoor
