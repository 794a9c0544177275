/-
  WaitstateCentral returns true for every input (the state of a central manager is valid, and its blocked processes are the waiting ones); no condition.
-/
import Derived.Test.YtenebhlnfjcffaaGreatDoorOgG
import Derived.Test.YtenebhlnfjcffaaGreatDoorDoor
import Derived.Test.YtenebhlnfjcffaaGreatDoorCards
import Derived.Test.YtenebhlnfjcffaaGreatDoorTie
import Derived.Test.YtenebhlnfjcffaaGreatDoorHead
import Derived.Deep.DeepHandedRow
/-
  The state of a central manager is valid,and it lacks what the manager says;no condition.
-/
namespace Go.Proofs.YtenebhlnfjcffaaGreatDoor
namespace Ab
open Go.ChangeShapes Go.WideShapes Go.ChangeAt Go.RowKit
set_option linter.unusedVariables false
theorem Tryz.own:ownKnob Tryz.prog.godebug=none:=by kernel_rfl
theorem Tryz.laidOut:laidOutB Tryz.prog=true:=by kernel_rfl
theorem zdx3:Tryz.prog.globalNamed "clusterlocks/mode.together"=some 1:=by kernel_rfl
theorem zdh8:(Tryz.prog.globals[1]?).map (·.type)=some 330:=by kernel_rfl
theorem zdh9:Lits Tryz.prog 330:=zce8 (n:=5) (sz:=5) Tryz.underlying330 (by kernel_rfl) (by kernel_rfl) (zce8 (n:=5) (sz:=1) Tryz.underlying329 (by kernel_rfl) (by kernel_rfl) (zdh6 Tryz.underlying4))
theorem zdG4:lits (Rows.laid_clusterlocks_mode_together (H:=Unit))=some (Arr.enc (Arr.enc eB) zcq4):=by rfl
theorem zdG5:zcn9 Tryz.prog 3 (eI .i64) (λ n:Int=>IntKind.i64.min<=n/\n<=IntKind.i64.max):=zdh3 Tryz.underlying3
theorem zdx4:zcn9 Tryz.prog 33 (eL (eI .i64)) (λ l:List Int=>l.length<=maxLen/\∀a∈l,(λ n:Int=>IntKind.i64.min<=n/\n<=IntKind.i64.max) a):=zcH2 Tryz.underlying33 (sz:=1) (by kernel_rfl) (by omega) (λ _=>rfl) zdG5
set_option maxRecDepth 100000 in
theorem zaV2(H:Type)(enc:TypeId×Value->H)(W:World)(base:Nat)(args:Array Value)(ds gs:List (DataW H))(before:List MemPlace)
  (hval:∀(j:Nat) t v,Tryz.f4.params[j]? =some t->args[j]? =some v->Value.okWide Tryz.prog W .any base t v)
  (hW:DataW.Whole enc Tryz.prog Tryz.f4.params.toList Rows.waitstateCentralSpec.vars false W args.toList ds gs before) (hL:laidMetH Tryz.prog Rows.waitstateCentralRow.laid W):
  Calls Tryz.prog 4 args W λ e W'=>∃v,e=.returned v/\Rows.waitstateCentralSpec.post enc Tryz.prog Tryz.f4 false true false false W args v W':=by
 have hW':=hW;obtain⟨p,q,hA0,hV,rfl,hfz,hnd⟩:=hW;have hA:DataW.TrodAll enc Tryz.prog W 0 (λ _=>true) true Tryz.f4.params.toList args.toList ds p:=hA0;rw[Tryz.params4]at hA hval;obtain⟨v0,vs0,d0,ds0,p0,q0,hargs,rfl,rfl,h0,r0⟩:=trodAll_cons hA;obtain⟨rfl,rfl,rfl⟩:=trodAll_nil r0;obtain rfl:args=#[v0]:=by cases args;simp_all
 obtain⟨rfl,rfl⟩:=trodVars_none hV;obtain⟨x0,o0,hv0⟩:=zdG3 (f:=λ x=>.sl (x.map (eI .i64))) zdx4 (λ _=>rfl) (zdh5 Tryz.underlying33 (hval 0 33 v0 rfl rfl)) h0;refine zdx1 Tryz.laidOut (λ t ht=>?_) rfl (by kernel_rfl) Tryz.underlying4 hW' rfl ?_
 .rw[Tryz.params4]at ht;simp only[List.mem_cons,List.not_mem_nil,or_false]at ht;rcases ht with rfl
  all_goals exact⟨by kernel_rfl,of_decide_eq_true (by kernel_rfl)⟩
 .have hp:=(zaV1 x0).ok true (zbk4 x0) W (λ _=>False) [v0] (zcu5 zdx3 zdh8 zdh9 zdG4 hL) (λ b h=>h.elim) rfl (λ i v a hv ha=>?_)
  .exact hp.mono λ e w' ⟨v,he,hk,hr⟩=>⟨v,he,hk,hr.bool⟩
  .match i,hv,ha with
   |0,hv,ha=>cases hv;cases ha;exact hv0
   |i+1,hv,ha=>simp at hv
noncomputable def zak4(os:Os):World:=
 {World.holding Tryz.prog os ⟨#[],#[],[]⟩with heap:=(World.holding Tryz.prog os ⟨#[],#[],[]⟩).heap.modify 1 λ
   | .cells _ t frozen=>.cells #[.bool true,.bool true,.bool true,.bool true,.bool false,.bool true,.bool true,.bool false,.bool false,.bool false,.bool true,.bool false,.bool true,.bool false,.bool false,.bool true,.bool false,.bool false,.bool false,.bool false,.bool false,.bool false,.bool false,.bool false,.bool false] t frozen
   |o=>o}
theorem zbp9(os:Os):laidMet Tryz.prog Rows.waitstateCentralRow.laid ((zak4 os).forCall (λ _ _=>0) ⟨#[],#[.slice none 0 0],[]⟩).memory:=laidMet_of_run' 8 (by kernel_rfl) (by kernel_rfl)
theorem zbg8(os:Os){H:Type}(enc:TypeId×Value->H):∃x,DataW.whole enc Tryz.prog ((zak4 os).forCall (λ _ _=>0) ⟨#[],#[.slice none 0 0],[]⟩).memory Tryz.f4.params.toList Rows.waitstateCentralSpec.vars false (#[.slice none 0 0]:Array Value).toList 8=some x:=Option.isSome_iff_exists.1 (by kernel_rfl)
set_option maxRecDepth 100000 in
theorem zbd8(os:Os)(started:os.Started)(H:Type)(enc:TypeId×Value->H)(F:Stop.Interp):
  ReturnsInHanded {} Tryz.checked os 4 .any ((OpenSpec.ofChange Rows.waitstateCentralSpec).preRow enc Tryz.prog Tryz.f4 Rows.waitstateCentralRow.domain false Rows.waitstateCentralRow.laid) (((OpenSpec.ofChange Rows.waitstateCentralSpec).at F).post enc Tryz.prog Tryz.f4 false true false false):=by
 obtain⟨x,hx⟩:=zbg8 os enc;refine returnsInHanded_of_row (C:=Tryz.checked) (s:=OpenSpec.ofChange Rows.waitstateCentralSpec) Tryz.own started (by kernel_rfl) Tryz.func4
  (witness_row_at (enc:=enc) (C:=Tryz.checked) false (zak4 os) #[.slice none 0 0] rfl (by kernel_rfl) (by kernel_rfl) (by kernel_rfl)
   (OpenSpec.preRow_of_cond 8 hx (by kernel_rfl) (λ k hk=>by cases hk) (by kernel_rfl) (zbp9 os))) ?_
 intro W base args ds gs before hval hW _ _ _ hL _ _;exact zaV2 H enc W base args ds gs before hval hW hL
set_option maxHeartbeats 8000000 in
theorem zbk5:Rows.WaitstateCentralSaid:=
 OpenClaim.holds_of_cond 4 Tryz.f4 rfl rfl rfl rfl rfl rfl rfl ⟨rfl,rfl,rfl,rfl,rfl⟩ rfl rfl rfl rfl rfl (by as_aux_lemma=>kernel_rfl) Tryz.func4 (by
   simp only[joinedFacts,Bool.and_eq_true]
   (repeat' apply And.intro)
   all_goals first|with_reducible exact zcf0|(rw[zbJ4];kernel_rfl)|(rw[zcR4];kernel_rfl)|(as_aux_lemma=>kernel_rfl))
  (of_decide_eq_true (by kernel_rfl)) (by unfold Func.isWrapper;first|(rw[if_pos (by decide+kernel)];kernel_rfl)|(rw[if_neg (by decide+kernel)];exact⟨rfl,rfl⟩))
  (λ os started H enc _ F=>by rw[OpenClaim.pre_eq_preRow];exact zbd8 os started H enc F)
theorem zbg9(f:FuncId)(fn:Func)(hf:Tryz.pinned.checked.prog.funcNamed "clusterlocks/clusterlockslaw16.WaitstateCentral"=some f)(hfn:Tryz.pinned.checked.prog.funcs[f]? =some fn):
  false=Tryz.pinned.checked.prog.looks []/\∀(j:Nat) t,fn.params[j]? =some t->Tryz.pinned.checked.prog.wantsStandIn t=false:=by
 obtain rfl:f=4:=Option.some.inj ((show Tryz.prog.funcNamed "clusterlocks/clusterlockslaw16.WaitstateCentral"=some 4 by kernel_rfl).symm.trans hf)|>.symm;obtain rfl:fn=Tryz.f4:=(Option.some.inj (Tryz.func4.symm.trans hfn)).symm;refine⟨by kernel_rfl,λ j t ht=>?_⟩;rw[Tryz.params4]at ht;have hm:=Array.mem_of_getElem? ht;simp at hm;rcases hm with rfl
 all_goals first|with_reducible exact(show Tryz.pinned.checked.prog.wantsStandIn 33=false by kernel_rfl)
theorem WaitstateCentral_holds:Rows.WaitstateCentralCardSaid:=
 Claim7.holds_tied_plain_at .later [] _ _ _ _ zbk5 (λ _ h=>by cases h) (by as_aux_lemma=>kernel_rfl) (λ _ h=>by cases h) waitstateCentral_row_tie rfl ⟨rfl,rfl⟩ (zcu6.trans (by kernel_rfl)) rfl zbg9 (by as_aux_lemma=>kernel_rfl)
end Ab
end Go.Proofs.YtenebhlnfjcffaaGreatDoor
