/-
  HomeAnswers returns true for every input (each claim and withdrawal has one answer, with what the process then holds); no condition.
-/
import Derived.Test.YtdlfhmkmnjbihaaGreatDoorHeI
import Derived.Test.YtdlfhmkmnjbihaaGreatDoorDoor
import Derived.Test.YtdlfhmkmnjbihaaGreatDoorCards
import Derived.Test.YtdlfhmkmnjbihaaGreatDoorTie
import Derived.Test.YtdlfhmkmnjbihaaGreatDoorHead
import Derived.Deep.DeepHandedRow
/-
  HomeAnswers:the statement.
-/
namespace Go.Proofs.YtdlfhmkmnjbihaaGreatDoor
namespace Ab
open Go.ChangeShapes Go.WideShapes Go.ChangeAt Go.RowKit
set_option linter.unusedVariables false
theorem Tryz.own:ownKnob Tryz.prog.godebug=none:=by kernel_rfl
theorem Tryz.laidOut:laidOutB Tryz.prog=true:=by kernel_rfl
theorem tab0_num:Tryz.prog.globalNamed "clusterlocks/message.fields"=some 0:=by kernel_rfl
theorem tab0_type:(Tryz.prog.globals[0]?).map (·.type)=some 172:=by kernel_rfl
theorem tab0_lits:Lits Tryz.prog 172:=zM8 (n:=16) (sz:=1) Tryz.underlying172 (by kernel_rfl) (by kernel_rfl) (zaJ0 Tryz.underlying9)
theorem tab0_is:lits (Rows.laid_clusterlocks_message_fields (H:=Unit))=some (Arr.enc eS zu2):=by rfl
theorem tab1_num:Tryz.prog.globalNamed "clusterlocks/mode.together"=some 1:=by kernel_rfl
theorem tab1_type:(Tryz.prog.globals[1]?).map (·.type)=some 273:=by kernel_rfl
theorem tab1_lits:Lits Tryz.prog 273:=zM8 (n:=5) (sz:=5) Tryz.underlying273 (by kernel_rfl) (by kernel_rfl) (zM8 (n:=5) (sz:=1) Tryz.underlying272 (by kernel_rfl) (by kernel_rfl) (zbg3 Tryz.underlying4))
theorem tab1_is:lits (Rows.laid_clusterlocks_mode_together (H:=Unit))=some (Arr.enc (Arr.enc eB) zbl4):=by rfl
theorem reads_3:zU8 Tryz.prog 3 (eI .i64) (λ n:Int=>IntKind.i64.min<=n/\n<=IntKind.i64.max):=zaP9 Tryz.underlying3
theorem reads_46:zU8 Tryz.prog 46 (eL (eI .i64)) (λ l:List Int=>l.length<=maxLen/\∀a∈l,(λ n:Int=>IntKind.i64.min<=n/\n<=IntKind.i64.max) a):=zX8 Tryz.underlying46 (sz:=1) (by kernel_rfl) (by omega) (λ _=>rfl) reads_3
set_option maxRecDepth 100000 in
theorem zbd8(H:Type)(enc:TypeId×Value->H)(W:World)(base:Nat)(args:Array Value)(ds gs:List (DataW H))(before:List MemPlace)
  (hval:∀(j:Nat) t v,Tryz.f6.params[j]? =some t->args[j]? =some v->Value.okWide Tryz.prog W .any base t v)
  (hW:DataW.Whole enc Tryz.prog Tryz.f6.params.toList Rows.homeAnswersSpec.vars false W args.toList ds gs before) (hL:laidMetH Tryz.prog Rows.homeAnswersRow.laid W):
  Calls Tryz.prog 6 args W λ e W'=>∃v,e=.returned v/\Rows.homeAnswersSpec.post enc Tryz.prog Tryz.f6 false true false false W args v W':=by
 have hW':=hW;obtain⟨p,q,hA0,hV,rfl,hfz,hnd⟩:=hW;have hA:DataW.TrodAll enc Tryz.prog W 0 (λ _=>true) true Tryz.f6.params.toList args.toList ds p:=hA0;rw[Tryz.params6]at hA hval;obtain⟨v0,vs0,d0,ds0,p0,q0,hargs,rfl,rfl,h0,r0⟩:=trodAll_cons hA;obtain⟨rfl,rfl,rfl⟩:=trodAll_nil r0;obtain rfl:args=#[v0]:=by cases args;simp_all
 obtain⟨rfl,rfl⟩:=trodVars_none hV;obtain⟨x0,o0,hv0⟩:=zaT7 (f:=λ x=>.sl (x.map (eI .i64))) reads_46 (λ _=>rfl) (zbg2 Tryz.underlying46 (hval 0 46 v0 rfl rfl)) h0;refine zbs8 Tryz.laidOut (λ t ht=>?_) rfl (by kernel_rfl) Tryz.underlying4 hW' rfl ?_
 .rw[Tryz.params6]at ht;simp only[List.mem_cons,List.not_mem_nil,or_false]at ht;rcases ht with rfl
  all_goals exact⟨by kernel_rfl,of_decide_eq_true (by kernel_rfl)⟩
 .have hp:=(zaX0 x0).ok true (zbz3 x0) W (λ _=>False) [v0] (zaJ1 tab1_num tab1_type tab1_lits tab1_is tab0_num tab0_type tab0_lits tab0_is hL) (λ b h=>h.elim) rfl (λ i v a hv ha=>?_)
  .exact hp.mono λ e w' ⟨v,he,hk,hr⟩=>⟨v,he,hk,hr.bool⟩
  .match i,hv,ha with
   |0,hv,ha=>cases hv;cases ha;exact hv0
   |i+1,hv,ha=>simp at hv
noncomputable def zar5(os:Os):World:=
 {World.holding Tryz.prog os ⟨#[],#[],[]⟩with heap:=(Array.modify (Array.modify (World.holding Tryz.prog os ⟨#[],#[],[]⟩).heap 1 (λ|.cells _ t frozen=>.cells #[.bool true,.bool true,.bool true,.bool true,.bool false,.bool true,.bool true,.bool false,.bool false,.bool false,.bool true,.bool false,.bool true,.bool false,.bool false,.bool true,.bool false,.bool false,.bool false,.bool false,.bool false,.bool false,.bool false,.bool false,.bool false] t frozen|o=>o)) 0 (λ|.cells _ t frozen=>.cells #[.string ⟨#[]⟩,.string ⟨#[80,71,65,89]⟩,.string ⟨#[80,71,97]⟩,.string ⟨#[80,71,97,68]⟩,.string ⟨#[80,71,65]⟩,.string ⟨#[83,73]⟩,.string ⟨#[82]⟩,.string ⟨#[82,78,79]⟩,.string ⟨#[82]⟩,.string ⟨#[82,76]⟩,.string ⟨#[82,69,80,71,66]⟩,.string ⟨#[82,80,68]⟩,.string ⟨#[69,83]⟩,.string ⟨#[69]⟩,.string ⟨#[69]⟩,.string ⟨#[69]⟩] t frozen|o=>o))}
theorem zbG0(os:Os):laidMet Tryz.prog Rows.homeAnswersRow.laid ((zar5 os).forCall (λ _ _=>0) ⟨#[],#[.slice none 0 0],[]⟩).memory:=laidMet_of_run' 8 (by kernel_rfl) (by kernel_rfl)
theorem zbt3(os:Os){H:Type}(enc:TypeId×Value->H):∃x,DataW.whole enc Tryz.prog ((zar5 os).forCall (λ _ _=>0) ⟨#[],#[.slice none 0 0],[]⟩).memory Tryz.f6.params.toList Rows.homeAnswersSpec.vars false (#[.slice none 0 0]:Array Value).toList 8=some x:=Option.isSome_iff_exists.1 (by kernel_rfl)
set_option maxRecDepth 100000 in
theorem zbo6(os:Os)(started:os.Started)(H:Type)(enc:TypeId×Value->H)(F:Stop.Interp):
  ReturnsInHanded {} Tryz.checked os 6 .any ((OpenSpec.ofChange Rows.homeAnswersSpec).preRow enc Tryz.prog Tryz.f6 Rows.homeAnswersRow.domain false Rows.homeAnswersRow.laid) (((OpenSpec.ofChange Rows.homeAnswersSpec).at F).post enc Tryz.prog Tryz.f6 false true false false):=by
 obtain⟨x,hx⟩:=zbt3 os enc;refine returnsInHanded_of_row (C:=Tryz.checked) (s:=OpenSpec.ofChange Rows.homeAnswersSpec) Tryz.own started (by kernel_rfl) Tryz.func6
  (witness_row_at (enc:=enc) (C:=Tryz.checked) false (zar5 os) #[.slice none 0 0] rfl (by kernel_rfl) (by kernel_rfl) (by kernel_rfl)
   (OpenSpec.preRow_of_cond 8 hx (by kernel_rfl) (λ k hk=>by cases hk) (by kernel_rfl) (zbG0 os))) ?_
 intro W base args ds gs before hval hW _ _ _ hL _ _;exact zbd8 H enc W base args ds gs before hval hW hL
set_option maxHeartbeats 8000000 in
theorem zbz4:Rows.HomeAnswersSaid:=
 OpenClaim.holds_of_cond 6 Tryz.f6 rfl rfl rfl rfl rfl rfl rfl ⟨rfl,rfl,rfl,rfl,rfl⟩ rfl rfl rfl rfl rfl (by as_aux_lemma=>kernel_rfl) Tryz.func6 (by
   simp only[joinedFacts,Bool.and_eq_true]
   (repeat' apply And.intro)
   all_goals first|with_reducible exact zar4|(rw[zai1];kernel_rfl)|(rw[zaT8];kernel_rfl)|(as_aux_lemma=>kernel_rfl))
  (of_decide_eq_true (by kernel_rfl)) (by unfold Func.isWrapper;first|(rw[if_pos (by decide+kernel)];kernel_rfl)|(rw[if_neg (by decide+kernel)];exact⟨rfl,rfl⟩))
  (λ os started H enc _ F=>by rw[OpenClaim.pre_eq_preRow];exact zbo6 os started H enc F)
theorem zbt4(f:FuncId)(fn:Func)(hf:Tryz.pinned.checked.prog.funcNamed "clusterlocks/clusterlockslaw32.HomeAnswers"=some f)(hfn:Tryz.pinned.checked.prog.funcs[f]? =some fn):
  false=Tryz.pinned.checked.prog.looks []/\∀(j:Nat) t,fn.params[j]? =some t->Tryz.pinned.checked.prog.wantsStandIn t=false:=by
 obtain rfl:f=6:=Option.some.inj ((show Tryz.prog.funcNamed "clusterlocks/clusterlockslaw32.HomeAnswers"=some 6 by kernel_rfl).symm.trans hf)|>.symm;obtain rfl:fn=Tryz.f6:=(Option.some.inj (Tryz.func6.symm.trans hfn)).symm;refine⟨by kernel_rfl,λ j t ht=>?_⟩;rw[Tryz.params6]at ht;have hm:=Array.mem_of_getElem? ht;simp at hm;rcases hm with rfl
 all_goals first|with_reducible exact(show Tryz.pinned.checked.prog.wantsStandIn 46=false by kernel_rfl)
theorem HomeAnswers_holds:Rows.HomeAnswersCardSaid:=
 Claim7.holds_tied_plain_at .later [] _ _ _ _ zbz4 (λ _ h=>by cases h) (by as_aux_lemma=>kernel_rfl) (λ _ h=>by cases h) homeAnswers_row_tie rfl ⟨rfl,rfl⟩ (zaC0.trans (by kernel_rfl)) rfl zbt4 (by as_aux_lemma=>kernel_rfl)
end Ab
end Go.Proofs.YtdlfhmkmnjbihaaGreatDoor
