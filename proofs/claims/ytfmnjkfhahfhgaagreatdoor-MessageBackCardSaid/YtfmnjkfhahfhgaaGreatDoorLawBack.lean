/-
  MessageBack returns true for every input (a message is read back from its bytes, no proper beginning of them is accepted, and nothing longer); no condition.
-/
import Derived.Test.YtfmnjkfhahfhgaaGreatDoorMkK
import Derived.Test.YtfmnjkfhahfhgaaGreatDoorDoor
import Derived.Test.YtfmnjkfhahfhgaaGreatDoorCards
import Derived.Test.YtfmnjkfhahfhgaaGreatDoorTie
import Derived.Test.YtfmnjkfhahfhgaaGreatDoorHead
import Derived.Deep.DeepHandedRow
/-
  MessageBack:the statement.
-/
namespace Go.Proofs.YtfmnjkfhahfhgaaGreatDoor
namespace Ab
set_option linter.all false
open Go.ChangeShapes Go.WideShapes Go.ChangeAt Go.RowKit
set_option linter.unusedVariables false
theorem Tryz.own:ownKnob Tryz.prog.godebug=none:=by kernel_rfl
theorem Tryz.laidOut:laidOutB Tryz.prog=true:=by kernel_rfl
theorem cUl:Tryz.prog.globalNamed "clusterlocks/message.fields"=some 0:=by kernel_rfl
theorem cUm:(Tryz.prog.globals[0]?).map (·.type)=some 82:=by kernel_rfl
theorem cUn:Lits Tryz.prog 82:=PT (n:=16) (sz:=1) Tryz.underlying82 (by kernel_rfl) (by kernel_rfl) (cU4 Tryz.underlying9)
theorem cUo:lits (Rows.laid_clusterlocks_message_fields (H:=Unit))=some (Arr.enc eS nD):=by rfl
theorem cUp:Tryz.prog.globalNamed "clusterlocks/mode.together"=some 1:=by kernel_rfl
theorem cUq:(Tryz.prog.globals[1]?).map (·.type)=some 347:=by kernel_rfl
theorem cUr:Lits Tryz.prog 347:=PT (n:=5) (sz:=5) Tryz.underlying347 (by kernel_rfl) (by kernel_rfl) (PT (n:=5) (sz:=1) Tryz.underlying346 (by kernel_rfl) (by kernel_rfl) (cU3 Tryz.underlying4))
theorem cUs:lits (Rows.laid_clusterlocks_mode_together (H:=Unit))=some (Arr.enc (Arr.enc eB) I9):=by rfl
theorem cUt:uW Tryz.prog 3 (eI .i64) (λ n:Int=>IntKind.i64.min<=n/\n<=IntKind.i64.max):=Xy Tryz.underlying3
theorem XF:uW Tryz.prog 22 (eL (eI .i64)) (λ l:List Int=>l.length<=maxLen/\∀a∈l,(λ n:Int=>IntKind.i64.min<=n/\n<=IntKind.i64.max) a):=Xz Tryz.underlying22 (sz:=1) (by kernel_rfl) (by omega) (λ _=>rfl) cUt
theorem cUv:uW Tryz.prog 5 (eI .u8) (λ n:Int=>IntKind.u8.min<=n/\n<=IntKind.u8.max):=Xy Tryz.underlying5
theorem cUw:uW Tryz.prog 23 (eL (eI .u8)) (λ l:List Int=>l.length<=maxLen/\∀a∈l,(λ n:Int=>IntKind.u8.min<=n/\n<=IntKind.u8.max) a):=Xz Tryz.underlying23 (sz:=1) (by kernel_rfl) (by omega) (λ _=>rfl) cUv
theorem cUx(x0 x1 x2:List Int){P0 P1:Prop}(o0:P0)(o1:P1)(o2:x2.length<=maxLen/\∀a∈x2,(λ n:Int=>IntKind.u8.min<=n/\n<=IntKind.u8.max) a):E1 x0 x1 x2=some true:=
 cTi x0 x1 x2 λ a ha=>by have h:IntKind.u8.min<=a/\a<=IntKind.u8.max:=o2.2 a ha;have e:IntKind.u8.min=0:=rfl;have e2:IntKind.u8.max=255:=rfl;rw[e,e2]at h;omega
set_option maxRecDepth 100000 in
theorem cUy(H:Type)(enc:TypeId×Value->H)(W:World)(base:Nat)(args:Array Value)(ds gs:List (DataW H))(before:List MemPlace)
  (hval:∀(j:Nat) t v,Tryz.f3.params[j]? =some t->args[j]? =some v->Value.okWide Tryz.prog W .any base t v)
  (hW:DataW.Whole enc Tryz.prog Tryz.f3.params.toList Rows.messageBackSpec.vars false W args.toList ds gs before) (hL:laidMetH Tryz.prog Rows.messageBackRow.laid W):
  Calls Tryz.prog 3 args W λ e W'=>∃v,e=.returned v/\Rows.messageBackSpec.post enc Tryz.prog Tryz.f3 false true false false W args v W':=by
 have hW':=hW;obtain⟨p,q,hA0,hV,rfl,hfz,hnd⟩:=hW;have hA:DataW.TrodAll enc Tryz.prog W 0 (λ _=>true) true Tryz.f3.params.toList args.toList ds p:=hA0;rw[Tryz.params3]at hA hval;obtain⟨v0,vs0,d0,ds0,p0,q0,hargs,rfl,rfl,h0,r0⟩:=trodAll_cons hA;obtain⟨v1,vs1,d1,ds1,p1,q1,rfl,rfl,rfl,h1,r1⟩:=trodAll_cons r0;obtain⟨v2,vs2,d2,ds2,p2,q2,rfl,rfl,rfl,h2,r2⟩:=trodAll_cons r1;obtain⟨rfl,rfl,rfl⟩:=trodAll_nil r2;obtain rfl:args=#[v0,v1,v2]:=by cases args;simp_all
 obtain⟨rfl,rfl⟩:=trodVars_none hV;obtain⟨x0,o0,hv0⟩:=PS (f:=λ x=>.sl (x.map (eI .i64))) XF (λ _=>rfl) (PR Tryz.underlying22 (hval 0 22 v0 rfl rfl)) h0;obtain⟨x1,o1,hv1⟩:=PS (f:=λ x=>.sl (x.map (eI .i64))) XF (λ _=>rfl) (PR Tryz.underlying22 (hval 1 22 v1 rfl rfl)) h1;obtain⟨x2,o2,hv2⟩:=PS (f:=λ x=>.sl (x.map (eI .u8))) cUw (λ _=>rfl) (PR Tryz.underlying23 (hval 2 23 v2 rfl rfl)) h2;refine cTx Tryz.laidOut (λ t ht=>?_) rfl (by kernel_rfl) Tryz.underlying4 hW' rfl ?_
 .rw[Tryz.params3]at ht;simp only[List.mem_cons,List.not_mem_nil,or_false]at ht;rcases ht with rfl|rfl|rfl
  all_goals exact⟨by kernel_rfl,of_decide_eq_true (by kernel_rfl)⟩
 .have hp:=(bVf x0 x1 x2).ok true (cUx x0 x1 x2 o0 o1 o2) W (λ _=>False) [v0,v1,v2] (cU8 cUp cUq cUr cUs cUl cUm cUn cUo hL) (λ b h=>h.elim) rfl (λ i v a hv ha=>?_)
  .exact hp.mono λ e w' ⟨v,he,hk,hr⟩=>⟨v,he,hk,hr.bool⟩
  .match i,hv,ha with
   |0,hv,ha=>cases hv;cases ha;exact hv0
   |1,hv,ha=>cases hv;cases ha;exact hv1
   |2,hv,ha=>cases hv;cases ha;exact hv2
   |i+3,hv,ha=>simp at hv
noncomputable def PU(os:Os):World:=
 {World.holding Tryz.prog os ⟨#[],#[],[]⟩with heap:=((World.holding Tryz.prog os ⟨#[],#[],[]⟩).heap.modify 1 λ | .cells _ t frozen=>.cells #[.bool true,.bool true,.bool true,.bool true,.bool false,.bool true,.bool true,.bool false,.bool false,.bool false,.bool true,.bool false,.bool true,.bool false,.bool false,.bool true,.bool false,.bool false,.bool false,.bool false,.bool false,.bool false,.bool false,.bool false,.bool false] t frozen |o=>o).modify 0 (λ | .cells _ t frozen=>.cells #[.string ⟨#[]⟩,.string ⟨#[80,71,65,89]⟩,.string ⟨#[80,71,97]⟩,.string ⟨#[80,71,97,68]⟩,.string ⟨#[80,71,65]⟩,.string ⟨#[83,73]⟩,.string ⟨#[82]⟩,.string ⟨#[82,78,79]⟩,.string ⟨#[82]⟩,.string ⟨#[82,76]⟩,.string ⟨#[82,69,80,71,66]⟩,.string ⟨#[82,80,68]⟩,.string ⟨#[69,83]⟩,.string ⟨#[69]⟩,.string ⟨#[69]⟩,.string ⟨#[69]⟩] t frozen |o=>o)}
theorem cV0(os:Os):laidMet Tryz.prog Rows.messageBackRow.laid ((PU os).forCall (λ _ _=>0) ⟨#[],#[.slice none 0 0,.slice none 0 0,.slice none 0 0],[]⟩).memory:=laidMet_of_run' 8 (by kernel_rfl) (by kernel_rfl)
theorem cV1(os:Os){H:Type}(enc:TypeId×Value->H):∃x,DataW.whole enc Tryz.prog ((PU os).forCall (λ _ _=>0) ⟨#[],#[.slice none 0 0,.slice none 0 0,.slice none 0 0],[]⟩).memory Tryz.f3.params.toList Rows.messageBackSpec.vars false (#[.slice none 0 0,.slice none 0 0,.slice none 0 0]:Array Value).toList 8=some x:=Option.isSome_iff_exists.1 (by kernel_rfl)
set_option maxRecDepth 100000 in
theorem cV2(os:Os)(started:os.Started)(H:Type)(enc:TypeId×Value->H)(F:Stop.Interp):
  ReturnsInHanded {} Tryz.checked os 3 .any ((OpenSpec.ofChange Rows.messageBackSpec).preRow enc Tryz.prog Tryz.f3 Rows.messageBackRow.domain false Rows.messageBackRow.laid) (((OpenSpec.ofChange Rows.messageBackSpec).at F).post enc Tryz.prog Tryz.f3 false true false false):=by
 obtain⟨x,hx⟩:=cV1 os enc;refine returnsInHanded_of_row (C:=Tryz.checked) (s:=OpenSpec.ofChange Rows.messageBackSpec) Tryz.own started (by kernel_rfl) Tryz.func3
  (witness_row_at (enc:=enc) (C:=Tryz.checked) false (PU os) #[.slice none 0 0,.slice none 0 0,.slice none 0 0] rfl (by kernel_rfl) (by kernel_rfl) (by kernel_rfl)
   (OpenSpec.preRow_of_cond 8 hx (by kernel_rfl) (λ k hk=>by cases hk) (by kernel_rfl) (cV0 os))) ?_
 intro W base args ds gs before hval hW _ _ _ hL _ _;exact cUy H enc W base args ds gs before hval hW hL
set_option maxHeartbeats 8000000 in
theorem cV3:Rows.MessageBackSaid:=
 OpenClaim.holds_of_cond 3 Tryz.f3 rfl rfl rfl rfl rfl rfl rfl ⟨rfl,rfl,rfl,rfl,rfl⟩ rfl rfl rfl rfl rfl (by as_aux_lemma=>kernel_rfl) Tryz.func3 (by
   simp only[joinedFacts,Bool.and_eq_true]
   (repeat' apply And.intro)
   all_goals first|with_reducible exact cUh|(rw[cUi];kernel_rfl)|(rw[cUj];kernel_rfl)|(as_aux_lemma=>kernel_rfl))
  (of_decide_eq_true (by kernel_rfl)) (by unfold Func.isWrapper;first|(rw[if_pos (by decide+kernel)];kernel_rfl)|(rw[if_neg (by decide+kernel)];exact⟨rfl,rfl⟩))
  (λ os started H enc _ F=>by rw[OpenClaim.pre_eq_preRow];exact cV2 os started H enc F)
theorem cV4(f:FuncId)(fn:Func)(hf:Tryz.pinned.checked.prog.funcNamed "clusterlocks/clusterlockslaw24.MessageBack"=some f)(hfn:Tryz.pinned.checked.prog.funcs[f]? =some fn):
  false=Tryz.pinned.checked.prog.looks []/\∀(j:Nat) t,fn.params[j]? =some t->Tryz.pinned.checked.prog.wantsStandIn t=false:=by
 obtain rfl:f=3:=Option.some.inj ((show Tryz.prog.funcNamed "clusterlocks/clusterlockslaw24.MessageBack"=some 3 by kernel_rfl).symm.trans hf)|>.symm;obtain rfl:fn=Tryz.f3:=(Option.some.inj (Tryz.func3.symm.trans hfn)).symm;refine⟨by kernel_rfl,λ j t ht=>?_⟩;rw[Tryz.params3]at ht;have hm:=Array.mem_of_getElem? ht;simp at hm;rcases hm with rfl|rfl|rfl
 all_goals first|with_reducible exact(show Tryz.pinned.checked.prog.wantsStandIn 22=false by kernel_rfl)|with_reducible exact(show Tryz.pinned.checked.prog.wantsStandIn 23=false by kernel_rfl)
theorem MessageBack_holds:Rows.MessageBackCardSaid:=
 Claim7.holds_tied_plain_at .later [] _ _ _ _ cV3 (λ _ h=>by cases h) (by as_aux_lemma=>kernel_rfl) (λ _ h=>by cases h) messageBack_row_tie rfl ⟨rfl,rfl⟩ (cUk.trans (by kernel_rfl)) rfl cV4 (by as_aux_lemma=>kernel_rfl)
end Ab
end Go.Proofs.YtfmnjkfhahfhgaaGreatDoor
