/-
  MessageKinds returns true for every input (a message with a field that its kind does not use is not valid); no condition.
-/
import Derived.Test.YtfmnjkfhahfhgaaGreatDoorMkE
import Derived.Test.YtfmnjkfhahfhgaaGreatDoorDoor
import Derived.Test.YtfmnjkfhahfhgaaGreatDoorCards
import Derived.Test.YtfmnjkfhahfhgaaGreatDoorTie
import Derived.Test.YtfmnjkfhahfhgaaGreatDoorHead
import Derived.Deep.DeepHandedRow
/-
  MessageKinds:the statement.
-/
namespace Go.Proofs.YtfmnjkfhahfhgaaGreatDoor
namespace Ab
open Go.ChangeShapes Go.WideShapes Go.ChangeAt Go.RowKit
set_option linter.unusedVariables false
theorem Tryz.own:ownKnob Tryz.prog.godebug=none:=by kernel_rfl
theorem Tryz.laidOut:laidOutB Tryz.prog=true:=by kernel_rfl
theorem cS3:Tryz.prog.globalNamed "clusterlocks/message.fields"=some 0:=by kernel_rfl
theorem cS4:(Tryz.prog.globals[0]?).map (·.type)=some 82:=by kernel_rfl
theorem cS5:Lits Tryz.prog 82:=ON (n:=16) (sz:=1) Tryz.underlying82 (by kernel_rfl) (by kernel_rfl) (cRm Tryz.underlying9)
theorem cS6:lits (Rows.laid_clusterlocks_message_fields (H:=Unit))=some (Arr.enc eS mZ):=by rfl
theorem cS7:Tryz.prog.globalNamed "clusterlocks/mode.together"=some 1:=by kernel_rfl
theorem cS8:(Tryz.prog.globals[1]?).map (·.type)=some 347:=by kernel_rfl
theorem cS9:Lits Tryz.prog 347:=ON (n:=5) (sz:=5) Tryz.underlying347 (by kernel_rfl) (by kernel_rfl) (ON (n:=5) (sz:=1) Tryz.underlying346 (by kernel_rfl) (by kernel_rfl) (cRl Tryz.underlying4))
theorem cSa:lits (Rows.laid_clusterlocks_mode_together (H:=Unit))=some (Arr.enc (Arr.enc eB) H4):=by rfl
theorem Ww:wA Tryz.prog 3 (eI .i64) (λ n:Int=>IntKind.i64.min<=n/\n<=IntKind.i64.max):=cR1 Tryz.underlying3
theorem Wx:wA Tryz.prog 22 (eL (eI .i64)) (λ l:List Int=>l.length<=maxLen/\∀a∈l,(λ n:Int=>IntKind.i64.min<=n/\n<=IntKind.i64.max) a):=cR8 Tryz.underlying22 (sz:=1) (by kernel_rfl) (by omega) (λ _=>rfl) Ww
set_option maxRecDepth 100000 in
theorem cSd(H:Type)(enc:TypeId×Value->H)(W:World)(base:Nat)(args:Array Value)(ds gs:List (DataW H))(before:List MemPlace)
  (hval:∀(j:Nat) t v,Tryz.f5.params[j]? =some t->args[j]? =some v->Value.okWide Tryz.prog W .any base t v)
  (hW:DataW.Whole enc Tryz.prog Tryz.f5.params.toList Rows.messageKindsSpec.vars false W args.toList ds gs before) (hL:laidMetH Tryz.prog Rows.messageKindsRow.laid W):
  Calls Tryz.prog 5 args W λ e W'=>∃v,e=.returned v/\Rows.messageKindsSpec.post enc Tryz.prog Tryz.f5 false true false false W args v W':=by
 have hW':=hW;obtain⟨p,q,hA0,hV,rfl,hfz,hnd⟩:=hW;have hA:DataW.TrodAll enc Tryz.prog W 0 (λ _=>true) true Tryz.f5.params.toList args.toList ds p:=hA0;rw[Tryz.params5]at hA hval;obtain⟨v0,vs0,d0,ds0,p0,q0,hargs,rfl,rfl,h0,r0⟩:=trodAll_cons hA;obtain⟨v1,vs1,d1,ds1,p1,q1,rfl,rfl,rfl,h1,r1⟩:=trodAll_cons r0;obtain⟨v2,vs2,d2,ds2,p2,q2,rfl,rfl,rfl,h2,r2⟩:=trodAll_cons r1;obtain⟨rfl,rfl,rfl⟩:=trodAll_nil r2;obtain rfl:args=#[v0,v1,v2]:=by cases args;simp_all
 obtain⟨rfl,rfl⟩:=trodVars_none hV;obtain⟨x0,o0,hv0⟩:=OM (f:=λ x=>.sl (x.map (eI .i64))) Wx (λ _=>rfl) (Ws Tryz.underlying22 (hval 0 22 v0 rfl rfl)) h0;obtain⟨x1,o1,hv1⟩:=OM (f:=λ x=>.sl (x.map (eI .i64))) Wx (λ _=>rfl) (Ws Tryz.underlying22 (hval 1 22 v1 rfl rfl)) h1;obtain⟨x2,o2,hv2⟩:=OM (f:=λ x=>.int .i64 x) Ww (λ _=>rfl) (cRh Tryz.underlying3 (hval 2 3 v2 rfl rfl)) h2;refine cRe Tryz.laidOut (λ t ht=>?_) rfl (by kernel_rfl) Tryz.underlying4 hW' rfl ?_
 .rw[Tryz.params5]at ht;simp only[List.mem_cons,List.not_mem_nil,or_false]at ht;rcases ht with rfl|rfl|rfl
  all_goals exact⟨by kernel_rfl,of_decide_eq_true (by kernel_rfl)⟩
 .have hp:=(bVa x0 x1 x2).ok true (cQz x0 x1 x2) W (λ _=>False) [v0,v1,v2] (cRq cS7 cS8 cS9 cSa cS3 cS4 cS5 cS6 hL) (λ b h=>h.elim) rfl (λ i v a hv ha=>?_)
  .exact hp.mono λ e w' ⟨v,he,hk,hr⟩=>⟨v,he,hk,hr.bool⟩
  .match i,hv,ha with
   |0,hv,ha=>cases hv;cases ha;exact hv0
   |1,hv,ha=>cases hv;cases ha;exact hv1
   |2,hv,ha=>cases hv;cases ha;exact hv2
   |i+3,hv,ha=>simp at hv
noncomputable def OO(os:Os):World:=
 {World.holding Tryz.prog os ⟨#[],#[],[]⟩with heap:=((World.holding Tryz.prog os ⟨#[],#[],[]⟩).heap.modify 1 λ | .cells _ t frozen=>.cells #[.bool true,.bool true,.bool true,.bool true,.bool false,.bool true,.bool true,.bool false,.bool false,.bool false,.bool true,.bool false,.bool true,.bool false,.bool false,.bool true,.bool false,.bool false,.bool false,.bool false,.bool false,.bool false,.bool false,.bool false,.bool false] t frozen |o=>o).modify 0 (λ | .cells _ t frozen=>.cells #[.string ⟨#[]⟩,.string ⟨#[80,71,65,89]⟩,.string ⟨#[80,71,97]⟩,.string ⟨#[80,71,97,68]⟩,.string ⟨#[80,71,65]⟩,.string ⟨#[83,73]⟩,.string ⟨#[82]⟩,.string ⟨#[82,78,79]⟩,.string ⟨#[82]⟩,.string ⟨#[82,76]⟩,.string ⟨#[82,69,80,71,66]⟩,.string ⟨#[82,80,68]⟩,.string ⟨#[69,83]⟩,.string ⟨#[69]⟩,.string ⟨#[69]⟩,.string ⟨#[69]⟩] t frozen |o=>o)}
theorem cSf(os:Os):laidMet Tryz.prog Rows.messageKindsRow.laid ((OO os).forCall (λ _ _=>0) ⟨#[],#[.slice none 0 0,.slice none 0 0,.int .i64 0],[]⟩).memory:=laidMet_of_run' 8 (by kernel_rfl) (by kernel_rfl)
theorem cSg(os:Os){H:Type}(enc:TypeId×Value->H):∃x,DataW.whole enc Tryz.prog ((OO os).forCall (λ _ _=>0) ⟨#[],#[.slice none 0 0,.slice none 0 0,.int .i64 0],[]⟩).memory Tryz.f5.params.toList Rows.messageKindsSpec.vars false (#[.slice none 0 0,.slice none 0 0,.int .i64 0]:Array Value).toList 8=some x:=Option.isSome_iff_exists.1 (by kernel_rfl)
set_option maxRecDepth 100000 in
theorem cSh(os:Os)(started:os.Started)(H:Type)(enc:TypeId×Value->H)(F:Stop.Interp):
  ReturnsInHanded {} Tryz.checked os 5 .any ((OpenSpec.ofChange Rows.messageKindsSpec).preRow enc Tryz.prog Tryz.f5 Rows.messageKindsRow.domain false Rows.messageKindsRow.laid) (((OpenSpec.ofChange Rows.messageKindsSpec).at F).post enc Tryz.prog Tryz.f5 false true false false):=by
 obtain⟨x,hx⟩:=cSg os enc;refine returnsInHanded_of_row (C:=Tryz.checked) (s:=OpenSpec.ofChange Rows.messageKindsSpec) Tryz.own started (by kernel_rfl) Tryz.func5
  (witness_row_at (enc:=enc) (C:=Tryz.checked) false (OO os) #[.slice none 0 0,.slice none 0 0,.int .i64 0] rfl (by kernel_rfl) (by kernel_rfl) (by kernel_rfl)
   (OpenSpec.preRow_of_cond 8 hx (by kernel_rfl) (λ k hk=>by cases hk) (by kernel_rfl) (cSf os))) ?_
 intro W base args ds gs before hval hW _ _ _ hL _ _;exact cSd H enc W base args ds gs before hval hW hL
set_option maxHeartbeats 8000000 in
theorem cSi:Rows.MessageKindsSaid:=
 OpenClaim.holds_of_cond 5 Tryz.f5 rfl rfl rfl rfl rfl rfl rfl ⟨rfl,rfl,rfl,rfl,rfl⟩ rfl rfl rfl rfl rfl (by as_aux_lemma=>kernel_rfl) Tryz.func5 (by
   simp only[joinedFacts,Bool.and_eq_true]
   (repeat' apply And.intro)
   all_goals first|with_reducible exact cRz|(rw[cS0];kernel_rfl)|(rw[cS1];kernel_rfl)|(as_aux_lemma=>kernel_rfl))
  (of_decide_eq_true (by kernel_rfl)) (by unfold Func.isWrapper;first|(rw[if_pos (by decide+kernel)];kernel_rfl)|(rw[if_neg (by decide+kernel)];exact⟨rfl,rfl⟩))
  (λ os started H enc _ F=>by rw[OpenClaim.pre_eq_preRow];exact cSh os started H enc F)
theorem cSj(f:FuncId)(fn:Func)(hf:Tryz.pinned.checked.prog.funcNamed "clusterlocks/clusterlockslaw24.MessageKinds"=some f)(hfn:Tryz.pinned.checked.prog.funcs[f]? =some fn):
  false=Tryz.pinned.checked.prog.looks []/\∀(j:Nat) t,fn.params[j]? =some t->Tryz.pinned.checked.prog.wantsStandIn t=false:=by
 obtain rfl:f=5:=Option.some.inj ((show Tryz.prog.funcNamed "clusterlocks/clusterlockslaw24.MessageKinds"=some 5 by kernel_rfl).symm.trans hf)|>.symm;obtain rfl:fn=Tryz.f5:=(Option.some.inj (Tryz.func5.symm.trans hfn)).symm;refine⟨by kernel_rfl,λ j t ht=>?_⟩;rw[Tryz.params5]at ht;have hm:=Array.mem_of_getElem? ht;simp at hm;rcases hm with rfl|rfl|rfl
 all_goals first|with_reducible exact(show Tryz.pinned.checked.prog.wantsStandIn 3=false by kernel_rfl)|with_reducible exact(show Tryz.pinned.checked.prog.wantsStandIn 22=false by kernel_rfl)
theorem MessageKinds_holds:Rows.MessageKindsCardSaid:=
 Claim7.holds_tied_plain_at .later [] _ _ _ _ cSi (λ _ h=>by cases h) (by as_aux_lemma=>kernel_rfl) (λ _ h=>by cases h) messageKinds_row_tie rfl ⟨rfl,rfl⟩ (cS2.trans (by kernel_rfl)) rfl cSj (by as_aux_lemma=>kernel_rfl)
end Ab
end Go.Proofs.YtfmnjkfhahfhgaaGreatDoor
