/-
  MessageChanged returns true for every input (bytes with one changed byte are either refused, or those of another message); no condition.
-/
import Derived.Test.YtfmnjkfhahfhgaaGreatDoorMkP
import Derived.Test.YtfmnjkfhahfhgaaGreatDoorDoor
import Derived.Test.YtfmnjkfhahfhgaaGreatDoorCards
import Derived.Test.YtfmnjkfhahfhgaaGreatDoorTie
import Derived.Test.YtfmnjkfhahfhgaaGreatDoorHead
import Derived.Deep.DeepHandedRow
/-
  MessageChanged:the statement.
-/
namespace Go.Proofs.YtfmnjkfhahfhgaaGreatDoor
namespace Ab
set_option linter.all false
open Go.ChangeShapes Go.WideShapes Go.ChangeAt Go.RowKit
theorem Tryz.own:ownKnob Tryz.prog.godebug=none:=by kernel_rfl
theorem Tryz.laidOut:laidOutB Tryz.prog=true:=by kernel_rfl
theorem cVb:Tryz.prog.globalNamed "clusterlocks/message.fields"=some 0:=by kernel_rfl
theorem cVc:(Tryz.prog.globals[0]?).map (·.type)=some 82:=by kernel_rfl
theorem cVd:Lits Tryz.prog 82:=QY (n:=16) (sz:=1) Tryz.underlying82 (by kernel_rfl) (by kernel_rfl) (cUu Tryz.underlying9)
theorem cVe:lits (Rows.laid_clusterlocks_message_fields (H:=Unit))=some (Arr.enc eS nL):=by rfl
theorem cVf:Tryz.prog.globalNamed "clusterlocks/mode.together"=some 1:=by kernel_rfl
theorem cVg:(Tryz.prog.globals[1]?).map (·.type)=some 347:=by kernel_rfl
theorem cVh:Lits Tryz.prog 347:=QY (n:=5) (sz:=5) Tryz.underlying347 (by kernel_rfl) (by kernel_rfl) (QY (n:=5) (sz:=1) Tryz.underlying346 (by kernel_rfl) (by kernel_rfl) (cUt Tryz.underlying4))
theorem cVi:lits (Rows.laid_clusterlocks_mode_together (H:=Unit))=some (Arr.enc (Arr.enc eB) Ka):=by rfl
theorem YB:wQ Tryz.prog 3 (eI .i64) (λ n:Int=>IntKind.i64.min<=n/\n<=IntKind.i64.max):=Yu Tryz.underlying3
theorem YC:wQ Tryz.prog 22 (eL (eI .i64)) (λ l:List Int=>l.length<=maxLen/\∀a∈l,(λ n:Int=>IntKind.i64.min<=n/\n<=IntKind.i64.max) a):=cUg Tryz.underlying22 (sz:=1) (by kernel_rfl) (by omega) (λ _=>rfl) YB
theorem cVl:wQ Tryz.prog 5 (eI .u8) (λ n:Int=>IntKind.u8.min<=n/\n<=IntKind.u8.max):=Yu Tryz.underlying5
theorem cVm(x0 x1:List Int)(x2 x3:Int){P0 P1 P2:Prop}(o0:P0)(o1:P1)(o2:P2)(o3:(λ n:Int=>IntKind.u8.min<=n/\n<=IntKind.u8.max) x3):IK x0 x1 x2 x3=some true:=
 cU7 x0 x1 x2 x3 (by
  have h:IntKind.u8.min<=x3/\x3<=IntKind.u8.max:=o3;have e:IntKind.u8.min=0:=rfl;have e2:IntKind.u8.max=255:=rfl;rw[e,e2]at h;omega)
set_option maxRecDepth 100000 in
theorem cVn(H:Type)(enc:TypeId×Value->H)(W:World)(base:Nat)(args:Array Value)(ds gs:List (DataW H))(before:List MemPlace)
  (hval:∀(j:Nat) t v,Tryz.f4.params[j]? =some t->args[j]? =some v->Value.okWide Tryz.prog W .any base t v)
  (hW:DataW.Whole enc Tryz.prog Tryz.f4.params.toList Rows.messageChangedSpec.vars false W args.toList ds gs before) (hL:laidMetH Tryz.prog Rows.messageChangedRow.laid W):
  Calls Tryz.prog 4 args W λ e W'=>∃v,e=.returned v/\Rows.messageChangedSpec.post enc Tryz.prog Tryz.f4 false true false false W args v W':=by
 have hW':=hW;obtain⟨p,q,hA0,hV,rfl,hfz,hnd⟩:=hW;have hA:DataW.TrodAll enc Tryz.prog W 0 (λ _=>true) true Tryz.f4.params.toList args.toList ds p:=hA0;rw[Tryz.params4]at hA hval;obtain⟨v0,vs0,d0,ds0,p0,q0,hargs,rfl,rfl,h0,r0⟩:=trodAll_cons hA;obtain⟨v1,vs1,d1,ds1,p1,q1,rfl,rfl,rfl,h1,r1⟩:=trodAll_cons r0;obtain⟨v2,vs2,d2,ds2,p2,q2,rfl,rfl,rfl,h2,r2⟩:=trodAll_cons r1;obtain⟨v3,vs3,d3,ds3,p3,q3,rfl,rfl,rfl,h3,r3⟩:=trodAll_cons r2;obtain⟨rfl,rfl,rfl⟩:=trodAll_nil r3;obtain rfl:args=#[v0,v1,v2,v3]:=by cases args;simp_all
 obtain⟨rfl,rfl⟩:=trodVars_none hV;obtain⟨x0,o0,hv0⟩:=M5 (f:=λ x=>.sl (x.map (eI .i64))) YC (λ _=>rfl) (Yx Tryz.underlying22 (hval 0 22 v0 rfl rfl)) h0;obtain⟨x1,o1,hv1⟩:=M5 (f:=λ x=>.sl (x.map (eI .i64))) YC (λ _=>rfl) (Yx Tryz.underlying22 (hval 1 22 v1 rfl rfl)) h1;obtain⟨x2,o2,hv2⟩:=M5 (f:=λ x=>.int .i64 x) YB (λ _=>rfl) (Yw Tryz.underlying3 (hval 2 3 v2 rfl rfl)) h2;obtain⟨x3,o3,hv3⟩:=M5 (f:=λ x=>.int .u8 x) cVl (λ _=>rfl) (Yw Tryz.underlying5 (hval 3 5 v3 rfl rfl)) h3;refine cUm Tryz.laidOut (λ t ht=>?_) rfl (by kernel_rfl) Tryz.underlying4 hW' rfl ?_
 .rw[Tryz.params4]at ht;simp only[List.mem_cons,List.not_mem_nil,or_false]at ht;rcases ht with rfl|rfl|rfl|rfl
  all_goals exact⟨by kernel_rfl,of_decide_eq_true (by kernel_rfl)⟩
 .have hp:=(bVb x0 x1 x2 x3).ok true (cVm x0 x1 x2 x3 o0 o1 o2 o3) W (λ _=>False) [v0,v1,v2,v3] (cUy cVf cVg cVh cVi cVb cVc cVd cVe hL) (λ b h=>h.elim) rfl (λ i v a hv ha=>?_)
  .exact hp.mono λ e w' ⟨v,he,hk,hr⟩=>⟨v,he,hk,hr.bool⟩
  .match i,hv,ha with
   |0,hv,ha=>cases hv;cases ha;exact hv0
   |1,hv,ha=>cases hv;cases ha;exact hv1
   |2,hv,ha=>cases hv;cases ha;exact hv2
   |3,hv,ha=>cases hv;cases ha;exact hv3
   |i+4,hv,ha=>simp at hv
noncomputable def QZ(os:Os):World:=
 {World.holding Tryz.prog os ⟨#[],#[],[]⟩with heap:=((World.holding Tryz.prog os ⟨#[],#[],[]⟩).heap.modify 1 λ | .cells _ t frozen=>.cells #[.bool true,.bool true,.bool true,.bool true,.bool false,.bool true,.bool true,.bool false,.bool false,.bool false,.bool true,.bool false,.bool true,.bool false,.bool false,.bool true,.bool false,.bool false,.bool false,.bool false,.bool false,.bool false,.bool false,.bool false,.bool false] t frozen |o=>o).modify 0 (λ | .cells _ t frozen=>.cells #[.string ⟨#[]⟩,.string ⟨#[80,71,65,89]⟩,.string ⟨#[80,71,97]⟩,.string ⟨#[80,71,97,68]⟩,.string ⟨#[80,71,65]⟩,.string ⟨#[83,73]⟩,.string ⟨#[82]⟩,.string ⟨#[82,78,79]⟩,.string ⟨#[82]⟩,.string ⟨#[82,76]⟩,.string ⟨#[82,69,80,71,66]⟩,.string ⟨#[82,80,68]⟩,.string ⟨#[69,83]⟩,.string ⟨#[69]⟩,.string ⟨#[69]⟩,.string ⟨#[69]⟩] t frozen |o=>o)}
theorem cVp(os:Os):laidMet Tryz.prog Rows.messageChangedRow.laid ((QZ os).forCall (λ _ _=>0) ⟨#[],#[.slice none 0 0,.slice none 0 0,.int .i64 0,.int .u8 0],[]⟩).memory:=laidMet_of_run' 8 (by kernel_rfl) (by kernel_rfl)
theorem cVq(os:Os){H:Type}(enc:TypeId×Value->H):∃x,DataW.whole enc Tryz.prog ((QZ os).forCall (λ _ _=>0) ⟨#[],#[.slice none 0 0,.slice none 0 0,.int .i64 0,.int .u8 0],[]⟩).memory Tryz.f4.params.toList Rows.messageChangedSpec.vars false (#[.slice none 0 0,.slice none 0 0,.int .i64 0,.int .u8 0]:Array Value).toList 8=some x:=Option.isSome_iff_exists.1 (by kernel_rfl)
set_option maxRecDepth 100000 in
theorem cVr(os:Os)(started:os.Started)(H:Type)(enc:TypeId×Value->H)(F:Stop.Interp):
  ReturnsInHanded {} Tryz.checked os 4 .any ((OpenSpec.ofChange Rows.messageChangedSpec).preRow enc Tryz.prog Tryz.f4 Rows.messageChangedRow.domain false Rows.messageChangedRow.laid) (((OpenSpec.ofChange Rows.messageChangedSpec).at F).post enc Tryz.prog Tryz.f4 false true false false):=by
 obtain⟨x,hx⟩:=cVq os enc;refine returnsInHanded_of_row (C:=Tryz.checked) (s:=OpenSpec.ofChange Rows.messageChangedSpec) Tryz.own started (by kernel_rfl) Tryz.func4
  (witness_row_at (enc:=enc) (C:=Tryz.checked) false (QZ os) #[.slice none 0 0,.slice none 0 0,.int .i64 0,.int .u8 0] rfl (by kernel_rfl) (by kernel_rfl) (by kernel_rfl)
   (OpenSpec.preRow_of_cond 8 hx (by kernel_rfl) (λ k hk=>by cases hk) (by kernel_rfl) (cVp os))) ?_
 intro W base args ds gs before hval hW _ _ _ hL _ _;exact cVn H enc W base args ds gs before hval hW hL
set_option maxHeartbeats 8000000 in
theorem cVs:Rows.MessageChangedSaid:=
 OpenClaim.holds_of_cond 4 Tryz.f4 rfl rfl rfl rfl rfl rfl rfl ⟨rfl,rfl,rfl,rfl,rfl⟩ rfl rfl rfl rfl rfl (by as_aux_lemma=>kernel_rfl) Tryz.func4 (by
   simp only[joinedFacts,Bool.and_eq_true]
   (repeat' apply And.intro)
   all_goals first|with_reducible exact cV7|(rw[cV8];kernel_rfl)|(rw[cV9];kernel_rfl)|(as_aux_lemma=>kernel_rfl))
  (of_decide_eq_true (by kernel_rfl)) (by unfold Func.isWrapper;first|(rw[if_pos (by decide+kernel)];kernel_rfl)|(rw[if_neg (by decide+kernel)];exact⟨rfl,rfl⟩))
  (λ os started H enc _ F=>by rw[OpenClaim.pre_eq_preRow];exact cVr os started H enc F)
theorem cVt(f:FuncId)(fn:Func)(hf:Tryz.pinned.checked.prog.funcNamed "clusterlocks/clusterlockslaw24.MessageChanged"=some f)(hfn:Tryz.pinned.checked.prog.funcs[f]? =some fn):
  false=Tryz.pinned.checked.prog.looks []/\∀(j:Nat) t,fn.params[j]? =some t->Tryz.pinned.checked.prog.wantsStandIn t=false:=by
 obtain rfl:f=4:=Option.some.inj ((show Tryz.prog.funcNamed "clusterlocks/clusterlockslaw24.MessageChanged"=some 4 by kernel_rfl).symm.trans hf)|>.symm;obtain rfl:fn=Tryz.f4:=(Option.some.inj (Tryz.func4.symm.trans hfn)).symm;refine⟨by kernel_rfl,λ j t ht=>?_⟩;rw[Tryz.params4]at ht;have hm:=Array.mem_of_getElem? ht;simp at hm;rcases hm with rfl|rfl|rfl|rfl
 all_goals first|with_reducible exact(show Tryz.pinned.checked.prog.wantsStandIn 3=false by kernel_rfl)|with_reducible exact(show Tryz.pinned.checked.prog.wantsStandIn 5=false by kernel_rfl)|with_reducible exact(show Tryz.pinned.checked.prog.wantsStandIn 22=false by kernel_rfl)
theorem MessageChanged_holds:Rows.MessageChangedCardSaid:=
 Claim7.holds_tied_plain_at .later [] _ _ _ _ cVs (λ _ h=>by cases h) (by as_aux_lemma=>kernel_rfl) (λ _ h=>by cases h) messageChanged_row_tie rfl ⟨rfl,rfl⟩ (cVa.trans (by kernel_rfl)) rfl cVt (by as_aux_lemma=>kernel_rfl)
end Ab
end Go.Proofs.YtfmnjkfhahfhgaaGreatDoor
