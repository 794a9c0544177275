/-
  TopUpgrade returns true for every input (n processes that hold one lock and all want more of it are found, and the cheapest set of victims is chosen); no condition.
-/
import Derived.Test.YtamndckemppjdaaGreatDoorTpLu
import Derived.Test.YtamndckemppjdaaGreatDoorDoor
import Derived.Test.YtamndckemppjdaaGreatDoorCards
import Derived.Test.YtamndckemppjdaaGreatDoorTie
import Derived.Test.YtamndckemppjdaaGreatDoorHead
import Derived.Deep.DeepHandedRow
/-
  TopUpgrade returns true for every input (n processes that hold one lock and all want more of it are found,and the cheapest set of victims is zbI8);no condition.
-/
namespace Go.Proofs.YtamndckemppjdaaGreatDoor
namespace Ab
open Go.ChangeShapes Go.WideShapes Go.ChangeAt Go.RowKit
set_option linter.unusedVariables false
theorem Tryz.own:ownKnob Tryz.prog.godebug=none:=by kernel_rfl
theorem Tryz.laidOut:laidOutB Tryz.prog=true:=by kernel_rfl
theorem tab0_num:Tryz.prog.globalNamed "math/bits.deBruijn64tab"=some 0:=by kernel_rfl
theorem tab0_type:(Tryz.prog.globals[0]?).map (·.type)=some 242:=by kernel_rfl
theorem tab0_lits:Lits Tryz.prog 242:=zak3 (n:=64) (sz:=1) Tryz.underlying242 (by kernel_rfl) (by kernel_rfl) (zbD4 Tryz.underlying5)
theorem tab0_is:lits (Rows.laid_math_bits_deBruijn64tab (H:=Unit))=some (Arr.enc (eI .u8) zbk4):=by rfl
theorem tab2_num:Tryz.prog.globalNamed "clusterlocks/mode.together"=some 2:=by kernel_rfl
theorem tab2_type:(Tryz.prog.globals[2]?).map (·.type)=some 422:=by kernel_rfl
theorem tab2_lits:Lits Tryz.prog 422:=zak3 (n:=5) (sz:=5) Tryz.underlying422 (by kernel_rfl) (by kernel_rfl) (zak3 (n:=5) (sz:=1) Tryz.underlying421 (by kernel_rfl) (by kernel_rfl) (zbr9 Tryz.underlying4))
theorem tab2_is:lits (Rows.laid_clusterlocks_mode_together (H:=Unit))=some (Arr.enc (Arr.enc eB) zbk5):=by rfl
theorem reads_3:zbc9 Tryz.prog 3 (eI .i64) (λ n:Int=>IntKind.i64.min<=n/\n<=IntKind.i64.max):=zbr7 Tryz.underlying3
theorem reads_22:zbc9 Tryz.prog 22 (eL (eI .i64)) (λ l:List Int=>l.length<=maxLen/\∀a∈l,(λ n:Int=>IntKind.i64.min<=n/\n<=IntKind.i64.max) a):=zbd0 Tryz.underlying22 (sz:=1) (by kernel_rfl) (by omega) (λ _=>rfl) reads_3
set_option maxRecDepth 100000 in
theorem zaO5(H:Type)(enc:TypeId×Value->H)(W:World)(base:Nat)(args:Array Value)(ds gs:List (DataW H))(before:List MemPlace)
  (hval:∀(j:Nat) t v,Tryz.f3.params[j]? =some t->args[j]? =some v->Value.okWide Tryz.prog W .any base t v)
  (hW:DataW.Whole enc Tryz.prog Tryz.f3.params.toList Rows.topUpgradeSpec.vars false W args.toList ds gs before) (hL:laidMetH Tryz.prog Rows.topUpgradeRow.laid W):
  Calls Tryz.prog 3 args W λ e W'=>∃v,e=.returned v/\Rows.topUpgradeSpec.post enc Tryz.prog Tryz.f3 false true false false W args v W':=by
 have hW':=hW;obtain⟨p,q,hA0,hV,rfl,hfz,hnd⟩:=hW;have hA:DataW.TrodAll enc Tryz.prog W 0 (λ _=>true) true Tryz.f3.params.toList args.toList ds p:=hA0;rw[Tryz.params3]at hA hval;obtain⟨v0,vs0,d0,ds0,p0,q0,hargs,rfl,rfl,h0,r0⟩:=trodAll_cons hA;obtain⟨v1,vs1,d1,ds1,p1,q1,rfl,rfl,rfl,h1,r1⟩:=trodAll_cons r0;obtain⟨rfl,rfl,rfl⟩:=trodAll_nil r1;obtain rfl:args=#[v0,v1]:=by cases args;simp_all
 obtain⟨rfl,rfl⟩:=trodVars_none hV;obtain⟨x0,o0,hv0⟩:=zbf6 (f:=λ x=>.int .i64 x) reads_3 (λ _=>rfl) (zbN8 Tryz.underlying3 (hval 0 3 v0 rfl rfl)) h0;obtain⟨x1,o1,hv1⟩:=zbf6 (f:=λ x=>.sl (x.map (eI .i64))) reads_22 (λ _=>rfl) (zbr8 Tryz.underlying22 (hval 1 22 v1 rfl rfl)) h1;refine zbD3 Tryz.laidOut (λ t ht=>?_) rfl (by kernel_rfl) Tryz.underlying4 hW' rfl ?_
 .rw[Tryz.params3]at ht;simp only[List.mem_cons,List.not_mem_nil,or_false]at ht;rcases ht with rfl|rfl
  all_goals exact⟨by kernel_rfl,of_decide_eq_true (by kernel_rfl)⟩
 .have hp:=(zaW7 x0 x1).ok true (zbe0 x0 x1) W (λ _=>False) [v0,v1] (zbd1 tab2_num tab2_type tab2_lits tab2_is tab0_num tab0_type tab0_lits tab0_is hL) (λ b h=>h.elim) rfl (λ i v a hv ha=>?_)
  .exact hp.mono λ e w' ⟨v,he,hk,hr⟩=>⟨v,he,hk,hr.bool⟩
  .match i,hv,ha with
   |0,hv,ha=>cases hv;cases ha;exact hv0
   |1,hv,ha=>cases hv;cases ha;exact hv1
   |i+2,hv,ha=>simp at hv
noncomputable def zak4(os:Os):World:=
 {World.holding Tryz.prog os ⟨#[],#[],[]⟩with heap:=(Array.modify (Array.modify (World.holding Tryz.prog os ⟨#[],#[],[]⟩).heap 2 (λ
   | .cells _ t frozen=>.cells #[.bool true,.bool true,.bool true,.bool true,.bool false,.bool true,.bool true,.bool false,.bool false,.bool false,.bool true,.bool false,.bool true,.bool false,.bool false,.bool true,.bool false,.bool false,.bool false,.bool false,.bool false,.bool false,.bool false,.bool false,.bool false] t frozen
   |o=>o)) 0 (λ
   | .cells _ t frozen=>.cells #[.int .u8 0,.int .u8 1,.int .u8 56,.int .u8 2,.int .u8 57,.int .u8 49,.int .u8 28,.int .u8 3,.int .u8 61,.int .u8 58,.int .u8 42,.int .u8 50,.int .u8 38,.int .u8 29,.int .u8 17,.int .u8 4,.int .u8 62,.int .u8 47,.int .u8 59,.int .u8 36,.int .u8 45,.int .u8 43,.int .u8 51,.int .u8 22,.int .u8 53,.int .u8 39,.int .u8 33,.int .u8 30,.int .u8 24,.int .u8 18,.int .u8 12,.int .u8 5,.int .u8 63,.int .u8 55,.int .u8 48,.int .u8 27,.int .u8 60,.int .u8 41,.int .u8 37,.int .u8 16,.int .u8 46,.int .u8 35,.int .u8 44,.int .u8 21,.int .u8 52,.int .u8 32,.int .u8 23,.int .u8 11,.int .u8 54,.int .u8 26,.int .u8 40,.int .u8 15,.int .u8 34,.int .u8 20,.int .u8 31,.int .u8 10,.int .u8 25,.int .u8 14,.int .u8 19,.int .u8 9,.int .u8 13,.int .u8 8,.int .u8 7,.int .u8 6] t frozen
   |o=>o))}
theorem zbn0(os:Os):laidMet Tryz.prog Rows.topUpgradeRow.laid ((zak4 os).forCall (λ _ _=>0) ⟨#[],#[.int .i64 0,.slice none 0 0],[]⟩).memory:=laidMet_of_run' 8 (by kernel_rfl) (by kernel_rfl)
theorem zba5(os:Os){H:Type}(enc:TypeId×Value->H):∃x,DataW.whole enc Tryz.prog ((zak4 os).forCall (λ _ _=>0) ⟨#[],#[.int .i64 0,.slice none 0 0],[]⟩).memory Tryz.f3.params.toList Rows.topUpgradeSpec.vars false (#[.int .i64 0,.slice none 0 0]:Array Value).toList 8=some x:=Option.isSome_iff_exists.1 (by kernel_rfl)
set_option maxRecDepth 100000 in
theorem zaX5(os:Os)(started:os.Started)(H:Type)(enc:TypeId×Value->H)(F:Stop.Interp):
  ReturnsInHanded {} Tryz.checked os 3 .any ((OpenSpec.ofChange Rows.topUpgradeSpec).preRow enc Tryz.prog Tryz.f3 Rows.topUpgradeRow.domain false Rows.topUpgradeRow.laid) (((OpenSpec.ofChange Rows.topUpgradeSpec).at F).post enc Tryz.prog Tryz.f3 false true false false):=by
 obtain⟨x,hx⟩:=zba5 os enc;refine returnsInHanded_of_row (C:=Tryz.checked) (s:=OpenSpec.ofChange Rows.topUpgradeSpec) Tryz.own started (by kernel_rfl) Tryz.func3
  (witness_row_at (enc:=enc) (C:=Tryz.checked) false (zak4 os) #[.int .i64 0,.slice none 0 0] rfl (by kernel_rfl) (by kernel_rfl) (by kernel_rfl)
   (OpenSpec.preRow_of_cond 8 hx (by kernel_rfl) (λ k hk=>by cases hk) (by kernel_rfl) (zbn0 os))) ?_
 intro W base args ds gs before hval hW _ _ _ hL _ _;exact zaO5 H enc W base args ds gs before hval hW hL
set_option maxHeartbeats 8000000 in
theorem zbe1:Rows.TopUpgradeSaid:=
 OpenClaim.holds_of_cond 3 Tryz.f3 rfl rfl rfl rfl rfl rfl rfl ⟨rfl,rfl,rfl,rfl,rfl⟩ rfl rfl rfl rfl rfl (by as_aux_lemma=>kernel_rfl) Tryz.func3 (by
   simp only[joinedFacts,Bool.and_eq_true]
   (repeat' apply And.intro)
   all_goals first|with_reducible exact zaM4|(rw[zaD3];kernel_rfl)|(rw[zbm8];kernel_rfl)|(as_aux_lemma=>kernel_rfl))
  (of_decide_eq_true (by kernel_rfl)) (by unfold Func.isWrapper;first|(rw[if_pos (by decide+kernel)];kernel_rfl)|(rw[if_neg (by decide+kernel)];exact⟨rfl,rfl⟩))
  (λ os started H enc _ F=>by rw[OpenClaim.pre_eq_preRow];exact zaX5 os started H enc F)
theorem zba6(f:FuncId)(fn:Func)(hf:Tryz.pinned.checked.prog.funcNamed "clusterlocks/clusterlockstop.TopUpgrade"=some f)(hfn:Tryz.pinned.checked.prog.funcs[f]? =some fn):
  true=Tryz.pinned.checked.prog.looks []/\∀(j:Nat) t,fn.params[j]? =some t->Tryz.pinned.checked.prog.wantsStandIn t=false:=by
 obtain rfl:f=3:=Option.some.inj ((show Tryz.prog.funcNamed "clusterlocks/clusterlockstop.TopUpgrade"=some 3 by kernel_rfl).symm.trans hf)|>.symm;obtain rfl:fn=Tryz.f3:=(Option.some.inj (Tryz.func3.symm.trans hfn)).symm;refine⟨by kernel_rfl,λ j t ht=>?_⟩;rw[Tryz.params3]at ht;have hm:=Array.mem_of_getElem? ht;simp at hm;rcases hm with rfl|rfl
 all_goals first|with_reducible exact(show Tryz.pinned.checked.prog.wantsStandIn 3=false by kernel_rfl)|with_reducible exact(show Tryz.pinned.checked.prog.wantsStandIn 22=false by kernel_rfl)
theorem TopUpgrade_holds:Rows.TopUpgradeCardSaid:=
 Claim7.holds_tied_plain_at .later [] _ _ _ _ zbe1 (λ _ h=>by cases h) (by as_aux_lemma=>kernel_rfl) (λ _ h=>by cases h) topUpgrade_row_tie rfl ⟨rfl,rfl⟩ (zaX4.trans (by kernel_rfl)) rfl zba6 (by as_aux_lemma=>kernel_rfl)
end Ab
end Go.Proofs.YtamndckemppjdaaGreatDoor
