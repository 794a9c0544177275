/-
  WaitstateSpoils returns true for every input (what Decode makes of bytes that were cut, lengthened or changed); no condition.
-/
import Derived.Test.YtcggeefhhegeoaaGreatDoorSpC
import Derived.Test.YtcggeefhhegeoaaGreatDoorDoor
import Derived.Test.YtcggeefhhegeoaaGreatDoorCards
import Derived.Test.YtcggeefhhegeoaaGreatDoorTie
import Derived.Test.YtcggeefhhegeoaaGreatDoorHead
import Derived.Deep.DeepHandedRow
/-
  What Decode makes of bytes that were spoilt,and that Encode writes again what it accepts; no condition.
-/
namespace Go.Proofs.YtcggeefhhegeoaaGreatDoor
namespace Ab
open Go.ChangeShapes Go.WideShapes Go.ChangeAt Go.RowKit
set_option linter.unusedVariables false
theorem Tryz.own:ownKnob Tryz.prog.godebug=none:=by kernel_rfl
theorem Tryz.laidOut:laidOutB Tryz.prog=true:=by kernel_rfl
theorem zdm2:Tryz.prog.globalNamed "clusterlocks/mode.together"=some 0:=by kernel_rfl
theorem zcX0:(Tryz.prog.globals[0]?).map (·.type)=some 306:=by kernel_rfl
theorem zcX1:Lits Tryz.prog 306:=zbZ0 (n:=5) (sz:=5) Tryz.underlying306 (by kernel_rfl) (by kernel_rfl) (zbZ0 (n:=5) (sz:=1) Tryz.underlying305 (by kernel_rfl) (by kernel_rfl) (zcW8 Tryz.underlying4))
theorem zdv7:lits (Rows.laid_clusterlocks_mode_together (H:=Unit))=some (Arr.enc (Arr.enc eB) zck7):=by rfl
theorem zco4:zbI9 Tryz.prog 3 (eI .i64) (fun n:Int=>IntKind.i64.min≤n∧n≤IntKind.i64.max):=zch9 Tryz.underlying3
theorem zdm3:zbI9 Tryz.prog 22 (eL (eI .i64)) (fun l:List Int=>l.length≤maxLen∧∀ a ∈ l,(fun n:Int=>IntKind.i64.min≤n∧n≤IntKind.i64.max) a):=zbJ0 Tryz.underlying22 (sz:=1) (by kernel_rfl) (by omega) (fun _=>rfl) zco4
theorem zcN8:zbI9 Tryz.prog 5 (eI .u8) (fun n:Int=>IntKind.u8.min≤n∧n≤IntKind.u8.max):=zch9 Tryz.underlying5
theorem zdm4:zbI9 Tryz.prog 31 (eL (eI .u8)) (fun l:List Int=>l.length≤maxLen∧∀ a ∈ l,(fun n:Int=>IntKind.u8.min≤n∧n≤IntKind.u8.max) a):=zbJ0 Tryz.underlying31 (sz:=1) (by kernel_rfl) (by omega) (fun _=>rfl) zcN8
set_option maxRecDepth 100000 in
theorem zaT5 (H:Type) (enc:TypeId×Value→H) (W:World) (base:Nat) (args:Array Value) (ds gs:List (DataW H)) (before:List MemPlace)
  (hval:∀ (j:Nat) t v,Tryz.f4.params[j]? = some t→args[j]? = some v→Value.okWide Tryz.prog W .any base t v)
  (hW:DataW.Whole enc Tryz.prog Tryz.f4.params.toList Rows.waitstateSpoilsSpec.vars false W args.toList ds gs before) (hL:laidMetH Tryz.prog Rows.waitstateSpoilsRow.laid W) :
  Calls Tryz.prog 4 args W fun e W'=>∃ v,e=.returned v∧Rows.waitstateSpoilsSpec.post enc Tryz.prog Tryz.f4 false true false false W args v W':=by
 have hW':=hW
 obtain ⟨p,q,hA0,hV,rfl,hfz,hnd⟩:=hW
 have hA:DataW.TrodAll enc Tryz.prog W 0 (fun _=>true) true Tryz.f4.params.toList args.toList ds p:=hA0
 rw [Tryz.params4] at hA hval
 obtain ⟨v0,vs0,d0,ds0,p0,q0,hargs,rfl,rfl,h0,r0⟩:=trodAll_cons hA
 obtain ⟨v1,vs1,d1,ds1,p1,q1,rfl,rfl,rfl,h1,r1⟩:=trodAll_cons r0
 obtain ⟨v2,vs2,d2,ds2,p2,q2,rfl,rfl,rfl,h2,r2⟩:=trodAll_cons r1
 obtain ⟨v3,vs3,d3,ds3,p3,q3,rfl,rfl,rfl,h3,r3⟩:=trodAll_cons r2
 obtain ⟨v4,vs4,d4,ds4,p4,q4,rfl,rfl,rfl,h4,r4⟩:=trodAll_cons r3
 obtain ⟨rfl,rfl,rfl⟩:=trodAll_nil r4
 obtain rfl:args=#[v0,v1,v2,v3,v4]:=by cases args; simp_all
 obtain ⟨rfl,rfl⟩:=trodVars_none hV
 obtain ⟨x0,o0,hv0⟩:=zbz7 (f:=fun x=>.sl (x.map (eI .i64))) zdm3 (fun _=>rfl) (zci0 Tryz.underlying22 (hval 0 22 v0 rfl rfl)) h0
 obtain ⟨x1,o1,hv1⟩:=zbz7 (f:=fun x=>.int .i64 x) zco4 (fun _=>rfl) (zco2 Tryz.underlying3 (hval 1 3 v1 rfl rfl)) h1
 obtain ⟨x2,o2,hv2⟩:=zbz7 (f:=fun x=>.int .i64 x) zco4 (fun _=>rfl) (zco2 Tryz.underlying3 (hval 2 3 v2 rfl rfl)) h2
 obtain ⟨x3,o3,hv3⟩:=zbz7 (f:=fun x=>.int .u8 x) zcN8 (fun _=>rfl) (zco2 Tryz.underlying5 (hval 3 5 v3 rfl rfl)) h3
 obtain ⟨x4,o4,hv4⟩:=zbz7 (f:=fun x=>.sl (x.map (eI .u8))) zdm4 (fun _=>rfl) (zci0 Tryz.underlying31 (hval 4 31 v4 rfl rfl)) h4
 refine zdm0 Tryz.laidOut (fun t ht=>?_) rfl (by kernel_rfl) Tryz.underlying4 hW' rfl ?_
 ·rw [Tryz.params4] at ht
  simp only [List.mem_cons,List.not_mem_nil,or_false] at ht
  rcases ht with rfl|rfl|rfl|rfl|rfl
  all_goals exact ⟨by kernel_rfl,of_decide_eq_true (by kernel_rfl)⟩
 ·have hp:=(zaT0 x0 x1 x2 x3 x4).ok true (zbk8 x0 x1 x2 x3 x4 o0 o1 o2 o3 o4) W (fun _=>False) [v0,v1,v2,v3,v4] (zco3 zdm2 zcX0 zcX1 zdv7 hL) (fun b h=>h.elim) rfl (fun i v a hv ha=>?_)
  ·exact hp.mono fun e w' ⟨v,he,hk,hr⟩=>⟨v,he,hk,hr.bool⟩
  ·match i,hv,ha with
   | 0,hv,ha=>cases hv; cases ha; exact hv0
   | 1,hv,ha=>cases hv; cases ha; exact hv1
   | 2,hv,ha=>cases hv; cases ha; exact hv2
   | 3,hv,ha=>cases hv; cases ha; exact hv3
   | 4,hv,ha=>cases hv; cases ha; exact hv4
   | i+5,hv,ha=>simp at hv
noncomputable def zak6 (os:Os):World :=
 { World.holding Tryz.prog os ⟨#[],#[],[]⟩ with heap:=(World.holding Tryz.prog os ⟨#[],#[],[]⟩).heap.modify 0 fun
   | .cells _ t frozen=>.cells #[.bool true,.bool true,.bool true,.bool true,.bool false,.bool true,.bool true,.bool false,.bool false,.bool false,.bool true,.bool false,.bool true,.bool false,.bool false,.bool true,.bool false,.bool false,.bool false,.bool false,.bool false,.bool false,.bool false,.bool false,.bool false] t frozen
   | o=>o }
theorem zbo4 (os:Os):laidMet Tryz.prog Rows.waitstateSpoilsRow.laid ((zak6 os).forCall (fun _ _=>0) ⟨#[],#[.slice none 0 0,.int .i64 0,.int .i64 0,.int .u8 0,.slice none 0 0],[]⟩).memory:=laidMet_of_run' 8 (by kernel_rfl) (by kernel_rfl)
theorem zbf5 (os:Os) {H:Type} (enc:TypeId×Value→H):∃ x,DataW.whole enc Tryz.prog ((zak6 os).forCall (fun _ _=>0) ⟨#[],#[.slice none 0 0,.int .i64 0,.int .i64 0,.int .u8 0,.slice none 0 0],[]⟩).memory Tryz.f4.params.toList Rows.waitstateSpoilsSpec.vars false (#[.slice none 0 0,.int .i64 0,.int .i64 0,.int .u8 0,.slice none 0 0]:Array Value).toList 8=some x:=Option.isSome_iff_exists.1 (by kernel_rfl)
set_option maxRecDepth 100000 in
theorem zbc0 (os:Os) (started:os.Started) (H:Type) (enc:TypeId×Value→H) (F:Stop.Interp) :
  ReturnsInHanded {} Tryz.checked os 4 .any ((OpenSpec.ofChange Rows.waitstateSpoilsSpec).preRow enc Tryz.prog Tryz.f4 Rows.waitstateSpoilsRow.domain false Rows.waitstateSpoilsRow.laid) (((OpenSpec.ofChange Rows.waitstateSpoilsSpec).at F).post enc Tryz.prog Tryz.f4 false true false false):=by
 obtain ⟨x,hx⟩:=zbf5 os enc
 refine returnsInHanded_of_row (C:=Tryz.checked) (s:=OpenSpec.ofChange Rows.waitstateSpoilsSpec) Tryz.own started (by kernel_rfl) Tryz.func4
  (witness_row_at (enc:=enc) (C:=Tryz.checked) false (zak6 os) #[.slice none 0 0,.int .i64 0,.int .i64 0,.int .u8 0,.slice none 0 0] rfl (by kernel_rfl) (by kernel_rfl) (by kernel_rfl)
   (OpenSpec.preRow_of_cond 8 hx (by kernel_rfl) (fun k hk=>by cases hk) (by kernel_rfl) (zbo4 os))) ?_
 intro W base args ds gs before hval hW _ _ _ hL _ _
 exact zaT5 H enc W base args ds gs before hval hW hL
set_option maxHeartbeats 8000000 in
theorem zbk9:Rows.WaitstateSpoilsSaid :=
 OpenClaim.holds_of_cond 4 Tryz.f4 rfl rfl rfl rfl rfl rfl rfl ⟨rfl,rfl,rfl,rfl,rfl⟩ rfl rfl rfl rfl rfl (by as_aux_lemma=>kernel_rfl) Tryz.func4 (by
   simp only [joinedFacts,Bool.and_eq_true]
   (repeat' apply And.intro)
   all_goals first|with_reducible exact zbZ3|(rw [zbF1]; kernel_rfl)|(rw [zcI4]; kernel_rfl)|(as_aux_lemma=>kernel_rfl))
  (of_decide_eq_true (by kernel_rfl)) (by unfold Func.isWrapper; first|(rw [if_pos (by decide +kernel)]; kernel_rfl)|(rw [if_neg (by decide +kernel)]; exact ⟨rfl,rfl⟩))
  (fun os started H enc _ F=>by rw [OpenClaim.pre_eq_preRow]; exact zbc0 os started H enc F)
theorem zbf6 (f:FuncId) (fn:Func) (hf:Tryz.pinned.checked.prog.funcNamed "clusterlocks/clusterlockslaw16.WaitstateSpoils"=some f) (hfn:Tryz.pinned.checked.prog.funcs[f]? = some fn) :
  false=Tryz.pinned.checked.prog.looks []∧∀ (j:Nat) t,fn.params[j]? = some t→Tryz.pinned.checked.prog.wantsStandIn t=false:=by
 obtain rfl:f=4:=Option.some.inj ((show Tryz.prog.funcNamed "clusterlocks/clusterlockslaw16.WaitstateSpoils"=some 4 by kernel_rfl).symm.trans hf) |>.symm
 obtain rfl:fn=Tryz.f4:=(Option.some.inj (Tryz.func4.symm.trans hfn)).symm
 refine ⟨by kernel_rfl,fun j t ht=>?_⟩
 rw [Tryz.params4] at ht
 have hm:=Array.mem_of_getElem? ht
 simp at hm
 rcases hm with rfl|rfl|rfl|rfl|rfl
 all_goals first|with_reducible exact (show Tryz.pinned.checked.prog.wantsStandIn 3=false by kernel_rfl)|with_reducible exact (show Tryz.pinned.checked.prog.wantsStandIn 5=false by kernel_rfl)|with_reducible exact (show Tryz.pinned.checked.prog.wantsStandIn 22=false by kernel_rfl)|with_reducible exact (show Tryz.pinned.checked.prog.wantsStandIn 31=false by kernel_rfl)
theorem WaitstateSpoils_holds:Rows.WaitstateSpoilsCardSaid :=
 Claim7.holds_tied_plain_at .later [] _ _ _ _ zbk9 (fun _ h=>by cases h) (by as_aux_lemma=>kernel_rfl) (fun _ h=>by cases h) waitstateSpoils_row_tie rfl ⟨rfl,rfl⟩ (head_mainIs'.trans (by kernel_rfl)) rfl zbf6 (by as_aux_lemma=>kernel_rfl)
end Ab
end Go.Proofs.YtcggeefhhegeoaaGreatDoor
