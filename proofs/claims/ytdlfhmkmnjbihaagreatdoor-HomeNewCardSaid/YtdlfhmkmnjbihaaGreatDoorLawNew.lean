/-
  HomeNew returns true for every input (what New and Valid return, for arbitrary catalogs and homes); no condition.
-/
import Derived.Test.YtdlfhmkmnjbihaaGreatDoorHkD
import Derived.Test.YtdlfhmkmnjbihaaGreatDoorDoor
import Derived.Test.YtdlfhmkmnjbihaaGreatDoorCards
import Derived.Test.YtdlfhmkmnjbihaaGreatDoorTie
import Derived.Test.YtdlfhmkmnjbihaaGreatDoorHead
import Derived.Deep.DeepHandedRow
/-
  HomeNew:the statement.
-/
namespace Go.Proofs.YtdlfhmkmnjbihaaGreatDoor
namespace Ab
open Go.ChangeShapes Go.WideShapes Go.ChangeAt Go.RowKit
set_option linter.unusedVariables false
theorem Tryz.own:ownKnob Tryz.prog.godebug=none:=by kernel_rfl
theorem Tryz.laidOut:laidOutB Tryz.prog=true:=by kernel_rfl
theorem tab0_num:Tryz.prog.globalNamed "clusterlocks/message.fields"=some 0:=by kernel_rfl
theorem tab0_type:(Tryz.prog.globals[0]?).map (·.type)=some 172:=by kernel_rfl
theorem tab0_lits:Lits Tryz.prog 172:=zM8 (n:=16) (sz:=1) Tryz.underlying172 (by kernel_rfl) (by kernel_rfl) (zaJ0 Tryz.underlying9)
theorem tab0_is:lits (Rows.laid_clusterlocks_message_fields (H:=Unit))=some (Arr.enc eS zu2):=by rfl
theorem tab1_num:Tryz.prog.globalNamed "clusterlocks/mode.together"=some 1:=by kernel_rfl
theorem tab1_type:(Tryz.prog.globals[1]?).map (·.type)=some 273:=by kernel_rfl
theorem tab1_lits:Lits Tryz.prog 273:=zM8 (n:=5) (sz:=5) Tryz.underlying273 (by kernel_rfl) (by kernel_rfl) (zM8 (n:=5) (sz:=1) Tryz.underlying272 (by kernel_rfl) (by kernel_rfl) (zbg3 Tryz.underlying4))
theorem tab1_is:lits (Rows.laid_clusterlocks_mode_together (H:=Unit))=some (Arr.enc (Arr.enc eB) zbl4):=by rfl
theorem zcJ6:zU8 Tryz.prog 9 eS (λ s:ByteArray=>s.size<=maxLen):=zcQ8 Tryz.underlying9
theorem reads_3:zU8 Tryz.prog 3 (eI .i64) (λ n:Int=>IntKind.i64.min<=n/\n<=IntKind.i64.max):=zaP9 Tryz.underlying3
def zbd0(x:aD):Prop:=(λ s:ByteArray=>s.size<=maxLen) x.name/\(λ n:Int=>IntKind.i64.min<=n/\n<=IntKind.i64.max) x.kind/\(λ n:Int=>IntKind.i64.min<=n/\n<=IntKind.i64.max) x.aU/\(λ n:Int=>IntKind.i64.min<=n/\n<=IntKind.i64.max) x.home
theorem zcv0:zU8 Tryz.prog 62 aD.enc zbd0:=by
 intro H enc w base spare held fuel cs x h;obtain⟨xs,n,_,_,hlen,hxl,hf⟩:=DataW.trod_struct Tryz.underlying62 h;have hlen:cs.length=4:=hlen.trans (by kernel_rfl);obtain⟨a0,o0,r0⟩:=fld (sz:=1) hf hxl 0 _ rfl (by kernel_rfl) zcJ6;obtain⟨a1,o1,r1⟩:=fld (sz:=1) hf hxl 1 _ rfl (by kernel_rfl) reads_3;obtain⟨a2,o2,r2⟩:=fld (sz:=1) hf hxl 2 _ rfl (by kernel_rfl) reads_3;obtain⟨a3,o3,r3⟩:=fld (sz:=1) hf hxl 3 _ rfl (by kernel_rfl) reads_3;refine⟨⟨a0,a1,a2,a3⟩,⟨o0,o1,o2,o3⟩,?_⟩;have e:cs=(cs.drop 0).take 1++(cs.drop 1).take 1++(cs.drop 2).take 1++(cs.drop 3).take 1:=by
  rcases cs with _|⟨_,_|⟨_,_|⟨_,_|⟨_,_|⟨_,_⟩⟩⟩⟩⟩
  all_goals first|rfl|(simp at hlen)
 rw[e];exact RCs.append r3 (RCs.append r2 (RCs.append r1 (r0)))
theorem zdf7:zU8 Tryz.prog 22 (eL aD.enc) (λ l:List aD=>l.length<=maxLen/\∀a∈l,zbd0 a):=zX8 Tryz.underlying22 (sz:=4) (by kernel_rfl) (by omega) (aD.len) zcv0
def zbI4(x:aF):Prop:=(λ n:Int=>IntKind.i64.min<=n/\n<=IntKind.i64.max) x.site/\(λ n:Int=>IntKind.i64.min<=n/\n<=IntKind.i64.max) x.inc/\(λ n:Int=>IntKind.i64.min<=n/\n<=IntKind.i64.max) x.num
theorem zbV0:zU8 Tryz.prog 35 aF.enc zbI4:=by
 intro H enc w base spare held fuel cs x h;obtain⟨xs,n,_,_,hlen,hxl,hf⟩:=DataW.trod_struct Tryz.underlying35 h;have hlen:cs.length=3:=hlen.trans (by kernel_rfl);obtain⟨a0,o0,r0⟩:=fld (sz:=1) hf hxl 0 _ rfl (by kernel_rfl) reads_3;obtain⟨a1,o1,r1⟩:=fld (sz:=1) hf hxl 1 _ rfl (by kernel_rfl) reads_3;obtain⟨a2,o2,r2⟩:=fld (sz:=1) hf hxl 2 _ rfl (by kernel_rfl) reads_3;refine⟨⟨a0,a1,a2⟩,⟨o0,o1,o2⟩,?_⟩;have e:cs=(cs.drop 0).take 1++(cs.drop 1).take 1++(cs.drop 2).take 1:=by
  rcases cs with _|⟨_,_|⟨_,_|⟨_,_|⟨_,_⟩⟩⟩⟩
  all_goals first|rfl|(simp at hlen)
 rw[e];exact RCs.append r2 (RCs.append r1 (r0))
def zby5(x:aC):Prop:=(λ n:Int=>IntKind.i64.min<=n/\n<=IntKind.i64.max) x.mode/\(λ n:Int=>IntKind.i64.min<=n/\n<=IntKind.i64.max) x.aU
theorem zcv1:zU8 Tryz.prog 37 aC.enc zby5:=by
 intro H enc w base spare held fuel cs x h;obtain⟨xs,n,_,_,hlen,hxl,hf⟩:=DataW.trod_struct Tryz.underlying37 h;have hlen:cs.length=2:=hlen.trans (by kernel_rfl);obtain⟨a0,o0,r0⟩:=fld (sz:=1) hf hxl 0 _ rfl (by kernel_rfl) reads_3;obtain⟨a1,o1,r1⟩:=fld (sz:=1) hf hxl 1 _ rfl (by kernel_rfl) reads_3;refine⟨⟨a0,a1⟩,⟨o0,o1⟩,?_⟩;have e:cs=(cs.drop 0).take 1++(cs.drop 1).take 1:=by
  rcases cs with _|⟨_,_|⟨_,_|⟨_,_⟩⟩⟩
  all_goals first|rfl|(simp at hlen)
 rw[e];exact RCs.append r1 (r0)
def zck4(x:aO):Prop:=zbI4 x.aI/\zby5 x.aK
theorem zcR1:zU8 Tryz.prog 161 aO.enc zck4:=by
 intro H enc w base spare held fuel cs x h;obtain⟨xs,n,_,_,hlen,hxl,hf⟩:=DataW.trod_struct Tryz.underlying161 h;have hlen:cs.length=5:=hlen.trans (by kernel_rfl);obtain⟨a0,o0,r0⟩:=fld (sz:=3) hf hxl 0 _ rfl (by kernel_rfl) zbV0;obtain⟨a1,o1,r1⟩:=fld (sz:=2) hf hxl 1 _ rfl (by kernel_rfl) zcv1;refine⟨⟨a0,a1⟩,⟨o0,o1⟩,?_⟩;have e:cs=(cs.drop 0).take 3++(cs.drop 3).take 2:=by
  rcases cs with _|⟨_,_|⟨_,_|⟨_,_|⟨_,_|⟨_,_|⟨_,_⟩⟩⟩⟩⟩⟩
  all_goals first|rfl|(simp at hlen)
 rw[e];exact RCs.append r1 (r0)
theorem zdf8:zU8 Tryz.prog 63 (eL aO.enc) (λ l:List aO=>l.length<=maxLen/\∀a∈l,zck4 a):=zX8 Tryz.underlying63 (sz:=5) (by kernel_rfl) (by omega) (aO.len) zcR1
def zbI5(x:aM):Prop:=zbI4 x.aI/\zby5 x.aK/\(λ n:Int=>IntKind.i64.min<=n/\n<=IntKind.i64.max) x.aV/\(λ n:Int=>IntKind.i64.min<=n/\n<=IntKind.i64.max) x.bE
theorem zcR2:zU8 Tryz.prog 125 aM.enc zbI5:=by
 intro H enc w base spare held fuel cs x h;obtain⟨xs,n,_,_,hlen,hxl,hf⟩:=DataW.trod_struct Tryz.underlying125 h;have hlen:cs.length=7:=hlen.trans (by kernel_rfl);obtain⟨a0,o0,r0⟩:=fld (sz:=3) hf hxl 0 _ rfl (by kernel_rfl) zbV0;obtain⟨a1,o1,r1⟩:=fld (sz:=2) hf hxl 1 _ rfl (by kernel_rfl) zcv1;obtain⟨a2,o2,r2⟩:=fld (sz:=1) hf hxl 2 _ rfl (by kernel_rfl) reads_3;obtain⟨a3,o3,r3⟩:=fld (sz:=1) hf hxl 3 _ rfl (by kernel_rfl) reads_3;refine⟨⟨a0,a1,a2,a3⟩,⟨o0,o1,o2,o3⟩,?_⟩;have e:cs=(cs.drop 0).take 3++(cs.drop 3).take 2++(cs.drop 5).take 1++(cs.drop 6).take 1:=by
  rcases cs with _|⟨_,_|⟨_,_|⟨_,_|⟨_,_|⟨_,_|⟨_,_|⟨_,_|⟨_,_⟩⟩⟩⟩⟩⟩⟩⟩
  all_goals first|rfl|(simp at hlen)
 rw[e];exact RCs.append r3 (RCs.append r2 (RCs.append r1 (r0)))
theorem zcv2:zU8 Tryz.prog 64 (eL aM.enc) (λ l:List aM=>l.length<=maxLen/\∀a∈l,zbI5 a):=zX8 Tryz.underlying64 (sz:=7) (by kernel_rfl) (by omega) (aM.len) zcR2
def zbV1(x:aA):Prop:=zbd0 x.aB/\(λ l:List aO=>l.length<=maxLen/\∀a∈l,zck4 a) x.aL/\(λ l:List aM=>l.length<=maxLen/\∀a∈l,zbI5 a) x.aH/\(λ l:List aM=>l.length<=maxLen/\∀a∈l,zbI5 a) x.aT/\(λ n:Int=>IntKind.i64.min<=n/\n<=IntKind.i64.max) x.gen
theorem zdf9:zU8 Tryz.prog 66 aA.enc zbV1:=by
 intro H enc w base spare held fuel cs x h;obtain⟨xs,n,_,_,hlen,hxl,hf⟩:=DataW.trod_struct Tryz.underlying66 h;have hlen:cs.length=8:=hlen.trans (by kernel_rfl);obtain⟨a0,o0,r0⟩:=fld (sz:=4) hf hxl 0 _ rfl (by kernel_rfl) zcv0;obtain⟨a1,o1,r1⟩:=fld (sz:=1) hf hxl 1 _ rfl (by kernel_rfl) zdf8;obtain⟨a2,o2,r2⟩:=fld (sz:=1) hf hxl 2 _ rfl (by kernel_rfl) zcv2;obtain⟨a3,o3,r3⟩:=fld (sz:=1) hf hxl 3 _ rfl (by kernel_rfl) zcv2;obtain⟨a4,o4,r4⟩:=fld (sz:=1) hf hxl 4 _ rfl (by kernel_rfl) reads_3;refine⟨⟨a0,a1,a2,a3,a4⟩,⟨o0,o1,o2,o3,o4⟩,?_⟩;have e:cs=(cs.drop 0).take 4++(cs.drop 4).take 1++(cs.drop 5).take 1++(cs.drop 6).take 1++(cs.drop 7).take 1:=by
  rcases cs with _|⟨_,_|⟨_,_|⟨_,_|⟨_,_|⟨_,_|⟨_,_|⟨_,_|⟨_,_|⟨_,_⟩⟩⟩⟩⟩⟩⟩⟩⟩
  all_goals first|rfl|(simp at hlen)
 rw[e];exact RCs.append r4 (RCs.append r3 (RCs.append r2 (RCs.append r1 (r0))))
theorem zdg0:zU8 Tryz.prog 23 (eL aA.enc) (λ l:List aA=>l.length<=maxLen/\∀a∈l,zbV1 a):=zX8 Tryz.underlying23 (sz:=8) (by kernel_rfl) (by omega) (aA.len) zdf9
def zcD8(x:bA):Prop:=zbI4 x.aI/\(λ s:ByteArray=>s.size<=maxLen) x.name/\(λ n:Int=>IntKind.i64.min<=n/\n<=IntKind.i64.max) x.gen
theorem zdg1:zU8 Tryz.prog 92 bA.enc zcD8:=by
 intro H enc w base spare held fuel cs x h;obtain⟨xs,n,_,_,hlen,hxl,hf⟩:=DataW.trod_struct Tryz.underlying92 h;have hlen:cs.length=5:=hlen.trans (by kernel_rfl);obtain⟨a0,o0,r0⟩:=fld (sz:=3) hf hxl 0 _ rfl (by kernel_rfl) zbV0;obtain⟨a1,o1,r1⟩:=fld (sz:=1) hf hxl 1 _ rfl (by kernel_rfl) zcJ6;obtain⟨a2,o2,r2⟩:=fld (sz:=1) hf hxl 2 _ rfl (by kernel_rfl) reads_3;refine⟨⟨a0,a1,a2⟩,⟨o0,o1,o2⟩,?_⟩;have e:cs=(cs.drop 0).take 3++(cs.drop 3).take 1++(cs.drop 4).take 1:=by
  rcases cs with _|⟨_,_|⟨_,_|⟨_,_|⟨_,_|⟨_,_|⟨_,_⟩⟩⟩⟩⟩⟩
  all_goals first|rfl|(simp at hlen)
 rw[e];exact RCs.append r2 (RCs.append r1 (r0))
theorem zdg2:zU8 Tryz.prog 24 (eL bA.enc) (λ l:List bA=>l.length<=maxLen/\∀a∈l,zcD8 a):=zX8 Tryz.underlying24 (sz:=5) (by kernel_rfl) (by omega) (bA.len) zdg1
def zdq1(x:aX):Prop:=(λ l:List aA=>l.length<=maxLen/\∀a∈l,zbV1 a) x.aG/\(λ l:List bA=>l.length<=maxLen/\∀a∈l,zcD8 a) x.tags
theorem zdg3:zU8 Tryz.prog 26 aX.enc zdq1:=by
 intro H enc w base spare held fuel cs x h;obtain⟨xs,n,_,_,hlen,hxl,hf⟩:=DataW.trod_struct Tryz.underlying26 h;have hlen:cs.length=2:=hlen.trans (by kernel_rfl);obtain⟨a0,o0,r0⟩:=fld (sz:=1) hf hxl 0 _ rfl (by kernel_rfl) zdg0;obtain⟨a1,o1,r1⟩:=fld (sz:=1) hf hxl 1 _ rfl (by kernel_rfl) zdg2;refine⟨⟨a0,a1⟩,⟨o0,o1⟩,?_⟩;have e:cs=(cs.drop 0).take 1++(cs.drop 1).take 1:=by
  rcases cs with _|⟨_,_|⟨_,_|⟨_,_⟩⟩⟩
  all_goals first|rfl|(simp at hlen)
 rw[e];exact RCs.append r1 (r0)
set_option maxRecDepth 100000 in
theorem zby6(H:Type)(enc:TypeId×Value->H)(W:World)(base:Nat)(args:Array Value)(ds gs:List (DataW H))(before:List MemPlace)
  (hval:∀(j:Nat) t v,Tryz.f3.params[j]? =some t->args[j]? =some v->Value.okWide Tryz.prog W .any base t v)
  (hW:DataW.Whole enc Tryz.prog Tryz.f3.params.toList Rows.homeNewSpec.vars false W args.toList ds gs before) (hL:laidMetH Tryz.prog Rows.homeNewRow.laid W):
  Calls Tryz.prog 3 args W λ e W'=>∃v,e=.returned v/\Rows.homeNewSpec.post enc Tryz.prog Tryz.f3 false true false false W args v W':=by
 have hW':=hW;obtain⟨p,q,hA0,hV,rfl,hfz,hnd⟩:=hW;have hA:DataW.TrodAll enc Tryz.prog W 0 (λ _=>true) true Tryz.f3.params.toList args.toList ds p:=hA0;rw[Tryz.params3]at hA hval;obtain⟨v0,vs0,d0,ds0,p0,q0,hargs,rfl,rfl,h0,r0⟩:=trodAll_cons hA;obtain⟨v1,vs1,d1,ds1,p1,q1,rfl,rfl,rfl,h1,r1⟩:=trodAll_cons r0;obtain⟨v2,vs2,d2,ds2,p2,q2,rfl,rfl,rfl,h2,r2⟩:=trodAll_cons r1;obtain⟨rfl,rfl,rfl⟩:=trodAll_nil r2;obtain rfl:args=#[v0,v1,v2]:=by cases args;simp_all
 obtain⟨rfl,rfl⟩:=trodVars_none hV;obtain⟨x0,o0,hv0⟩:=zaT7 (f:=λ x=>.sl (x.map aD.enc)) zdf7 (λ _=>rfl) (zbg2 Tryz.underlying22 (hval 0 22 v0 rfl rfl)) h0;obtain⟨x1,o1,hv1⟩:=zaT7 (f:=λ x=>.int .i64 x) reads_3 (λ _=>rfl) (zck3 Tryz.underlying3 (hval 1 3 v1 rfl rfl)) h1;obtain⟨x2,o2,hv2⟩:=zdq0 zdg3 Tryz.underlying26 (hval 2 26 v2 rfl rfl) h2;refine zbs8 Tryz.laidOut (λ t ht=>?_) rfl (by kernel_rfl) Tryz.underlying4 hW' rfl ?_
 .rw[Tryz.params3]at ht;simp only[List.mem_cons,List.not_mem_nil,or_false]at ht;rcases ht with rfl|rfl|rfl
  all_goals exact⟨by kernel_rfl,of_decide_eq_true (by kernel_rfl)⟩
 .have hp:=(zbv7 x0 x1 x2).ok true (zck1 x0 x1 x2) W (λ _=>False) [v0,v1,v2] (zaJ1 tab1_num tab1_type tab1_lits tab1_is tab0_num tab0_type tab0_lits tab0_is hL) (λ b h=>h.elim) rfl (λ i v a hv ha=>?_)
  .exact hp.mono λ e w' ⟨v,he,hk,hr⟩=>⟨v,he,hk,hr.bool⟩
  .match i,hv,ha with
   |0,hv,ha=>cases hv;cases ha;exact hv0
   |1,hv,ha=>cases hv;cases ha;exact hv1
   |2,hv,ha=>cases hv;cases ha;exact hv2
   |i+3,hv,ha=>simp at hv
noncomputable def zaL1(os:Os):World:=
 {World.holding Tryz.prog os ⟨#[],#[],[]⟩with heap:=(Array.modify (Array.modify (World.holding Tryz.prog os ⟨#[],#[],[]⟩).heap 1 (λ|.cells _ t frozen=>.cells #[.bool true,.bool true,.bool true,.bool true,.bool false,.bool true,.bool true,.bool false,.bool false,.bool false,.bool true,.bool false,.bool true,.bool false,.bool false,.bool true,.bool false,.bool false,.bool false,.bool false,.bool false,.bool false,.bool false,.bool false,.bool false] t frozen|o=>o)) 0 (λ|.cells _ t frozen=>.cells #[.string ⟨#[]⟩,.string ⟨#[80,71,65,89]⟩,.string ⟨#[80,71,97]⟩,.string ⟨#[80,71,97,68]⟩,.string ⟨#[80,71,65]⟩,.string ⟨#[83,73]⟩,.string ⟨#[82]⟩,.string ⟨#[82,78,79]⟩,.string ⟨#[82]⟩,.string ⟨#[82,76]⟩,.string ⟨#[82,69,80,71,66]⟩,.string ⟨#[82,80,68]⟩,.string ⟨#[69,83]⟩,.string ⟨#[69]⟩,.string ⟨#[69]⟩,.string ⟨#[69]⟩] t frozen|o=>o))}
theorem zcv3(os:Os):laidMet Tryz.prog Rows.homeNewRow.laid ((zaL1 os).forCall (λ _ _=>0) ⟨#[],#[.slice none 0 0,.int .i64 0,.agg #[.slice none 0 0,.slice none 0 0]],[]⟩).memory:=laidMet_of_run' 8 (by kernel_rfl) (by kernel_rfl)
theorem zbZ2(os:Os){H:Type}(enc:TypeId×Value->H):∃x,DataW.whole enc Tryz.prog ((zaL1 os).forCall (λ _ _=>0) ⟨#[],#[.slice none 0 0,.int .i64 0,.agg #[.slice none 0 0,.slice none 0 0]],[]⟩).memory Tryz.f3.params.toList Rows.homeNewSpec.vars false (#[.slice none 0 0,.int .i64 0,.agg #[.slice none 0 0,.slice none 0 0]]:Array Value).toList 8=some x:=Option.isSome_iff_exists.1 (by kernel_rfl)
set_option maxRecDepth 100000 in
theorem zbV2(os:Os)(started:os.Started)(H:Type)(enc:TypeId×Value->H)(F:Stop.Interp):
  ReturnsInHanded {} Tryz.checked os 3 .any ((OpenSpec.ofChange Rows.homeNewSpec).preRow enc Tryz.prog Tryz.f3 Rows.homeNewRow.domain false Rows.homeNewRow.laid) (((OpenSpec.ofChange Rows.homeNewSpec).at F).post enc Tryz.prog Tryz.f3 false true false false):=by
 obtain⟨x,hx⟩:=zbZ2 os enc;refine returnsInHanded_of_row (C:=Tryz.checked) (s:=OpenSpec.ofChange Rows.homeNewSpec) Tryz.own started (by kernel_rfl) Tryz.func3
  (witness_row_at (enc:=enc) (C:=Tryz.checked) false (zaL1 os) #[.slice none 0 0,.int .i64 0,.agg #[.slice none 0 0,.slice none 0 0]] rfl (by kernel_rfl) (by kernel_rfl) (by kernel_rfl)
   (OpenSpec.preRow_of_cond 8 hx (by kernel_rfl) (λ k hk=>by cases hk) (by kernel_rfl) (zcv3 os))) ?_
 intro W base args ds gs before hval hW _ _ _ hL _ _;exact zby6 H enc W base args ds gs before hval hW hL
set_option maxHeartbeats 8000000 in
theorem zck5:Rows.HomeNewSaid:=
 OpenClaim.holds_of_cond 3 Tryz.f3 rfl rfl rfl rfl rfl rfl rfl ⟨rfl,rfl,rfl,rfl,rfl⟩ rfl rfl rfl rfl rfl (by as_aux_lemma=>kernel_rfl) Tryz.func3 (by
   simp only[joinedFacts,Bool.and_eq_true]
   (repeat' apply And.intro)
   all_goals first|with_reducible exact zar4|(rw[zai1];kernel_rfl)|(rw[zaT8];kernel_rfl)|(as_aux_lemma=>kernel_rfl))
  (of_decide_eq_true (by kernel_rfl)) (by unfold Func.isWrapper;first|(rw[if_pos (by decide+kernel)];kernel_rfl)|(rw[if_neg (by decide+kernel)];exact⟨rfl,rfl⟩))
  (λ os started H enc _ F=>by rw[OpenClaim.pre_eq_preRow];exact zbV2 os started H enc F)
theorem zbZ3(f:FuncId)(fn:Func)(hf:Tryz.pinned.checked.prog.funcNamed "clusterlocks/clusterlockslaw32.HomeNew"=some f)(hfn:Tryz.pinned.checked.prog.funcs[f]? =some fn):
  false=Tryz.pinned.checked.prog.looks []/\∀(j:Nat) t,fn.params[j]? =some t->Tryz.pinned.checked.prog.wantsStandIn t=false:=by
 obtain rfl:f=3:=Option.some.inj ((show Tryz.prog.funcNamed "clusterlocks/clusterlockslaw32.HomeNew"=some 3 by kernel_rfl).symm.trans hf)|>.symm;obtain rfl:fn=Tryz.f3:=(Option.some.inj (Tryz.func3.symm.trans hfn)).symm;refine⟨by kernel_rfl,λ j t ht=>?_⟩;rw[Tryz.params3]at ht;have hm:=Array.mem_of_getElem? ht;simp at hm;rcases hm with rfl|rfl|rfl
 all_goals first|with_reducible exact(show Tryz.pinned.checked.prog.wantsStandIn 3=false by kernel_rfl)|with_reducible exact(show Tryz.pinned.checked.prog.wantsStandIn 22=false by kernel_rfl)|with_reducible exact(show Tryz.pinned.checked.prog.wantsStandIn 26=false by kernel_rfl)
theorem HomeNew_holds:Rows.HomeNewCardSaid:=
 Claim7.holds_tied_plain_at .later [] _ _ _ _ zck5 (λ _ h=>by cases h) (by as_aux_lemma=>kernel_rfl) (λ _ h=>by cases h) homeNew_row_tie rfl ⟨rfl,rfl⟩ (zaC0.trans (by kernel_rfl)) rfl zbZ3 (by as_aux_lemma=>kernel_rfl)
end Ab
end Go.Proofs.YtdlfhmkmnjbihaaGreatDoor
