/-
  A state's bytes are what the document says,and are read back; no condition.
-/
import Derived.Test.YtebopmkhhppfaaaGreatDoorWsP
import Derived.Test.YtebopmkhhppfaaaGreatDoorDoor
import Derived.Test.YtebopmkhhppfaaaGreatDoorCards
import Derived.Test.YtebopmkhhppfaaaGreatDoorTie
import Derived.Test.YtebopmkhhppfaaaGreatDoorHead
import Derived.Deep.DeepHandedRow
namespace Go.Proofs.YtebopmkhhppfaaaGreatDoor
namespace Ab
open Go.ChangeShapes Go.WideShapes Go.ChangeAt Go.RowKit
set_option linter.unusedVariables false
theorem Tryz.own:ownKnob Tryz.prog.godebug=none:=by kernel_rfl
theorem Tryz.laidOut:laidOutB Tryz.prog=true:=by kernel_rfl
theorem tab0_num:Tryz.prog.globalNamed "clusterlocks/mode.together"=some 0:=by kernel_rfl
theorem tab0_type:(Tryz.prog.globals[0]?).map (·.type)=some 198:=by kernel_rfl
theorem tab0_lits:Lits Tryz.prog 198:=zaB7 (n:=5) (sz:=5) Tryz.underlying198 (by kernel_rfl) (by kernel_rfl) (zaB7 (n:=5) (sz:=1) Tryz.underlying197 (by kernel_rfl) (by kernel_rfl) (zbw2 Tryz.underlying4))
theorem tab0_is:lits (Rows.laid_clusterlocks_mode_together (H:=Unit))=some (Arr.enc (Arr.enc eB) zbh9):=by rfl
theorem zbO7:zS5 Tryz.prog 9 eS (fun s:ByteArray=>s.size≤maxLen):=zbT3 Tryz.underlying9
theorem zab3:zS5 Tryz.prog 3 (eI .i64) (fun n:Int=>IntKind.i64.min≤n∧n≤IntKind.i64.max):=zbw1 Tryz.underlying3
def zbb0 (x:Resource):Prop:=(fun s:ByteArray=>s.size≤maxLen) x.name∧(fun n:Int=>IntKind.i64.min≤n∧n≤IntKind.i64.max) x.kind∧(fun n:Int=>IntKind.i64.min≤n∧n≤IntKind.i64.max) x.units∧(fun n:Int=>IntKind.i64.min≤n∧n≤IntKind.i64.max) x.home
theorem zcw2:zS5 Tryz.prog 44 Resource.enc zbb0:=by
 intro H enc w base spare held fuel cs x h
 obtain ⟨xs,n,_,_,hlen,hxl,hf⟩:=DataW.trod_struct Tryz.underlying44 h
 have hlen:cs.length=4:=hlen.trans (by kernel_rfl)
 obtain ⟨a0,o0,r0⟩:=fld (sz:=1) hf hxl 0 _ rfl (by kernel_rfl) zbO7
 obtain ⟨a1,o1,r1⟩:=fld (sz:=1) hf hxl 1 _ rfl (by kernel_rfl) zab3
 obtain ⟨a2,o2,r2⟩:=fld (sz:=1) hf hxl 2 _ rfl (by kernel_rfl) zab3
 obtain ⟨a3,o3,r3⟩:=fld (sz:=1) hf hxl 3 _ rfl (by kernel_rfl) zab3
 refine ⟨⟨a0,a1,a2,a3⟩,⟨o0,o1,o2,o3⟩,?_⟩
 have e:cs=(cs.drop 0).take 1++(cs.drop 1).take 1++(cs.drop 2).take 1++(cs.drop 3).take 1:=by
  rcases cs with _|⟨_,_|⟨_,_|⟨_,_|⟨_,_|⟨_,_⟩⟩⟩⟩⟩
  all_goals first|rfl|(simp at hlen)
 rw [e]
 exact RCs.append r3 (RCs.append r2 (RCs.append r1 (r0)))
def zbd9 (x:Proc):Prop:=(fun n:Int=>IntKind.i64.min≤n∧n≤IntKind.i64.max) x.site∧(fun n:Int=>IntKind.i64.min≤n∧n≤IntKind.i64.max) x.inc∧(fun n:Int=>IntKind.i64.min≤n∧n≤IntKind.i64.max) x.num
theorem zbo7:zS5 Tryz.prog 51 Proc.enc zbd9:=by
 intro H enc w base spare held fuel cs x h
 obtain ⟨xs,n,_,_,hlen,hxl,hf⟩:=DataW.trod_struct Tryz.underlying51 h
 have hlen:cs.length=3:=hlen.trans (by kernel_rfl)
 obtain ⟨a0,o0,r0⟩:=fld (sz:=1) hf hxl 0 _ rfl (by kernel_rfl) zab3
 obtain ⟨a1,o1,r1⟩:=fld (sz:=1) hf hxl 1 _ rfl (by kernel_rfl) zab3
 obtain ⟨a2,o2,r2⟩:=fld (sz:=1) hf hxl 2 _ rfl (by kernel_rfl) zab3
 refine ⟨⟨a0,a1,a2⟩,⟨o0,o1,o2⟩,?_⟩
 have e:cs=(cs.drop 0).take 1++(cs.drop 1).take 1++(cs.drop 2).take 1:=by
  rcases cs with _|⟨_,_|⟨_,_|⟨_,_|⟨_,_⟩⟩⟩⟩
  all_goals first|rfl|(simp at hlen)
 rw [e]
 exact RCs.append r2 (RCs.append r1 (r0))
def zaK1 (x:Amount):Prop:=(fun n:Int=>IntKind.i64.min≤n∧n≤IntKind.i64.max) x.mode∧(fun n:Int=>IntKind.i64.min≤n∧n≤IntKind.i64.max) x.units
theorem zbo8:zS5 Tryz.prog 54 Amount.enc zaK1:=by
 intro H enc w base spare held fuel cs x h
 obtain ⟨xs,n,_,_,hlen,hxl,hf⟩:=DataW.trod_struct Tryz.underlying54 h
 have hlen:cs.length=2:=hlen.trans (by kernel_rfl)
 obtain ⟨a0,o0,r0⟩:=fld (sz:=1) hf hxl 0 _ rfl (by kernel_rfl) zab3
 obtain ⟨a1,o1,r1⟩:=fld (sz:=1) hf hxl 1 _ rfl (by kernel_rfl) zab3
 refine ⟨⟨a0,a1⟩,⟨o0,o1⟩,?_⟩
 have e:cs=(cs.drop 0).take 1++(cs.drop 1).take 1:=by
  rcases cs with _|⟨_,_|⟨_,_|⟨_,_⟩⟩⟩
  all_goals first|rfl|(simp at hlen)
 rw [e]
 exact RCs.append r1 (r0)
def zbA8 (x:Hold):Prop:=zbd9 x.proc∧zaK1 x.amount
theorem zcw3:zS5 Tryz.prog 84 Hold.enc zbA8:=by
 intro H enc w base spare held fuel cs x h
 obtain ⟨xs,n,_,_,hlen,hxl,hf⟩:=DataW.trod_struct Tryz.underlying84 h
 have hlen:cs.length=5:=hlen.trans (by kernel_rfl)
 obtain ⟨a0,o0,r0⟩:=fld (sz:=3) hf hxl 0 _ rfl (by kernel_rfl) zbo7
 obtain ⟨a1,o1,r1⟩:=fld (sz:=2) hf hxl 1 _ rfl (by kernel_rfl) zbo8
 refine ⟨⟨a0,a1⟩,⟨o0,o1⟩,?_⟩
 have e:cs=(cs.drop 0).take 3++(cs.drop 3).take 2:=by
  rcases cs with _|⟨_,_|⟨_,_|⟨_,_|⟨_,_|⟨_,_|⟨_,_⟩⟩⟩⟩⟩⟩
  all_goals first|rfl|(simp at hlen)
 rw [e]
 exact RCs.append r1 (r0)
theorem zcw4:zS5 Tryz.prog 45 (eL Hold.enc) (fun l:List Hold=>l.length≤maxLen∧∀ a ∈ l,zbA8 a):=zam4 Tryz.underlying45 (sz:=5) (by kernel_rfl) (by omega) (Hold.len) zcw3
def zbe0 (x:Wait):Prop:=zbd9 x.proc∧zaK1 x.amount∧(fun n:Int=>IntKind.i64.min≤n∧n≤IntKind.i64.max) x.priority∧(fun n:Int=>IntKind.i64.min≤n∧n≤IntKind.i64.max) x.passed
theorem zcw5:zS5 Tryz.prog 86 Wait.enc zbe0:=by
 intro H enc w base spare held fuel cs x h
 obtain ⟨xs,n,_,_,hlen,hxl,hf⟩:=DataW.trod_struct Tryz.underlying86 h
 have hlen:cs.length=7:=hlen.trans (by kernel_rfl)
 obtain ⟨a0,o0,r0⟩:=fld (sz:=3) hf hxl 0 _ rfl (by kernel_rfl) zbo7
 obtain ⟨a1,o1,r1⟩:=fld (sz:=2) hf hxl 1 _ rfl (by kernel_rfl) zbo8
 obtain ⟨a2,o2,r2⟩:=fld (sz:=1) hf hxl 2 _ rfl (by kernel_rfl) zab3
 obtain ⟨a3,o3,r3⟩:=fld (sz:=1) hf hxl 3 _ rfl (by kernel_rfl) zab3
 refine ⟨⟨a0,a1,a2,a3⟩,⟨o0,o1,o2,o3⟩,?_⟩
 have e:cs=(cs.drop 0).take 3++(cs.drop 3).take 2++(cs.drop 5).take 1++(cs.drop 6).take 1:=by
  rcases cs with _|⟨_,_|⟨_,_|⟨_,_|⟨_,_|⟨_,_|⟨_,_|⟨_,_|⟨_,_⟩⟩⟩⟩⟩⟩⟩⟩
  all_goals first|rfl|(simp at hlen)
 rw [e]
 exact RCs.append r3 (RCs.append r2 (RCs.append r1 (r0)))
theorem zbG6:zS5 Tryz.prog 46 (eL Wait.enc) (fun l:List Wait=>l.length≤maxLen∧∀ a ∈ l,zbe0 a):=zam4 Tryz.underlying46 (sz:=7) (by kernel_rfl) (by omega) (Wait.len) zcw5
def zbo9 (x:Queue):Prop:=zbb0 x.resource∧(fun l:List Hold=>l.length≤maxLen∧∀ a ∈ l,zbA8 a) x.holds∧(fun l:List Wait=>l.length≤maxLen∧∀ a ∈ l,zbe0 a) x.converts∧(fun l:List Wait=>l.length≤maxLen∧∀ a ∈ l,zbe0 a) x.waits∧(fun n:Int=>IntKind.i64.min≤n∧n≤IntKind.i64.max) x.gen
theorem zcw6:zS5 Tryz.prog 48 Queue.enc zbo9:=by
 intro H enc w base spare held fuel cs x h
 obtain ⟨xs,n,_,_,hlen,hxl,hf⟩:=DataW.trod_struct Tryz.underlying48 h
 have hlen:cs.length=8:=hlen.trans (by kernel_rfl)
 obtain ⟨a0,o0,r0⟩:=fld (sz:=4) hf hxl 0 _ rfl (by kernel_rfl) zcw2
 obtain ⟨a1,o1,r1⟩:=fld (sz:=1) hf hxl 1 _ rfl (by kernel_rfl) zcw4
 obtain ⟨a2,o2,r2⟩:=fld (sz:=1) hf hxl 2 _ rfl (by kernel_rfl) zbG6
 obtain ⟨a3,o3,r3⟩:=fld (sz:=1) hf hxl 3 _ rfl (by kernel_rfl) zbG6
 obtain ⟨a4,o4,r4⟩:=fld (sz:=1) hf hxl 4 _ rfl (by kernel_rfl) zab3
 refine ⟨⟨a0,a1,a2,a3,a4⟩,⟨o0,o1,o2,o3,o4⟩,?_⟩
 have e:cs=(cs.drop 0).take 4++(cs.drop 4).take 1++(cs.drop 5).take 1++(cs.drop 6).take 1++(cs.drop 7).take 1:=by
  rcases cs with _|⟨_,_|⟨_,_|⟨_,_|⟨_,_|⟨_,_|⟨_,_|⟨_,_|⟨_,_|⟨_,_⟩⟩⟩⟩⟩⟩⟩⟩⟩
  all_goals first|rfl|(simp at hlen)
 rw [e]
 exact RCs.append r4 (RCs.append r3 (RCs.append r2 (RCs.append r1 (r0))))
theorem zcw7:zS5 Tryz.prog 23 (eL Queue.enc) (fun l:List Queue=>l.length≤maxLen∧∀ a ∈ l,zbo9 a):=zam4 Tryz.underlying23 (sz:=8) (by kernel_rfl) (by omega) (Queue.len) zcw6
def zcB9 (x:Atom):Prop:=(fun s:ByteArray=>s.size≤maxLen) x.name∧zaK1 x.amount
theorem zcw8:zS5 Tryz.prog 56 Atom.enc zcB9:=by
 intro H enc w base spare held fuel cs x h
 obtain ⟨xs,n,_,_,hlen,hxl,hf⟩:=DataW.trod_struct Tryz.underlying56 h
 have hlen:cs.length=3:=hlen.trans (by kernel_rfl)
 obtain ⟨a0,o0,r0⟩:=fld (sz:=1) hf hxl 0 _ rfl (by kernel_rfl) zbO7
 obtain ⟨a1,o1,r1⟩:=fld (sz:=2) hf hxl 1 _ rfl (by kernel_rfl) zbo8
 refine ⟨⟨a0,a1⟩,⟨o0,o1⟩,?_⟩
 have e:cs=(cs.drop 0).take 1++(cs.drop 1).take 2:=by
  rcases cs with _|⟨_,_|⟨_,_|⟨_,_|⟨_,_⟩⟩⟩⟩
  all_goals first|rfl|(simp at hlen)
 rw [e]
 exact RCs.append r1 (r0)
theorem zcw9:zS5 Tryz.prog 59 Expr.enc (fun _:Expr=>True):=zbG3 fun k ih=>by
 intro H enc w base spare held cs x h
 obtain ⟨xs,n,hk,_,hlen,hxl,hf⟩:=DataW.trod_struct Tryz.underlying59 h
 have hlen:cs.length=5:=hlen.trans (by kernel_rfl)
 obtain ⟨a0,o0,r0⟩:=fld (sz:=1) hf hxl 0 _ rfl (by kernel_rfl) zab3
 obtain ⟨a1,o1,r1⟩:=fld (sz:=3) hf hxl 1 _ rfl (by kernel_rfl) zcw8
 obtain ⟨a2,o2,r2⟩:=zfa5 (sz:=1) hf hxl 2 _ rfl (by kernel_rfl) (zaI4 Tryz.underlying57 (sz:=5) (by kernel_rfl) (by omega) Expr.len (fun m hm=>ih m (by omega)))
 refine ⟨⟨a0,a1,a2⟩,trivial,?_⟩
 have e:cs=(cs.drop 0).take 1++(cs.drop 1).take 3++(cs.drop 4).take 1:=by
  rcases cs with _|⟨_,_|⟨_,_|⟨_,_|⟨_,_|⟨_,_|⟨_,_⟩⟩⟩⟩⟩⟩
  all_goals first|rfl|(simp at hlen)
 rw [e]
 rw [show Expr.enc ⟨a0,a1,a2⟩=[A.int .i64 a0]++Atom.enc a1++[A.sl (a2.map Expr.enc)] from by simp [Atom.enc,Amount.enc]]
 exact RCs.append r2 (RCs.append r1 (r0))
def zbA9 (x:Need):Prop:=zbd9 x.proc∧(fun _:Expr=>True) x.expr∧(fun n:Int=>IntKind.i64.min≤n∧n≤IntKind.i64.max) x.gen
theorem zcx0:zS5 Tryz.prog 61 Need.enc zbA9:=by
 intro H enc w base spare held fuel cs x h
 obtain ⟨xs,n,_,_,hlen,hxl,hf⟩:=DataW.trod_struct Tryz.underlying61 h
 have hlen:cs.length=9:=hlen.trans (by kernel_rfl)
 obtain ⟨a0,o0,r0⟩:=fld (sz:=3) hf hxl 0 _ rfl (by kernel_rfl) zbo7
 obtain ⟨a1,o1,r1⟩:=fld (sz:=5) hf hxl 1 _ rfl (by kernel_rfl) zcw9
 obtain ⟨a2,o2,r2⟩:=fld (sz:=1) hf hxl 2 _ rfl (by kernel_rfl) zab3
 refine ⟨⟨a0,a1,a2⟩,⟨o0,o1,o2⟩,?_⟩
 have e:cs=(cs.drop 0).take 3++(cs.drop 3).take 5++(cs.drop 8).take 1:=by
  rcases cs with _|⟨_,_|⟨_,_|⟨_,_|⟨_,_|⟨_,_|⟨_,_|⟨_,_|⟨_,_|⟨_,_|⟨_,_⟩⟩⟩⟩⟩⟩⟩⟩⟩⟩
  all_goals first|rfl|(simp at hlen)
 rw [e]
 exact RCs.append r2 (RCs.append r1 (r0))
theorem zcx1:zS5 Tryz.prog 24 (eL Need.enc) (fun l:List Need=>l.length≤maxLen∧∀ a ∈ l,zbA9 a):=zam4 Tryz.underlying24 (sz:=9) (by kernel_rfl) (by omega) (Need.len) zcx0
def zbB0 (x:WaitState):Prop:=(fun l:List Queue=>l.length≤maxLen∧∀ a ∈ l,zbo9 a) x.queues∧(fun l:List Need=>l.length≤maxLen∧∀ a ∈ l,zbA9 a) x.needs
theorem zcx2:zS5 Tryz.prog 26 WaitState.enc zbB0:=by
 intro H enc w base spare held fuel cs x h
 obtain ⟨xs,n,_,_,hlen,hxl,hf⟩:=DataW.trod_struct Tryz.underlying26 h
 have hlen:cs.length=2:=hlen.trans (by kernel_rfl)
 obtain ⟨a0,o0,r0⟩:=fld (sz:=1) hf hxl 0 _ rfl (by kernel_rfl) zcw7
 obtain ⟨a1,o1,r1⟩:=fld (sz:=1) hf hxl 1 _ rfl (by kernel_rfl) zcx1
 refine ⟨⟨a0,a1⟩,⟨o0,o1⟩,?_⟩
 have e:cs=(cs.drop 0).take 1++(cs.drop 1).take 1:=by
  rcases cs with _|⟨_,_|⟨_,_|⟨_,_⟩⟩⟩
  all_goals first|rfl|(simp at hlen)
 rw [e]
 exact RCs.append r1 (r0)
set_option maxRecDepth 100000 in
theorem zas4 (H:Type) (enc:TypeId×Value→H) (W:World) (base:Nat) (args:Array Value) (ds gs:List (DataW H)) (before:List MemPlace)
  (hval:∀ (j:Nat) t v,Tryz.f4.params[j]? = some t→args[j]? = some v→Value.okWide Tryz.prog W .any base t v)
  (hW:DataW.Whole enc Tryz.prog Tryz.f4.params.toList Rows.waitstateEncodesSpec.vars false W args.toList ds gs before) (hL:laidMetH Tryz.prog Rows.waitstateEncodesRow.laid W) :
  Calls Tryz.prog 4 args W fun e W'=>∃ v,e=.returned v∧Rows.waitstateEncodesSpec.post enc Tryz.prog Tryz.f4 false true false false W args v W':=by
 have hW':=hW
 obtain ⟨p,q,hA0,hV,rfl,hfz,hnd⟩:=hW
 have hA:DataW.TrodAll enc Tryz.prog W 0 (fun _=>true) true Tryz.f4.params.toList args.toList ds p:=hA0
 rw [Tryz.params4] at hA hval
 obtain ⟨v0,vs0,d0,ds0,p0,q0,hargs,rfl,rfl,h0,r0⟩:=trodAll_cons hA
 obtain ⟨rfl,rfl,rfl⟩:=trodAll_nil r0
 obtain rfl:args=#[v0]:=by cases args; simp_all
 obtain ⟨rfl,rfl⟩:=trodVars_none hV
 obtain ⟨x0,o0,hv0⟩:=zcB6 zcx2 Tryz.underlying26 (hval 0 26 v0 rfl rfl) h0
 refine zbG4 Tryz.laidOut (fun t ht=>?_) rfl (by kernel_rfl) Tryz.underlying4 hW' rfl ?_
 ·rw [Tryz.params4] at ht
  simp only [List.mem_cons,List.not_mem_nil,or_false] at ht
  rcases ht with rfl
  all_goals exact ⟨by kernel_rfl,of_decide_eq_true (by kernel_rfl)⟩
 ·have hp:=zas2 x0 true (zaE1 x0) W (fun _=>False) [v0] (zaT9 tab0_num tab0_type tab0_lits tab0_is hL) (fun b h=>h.elim) rfl (fun i v a hv ha=>?_)
  ·exact hp.mono fun e w' ⟨v,he,hk,hr⟩=>⟨v,he,hk,hr.bool⟩
  ·match i,hv,ha with
   | 0,hv,ha=>cases hv; cases ha; exact hv0
   | i+1,hv,ha=>simp at hv
noncomputable def zU7 (os:Os):World :=
 { World.holding Tryz.prog os ⟨#[],#[],[]⟩ with heap:=(World.holding Tryz.prog os ⟨#[],#[],[]⟩).heap.modify 0 fun
   | .cells _ t frozen=>.cells #[.bool true,.bool true,.bool true,.bool true,.bool false,.bool true,.bool true,.bool false,.bool false,.bool false,.bool true,.bool false,.bool true,.bool false,.bool false,.bool true,.bool false,.bool false,.bool false,.bool false,.bool false,.bool false,.bool false,.bool false,.bool false] t frozen
   | o=>o }
theorem zaI8 (os:Os):laidMet Tryz.prog Rows.waitstateEncodesRow.laid ((zU7 os).forCall (fun _ _=>0) ⟨#[],#[.agg #[.slice none 0 0,.slice none 0 0]],[]⟩).memory:=laidMet_of_run' 8 (by kernel_rfl) (by kernel_rfl)
theorem zaC0 (os:Os) {H:Type} (enc:TypeId×Value→H):∃ x,DataW.whole enc Tryz.prog ((zU7 os).forCall (fun _ _=>0) ⟨#[],#[.agg #[.slice none 0 0,.slice none 0 0]],[]⟩).memory Tryz.f4.params.toList Rows.waitstateEncodesSpec.vars false (#[.agg #[.slice none 0 0,.slice none 0 0]]:Array Value).toList 8=some x:=Option.isSome_iff_exists.1 (by kernel_rfl)
set_option maxRecDepth 100000 in
theorem zay8 (os:Os) (started:os.Started) (H:Type) (enc:TypeId×Value→H) (F:Stop.Interp) :
  ReturnsInHanded {} Tryz.checked os 4 .any ((OpenSpec.ofChange Rows.waitstateEncodesSpec).preRow enc Tryz.prog Tryz.f4 Rows.waitstateEncodesRow.domain false Rows.waitstateEncodesRow.laid) (((OpenSpec.ofChange Rows.waitstateEncodesSpec).at F).post enc Tryz.prog Tryz.f4 false true false false):=by
 obtain ⟨x,hx⟩:=zaC0 os enc
 refine returnsInHanded_of_row (C:=Tryz.checked) (s:=OpenSpec.ofChange Rows.waitstateEncodesSpec) Tryz.own started (by kernel_rfl) Tryz.func4
  (witness_row_at (enc:=enc) (C:=Tryz.checked) false (zU7 os) #[.agg #[.slice none 0 0,.slice none 0 0]] rfl (by kernel_rfl) (by kernel_rfl) (by kernel_rfl)
   (OpenSpec.preRow_of_cond 8 hx (by kernel_rfl) (fun k hk=>by cases hk) (by kernel_rfl) (zaI8 os))) ?_
 intro W base args ds gs before hval hW _ _ _ hL _ _
 exact zas4 H enc W base args ds gs before hval hW hL
set_option maxHeartbeats 8000000 in
theorem zaE3:Rows.WaitstateEncodesSaid :=
 OpenClaim.holds_of_cond 4 Tryz.f4 rfl rfl rfl rfl rfl rfl rfl ⟨rfl,rfl,rfl,rfl,rfl⟩ rfl rfl rfl rfl rfl (by as_aux_lemma=>kernel_rfl) Tryz.func4 (by
   simp only [joinedFacts,Bool.and_eq_true]
   (repeat' apply And.intro)
   all_goals first|with_reducible exact zaI6|(rw [zay6]; kernel_rfl)|(rw [zbo6]; kernel_rfl)|(as_aux_lemma=>kernel_rfl))
  (of_decide_eq_true (by kernel_rfl)) (by unfold Func.isWrapper; first|(rw [if_pos (by decide +kernel)]; kernel_rfl)|(rw [if_neg (by decide +kernel)]; exact ⟨rfl,rfl⟩))
  (fun os started H enc _ F=>by rw [OpenClaim.pre_eq_preRow]; exact zay8 os started H enc F)
theorem zaC1 (f:FuncId) (fn:Func) (hf:Tryz.pinned.checked.prog.funcNamed "clusterlocks/clusterlockslaw16.WaitstateEncodes"=some f) (hfn:Tryz.pinned.checked.prog.funcs[f]? = some fn) :
  false=Tryz.pinned.checked.prog.looks []∧∀ (j:Nat) t,fn.params[j]? = some t→Tryz.pinned.checked.prog.wantsStandIn t=false:=by
 obtain rfl:f=4:=Option.some.inj ((show Tryz.prog.funcNamed "clusterlocks/clusterlockslaw16.WaitstateEncodes"=some 4 by kernel_rfl).symm.trans hf) |>.symm
 obtain rfl:fn=Tryz.f4:=(Option.some.inj (Tryz.func4.symm.trans hfn)).symm
 refine ⟨by kernel_rfl,fun j t ht=>?_⟩
 rw [Tryz.params4] at ht
 have hm:=Array.mem_of_getElem? ht
 simp at hm
 rcases hm with rfl
 all_goals first|with_reducible exact (show Tryz.pinned.checked.prog.wantsStandIn 26=false by kernel_rfl)
theorem WaitstateEncodes_holds:Rows.WaitstateEncodesCardSaid :=
 Claim7.holds_tied_plain_at .later [] _ _ _ _ zaE3 (fun _ h=>by cases h) (by as_aux_lemma=>kernel_rfl) (fun _ h=>by cases h) waitstateEncodes_row_tie rfl ⟨rfl,rfl⟩ (zaU1.trans (by kernel_rfl)) rfl zaC1 (by as_aux_lemma=>kernel_rfl)
end Ab
end Go.Proofs.YtebopmkhhppfaaaGreatDoor
