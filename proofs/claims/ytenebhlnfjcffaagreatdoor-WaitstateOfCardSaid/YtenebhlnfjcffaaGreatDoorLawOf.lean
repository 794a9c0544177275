/-
  WaitstateOf returns true for every input (which wait-for state belongs to a state of the central manager); no condition.
-/
import Derived.Test.YtenebhlnfjcffaaGreatDoorOgF
import Derived.Test.YtenebhlnfjcffaaGreatDoorDoor
import Derived.Test.YtenebhlnfjcffaaGreatDoorCards
import Derived.Test.YtenebhlnfjcffaaGreatDoorTie
import Derived.Test.YtenebhlnfjcffaaGreatDoorHead
import Derived.Deep.DeepHandedRow
/-
  The wait-for state of a state of the central manager; no condition.
-/
namespace Go.Proofs.YtenebhlnfjcffaaGreatDoor
namespace Ab
open Go.ChangeShapes Go.WideShapes Go.ChangeAt Go.RowKit
set_option linter.unusedVariables false
theorem Tryz.own:ownKnob Tryz.prog.godebug=none:=by kernel_rfl
theorem Tryz.laidOut:laidOutB Tryz.prog=true:=by kernel_rfl
theorem zcF0:Tryz.prog.globalNamed "clusterlocks/mode.together"=some 1:=by kernel_rfl
theorem zcr1:(Tryz.prog.globals[1]?).map (·.type)=some 330:=by kernel_rfl
theorem zcr2:Lits Tryz.prog 330:=zby9 (n:=5) (sz:=5) Tryz.underlying330 (by kernel_rfl) (by kernel_rfl) (zby9 (n:=5) (sz:=1) Tryz.underlying329 (by kernel_rfl) (by kernel_rfl) (zcq9 Tryz.underlying4))
theorem zcO1:lits (Rows.laid_clusterlocks_mode_together (H:=Unit))=some (Arr.enc (Arr.enc eB) zbI6):=by rfl
theorem zK7:zO9 Tryz.prog 3 (eI .i64) (fun n:Int=>IntKind.i64.min≤n∧n≤IntKind.i64.max):=zcq6 Tryz.underlying3
theorem zbL7:zO9 Tryz.prog 9 eS (fun s:ByteArray=>s.size≤maxLen):=zcq7 Tryz.underlying9
def zbk1 (x:aC):Prop:=(fun s:ByteArray=>s.size≤maxLen) x.name∧(fun n:Int=>IntKind.i64.min≤n∧n≤IntKind.i64.max) x.kind∧(fun n:Int=>IntKind.i64.min≤n∧n≤IntKind.i64.max) x.aP∧(fun n:Int=>IntKind.i64.min≤n∧n≤IntKind.i64.max) x.home
theorem zcF1:zO9 Tryz.prog 75 aC.enc zbk1:=by
 intro H enc w base spare held fuel cs x h
 obtain ⟨xs,n,_,_,hlen,hxl,hf⟩:=DataW.trod_struct Tryz.underlying75 h
 have hlen:cs.length=4:=hlen.trans (by kernel_rfl)
 obtain ⟨a0,o0,r0⟩:=fld (sz:=1) hf hxl 0 _ rfl (by kernel_rfl) zbL7
 obtain ⟨a1,o1,r1⟩:=fld (sz:=1) hf hxl 1 _ rfl (by kernel_rfl) zK7
 obtain ⟨a2,o2,r2⟩:=fld (sz:=1) hf hxl 2 _ rfl (by kernel_rfl) zK7
 obtain ⟨a3,o3,r3⟩:=fld (sz:=1) hf hxl 3 _ rfl (by kernel_rfl) zK7
 refine ⟨⟨a0,a1,a2,a3⟩,⟨o0,o1,o2,o3⟩,?_⟩
 have e:cs=(cs.drop 0).take 1++(cs.drop 1).take 1++(cs.drop 2).take 1++(cs.drop 3).take 1:=by
  rcases cs with _|⟨_,_|⟨_,_|⟨_,_|⟨_,_|⟨_,_⟩⟩⟩⟩⟩
  all_goals first|rfl|(simp at hlen)
 rw [e]
 exact RCs.append r3 (RCs.append r2 (RCs.append r1 (r0)))
def zbn4 (x:aH):Prop:=(fun n:Int=>IntKind.i64.min≤n∧n≤IntKind.i64.max) x.site∧(fun n:Int=>IntKind.i64.min≤n∧n≤IntKind.i64.max) x.inc∧(fun n:Int=>IntKind.i64.min≤n∧n≤IntKind.i64.max) x.num
theorem zbz2:zO9 Tryz.prog 38 aH.enc zbn4:=by
 intro H enc w base spare held fuel cs x h
 obtain ⟨xs,n,_,_,hlen,hxl,hf⟩:=DataW.trod_struct Tryz.underlying38 h
 have hlen:cs.length=3:=hlen.trans (by kernel_rfl)
 obtain ⟨a0,o0,r0⟩:=fld (sz:=1) hf hxl 0 _ rfl (by kernel_rfl) zK7
 obtain ⟨a1,o1,r1⟩:=fld (sz:=1) hf hxl 1 _ rfl (by kernel_rfl) zK7
 obtain ⟨a2,o2,r2⟩:=fld (sz:=1) hf hxl 2 _ rfl (by kernel_rfl) zK7
 refine ⟨⟨a0,a1,a2⟩,⟨o0,o1,o2⟩,?_⟩
 have e:cs=(cs.drop 0).take 1++(cs.drop 1).take 1++(cs.drop 2).take 1:=by
  rcases cs with _|⟨_,_|⟨_,_|⟨_,_|⟨_,_⟩⟩⟩⟩
  all_goals first|rfl|(simp at hlen)
 rw [e]
 exact RCs.append r2 (RCs.append r1 (r0))
def zav1 (x:aA):Prop:=(fun n:Int=>IntKind.i64.min≤n∧n≤IntKind.i64.max) x.mode∧(fun n:Int=>IntKind.i64.min≤n∧n≤IntKind.i64.max) x.aP
theorem zaQ3:zO9 Tryz.prog 44 aA.enc zav1:=by
 intro H enc w base spare held fuel cs x h
 obtain ⟨xs,n,_,_,hlen,hxl,hf⟩:=DataW.trod_struct Tryz.underlying44 h
 have hlen:cs.length=2:=hlen.trans (by kernel_rfl)
 obtain ⟨a0,o0,r0⟩:=fld (sz:=1) hf hxl 0 _ rfl (by kernel_rfl) zK7
 obtain ⟨a1,o1,r1⟩:=fld (sz:=1) hf hxl 1 _ rfl (by kernel_rfl) zK7
 refine ⟨⟨a0,a1⟩,⟨o0,o1⟩,?_⟩
 have e:cs=(cs.drop 0).take 1++(cs.drop 1).take 1:=by
  rcases cs with _|⟨_,_|⟨_,_|⟨_,_⟩⟩⟩
  all_goals first|rfl|(simp at hlen)
 rw [e]
 exact RCs.append r1 (r0)
def zbL8 (x:aT):Prop:=zbn4 x.aN∧zav1 x.aI
theorem zcr3:zO9 Tryz.prog 131 aT.enc zbL8:=by
 intro H enc w base spare held fuel cs x h
 obtain ⟨xs,n,_,_,hlen,hxl,hf⟩:=DataW.trod_struct Tryz.underlying131 h
 have hlen:cs.length=5:=hlen.trans (by kernel_rfl)
 obtain ⟨a0,o0,r0⟩:=fld (sz:=3) hf hxl 0 _ rfl (by kernel_rfl) zbz2
 obtain ⟨a1,o1,r1⟩:=fld (sz:=2) hf hxl 1 _ rfl (by kernel_rfl) zaQ3
 refine ⟨⟨a0,a1⟩,⟨o0,o1⟩,?_⟩
 have e:cs=(cs.drop 0).take 3++(cs.drop 3).take 2:=by
  rcases cs with _|⟨_,_|⟨_,_|⟨_,_|⟨_,_|⟨_,_|⟨_,_⟩⟩⟩⟩⟩⟩
  all_goals first|rfl|(simp at hlen)
 rw [e]
 exact RCs.append r1 (r0)
theorem zcF2:zO9 Tryz.prog 76 (eL aT.enc) (fun l:List aT=>l.length≤maxLen∧∀ a ∈ l,zbL8 a):=zah9 Tryz.underlying76 (sz:=5) (by kernel_rfl) (by omega) (aT.len) zcr3
def zbn5 (x:aR):Prop:=zbn4 x.aN∧zav1 x.aI∧(fun n:Int=>IntKind.i64.min≤n∧n≤IntKind.i64.max) x.aW∧(fun n:Int=>IntKind.i64.min≤n∧n≤IntKind.i64.max) x.bO
theorem zcr4:zO9 Tryz.prog 134 aR.enc zbn5:=by
 intro H enc w base spare held fuel cs x h
 obtain ⟨xs,n,_,_,hlen,hxl,hf⟩:=DataW.trod_struct Tryz.underlying134 h
 have hlen:cs.length=7:=hlen.trans (by kernel_rfl)
 obtain ⟨a0,o0,r0⟩:=fld (sz:=3) hf hxl 0 _ rfl (by kernel_rfl) zbz2
 obtain ⟨a1,o1,r1⟩:=fld (sz:=2) hf hxl 1 _ rfl (by kernel_rfl) zaQ3
 obtain ⟨a2,o2,r2⟩:=fld (sz:=1) hf hxl 2 _ rfl (by kernel_rfl) zK7
 obtain ⟨a3,o3,r3⟩:=fld (sz:=1) hf hxl 3 _ rfl (by kernel_rfl) zK7
 refine ⟨⟨a0,a1,a2,a3⟩,⟨o0,o1,o2,o3⟩,?_⟩
 have e:cs=(cs.drop 0).take 3++(cs.drop 3).take 2++(cs.drop 5).take 1++(cs.drop 6).take 1:=by
  rcases cs with _|⟨_,_|⟨_,_|⟨_,_|⟨_,_|⟨_,_|⟨_,_|⟨_,_|⟨_,_⟩⟩⟩⟩⟩⟩⟩⟩
  all_goals first|rfl|(simp at hlen)
 rw [e]
 exact RCs.append r3 (RCs.append r2 (RCs.append r1 (r0)))
theorem zbW0:zO9 Tryz.prog 77 (eL aR.enc) (fun l:List aR=>l.length≤maxLen∧∀ a ∈ l,zbn5 a):=zah9 Tryz.underlying77 (sz:=7) (by kernel_rfl) (by omega) (aR.len) zcr4
def zbz3 (x:aF):Prop:=zbk1 x.aB∧(fun l:List aT=>l.length≤maxLen∧∀ a ∈ l,zbL8 a) x.bA∧(fun l:List aR=>l.length≤maxLen∧∀ a ∈ l,zbn5 a) x.aL∧(fun l:List aR=>l.length≤maxLen∧∀ a ∈ l,zbn5 a) x.aS∧(fun n:Int=>IntKind.i64.min≤n∧n≤IntKind.i64.max) x.gen
theorem zcF3:zO9 Tryz.prog 79 aF.enc zbz3:=by
 intro H enc w base spare held fuel cs x h
 obtain ⟨xs,n,_,_,hlen,hxl,hf⟩:=DataW.trod_struct Tryz.underlying79 h
 have hlen:cs.length=8:=hlen.trans (by kernel_rfl)
 obtain ⟨a0,o0,r0⟩:=fld (sz:=4) hf hxl 0 _ rfl (by kernel_rfl) zcF1
 obtain ⟨a1,o1,r1⟩:=fld (sz:=1) hf hxl 1 _ rfl (by kernel_rfl) zcF2
 obtain ⟨a2,o2,r2⟩:=fld (sz:=1) hf hxl 2 _ rfl (by kernel_rfl) zbW0
 obtain ⟨a3,o3,r3⟩:=fld (sz:=1) hf hxl 3 _ rfl (by kernel_rfl) zbW0
 obtain ⟨a4,o4,r4⟩:=fld (sz:=1) hf hxl 4 _ rfl (by kernel_rfl) zK7
 refine ⟨⟨a0,a1,a2,a3,a4⟩,⟨o0,o1,o2,o3,o4⟩,?_⟩
 have e:cs=(cs.drop 0).take 4++(cs.drop 4).take 1++(cs.drop 5).take 1++(cs.drop 6).take 1++(cs.drop 7).take 1:=by
  rcases cs with _|⟨_,_|⟨_,_|⟨_,_|⟨_,_|⟨_,_|⟨_,_|⟨_,_|⟨_,_|⟨_,_⟩⟩⟩⟩⟩⟩⟩⟩⟩
  all_goals first|rfl|(simp at hlen)
 rw [e]
 exact RCs.append r4 (RCs.append r3 (RCs.append r2 (RCs.append r1 (r0))))
theorem zcF4:zO9 Tryz.prog 22 (eL aF.enc) (fun l:List aF=>l.length≤maxLen∧∀ a ∈ l,zbz3 a):=zah9 Tryz.underlying22 (sz:=8) (by kernel_rfl) (by omega) (aF.len) zcF3
def zbz4 (x:bB):Prop:=(fun s:ByteArray=>s.size≤maxLen) x.name∧zav1 x.before∧zav1 x.after
theorem zcr5:zO9 Tryz.prog 222 bB.enc zbz4:=by
 intro H enc w base spare held fuel cs x h
 obtain ⟨xs,n,_,_,hlen,hxl,hf⟩:=DataW.trod_struct Tryz.underlying222 h
 have hlen:cs.length=5:=hlen.trans (by kernel_rfl)
 obtain ⟨a0,o0,r0⟩:=fld (sz:=1) hf hxl 0 _ rfl (by kernel_rfl) zbL7
 obtain ⟨a1,o1,r1⟩:=fld (sz:=2) hf hxl 1 _ rfl (by kernel_rfl) zaQ3
 obtain ⟨a2,o2,r2⟩:=fld (sz:=2) hf hxl 2 _ rfl (by kernel_rfl) zaQ3
 refine ⟨⟨a0,a1,a2⟩,⟨o0,o1,o2⟩,?_⟩
 have e:cs=(cs.drop 0).take 1++(cs.drop 1).take 2++(cs.drop 3).take 2:=by
  rcases cs with _|⟨_,_|⟨_,_|⟨_,_|⟨_,_|⟨_,_|⟨_,_⟩⟩⟩⟩⟩⟩
  all_goals first|rfl|(simp at hlen)
 rw [e]
 exact RCs.append r2 (RCs.append r1 (r0))
theorem zcF5:zO9 Tryz.prog 39 (eL bB.enc) (fun l:List bB=>l.length≤maxLen∧∀ a ∈ l,zbz4 a):=zah9 Tryz.underlying39 (sz:=5) (by kernel_rfl) (by omega) (bB.len) zcr5
def zbL9 (x:bI):Prop:=(fun n:Int=>IntKind.i64.min≤n∧n≤IntKind.i64.max) x.label∧(fun n:Int=>IntKind.i64.min≤n∧n≤IntKind.i64.max) x.at_
theorem zcr6:zO9 Tryz.prog 235 bI.enc zbL9:=by
 intro H enc w base spare held fuel cs x h
 obtain ⟨xs,n,_,_,hlen,hxl,hf⟩:=DataW.trod_struct Tryz.underlying235 h
 have hlen:cs.length=2:=hlen.trans (by kernel_rfl)
 obtain ⟨a0,o0,r0⟩:=fld (sz:=1) hf hxl 0 _ rfl (by kernel_rfl) zK7
 obtain ⟨a1,o1,r1⟩:=fld (sz:=1) hf hxl 1 _ rfl (by kernel_rfl) zK7
 refine ⟨⟨a0,a1⟩,⟨o0,o1⟩,?_⟩
 have e:cs=(cs.drop 0).take 1++(cs.drop 1).take 1:=by
  rcases cs with _|⟨_,_|⟨_,_|⟨_,_⟩⟩⟩
  all_goals first|rfl|(simp at hlen)
 rw [e]
 exact RCs.append r1 (r0)
theorem zcF6:zO9 Tryz.prog 40 (eL bI.enc) (fun l:List bI=>l.length≤maxLen∧∀ a ∈ l,zbL9 a):=zah9 Tryz.underlying40 (sz:=2) (by kernel_rfl) (by omega) (bI.len) zcr6
def zbG0 (x:bC):Prop:=(fun l:List bB=>l.length≤maxLen∧∀ a ∈ l,zbz4 a) x.aJ∧(fun l:List bI=>l.length≤maxLen∧∀ a ∈ l,zbL9 a) x.bE
theorem zcF7:zO9 Tryz.prog 42 bC.enc zbG0:=by
 intro H enc w base spare held fuel cs x h
 obtain ⟨xs,n,_,_,hlen,hxl,hf⟩:=DataW.trod_struct Tryz.underlying42 h
 have hlen:cs.length=2:=hlen.trans (by kernel_rfl)
 obtain ⟨a0,o0,r0⟩:=fld (sz:=1) hf hxl 0 _ rfl (by kernel_rfl) zcF5
 obtain ⟨a1,o1,r1⟩:=fld (sz:=1) hf hxl 1 _ rfl (by kernel_rfl) zcF6
 refine ⟨⟨a0,a1⟩,⟨o0,o1⟩,?_⟩
 have e:cs=(cs.drop 0).take 1++(cs.drop 1).take 1:=by
  rcases cs with _|⟨_,_|⟨_,_|⟨_,_⟩⟩⟩
  all_goals first|rfl|(simp at hlen)
 rw [e]
 exact RCs.append r1 (r0)
theorem zcO2:zO9 Tryz.prog 4 eB (fun _:Bool=>True):=zcd8 Tryz.underlying4
def zcO3 (x:aD):Prop:=(fun s:ByteArray=>s.size≤maxLen) x.name∧zav1 x.aI
theorem zcF8:zO9 Tryz.prog 46 aD.enc zcO3:=by
 intro H enc w base spare held fuel cs x h
 obtain ⟨xs,n,_,_,hlen,hxl,hf⟩:=DataW.trod_struct Tryz.underlying46 h
 have hlen:cs.length=3:=hlen.trans (by kernel_rfl)
 obtain ⟨a0,o0,r0⟩:=fld (sz:=1) hf hxl 0 _ rfl (by kernel_rfl) zbL7
 obtain ⟨a1,o1,r1⟩:=fld (sz:=2) hf hxl 1 _ rfl (by kernel_rfl) zaQ3
 refine ⟨⟨a0,a1⟩,⟨o0,o1⟩,?_⟩
 have e:cs=(cs.drop 0).take 1++(cs.drop 1).take 2:=by
  rcases cs with _|⟨_,_|⟨_,_|⟨_,_|⟨_,_⟩⟩⟩⟩
  all_goals first|rfl|(simp at hlen)
 rw [e]
 exact RCs.append r1 (r0)
theorem zcF9:zO9 Tryz.prog 49 aG.enc (fun _:aG=>True):=zbV8 fun k ih=>by
 intro H enc w base spare held cs x h
 obtain ⟨xs,n,hk,_,hlen,hxl,hf⟩:=DataW.trod_struct Tryz.underlying49 h
 have hlen:cs.length=5:=hlen.trans (by kernel_rfl)
 obtain ⟨a0,o0,r0⟩:=fld (sz:=1) hf hxl 0 _ rfl (by kernel_rfl) zK7
 obtain ⟨a1,o1,r1⟩:=fld (sz:=3) hf hxl 1 _ rfl (by kernel_rfl) zcF8
 obtain ⟨a2,o2,r2⟩:=zcU8 (sz:=1) hf hxl 2 _ rfl (by kernel_rfl) (zaQ1 Tryz.underlying47 (sz:=5) (by kernel_rfl) (by omega) aG.len (fun m hm=>ih m (by omega)))
 refine ⟨⟨a0,a1,a2⟩,trivial,?_⟩
 have e:cs=(cs.drop 0).take 1++(cs.drop 1).take 3++(cs.drop 4).take 1:=by
  rcases cs with _|⟨_,_|⟨_,_|⟨_,_|⟨_,_|⟨_,_|⟨_,_⟩⟩⟩⟩⟩⟩
  all_goals first|rfl|(simp at hlen)
 rw [e]
 rw [show aG.enc ⟨a0,a1,a2⟩=[A.int .i64 a0]++aD.enc a1++[A.sl (a2.map aG.enc)] from by simp [aD.enc,aA.enc]]
 exact RCs.append r2 (RCs.append r1 (r0))
def zbz5 (x:bG):Prop:=(fun _:aG=>True) x.bL∧(fun n:Int=>IntKind.i64.min≤n∧n≤IntKind.i64.max) x.aW∧(fun n:Int=>IntKind.i64.min≤n∧n≤IntKind.i64.max) x.limit
theorem zcG0:zO9 Tryz.prog 51 bG.enc zbz5:=by
 intro H enc w base spare held fuel cs x h
 obtain ⟨xs,n,_,_,hlen,hxl,hf⟩:=DataW.trod_struct Tryz.underlying51 h
 have hlen:cs.length=7:=hlen.trans (by kernel_rfl)
 obtain ⟨a0,o0,r0⟩:=fld (sz:=5) hf hxl 0 _ rfl (by kernel_rfl) zcF9
 obtain ⟨a1,o1,r1⟩:=fld (sz:=1) hf hxl 1 _ rfl (by kernel_rfl) zK7
 obtain ⟨a2,o2,r2⟩:=fld (sz:=1) hf hxl 2 _ rfl (by kernel_rfl) zK7
 refine ⟨⟨a0,a1,a2⟩,⟨o0,o1,o2⟩,?_⟩
 have e:cs=(cs.drop 0).take 5++(cs.drop 5).take 1++(cs.drop 6).take 1:=by
  rcases cs with _|⟨_,_|⟨_,_|⟨_,_|⟨_,_|⟨_,_|⟨_,_|⟨_,_|⟨_,_⟩⟩⟩⟩⟩⟩⟩⟩
  all_goals first|rfl|(simp at hlen)
 rw [e]
 rw [show bG.enc ⟨a0,a1,a2⟩=aG.enc a0++[A.int .i64 a1]++[A.int .i64 a2] from by simp [bG.enc]]
 exact RCs.append r2 (RCs.append r1 (r0))
def zaX8 (x:aO):Prop:=zbn4 x.aN∧(fun n:Int=>IntKind.i64.min≤n∧n≤IntKind.i64.max) x.cost∧zbG0 x.bD∧(fun _:Bool=>True) x.bM∧zbz5 x.aQ∧(fun n:Int=>IntKind.i64.min≤n∧n≤IntKind.i64.max) x.since∧(fun n:Int=>IntKind.i64.min≤n∧n≤IntKind.i64.max) x.gen
theorem zcG1:zO9 Tryz.prog 53 aO.enc zaX8:=by
 intro H enc w base spare held fuel cs x h
 obtain ⟨xs,n,_,_,hlen,hxl,hf⟩:=DataW.trod_struct Tryz.underlying53 h
 have hlen:cs.length=16:=hlen.trans (by kernel_rfl)
 obtain ⟨a0,o0,r0⟩:=fld (sz:=3) hf hxl 0 _ rfl (by kernel_rfl) zbz2
 obtain ⟨a1,o1,r1⟩:=fld (sz:=1) hf hxl 1 _ rfl (by kernel_rfl) zK7
 obtain ⟨a2,o2,r2⟩:=fld (sz:=2) hf hxl 2 _ rfl (by kernel_rfl) zcF7
 obtain ⟨a3,o3,r3⟩:=fld (sz:=1) hf hxl 3 _ rfl (by kernel_rfl) zcO2
 obtain ⟨a4,o4,r4⟩:=fld (sz:=7) hf hxl 4 _ rfl (by kernel_rfl) zcG0
 obtain ⟨a5,o5,r5⟩:=fld (sz:=1) hf hxl 5 _ rfl (by kernel_rfl) zK7
 obtain ⟨a6,o6,r6⟩:=fld (sz:=1) hf hxl 6 _ rfl (by kernel_rfl) zK7
 refine ⟨⟨a0,a1,a2,a3,a4,a5,a6⟩,⟨o0,o1,o2,o3,o4,o5,o6⟩,?_⟩
 have e:cs=(cs.drop 0).take 3++(cs.drop 3).take 1++(cs.drop 4).take 2++(cs.drop 6).take 1++(cs.drop 7).take 7++(cs.drop 14).take 1++(cs.drop 15).take 1:=by
  rcases cs with _|⟨_,_|⟨_,_|⟨_,_|⟨_,_|⟨_,_|⟨_,_|⟨_,_|⟨_,_|⟨_,_|⟨_,_|⟨_,_|⟨_,_|⟨_,_|⟨_,_|⟨_,_|⟨_,_|⟨_,_⟩⟩⟩⟩⟩⟩⟩⟩⟩⟩⟩⟩⟩⟩⟩⟩⟩
  all_goals first|rfl|(simp at hlen)
 rw [e]
 rw [show aO.enc ⟨a0,a1,a2,a3,a4,a5,a6⟩=aH.enc a0++[A.int .i64 a1]++bC.enc a2++[A.bool a3]++bG.enc a4++[A.int .i64 a5]++[A.int .i64 a6] from by simp [aO.enc]]
 exact RCs.append r6 (RCs.append r5 (RCs.append r4 (RCs.append r3 (RCs.append r2 (RCs.append r1 (r0))))))
theorem zcG2:zO9 Tryz.prog 23 (eL aO.enc) (fun l:List aO=>l.length≤maxLen∧∀ a ∈ l,zaX8 a):=zah9 Tryz.underlying23 (sz:=16) (by kernel_rfl) (by omega) (aO.len) zcG1
def zce1 (x:aY):Prop:=(fun n:Int=>IntKind.i64.min≤n∧n≤IntKind.i64.max) x.now∧(fun l:List aF=>l.length≤maxLen∧∀ a ∈ l,zbz3 a) x.aM∧(fun l:List aO=>l.length≤maxLen∧∀ a ∈ l,zaX8 a) x.aX
theorem zcG3:zO9 Tryz.prog 25 aY.enc zce1:=by
 intro H enc w base spare held fuel cs x h
 obtain ⟨xs,n,_,_,hlen,hxl,hf⟩:=DataW.trod_struct Tryz.underlying25 h
 have hlen:cs.length=3:=hlen.trans (by kernel_rfl)
 obtain ⟨a0,o0,r0⟩:=fld (sz:=1) hf hxl 0 _ rfl (by kernel_rfl) zK7
 obtain ⟨a1,o1,r1⟩:=fld (sz:=1) hf hxl 1 _ rfl (by kernel_rfl) zcF4
 obtain ⟨a2,o2,r2⟩:=fld (sz:=1) hf hxl 2 _ rfl (by kernel_rfl) zcG2
 refine ⟨⟨a0,a1,a2⟩,⟨o0,o1,o2⟩,?_⟩
 have e:cs=(cs.drop 0).take 1++(cs.drop 1).take 1++(cs.drop 2).take 1:=by
  rcases cs with _|⟨_,_|⟨_,_|⟨_,_|⟨_,_⟩⟩⟩⟩
  all_goals first|rfl|(simp at hlen)
 rw [e]
 exact RCs.append r2 (RCs.append r1 (r0))
set_option maxRecDepth 100000 in
theorem zaQ4 (H:Type) (enc:TypeId×Value→H) (W:World) (base:Nat) (args:Array Value) (ds gs:List (DataW H)) (before:List MemPlace)
  (hval:∀ (j:Nat) t v,Tryz.f3.params[j]? = some t→args[j]? = some v→Value.okWide Tryz.prog W .any base t v)
  (hW:DataW.Whole enc Tryz.prog Tryz.f3.params.toList Rows.waitstateOfSpec.vars false W args.toList ds gs before) (hL:laidMetH Tryz.prog Rows.waitstateOfRow.laid W) :
  Calls Tryz.prog 3 args W fun e W'=>∃ v,e=.returned v∧Rows.waitstateOfSpec.post enc Tryz.prog Tryz.f3 false true false false W args v W':=by
 have hW':=hW
 obtain ⟨p,q,hA0,hV,rfl,hfz,hnd⟩:=hW
 have hA:DataW.TrodAll enc Tryz.prog W 0 (fun _=>true) true Tryz.f3.params.toList args.toList ds p:=hA0
 rw [Tryz.params3] at hA hval
 obtain ⟨v0,vs0,d0,ds0,p0,q0,hargs,rfl,rfl,h0,r0⟩:=trodAll_cons hA
 obtain ⟨rfl,rfl,rfl⟩:=trodAll_nil r0
 obtain rfl:args=#[v0]:=by cases args; simp_all
 obtain ⟨rfl,rfl⟩:=trodVars_none hV
 obtain ⟨x0,o0,hv0⟩:=zcO0 zcG3 Tryz.underlying25 (hval 0 25 v0 rfl rfl) h0
 refine zcE8 Tryz.laidOut (fun t ht=>?_) rfl (by kernel_rfl) Tryz.underlying4 hW' rfl ?_
 ·rw [Tryz.params3] at ht
  simp only [List.mem_cons,List.not_mem_nil,or_false] at ht
  rcases ht with rfl
  all_goals exact ⟨by kernel_rfl,of_decide_eq_true (by kernel_rfl)⟩
 ·have hp:=(zaN4 x0).ok true (zbg4 x0) W (fun _=>False) [v0] (zbL5 zcF0 zcr1 zcr2 zcO1 hL) (fun b h=>h.elim) rfl (fun i v a hv ha=>?_)
  ·exact hp.mono fun e w' ⟨v,he,hk,hr⟩=>⟨v,he,hk,hr.bool⟩
  ·match i,hv,ha with
   | 0,hv,ha=>cases hv; cases ha; exact hv0
   | i+1,hv,ha=>simp at hv
noncomputable def zal4 (os:Os):World :=
 { World.holding Tryz.prog os ⟨#[],#[],[]⟩ with heap:=(World.holding Tryz.prog os ⟨#[],#[],[]⟩).heap.modify 1 fun
   | .cells _ t frozen=>.cells #[.bool true,.bool true,.bool true,.bool true,.bool false,.bool true,.bool true,.bool false,.bool false,.bool false,.bool true,.bool false,.bool true,.bool false,.bool false,.bool true,.bool false,.bool false,.bool false,.bool false,.bool false,.bool false,.bool false,.bool false,.bool false] t frozen
   | o=>o }
theorem zbl5 (os:Os):laidMet Tryz.prog Rows.waitstateOfRow.laid ((zal4 os).forCall (fun _ _=>0) ⟨#[],#[.agg #[.int .i64 0,.slice none 0 0,.slice none 0 0]],[]⟩).memory:=laidMet_of_run' 8 (by kernel_rfl) (by kernel_rfl)
theorem zbb8 (os:Os) {H:Type} (enc:TypeId×Value→H):∃ x,DataW.whole enc Tryz.prog ((zal4 os).forCall (fun _ _=>0) ⟨#[],#[.agg #[.int .i64 0,.slice none 0 0,.slice none 0 0]],[]⟩).memory Tryz.f3.params.toList Rows.waitstateOfSpec.vars false (#[.agg #[.int .i64 0,.slice none 0 0,.slice none 0 0]]:Array Value).toList 8=some x:=Option.isSome_iff_exists.1 (by kernel_rfl)
set_option maxRecDepth 100000 in
theorem zaX9 (os:Os) (started:os.Started) (H:Type) (enc:TypeId×Value→H) (F:Stop.Interp) :
  ReturnsInHanded {} Tryz.checked os 3 .any ((OpenSpec.ofChange Rows.waitstateOfSpec).preRow enc Tryz.prog Tryz.f3 Rows.waitstateOfRow.domain false Rows.waitstateOfRow.laid) (((OpenSpec.ofChange Rows.waitstateOfSpec).at F).post enc Tryz.prog Tryz.f3 false true false false):=by
 obtain ⟨x,hx⟩:=zbb8 os enc
 refine returnsInHanded_of_row (C:=Tryz.checked) (s:=OpenSpec.ofChange Rows.waitstateOfSpec) Tryz.own started (by kernel_rfl) Tryz.func3
  (witness_row_at (enc:=enc) (C:=Tryz.checked) false (zal4 os) #[.agg #[.int .i64 0,.slice none 0 0,.slice none 0 0]] rfl (by kernel_rfl) (by kernel_rfl) (by kernel_rfl)
   (OpenSpec.preRow_of_cond 8 hx (by kernel_rfl) (fun k hk=>by cases hk) (by kernel_rfl) (zbl5 os))) ?_
 intro W base args ds gs before hval hW _ _ _ hL _ _
 exact zaQ4 H enc W base args ds gs before hval hW hL
set_option maxHeartbeats 8000000 in
theorem zbg6:Rows.WaitstateOfSaid :=
 OpenClaim.holds_of_cond 3 Tryz.f3 rfl rfl rfl rfl rfl rfl rfl ⟨rfl,rfl,rfl,rfl,rfl⟩ rfl rfl rfl rfl rfl (by as_aux_lemma=>kernel_rfl) Tryz.func3 (by
   simp only [joinedFacts,Bool.and_eq_true]
   (repeat' apply And.intro)
   all_goals first|with_reducible exact zbz1|(rw [zbg5]; kernel_rfl)|(rw [zce0]; kernel_rfl)|(as_aux_lemma=>kernel_rfl))
  (of_decide_eq_true (by kernel_rfl)) (by unfold Func.isWrapper; first|(rw [if_pos (by decide +kernel)]; kernel_rfl)|(rw [if_neg (by decide +kernel)]; exact ⟨rfl,rfl⟩))
  (fun os started H enc _ F=>by rw [OpenClaim.pre_eq_preRow]; exact zaX9 os started H enc F)
theorem zbb9 (f:FuncId) (fn:Func) (hf:Tryz.pinned.checked.prog.funcNamed "clusterlocks/clusterlockslaw16.WaitstateOf"=some f) (hfn:Tryz.pinned.checked.prog.funcs[f]? = some fn) :
  false=Tryz.pinned.checked.prog.looks []∧∀ (j:Nat) t,fn.params[j]? = some t→Tryz.pinned.checked.prog.wantsStandIn t=false:=by
 obtain rfl:f=3:=Option.some.inj ((show Tryz.prog.funcNamed "clusterlocks/clusterlockslaw16.WaitstateOf"=some 3 by kernel_rfl).symm.trans hf) |>.symm
 obtain rfl:fn=Tryz.f3:=(Option.some.inj (Tryz.func3.symm.trans hfn)).symm
 refine ⟨by kernel_rfl,fun j t ht=>?_⟩
 rw [Tryz.params3] at ht
 have hm:=Array.mem_of_getElem? ht
 simp at hm
 rcases hm with rfl
 all_goals first|with_reducible exact (show Tryz.pinned.checked.prog.wantsStandIn 25=false by kernel_rfl)
theorem WaitstateOf_holds:Rows.WaitstateOfCardSaid :=
 Claim7.holds_tied_plain_at .later [] _ _ _ _ zbg6 (fun _ h=>by cases h) (by as_aux_lemma=>kernel_rfl) (fun _ h=>by cases h) waitstateOf_row_tie rfl ⟨rfl,rfl⟩ (zbL6.trans (by kernel_rfl)) rfl zbb9 (by as_aux_lemma=>kernel_rfl)
end Ab
end Go.Proofs.YtenebhlnfjcffaaGreatDoor
