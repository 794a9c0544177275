/-
  HomeHears returns true for every input (Hear returns what is specified, for arbitrary homes and messages, and for any messages one after the other); no condition.
-/
import Derived.Test.YtdlfhmkmnjbihaaGreatDoorHyB
import Derived.Test.YtdlfhmkmnjbihaaGreatDoorDoor
import Derived.Test.YtdlfhmkmnjbihaaGreatDoorCards
import Derived.Test.YtdlfhmkmnjbihaaGreatDoorTie
import Derived.Test.YtdlfhmkmnjbihaaGreatDoorHead
import Derived.Deep.DeepHandedRow
/-
  HomeHears:the statement.
-/
namespace Go.Proofs.YtdlfhmkmnjbihaaGreatDoor
namespace Ab
open Go.ChangeShapes Go.WideShapes Go.ChangeAt Go.RowKit
set_option linter.unusedVariables false
theorem Tryz.own:ownKnob Tryz.prog.godebug=none:=by kernel_rfl
theorem Tryz.laidOut:laidOutB Tryz.prog=true:=by kernel_rfl
theorem zdE6:Tryz.prog.globalNamed "clusterlocks/message.fields"=some 0:=by kernel_rfl
theorem zdo3:(Tryz.prog.globals[0]?).map (·.type)=some 172:=by kernel_rfl
theorem zdo4:Lits Tryz.prog 172:=zbD5 (n:=16) (sz:=1) Tryz.underlying172 (by kernel_rfl) (by kernel_rfl) (zcP3 Tryz.underlying9)
theorem zdQ3:lits (Rows.laid_clusterlocks_message_fields (H:=Unit))=some (Arr.enc eS zz1):=by rfl
theorem zdE7:Tryz.prog.globalNamed "clusterlocks/mode.together"=some 1:=by kernel_rfl
theorem zdo5:(Tryz.prog.globals[1]?).map (·.type)=some 273:=by kernel_rfl
theorem zdo6:Lits Tryz.prog 273:=zbD5 (n:=5) (sz:=5) Tryz.underlying273 (by kernel_rfl) (by kernel_rfl) (zbD5 (n:=5) (sz:=1) Tryz.underlying272 (by kernel_rfl) (by kernel_rfl) (zdo1 Tryz.underlying4))
theorem zdQ4:lits (Rows.laid_clusterlocks_mode_together (H:=Unit))=some (Arr.enc (Arr.enc eB) zcy1):=by rfl
theorem zcC2:zQ8 Tryz.prog 9 eS (λ s:ByteArray=>s.size<=maxLen):=zdn8 Tryz.underlying9
theorem zG7:zQ8 Tryz.prog 3 (eI .i64) (λ n:Int=>IntKind.i64.min<=n/\n<=IntKind.i64.max):=zdn7 Tryz.underlying3
def zbT1(x:aD):Prop:=(λ s:ByteArray=>s.size<=maxLen) x.name/\(λ n:Int=>IntKind.i64.min<=n/\n<=IntKind.i64.max) x.kind/\(λ n:Int=>IntKind.i64.min<=n/\n<=IntKind.i64.max) x.aV/\(λ n:Int=>IntKind.i64.min<=n/\n<=IntKind.i64.max) x.home
theorem zdE8:zQ8 Tryz.prog 62 aD.enc zbT1:=by
 intro H enc w base spare held fuel cs x h;obtain⟨xs,n,_,_,hlen,hxl,hf⟩:=DataW.trod_struct Tryz.underlying62 h;have hlen:cs.length=4:=hlen.trans (by kernel_rfl);obtain⟨a0,o0,r0⟩:=fld (sz:=1) hf hxl 0 _ rfl (by kernel_rfl) zcC2;obtain⟨a1,o1,r1⟩:=fld (sz:=1) hf hxl 1 _ rfl (by kernel_rfl) zG7;obtain⟨a2,o2,r2⟩:=fld (sz:=1) hf hxl 2 _ rfl (by kernel_rfl) zG7;obtain⟨a3,o3,r3⟩:=fld (sz:=1) hf hxl 3 _ rfl (by kernel_rfl) zG7;refine⟨⟨a0,a1,a2,a3⟩,⟨o0,o1,o2,o3⟩,?_⟩;have e:cs=(cs.drop 0).take 1++(cs.drop 1).take 1++(cs.drop 2).take 1++(cs.drop 3).take 1:=by
  rcases cs with _|⟨_,_|⟨_,_|⟨_,_|⟨_,_|⟨_,_⟩⟩⟩⟩⟩
  all_goals first|rfl|(simp at hlen)
 rw[e];exact RCs.append r3 (RCs.append r2 (RCs.append r1 (r0)))
def zbg8(x:aF):Prop:=(λ n:Int=>IntKind.i64.min<=n/\n<=IntKind.i64.max) x.site/\(λ n:Int=>IntKind.i64.min<=n/\n<=IntKind.i64.max) x.inc/\(λ n:Int=>IntKind.i64.min<=n/\n<=IntKind.i64.max) x.num
theorem zbd3:zQ8 Tryz.prog 35 aF.enc zbg8:=by
 intro H enc w base spare held fuel cs x h;obtain⟨xs,n,_,_,hlen,hxl,hf⟩:=DataW.trod_struct Tryz.underlying35 h;have hlen:cs.length=3:=hlen.trans (by kernel_rfl);obtain⟨a0,o0,r0⟩:=fld (sz:=1) hf hxl 0 _ rfl (by kernel_rfl) zG7;obtain⟨a1,o1,r1⟩:=fld (sz:=1) hf hxl 1 _ rfl (by kernel_rfl) zG7;obtain⟨a2,o2,r2⟩:=fld (sz:=1) hf hxl 2 _ rfl (by kernel_rfl) zG7;refine⟨⟨a0,a1,a2⟩,⟨o0,o1,o2⟩,?_⟩;have e:cs=(cs.drop 0).take 1++(cs.drop 1).take 1++(cs.drop 2).take 1:=by
  rcases cs with _|⟨_,_|⟨_,_|⟨_,_|⟨_,_⟩⟩⟩⟩
  all_goals first|rfl|(simp at hlen)
 rw[e];exact RCs.append r2 (RCs.append r1 (r0))
def zbu3(x:aC):Prop:=(λ n:Int=>IntKind.i64.min<=n/\n<=IntKind.i64.max) x.mode/\(λ n:Int=>IntKind.i64.min<=n/\n<=IntKind.i64.max) x.aV
theorem zcm5:zQ8 Tryz.prog 37 aC.enc zbu3:=by
 intro H enc w base spare held fuel cs x h;obtain⟨xs,n,_,_,hlen,hxl,hf⟩:=DataW.trod_struct Tryz.underlying37 h;have hlen:cs.length=2:=hlen.trans (by kernel_rfl);obtain⟨a0,o0,r0⟩:=fld (sz:=1) hf hxl 0 _ rfl (by kernel_rfl) zG7;obtain⟨a1,o1,r1⟩:=fld (sz:=1) hf hxl 1 _ rfl (by kernel_rfl) zG7;refine⟨⟨a0,a1⟩,⟨o0,o1⟩,?_⟩;have e:cs=(cs.drop 0).take 1++(cs.drop 1).take 1:=by
  rcases cs with _|⟨_,_|⟨_,_|⟨_,_⟩⟩⟩
  all_goals first|rfl|(simp at hlen)
 rw[e];exact RCs.append r1 (r0)
def zcC3(x:aT):Prop:=zbg8 x.aI/\zbu3 x.aJ
theorem zdo7:zQ8 Tryz.prog 161 aT.enc zcC3:=by
 intro H enc w base spare held fuel cs x h;obtain⟨xs,n,_,_,hlen,hxl,hf⟩:=DataW.trod_struct Tryz.underlying161 h;have hlen:cs.length=5:=hlen.trans (by kernel_rfl);obtain⟨a0,o0,r0⟩:=fld (sz:=3) hf hxl 0 _ rfl (by kernel_rfl) zbd3;obtain⟨a1,o1,r1⟩:=fld (sz:=2) hf hxl 1 _ rfl (by kernel_rfl) zcm5;refine⟨⟨a0,a1⟩,⟨o0,o1⟩,?_⟩;have e:cs=(cs.drop 0).take 3++(cs.drop 3).take 2:=by
  rcases cs with _|⟨_,_|⟨_,_|⟨_,_|⟨_,_|⟨_,_|⟨_,_⟩⟩⟩⟩⟩⟩
  all_goals first|rfl|(simp at hlen)
 rw[e];exact RCs.append r1 (r0)
theorem zdE9:zQ8 Tryz.prog 63 (eL aT.enc) (λ l:List aT=>l.length<=maxLen/\∀a∈l,zcC3 a):=zag0 Tryz.underlying63 (sz:=5) (by kernel_rfl) (by omega) (aT.len) zdo7
def zbX8(x:aM):Prop:=zbg8 x.aI/\zbu3 x.aJ/\(λ n:Int=>IntKind.i64.min<=n/\n<=IntKind.i64.max) x.aX/\(λ n:Int=>IntKind.i64.min<=n/\n<=IntKind.i64.max) x.bG
theorem zdo8:zQ8 Tryz.prog 125 aM.enc zbX8:=by
 intro H enc w base spare held fuel cs x h;obtain⟨xs,n,_,_,hlen,hxl,hf⟩:=DataW.trod_struct Tryz.underlying125 h;have hlen:cs.length=7:=hlen.trans (by kernel_rfl);obtain⟨a0,o0,r0⟩:=fld (sz:=3) hf hxl 0 _ rfl (by kernel_rfl) zbd3;obtain⟨a1,o1,r1⟩:=fld (sz:=2) hf hxl 1 _ rfl (by kernel_rfl) zcm5;obtain⟨a2,o2,r2⟩:=fld (sz:=1) hf hxl 2 _ rfl (by kernel_rfl) zG7;obtain⟨a3,o3,r3⟩:=fld (sz:=1) hf hxl 3 _ rfl (by kernel_rfl) zG7;refine⟨⟨a0,a1,a2,a3⟩,⟨o0,o1,o2,o3⟩,?_⟩;have e:cs=(cs.drop 0).take 3++(cs.drop 3).take 2++(cs.drop 5).take 1++(cs.drop 6).take 1:=by
  rcases cs with _|⟨_,_|⟨_,_|⟨_,_|⟨_,_|⟨_,_|⟨_,_|⟨_,_|⟨_,_⟩⟩⟩⟩⟩⟩⟩⟩
  all_goals first|rfl|(simp at hlen)
 rw[e];exact RCs.append r3 (RCs.append r2 (RCs.append r1 (r0)))
theorem zcP6:zQ8 Tryz.prog 64 (eL aM.enc) (λ l:List aM=>l.length<=maxLen/\∀a∈l,zbX8 a):=zag0 Tryz.underlying64 (sz:=7) (by kernel_rfl) (by omega) (aM.len) zdo8
def zbJ1(x:aA):Prop:=zbT1 x.aB/\(λ l:List aT=>l.length<=maxLen/\∀a∈l,zcC3 a) x.aL/\(λ l:List aM=>l.length<=maxLen/\∀a∈l,zbX8 a) x.aH/\(λ l:List aM=>l.length<=maxLen/\∀a∈l,zbX8 a) x.aU/\(λ n:Int=>IntKind.i64.min<=n/\n<=IntKind.i64.max) x.gen
theorem zdF0:zQ8 Tryz.prog 66 aA.enc zbJ1:=by
 intro H enc w base spare held fuel cs x h;obtain⟨xs,n,_,_,hlen,hxl,hf⟩:=DataW.trod_struct Tryz.underlying66 h;have hlen:cs.length=8:=hlen.trans (by kernel_rfl);obtain⟨a0,o0,r0⟩:=fld (sz:=4) hf hxl 0 _ rfl (by kernel_rfl) zdE8;obtain⟨a1,o1,r1⟩:=fld (sz:=1) hf hxl 1 _ rfl (by kernel_rfl) zdE9;obtain⟨a2,o2,r2⟩:=fld (sz:=1) hf hxl 2 _ rfl (by kernel_rfl) zcP6;obtain⟨a3,o3,r3⟩:=fld (sz:=1) hf hxl 3 _ rfl (by kernel_rfl) zcP6;obtain⟨a4,o4,r4⟩:=fld (sz:=1) hf hxl 4 _ rfl (by kernel_rfl) zG7;refine⟨⟨a0,a1,a2,a3,a4⟩,⟨o0,o1,o2,o3,o4⟩,?_⟩;have e:cs=(cs.drop 0).take 4++(cs.drop 4).take 1++(cs.drop 5).take 1++(cs.drop 6).take 1++(cs.drop 7).take 1:=by
  rcases cs with _|⟨_,_|⟨_,_|⟨_,_|⟨_,_|⟨_,_|⟨_,_|⟨_,_|⟨_,_|⟨_,_⟩⟩⟩⟩⟩⟩⟩⟩⟩
  all_goals first|rfl|(simp at hlen)
 rw[e];exact RCs.append r4 (RCs.append r3 (RCs.append r2 (RCs.append r1 (r0))))
theorem zcP7:zQ8 Tryz.prog 23 (eL aA.enc) (λ l:List aA=>l.length<=maxLen/\∀a∈l,zbJ1 a):=zag0 Tryz.underlying23 (sz:=8) (by kernel_rfl) (by omega) (aA.len) zdF0
def zcY9(x:bF):Prop:=zbg8 x.aI/\(λ s:ByteArray=>s.size<=maxLen) x.name/\(λ n:Int=>IntKind.i64.min<=n/\n<=IntKind.i64.max) x.gen
theorem zdF1:zQ8 Tryz.prog 92 bF.enc zcY9:=by
 intro H enc w base spare held fuel cs x h;obtain⟨xs,n,_,_,hlen,hxl,hf⟩:=DataW.trod_struct Tryz.underlying92 h;have hlen:cs.length=5:=hlen.trans (by kernel_rfl);obtain⟨a0,o0,r0⟩:=fld (sz:=3) hf hxl 0 _ rfl (by kernel_rfl) zbd3;obtain⟨a1,o1,r1⟩:=fld (sz:=1) hf hxl 1 _ rfl (by kernel_rfl) zcC2;obtain⟨a2,o2,r2⟩:=fld (sz:=1) hf hxl 2 _ rfl (by kernel_rfl) zG7;refine⟨⟨a0,a1,a2⟩,⟨o0,o1,o2⟩,?_⟩;have e:cs=(cs.drop 0).take 3++(cs.drop 3).take 1++(cs.drop 4).take 1:=by
  rcases cs with _|⟨_,_|⟨_,_|⟨_,_|⟨_,_|⟨_,_|⟨_,_⟩⟩⟩⟩⟩⟩
  all_goals first|rfl|(simp at hlen)
 rw[e];exact RCs.append r2 (RCs.append r1 (r0))
theorem zdF2:zQ8 Tryz.prog 24 (eL bF.enc) (λ l:List bF=>l.length<=maxLen/\∀a∈l,zcY9 a):=zag0 Tryz.underlying24 (sz:=5) (by kernel_rfl) (by omega) (bF.len) zdF1
def zdQ5(x:bC):Prop:=(λ l:List aA=>l.length<=maxLen/\∀a∈l,zbJ1 a) x.aG/\(λ l:List bF=>l.length<=maxLen/\∀a∈l,zcY9 a) x.tags
theorem zdF3:zQ8 Tryz.prog 26 bC.enc zdQ5:=by
 intro H enc w base spare held fuel cs x h;obtain⟨xs,n,_,_,hlen,hxl,hf⟩:=DataW.trod_struct Tryz.underlying26 h;have hlen:cs.length=2:=hlen.trans (by kernel_rfl);obtain⟨a0,o0,r0⟩:=fld (sz:=1) hf hxl 0 _ rfl (by kernel_rfl) zcP7;obtain⟨a1,o1,r1⟩:=fld (sz:=1) hf hxl 1 _ rfl (by kernel_rfl) zdF2;refine⟨⟨a0,a1⟩,⟨o0,o1⟩,?_⟩;have e:cs=(cs.drop 0).take 1++(cs.drop 1).take 1:=by
  rcases cs with _|⟨_,_|⟨_,_|⟨_,_⟩⟩⟩
  all_goals first|rfl|(simp at hlen)
 rw[e];exact RCs.append r1 (r0)
def zbX9(x:aO):Prop:=(λ s:ByteArray=>s.size<=maxLen) x.name/\zbu3 x.aJ
theorem zcm6:zQ8 Tryz.prog 39 aO.enc zbX9:=by
 intro H enc w base spare held fuel cs x h;obtain⟨xs,n,_,_,hlen,hxl,hf⟩:=DataW.trod_struct Tryz.underlying39 h;have hlen:cs.length=3:=hlen.trans (by kernel_rfl);obtain⟨a0,o0,r0⟩:=fld (sz:=1) hf hxl 0 _ rfl (by kernel_rfl) zcC2;obtain⟨a1,o1,r1⟩:=fld (sz:=2) hf hxl 1 _ rfl (by kernel_rfl) zcm5;refine⟨⟨a0,a1⟩,⟨o0,o1⟩,?_⟩;have e:cs=(cs.drop 0).take 1++(cs.drop 1).take 2:=by
  rcases cs with _|⟨_,_|⟨_,_|⟨_,_|⟨_,_⟩⟩⟩⟩
  all_goals first|rfl|(simp at hlen)
 rw[e];exact RCs.append r1 (r0)
theorem zdQ6:zQ8 Tryz.prog 4 eB (λ _:Bool=>True):=zcY6 Tryz.underlying4
theorem zdo9:zQ8 Tryz.prog 103 aZ.enc (λ _:aZ=>True):=zcP2 λ k ih=>by
 intro H enc w base spare held cs x h;obtain⟨xs,n,hk,_,hlen,hxl,hf⟩:=DataW.trod_struct Tryz.underlying103 h;have hlen:cs.length=5:=hlen.trans (by kernel_rfl);obtain⟨a0,o0,r0⟩:=fld (sz:=1) hf hxl 0 _ rfl (by kernel_rfl) zG7;obtain⟨a1,o1,r1⟩:=fld (sz:=3) hf hxl 1 _ rfl (by kernel_rfl) zcm6;obtain⟨a2,o2,r2⟩:=zdZ8 (sz:=1) hf hxl 2 _ rfl (by kernel_rfl) (zbr7 Tryz.underlying101 (sz:=5) (by kernel_rfl) (by omega) aZ.len (λ m hm=>ih m (by omega)));refine⟨⟨a0,a1,a2⟩,trivial,?_⟩;have e:cs=(cs.drop 0).take 1++(cs.drop 1).take 3++(cs.drop 4).take 1:=by
  rcases cs with _|⟨_,_|⟨_,_|⟨_,_|⟨_,_|⟨_,_|⟨_,_⟩⟩⟩⟩⟩⟩
  all_goals first|rfl|(simp at hlen)
 rw[e];rw[show aZ.enc ⟨a0,a1,a2⟩=[A.int .i64 a0]++aO.enc a1++[A.sl (a2.map aZ.enc)]from by simp[aZ.enc,aO.enc,aC.enc]];exact RCs.append r2 (RCs.append r1 (r0))
def zcC4(x:bI):Prop:=zbg8 x.aI/\(λ _:aZ=>True) x.bK/\(λ n:Int=>IntKind.i64.min<=n/\n<=IntKind.i64.max) x.gen
theorem zdp0:zQ8 Tryz.prog 105 bI.enc zcC4:=by
 intro H enc w base spare held fuel cs x h;obtain⟨xs,n,_,_,hlen,hxl,hf⟩:=DataW.trod_struct Tryz.underlying105 h;have hlen:cs.length=9:=hlen.trans (by kernel_rfl);obtain⟨a0,o0,r0⟩:=fld (sz:=3) hf hxl 0 _ rfl (by kernel_rfl) zbd3;obtain⟨a1,o1,r1⟩:=fld (sz:=5) hf hxl 1 _ rfl (by kernel_rfl) zdo9;obtain⟨a2,o2,r2⟩:=fld (sz:=1) hf hxl 2 _ rfl (by kernel_rfl) zG7;refine⟨⟨a0,a1,a2⟩,⟨o0,o1,o2⟩,?_⟩;have e:cs=(cs.drop 0).take 3++(cs.drop 3).take 5++(cs.drop 8).take 1:=by
  rcases cs with _|⟨_,_|⟨_,_|⟨_,_|⟨_,_|⟨_,_|⟨_,_|⟨_,_|⟨_,_|⟨_,_|⟨_,_⟩⟩⟩⟩⟩⟩⟩⟩⟩⟩
  all_goals first|rfl|(simp at hlen)
 rw[e];rw[show bI.enc ⟨a0,a1,a2⟩=aF.enc a0++aZ.enc a1++[A.int .i64 a2]from by simp[bI.enc]];exact RCs.append r2 (RCs.append r1 (r0))
theorem zdF4:zQ8 Tryz.prog 40 (eL bI.enc) (λ l:List bI=>l.length<=maxLen/\∀a∈l,zcC4 a):=zag0 Tryz.underlying40 (sz:=9) (by kernel_rfl) (by omega) (bI.len) zdp0
def zbJ2(x:aS):Prop:=(λ l:List aA=>l.length<=maxLen/\∀a∈l,zbJ1 a) x.aG/\(λ l:List bI=>l.length<=maxLen/\∀a∈l,zcC4 a) x.bA
theorem zdF5:zQ8 Tryz.prog 42 aS.enc zbJ2:=by
 intro H enc w base spare held fuel cs x h;obtain⟨xs,n,_,_,hlen,hxl,hf⟩:=DataW.trod_struct Tryz.underlying42 h;have hlen:cs.length=2:=hlen.trans (by kernel_rfl);obtain⟨a0,o0,r0⟩:=fld (sz:=1) hf hxl 0 _ rfl (by kernel_rfl) zcP7;obtain⟨a1,o1,r1⟩:=fld (sz:=1) hf hxl 1 _ rfl (by kernel_rfl) zdF4;refine⟨⟨a0,a1⟩,⟨o0,o1⟩,?_⟩;have e:cs=(cs.drop 0).take 1++(cs.drop 1).take 1:=by
  rcases cs with _|⟨_,_|⟨_,_|⟨_,_⟩⟩⟩
  all_goals first|rfl|(simp at hlen)
 rw[e];exact RCs.append r1 (r0)
theorem zdp1:zQ8 Tryz.prog 189 (eL aO.enc) (λ l:List aO=>l.length<=maxLen/\∀a∈l,zbX9 a):=zag0 Tryz.underlying189 (sz:=3) (by kernel_rfl) (by omega) (aO.len) zcm6
def zaO2(x:bB):Prop:=zbg8 x.aI/\(λ n:Int=>IntKind.i64.min<=n/\n<=IntKind.i64.max) x.label/\(λ n:Int=>IntKind.i64.min<=n/\n<=IntKind.i64.max) x.cost/\(λ l:List aO=>l.length<=maxLen/\∀a∈l,zbX9 a) x.lower
theorem zdp2:zQ8 Tryz.prog 191 bB.enc zaO2:=by
 intro H enc w base spare held fuel cs x h;obtain⟨xs,n,_,_,hlen,hxl,hf⟩:=DataW.trod_struct Tryz.underlying191 h;have hlen:cs.length=6:=hlen.trans (by kernel_rfl);obtain⟨a0,o0,r0⟩:=fld (sz:=3) hf hxl 0 _ rfl (by kernel_rfl) zbd3;obtain⟨a1,o1,r1⟩:=fld (sz:=1) hf hxl 1 _ rfl (by kernel_rfl) zG7;obtain⟨a2,o2,r2⟩:=fld (sz:=1) hf hxl 2 _ rfl (by kernel_rfl) zG7;obtain⟨a3,o3,r3⟩:=fld (sz:=1) hf hxl 3 _ rfl (by kernel_rfl) zdp1;refine⟨⟨a0,a1,a2,a3⟩,⟨o0,o1,o2,o3⟩,?_⟩;have e:cs=(cs.drop 0).take 3++(cs.drop 3).take 1++(cs.drop 4).take 1++(cs.drop 5).take 1:=by
  rcases cs with _|⟨_,_|⟨_,_|⟨_,_|⟨_,_|⟨_,_|⟨_,_|⟨_,_⟩⟩⟩⟩⟩⟩⟩
  all_goals first|rfl|(simp at hlen)
 rw[e];exact RCs.append r3 (RCs.append r2 (RCs.append r1 (r0)))
theorem zdF6:zQ8 Tryz.prog 43 (eL bB.enc) (λ l:List bB=>l.length<=maxLen/\∀a∈l,zaO2 a):=zag0 Tryz.underlying43 (sz:=6) (by kernel_rfl) (by omega) (bB.len) zdp2
def zbD6(x:aK):Prop:=(λ n:Int=>IntKind.i64.min<=n/\n<=IntKind.i64.max) x.kind/\zbg8 x.aI/\(λ n:Int=>IntKind.i64.min<=n/\n<=IntKind.i64.max) x.gen/\zbX9 x.aW/\(λ n:Int=>IntKind.i64.min<=n/\n<=IntKind.i64.max) x.aX/\(λ n:Int=>IntKind.i64.min<=n/\n<=IntKind.i64.max) x.inc/\(λ n:Int=>IntKind.i64.min<=n/\n<=IntKind.i64.max) x.round/\(λ n:Int=>IntKind.i64.min<=n/\n<=IntKind.i64.max) x.epoch/\(λ n:Int=>IntKind.i64.min<=n/\n<=IntKind.i64.max) x.site/\(λ n:Int=>IntKind.i64.min<=n/\n<=IntKind.i64.max) x.label/\(λ _:Bool=>True) x.done/\zbJ2 x.state/\(λ l:List bB=>l.length<=maxLen/\∀a∈l,zaO2 a) x.options
theorem zdF7:zQ8 Tryz.prog 45 aK.enc zbD6:=by
 intro H enc w base spare held fuel cs x h;obtain⟨xs,n,_,_,hlen,hxl,hf⟩:=DataW.trod_struct Tryz.underlying45 h;have hlen:cs.length=18:=hlen.trans (by kernel_rfl);obtain⟨a0,o0,r0⟩:=fld (sz:=1) hf hxl 0 _ rfl (by kernel_rfl) zG7;obtain⟨a1,o1,r1⟩:=fld (sz:=3) hf hxl 1 _ rfl (by kernel_rfl) zbd3;obtain⟨a2,o2,r2⟩:=fld (sz:=1) hf hxl 2 _ rfl (by kernel_rfl) zG7;obtain⟨a3,o3,r3⟩:=fld (sz:=3) hf hxl 3 _ rfl (by kernel_rfl) zcm6;obtain⟨a4,o4,r4⟩:=fld (sz:=1) hf hxl 4 _ rfl (by kernel_rfl) zG7;obtain⟨a5,o5,r5⟩:=fld (sz:=1) hf hxl 5 _ rfl (by kernel_rfl) zG7;obtain⟨a6,o6,r6⟩:=fld (sz:=1) hf hxl 6 _ rfl (by kernel_rfl) zG7;obtain⟨a7,o7,r7⟩:=fld (sz:=1) hf hxl 7 _ rfl (by kernel_rfl) zG7;obtain⟨a8,o8,r8⟩:=fld (sz:=1) hf hxl 8 _ rfl (by kernel_rfl) zG7;obtain⟨a9,o9,r9⟩:=fld (sz:=1) hf hxl 9 _ rfl (by kernel_rfl) zG7;obtain⟨a10,o10,r10⟩:=fld (sz:=1) hf hxl 10 _ rfl (by kernel_rfl) zdQ6;obtain⟨a11,o11,r11⟩:=fld (sz:=2) hf hxl 11 _ rfl (by kernel_rfl) zdF5;obtain⟨a12,o12,r12⟩:=fld (sz:=1) hf hxl 12 _ rfl (by kernel_rfl) zdF6;refine⟨⟨a0,a1,a2,a3,a4,a5,a6,a7,a8,a9,a10,a11,a12⟩,⟨o0,o1,o2,o3,o4,o5,o6,o7,o8,o9,o10,o11,o12⟩,?_⟩;have e:cs=(cs.drop 0).take 1++(cs.drop 1).take 3++(cs.drop 4).take 1++(cs.drop 5).take 3++(cs.drop 8).take 1++(cs.drop 9).take 1++(cs.drop 10).take 1++(cs.drop 11).take 1++(cs.drop 12).take 1++(cs.drop 13).take 1++(cs.drop 14).take 1++(cs.drop 15).take 2++(cs.drop 17).take 1:=by
  rcases cs with _|⟨_,_|⟨_,_|⟨_,_|⟨_,_|⟨_,_|⟨_,_|⟨_,_|⟨_,_|⟨_,_|⟨_,_|⟨_,_|⟨_,_|⟨_,_|⟨_,_|⟨_,_|⟨_,_|⟨_,_|⟨_,_|⟨_,_⟩⟩⟩⟩⟩⟩⟩⟩⟩⟩⟩⟩⟩⟩⟩⟩⟩⟩⟩
  all_goals first|(simp at hlen;done)|simp
 rw[e];rw[show aK.enc ⟨a0,a1,a2,a3,a4,a5,a6,a7,a8,a9,a10,a11,a12⟩=[A.int .i64 a0]++aF.enc a1++[A.int .i64 a2]++aO.enc a3++[A.int .i64 a4]++[A.int .i64 a5]++[A.int .i64 a6]++[A.int .i64 a7]++[A.int .i64 a8]++[A.int .i64 a9]++[A.bool a10]++aS.enc a11++[A.sl (a12.map bB.enc)]from by simp[aK.enc]];exact RCs.append r12 (RCs.append r11 (RCs.append r10 (RCs.append r9 (RCs.append r8 (RCs.append r7 (RCs.append r6 (RCs.append r5 (RCs.append r4 (RCs.append r3 (RCs.append r2 (RCs.append r1 (r0))))))))))))
theorem zdF8:zQ8 Tryz.prog 46 (eL (eI .i64)) (λ l:List Int=>l.length<=maxLen/\∀a∈l,(λ n:Int=>IntKind.i64.min<=n/\n<=IntKind.i64.max) a):=zag0 Tryz.underlying46 (sz:=1) (by kernel_rfl) (by omega) (λ _=>rfl) zG7
theorem zcm7(x0:bC)(x1:aK)(x2:List Int){P0 P2:Prop}(o0:P0)(o1:zbD6 x1)(o2:P2):zJ6 x0 x1 x2=some true:=
 hHp x0 x1 x2 λ o ho=>by unfold zbD6 at o1;have h:=o1.2.2.2.2.2.2.2.2.2.2.2.2.2 o ho;unfold zaO2 at h;have e:maxLen=9223372036854775807:=rfl;have k:=h.2.2.2.1;omega
set_option maxRecDepth 100000 in
theorem zbD7(H:Type)(enc:TypeId×Value->H)(W:World)(base:Nat)(args:Array Value)(ds gs:List (DataW H))(before:List MemPlace)
  (hval:∀(j:Nat) t v,Tryz.f4.params[j]? =some t->args[j]? =some v->Value.okWide Tryz.prog W .any base t v)
  (hW:DataW.Whole enc Tryz.prog Tryz.f4.params.toList Rows.homeHearsSpec.vars false W args.toList ds gs before) (hL:laidMetH Tryz.prog Rows.homeHearsRow.laid W):
  Calls Tryz.prog 4 args W λ e W'=>∃v,e=.returned v/\Rows.homeHearsSpec.post enc Tryz.prog Tryz.f4 false true false false W args v W':=by
 have hW':=hW;obtain⟨p,q,hA0,hV,rfl,hfz,hnd⟩:=hW;have hA:DataW.TrodAll enc Tryz.prog W 0 (λ _=>true) true Tryz.f4.params.toList args.toList ds p:=hA0;rw[Tryz.params4]at hA hval;obtain⟨v0,vs0,d0,ds0,p0,q0,hargs,rfl,rfl,h0,r0⟩:=trodAll_cons hA;obtain⟨v1,vs1,d1,ds1,p1,q1,rfl,rfl,rfl,h1,r1⟩:=trodAll_cons r0;obtain⟨v2,vs2,d2,ds2,p2,q2,rfl,rfl,rfl,h2,r2⟩:=trodAll_cons r1;obtain⟨rfl,rfl,rfl⟩:=trodAll_nil r2;obtain rfl:args=#[v0,v1,v2]:=by cases args;simp_all
 obtain⟨rfl,rfl⟩:=trodVars_none hV;obtain⟨x0,o0,hv0⟩:=zdf1 zdF3 Tryz.underlying26 (hval 0 26 v0 rfl rfl) h0;obtain⟨x1,o1,hv1⟩:=zdf1 zdF7 Tryz.underlying45 (hval 1 45 v1 rfl rfl) h1;obtain⟨x2,o2,hv2⟩:=zdQ2 (f:=λ x=>.sl (x.map (eI .i64))) zdF8 (λ _=>rfl) (zdo0 Tryz.underlying46 (hval 2 46 v2 rfl rfl)) h2;refine zdE4 Tryz.laidOut (λ t ht=>?_) rfl (by kernel_rfl) Tryz.underlying4 hW' rfl ?_
 .rw[Tryz.params4]at ht;simp only[List.mem_cons,List.not_mem_nil,or_false]at ht;rcases ht with rfl|rfl|rfl
  all_goals exact⟨by kernel_rfl,of_decide_eq_true (by kernel_rfl)⟩
 .have hp:=(zbA3 x0 x1 x2).ok true (zcm7 x0 x1 x2 o0 o1 o2) W (λ _=>False) [v0,v1,v2] (zcP4 zdE7 zdo5 zdo6 zdQ4 zdE6 zdo3 zdo4 zdQ3 hL) (λ b h=>h.elim) rfl (λ i v a hv ha=>?_)
  .exact hp.mono λ e w' ⟨v,he,hk,hr⟩=>⟨v,he,hk,hr.bool⟩
  .match i,hv,ha with
   |0,hv,ha=>cases hv;cases ha;exact hv0
   |1,hv,ha=>cases hv;cases ha;exact hv1
   |2,hv,ha=>cases hv;cases ha;exact hv2
   |i+3,hv,ha=>simp at hv
noncomputable def HomeHears_world (os : Os) : World :=
  { World.holding Tryz.prog os ⟨#[], #[], []⟩ with heap := (Array.modify (Array.modify (World.holding Tryz.prog os ⟨#[], #[], []⟩).heap 1 (fun | .cells _ t frozen => .cells #[.bool true, .bool true, .bool true, .bool true, .bool false, .bool true, .bool true, .bool false, .bool false, .bool false, .bool true, .bool false, .bool true, .bool false, .bool false, .bool true, .bool false, .bool false, .bool false, .bool false, .bool false, .bool false, .bool false, .bool false, .bool false] t frozen | o => o)) 0 (fun | .cells _ t frozen => .cells #[.string ⟨#[]⟩, .string ⟨#[80, 71, 65, 89]⟩, .string ⟨#[80, 71, 97]⟩, .string ⟨#[80, 71, 97, 68]⟩, .string ⟨#[80, 71, 65]⟩, .string ⟨#[83, 73]⟩, .string ⟨#[82]⟩, .string ⟨#[82, 78, 79]⟩, .string ⟨#[82]⟩, .string ⟨#[82, 76]⟩, .string ⟨#[82, 69, 80, 71, 66]⟩, .string ⟨#[82, 80, 68]⟩, .string ⟨#[69, 83]⟩, .string ⟨#[69]⟩, .string ⟨#[69]⟩, .string ⟨#[69]⟩] t frozen | o => o)) }
theorem zcp9(os:Os):laidMet Tryz.prog Rows.homeHearsRow.laid ((HomeHears_world os).forCall (λ _ _=>0) ⟨#[],#[.agg #[.slice none 0 0,.slice none 0 0],.agg #[.int .i64 0,.int .i64 0,.int .i64 0,.int .i64 0,.int .i64 0,.string ⟨#[]⟩,.int .i64 0,.int .i64 0,.int .i64 0,.int .i64 0,.int .i64 0,.int .i64 0,.int .i64 0,.int .i64 0,.bool false,.slice none 0 0,.slice none 0 0,.slice none 0 0],.slice none 0 0],[]⟩).memory:=laidMet_of_run' 8 (by kernel_rfl) (by kernel_rfl)
theorem zbV8(os:Os){H:Type}(enc:TypeId×Value->H):∃x,DataW.whole enc Tryz.prog ((HomeHears_world os).forCall (λ _ _=>0) ⟨#[],#[.agg #[.slice none 0 0,.slice none 0 0],.agg #[.int .i64 0,.int .i64 0,.int .i64 0,.int .i64 0,.int .i64 0,.string ⟨#[]⟩,.int .i64 0,.int .i64 0,.int .i64 0,.int .i64 0,.int .i64 0,.int .i64 0,.int .i64 0,.int .i64 0,.bool false,.slice none 0 0,.slice none 0 0,.slice none 0 0],.slice none 0 0],[]⟩).memory Tryz.f4.params.toList Rows.homeHearsSpec.vars false (#[.agg #[.slice none 0 0,.slice none 0 0],.agg #[.int .i64 0,.int .i64 0,.int .i64 0,.int .i64 0,.int .i64 0,.string ⟨#[]⟩,.int .i64 0,.int .i64 0,.int .i64 0,.int .i64 0,.int .i64 0,.int .i64 0,.int .i64 0,.int .i64 0,.bool false,.slice none 0 0,.slice none 0 0,.slice none 0 0],.slice none 0 0]:Array Value).toList 8=some x:=Option.isSome_iff_exists.1 (by kernel_rfl)
set_option maxRecDepth 100000 in
theorem zbP4(os:Os)(started:os.Started)(H:Type)(enc:TypeId×Value->H)(F:Stop.Interp):
  ReturnsInHanded {} Tryz.checked os 4 .any ((OpenSpec.ofChange Rows.homeHearsSpec).preRow enc Tryz.prog Tryz.f4 Rows.homeHearsRow.domain false Rows.homeHearsRow.laid) (((OpenSpec.ofChange Rows.homeHearsSpec).at F).post enc Tryz.prog Tryz.f4 false true false false):=by
 obtain⟨x,hx⟩:=zbV8 os enc;refine returnsInHanded_of_row (C:=Tryz.checked) (s:=OpenSpec.ofChange Rows.homeHearsSpec) Tryz.own started (by kernel_rfl) Tryz.func4
  (witness_row_at (enc:=enc) (C:=Tryz.checked) false (HomeHears_world os) #[.agg #[.slice none 0 0,.slice none 0 0],.agg #[.int .i64 0,.int .i64 0,.int .i64 0,.int .i64 0,.int .i64 0,.string ⟨#[]⟩,.int .i64 0,.int .i64 0,.int .i64 0,.int .i64 0,.int .i64 0,.int .i64 0,.int .i64 0,.int .i64 0,.bool false,.slice none 0 0,.slice none 0 0,.slice none 0 0],.slice none 0 0] rfl (by kernel_rfl) (by kernel_rfl) (by kernel_rfl)
   (OpenSpec.preRow_of_cond 8 hx (by kernel_rfl) (λ k hk=>by cases hk) (by kernel_rfl) (zcp9 os))) ?_
 intro W base args ds gs before hval hW _ _ _ hL _ _;exact zbD7 H enc W base args ds gs before hval hW hL
set_option maxHeartbeats 8000000 in
theorem zcm8:Rows.HomeHearsSaid:=
 OpenClaim.holds_of_cond 4 Tryz.f4 rfl rfl rfl rfl rfl rfl rfl ⟨rfl,rfl,rfl,rfl,rfl⟩ rfl rfl rfl rfl rfl (by as_aux_lemma=>kernel_rfl) Tryz.func4 (by
   simp only[joinedFacts,Bool.and_eq_true]
   (repeat' apply And.intro)
   all_goals first|with_reducible exact zcm4|(rw[zbP3];kernel_rfl)|(rw[zcY8];kernel_rfl)|(as_aux_lemma=>kernel_rfl))
  (of_decide_eq_true (by kernel_rfl)) (by unfold Func.isWrapper;first|(rw[if_pos (by decide+kernel)];kernel_rfl)|(rw[if_neg (by decide+kernel)];exact⟨rfl,rfl⟩))
  (λ os started H enc _ F=>by rw[OpenClaim.pre_eq_preRow];exact zbP4 os started H enc F)
theorem HomeHears_plain(f:FuncId)(fn:Func)(hf:Tryz.pinned.checked.prog.funcNamed "clusterlocks/clusterlockslaw32.HomeHears"=some f)(hfn:Tryz.pinned.checked.prog.funcs[f]? =some fn):
  false=Tryz.pinned.checked.prog.looks []/\∀(j:Nat) t,fn.params[j]? =some t->Tryz.pinned.checked.prog.wantsStandIn t=false:=by
 obtain rfl:f=4:=Option.some.inj ((show Tryz.prog.funcNamed "clusterlocks/clusterlockslaw32.HomeHears"=some 4 by kernel_rfl).symm.trans hf)|>.symm;obtain rfl:fn=Tryz.f4:=(Option.some.inj (Tryz.func4.symm.trans hfn)).symm;refine⟨by kernel_rfl,λ j t ht=>?_⟩;rw[Tryz.params4]at ht;have hm:=Array.mem_of_getElem? ht;simp at hm;rcases hm with rfl|rfl|rfl
 all_goals first|with_reducible exact(show Tryz.pinned.checked.prog.wantsStandIn 26=false by kernel_rfl)|with_reducible exact(show Tryz.pinned.checked.prog.wantsStandIn 45=false by kernel_rfl)|with_reducible exact(show Tryz.pinned.checked.prog.wantsStandIn 46=false by kernel_rfl)
theorem HomeHears_holds:Rows.HomeHearsCardSaid:=
 Claim7.holds_tied_plain_at .later [] _ _ _ _ zcm8 (λ _ h=>by cases h) (by as_aux_lemma=>kernel_rfl) (λ _ h=>by cases h) homeHears_row_tie rfl ⟨rfl,rfl⟩ (zcC1.trans (by kernel_rfl)) rfl HomeHears_plain (by as_aux_lemma=>kernel_rfl)
end Ab
end Go.Proofs.YtdlfhmkmnjbihaaGreatDoor
