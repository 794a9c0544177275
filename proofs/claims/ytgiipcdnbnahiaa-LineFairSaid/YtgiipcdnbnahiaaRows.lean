/-
  No cell of these rows narrows 'for every input' (looked for: loops, veiled, ifaces, maps, wideKeys, modest, calm, conditions, laid).
  DERIVED. THE GIVEN ROWS OF THIS SEAT. 7 by the template 'for every input the law returns true; each argument reads behind the call as it read before'; 0 by the template 'total and deterministic' (their statements: YtgiipcdnbnahiaaTotals.lean).
  GIVEN WITH THE SEED: the statements are not yours to turn. If you find one false, say at which input.
  Laid BY PROGRAM, IN A SANDBOX (cutbox-rows.mjs): the forced cells as the released guide's own fill.sh prints them over the translation 5e25af05e225be39… (all of the seat's roots in one cut). By AI agents, Wed Nov 11 2026. No macro, syntax, notation, axiom, sorry.
-/
import Derived.Test.YtgiipcdnbnahiaaChecked
import GoSem.Claim
import GoSem.ClaimJoined
import GoSem.ClaimMapViews
import Derived.JoinedTies
import Derived.KernelRfl
namespace Go.Proofs.Ytgiipcdnbnahiaa
/- THE CELL 'sum', in the pinned program and in every row, IS THE sha256 OF THE DUMP (.gsa) THAT YtgiipcdnbnahiaaProg.lean LOADS. Nothing in Lean hashes anything: it is a label: what it is worth is what the hold of that sum in a sandbox is worth. -/
noncomputable def Try.pinned : Pinned := { name := "ytgiipcdnbnahiaa", sum := "5e25af05e225be39132a8503ec7f714b8348c0619a51e0b547768d0b12e5c4dd", checked := Try.checked }
namespace Rows
def none {H : Type} : Left H := { results := [], args := [] }

/-- 'clusterlockslaw11.LineValid': WHATEVER THE INPUT: true; the input reads as it did. -/
def lineValidSpec : ChangeSpec := { name := "lineValid", fn := fun _ => fun
  | [d1, d2] => { results := [.lit (.bool true)], args := [d1, d2] }
  | _ => none }
def lineValidRow : OpenClaim := { program := "ytgiipcdnbnahiaa", sum := "5e25af05e225be39132a8503ec7f714b8348c0619a51e0b547768d0b12e5c4dd", func := "clusterlocks/clusterlockslaw11.LineValid", spec := "lineValid", apart := false }
def LineValidSaid : Prop := lineValidRow.holds Try.pinned (OpenSpec.ofChange lineValidSpec)

/-- ITS FALSE NEIGHBOUR: 'it returns false'. Refute it at one input. -/
def lineValidWrong : ChangeSpec := { name := "lineValid", fn := fun _ => fun
  | [d1, d2] => { results := [.lit (.bool false)], args := [d1, d2] }
  | _ => none }
def LineValidWrongFalsely : Prop := lineValidRow.holds Try.pinned (OpenSpec.ofChange lineValidWrong)

/-- 'clusterlockslaw11.LineInserts': WHATEVER THE INPUT: true; the input reads as it did. -/
def lineInsertsSpec : ChangeSpec := { name := "lineInserts", fn := fun _ => fun
  | [d1, d2] => { results := [.lit (.bool true)], args := [d1, d2] }
  | _ => none }
def lineInsertsRow : OpenClaim := { program := "ytgiipcdnbnahiaa", sum := "5e25af05e225be39132a8503ec7f714b8348c0619a51e0b547768d0b12e5c4dd", func := "clusterlocks/clusterlockslaw11.LineInserts", spec := "lineInserts", apart := false }
def LineInsertsSaid : Prop := lineInsertsRow.holds Try.pinned (OpenSpec.ofChange lineInsertsSpec)

/-- ITS FALSE NEIGHBOUR: 'it returns false'. Refute it at one input. -/
def lineInsertsWrong : ChangeSpec := { name := "lineInserts", fn := fun _ => fun
  | [d1, d2] => { results := [.lit (.bool false)], args := [d1, d2] }
  | _ => none }
def LineInsertsWrongFalsely : Prop := lineInsertsRow.holds Try.pinned (OpenSpec.ofChange lineInsertsWrong)

/-- 'clusterlockslaw11.LineEqual': WHATEVER THE INPUT: true; the input reads as it did. -/
def lineEqualSpec : ChangeSpec := { name := "lineEqual", fn := fun _ => fun
  | [d1, d2] => { results := [.lit (.bool true)], args := [d1, d2] }
  | _ => none }
def lineEqualRow : OpenClaim := { program := "ytgiipcdnbnahiaa", sum := "5e25af05e225be39132a8503ec7f714b8348c0619a51e0b547768d0b12e5c4dd", func := "clusterlocks/clusterlockslaw11.LineEqual", spec := "lineEqual", apart := false }
def LineEqualSaid : Prop := lineEqualRow.holds Try.pinned (OpenSpec.ofChange lineEqualSpec)

/-- ITS FALSE NEIGHBOUR: 'it returns false'. Refute it at one input. -/
def lineEqualWrong : ChangeSpec := { name := "lineEqual", fn := fun _ => fun
  | [d1, d2] => { results := [.lit (.bool false)], args := [d1, d2] }
  | _ => none }
def LineEqualWrongFalsely : Prop := lineEqualRow.holds Try.pinned (OpenSpec.ofChange lineEqualWrong)

/-- 'clusterlockslaw11.LineLooks': WHATEVER THE INPUT: true; the input reads as it did. -/
def lineLooksSpec : ChangeSpec := { name := "lineLooks", fn := fun _ => fun
  | [d1, d2] => { results := [.lit (.bool true)], args := [d1, d2] }
  | _ => none }
def lineLooksRow : OpenClaim := { program := "ytgiipcdnbnahiaa", sum := "5e25af05e225be39132a8503ec7f714b8348c0619a51e0b547768d0b12e5c4dd", func := "clusterlocks/clusterlockslaw11.LineLooks", spec := "lineLooks", apart := false }
def LineLooksSaid : Prop := lineLooksRow.holds Try.pinned (OpenSpec.ofChange lineLooksSpec)

/-- ITS FALSE NEIGHBOUR: 'it returns false'. Refute it at one input. -/
def lineLooksWrong : ChangeSpec := { name := "lineLooks", fn := fun _ => fun
  | [d1, d2] => { results := [.lit (.bool false)], args := [d1, d2] }
  | _ => none }
def LineLooksWrongFalsely : Prop := lineLooksRow.holds Try.pinned (OpenSpec.ofChange lineLooksWrong)

/-- 'clusterlockslaw11.LineKeeps': WHATEVER THE INPUT: true; the input reads as it did. -/
def lineKeepsSpec : ChangeSpec := { name := "lineKeeps", fn := fun _ => fun
  | [d1, d2] => { results := [.lit (.bool true)], args := [d1, d2] }
  | _ => none }
def lineKeepsRow : OpenClaim := { program := "ytgiipcdnbnahiaa", sum := "5e25af05e225be39132a8503ec7f714b8348c0619a51e0b547768d0b12e5c4dd", func := "clusterlocks/clusterlockslaw11.LineKeeps", spec := "lineKeeps", apart := false }
def LineKeepsSaid : Prop := lineKeepsRow.holds Try.pinned (OpenSpec.ofChange lineKeepsSpec)

/-- ITS FALSE NEIGHBOUR: 'it returns false'. Refute it at one input. -/
def lineKeepsWrong : ChangeSpec := { name := "lineKeeps", fn := fun _ => fun
  | [d1, d2] => { results := [.lit (.bool false)], args := [d1, d2] }
  | _ => none }
def LineKeepsWrongFalsely : Prop := lineKeepsRow.holds Try.pinned (OpenSpec.ofChange lineKeepsWrong)

/-- 'clusterlockslaw11.LineFair': WHATEVER THE INPUT: true; the input reads as it did. -/
def lineFairSpec : ChangeSpec := { name := "lineFair", fn := fun _ => fun
  | [d] => { results := [.lit (.bool true)], args := [d] }
  | _ => none }
def lineFairRow : OpenClaim := { program := "ytgiipcdnbnahiaa", sum := "5e25af05e225be39132a8503ec7f714b8348c0619a51e0b547768d0b12e5c4dd", func := "clusterlocks/clusterlockslaw11.LineFair", spec := "lineFair", apart := false }
def LineFairSaid : Prop := lineFairRow.holds Try.pinned (OpenSpec.ofChange lineFairSpec)

/-- ITS FALSE NEIGHBOUR: 'it returns false'. Refute it at one input. -/
def lineFairWrong : ChangeSpec := { name := "lineFair", fn := fun _ => fun
  | [d] => { results := [.lit (.bool false)], args := [d] }
  | _ => none }
def LineFairWrongFalsely : Prop := lineFairRow.holds Try.pinned (OpenSpec.ofChange lineFairWrong)

/-- 'clusterlockslaw11.LineFirst': WHATEVER THE INPUT: true; the input reads as it did. -/
def lineFirstSpec : ChangeSpec := { name := "lineFirst", fn := fun _ => fun
  | [d] => { results := [.lit (.bool true)], args := [d] }
  | _ => none }
def lineFirstRow : OpenClaim := { program := "ytgiipcdnbnahiaa", sum := "5e25af05e225be39132a8503ec7f714b8348c0619a51e0b547768d0b12e5c4dd", func := "clusterlocks/clusterlockslaw11.LineFirst", spec := "lineFirst", apart := false }
def LineFirstSaid : Prop := lineFirstRow.holds Try.pinned (OpenSpec.ofChange lineFirstSpec)

/-- ITS FALSE NEIGHBOUR: 'it returns false'. Refute it at one input. -/
def lineFirstWrong : ChangeSpec := { name := "lineFirst", fn := fun _ => fun
  | [d] => { results := [.lit (.bool false)], args := [d] }
  | _ => none }
def LineFirstWrongFalsely : Prop := lineFirstRow.holds Try.pinned (OpenSpec.ofChange lineFirstWrong)

/- THE SECOND FORM. 'bulk': how many values and letters a reading holds, each counted each time it is reached (what is shared counts as often as it is met; a slice's spare places count too). A statement '..UptoSaid' is the law's where the arguments, and the package variables that the reading takes, are together of bulk at most 1048576: NARROWER than '..Said'. Prove '..Said' where nothing that the law and all that it calls make is longer than what came in: it says more and counts as full. Else prove '..UptoSaid'. A law counts once. -/
mutual
def uptoBulk {H : Type} : DataW H → Nat
  | .lit (.string bytes) => bytes.length + 1
  | .lit _ => 1
  | .nil => 1
  | .ptr d => uptoBulk d + 1
  | .slice elems spare => uptoBulkAll elems + uptoBulkAll spare + 1
  | .agg parts => uptoBulkAll parts + 1
  | .iface _ d => uptoBulk d + 1
  | .map entries => uptoBulkEntries entries + 1
  | .held _ => 1
def uptoBulkAll {H : Type} : List (DataW H) → Nat
  | [] => 0
  | d :: r => uptoBulk d + uptoBulkAll r
def uptoBulkEntries {H : Type} : List (Lit × DataW H) → Nat
  | [] => 0
  | x :: r => uptoBulkEntry x + uptoBulkEntries r
def uptoBulkEntry {H : Type} : Lit × DataW H → Nat
  | (.string bytes, d) => bytes.length + uptoBulk d + 1
  | (_, d) => uptoBulk d + 1
 end
def uptoSmall : (H : Type) → List (DataW H) → Bool := fun _ ds => decide (uptoBulkAll ds ≤ 1048576)
def OpenSpec.upto (s : _root_.Go.ChangeSpec) : _root_.Go.OpenSpec := { _root_.Go.OpenSpec.ofChange s with cond := some uptoSmall }

/-- 'clusterlockslaw11.LineValid', WHERE WHAT IT READS IS OF BULK AT MOST 1048576: true; the input reads as it did. -/
def lineValidUptoRow : OpenClaim := { program := "ytgiipcdnbnahiaa", sum := "5e25af05e225be39132a8503ec7f714b8348c0619a51e0b547768d0b12e5c4dd", func := "clusterlocks/clusterlockslaw11.LineValid", spec := "lineValid", apart := false, narrowed := true }
def LineValidUptoSaid : Prop := lineValidUptoRow.holds Try.pinned (OpenSpec.upto lineValidSpec)

/-- 'clusterlockslaw11.LineInserts', WHERE WHAT IT READS IS OF BULK AT MOST 1048576: true; the input reads as it did. -/
def lineInsertsUptoRow : OpenClaim := { program := "ytgiipcdnbnahiaa", sum := "5e25af05e225be39132a8503ec7f714b8348c0619a51e0b547768d0b12e5c4dd", func := "clusterlocks/clusterlockslaw11.LineInserts", spec := "lineInserts", apart := false, narrowed := true }
def LineInsertsUptoSaid : Prop := lineInsertsUptoRow.holds Try.pinned (OpenSpec.upto lineInsertsSpec)

/-- 'clusterlockslaw11.LineEqual', WHERE WHAT IT READS IS OF BULK AT MOST 1048576: true; the input reads as it did. -/
def lineEqualUptoRow : OpenClaim := { program := "ytgiipcdnbnahiaa", sum := "5e25af05e225be39132a8503ec7f714b8348c0619a51e0b547768d0b12e5c4dd", func := "clusterlocks/clusterlockslaw11.LineEqual", spec := "lineEqual", apart := false, narrowed := true }
def LineEqualUptoSaid : Prop := lineEqualUptoRow.holds Try.pinned (OpenSpec.upto lineEqualSpec)

/-- 'clusterlockslaw11.LineLooks', WHERE WHAT IT READS IS OF BULK AT MOST 1048576: true; the input reads as it did. -/
def lineLooksUptoRow : OpenClaim := { program := "ytgiipcdnbnahiaa", sum := "5e25af05e225be39132a8503ec7f714b8348c0619a51e0b547768d0b12e5c4dd", func := "clusterlocks/clusterlockslaw11.LineLooks", spec := "lineLooks", apart := false, narrowed := true }
def LineLooksUptoSaid : Prop := lineLooksUptoRow.holds Try.pinned (OpenSpec.upto lineLooksSpec)

/-- 'clusterlockslaw11.LineKeeps', WHERE WHAT IT READS IS OF BULK AT MOST 1048576: true; the input reads as it did. -/
def lineKeepsUptoRow : OpenClaim := { program := "ytgiipcdnbnahiaa", sum := "5e25af05e225be39132a8503ec7f714b8348c0619a51e0b547768d0b12e5c4dd", func := "clusterlocks/clusterlockslaw11.LineKeeps", spec := "lineKeeps", apart := false, narrowed := true }
def LineKeepsUptoSaid : Prop := lineKeepsUptoRow.holds Try.pinned (OpenSpec.upto lineKeepsSpec)

/-- 'clusterlockslaw11.LineFair', WHERE WHAT IT READS IS OF BULK AT MOST 1048576: true; the input reads as it did. -/
def lineFairUptoRow : OpenClaim := { program := "ytgiipcdnbnahiaa", sum := "5e25af05e225be39132a8503ec7f714b8348c0619a51e0b547768d0b12e5c4dd", func := "clusterlocks/clusterlockslaw11.LineFair", spec := "lineFair", apart := false, narrowed := true }
def LineFairUptoSaid : Prop := lineFairUptoRow.holds Try.pinned (OpenSpec.upto lineFairSpec)

/-- 'clusterlockslaw11.LineFirst', WHERE WHAT IT READS IS OF BULK AT MOST 1048576: true; the input reads as it did. -/
def lineFirstUptoRow : OpenClaim := { program := "ytgiipcdnbnahiaa", sum := "5e25af05e225be39132a8503ec7f714b8348c0619a51e0b547768d0b12e5c4dd", func := "clusterlocks/clusterlockslaw11.LineFirst", spec := "lineFirst", apart := false, narrowed := true }
def LineFirstUptoSaid : Prop := lineFirstUptoRow.holds Try.pinned (OpenSpec.upto lineFirstSpec)

end Rows
end Go.Proofs.Ytgiipcdnbnahiaa
