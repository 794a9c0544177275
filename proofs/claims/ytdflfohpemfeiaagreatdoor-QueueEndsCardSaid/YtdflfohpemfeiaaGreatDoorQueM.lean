/-
  The example of the chapter; results compared.
-/
import Derived.Test.YtdflfohpemfeiaaGreatDoorQueS
import Derived.Test.YtdflfohpemfeiaaGreatDoorMillA
namespace Go.Proofs.YtdflfohpemfeiaaGreatDoor
namespace Ab
set_option linter.unusedVariables false
set_option linter.unusedSimpArgs false
theorem law12_same_eq (a : Queue) (g : List Hold) (c : Int) (b : Queue) (g' : List Hold) (c' : Int) (h1 : a.holds.length < 4611686018427387904) (h2 : a.converts.length < 4611686018427387904) (h3 : a.waits.length < 4611686018427387904)
  (h4 : g.length < 4611686018427387904) : f_law12_same a g c b g' c' = some (decide (c = c') && (decide (a = b) && decide (g = g'))) := by
 unfold f_law12_same
 simp only [ref12_Same_eq a b h1 h2 h3, sameHolds_eq' g g' h4]
 cases decide (c = c') <;> cases decide (a = b) <;> cases decide (g = g') <;> rfl
def aR : Resource := ⟨⟨#[97]⟩, 1, 1, 0⟩
def aQ0 : Queue := { Queue.zero with resource := aR }
def aP0 : Proc := ⟨0, 1, 1⟩
def aP1 : Proc := ⟨1, 1, 1⟩
def aP2 : Proc := ⟨2, 1, 1⟩
def aQ1 : Queue := ⟨aR, [⟨aP0, ⟨3, 0⟩⟩], [], [], 1⟩
def aQ2 : Queue := ⟨aR, [⟨aP0, ⟨3, 0⟩⟩, ⟨aP1, ⟨3, 0⟩⟩], [], [], 2⟩
def aQ3 : Queue := ⟨aR, [⟨aP0, ⟨3, 0⟩⟩, ⟨aP1, ⟨3, 0⟩⟩], [], [⟨aP2, ⟨5, 0⟩, 0, 0⟩], 3⟩
def aQ4 : Queue := ⟨aR, [⟨aP0, ⟨3, 0⟩⟩, ⟨aP1, ⟨3, 0⟩⟩], [⟨aP0, ⟨5, 0⟩, 0, 0⟩], [⟨aP2, ⟨5, 0⟩, 0, 0⟩], 4⟩
def aQ5 : Queue := ⟨aR, [⟨aP0, ⟨5, 0⟩⟩], [], [⟨aP2, ⟨5, 0⟩, 0, 0⟩], 5⟩
theorem awake12 : f_law12_awake = some true := by
 unfold f_law12_awake
 have p0 : procM 0 = aP0 := by decide
 have p1 : procM 1 = aP1 := by decide
 have p2 : procM 2 = aP2 := by decide
 have e4 : newQ ({ Resource.zero with name := (⟨#[97]⟩ : ByteArray), kind := 1, units := 1 }) = (aQ0, 0) := by decide +kernel
 have e5 : claimS aQ0 aP0 ({ Amount.zero with mode := 3 }) 0 = (aQ1, [⟨aP0, ⟨3, 0⟩⟩], 0) := by decide +kernel
 have e6 : claimS aQ1 aP1 ({ Amount.zero with mode := 3 }) 0 = (aQ2, [⟨aP1, ⟨3, 0⟩⟩], 0) := by decide +kernel
 have e7 : claimS aQ2 aP2 ({ Amount.zero with mode := 5 }) 0 = (aQ3, [], 0) := by decide +kernel
 have e8 : claimS aQ3 aP0 ({ Amount.zero with mode := 5 }) 0 = (aQ4, [], 0) := by decide +kernel
 have e9 : removeS aQ4 aP1 = (aQ5, [⟨aP0, ⟨5, 0⟩⟩], 0) := by decide +kernel
 simp only [mill_Proc_eq, Option.bind_some, p0, p1, p2, queue_New_eq, e4, queue_Claim_eq, e5, e6, e7, e8, queue_Remove_eq, e9]
 rw [queue_Order_eq aQ4 (by decide) (by decide), Option.bind_some, queue_Held_eq aQ5 _ (by decide), queue_Valid_eq]
 decide +kernel
theorem same_self (x : Queue × List Hold × Int) (h : ShortR x) : f_law12_same x.1 x.2.1 x.2.2 x.1 x.2.1 x.2.2 = some true := by
 obtain ⟨h1, h2, h3, h4⟩ := h
 rw [law12_same_eq _ _ _ _ _ _ (by omega) (by omega) (by omega) (by omega)]
 simp
end Ab
end Go.Proofs.YtdflfohpemfeiaaGreatDoor
