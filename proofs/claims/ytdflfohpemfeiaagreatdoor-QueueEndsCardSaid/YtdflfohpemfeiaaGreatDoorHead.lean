/-
  The program's head as a list of letters, and what the door asks of it.
-/
import Derived.Test.YtdflfohpemfeiaaGreatDoorTop
namespace Go.Proofs.YtdflfohpemfeiaaGreatDoor
namespace Ab
set_option maxRecDepth 100000
def headL : List Char := [104, 97, 114, 110, 101, 115, 115, 32, 99, 52, 52, 55, 52, 99, 57, 97, 51, 101, 100, 102, 101, 98, 98, 57, 57, 48, 100, 99, 99, 48, 98, 50, 102, 98, 56, 100, 98, 102, 57, 48, 99, 98, 98, 57, 98, 99, 53, 102, 53, 97, 102, 53, 48, 100, 56, 49, 55, 53, 53, 98, 55, 52, 102, 49, 48, 48, 98, 48, 56, 57, 54, 54, 32, 99, 117, 116, 32, 97, 116, 32, 99, 108, 117, 115, 116, 101, 114, 108, 111, 99, 107, 115, 47, 99, 108, 117, 115, 116, 101, 114, 108, 111, 99, 107, 115, 108, 97, 119, 49, 50, 46, 81, 117, 101, 117, 101, 86, 97, 108, 105, 100, 32, 99, 108, 117, 115, 116, 101, 114, 108, 111, 99, 107, 115, 47, 99, 108, 117, 115, 116, 101, 114, 108, 111, 99, 107, 115, 108, 97, 119, 49, 50, 46, 81, 117, 101, 117, 101, 67, 108, 97, 105, 109, 115, 32, 99, 108, 117, 115, 116, 101, 114, 108, 111, 99, 107, 115, 47, 99, 108, 117, 115, 116, 101, 114, 108, 111, 99, 107, 115, 108, 97, 119, 49, 50, 46, 81, 117, 101, 117, 101, 79, 114, 100, 101, 114, 115, 32, 99, 108, 117, 115, 116, 101, 114, 108, 111, 99, 107, 115, 47, 99, 108, 117, 115, 116, 101, 114, 108, 111, 99, 107, 115, 108, 97, 119, 49, 50, 46, 81, 117, 101, 117, 101, 77, 111, 110, 111, 116, 111, 110, 101, 32, 99, 108, 117, 115, 116, 101, 114, 108, 111, 99, 107, 115, 47, 99, 108, 117, 115, 116, 101, 114, 108, 111, 99, 107, 115, 108, 97, 119, 49, 50, 46, 81, 117, 101, 117, 101, 76, 97, 116, 101, 114, 32, 99, 108, 117, 115, 116, 101, 114, 108, 111, 99, 107, 115, 47, 99, 108, 117, 115, 116, 101, 114, 108, 111, 99, 107, 115, 108, 97, 119, 49, 50, 46, 81, 117, 101, 117, 101, 67, 111, 118, 101, 114, 101, 100, 32, 99, 108, 117, 115, 116, 101, 114, 108, 111, 99, 107, 115, 47, 99, 108, 117, 115, 116, 101, 114, 108, 111, 99, 107, 115, 108, 97, 119, 49, 50, 46, 81, 117, 101, 117, 101, 69, 110, 100, 115, 32, 99, 108, 117, 115, 116, 101, 114, 108, 111, 99, 107, 115, 47, 99, 108, 117, 115, 116, 101, 114, 108, 111, 99, 107, 115, 108, 97, 119, 49, 50, 46, 81, 117, 101, 117, 101, 65, 100, 118, 97, 110, 99, 101, 115, 32, 99, 108, 117, 115, 116, 101, 114, 108, 111, 99, 107, 115, 47, 99, 108, 117, 115, 116, 101, 114, 108, 111, 99, 107, 115, 108, 97, 119, 49, 50, 46, 81, 117, 101, 117, 101, 67, 97, 110, 99, 101, 108, 115, 32, 99, 108, 117, 115, 116, 101, 114, 108, 111, 99, 107, 115, 47, 99, 108, 117, 115, 116, 101, 114, 108, 111, 99, 107, 115, 108, 97, 119, 49, 50, 46, 81, 117, 101, 117, 101, 76, 111, 119, 101, 114, 115, 32, 99, 108, 117, 115, 116, 101, 114, 108, 111, 99, 107, 115, 47, 99, 108, 117, 115, 116, 101, 114, 108, 111, 99, 107, 115, 108, 97, 119, 49, 50, 46, 81, 117, 101, 117, 101, 83, 99, 114, 105, 112, 116, 115, 32, 99, 108, 117, 115, 116, 101, 114, 108, 111, 99, 107, 115, 47, 99, 108, 117, 115, 116, 101, 114, 108, 111, 99, 107, 115, 108, 97, 119, 49, 50, 46, 81, 117, 101, 117, 101, 83, 97, 102, 101, 32, 99, 108, 117, 115, 116, 101, 114, 108, 111, 99, 107, 115, 47, 99, 108, 117, 115, 116, 101, 114, 108, 111, 99, 107, 115, 108, 97, 119, 49, 50, 46, 81, 117, 101, 117, 101, 66, 108, 111, 99, 107, 101, 100, 32, 99, 108, 117, 115, 116, 101, 114, 108, 111, 99, 107, 115, 47, 99, 108, 117, 115, 116, 101, 114, 108, 111, 99, 107, 115, 108, 97, 119, 49, 50, 46, 81, 117, 101, 117, 101, 79, 118, 101, 114, 116, 97, 107, 101, 115].map Char.ofNat
theorem head_lit : ("harness c4474c9a3edfebb990dcc0b2fb8dbf90cbb9bc5f5af50d81755b74f100b08966 cut at clusterlocks/clusterlockslaw12.QueueValid clusterlocks/clusterlockslaw12.QueueClaims clusterlocks/clusterlockslaw12.QueueOrders clusterlocks/clusterlockslaw12.QueueMonotone clusterlocks/clusterlockslaw12.QueueLater clusterlocks/clusterlockslaw12.QueueCovered clusterlocks/clusterlockslaw12.QueueEnds clusterlocks/clusterlockslaw12.QueueAdvances clusterlocks/clusterlockslaw12.QueueCancels clusterlocks/clusterlockslaw12.QueueLowers clusterlocks/clusterlockslaw12.QueueScripts clusterlocks/clusterlockslaw12.QueueSafe clusterlocks/clusterlockslaw12.QueueBlocked clusterlocks/clusterlockslaw12.QueueOvertakes" : String) = String.ofList headL := by kernel_rfl
theorem head_is : Tryz.prog.initOrder.toList = headL := by
  have e : Tryz.prog.initOrder = String.ofList headL := (show Tryz.prog.initOrder = "harness c4474c9a3edfebb990dcc0b2fb8dbf90cbb9bc5f5af50d81755b74f100b08966 cut at clusterlocks/clusterlockslaw12.QueueValid clusterlocks/clusterlockslaw12.QueueClaims clusterlocks/clusterlockslaw12.QueueOrders clusterlocks/clusterlockslaw12.QueueMonotone clusterlocks/clusterlockslaw12.QueueLater clusterlocks/clusterlockslaw12.QueueCovered clusterlocks/clusterlockslaw12.QueueEnds clusterlocks/clusterlockslaw12.QueueAdvances clusterlocks/clusterlockslaw12.QueueCancels clusterlocks/clusterlockslaw12.QueueLowers clusterlocks/clusterlockslaw12.QueueScripts clusterlocks/clusterlockslaw12.QueueSafe clusterlocks/clusterlockslaw12.QueueBlocked clusterlocks/clusterlockslaw12.QueueOvertakes" by kernel_rfl).trans head_lit
  rw [e, String.toList_ofList]
theorem head_mayEnter : Tryz.prog.mayEnter = true := by
  have k : ∀ Q : Program, Q.initOrder.toList = headL → Q.laysLater = Tryz.prog.laysLater → Q.bearsReflect = Tryz.prog.bearsReflect → Q.doorFits = Tryz.prog.doorFits → Q.mayEnter = true := by
    intro Q h1 h2 h3 h4
    unfold Program.mayEnter
    rw [h1, h2, h3, h4]
    kernel_rfl
  exact k _ head_is rfl rfl rfl
theorem head_lifts : Tryz.prog.headLifts = [] := by
  have k : ∀ Q : Program, Q.initOrder.toList = headL → Q.headLifts = [] := by
    intro Q h
    unfold Program.headLifts
    rw [h]
    kernel_rfl
  exact k _ head_is
theorem head_liftsFinal : Tryz.prog.liftsFinal = false := by
  have k : ∀ Q : Program, Q.initOrder.toList = headL → Q.headLifts = [] → Q.liftsFinal = false := by
    intro Q h h2
    unfold Program.liftsFinal
    rw [h, h2]
    kernel_rfl
  exact k _ head_is head_lifts
theorem head_make : Tryz.prog.make = some .cut := by
  have k : ∀ Q : Program, Q.initOrder.toList = headL → Q.headLifts = [] → Q.make = some .cut := by
    intro Q h h2
    unfold Program.make
    rw [h, h2]
    kernel_rfl
  exact k _ head_is head_lifts
theorem head_mainIs : Tryz.prog.mainIs = some (true, (headL.drop 8).take 64) := by
  have k : ∀ Q : Program, Q.initOrder.toList = headL → Q.mainIs = some (true, (headL.drop 8).take 64) := by
    intro Q h
    unfold Program.mainIs
    rw [h]
    kernel_rfl
  exact k _ head_is
theorem head_mayEnter' : Tryz.pinned.checked.prog.mayEnter = true := head_mayEnter
theorem head_liftsFinal' : Tryz.pinned.checked.prog.liftsFinal = false := head_liftsFinal
theorem head_make' : Tryz.pinned.checked.prog.make = some .cut := head_make
theorem head_mainIs' : Tryz.pinned.checked.prog.mainIs = some (true, (headL.drop 8).take 64) := head_mainIs
end Ab
end Go.Proofs.YtdflfohpemfeiaaGreatDoor
