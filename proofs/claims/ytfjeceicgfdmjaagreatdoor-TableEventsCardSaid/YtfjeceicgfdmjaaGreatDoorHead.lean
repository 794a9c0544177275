/-
  The program's head as a list of letters, and what the door asks of it.
-/
import Derived.Test.YtfjeceicgfdmjaaGreatDoorTop
namespace Go.Proofs.YtfjeceicgfdmjaaGreatDoor
namespace Ab
set_option maxRecDepth 100000
def zaw7 : List Char := [104, 97, 114, 110, 101, 115, 115, 32, 50, 55, 57, 54, 54, 97, 102, 51, 102, 97, 97, 48, 99, 53, 53, 51, 98, 100, 97, 52, 53, 56, 54, 56, 50, 56, 49, 54, 49, 50, 101, 101, 55, 56, 54, 98, 49, 50, 57, 56, 52, 56, 49, 53, 54, 99, 101, 48, 51, 100, 97, 101, 48, 54, 53, 56, 100, 100, 97, 54, 97, 56, 48, 98, 32, 99, 117, 116, 32, 97, 116, 32, 99, 108, 117, 115, 116, 101, 114, 108, 111, 99, 107, 115, 47, 99, 108, 117, 115, 116, 101, 114, 108, 111, 99, 107, 115, 108, 97, 119, 49, 51, 46, 84, 97, 98, 108, 101, 78, 101, 119, 32, 99, 108, 117, 115, 116, 101, 114, 108, 111, 99, 107, 115, 47, 99, 108, 117, 115, 116, 101, 114, 108, 111, 99, 107, 115, 108, 97, 119, 49, 51, 46, 84, 97, 98, 108, 101, 67, 108, 97, 105, 109, 115, 32, 99, 108, 117, 115, 116, 101, 114, 108, 111, 99, 107, 115, 47, 99, 108, 117, 115, 116, 101, 114, 108, 111, 99, 107, 115, 108, 97, 119, 49, 51, 46, 84, 97, 98, 108, 101, 65, 112, 97, 114, 116, 32, 99, 108, 117, 115, 116, 101, 114, 108, 111, 99, 107, 115, 47, 99, 108, 117, 115, 116, 101, 114, 108, 111, 99, 107, 115, 108, 97, 119, 49, 51, 46, 84, 97, 98, 108, 101, 79, 114, 100, 101, 114, 115, 32, 99, 108, 117, 115, 116, 101, 114, 108, 111, 99, 107, 115, 47, 99, 108, 117, 115, 116, 101, 114, 108, 111, 99, 107, 115, 108, 97, 119, 49, 51, 46, 84, 97, 98, 108, 101, 69, 118, 101, 110, 116, 115, 32, 99, 108, 117, 115, 116, 101, 114, 108, 111, 99, 107, 115, 47, 99, 108, 117, 115, 116, 101, 114, 108, 111, 99, 107, 115, 108, 97, 119, 49, 51, 46, 84, 97, 98, 108, 101, 82, 101, 109, 111, 118, 101, 115, 32, 99, 108, 117, 115, 116, 101, 114, 108, 111, 99, 107, 115, 47, 99, 108, 117, 115, 116, 101, 114, 108, 111, 99, 107, 115, 108, 97, 119, 49, 51, 46, 84, 97, 98, 108, 101, 80, 117, 114, 103, 101, 115, 32, 99, 108, 117, 115, 116, 101, 114, 108, 111, 99, 107, 115, 47, 99, 108, 117, 115, 116, 101, 114, 108, 111, 99, 107, 115, 108, 97, 119, 49, 51, 46, 84, 97, 98, 108, 101, 76, 111, 119, 101, 114, 115, 32, 99, 108, 117, 115, 116, 101, 114, 108, 111, 99, 107, 115, 47, 99, 108, 117, 115, 116, 101, 114, 108, 111, 99, 107, 115, 108, 97, 119, 49, 51, 46, 84, 97, 98, 108, 101, 83, 99, 114, 105, 112, 116, 115].map Char.ofNat
theorem zcg7 : ("harness 27966af3faa0c553bda45868281612ee786b129848156ce03dae0658dda6a80b cut at clusterlocks/clusterlockslaw13.TableNew clusterlocks/clusterlockslaw13.TableClaims clusterlocks/clusterlockslaw13.TableApart clusterlocks/clusterlockslaw13.TableOrders clusterlocks/clusterlockslaw13.TableEvents clusterlocks/clusterlockslaw13.TableRemoves clusterlocks/clusterlockslaw13.TablePurges clusterlocks/clusterlockslaw13.TableLowers clusterlocks/clusterlockslaw13.TableScripts" : String) = String.ofList zaw7 := by kernel_rfl
theorem zaH9 : Tryz.prog.initOrder.toList = zaw7 := by
 have e : Tryz.prog.initOrder = String.ofList zaw7 := (show Tryz.prog.initOrder = "harness 27966af3faa0c553bda45868281612ee786b129848156ce03dae0658dda6a80b cut at clusterlocks/clusterlockslaw13.TableNew clusterlocks/clusterlockslaw13.TableClaims clusterlocks/clusterlockslaw13.TableApart clusterlocks/clusterlockslaw13.TableOrders clusterlocks/clusterlockslaw13.TableEvents clusterlocks/clusterlockslaw13.TableRemoves clusterlocks/clusterlockslaw13.TablePurges clusterlocks/clusterlockslaw13.TableLowers clusterlocks/clusterlockslaw13.TableScripts" by kernel_rfl).trans zcg7
 rw [e, String.toList_ofList]
theorem zbf9 : Tryz.prog.mayEnter = true := by
 have k : ∀ Q : Program, Q.initOrder.toList = zaw7 → Q.laysLater = Tryz.prog.laysLater → Q.bearsReflect = Tryz.prog.bearsReflect → Q.doorFits = Tryz.prog.doorFits → Q.mayEnter = true := by
  intro Q h1 h2 h3 h4
  unfold Program.mayEnter
  rw [h1, h2, h3, h4]
  kernel_rfl
 exact k _ zaH9 rfl rfl rfl
theorem zbd9 : Tryz.prog.headLifts = [] := by
 have k : ∀ Q : Program, Q.initOrder.toList = zaw7 → Q.headLifts = [] := by
  intro Q h
  unfold Program.headLifts
  rw [h]
  kernel_rfl
 exact k _ zaH9
theorem zaR8 : Tryz.prog.liftsFinal = false := by
 have k : ∀ Q : Program, Q.initOrder.toList = zaw7 → Q.headLifts = [] → Q.liftsFinal = false := by
  intro Q h h2
  unfold Program.liftsFinal
  rw [h, h2]
  kernel_rfl
 exact k _ zaH9 zbd9
theorem zbL9 : Tryz.prog.make = some .cut := by
 have k : ∀ Q : Program, Q.initOrder.toList = zaw7 → Q.headLifts = [] → Q.make = some .cut := by
  intro Q h h2
  unfold Program.make
  rw [h, h2]
  kernel_rfl
 exact k _ zaH9 zbd9
theorem zby8 : Tryz.prog.mainIs = some (true, (zaw7.drop 8).take 64) := by
 have k : ∀ Q : Program, Q.initOrder.toList = zaw7 → Q.mainIs = some (true, (zaw7.drop 8).take 64) := by
  intro Q h
  unfold Program.mainIs
  rw [h]
  kernel_rfl
 exact k _ zaH9
theorem zbe0 : Tryz.pinned.checked.prog.mayEnter = true := zbf9
theorem zaN1 : Tryz.pinned.checked.prog.liftsFinal = false := zaR8
theorem zbD0 : Tryz.pinned.checked.prog.make = some .cut := zbL9
theorem zbq1 : Tryz.pinned.checked.prog.mainIs = some (true, (zaw7.drop 8).take 64) := zby8
end Ab
end Go.Proofs.YtfjeceicgfdmjaaGreatDoor
