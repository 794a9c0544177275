import Derived.Test.YtamndckemppjdaaGreatDoorTpJ
namespace Go.Proofs.YtamndckemppjdaaGreatDoor
namespace Ab
set_option linter.unusedSimpArgs false
set_option linter.unusedVariables false
set_option maxRecDepth 100000
noncomputable section
theorem zcK3:(List.range' (8*16) 8).map (λ s=>bif Nat.ble (pc s) 7 then zo9 (endW false 8) (prs 8) s else none)=(List.range' (8*16) 8).map (λ s=>bif Nat.ble (pc s) 7 then some (decide (pc s=7))else none):=by kernel_rfl
theorem zcK4:(List.range' (8*17) 8).map (λ s=>bif Nat.ble (pc s) 7 then zo9 (endW false 8) (prs 8) s else none)=(List.range' (8*17) 8).map (λ s=>bif Nat.ble (pc s) 7 then some (decide (pc s=7))else none):=by kernel_rfl
theorem zcK5:(List.range' (8*18) 8).map (λ s=>bif Nat.ble (pc s) 7 then zo9 (endW false 8) (prs 8) s else none)=(List.range' (8*18) 8).map (λ s=>bif Nat.ble (pc s) 7 then some (decide (pc s=7))else none):=by kernel_rfl
theorem zcK6:(List.range' (8*19) 8).map (λ s=>bif Nat.ble (pc s) 7 then zo9 (endW false 8) (prs 8) s else none)=(List.range' (8*19) 8).map (λ s=>bif Nat.ble (pc s) 7 then some (decide (pc s=7))else none):=by kernel_rfl
theorem zcK7:(List.range' (8*20) 8).map (λ s=>bif Nat.ble (pc s) 7 then zo9 (endW false 8) (prs 8) s else none)=(List.range' (8*20) 8).map (λ s=>bif Nat.ble (pc s) 7 then some (decide (pc s=7))else none):=by kernel_rfl
theorem zcK8:(List.range' (8*21) 8).map (λ s=>bif Nat.ble (pc s) 7 then zo9 (endW false 8) (prs 8) s else none)=(List.range' (8*21) 8).map (λ s=>bif Nat.ble (pc s) 7 then some (decide (pc s=7))else none):=by kernel_rfl
theorem zcK9:(List.range' (8*22) 8).map (λ s=>bif Nat.ble (pc s) 7 then zo9 (endW false 8) (prs 8) s else none)=(List.range' (8*22) 8).map (λ s=>bif Nat.ble (pc s) 7 then some (decide (pc s=7))else none):=by kernel_rfl
theorem zcL0:(List.range' (8*23) 8).map (λ s=>bif Nat.ble (pc s) 7 then zo9 (endW false 8) (prs 8) s else none)=(List.range' (8*23) 8).map (λ s=>bif Nat.ble (pc s) 7 then some (decide (pc s=7))else none):=by kernel_rfl
end
end Ab
end Go.Proofs.YtamndckemppjdaaGreatDoor
