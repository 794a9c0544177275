import Derived.Test.YtamndckemppjdaaGreatDoorTpJ
namespace Go.Proofs.YtamndckemppjdaaGreatDoor
namespace Ab
set_option linter.unusedSimpArgs false
set_option linter.unusedVariables false
set_option maxRecDepth 100000
noncomputable section
theorem zcL1:(List.range' (8*24) 8).map (λ s=>bif Nat.ble (pc s) 7 then zo9 (endW false 8) (prs 8) s else none)=(List.range' (8*24) 8).map (λ s=>bif Nat.ble (pc s) 7 then some (decide (pc s=7))else none):=by kernel_rfl
theorem zcL2:(List.range' (8*25) 8).map (λ s=>bif Nat.ble (pc s) 7 then zo9 (endW false 8) (prs 8) s else none)=(List.range' (8*25) 8).map (λ s=>bif Nat.ble (pc s) 7 then some (decide (pc s=7))else none):=by kernel_rfl
theorem zcL3:(List.range' (8*26) 8).map (λ s=>bif Nat.ble (pc s) 7 then zo9 (endW false 8) (prs 8) s else none)=(List.range' (8*26) 8).map (λ s=>bif Nat.ble (pc s) 7 then some (decide (pc s=7))else none):=by kernel_rfl
theorem zcL4:(List.range' (8*27) 8).map (λ s=>bif Nat.ble (pc s) 7 then zo9 (endW false 8) (prs 8) s else none)=(List.range' (8*27) 8).map (λ s=>bif Nat.ble (pc s) 7 then some (decide (pc s=7))else none):=by kernel_rfl
theorem zcL5:(List.range' (8*28) 8).map (λ s=>bif Nat.ble (pc s) 7 then zo9 (endW false 8) (prs 8) s else none)=(List.range' (8*28) 8).map (λ s=>bif Nat.ble (pc s) 7 then some (decide (pc s=7))else none):=by kernel_rfl
theorem zcL6:(List.range' (8*29) 8).map (λ s=>bif Nat.ble (pc s) 7 then zo9 (endW false 8) (prs 8) s else none)=(List.range' (8*29) 8).map (λ s=>bif Nat.ble (pc s) 7 then some (decide (pc s=7))else none):=by kernel_rfl
theorem zcL7:(List.range' (8*30) 8).map (λ s=>bif Nat.ble (pc s) 7 then zo9 (endW false 8) (prs 8) s else none)=(List.range' (8*30) 8).map (λ s=>bif Nat.ble (pc s) 7 then some (decide (pc s=7))else none):=by kernel_rfl
theorem zcL8:(List.range' (8*31) 8).map (λ s=>bif Nat.ble (pc s) 7 then zo9 (endW false 8) (prs 8) s else none)=(List.range' (8*31) 8).map (λ s=>bif Nat.ble (pc s) 7 then some (decide (pc s=7))else none):=by kernel_rfl
end
end Ab
end Go.Proofs.YtamndckemppjdaaGreatDoor
