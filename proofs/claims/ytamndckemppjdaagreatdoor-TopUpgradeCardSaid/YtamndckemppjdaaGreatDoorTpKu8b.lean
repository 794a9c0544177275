import Derived.Test.YtamndckemppjdaaGreatDoorTpJ
namespace Go.Proofs.YtamndckemppjdaaGreatDoor
namespace Ab
set_option linter.unusedSimpArgs false
set_option linter.unusedVariables false
set_option maxRecDepth 100000
noncomputable section
theorem zdl1:(List.range' (8*8) 8).map (λ s=>bif Nat.ble (pc s) 7 then zo9 (endW false 8) (prs 8) s else none)=(List.range' (8*8) 8).map (λ s=>bif Nat.ble (pc s) 7 then some (decide (pc s=7))else none):=by kernel_rfl
theorem zdl2:(List.range' (8*9) 8).map (λ s=>bif Nat.ble (pc s) 7 then zo9 (endW false 8) (prs 8) s else none)=(List.range' (8*9) 8).map (λ s=>bif Nat.ble (pc s) 7 then some (decide (pc s=7))else none):=by kernel_rfl
theorem zcJ7:(List.range' (8*10) 8).map (λ s=>bif Nat.ble (pc s) 7 then zo9 (endW false 8) (prs 8) s else none)=(List.range' (8*10) 8).map (λ s=>bif Nat.ble (pc s) 7 then some (decide (pc s=7))else none):=by kernel_rfl
theorem zcJ8:(List.range' (8*11) 8).map (λ s=>bif Nat.ble (pc s) 7 then zo9 (endW false 8) (prs 8) s else none)=(List.range' (8*11) 8).map (λ s=>bif Nat.ble (pc s) 7 then some (decide (pc s=7))else none):=by kernel_rfl
theorem zcJ9:(List.range' (8*12) 8).map (λ s=>bif Nat.ble (pc s) 7 then zo9 (endW false 8) (prs 8) s else none)=(List.range' (8*12) 8).map (λ s=>bif Nat.ble (pc s) 7 then some (decide (pc s=7))else none):=by kernel_rfl
theorem zcK0:(List.range' (8*13) 8).map (λ s=>bif Nat.ble (pc s) 7 then zo9 (endW false 8) (prs 8) s else none)=(List.range' (8*13) 8).map (λ s=>bif Nat.ble (pc s) 7 then some (decide (pc s=7))else none):=by kernel_rfl
theorem zcK1:(List.range' (8*14) 8).map (λ s=>bif Nat.ble (pc s) 7 then zo9 (endW false 8) (prs 8) s else none)=(List.range' (8*14) 8).map (λ s=>bif Nat.ble (pc s) 7 then some (decide (pc s=7))else none):=by kernel_rfl
theorem zcK2:(List.range' (8*15) 8).map (λ s=>bif Nat.ble (pc s) 7 then zo9 (endW false 8) (prs 8) s else none)=(List.range' (8*15) 8).map (λ s=>bif Nat.ble (pc s) 7 then some (decide (pc s=7))else none):=by kernel_rfl
end
end Ab
end Go.Proofs.YtamndckemppjdaaGreatDoor
