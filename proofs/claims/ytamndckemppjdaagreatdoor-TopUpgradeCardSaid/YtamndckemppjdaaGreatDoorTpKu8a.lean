import Derived.Test.YtamndckemppjdaaGreatDoorTpJ
namespace Go.Proofs.YtamndckemppjdaaGreatDoor
namespace Ab
set_option linter.unusedSimpArgs false
set_option linter.unusedVariables false
set_option maxRecDepth 100000
noncomputable section
theorem zdk3:(List.range' (8*0) 8).map (λ s=>bif Nat.ble (pc s) 7 then zo9 (endW false 8) (prs 8) s else none)=(List.range' (8*0) 8).map (λ s=>bif Nat.ble (pc s) 7 then some (decide (pc s=7))else none):=by kernel_rfl
theorem zdk4:(List.range' (8*1) 8).map (λ s=>bif Nat.ble (pc s) 7 then zo9 (endW false 8) (prs 8) s else none)=(List.range' (8*1) 8).map (λ s=>bif Nat.ble (pc s) 7 then some (decide (pc s=7))else none):=by kernel_rfl
theorem zdk5:(List.range' (8*2) 8).map (λ s=>bif Nat.ble (pc s) 7 then zo9 (endW false 8) (prs 8) s else none)=(List.range' (8*2) 8).map (λ s=>bif Nat.ble (pc s) 7 then some (decide (pc s=7))else none):=by kernel_rfl
theorem zdk6:(List.range' (8*3) 8).map (λ s=>bif Nat.ble (pc s) 7 then zo9 (endW false 8) (prs 8) s else none)=(List.range' (8*3) 8).map (λ s=>bif Nat.ble (pc s) 7 then some (decide (pc s=7))else none):=by kernel_rfl
theorem zdk7:(List.range' (8*4) 8).map (λ s=>bif Nat.ble (pc s) 7 then zo9 (endW false 8) (prs 8) s else none)=(List.range' (8*4) 8).map (λ s=>bif Nat.ble (pc s) 7 then some (decide (pc s=7))else none):=by kernel_rfl
theorem zdk8:(List.range' (8*5) 8).map (λ s=>bif Nat.ble (pc s) 7 then zo9 (endW false 8) (prs 8) s else none)=(List.range' (8*5) 8).map (λ s=>bif Nat.ble (pc s) 7 then some (decide (pc s=7))else none):=by kernel_rfl
theorem zdk9:(List.range' (8*6) 8).map (λ s=>bif Nat.ble (pc s) 7 then zo9 (endW false 8) (prs 8) s else none)=(List.range' (8*6) 8).map (λ s=>bif Nat.ble (pc s) 7 then some (decide (pc s=7))else none):=by kernel_rfl
theorem zdl0:(List.range' (8*7) 8).map (λ s=>bif Nat.ble (pc s) 7 then zo9 (endW false 8) (prs 8) s else none)=(List.range' (8*7) 8).map (λ s=>bif Nat.ble (pc s) 7 then some (decide (pc s=7))else none):=by kernel_rfl
end
end Ab
end Go.Proofs.YtamndckemppjdaaGreatDoor
