import Derived.Test.YtamndckemppjdaaGreatDoorTpI
import Derived.Test.YtamndckemppjdaaGreatDoorTpKr8
namespace Go.Proofs.YtamndckemppjdaaGreatDoor
namespace Ab
set_option linter.unusedSimpArgs false
set_option linter.unusedVariables false
set_option maxRecDepth 100000
noncomputable section
theorem zbw4(a0:Int)(a1:List Int):zP6 a0 a1=some true:=by
 by_cases h:a0<2\/8<a0
 .have d:(decide (a0<2)||decide (8<a0))=true:=by simpa using h
  unfold zP6;rw[d,cQ rfl,zaX1];rfl
 .obtain⟨n,rfl⟩:=gN (show 0<=a0 by omega);have h1:2<=n/\n<=8:=by omega
  match n,h1 with
  |2,h=>exact zak2 h r2_F r2_R a1
  |3,h=>exact zak2 h r3_F r3_R a1
  |4,h=>exact zak2 h r4_F r4_R a1
  |5,h=>exact zak2 h r5_F r5_R a1
  |6,h=>exact zak2 h r6_F r6_R a1
  |7,h=>exact zak2 h r7_F r7_R a1
  |8,h=>exact zak2 h r8_F r8_R a1
  |0,h=>exact absurd h.1 (by decide)
  |1,h=>exact absurd h.1 (by decide)
  |n+9,h=>exact absurd h.2 (by omega)
end
end Ab
end Go.Proofs.YtamndckemppjdaaGreatDoor
