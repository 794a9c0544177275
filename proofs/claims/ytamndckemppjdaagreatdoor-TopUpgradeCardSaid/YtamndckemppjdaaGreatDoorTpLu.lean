import Derived.Test.YtamndckemppjdaaGreatDoorTpJ
import Derived.Test.YtamndckemppjdaaGreatDoorTpKu6
import Derived.Test.YtamndckemppjdaaGreatDoorTpKu7
import Derived.Test.YtamndckemppjdaaGreatDoorTpKu8
namespace Go.Proofs.YtamndckemppjdaaGreatDoor
namespace Ab
set_option linter.unusedSimpArgs false
set_option linter.unusedVariables false
set_option maxRecDepth 100000
noncomputable section
theorem zbe0(a0:Int)(a1:List Int):zA2 a0 a1=some true:=by
 by_cases h:a0<2\/8<a0
 .have d:(decide (a0<2)||decide (8<a0))=true:=by simpa using h
  unfold zA2;rw[d,cQ rfl,zaX1];rfl
 .obtain⟨n,rfl⟩:=gN (show 0<=a0 by omega);have h1:2<=n/\n<=8:=by omega
  match n,h1 with
  |2,h=>exact zaF6 h u2_F u2_U a1
  |3,h=>exact zaF6 h u3_F u3_U a1
  |4,h=>exact zaF6 h u4_F u4_U a1
  |5,h=>exact zaF6 h u5_F u5_U a1
  |6,h=>exact zaF6 h u6_F u6_U a1
  |7,h=>exact zaF6 h u7_F u7_U a1
  |8,h=>exact zaF6 h u8_F u8_U a1
  |0,h=>exact absurd h.1 (by decide)
  |1,h=>exact absurd h.1 (by decide)
  |n+9,h=>exact absurd h.2 (by omega)
end
end Ab
end Go.Proofs.YtamndckemppjdaaGreatDoor
