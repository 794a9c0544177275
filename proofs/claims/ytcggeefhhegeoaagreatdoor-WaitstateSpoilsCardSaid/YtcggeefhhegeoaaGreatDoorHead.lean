import Derived.Test.YtcggeefhhegeoaaGreatDoorDoor
namespace Go.Proofs.YtcggeefhhegeoaaGreatDoor
namespace Ab
set_option maxRecDepth 100000
def zbZ1:List Char:=[104,97,114,110,101,115,115,32,52,98,49,100,53,99,56,55,53,57,102,99,100,97,56,100,48,55,56,99,57,97,101,101,97,57,54,56,52,100,101,54,101,98,51,101,102,50,55,97,98,102,101,97,51,54,52,56,57,48,100,55,52,56,54,56,49,97,101,57,101,51,97,56,32,99,117,116,32,97,116,32,99,108,117,115,116,101,114,108,111,99,107,115,47,99,108,117,115,116,101,114,108,111,99,107,115,108,97,119,49,54,46,87,97,105,116,115,116,97,116,101,83,99,114,105,112,116,115,32,99,108,117,115,116,101,114,108,111,99,107,115,47,99,108,117,115,116,101,114,108,111,99,107,115,108,97,119,49,54,46,87,97,105,116,115,116,97,116,101,83,112,111,105,108,115].map Char.ofNat
theorem zdm1:("harness 4b1d5c8759fcda8d078c9aeea9684de6eb3ef27abfea364890d748681ae9e3a8 cut at clusterlocks/clusterlockslaw16.WaitstateScripts clusterlocks/clusterlockslaw16.WaitstateSpoils":String)=String.ofList zbZ1:=by kernel_rfl
theorem zbM9:Tryz.prog.initOrder.toList=zbZ1:=by
 have e:Tryz.prog.initOrder=String.ofList zbZ1:=(show Tryz.prog.initOrder = "harness 4b1d5c8759fcda8d078c9aeea9684de6eb3ef27abfea364890d748681ae9e3a8 cut at clusterlocks/clusterlockslaw16.WaitstateScripts clusterlocks/clusterlockslaw16.WaitstateSpoils" by kernel_rfl).trans zdm1
 rw [e,String.toList_ofList]
theorem zcc0:Tryz.prog.mayEnter=true:=by
 have k:∀ Q:Program,Q.initOrder.toList=zbZ1→Q.laysLater=Tryz.prog.laysLater→Q.bearsReflect=Tryz.prog.bearsReflect→Q.doorFits=Tryz.prog.doorFits→Q.mayEnter=true:=by
  intro Q h1 h2 h3 h4
  unfold Program.mayEnter
  rw [h1,h2,h3,h4]
  kernel_rfl
 exact k _ zbM9 rfl rfl rfl
theorem zbZ2:Tryz.prog.headLifts=[]:=by
 have k:∀ Q:Program,Q.initOrder.toList=zbZ1→Q.headLifts=[]:=by
  intro Q h
  unfold Program.headLifts
  rw [h]
  kernel_rfl
 exact k _ zbM9
theorem zbL1:Tryz.prog.liftsFinal=false:=by
 have k:∀ Q:Program,Q.initOrder.toList=zbZ1→Q.headLifts=[]→Q.liftsFinal=false:=by
  intro Q h h2
  unfold Program.liftsFinal
  rw [h,h2]
  kernel_rfl
 exact k _ zbM9 zbZ2
theorem zcW9:Tryz.prog.make=some .cut:=by
 have k:∀ Q:Program,Q.initOrder.toList=zbZ1→Q.headLifts=[]→Q.make=some .cut:=by
  intro Q h h2
  unfold Program.make
  rw [h,h2]
  kernel_rfl
 exact k _ zbM9 zbZ2
theorem zbZ3:Tryz.pinned.checked.prog.mayEnter=true:=zcc0
theorem zbF1:Tryz.pinned.checked.prog.liftsFinal=false:=zbL1
theorem zcI4:Tryz.pinned.checked.prog.make=some .cut:=zcW9
theorem head_mainIs:Tryz.prog.mainIs=some (true,(zbZ1.drop 8).take 64):=by
 have k:∀ Q:Program,Q.initOrder.toList=zbZ1→Q.mainIs=some (true,(zbZ1.drop 8).take 64):=by
  intro Q h
  unfold Program.mainIs
  rw [h]
  kernel_rfl
 exact k _ zbM9
theorem head_mainIs':Tryz.pinned.checked.prog.mainIs=some (true,(zbZ1.drop 8).take 64):=head_mainIs
end Ab
end Go.Proofs.YtcggeefhhegeoaaGreatDoor
