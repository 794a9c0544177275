import Derived.Test.YtfkjffmjkbkmhaaGreatDoorDoor
namespace Go.Proofs.YtfkjffmjkbkmhaaGreatDoor
namespace Ab
set_option maxRecDepth 100000
def zbg7:List Char:=[104,97,114,110,101,115,115,32,100,99,52,99,54,49,52,49,50,97,54,57,57,49,102,98,54,100,51,101,56,49,48,55,55,51,49,99,49,49,100,48,56,55,100,102,99,100,52,51,101,52,99,53,98,52,54,48,53,48,57,102,57,101,99,102,57,51,52,54,53,50,55,100,32,99,117,116,32,97,116,32,99,108,117,115,116,101,114,108,111,99,107,115,47,99,108,117,115,116,101,114,108,111,99,107,115,108,97,119,49,54,46,87,97,105,116,115,116,97,116,101,83,116,97,108,101].map Char.ofNat
theorem zdf1:("harness dc4c61412a6991fb6d3e8107731c11d087dfcd43e4c5b460509f9ecf9346527d cut at clusterlocks/clusterlockslaw16.WaitstateStale":String)=String.ofList zbg7:=by kernel_rfl
theorem zbu5:Tryz.prog.initOrder.toList=zbg7:=by
 have e:Tryz.prog.initOrder=String.ofList zbg7:=(show Tryz.prog.initOrder = "harness dc4c61412a6991fb6d3e8107731c11d087dfcd43e4c5b460509f9ecf9346527d cut at clusterlocks/clusterlockslaw16.WaitstateStale" by kernel_rfl).trans zdf1
 rw [e,String.toList_ofList]
theorem zbU5:Tryz.prog.mayEnter=true:=by
 have k:∀ Q:Program,Q.initOrder.toList=zbg7→Q.laysLater=Tryz.prog.laysLater→Q.bearsReflect=Tryz.prog.bearsReflect→Q.doorFits=Tryz.prog.doorFits→Q.mayEnter=true:=by
  intro Q h1 h2 h3 h4
  unfold Program.mayEnter
  rw [h1,h2,h3,h4]
  kernel_rfl
 exact k _ zbu5 rfl rfl rfl
theorem zbS1:Tryz.prog.headLifts=[]:=by
 have k:∀ Q:Program,Q.initOrder.toList=zbg7→Q.headLifts=[]:=by
  intro Q h
  unfold Program.headLifts
  rw [h]
  kernel_rfl
 exact k _ zbu5
theorem zbE5:Tryz.prog.liftsFinal=false:=by
 have k:∀ Q:Program,Q.initOrder.toList=zbg7→Q.headLifts=[]→Q.liftsFinal=false:=by
  intro Q h h2
  unfold Program.liftsFinal
  rw [h,h2]
  kernel_rfl
 exact k _ zbu5 zbS1
theorem zcP8:Tryz.prog.make=some .cut:=by
 have k:∀ Q:Program,Q.initOrder.toList=zbg7→Q.headLifts=[]→Q.make=some .cut:=by
  intro Q h h2
  unfold Program.make
  rw [h,h2]
  kernel_rfl
 exact k _ zbu5 zbS1
theorem zcs8:Tryz.prog.mainIs=some (true,(zbg7.drop 8).take 64):=by
 have k:∀ Q:Program,Q.initOrder.toList=zbg7→Q.mainIs=some (true,(zbg7.drop 8).take 64):=by
  intro Q h
  unfold Program.mainIs
  rw [h]
  kernel_rfl
 exact k _ zbu5
theorem zbS2:Tryz.pinned.checked.prog.mayEnter=true:=zbU5
theorem zbz3:Tryz.pinned.checked.prog.liftsFinal=false:=zbE5
theorem zcB3:Tryz.pinned.checked.prog.make=some .cut:=zcP8
theorem zch2:Tryz.pinned.checked.prog.mainIs=some (true,(zbg7.drop 8).take 64):=zcs8
end Ab
end Go.Proofs.YtfkjffmjkbkmhaaGreatDoor
