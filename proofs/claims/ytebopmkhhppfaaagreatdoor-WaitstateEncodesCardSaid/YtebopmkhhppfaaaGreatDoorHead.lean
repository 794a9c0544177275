import Derived.Test.YtebopmkhhppfaaaGreatDoorTop
namespace Go.Proofs.YtebopmkhhppfaaaGreatDoor
namespace Ab
set_option maxRecDepth 100000
def zaI5:List Char:=[104,97,114,110,101,115,115,32,100,56,49,49,99,52,53,49,101,48,55,54,49,50,57,97,98,102,56,49,51,54,50,57,55,57,54,50,100,57,52,51,98,98,49,56,48,98,100,48,50,57,53,48,97,97,50,98,98,99,97,54,97,99,101,53,52,98,52,102,53,98,101,53,32,99,117,116,32,97,116,32,99,108,117,115,116,101,114,108,111,99,107,115,47,99,108,117,115,116,101,114,108,111,99,107,115,108,97,119,49,54,46,87,97,105,116,115,116,97,116,101,68,101,99,111,100,101,115,32,99,108,117,115,116,101,114,108,111,99,107,115,47,99,108,117,115,116,101,114,108,111,99,107,115,108,97,119,49,54,46,87,97,105,116,115,116,97,116,101,69,110,99,111,100,101,115].map Char.ofNat
theorem zcw0:("harness d811c451e076129abf8136297962d943bb180bd02950aa2bbca6ace54b4f5be5 cut at clusterlocks/clusterlockslaw16.WaitstateDecodes clusterlocks/clusterlockslaw16.WaitstateEncodes":String)=String.ofList zaI5:=by kernel_rfl
theorem zaU0:Tryz.prog.initOrder.toList=zaI5:=by
 have e:Tryz.prog.initOrder=String.ofList zaI5:=(show Tryz.prog.initOrder = "harness d811c451e076129abf8136297962d943bb180bd02950aa2bbca6ace54b4f5be5 cut at clusterlocks/clusterlockslaw16.WaitstateDecodes clusterlocks/clusterlockslaw16.WaitstateEncodes" by kernel_rfl).trans zcw0
 rw [e,String.toList_ofList]
theorem zbr3:Tryz.prog.mayEnter=true:=by
 have k:∀ Q:Program,Q.initOrder.toList=zaI5→Q.laysLater=Tryz.prog.laysLater→Q.bearsReflect=Tryz.prog.bearsReflect→Q.doorFits=Tryz.prog.doorFits→Q.mayEnter=true:=by
  intro Q h1 h2 h3 h4
  unfold Program.mayEnter
  rw [h1,h2,h3,h4]
  kernel_rfl
 exact k _ zaU0 rfl rfl rfl
theorem zbo5:Tryz.prog.headLifts=[]:=by
 have k:∀ Q:Program,Q.initOrder.toList=zaI5→Q.headLifts=[]:=by
  intro Q h
  unfold Program.headLifts
  rw [h]
  kernel_rfl
 exact k _ zaU0
theorem zbc2:Tryz.prog.liftsFinal=false:=by
 have k:∀ Q:Program,Q.initOrder.toList=zaI5→Q.headLifts=[]→Q.liftsFinal=false:=by
  intro Q h h2
  unfold Program.liftsFinal
  rw [h,h2]
  kernel_rfl
 exact k _ zaU0 zbo5
theorem zbT6:Tryz.prog.make=some .cut:=by
 have k:∀ Q:Program,Q.initOrder.toList=zaI5→Q.headLifts=[]→Q.make=some .cut:=by
  intro Q h h2
  unfold Program.make
  rw [h,h2]
  kernel_rfl
 exact k _ zaU0 zbo5
theorem zbG5:Tryz.prog.mainIs=some (true,(zaI5.drop 8).take 64):=by
 have k:∀ Q:Program,Q.initOrder.toList=zaI5→Q.mainIs=some (true,(zaI5.drop 8).take 64):=by
  intro Q h
  unfold Program.mainIs
  rw [h]
  kernel_rfl
 exact k _ zaU0
theorem zaI6:Tryz.pinned.checked.prog.mayEnter=true:=zbr3
theorem zay6:Tryz.pinned.checked.prog.liftsFinal=false:=zbc2
theorem zbo6:Tryz.pinned.checked.prog.make=some .cut:=zbT6
theorem zaU1:Tryz.pinned.checked.prog.mainIs=some (true,(zaI5.drop 8).take 64):=zbG5
end Ab
end Go.Proofs.YtebopmkhhppfaaaGreatDoor
