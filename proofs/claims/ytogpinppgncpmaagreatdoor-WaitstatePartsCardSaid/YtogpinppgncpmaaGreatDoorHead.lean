import Derived.Test.YtogpinppgncpmaaGreatDoorDoor
namespace Go.Proofs.YtogpinppgncpmaaGreatDoor
namespace Ab
set_option maxRecDepth 100000
def zbj3:List Char:=[104,97,114,110,101,115,115,32,52,56,52,55,56,49,56,51,54,97,99,54,101,50,100,50,50,97,101,53,98,102,98,55,55,97,51,97,97,50,100,98,57,55,56,52,98,55,49,53,98,57,98,53,102,102,100,56,56,97,57,56,101,102,51,50,50,49,54,48,50,49,57,50,32,99,117,116,32,97,116,32,99,108,117,115,116,101,114,108,111,99,107,115,47,99,108,117,115,116,101,114,108,111,99,107,115,108,97,119,49,54,46,87,97,105,116,115,116,97,116,101,80,97,114,116,115].map Char.ofNat
theorem zdj0:("harness 484781836ac6e2d22ae5bfb77a3aa2db9784b715b9b5ffd88a98ef3221602192 cut at clusterlocks/clusterlockslaw16.WaitstateParts":String)=String.ofList zbj3:=by kernel_rfl
theorem zby6:Tryz.prog.initOrder.toList=zbj3:=by
 have e:Tryz.prog.initOrder=String.ofList zbj3:=(show Tryz.prog.initOrder = "harness 484781836ac6e2d22ae5bfb77a3aa2db9784b715b9b5ffd88a98ef3221602192 cut at clusterlocks/clusterlockslaw16.WaitstateParts" by kernel_rfl).trans zdj0
 rw [e,String.toList_ofList]
theorem zbZ8:Tryz.prog.mayEnter=true:=by
 have k:∀ Q:Program,Q.initOrder.toList=zbj3→Q.laysLater=Tryz.prog.laysLater→Q.bearsReflect=Tryz.prog.bearsReflect→Q.doorFits=Tryz.prog.doorFits→Q.mayEnter=true:=by
  intro Q h1 h2 h3 h4
  unfold Program.mayEnter
  rw [h1,h2,h3,h4]
  kernel_rfl
 exact k _ zby6 rfl rfl rfl
theorem zbW6:Tryz.prog.headLifts=[]:=by
 have k:∀ Q:Program,Q.initOrder.toList=zbj3→Q.headLifts=[]:=by
  intro Q h
  unfold Program.headLifts
  rw [h]
  kernel_rfl
 exact k _ zby6
theorem zbJ0:Tryz.prog.liftsFinal=false:=by
 have k:∀ Q:Program,Q.initOrder.toList=zbj3→Q.headLifts=[]→Q.liftsFinal=false:=by
  intro Q h h2
  unfold Program.liftsFinal
  rw [h,h2]
  kernel_rfl
 exact k _ zby6 zbW6
theorem zcU3:Tryz.prog.make=some .cut:=by
 have k:∀ Q:Program,Q.initOrder.toList=zbj3→Q.headLifts=[]→Q.make=some .cut:=by
  intro Q h h2
  unfold Program.make
  rw [h,h2]
  kernel_rfl
 exact k _ zby6 zbW6
theorem zcx0:Tryz.prog.mainIs=some (true,(zbj3.drop 8).take 64):=by
 have k:∀ Q:Program,Q.initOrder.toList=zbj3→Q.mainIs=some (true,(zbj3.drop 8).take 64):=by
  intro Q h
  unfold Program.mainIs
  rw [h]
  kernel_rfl
 exact k _ zby6
theorem zbW7:Tryz.pinned.checked.prog.mayEnter=true:=zbZ8
theorem zbD5:Tryz.pinned.checked.prog.liftsFinal=false:=zbJ0
theorem zcG1:Tryz.pinned.checked.prog.make=some .cut:=zcU3
theorem zcl3:Tryz.pinned.checked.prog.mainIs=some (true,(zbj3.drop 8).take 64):=zcx0
end Ab
end Go.Proofs.YtogpinppgncpmaaGreatDoor
