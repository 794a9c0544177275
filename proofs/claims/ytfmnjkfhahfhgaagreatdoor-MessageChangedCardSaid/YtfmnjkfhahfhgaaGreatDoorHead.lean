import Derived.Test.YtfmnjkfhahfhgaaGreatDoorDoor
namespace Go.Proofs.YtfmnjkfhahfhgaaGreatDoor
namespace Ab
set_option linter.all false
set_option maxRecDepth 100000
def xZ:List Char:=[104,97,114,110,101,115,115,32,50,49,100,49,102,97,57,98,99,97,57,54,53,57,98,53,100,56,102,102,99,100,50,56,54,99,52,49,100,101,98,53,102,55,99,53,102,53,56,101,52,48,97,100,49,48,51,102,101,50,98,56,51,101,49,97,53,49,99,48,49,50,55,101,32,99,117,116,32,97,116,32,99,108,117,115,116,101,114,108,111,99,107,115,47,99,108,117,115,116,101,114,108,111,99,107,115,108,97,119,50,52,46,77,101,115,115,97,103,101,66,97,99,107,32,99,108,117,115,116,101,114,108,111,99,107,115,47,99,108,117,115,116,101,114,108,111,99,107,115,108,97,119,50,52,46,77,101,115,115,97,103,101,67,104,97,110,103,101,100,32,99,108,117,115,116,101,114,108,111,99,107,115,47,99,108,117,115,116,101,114,108,111,99,107,115,108,97,119,50,52,46,77,101,115,115,97,103,101,75,105,110,100,115].map Char.ofNat
def cV0:("harness 21d1fa9bca9659b5d8ffcd286c41deb5f7c5f58e40ad103fe2b83e1a51c0127e cut at clusterlocks/clusterlockslaw24.MessageBack clusterlocks/clusterlockslaw24.MessageChanged clusterlocks/clusterlockslaw24.MessageKinds":String)=String.ofList xZ:=by kernel_rfl
def Jw:Tryz.prog.initOrder.toList=xZ:=by have e:Tryz.prog.initOrder=String.ofList xZ:=(show Tryz.prog.initOrder= "harness 21d1fa9bca9659b5d8ffcd286c41deb5f7c5f58e40ad103fe2b83e1a51c0127e cut at clusterlocks/clusterlockslaw24.MessageBack clusterlocks/clusterlockslaw24.MessageChanged clusterlocks/clusterlockslaw24.MessageKinds" by kernel_rfl).trans cV0;rw[e,String.toList_ofList]
def cV2:Tryz.prog.mayEnter=true:=by
 have k:∀Q:Program,Q.initOrder.toList=xZ->Q.laysLater=Tryz.prog.laysLater->Q.bearsReflect=Tryz.prog.bearsReflect->Q.doorFits=Tryz.prog.doorFits->Q.mayEnter=true:=by
  intro Q h1 h2 h3 h4;unfold Program.mayEnter;rw[h1,h2,h3,h4]
  kernel_rfl
 exact k _ Jw rfl rfl rfl
def YA:Tryz.prog.headLifts=[]:=by
 have k:∀Q:Program,Q.initOrder.toList=xZ->Q.headLifts=[]:=by
  intro Q h;unfold Program.headLifts;rw[h]
  kernel_rfl
 exact k _ Jw
def cV4:Tryz.prog.liftsFinal=false:=by
 have k:∀Q:Program,Q.initOrder.toList=xZ->Q.headLifts=[]->Q.liftsFinal=false:=by
  intro Q h h2;unfold Program.liftsFinal;rw[h,h2]
  kernel_rfl
 exact k _ Jw YA
def cV5:Tryz.prog.make=some .cut:=by
 have k:∀Q:Program,Q.initOrder.toList=xZ->Q.headLifts=[]->Q.make=some .cut:=by
  intro Q h h2;unfold Program.make;rw[h,h2]
  kernel_rfl
 exact k _ Jw YA
def cV6:Tryz.prog.mainIs=some (true,(xZ.drop 8).take 64):=by
 have k:∀Q:Program,Q.initOrder.toList=xZ->Q.mainIs=some (true,(xZ.drop 8).take 64):=by
  intro Q h;unfold Program.mainIs;rw[h]
  kernel_rfl
 exact k _ Jw
def cV7:Tryz.pinned.checked.prog.mayEnter=true:=cV2
def cV8:Tryz.pinned.checked.prog.liftsFinal=false:=cV4
def cV9:Tryz.pinned.checked.prog.make=some .cut:=cV5
def cVa:Tryz.pinned.checked.prog.mainIs=some (true,(xZ.drop 8).take 64):=cV6
end Ab
end Go.Proofs.YtfmnjkfhahfhgaaGreatDoor
