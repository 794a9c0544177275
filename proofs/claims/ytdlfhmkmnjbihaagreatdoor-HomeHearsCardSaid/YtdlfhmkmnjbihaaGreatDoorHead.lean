import Derived.Test.YtdlfhmkmnjbihaaGreatDoorDoor
namespace Go.Proofs.YtdlfhmkmnjbihaaGreatDoor
namespace Ab
set_option maxRecDepth 100000
def zbr8:List Char:=[104,97,114,110,101,115,115,32,98,102,102,48,55,52,100,99,101,50,98,57,102,102,98,50,53,97,52,97,55,102,97,53,50,49,48,97,100,98,97,100,48,102,101,54,101,55,101,48,99,55,99,52,54,98,102,101,55,99,54,48,102,55,48,99,57,53,50,100,54,52,57,48,32,99,117,116,32,97,116,32,99,108,117,115,116,101,114,108,111,99,107,115,47,99,108,117,115,116,101,114,108,111,99,107,115,108,97,119,51,50,46,72,111,109,101,78,101,119,32,99,108,117,115,116,101,114,108,111,99,107,115,47,99,108,117,115,116,101,114,108,111,99,107,115,108,97,119,51,50,46,72,111,109,101,72,101,97,114,115,32,99,108,117,115,116,101,114,108,111,99,107,115,47,99,108,117,115,116,101,114,108,111,99,107,115,108,97,119,51,50,46,72,111,109,101,69,118,101,110,116,115,32,99,108,117,115,116,101,114,108,111,99,107,115,47,99,108,117,115,116,101,114,108,111,99,107,115,108,97,119,51,50,46,72,111,109,101,65,110,115,119,101,114,115,32,99,108,117,115,116,101,114,108,111,99,107,115,47,99,108,117,115,116,101,114,108,111,99,107,115,108,97,119,51,50,46,72,111,109,101,80,117,114,103,101,115].map Char.ofNat
theorem zdE5:("harness bff074dce2b9ffb25a4a7fa5210adbad0fe6e7e0c7c46bfe7c60f70c952d6490 cut at clusterlocks/clusterlockslaw32.HomeNew clusterlocks/clusterlockslaw32.HomeHears clusterlocks/clusterlockslaw32.HomeEvents clusterlocks/clusterlockslaw32.HomeAnswers clusterlocks/clusterlockslaw32.HomePurges":String)=String.ofList zbr8:=by kernel_rfl
theorem zbJ0:Tryz.prog.initOrder.toList=zbr8:=by have e:Tryz.prog.initOrder=String.ofList zbr8:=(show Tryz.prog.initOrder= "harness bff074dce2b9ffb25a4a7fa5210adbad0fe6e7e0c7c46bfe7c60f70c952d6490 cut at clusterlocks/clusterlockslaw32.HomeNew clusterlocks/clusterlockslaw32.HomeHears clusterlocks/clusterlockslaw32.HomeEvents clusterlocks/clusterlockslaw32.HomeAnswers clusterlocks/clusterlockslaw32.HomePurges" by kernel_rfl).trans zdE5;rw[e,String.toList_ofList]
theorem zcp8:Tryz.prog.mayEnter=true:=by
 have k:∀Q:Program,Q.initOrder.toList=zbr8->Q.laysLater=Tryz.prog.laysLater->Q.bearsReflect=Tryz.prog.bearsReflect->Q.doorFits=Tryz.prog.doorFits->Q.mayEnter=true:=by
  intro Q h1 h2 h3 h4;unfold Program.mayEnter;rw[h1,h2,h3,h4]
  kernel_rfl
 exact k _ zbJ0 rfl rfl rfl
theorem zcm3:Tryz.prog.headLifts=[]:=by
 have k:∀Q:Program,Q.initOrder.toList=zbr8->Q.headLifts=[]:=by
  intro Q h;unfold Program.headLifts;rw[h]
  kernel_rfl
 exact k _ zbJ0
theorem zbV7:Tryz.prog.liftsFinal=false:=by
 have k:∀Q:Program,Q.initOrder.toList=zbr8->Q.headLifts=[]->Q.liftsFinal=false:=by
  intro Q h h2;unfold Program.liftsFinal;rw[h,h2]
  kernel_rfl
 exact k _ zbJ0 zcm3
theorem zdo2:Tryz.prog.make=some .cut:=by
 have k:∀Q:Program,Q.initOrder.toList=zbr8->Q.headLifts=[]->Q.make=some .cut:=by
  intro Q h h2;unfold Program.make;rw[h,h2]
  kernel_rfl
 exact k _ zbJ0 zcm3
theorem zcP5:Tryz.prog.mainIs=some (true,(zbr8.drop 8).take 64):=by
 have k:∀Q:Program,Q.initOrder.toList=zbr8->Q.mainIs=some (true,(zbr8.drop 8).take 64):=by
  intro Q h;unfold Program.mainIs;rw[h]
  kernel_rfl
 exact k _ zbJ0
theorem zcm4:Tryz.pinned.checked.prog.mayEnter=true:=zcp8
theorem zbP3:Tryz.pinned.checked.prog.liftsFinal=false:=zbV7
theorem zcY8:Tryz.pinned.checked.prog.make=some .cut:=zdo2
theorem zcC1:Tryz.pinned.checked.prog.mainIs=some (true,(zbr8.drop 8).take 64):=zcP5
end Ab
end Go.Proofs.YtdlfhmkmnjbihaaGreatDoor
