import Derived.Test.YtamndckemppjdaaGreatDoorDoor
namespace Go.Proofs.YtamndckemppjdaaGreatDoor
namespace Ab
set_option maxRecDepth 100000
def zaM3:List Char:=[104,97,114,110,101,115,115,32,99,53,98,101,56,99,54,102,102,99,56,54,53,101,53,57,56,55,55,52,54,55,55,102,49,49,98,54,101,50,102,53,51,57,50,49,51,55,48,100,53,54,50,55,52,98,51,57,56,55,53,53,99,53,52,98,53,97,53,99,57,51,51,54,32,99,117,116,32,97,116,32,99,108,117,115,116,101,114,108,111,99,107,115,47,99,108,117,115,116,101,114,108,111,99,107,115,116,111,112,46,84,111,112,85,112,103,114,97,100,101,32,99,108,117,115,116,101,114,108,111,99,107,115,47,99,108,117,115,116,101,114,108,111,99,107,115,116,111,112,46,84,111,112,82,105,110,103].map Char.ofNat
theorem zcc4:("harness c5be8c6ffc865e598774677f11b6e2f53921370d56274b398755c54b5a5c9336 cut at clusterlocks/clusterlockstop.TopUpgrade clusterlocks/clusterlockstop.TopRing":String)=String.ofList zaM3:=by kernel_rfl
theorem zaX3:Tryz.prog.initOrder.toList=zaM3:=by have e:Tryz.prog.initOrder=String.ofList zaM3:=(show Tryz.prog.initOrder= "harness c5be8c6ffc865e598774677f11b6e2f53921370d56274b398755c54b5a5c9336 cut at clusterlocks/clusterlockstop.TopUpgrade clusterlocks/clusterlockstop.TopRing" by kernel_rfl).trans zcc4;rw[e,String.toList_ofList]
theorem zbn8:Tryz.prog.mayEnter=true:=by
 have k:∀Q:Program,Q.initOrder.toList=zaM3->Q.laysLater=Tryz.prog.laysLater->Q.bearsReflect=Tryz.prog.bearsReflect->Q.doorFits=Tryz.prog.doorFits->Q.mayEnter=true:=by
  intro Q h1 h2 h3 h4;unfold Program.mayEnter;rw[h1,h2,h3,h4]
  kernel_rfl
 exact k _ zaX3 rfl rfl rfl
theorem zbm7:Tryz.prog.headLifts=[]:=by
 have k:∀Q:Program,Q.initOrder.toList=zaM3->Q.headLifts=[]:=by
  intro Q h;unfold Program.headLifts;rw[h]
  kernel_rfl
 exact k _ zaX3
theorem zbd9:Tryz.prog.liftsFinal=false:=by
 have k:∀Q:Program,Q.initOrder.toList=zaM3->Q.headLifts=[]->Q.liftsFinal=false:=by
  intro Q h h2;unfold Program.liftsFinal;rw[h,h2]
  kernel_rfl
 exact k _ zaX3 zbm7
theorem zbT1:Tryz.prog.make=some .cut:=by
 have k:∀Q:Program,Q.initOrder.toList=zaM3->Q.headLifts=[]->Q.make=some .cut:=by
  intro Q h h2;unfold Program.make;rw[h,h2]
  kernel_rfl
 exact k _ zaX3 zbm7
theorem zbD5:Tryz.prog.mainIs=some (true,(zaM3.drop 8).take 64):=by
 have k:∀Q:Program,Q.initOrder.toList=zaM3->Q.mainIs=some (true,(zaM3.drop 8).take 64):=by
  intro Q h;unfold Program.mainIs;rw[h]
  kernel_rfl
 exact k _ zaX3
theorem zaM4:Tryz.pinned.checked.prog.mayEnter=true:=zbn8
theorem zaD3:Tryz.pinned.checked.prog.liftsFinal=false:=zbd9
theorem zbm8:Tryz.pinned.checked.prog.make=some .cut:=zbT1
theorem zaX4:Tryz.pinned.checked.prog.mainIs=some (true,(zaM3.drop 8).take 64):=zbD5
end Ab
end Go.Proofs.YtamndckemppjdaaGreatDoor
