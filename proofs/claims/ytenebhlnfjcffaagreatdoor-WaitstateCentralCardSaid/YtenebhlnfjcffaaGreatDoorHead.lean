import Derived.Test.YtenebhlnfjcffaaGreatDoorDoor
namespace Go.Proofs.YtenebhlnfjcffaaGreatDoor
namespace Ab
set_option maxRecDepth 100000
def zbp8:List Char:=[104,97,114,110,101,115,115,32,99,48,55,54,99,48,50,100,48,49,54,51,99,51,48,99,51,52,102,54,48,51,50,97,98,49,98,51,56,48,52,56,100,55,48,101,101,101,55,98,97,100,52,98,48,50,102,57,102,49,98,50,53,50,52,54,51,97,51,100,56,98,54,102,32,99,117,116,32,97,116,32,99,108,117,115,116,101,114,108,111,99,107,115,47,99,108,117,115,116,101,114,108,111,99,107,115,108,97,119,49,54,46,87,97,105,116,115,116,97,116,101,79,102,32,99,108,117,115,116,101,114,108,111,99,107,115,47,99,108,117,115,116,101,114,108,111,99,107,115,108,97,119,49,54,46,87,97,105,116,115,116,97,116,101,67,101,110,116,114,97,108].map Char.ofNat
theorem zdx2:("harness c076c02d0163c30c34f6032ab1b38048d70eee7bad4b02f9f1b252463a3d8b6f cut at clusterlocks/clusterlockslaw16.WaitstateOf clusterlocks/clusterlockslaw16.WaitstateCentral":String)=String.ofList zbp8:=by kernel_rfl
theorem zbE0:Tryz.prog.initOrder.toList=zbp8:=by have e:Tryz.prog.initOrder=String.ofList zbp8:=(show Tryz.prog.initOrder= "harness c076c02d0163c30c34f6032ab1b38048d70eee7bad4b02f9f1b252463a3d8b6f cut at clusterlocks/clusterlockslaw16.WaitstateOf clusterlocks/clusterlockslaw16.WaitstateCentral" by kernel_rfl).trans zdx2;rw[e,String.toList_ofList]
theorem zch3:Tryz.prog.mayEnter=true:=by
 have k:∀Q:Program,Q.initOrder.toList=zbp8->Q.laysLater=Tryz.prog.laysLater->Q.bearsReflect=Tryz.prog.bearsReflect->Q.doorFits=Tryz.prog.doorFits->Q.mayEnter=true:=by
  intro Q h1 h2 h3 h4;unfold Program.mayEnter;rw[h1,h2,h3,h4]
  kernel_rfl
 exact k _ zbE0 rfl rfl rfl
theorem zce9:Tryz.prog.headLifts=[]:=by
 have k:∀Q:Program,Q.initOrder.toList=zbp8->Q.headLifts=[]:=by
  intro Q h;unfold Program.headLifts;rw[h]
  kernel_rfl
 exact k _ zbE0
theorem zbP5:Tryz.prog.liftsFinal=false:=by
 have k:∀Q:Program,Q.initOrder.toList=zbp8->Q.headLifts=[]->Q.liftsFinal=false:=by
  intro Q h h2;unfold Program.liftsFinal;rw[h,h2]
  kernel_rfl
 exact k _ zbE0 zce9
theorem zdh7:Tryz.prog.make=some .cut:=by
 have k:∀Q:Program,Q.initOrder.toList=zbp8->Q.headLifts=[]->Q.make=some .cut:=by
  intro Q h h2;unfold Program.make;rw[h,h2]
  kernel_rfl
 exact k _ zbE0 zce9
theorem zcH3:Tryz.prog.mainIs=some (true,(zbp8.drop 8).take 64):=by
 have k:∀Q:Program,Q.initOrder.toList=zbp8->Q.mainIs=some (true,(zbp8.drop 8).take 64):=by
  intro Q h;unfold Program.mainIs;rw[h]
  kernel_rfl
 exact k _ zbE0
theorem zcf0:Tryz.pinned.checked.prog.mayEnter=true:=zch3
theorem zbJ4:Tryz.pinned.checked.prog.liftsFinal=false:=zbP5
theorem zcR4:Tryz.pinned.checked.prog.make=some .cut:=zdh7
theorem zcu6:Tryz.pinned.checked.prog.mainIs=some (true,(zbp8.drop 8).take 64):=zcH3
end Ab
end Go.Proofs.YtenebhlnfjcffaaGreatDoor
