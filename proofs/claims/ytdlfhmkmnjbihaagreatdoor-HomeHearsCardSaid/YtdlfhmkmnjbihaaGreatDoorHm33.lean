import Derived.Test.YtdlfhmkmnjbihaaGreatDoorHm24
import Derived.Test.YtdlfhmkmnjbihaaGreatDoorHm32
namespace Go.Proofs.YtdlfhmkmnjbihaaGreatDoor
namespace Ab
open IntKind (i64 u64 u8)
set_option linter.unusedSimpArgs false
set_option linter.defProp false
set_option linter.unusedVariables false
set_option maxRecDepth 100000
set_option maxHeartbeats 1000000
noncomputable section
attribute [local irreducible] zl5 zj8 zl7 zd1 zg5 zi1 zf5 zm6 zl8 zk4 ze1 ze6 zn5 zd4 zo3 za2 zg8 zg6 za5 zf6 ze4 zg3 zd7 zn0 zc9 zc6 zp8 zh0 zf7 zl6 zd5 zb1 ze0 zd6 za4 zj9 ze5 zh4 zd2 zb3 zf9 zd8 za8 zc3 ze2 zb9 zb2 zk9 za6 zc8 zd3 zk3 zf8 zd9 zk6 zi5 zq5 zc4 za9 ze7 zi3 zg0 zn1 zb7 zq4 zl4 zf1 zb6 zl1 ze8 zk7 zn7 zf2 zl0 zk0 zn8 ze9 zi6 zp3 zj5 zj0 zh2 zi7 zm7 zc5 zg1 zk1 zj1 za7 ze3 zf0 zo7 zm3 zo8 zm4 zo9 zj6 zf4 zm0 zc7 zg2 zr1 zt3 zp4 zf3 zj2 zk2 zr2 zq0 zg7 zj7 zh8 zi2 zj3 zu9 zh6 zm1 zn2 zv0 zj4 zs0 zo6 zt9 zm2 zs3 zn3 zs4 zr4 zr0 zv4 zq2 zn4 zt0 zm5 zl2 zr5 zq3 zr6 zo2 zb5 zi8 zo4 zn9 zg9 zr7 zs6 zw3 zu6 zz3 zq8 zo0 zs1 zt5 zu1 zr9 zp7 zw8 zu7 zw9 zB1 zo5 zq6 zv6 zv7 zy6 zD4 zA8 zx0 zab4 zN0 zv5 zx5 zB0 zH8 zC8 zD3 zy5 zt6 zE1 zB8 zB9 zC0 zC1 zD0 zA9 zG2 zD1 zx4 zz7 zy1 zF4 zaf6 zD2 zN1 zI7 zS8 zV3 zV4 zab5 zS9 zV5 zO5 zG3 zS3 zah2 zO7 zO8 zO9 zT0 zN2 zG4 zP0 zz8 zw4 zA4 zT1
def zac8(j1:aK):Option Bool:=
 (zk0 j1).bind λ v2=>
 some v2
@[go_sem] def zdY3(j1:aK):St:=⟨[(4,.ptr 0 0 0)],[(0,bx j1)],1⟩
def zK0(a0:aK)(v1:(List (Int×bH)))(g1:Int×aK):Option ((Int×aK)⊕(aK⊕Bool)):=
 (if(decide (g1.1<((Arr.get zz1 a0.kind.toNat ⟨#[]⟩).size:Int)))=true then
  gd (0<=a0.kind/\a0.kind<16)<|
  gd (0<=g1.1/\g1.1<((Arr.get zz1 a0.kind.toNat ⟨#[]⟩).size:Int))<|
  (if(zah9 (((Arr.get zz1 a0.kind.toNat ⟨#[]⟩).toList.getD g1.1.toNat 0).toNat:Int) v1).isSome=true then
   (zu0 (((zah9 (((Arr.get zz1 a0.kind.toNat ⟨#[]⟩).toList.getD g1.1.toNat 0).toNat:Int) v1).getD bH.zero).of)).bind λ v3=>
   (if((decide (zi9 a0 v3<((zah9 (((Arr.get zz1 a0.kind.toNat ⟨#[]⟩).toList.getD g1.1.toNat 0).toNat:Int) v1).getD bH.zero).low)||decide (((zah9 (((Arr.get zz1 a0.kind.toNat ⟨#[]⟩).toList.getD g1.1.toNat 0).toNat:Int) v1).getD bH.zero).high<zi9 a0 v3))||(decide ((((Arr.get zz1 a0.kind.toNat ⟨#[]⟩).toList.getD g1.1.toNat 0).toNat:Int)=66)&&decide (zi9 a0 v3=0)))=true then
    some (.inr (.inr false))
   else
    (zu0 (((zah9 (((Arr.get zz1 a0.kind.toNat ⟨#[]⟩).toList.getD g1.1.toNat 0).toNat:Int) v1).getD bH.zero).of)).bind λ v4=>
    some (.inl ((i64.wrap (g1.1+1)),zC5 g1.2 v4 0)))
  else
   (zw4 a0 (((Arr.get zz1 a0.kind.toNat ⟨#[]⟩).toList.getD g1.1.toNat 0).toNat:Int)).bind λ v5=>
   (if(!v5)=true then
    some (.inr (.inr false))
   else
    (zb9 (((Arr.get zz1 a0.kind.toNat ⟨#[]⟩).toList.getD g1.1.toNat 0).toNat:Int) g1.2).bind λ v6=>
    some (.inl ((i64.wrap (g1.1+1)),v6))))
 else
  some (.inr (.inl g1.2)))
@[go_sem] def zdY4(a0:aK)(v1:(List (Int×bH)))(g1:Int×aK):St:=⟨[(1,.ptr 0 0 0),(3,.mp 1),(4,.ptr 2 0 0),(21,.int .i64 ((Arr.get zz1 a0.kind.toNat ⟨#[]⟩).size:Int)),(22,.int .i64 g1.1)],[(0,bx a0),(1,⟨false,0,[A.int .u8 0,A.bool true],v1.map (mI .u8 bH.enc)⟩),(2,bx g1.2)],3⟩
def zM2(a0:aK):Option Bool:=
 (if(!(zav4 a0.kind))=true then
  some false
 else
  (zc3).bind λ v1=>
  gd (0<=a0.kind/\a0.kind<16)<|
  (zc1 (zK0 a0 v1) (0,{a0 with kind:=0})).bind (λ|.inl z=>zac8 z|.inr z=>some z))
theorem zbF8(a0:aK)(r:Bool)(h:zM2 a0=some r):PFn C 89 [ga a0] (.bool r):=by
 refine zW4 Tryz.f89 [(40,1),(63,1)] λ E hG hN hK=>?_;unfold zM2 at h;refine za0 (za1 hG ?_);refine za0 (za0 (za1 hG ?_));refine zr3 (λ hg=>(zbK8 a0.kind).ok) ?_;refine zh9 rfl hG h (λ _ h=>?_) (λ _ h=>?_)
 · refine za0 (za1 hG ?_)
   refine zm8 ?_;exact zy2 h
 refine zh7 ?_;refine za0 (za1 hG ?_);obtain⟨v1,hv1,h⟩:=zd0 h;refine zs8 [] [(0,1)] [0] ((zaj9).ok _ hv1) rfl rfl ?_;refine za0 (za1 hG ?_);refine za0 (za1 hG ?_);refine za0 (za0 ?_);obtain⟨hb3,h⟩:=zg4 h;refine za1 hG ?_;refine zB7 zdY3 (λ v=>zac8 v=some r) ?_ ?_
 · intro j1 h
   unfold zac8 at h;refine g_st ?_;refine za0 (za1 hG ?_);obtain⟨v2,hv2,h⟩:=zd0 h;refine zr3 (λ hg=>zbL2 _ _ hv2) ?_;refine zm8 ?_;exact zy2 h
 refine zat4 (zdY4 a0 v1) hK [(0,0),(1,1),(2,2)] h (λ x_l1 h g1 y_l1 h_l1 hx_l1=>?_);unfold zK0 at h_l1;refine g_st ?_;refine za0 (za1 hG ?_);refine za0 ?_;refine zh9 rfl hG h_l1 (λ _ h_l1=>?_) (λ _ h_l1=>?_)
 · refine zh7 ?_
   refine za0 (zy9 (za0 (za1 hG ?_)));refine za0 ?_;obtain⟨hb1,h_l1⟩:=zg4 h_l1;obtain⟨hb2,h_l1⟩:=zg4 h_l1;refine za1 hG ?_;refine za0 (za0 (za1 hG ?_));refine za0 (za1 hG ?_);refine zh9 rfl hG h_l1 (λ _ h_l1=>?_) (λ _ h_l1=>?_)
   · refine za0 (za1 hG ?_)
     obtain⟨v3,hv3,h_l1⟩:=zd0 h_l1;refine zs8 [(0,0)] [] [0] (zak9 _ _ _ hv3) rfl rfl ?_ (ho:=by first|exact⟨by trivial,zC6 hv3⟩|exact zC6 hv3);refine za0 (za0 (za1 hG ?_));refine zh9 rfl hG h_l1 (λ _ h_l1=>?_) (λ _ h_l1=>?_)
     · refine za0 (za1 hG ?_)
       refine zm8 ?_;cases h_l1;cases hx_l1 _ rfl;exact zy2 h
     refine zh7 ?_;refine za0 (za1 hG ?_);obtain⟨v4,hv4,h_l1⟩:=zd0 h_l1;refine zs8 [(0,2)] [] [0] (zak9 _ _ _ hv4) rfl rfl ?_ (ho:=by first|exact⟨by trivial,zC6 hv4⟩|exact zC6 hv4);refine zE5 ?_;refine za1 hG ?_;exact zU3 hK [(0,0),(1,1),(2,2)] h_l1
   refine zh7 ?_;refine za0 (za0 (za1 hG ?_));obtain⟨v5,hv5,h_l1⟩:=zd0 h_l1;refine zr3 (λ hg=>(zbU2 a0 (((Arr.get zz1 a0.kind.toNat ⟨#[]⟩).toList.getD g1.1.toNat 0).toNat:Int)).ok _ hv5) ?_;refine zh9 rfl hG h_l1 (λ _ h_l1=>?_) (λ _ h_l1=>?_)
   · refine za0 (za1 hG ?_)
     refine zm8 ?_;cases h_l1;cases hx_l1 _ rfl;exact zy2 h
   refine zh7 ?_;refine za1 hG ?_;obtain⟨v6,hv6,h_l1⟩:=zd0 h_l1;refine zs8 [(0,2)] [] [0] (zaX3 _ _ _ hv6) rfl rfl ?_;refine za1 hG ?_;exact zU3 hK [(0,0),(1,1),(2,2)] h_l1
 refine zE5 ?_;cases h_l1;cases hx_l1 _ rfl;exact zv9 hK [(0,2)] g1.2 (by exact h)
instance zcU8(a0:aK):OkP (zM2 a0) 89 [ga a0] (λ r=>.bool r):=⟨zbF8 a0⟩
attribute [local irreducible] zM2
def zah3(j3:(List Int)):Option (List Int):=
 some j3
@[go_sem] def zdY5(j3:(List Int)):St:=⟨[(0,.own 1 0 j3.length)],[(1,⟨false,1,[A.int .u8 0],j3.map (eI .u8)⟩)],2⟩
def zV6(a0:aK)(g1:Int×(List Int)):Option ((Int×(List Int))⊕(List Int)):=
 (if(decide (g1.1<(a0.options.length:Int)))=true then
  gd (0<=g1.1/\g1.1<(a0.options.length:Int))<|
  (zn4 g1.2 (a0.options.getD g1.1.toNat bB.zero)).bind λ v8=>
  some (.inl ((i64.wrap (g1.1+1)),v8))
 else
  some (.inr g1.2))
@[go_sem] def zdY6(a0:aK)(g1:Int×(List Int)):St:=⟨[(0,.own 1 0 g1.2.length),(76,la a0.options),(77,.int .i64 (a0.options.length:Int)),(78,.int .i64 g1.1)],[(1,⟨false,1,[A.int .u8 0],g1.2.map (eI .u8)⟩)],2⟩
def zG9(a0:aK)(a1:Int)(a2:List Int)(j2:Bool):Option (List Int):=
 (if j2=true then
  (zA4 a0.state).bind λ v5=>
  (zb2 a2 (u64.wrap (v5.1.length:Int))).bind λ v6=>
  gd (v6.length+v5.1.length<=4294967296)<|
  some (v6++v5.1)
 else
  (if(decide (a1=79))=true then
   (zb2 a2 (u64.wrap (a0.options.length:Int))).bind λ v7=>
   (zc1 (zV6 a0) (0,v7)).bind (λ z=>zah3 z)
  else
   some a2))
@[go_sem] def zdY7(a0:aK)(a1:Int)(a2:List Int)(j2:Bool):St:=⟨[(0,.own 1 0 a2.length),(4,.ptr 2 0 0),(11,.int .u8 a1),(50,.bool j2)],[(1,⟨false,1,[A.int .u8 0],a2.map (eI .u8)⟩),(2,bx a0)],3⟩
def zy7(a0:aK)(a1:Int)(a2:List Int)(j1:Bool):Option (List Int):=
 (if j1=true then
  (zf1 a2 a0.aW.name).bind λ v2=>
  (zb2 v2 (u64.wrap a0.aW.aJ.mode)).bind λ v3=>
  (zb2 v3 (u64.wrap a0.aW.aJ.aV)).bind λ v4=>
  some v4
 else
  (if(decide (a1=68))=true then
   (if a0.done=true then
    gd (a2.length+1<=4294967296)<|
    some (a2++[1])
   else
    gd (a2.length+1<=4294967296)<|
    some (a2++[0]))
  else
   (if(decide (a1=78))=true then
    zG9 a0 a1 a2 (decide (a1=78))
   else
    zG9 a0 a1 a2 (decide (a1=76)))))
@[go_sem] def zdY8(a0:aK)(a1:Int)(a2:List Int)(j1:Bool):St:=⟨[(0,.own 1 0 a2.length),(4,.ptr 2 0 0),(11,.int .u8 a1),(18,.bool j1)],[(1,⟨false,1,[A.int .u8 0],a2.map (eI .u8)⟩),(2,bx a0)],3⟩
def zx6(a0:aK)(a1:Int)(a2:List Int):Option (List Int):=
 (if(decide (a1=80))=true then
  (zi2 a2 a0.aI).bind λ v1=>
  some v1
 else
  (if(decide (a1=65))=true then
   zy7 a0 a1 a2 (decide (a1=65))
  else
   zy7 a0 a1 a2 (decide (a1=97))))
theorem zbF9(a0:aK)(a1:Int)(a2:List Int)(r:(List Int))(h:zx6 a0 a1 a2=some r):MFn C 145 [.own 0 0 a2.length,ga a0,.int .u8 a1] [(0,⟨false,1,[A.int .u8 0],a2.map (eI .u8)⟩)] 1 (.own 1 0 r.length) [(1,⟨false,1,[A.int .u8 0],r.map (eI .u8)⟩)] 2:=by
 refine zU4 Tryz.f145 [(6,1),(17,1),(25,1)] [.own 1 0 r.length] λ E hG hN hK=>?_;unfold zx6 at h;refine za0 (za1 hG ?_);refine za0 (za0 (za1 hG ?_));refine zy9 (za0 (za1 hG ?_));refine zh9 rfl hG h (λ _ h=>?_) (λ _ h=>?_)
 · refine za1 hG ?_
   obtain⟨v1,hv1,h⟩:=zd0 h;refine zs8 [] [(0,3)] [0] ((zbv0 a2 a0.aI).ok _ hv1) rfl rfl ?_;refine za0 (za1 hG ?_);refine zm8 ?_;exact zx8 [(1,3)] h
 refine za0 (za0 (za1 hG ?_));refine zaA2 (zdY8 a0 a1 a2) (λ v=>zy7 a0 a1 a2 v=some r) rfl hG h ?_ (λ _ h=>?_) (λ _ h=>?_)
 · intro j1 h
   unfold zy7 at h;refine g_st ?_;refine zh9 rfl hG h (λ _ h=>?_) (λ _ h=>?_)
   · refine za0 (za1 hG ?_)
     obtain⟨v2,hv2,h⟩:=zd0 h;refine zs8 [] [(0,3)] [0] ((zbu6 a2 a0.aW.name).ok _ hv2) rfl rfl ?_;refine za0 (za1 hG ?_);obtain⟨v3,hv3,h⟩:=zd0 h;refine zs8 [] [(0,4)] [0] (zE6 _ _ _ hv3) rfl rfl ?_;refine za1 hG ?_;obtain⟨v4,hv4,h⟩:=zd0 h;refine zs8 [] [(0,5)] [0] (zE6 _ _ _ hv4) rfl rfl ?_;refine za0 (za1 hG ?_);refine zm8 ?_;exact zx8 [(1,5)] h
   refine za0 (za1 hG ?_);refine zh9 rfl hG h (λ _ h=>?_) (λ _ h=>?_)
   · refine za0 (za0 (za1 hG ?_))
     refine zh9 rfl hG h (λ _ h=>?_) (λ _ h=>?_)
     · refine za0 ?_
       obtain⟨hb1,h⟩:=zg4 h;refine za1 hG ?_;refine zm8 ?_;exact zx8 [(1,3)] h
     refine zh7 ?_;refine za0 ?_;obtain⟨hb2,h⟩:=zg4 h;refine za1 hG ?_;refine zm8 ?_;exact zx8 [(1,3)] h
   refine za0 (za0 (za1 hG ?_));refine zaA2 (zdY7 a0 a1 a2) (λ v=>zG9 a0 a1 a2 v=some r) rfl hG h ?_ (λ _ h=>?_) (λ _ h=>?_)
   · intro j2 h
     unfold zG9 at h;refine g_st ?_;refine zh9 rfl hG h (λ _ h=>?_) (λ _ h=>?_)
     · refine za0 (za1 hG ?_)
       obtain⟨v5,hv5,h⟩:=zd0 h;refine zr3 (λ hg=>(zbv7 a0.state).ok _ hv5) ?_;refine za0 (za1 hG ?_);obtain⟨v6,hv6,h⟩:=zd0 h;refine zs8 [] [(0,3)] [0] (zE6 _ _ _ hv6) rfl rfl ?_;obtain⟨hb3,h⟩:=zg4 h;refine za1 hG ?_;refine za0 (za1 hG ?_);refine zm8 ?_;exact zx8 [(1,4)] h
     refine za0 (za1 hG ?_);refine zh9 rfl hG h (λ _ h=>?_) (λ _ h=>?_)
     · refine za0 (za1 hG ?_)
       obtain⟨v7,hv7,h⟩:=zd0 h;refine zs8 [] [(0,3)] [0] (zE6 _ _ _ hv7) rfl rfl ?_;refine za0 (za1 hG ?_);refine zB7 zdY5 (λ v=>zah3 v=some r) ?_ ?_
       · intro j3 h
         unfold zah3 at h;refine g_st ?_;refine za0 (za1 hG ?_);refine zm8 ?_;exact zx8 [(1,1)] h
       refine zat4 (zdY6 a0) hK [(1,3)] h (λ x_l1 h g1 y_l1 h_l1 hx_l1=>?_);unfold zV6 at h_l1;refine g_st ?_;refine za0 (za1 hG ?_);refine za0 ?_;refine zh9 rfl hG h_l1 (λ _ h_l1=>?_) (λ _ h_l1=>?_)
       · refine zh7 ?_
         refine za0 (zy9 (za0 ?_));obtain⟨hb4,h_l1⟩:=zg4 h_l1;refine za1 hG ?_;refine za1 hG ?_;obtain⟨v8,hv8,h_l1⟩:=zd0 h_l1;refine zs8 [] [(0,3)] [0] ((zbz9 g1.2 (a0.options.getD g1.1.toNat bB.zero)).ok _ hv8) rfl rfl ?_;refine za1 hG ?_;exact zU3 hK [(1,3)] h_l1
       refine zE5 ?_;cases h_l1;cases hx_l1 _ rfl;exact zv9 hK [(1,1)] g1.2 (by exact h)
     refine zh7 ?_;refine za0 (za1 hG ?_);refine zm8 ?_;exact zx8 [(1,1)] h
   · refine zh7 ?_
     exact zv9 hK [(1,1),(2,2)] (decide (a1=78)) (by exact h)
   refine za1 hG ?_;exact zv9 hK [(1,1),(2,2)] (decide (a1=76)) (by exact h)
 · refine zh7 ?_
   exact zv9 hK [(1,0),(2,1)] (decide (a1=65)) (by exact h)
 refine za1 hG ?_;exact zv9 hK [(1,0),(2,1)] (decide (a1=97)) (by exact h)
attribute [local irreducible] zx6
def zao0(j1:(List Int)):Option (List Int):=
 some j1
@[go_sem] def zdY9(j1:(List Int)):St:=⟨[(4,.own 0 0 j1.length)],[(0,⟨false,1,[A.int .u8 0],j1.map (eI .u8)⟩)],1⟩
def zP1(a0:aK)(v1:(List (Int×bH)))(g1:Int×(List Int)):Option ((Int×(List Int))⊕(List Int)):=
 (if(decide (g1.1<((Arr.get zz1 a0.kind.toNat ⟨#[]⟩).size:Int)))=true then
  gd (0<=a0.kind/\a0.kind<16)<|
  gd (0<=g1.1/\g1.1<((Arr.get zz1 a0.kind.toNat ⟨#[]⟩).size:Int))<|
  (if(zah9 (((Arr.get zz1 a0.kind.toNat ⟨#[]⟩).toList.getD g1.1.toNat 0).toNat:Int) v1).isSome=true then
   (zu0 (((zah9 (((Arr.get zz1 a0.kind.toNat ⟨#[]⟩).toList.getD g1.1.toNat 0).toNat:Int) v1).getD bH.zero).of)).bind λ v3=>
   (zb2 g1.2 (u64.wrap (i64.wrap (zi9 a0 v3+((zah9 (((Arr.get zz1 a0.kind.toNat ⟨#[]⟩).toList.getD g1.1.toNat 0).toNat:Int) v1).getD bH.zero).plus)))).bind λ v4=>
   some (.inl ((i64.wrap (g1.1+1)),v4))
  else
   (zx6 a0 (((Arr.get zz1 a0.kind.toNat ⟨#[]⟩).toList.getD g1.1.toNat 0).toNat:Int) g1.2).bind λ v5=>
   some (.inl ((i64.wrap (g1.1+1)),v5)))
 else
  some (.inr g1.2))
@[go_sem] def zdZ0(a0:aK)(v1:(List (Int×bH)))(g1:Int×(List Int)):St:=⟨[(1,.ptr 0 0 0),(3,.mp 1),(4,.own 2 0 g1.2.length),(18,.int .i64 ((Arr.get zz1 a0.kind.toNat ⟨#[]⟩).size:Int)),(19,.int .i64 g1.1)],[(0,bx a0),(1,⟨false,0,[A.int .u8 0,A.bool true],v1.map (mI .u8 bH.enc)⟩),(2,⟨false,1,[A.int .u8 0],g1.2.map (eI .u8)⟩)],3⟩
def zJ5(a0:aK):Option (List Int):=
 (zc3).bind λ v1=>
 (zb2 [] (u64.wrap a0.kind)).bind λ v2=>
 gd (0<=a0.kind/\a0.kind<16)<|
 (zc1 (zP1 a0 v1) (0,v2)).bind (λ z=>zao0 z)
theorem zbA2(a0:aK)(r:(List Int))(h:zJ5 a0=some r):PFn C 90 [ga a0] (.sl (r.map (eI .u8))):=by
 refine zW4 Tryz.f90 [(38,1)] λ E hG hN hK=>?_;unfold zJ5 at h;refine za0 (za1 hG ?_);refine za0 (za1 hG ?_);obtain⟨v1,hv1,h⟩:=zd0 h;refine zs8 [] [(0,1)] [0] ((zaj9).ok _ hv1) rfl rfl ?_;refine za0 (za1 hG ?_);obtain⟨v2,hv2,h⟩:=zd0 h;refine zs8 [] [(0,2)] [0] (MFn.unfull1 (zE6 _ _ _ hv2)) rfl rfl ?_;refine za0 (za0 ?_);obtain⟨hb3,h⟩:=zg4 h;refine za1 hG ?_;refine zB7 zdY9 (λ v=>zao0 v=some r) ?_ ?_
 · intro j1 h
   unfold zao0 at h;refine g_st ?_;refine za0 (za1 hG ?_);refine zm8 ?_;exact zy2 h
 refine zat4 (zdZ0 a0 v1) hK [(0,0),(1,1),(2,2)] h (λ x_l1 h g1 y_l1 h_l1 hx_l1=>?_);unfold zP1 at h_l1;refine g_st ?_;refine za0 (za1 hG ?_);refine za0 ?_;refine zh9 rfl hG h_l1 (λ _ h_l1=>?_) (λ _ h_l1=>?_)
 · refine zh7 ?_
   refine za0 (zy9 (za0 (za1 hG ?_)));refine za0 ?_;obtain⟨hb1,h_l1⟩:=zg4 h_l1;obtain⟨hb2,h_l1⟩:=zg4 h_l1;refine za1 hG ?_;refine za0 (za0 (za1 hG ?_));refine za0 (za1 hG ?_);refine zh9 rfl hG h_l1 (λ _ h_l1=>?_) (λ _ h_l1=>?_)
   · refine za0 (zaE3 zK6 hG ?_)
     obtain⟨v3,hv3,h_l1⟩:=zd0 h_l1;refine zbF3 [(0,0)] [] [0] (zak9 _ _ _ hv3) rfl rfl ?_ (ho:=by first|exact⟨by trivial,zC6 hv3⟩|exact zC6 hv3);obtain⟨v4,hv4,h_l1⟩:=zd0 h_l1;refine zbF3 [] [(0,4)] [0] (zE6 _ _ _ hv4) rfl rfl ?_;refine zE5 ?_;refine za1 hG ?_;exact zU3 hK [(0,0),(1,1),(2,4)] h_l1
   refine zh7 ?_;refine za1 hG ?_;obtain⟨v5,hv5,h_l1⟩:=zd0 h_l1;refine zs8 [(0,2)] [(1,4)] [0,1] (zbF9 _ _ _ _ hv5) rfl rfl ?_;refine za1 hG ?_;exact zU3 hK [(0,0),(1,1),(2,4)] h_l1
 refine zE5 ?_;cases h_l1;cases hx_l1 _ rfl;exact zv9 hK [(0,2)] g1.2 (by exact h)
instance zcR2(a0:aK):OkP (zJ5 a0) 90 [ga a0] (λ r=>.sl (r.map (eI .u8))):=⟨zbA2 a0⟩
attribute [local irreducible] zJ5
def zX6(a0:aK):Option Bool:=
 (zM2 a0).bind λ v1=>
 ((if v1=true then zJ5 a0 else some [])).bind λ v2=>
 some (v1&&decide ((v2.length:Int)<=4064))
instance zdk1(a0:aK):OkP (zX6 a0) 50 [ga a0] (λ r=>.bool r):=ok1 (zX6.eq_1 a0) Tryz.f50 []
attribute [local irreducible] zX6
def zaj4(a0:List aA)(a1:aF)(a2:aO)(a3:Int):Option ((List aA)×(List aY)×Int):=
 (zah2 a0 a2.name).bind λ v1=>
 (if(!decide (v1.2=0))=true then
  some ([],[],v1.2)
 else
  (zz7 a0).bind λ v2=>
  (zk2 v2 a1).bind λ v3=>
  (if((!v3)&&decide (8<=(v2.length:Int)))=true then
   some ([],[],4)
  else
   gd (0<=v1.1/\v1.1<(a0.length:Int))<|
   (zT1 (a0.getD v1.1.toNat aA.zero) a1 a2.aJ a3).bind λ v4=>
   (if(!decide (v4.2.2=0))=true then
    some ([],[],v4.2.2)
   else
    (zd6 a0 v1.1 v4.1).bind λ v5=>
    (zg5 a2.name v4.2.1).bind λ v6=>
    some (v5,v6,0))))
instance zdA4(a0:List aA)(a1:aF)(a2:aO)(a3:Int):OkP (zaj4 a0 a1 a2 a3) 91 [la a0,ga a1,ga a2,.int .i64 a3] (λ r=>.tup [la r.1,la r.2.1,.int .i64 r.2.2]):=ok1 (zaj4.eq_1 a0 a1 a2 a3) Tryz.f91 []
attribute [local irreducible] zaj4
def zaw2(a0:bC)(a1:aK)(v1:(List aA)×(List aY)×Int)(j1:Bool×aC):Option (bC×(List bD)×(List aY)×Int):=
 (zl1 a0.tags v1.2.1 a1.aI).bind λ v3=>
 gd (1+v3.length<=4294967296)<|
 (zs4 a0.tags (⟨a1.aI,a1.aW.name,a1.gen⟩:bF)).bind λ v4=>
 some ((⟨v1.1,v4⟩:bC),([(zC9 a1 j1.2 (!j1.1))]++v3),v1.2.1,0)
def zah4(a0:bC)(a1:aK):Option (bC×(List bD)×(List aY)×Int):=
 (zaj4 a0.aG a1.aI a1.aW a1.aX).bind λ v1=>
 (if(!decide (v1.2.2=0))=true then
  some ({bC.zero with},[],[],v1.2.2)
 else
  (zk9 v1.1 a1.aW.name).bind λ v2=>
  (if(decide (0<=v2))=true then
   gd (0<=v2/\v2<(v1.1.length:Int))<|
   (zl0 (v1.1.getD v2.toNat aA.zero) a1.aI).bind λ v5=>
   gd (0<=v2/\v2<(v1.1.length:Int))<|
   (zo4 (v1.1.getD v2.toNat aA.zero) a1.aI).bind λ v6=>
   zaw2 a0 a1 v1 (v6.2,v5)
  else
   zaw2 a0 a1 v1 (false,aC.zero)))
@[reducible,instance] def zeF2 (a0:bC) (a1:aK) (v1:(List aA)×(List aY)×Int) {T1:Type} (v2:T1):=mkJ ((zah4 a0 a1,v1),v2) 999 (@zaw2.eq_1 a0 a1 v1) λ(j1:Bool×aC)=>⟨[(2,.ptr 0 0 0),(3,.ptr 1 0 0),(4,.ptr 2 0 0),(8,la v1.1),(9,la v1.2.1),(11,.ptr 3 0 0),(12,.bool j1.1)],[(0,bx a0),(1,bx a1),(2,bx bC.zero),(3,bx j1.2)],4⟩
instance zdI5(a0:bC)(a1:aK):OkP (zah4 a0 a1) 51 [ga a0,ga a1] (λ r=>.tup [ga r.1,la r.2.1,la r.2.2.1,.int .i64 r.2.2.2]):=ok1 (zah4.eq_1 a0 a1) Tryz.f51 [(62,1)]
attribute [local irreducible] zah4
def zae4(a0:List aA)(a1:aF)(a2:ByteArray):Option ((List aA)×(List aY)×Int):=
 (zah2 a0 a2).bind λ v1=>
 (if(!decide (v1.2=0))=true then
  some ([],[],v1.2)
 else
  gd (0<=v1.1/\v1.1<(a0.length:Int))<|
  (zO7 (a0.getD v1.1.toNat aA.zero) a1).bind λ v2=>
  (if(!decide (v2.2.2=0))=true then
   some ([],[],v2.2.2)
  else
   (zd6 a0 v1.1 v2.1).bind λ v3=>
   (zg5 a2 v2.2.1).bind λ v4=>
   some (v3,v4,0)))
instance zbU3(a0:List aA)(a1:aF)(a2:ByteArray):OkP (zae4 a0 a1 a2) 99 [la a0,ga a1,.str a2] (λ r=>.tup [la r.1,la r.2.1,.int .i64 r.2.2]):=ok1 (zae4.eq_1 a0 a1 a2) Tryz.f99 []
attribute [local irreducible] zae4
def zaj5(a0:List aA)(a1:aF)(a2:aO):Option ((List aA)×(List aY)×Int):=
 (zah2 a0 a2.name).bind λ v1=>
 (if(!decide (v1.2=0))=true then
  some ([],[],v1.2)
 else
  gd (0<=v1.1/\v1.1<(a0.length:Int))<|
  (zT0 (a0.getD v1.1.toNat aA.zero) a1 a2.aJ).bind λ v2=>
  (if(!decide (v2.2.2=0))=true then
   some ([],[],v2.2.2)
  else
   gd (0<=v1.1/\v1.1<(a0.length:Int))<|
   (zl0 (a0.getD v1.1.toNat aA.zero) a1).bind λ v3=>
   (if(decide (a2.aJ=v3))=true then
    (zd6 a0 v1.1 v2.1).bind λ v4=>
    some (v4,[],0)
   else
    (zd6 a0 v1.1 v2.1).bind λ v5=>
    (ze5 a2.name v2.2.1 [(zaN3 a1 a2.name a2.aJ)]).bind λ v6=>
    some (v5,v6,0))))
instance zce2(a0:List aA)(a1:aF)(a2:aO):OkP (zaj5 a0 a1 a2) 100 [la a0,ga a1,ga a2] (λ r=>.tup [la r.1,la r.2.1,.int .i64 r.2.2]):=ok1 (zaj5.eq_1 a0 a1 a2) Tryz.f100 [(64,1)]
attribute [local irreducible] zaj5
def zM3(a0:bC)(a1:aK)(v1:Int)(j2:(List aA)×(List aY)):Option (bC×(List bD)×(List aY)×Int):=
 gd (0<=v1/\v1<(j2.1.length:Int))<|
 (zy6 (j2.1.getD v1.toNat aA.zero)).bind λ v5=>
 (zk2 v5 a1.aI).bind λ v6=>
 (ze3 a0.tags (!v6) ({bF.zero with aI:=a1.aI,name:=a1.aW.name})).bind λ v7=>
 gd (0<=v1/\v1<(j2.1.length:Int))<|
 (zl0 (j2.1.getD v1.toNat aA.zero) a1.aI).bind λ v8=>
 (zl1 a0.tags j2.2 a1.aI).bind λ v9=>
 gd (1+v9.length<=4294967296)<|
 some ((⟨j2.1,v7.1⟩:bC),([(zC9 a1 v8 true)]++v9),j2.2,0)
@[go_sem] def zdZ1(a0:bC)(a1:aK)(v1:Int)(j2:(List aA)×(List aY)):St:=⟨[(2,.ptr 0 0 0),(3,.ptr 1 0 0),(4,.ptr 2 0 0),(8,.int .i64 v1),(9,la j2.1),(10,.own 3 0 j2.2.length)],[(0,bx a0),(1,bx a1),(2,bx bC.zero),(3,sx j2.2)],4⟩
def zM4(a0:bC)(a1:aK)(v1:Int)(j1:(List aA)×(List aY)):Option (bC×(List bD)×(List aY)×Int):=
 (zaj5 j1.1 a1.aI a1.aW).bind λ v4=>
 (if(decide (v4.2.2=0))=true then
  gd (j1.2.length+v4.2.1.length<=4294967296)<|
  zM3 a0 a1 v1 (v4.1,(j1.2++v4.2.1))
 else
  zM3 a0 a1 v1 (j1.1,j1.2))
@[go_sem] def zdZ2(a0:bC)(a1:aK)(v1:Int)(j1:(List aA)×(List aY)):St:=⟨[(2,.ptr 0 0 0),(3,.ptr 1 0 0),(4,.ptr 2 0 0),(8,.int .i64 v1),(9,la j1.1),(10,.own 3 0 j1.2.length)],[(0,bx a0),(1,bx a1),(2,bx bC.zero),(3,sx j1.2)],4⟩
def zR2(a0:bC)(a1:aK):Option (bC×(List bD)×(List aY)×Int):=
 (zk9 a0.aG a1.aW.name).bind λ v1=>
 (if(decide (v1<0))=true then
  some ({bC.zero with},[],[],10)
 else
  (zn8 a0.aG).bind λ v2=>
  gd (0<=v1/\v1<(v2.length:Int))<|
  (zo4 (v2.getD v1.toNat aA.zero) a1.aI).bind λ v3=>
  (if v3.2=true then
   (zae4 v2 a1.aI a1.aW.name).bind λ v10=>
   (if(!decide (v10.2.2=0))=true then
    some ({bC.zero with},[],[],v10.2.2)
   else
    gd (v10.2.1.length<=4294967296)<|
    zM4 a0 a1 v1 (v10.1,v10.2.1))
  else
   zM4 a0 a1 v1 (v2,[])))
theorem zbL8(a0:bC)(a1:aK)(r:bC×(List bD)×(List aY)×Int)(h:zR2 a0 a1=some r):PFn C 52 [ga a0,ga a1] (.tup [ga r.1,la r.2.1,la r.2.2.1,.int .i64 r.2.2.2]):=by
 refine zW4 Tryz.f52 [(10,1),(109,1)] λ E hG hN hK=>?_;unfold zR2 at h;refine za0 (za1 hG ?_);refine za0 (za1 hG ?_);obtain⟨v1,hv1,h⟩:=zd0 h;refine zr3 (λ hg=>(zcn5 a0.aG a1.aW.name).ok _ hv1) ?_;refine za0 (za0 (za1 hG ?_));refine zh9 rfl hG h (λ _ h=>?_) (λ _ h=>?_)
 · refine za0 (za1 hG ?_)
   refine zm8 ?_;exact zy2 h
 refine zh7 ?_;refine za0 (za1 hG ?_);obtain⟨v2,hv2,h⟩:=zd0 h;refine zr3 (λ hg=>(zcn8 a0.aG).ok _ hv2) ?_;refine za0 (za1 hG ?_);refine za0 (za0 ?_);obtain⟨hb6,h⟩:=zg4 h;refine zaE3 zK6 hG ?_;obtain⟨v3,hv3,h⟩:=zd0 h;refine zS0 (λ hg=>(zaM1 (v2.getD v1.toNat aA.zero) a1.aI).ok _ hv3) ?_;refine za0 (za1 hG ?_);refine zaA2 (zdZ2 a0 a1 v1) (λ v=>zM4 a0 a1 v1 v=some r) rfl hG h ?_ (λ _ h=>?_) (λ _ h=>?_)
 · intro j1 h
   unfold zM4 at h;refine g_st ?_;refine za0 (za0 (za1 hG ?_));obtain⟨v4,hv4,h⟩:=zd0 h;refine zr3 (λ hg=>(zce2 j1.1 a1.aI a1.aW).ok _ hv4) ?_;refine za0 (za1 hG ?_);refine zaA2 (zdZ1 a0 a1 v1) (λ v=>zM3 a0 a1 v1 v=some r) rfl hG h ?_ (λ _ h=>?_) (λ _ h=>?_)
   · intro j2 h
     unfold zM3 at h;refine g_st ?_;refine za0 ?_;obtain⟨hb3,h⟩:=zg4 h;refine zaE3 zK6 hG ?_;obtain⟨v5,hv5,h⟩:=zd0 h;refine zS0 (λ hg=>(zbn8 (j2.1.getD v1.toNat aA.zero)).ok _ hv5) ?_;obtain⟨v6,hv6,h⟩:=zd0 h;refine zS0 (λ hg=>(zaZ9 v5 a1.aI).ok _ hv6) ?_;refine za0 (za1 hG ?_);refine za0 (za1 hG ?_);obtain⟨v7,hv7,h⟩:=zd0 h;refine zs8 [(0,4),(1,5)] [] [0,1] ((zbu8 a0.tags (!v6) ({bF.zero with aI:=a1.aI,name:=a1.aW.name})).ok _ hv7) rfl rfl ?_;refine za0 ?_;obtain⟨hb2,h⟩:=zg4 h;refine zaE3 zK6 hG ?_;obtain⟨v8,hv8,h⟩:=zd0 h;refine zS0 (λ hg=>(zaX4 (j2.1.getD v1.toNat aA.zero) a1.aI).ok _ hv8) ?_;refine zS0 (λ hg=>(zcc5 a1 v8 true).ok) ?_;refine za0 (za1 hG ?_);obtain⟨v9,hv9,h⟩:=zd0 h;obtain⟨hb1,h⟩:=zg4 h;refine zr3 (λ hg=>(zbm3 a0.tags j2.2 a1.aI).ok _ hv9) ?_;refine za0 (za1 hG ?_);refine zm8 ?_;exact zy2 h
   · refine za0 (za1 hG ?_)
     obtain⟨hb4,h⟩:=zg4 h;refine za1 hG ?_;exact zv9 hK [(0,0),(1,1),(2,2),(3,4)] (v4.1,(j1.2++v4.2.1)) (by exact h)
   refine zh7 ?_;exact zv9 hK [(0,0),(1,1),(2,2),(3,3)] (j1.1,j1.2) (by exact h)
 · refine za0 (za1 hG ?_)
   obtain⟨v10,hv10,h⟩:=zd0 h;refine zr3 (λ hg=>(zbU3 v2 a1.aI a1.aW.name).ok _ hv10) ?_;refine za0 (za0 (za1 hG ?_));refine zh9 rfl hG h (λ _ h=>?_) (λ _ h=>?_)
   · refine za0 (za1 hG ?_)
     refine zm8 ?_;exact zy2 h
   refine zh7 ?_;refine za0 (za1 hG ?_);obtain⟨hb5,h⟩:=zg4 h;refine za1 hG ?_;exact zv9 hK [(0,0),(1,1),(2,2),(3,5)] (v10.1,v10.2.1) (by exact h)
 refine zh7 ?_;exact zv9 hK [(0,0),(1,1),(2,2),(3,3)] (v2,[]) (by exact h)
instance zdc8(a0:bC)(a1:aK):OkP (zR2 a0 a1) 52 [ga a0,ga a1] (λ r=>.tup [ga r.1,la r.2.1,la r.2.2.1,.int .i64 r.2.2.2]):=⟨zbL8 a0 a1⟩
attribute [local irreducible] zR2
def zbb1(j1:(List aA)×(List aY)):Option ((List aA)×(List aY)):=
 some (j1.1,j1.2)
def zas4(a1 a2:Int)(v3:(List aF))(g1:(List aA)×Int×(List aY)):Option (((List aA)×Int×(List aY))⊕((List aA)×(List aY))):=
 (if(decide (g1.2.1<(v3.length:Int)))=true then
  gd (0<=g1.2.1/\g1.2.1<(v3.length:Int))<|
  (if((!decide ((v3.getD g1.2.1.toNat aF.zero).site=a1))||decide (a2<=(v3.getD g1.2.1.toNat aF.zero).inc))=true then
   some (.inl (g1.1,i64.wrap (g1.2.1+1),g1.2.2))
  else
   (zO9 g1.1 (v3.getD g1.2.1.toNat aF.zero)).bind λ v4=>
   gd (g1.2.2.length+v4.2.length<=4294967296)<|
   some (.inl (v4.1,i64.wrap (g1.2.1+1),(g1.2.2++v4.2))))
 else
  some (.inr (g1.1,g1.2.2)))
def zab6(a0:List aA)(a1 a2:Int):Option ((List aA)×(List aY)):=
 (zG3 a0).bind λ v1=>
 (if(!v1)=true then
  some ([],[])
 else
  (zd6 a0 (-1) ({aA.zero with})).bind λ v2=>
  (zz7 a0).bind λ v3=>
  (zc1 (zas4 a1 a2 v3) (v2,0,[])).bind (λ z=>zbb1 z))
@[reducible,instance] def zeF3 a0 a1 a2 {T1:Type} (v1:T1) {T2:Type} (v2:T2) {T3:Type} (v3:T3):=mkJ (((zab6 a0 a1 a2,v1),v2),v3) 0 (@zbb1.eq_1) λ(j1:(List aA)×(List aY))=>⟨[(8,la j1.1),(9,.own 0 0 j1.2.length)],[(0,sx j1.2)],1⟩
@[reducible,instance] def zeF4 (a1 a2:Int) (v3:(List aF)) {T:Type} (x:T):=mkL x (@zas4.eq_1 a1 a2 v3) λ(g1:(List aA)×Int×(List aY))=>⟨[(1,.int .i64 a1),(2,.int .i64 a2),(8,la g1.1),(9,.own 0 0 g1.2.2.length),(21,la v3),(22,.int .i64 (v3.length:Int)),(23,.int .i64 g1.2.1)],[(0,sx g1.2.2)],1⟩
instance zce3(a0:List aA)(a1 a2:Int):OkP (zab6 a0 a1 a2) 104 [la a0,.int .i64 a1,.int .i64 a2] (λ r=>.tup [la r.1,la r.2]):=ok1 (zab6.eq_1 a0 a1 a2) Tryz.f104 [(9,1)]
attribute [local irreducible] zab6
def zah5(a0:bC)(a1:aK):Option (bC×(List bD)×(List aY)×Int):=
 (zab6 a0.aG a1.site a1.inc).bind λ v1=>
 (zz7 v1.1).bind λ v2=>
 (zq6 a0.tags v2).bind λ v3=>
 (zl1 a0.tags v1.2 ({aF.zero with})).bind λ v4=>
 some ((⟨v1.1,v3.1⟩:bC),v4,v1.2,0)
theorem zco1(a0:bC)(a1:aK)(r:bC×(List bD)×(List aY)×Int)(h:zah5 a0 a1=some r):PFn C 53 [ga a0,ga a1] (.tup [ga r.1,la r.2.1,la r.2.2.1,.int .i64 r.2.2.2]):=by refine zW4 Tryz.f53 [] λ E hG hN hK=>?_;unfold zah5 at h;refine za0 (za1 hG ?_);refine za0 (za1 hG ?_);obtain⟨v1,hv1,h⟩:=zd0 h;refine zr3 (λ hg=>(zce3 a0.aG a1.site a1.inc).ok _ hv1) ?_;refine za0 (za1 hG ?_);obtain⟨v2,hv2,h⟩:=zd0 h;refine zr3 (λ hg=>(zcd9 v1.1).ok _ hv2) ?_;refine za0 (za1 hG ?_);obtain⟨v3,hv3,h⟩:=zd0 h;refine zs8 [(0,3)] [] [0] ((zbn6 a0.tags v2).ok _ hv3) rfl rfl ?_;refine za0 (za1 hG ?_);obtain⟨v4,hv4,h⟩:=zd0 h;refine zr3 (λ hg=>(zbm3 a0.tags v1.2 ({aF.zero with})).ok _ hv4) ?_;refine zm8 ?_;exact zy2 h
instance zdA5(a0:bC)(a1:aK):OkP (zah5 a0 a1) 53 [ga a0,ga a1] (λ r=>.tup [ga r.1,la r.2.1,la r.2.2.1,.int .i64 r.2.2.2]):=⟨zco1 a0 a1⟩
attribute [local irreducible] zah5
def zI0(a0:bC)(a1:aK):Option (bC×(List bD)×(List aY)×Int):=
 (zS3 a0).bind λ v1=>
 (if(!v1)=true then
  some ({bC.zero with},[],[],2)
 else
  (zX6 a1).bind λ v2=>
  (if(!v2)=true then
   some ({bC.zero with},[],[],1)
  else
   (if(decide (a1.kind=1))=true then
    (zah4 a0 a1).bind λ v3=>
    some (v3.1,v3.2.1,v3.2.2.1,v3.2.2.2)
   else
    (if(decide (a1.kind=2))=true then
     (zR2 a0 a1).bind λ v4=>
     some (v4.1,v4.2.1,v4.2.2.1,v4.2.2.2)
    else
     (if(decide (a1.kind=5))=true then
      (zah5 a0 a1).bind λ v5=>
      some (v5.1,v5.2.1,v5.2.2.1,v5.2.2.2)
     else
      some ({bC.zero with},[],[],1))))))
instance zdN7(a0:bC)(a1:aK):OkP (zI0 a0 a1) 17 [ga a0,ga a1] (λ r=>.tup [ga r.1,la r.2.1,la r.2.2.1,.int .i64 r.2.2.2]):=ok1 (zI0.eq_1 a0 a1) Tryz.f17 []
attribute [local irreducible] zI0
def zab7:Option Bool:=
 (zab4 zag2 1).bind λ v1=>
 (zI0 v1.1 (zS6 (⟨0,1,1⟩:aF) 1 5)).bind λ v2=>
 (zI0 v2.1 (zS6 (⟨1,1,1⟩:aF) 4 3)).bind λ v3=>
 (zI0 v3.1 ({aK.zero with kind:=2,aI:=(⟨0,1,1⟩:aF),gen:=2,aW:={aO.zero with name:=(⟨#[97]⟩:ByteArray)}})).bind λ v4=>
 (if((((((((!decide (v1.2=0))||(!decide (v2.2.2.2=0)))||(!decide (v3.2.2.2=0)))||(!decide (v4.2.2.2=0)))||(!decide ((v2.2.1.length:Int)=1)))||(!decide ((v3.2.1.length:Int)=1)))||(!decide ((v4.2.1.length:Int)=2)))||(!decide ((v4.2.2.1.length:Int)=2)))=true then
  some false
 else
  gd (0<=0/\0<(v2.2.1.length:Int))<|
  gd (((v2.2.1.getD 0 bD.zero).message).done=true->0<=0/\0<(v3.2.1.length:Int))<|
  gd ((((v2.2.1.getD 0 bD.zero).message).done&&(!((v3.2.1.getD 0 bD.zero).message).done))=true->0<=1/\1<(v4.2.1.length:Int))<|
  gd (((((v2.2.1.getD 0 bD.zero).message).done&&(!((v3.2.1.getD 0 bD.zero).message).done))&&decide ((v4.2.1.getD 1 bD.zero).to=1))=true->0<=1/\1<(v4.2.1.length:Int))<|
  gd ((((((v2.2.1.getD 0 bD.zero).message).done&&(!((v3.2.1.getD 0 bD.zero).message).done))&&decide ((v4.2.1.getD 1 bD.zero).to=1))&&decide (((v4.2.1.getD 1 bD.zero).message).kind=4))=true->0<=1/\1<(v4.2.1.length:Int))<|
  ((if((((((v2.2.1.getD 0 bD.zero).message).done&&(!((v3.2.1.getD 0 bD.zero).message).done))&&decide ((v4.2.1.getD 1 bD.zero).to=1))&&decide (((v4.2.1.getD 1 bD.zero).message).kind=4))&&decide (((v4.2.1.getD 1 bD.zero).message).gen=4))=true then zS3 v4.1 else some false)).bind λ v5=>
  some (((((((v2.2.1.getD 0 bD.zero).message).done&&(!((v3.2.1.getD 0 bD.zero).message).done))&&decide ((v4.2.1.getD 1 bD.zero).to=1))&&decide (((v4.2.1.getD 1 bD.zero).message).kind=4))&&decide (((v4.2.1.getD 1 bD.zero).message).gen=4))&&v5))
instance zdA6:OkP zab7 9 [] (λ r=>.bool r):=ok1 zab7.eq_1 Tryz.f9 []
attribute [local irreducible] zab7
def zaV5(j1:(List Int)):Option (List Int):=
 some j1
def zaC1(g1:Int×(List Int))(j2:(List Int)):Option ((Int×(List Int))⊕(List Int)):=
 some (.inl ((i64.wrap (g1.1+1)),j2))
def zaa8(a0:aK)(g2:Int×(List Int)):Option ((Int×(List Int))⊕(List Int)):=
 (if(decide (g2.1<(a0.options.length:Int)))=true then
  gd (0<=g2.1/\g2.1<(a0.options.length:Int))<|
  (zw9 g2.2 (a0.options.getD g2.1.toNat bB.zero)).bind λ v16=>
  some (.inl ((i64.wrap (g2.1+1)),v16))
 else
  some (.inr g2.2))
def zF5 (a0:aK) (g1:Int×(List Int)):Option ((Int×(List Int))⊕(List Int)):=
 (if (decide (g1.1<(((zb8 a0.kind).toList.map λ b=>(b.toNat:Int)).length:Int)))=true then
  gd (0<=g1.1/\g1.1<(((zb8 a0.kind).toList.map λ b=>(b.toNat:Int)).length:Int))<|
  (if(decide (((zb8 a0.kind).toList.map λ b=>(b.toNat:Int)).getD g1.1.toNat 0=80))=true then
   (zf2 g1.2 a0.aI).bind λ v2=>
   some (.inl ((i64.wrap (g1.1+1)),v2))
  else
   (if(decide (((zb8 a0.kind).toList.map λ b=>(b.toNat:Int)).getD g1.1.toNat 0=71))=true then
    (zb3 g1.2 (u64.wrap a0.gen)).bind λ v3=>
    some (.inl ((i64.wrap (g1.1+1)),v3))
   else
    (if(decide (((zb8 a0.kind).toList.map λ b=>(b.toNat:Int)).getD g1.1.toNat 0=65))=true then
     (zg0 g1.2 a0.aW.name).bind λ v4=>
     (zb3 v4 (u64.wrap a0.aW.aJ.mode)).bind λ v5=>
     (zb3 v5 (u64.wrap a0.aW.aJ.aV)).bind λ v6=>
     some (.inl ((i64.wrap (g1.1+1)),v6))
    else
     (if(decide (((zb8 a0.kind).toList.map λ b=>(b.toNat:Int)).getD g1.1.toNat 0=89))=true then
      (zb3 g1.2 (u64.wrap a0.aX)).bind λ v7=>
      some (.inl ((i64.wrap (g1.1+1)),v7))
     else
      (if(decide (((zb8 a0.kind).toList.map λ b=>(b.toNat:Int)).getD g1.1.toNat 0=68))=true then
       (if a0.done=true then
        gd (g1.2.length+1<=4294967296)<|
        some (.inl ((i64.wrap (g1.1+1)),(g1.2++[1])))
       else
        gd (g1.2.length+1<=4294967296)<|
        some (.inl ((i64.wrap (g1.1+1)),(g1.2++[0]))))
      else
       (if(decide (((zb8 a0.kind).toList.map λ b=>(b.toNat:Int)).getD g1.1.toNat 0=83))=true then
        (zb3 g1.2 (u64.wrap a0.site)).bind λ v8=>
        some (.inl ((i64.wrap (g1.1+1)),v8))
       else
        (if(decide (((zb8 a0.kind).toList.map λ b=>(b.toNat:Int)).getD g1.1.toNat 0=73))=true then
         (zb3 g1.2 (u64.wrap a0.inc)).bind λ v9=>
         some (.inl ((i64.wrap (g1.1+1)),v9))
        else
         (if(decide (((zb8 a0.kind).toList.map λ b=>(b.toNat:Int)).getD g1.1.toNat 0=82))=true then
          (zb3 g1.2 (u64.wrap a0.round)).bind λ v10=>
          some (.inl ((i64.wrap (g1.1+1)),v10))
         else
          (if(decide (((zb8 a0.kind).toList.map λ b=>(b.toNat:Int)).getD g1.1.toNat 0=69))=true then
           (zb3 g1.2 (u64.wrap a0.epoch)).bind λ v11=>
           some (.inl ((i64.wrap (g1.1+1)),v11))
          else
           (if(decide (((zb8 a0.kind).toList.map λ b=>(b.toNat:Int)).getD g1.1.toNat 0=76))=true then
            (zb3 g1.2 (u64.wrap (i64.wrap (a0.label+1)))).bind λ v12=>
            some (.inl ((i64.wrap (g1.1+1)),v12))
           else
            (if(decide (((zb8 a0.kind).toList.map λ b=>(b.toNat:Int)).getD g1.1.toNat 0=87))=true then
             (zP0 a0.state).bind λ v13=>
             (zb3 g1.2 (u64.wrap (v13.1.length:Int))).bind λ v14=>
             gd (v14.length+v13.1.length<=4294967296)<|
             some (.inl ((i64.wrap (g1.1+1)),(v14++v13.1)))
            else
             (if(decide (((zb8 a0.kind).toList.map λ b=>(b.toNat:Int)).getD g1.1.toNat 0=79))=true then
              (zb3 g1.2 (u64.wrap (a0.options.length:Int))).bind λ v15=>
              (zc1 (zaa8 a0) (0,v15)).bind (λ z=>zaC1 g1 z)
             else
              some (.inl ((i64.wrap (g1.1+1)),g1.2))))))))))))))
 else
  some (.inr g1.2))
def zP2(a0:aK):Option (List Int):=
 (zb3 [] (u64.wrap a0.kind)).bind λ v1=>
 gd ((zb8 a0.kind).size<=4294967296)<|
 (zc1 (zF5 a0) (0,v1)).bind (λ z=>zaV5 z)
@[reducible,instance] def zeF5 (a0:aK) {T1:Type} (v1:T1):=mkJ (zP2 a0,v1) 0 (@zaV5.eq_1) λ(j1:(List Int))=>⟨[(3,.own 0 0 j1.length)],[(0,⟨false,1,[A.int .u8 0],j1.map (eI .u8)⟩)],1⟩
@[reducible,instance] def zeF6 (a0:aK) (g1:Int×(List Int)) {T1:Type} (v15:T1):=mkJ (zF5 a0 g1,v15) 3 (@zaC1.eq_1 g1) λ(j2:(List Int))=>⟨[(1,.ptr 0 0 0),(3,.own 1 0 j2.length),(17,.sl (((zb8 a0.kind).toList.map λ b=>(b.toNat:Int)).map (eI .u8))),(18,.int .i64 (((zb8 a0.kind).toList.map λ b=>(b.toNat:Int)).length:Int)),(19,.int .i64 g1.1)],[(0,bx a0),(1,⟨false,1,[A.int .u8 0],j2.map (eI .u8)⟩)],2⟩
@[reducible,instance] def zeF7 (a0:aK) (g1:Int×(List Int)) {T1:Type} (v15:T1):=mkL (zF5 a0 g1,v15) (@zaa8.eq_1 a0) λ(g2:Int×(List Int))=>⟨[(1,.ptr 0 0 0),(3,.own 1 0 g2.2.length),(17,.sl (((zb8 a0.kind).toList.map λ b=>(b.toNat:Int)).map (eI .u8))),(18,.int .i64 (((zb8 a0.kind).toList.map λ b=>(b.toNat:Int)).length:Int)),(19,.int .i64 g1.1),(136,la a0.options),(137,.int .i64 (a0.options.length:Int)),(138,.int .i64 g2.1)],[(0,bx a0),(1,⟨false,1,[A.int .u8 0],g2.2.map (eI .u8)⟩)],2⟩
@[reducible,instance] def zeF8 (a0:aK) {T:Type} (x:T):=mkL x (@zF5.eq_1 a0) λ(g1:Int×(List Int))=>⟨[(1,.ptr 0 0 0),(3,.own 1 0 g1.2.length),(17,.sl (((zb8 a0.kind).toList.map λ b=>(b.toNat:Int)).map (eI .u8))),(18,.int .i64 (((zb8 a0.kind).toList.map λ b=>(b.toNat:Int)).length:Int)),(19,.int .i64 g1.1)],[(0,bx a0),(1,⟨false,1,[A.int .u8 0],g1.2.map (eI .u8)⟩)],2⟩
instance zdr6(a0:aK):OkP (zP2 a0) 109 [ga a0] (λ r=>.sl (r.map (eI .u8))):=⟨λ r h=>by
 refine zW4 Tryz.f109 [(29,1),(43,1)] λ E hG hN hK=>?_;have hm:Mk (zP2 a0):=trivial;unfold zP2 at h;refine za0 (za1 hG ?_);refine za0 (za1 hG ?_);obtain⟨v1,hv1,h⟩:=zd0 h;have hm:=mkP hm v1;refine zs8 [] [(0,1)] [0] (MFn.unfull1 ((zbu5 [] (u64.wrap a0.kind)).ok _ hv1)) rfl rfl ?_;exact gogo⟩
attribute [local irreducible] zP2
def zaF9(a0:aK)(j1:Unit):Option Bool:=
 (zP2 a0).bind λ v3=>
 some (decide ((v3.length:Int)<=4064))
def zas5(a0:aK)(g1:Int):Option (Int⊕(Unit⊕Bool)):=
 (if(decide (g1<(((zb8 a0.kind).toList.map λ b=>(b.toNat:Int)).length:Int)))=true then
  gd (0<=g1/\g1<(((zb8 a0.kind).toList.map λ b=>(b.toNat:Int)).length:Int))<|
  (zG4 a0 (((zb8 a0.kind).toList.map λ b=>(b.toNat:Int)).getD g1.toNat 0)).bind λ v4=>
  (if(!v4)=true then
   some (.inr (.inr false))
  else
   some (.inl (i64.wrap (g1+1))))
 else
  some (.inr (.inl ())))
def zD5(a0:aK):Option Bool:=
 ((if(!((zb8 a0.kind).toList==(⟨#[]⟩:ByteArray).toList))=true then zn7 a0 else some aK.zero)).bind λ v1=>
 ((if(!((zb8 a0.kind).toList==(⟨#[]⟩:ByteArray).toList))=true then zu7 a0 v1 else some false)).bind λ v2=>
 (if(((zb8 a0.kind).toList==(⟨#[]⟩:ByteArray).toList)||(!v2))=true then
  some false
 else
  gd ((zb8 a0.kind).size<=4294967296)<|
  (zc1 (zas5 a0) 0).bind (λ|.inl z=>zaF9 a0 z|.inr z=>some z))
@[reducible,instance] def zeF9 (a0:aK) {T1:Type} (v1:T1) {T2:Type} (v2:T2):=mkJ ((zD5 a0,v1),v2) 0 (@zaF9.eq_1 a0) λ(j1:Unit)=>⟨[(1,.ptr 0 0 0)],[(0,bx a0)],1⟩
@[reducible,instance] def zeG0 (a0:aK) {T:Type} (x:T):=mkL x (@zas5.eq_1 a0) λ(g1:Int)=>⟨[(1,.ptr 0 0 0),(19,.sl (((zb8 a0.kind).toList.map λ b=>(b.toNat:Int)).map (eI .u8))),(20,.int .i64 (((zb8 a0.kind).toList.map λ b=>(b.toNat:Int)).length:Int)),(21,.int .i64 g1)],[(0,bx a0)],1⟩
instance zdA7(a0:aK):OkP (zD5 a0) 54 [ga a0] (λ r=>.bool r):=ok1 (zD5.eq_1 a0) Tryz.f54 []
attribute [local irreducible] zD5
def zbb2(j1:(List aA)×(List aY)):Option ((List aA)×(List aY)):=
 some (j1.1,j1.2)
def zas6(a1 a2:Int)(v2:(List aF))(g1:(List aA)×Int×(List aY)):Option (((List aA)×Int×(List aY))⊕((List aA)×(List aY))):=
 (if(decide (g1.2.1<(v2.length:Int)))=true then
  gd (0<=g1.2.1/\g1.2.1<(v2.length:Int))<|
  gd (decide ((v2.getD g1.2.1.toNat aF.zero).site=a1)=true->0<=g1.2.1/\g1.2.1<(v2.length:Int))<|
  (if(decide ((v2.getD g1.2.1.toNat aF.zero).site=a1)&&decide ((v2.getD g1.2.1.toNat aF.zero).inc<a2))=true then
   gd (0<=g1.2.1/\g1.2.1<(v2.length:Int))<|
   (zO5 g1.1 (v2.getD g1.2.1.toNat aF.zero)).bind λ v3=>
   gd (g1.2.2.length+v3.2.length<=4294967296)<|
   some (.inl (v3.1,i64.wrap (g1.2.1+1),(g1.2.2++v3.2)))
  else
   some (.inl (g1.1,i64.wrap (g1.2.1+1),g1.2.2)))
 else
  some (.inr (g1.1,g1.2.2)))
def zab8(a0:List aA)(a1 a2:Int):Option ((List aA)×(List aY)):=
 (zD2 a0).bind λ v1=>
 (if(!v1)=true then
  some ([],[])
 else
  (zv7 a0).bind λ v2=>
  (zc1 (zas6 a1 a2 v2) (a0,0,[])).bind (λ z=>zbb2 z))
@[reducible,instance] def zeG1 a0 a1 a2 {T1:Type} (v1:T1) {T2:Type} (v2:T2):=mkJ ((zab8 a0 a1 a2,v1),v2) 0 (@zbb2.eq_1) λ(j1:(List aA)×(List aY))=>⟨[(0,la j1.1),(8,.own 0 0 j1.2.length)],[(0,sx j1.2)],1⟩
@[reducible,instance] def zeG2 (a1 a2:Int) (v2:(List aF)) {T:Type} (x:T):=mkL x (@zas6.eq_1 a1 a2 v2) λ(g1:(List aA)×Int×(List aY))=>⟨[(0,la g1.1),(1,.int .i64 a1),(2,.int .i64 a2),(8,.own 0 0 g1.2.2.length),(9,la v2),(10,.int .i64 g1.2.1)],[(0,sx g1.2.2)],1⟩
instance zdA8(a0:List aA)(a1 a2:Int):OkP (zab8 a0 a1 a2) 63 [la a0,.int .i64 a1,.int .i64 a2] (λ r=>.tup [la r.1,la r.2]):=ok1 (zab8.eq_1 a0 a1 a2) Tryz.f63 [(8,1)]
attribute [local irreducible] zab8
def zai5(a1:aK)(j2:bC×(List aY)):Option (bC×(List bD)×(List aY)×Int):=
 (zm0 j2.1 a1 true).bind λ v13=>
 (zi7 j2.1 j2.2 a1.aI).bind λ v14=>
 gd (1+v14.length<=4294967296)<|
 (zr6 j2.1).bind λ v15=>
 some (v15,([v13]++v14),j2.2,0)
def zX7(a1:aK)(v10:Int)(j1:bC×(List aY)):Option (bC×(List bD)×(List aY)×Int):=
 gd (0<=v10/\v10<(j1.1.aG.length:Int))<|
 (zk7 (j1.1.aG.getD v10.toNat aA.zero) a1.aI).bind λ v12=>
 gd (((!decide (v12=a1.aW.aJ))&&(!(zh5 a1.aW.aJ)))=true->0<=v10/\v10<(j1.1.aG.length:Int))<|
 (if((!decide (v12=a1.aW.aJ))&&(zh5 a1.aW.aJ||zq1 ((j1.1.aG.getD v10.toNat aA.zero).aB) v12 a1.aW.aJ))=true then
  (zS9 j1.1.aG a1.aI a1.aW).bind λ v16=>
  (if(!decide (v16.2.2=0))=true then
   some ({bC.zero with},[],[],v16.2.2)
  else
   gd (j1.2.length+v16.2.1.length<=4294967296)<|
   zai5 a1 ({j1.1 with aG:=v16.1},(j1.2++v16.2.1)))
 else
  zai5 a1 (j1.1,j1.2))
def zN3(a0:bC)(a1:aK):Option (bC×(List bD)×(List aY)×Int):=
 (zN1 a0).bind λ v1=>
 (if(!v1)=true then
  some ({bC.zero with},[],[],2)
 else
  (zD5 a1).bind λ v2=>
  (if((!v2)||(((!decide (a1.kind=1))&&(!decide (a1.kind=2)))&&(!decide (a1.kind=5))))=true then
   some ({bC.zero with},[],[],1)
  else
   (zn1 a0).bind λ v3=>
   (if(decide (a1.kind=1))=true then
    (zS8 v3.aG a1.aI a1.aW a1.aX).bind λ v4=>
    (if(!decide (v4.2.2=0))=true then
     some ({bC.zero with},[],[],v4.2.2)
    else
     (zt9 (({v3 with aG:=v4.1}).tags) (⟨a1.aI,a1.aW.name,a1.gen⟩:bF)).bind λ v5=>
     (zh4 (({{v3 with aG:=v4.1}with tags:=v5}).aG) a1.aW.name).bind λ v6=>
     gd (0<=v6/\v6<((({{v3 with aG:=v4.1}with tags:=v5}).aG).length:Int))<|
     (zk7 ((({{v3 with aG:=v4.1}with tags:=v5}).aG).getD v6.toNat aA.zero) a1.aI).bind λ v7=>
     (zm0 ({{v3 with aG:=v4.1}with tags:=v5}) a1 ((!(zh5 v7))&&zq1 (((({{v3 with aG:=v4.1}with tags:=v5}).aG).getD v6.toNat aA.zero).aB) v7 a1.aW.aJ)).bind λ v8=>
     (zi7 ({{v3 with aG:=v4.1}with tags:=v5}) v4.2.1 a1.aI).bind λ v9=>
     gd (1+v9.length<=4294967296)<|
     some ({{v3 with aG:=v4.1}with tags:=v5},([v8]++v9),v4.2.1,0))
   else
    (if(decide (a1.kind=2))=true then
     (zh4 v3.aG a1.aW.name).bind λ v10=>
     (if(decide (v10<0))=true then
      some ({bC.zero with},[],[],10)
     else
      gd (0<=v10/\v10<(v3.aG.length:Int))<|
      (zi6 (v3.aG.getD v10.toNat aA.zero) a1.aI).bind λ v11=>
      (if v11.2=true then
       (zV4 v3.aG a1.aI a1.aW.name).bind λ v17=>
       (if(!decide (v17.2.2=0))=true then
        some ({bC.zero with},[],[],v17.2.2)
       else
        gd (v17.2.1.length<=4294967296)<|
        zX7 a1 v10 ({v3 with aG:=v17.1},v17.2.1))
      else
       zX7 a1 v10 (v3,[])))
    else
     (zab8 v3.aG a1.site a1.inc).bind λ v18=>
     (zi7 ({v3 with aG:=v18.1}) v18.2 ({aF.zero with})).bind λ v19=>
     (zr6 ({v3 with aG:=v18.1})).bind λ v20=>
     some (v20,v19,v18.2,0)))))
@[reducible,instance] def zeG3 (a1:aK) v10 j1 {T1:Type} (v12:T1):=mkJ (zX7 a1 v10 j1,v12) 999 (@zai5.eq_1 a1) λ(j2:bC×(List aY))=>⟨[(2,.ptr 0 0 0),(3,.ptr 1 0 0),(4,.ptr 2 0 0),(15,.own 3 0 j2.2.length)],[(0,bx j2.1),(1,bx a1),(2,bx bC.zero),(3,sx j2.2)],4⟩
@[reducible,instance] def zeG4 a0 (a1:aK) {T1:Type} (v1:T1) {T2:Type} (v2:T2) {T3:Type} (v3:T3) (v10:Int) {T4:Type} (v11:T4):=mkJ (((((zN3 a0 a1,v1),v2),v3),v10),v11) 999 (@zX7.eq_1 a1 v10) λ(j1:bC×(List aY))=>⟨[(2,.ptr 0 0 0),(3,.ptr 1 0 0),(4,.ptr 2 0 0),(14,.int .i64 v10),(15,.own 3 0 j1.2.length)],[(0,bx j1.1),(1,bx a1),(2,bx bC.zero),(3,sx j1.2)],4⟩
instance zdI6(a0:bC)(a1:aK):OkP (zN3 a0 a1) 18 [ga a0,ga a1] (λ r=>.tup [ga r.1,la r.2.1,la r.2.2.1,.int .i64 r.2.2.2]):=ok1 (zN3.eq_1 a0 a1) Tryz.f18 [(122,1),(15,1),(229,1)]
attribute [local irreducible] zN3
def zao1(j1:Unit):Option Bool:=
 (zab7).bind λ v11=>
 some v11
def zP3(v9:(List aD)×bJ)(g1:bJ×bC):Option ((bJ×bC)⊕(Unit⊕Bool)):=
 (zd4 g1.1).bind λ v12=>
 (if v12.1=true then
  (zm2 v9.1 v12.2).bind λ v13=>
  (zI0 g1.2 v13.1).bind λ v14=>
  (zN3 g1.2 v13.1).bind λ v15=>
  ((if(decide (v14.2.2.2=v15.2.2.2))=true then zs6 v14.1 v15.1 else some false)).bind λ v16=>
  ((if(!((!decide (v14.2.2.2=v15.2.2.2))||(!v16)))=true then zv5 v14.2.1 v15.2.1 else some false)).bind λ v17=>
  ((if(!(((!decide (v14.2.2.2=v15.2.2.2))||(!v16))||(!v17)))=true then zc6 v14.2.2.1 v15.2.2.1 else some false)).bind λ v18=>
  (if((((!decide (v14.2.2.2=v15.2.2.2))||(!v16))||(!v17))||(!v18))=true then
   some (.inr (.inr false))
  else
   (if(decide (v15.2.2.2=0))=true then
    some (.inl (v13.2,v15.1))
   else
    some (.inl (v13.2,g1.2))))
 else
  some (.inr (.inl ())))
def zJ6(a0:bC)(a1:aK)(a2:List Int):Option Bool:=
 ((if(zag3 a2)=true then zo8 a0 else some false)).bind λ v1=>
 ((if(!((!(zag3 a2))||(!v1)))=true then zm7 a1.state else some false)).bind λ v2=>
 (if((((!(zag3 a2))||(!v1))||(!v2))||decide (20<(a1.options.length:Int)))=true then
  (zab7).bind λ v3=>
  some v3
 else
  (zI0 a0 a1).bind λ v4=>
  (zN3 a0 a1).bind λ v5=>
  ((if(decide (v4.2.2.2=v5.2.2.2))=true then zs6 v4.1 v5.1 else some false)).bind λ v6=>
  ((if(!((!decide (v4.2.2.2=v5.2.2.2))||(!v6)))=true then zv5 v4.2.1 v5.2.1 else some false)).bind λ v7=>
  ((if(!(((!decide (v4.2.2.2=v5.2.2.2))||(!v6))||(!v7)))=true then zc6 v4.2.2.1 v5.2.2.1 else some false)).bind λ v8=>
  (if((((!decide (v4.2.2.2=v5.2.2.2))||(!v6))||(!v7))||(!v8))=true then
   some false
  else
   (zq2 ({bJ.zero with l:=a2})).bind λ v9=>
   (zaf6 v9.1 0).bind λ v10=>
   (zc1 (zP3 v9) (v9.2,v10.1)).bind (λ|.inl z=>zao1 z|.inr z=>some z)))
@[reducible,instance] def zeG5 a0 a1 a2 {T1:Type} (v1:T1) {T2:Type} (v2:T2) {T3:Type} (v4:T3) {T4:Type} (v5:T4) {T5:Type} (v6:T5) {T6:Type} (v7:T6) {T7:Type} (v8:T7) {T8:Type} (v9:T8) {T9:Type} (v10:T9):=mkJ (((((((((zJ6 a0 a1 a2,v1),v2),v4),v5),v6),v7),v8),v9),v10) 0 (@zao1.eq_1) λ(j1:Unit)=>⟨[],[],0⟩
@[reducible,instance] def zeG6 (v9:(List aD)×bJ) {T:Type} (x:T):=mkL x (@zP3.eq_1 v9) λ(g1:bJ×bC)=>⟨[(15,.ptr 0 0 0),(16,la v9.1),(17,.ptr 1 0 0)],[(0,bx g1.1),(1,bx g1.2)],2⟩
instance zbA3(a0:bC)(a1:aK)(a2:List Int):OkP (zJ6 a0 a1 a2) 4 [ga a0,ga a1,.sl (a2.map (eI .i64))] (λ r=>.bool r):=ok1 (zJ6.eq_1 a0 a1 a2) Tryz.f4 []
attribute [local irreducible] zJ6
end
end Ab
end Go.Proofs.YtdlfhmkmnjbihaaGreatDoor
