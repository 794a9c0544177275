import Derived.Test.YtenebhlnfjcffaaGreatDoorHm2
import Derived.Test.YtenebhlnfjcffaaGreatDoorHm3
import Derived.Test.YtenebhlnfjcffaaGreatDoorHm6
import Derived.Test.YtenebhlnfjcffaaGreatDoorSort
import Derived.Test.YtenebhlnfjcffaaGreatDoorStr
namespace Go.Proofs.YtenebhlnfjcffaaGreatDoor
namespace Ab
open IntKind (i64 u64 u8)
set_option linter.unusedSimpArgs false
set_option linter.defProp false
set_option linter.unusedVariables false
set_option maxRecDepth 100000
set_option maxHeartbeats 1000000
noncomputable section
attribute [local irreducible] zk3 ze8 za7 zb2 zh7 zj7 zj3 zi8 zh4 zk4 zd0 zd9 zj9 zp2 zm8 zh0 zf8 ze0 ze4 zc8 za9 zk6 zh1 zo5 zh2 f_ref08_holds zc7 zl8 zg5 zh8 zn7 zg1 zi3 zf9 zb3 za0 zj2 zn3 zl9 zf0 zh5 zf1
def zr0(a0:Int):Option aL:=
 (zp2 a0 8).bind λ v1=>
 some (⟨(v1.tmod 4),1,i64.wrap (1+i64.wrap (v1.tdiv 4))⟩:aL)
instance zcq8(a0:Int):OkP (zr0 a0) 17 [.int .i64 a0] (λ r=>ga r):=ok1 (zr0.eq_1 a0) Tryz.f17 []
attribute [local irreducible] zr0
def zd4(a0 a1:aL):Option Int:=
 (zh8 (⟨[a0.site,a0.inc,a0.num],rfl⟩:Arr Int 3) (⟨[a1.site,a1.inc,a1.num],rfl⟩:Arr Int 3)).bind λ v1=>
 some v1
instance zaL0(a0 a1:aL):OkP (zd4 a0 a1) 34 [ga a0,ga a1] (λ r=>.int .i64 r):=ok1 (zd4.eq_1 a0 a1) Tryz.f34 []
attribute [local irreducible] zd4
def zk7(a0:aO):Option Int:=
 (ze8 a0 1 0).bind λ v1=>
 some v1.1
instance zbF6(a0:aO):OkP (zk7 a0) 80 [ga a0] (λ r=>.int .i64 r):=ok1 (zk7.eq_1 a0) Tryz.f80 []
attribute [local irreducible] zk7
def zaC2(j1:(List Int)):Option (List Int):=
 some j1
def zaC3(a1:List Int)(g1:(List Int)×Int):Option (((List Int)×Int)⊕(List Int)):=
 (if(decide (g1.2<(a1.length:Int)))=true then
  gd (0<=g1.2/\g1.2<(a1.length:Int))<|
  (zi3 g1.1 (u64.wrap (a1.getD g1.2.toNat 0))).bind λ v1=>
  some (.inl (v1,i64.wrap (g1.2+1)))
 else
  some (.inr g1.1))
def zd1(a0 a1:List Int):Option (List Int):=
 (zc2 (zaC3 a1) (a0,0)).bind (λ z=>zaC2 z)
@[reducible,instance] def zee6 a0 a1:=mkJ (zd1 a0 a1) 0 (@zaC2.eq_1) λ(j1:(List Int))=>⟨[(0,.sl (j1.map (eI .u8)))],[],0⟩
@[reducible,instance] def zee7 (a1:List Int) {T:Type} (x:T):=mkL x (@zaC3.eq_1 a1) λ(g1:(List Int)×Int)=>⟨[(0,.sl (g1.1.map (eI .u8))),(7,.sl (a1.map (eI .i64))),(8,.int .i64 (a1.length:Int)),(9,.int .i64 g1.2)],[],0⟩
instance zcA8(a0 a1:List Int):OkP (zd1 a0 a1) 44 [.sl (a0.map (eI .u8)),.sl (a1.map (eI .i64))] (λ r=>.sl (r.map (eI .u8))):=ok1 (zd1.eq_1 a0 a1) Tryz.f44 []
attribute [local irreducible] zd1
def zl3(a0:List Int)(a1:ByteArray):Option (List Int):=
 (zf9 a0 (u64.wrap (a1.size:Int))).bind λ v1=>
 gd (v1.length+a1.toList.length<=4294967296)<|
 some (v1++(a1.toList.map λ b=>(b.toNat:Int)))
instance zdb0(a0:List Int)(a1:ByteArray):OkP (zl3 a0 a1) 94 [.sl (a0.map (eI .u8)),.str a1] (λ r=>.sl (r.map (eI .u8))):=ok1 (zl3.eq_1 a0 a1) Tryz.f94 [(9,1)]
attribute [local irreducible] zl3
def zs0(a0:List Int):Option (ByteArray×Int×Int):=
 (zm8 a0).bind λ v1=>
 (if(!decide (v1.2.2=0))=true then
  some ((⟨#[]⟩:ByteArray),0,v1.2.2)
 else
  (if(decide (1024<v1.1))=true then
   some ((⟨#[]⟩:ByteArray),0,3)
  else
   (if(decide (i64.wrap ((a0.length:Int)-v1.2.1)<i64.wrap v1.1))=true then
    some ((⟨#[]⟩:ByteArray),0,5)
   else
    gd (0<=v1.2.1/\v1.2.1<=i64.wrap (v1.2.1+i64.wrap v1.1)/\i64.wrap (v1.2.1+i64.wrap v1.1)<=(a0.length:Int))<|
    some ((zbv0 ((a0.take ((i64.wrap (v1.2.1+i64.wrap v1.1)).toNat)).drop v1.2.1.toNat)),i64.wrap (v1.2.1+i64.wrap v1.1),0))))
instance zdz1(a0:List Int):OkP (zs0 a0) 150 [.sl (a0.map (eI .u8))] (λ r=>.tup [.str r.1,.int .i64 r.2.1,.int .i64 r.2.2]):=ok1 (zs0.eq_1 a0) Tryz.f150 []
attribute [local irreducible] zs0
def zb0(a0:List aJ)(a1:aJ):Option Bool:=
 (za7 a0 a1).bind λ v1=>
 some (decide (0<=v1))
instance zau5(a0:List aJ)(a1:aJ):OkP (zb0 a0 a1) 140 [la a0,ga a1] (λ r=>.bool r):=ok1 (zb0.eq_1 a0 a1) Tryz.f140 []
attribute [local irreducible] zb0
def zal1(a0:aC):Bool:=
 (if(!decide (a0.mode=0))=true then
  (zw5 a0.mode&&decide (a0.aS=0))
 else
  (decide (1<=a0.aS)&&decide (a0.aS<=8)))
instance zdp8(a0:aC):OkT 225 [.agg (aC.enc a0)] (.bool (zal1 a0)):=ok2 (λ r=>.bool r) (zal1.eq_1 a0) Tryz.f225 []
def zaC4(j1:Unit):Option Bool:=
 some true
def zV7(a0:List bK)(a1:Int)(g1:Int×Int):Option ((Int×Int)⊕(Unit⊕Bool)):=
 (if(decide (g1.2<(a0.length:Int)))=true then
  gd (0<=g1.2/\g1.2<(a0.length:Int))<|
  gd ((!(decide ((a0.getD g1.2.toNat bK.zero).label<1)||decide (99<(a0.getD g1.2.toNat bK.zero).label)))=true->0<=0/\0<=g1.2/\g1.2<=(a0.length:Int))<|
  ((if(!(decide ((a0.getD g1.2.toNat bK.zero).label<1)||decide (99<(a0.getD g1.2.toNat bK.zero).label)))=true then zj2 (a0.take g1.2.toNat) ((a0.getD g1.2.toNat bK.zero).label)else some 0)).bind λ v1=>
  (if((decide ((a0.getD g1.2.toNat bK.zero).label<1)||decide (99<(a0.getD g1.2.toNat bK.zero).label))||decide (0<=v1))=true then
   some (.inr (.inr false))
  else
   (if(decide ((a0.getD g1.2.toNat bK.zero).at_<g1.1)||decide (a1<(a0.getD g1.2.toNat bK.zero).at_))=true then
    some (.inr (.inr false))
   else
    some (.inl ((a0.getD g1.2.toNat bK.zero).at_,i64.wrap (g1.2+1)))))
 else
  some (.inr (.inl ())))
def ze9(a0:List bK)(a1:Int):Option Bool:=
 (if(decide (4<(a0.length:Int)))=true then
  some false
 else
  (zc2 (zV7 a0 a1) (0,0)).bind (λ|.inl z=>zaC4 z|.inr z=>some z))
@[reducible,instance] def zee8 a0 a1:=mkJ (ze9 a0 a1) 0 (@zaC4.eq_1) λ(j1:Unit)=>⟨[],[],0⟩
@[reducible,instance] def zee9 (a0:List bK) (a1:Int) {T:Type} (x:T):=mkL x (@zV7.eq_1 a0 a1) λ(g1:Int×Int)=>⟨[(0,la a0),(1,.int .i64 a1),(5,.int .i64 g1.1),(11,la a0),(12,.int .i64 (a0.length:Int)),(13,.int .i64 g1.2)],[],0⟩
instance zcA9(a0:List bK)(a1:Int):OkP (ze9 a0 a1) 161 [la a0,.int .i64 a1] (λ r=>.bool r):=ok1 (ze9.eq_1 a0 a1) Tryz.f161 []
attribute [local irreducible] ze9
def zN8(j1:aB):Option (Int×aB):=
 some ((-1),j1)
def zu7(a0:List aJ)(g1:Int×aB):Option ((Int×aB)⊕(aB⊕(Int×aB))):=
 (if(decide (g1.1<(a0.length:Int)))=true then
  gd (0<=g1.1/\g1.1<(a0.length:Int))<|
  (zc8 (a0.getD g1.1.toNat aJ.zero) g1.2).bind λ v1=>
  (if v1.1=true then
   some (.inr (.inr (g1.1,v1.2)))
  else
   some (.inl ((i64.wrap (g1.1+1)),v1.2)))
 else
  some (.inr (.inl g1.2)))
def za6(a0:List aJ)(a1:aB):Option (Int×aB):=
 (zc2 (zu7 a0) (0,a1)).bind (λ|.inl z=>zN8 z|.inr z=>some z)
@[reducible,instance] def zef0 a0 a1:=mkJ (za6 a0 a1) 0 (@zN8.eq_1) λ(j1:aB)=>⟨[],[(0,bx j1)],1⟩
@[reducible,instance] def zef1 (a0:List aJ) {T:Type} (x:T):=mkL x (@zu7.eq_1 a0) λ(g1:Int×aB)=>⟨[(0,la a0),(1,.clo 236 [.ptr 0 0 0]),(7,.int .i64 (a0.length:Int)),(8,.int .i64 g1.1)],[(0,bx g1.2)],1⟩
instance zbj8(a0:List aJ)(a1:aB):OkM (za6 a0 a1) 235 [la a0,.clo 236 [.ptr 0 0 0]] [(0,bx a1)] 1 (λ r=>.int .i64 r.1) (λ r=>[(0,bx r.2)]) 1:=okm (za6.eq_1 a0 a1) (λ r=>[.int .i64 r.1]) Tryz.f235 [(16,1)]
attribute [local irreducible] za6
def zi7(a0:aB)(a1:aL):Option (aC×Bool):=
 (zk6 a0.aN a1).bind λ v1=>
 (if(decide (0<=v1))=true then
  gd (0<=v1/\v1<(a0.aN.length:Int))<|
  some ((a0.aN.getD v1.toNat aU.zero).aM,true)
 else
  (zk6 a0.aT a1).bind λ v2=>
  (if(decide (0<=v2))=true then
   gd (0<=v2/\v2<(a0.aT.length:Int))<|
   some ((a0.aT.getD v2.toNat aU.zero).aM,true)
  else
   some ({aC.zero with},false)))
instance zbN5(a0:aB)(a1:aL):OkP (zi7 a0 a1) 187 [ga a0,ga a1] (λ r=>.tup [ga r.1,.bool r.2]):=ok1 (zi7.eq_1 a0 a1) Tryz.f187 []
attribute [local irreducible] zi7
attribute [local irreducible] zn8 zf5 zb5 za4 ze1 zm5 zb6 zb1 zo2 zi2 zl5 zi9 zn1 zf4 zd8 zg3
def za2(a0:aH)(a1:aC):Bool:=
 (if(!(zg4 a0))=true then
  false
 else
  (if(decide (a0.kind=1))=true then
   (zw5 a1.mode&&decide (a1.aS=0))
  else
   ((decide (a1.mode=0)&&decide (1<=a1.aS))&&decide (a1.aS<=a0.aS))))
instance zdp9(a0:aH)(a1:aC):OkT 109 [.agg (aH.enc a0),.agg (aC.enc a1)] (.bool (za2 a0 a1)):=ok2 (λ r=>.bool r) (za2.eq_1 a0 a1) Tryz.f109 []
def zP7(a2:bD)(v1:Int×Int×Int)(j1:Int):Option (Int×bD):=
 (if(!decide (j1=0))=true then
  some (0,{a2 with bO:={a2.bO with err:=j1}})
 else
  gd (0<=v1.2.1/\v1.2.1<=(a2.bO.rest.length:Int)/\(a2.bO.rest.length:Int)<=(a2.bO.rest.length:Int))<|
  some ((i64.wrap v1.1),{a2 with bO:={a2.bO with rest:=(a2.bO.rest.drop v1.2.1.toNat)}}))
def zc6(a0 a1:Int)(a2:bD):Option (Int×bD):=
 (if(!decide (a2.bO.err=0))=true then
  some (0,a2)
 else
  (zm8 a2.bO.rest).bind λ v1=>
  (if(decide (v1.2.2=0)&&decide (u64.wrap a0<v1.1))=true then
   zP7 a2 v1 a1
  else
   zP7 a2 v1 v1.2.2))
@[reducible,instance] def zef2 a0 a1 (a2:bD) (v1:Int×Int×Int):=mkJ (zc6 a0 a1 a2,v1) 999 (@zP7.eq_1 a2 v1) λ(j1:Int)=>⟨[(0,.ptr 0 0 0),(7,.int .u64 v1.1),(8,.int .i64 v1.2.1),(9,.int .i64 j1)],[(0,bx a2)],1⟩
instance zbL4(a0 a1:Int)(a2:bD):OkM (zc6 a0 a1 a2) 95 [.ptr 0 0 0,.int .i64 a0,.int .i64 a1] [(0,bx a2)] 1 (λ r=>.int .i64 r.1) (λ r=>[(0,bx r.2)]) 1:=okm (zc6.eq_1 a0 a1 a2) (λ r=>[.int .i64 r.1]) Tryz.f95 []
attribute [local irreducible] zc6
def zA7(j1:Unit):Option Bool:=
 some true
def zA8(a0 a1:List aU)(g1:Int):Option (Int⊕(Unit⊕Bool)):=
 (if(decide (g1<(a0.length:Int)))=true then
  gd (0<=g1/\g1<(a0.length:Int))<|
  gd (0<=g1/\g1<(a1.length:Int))<|
  (if(!(zad2 (a0.getD g1.toNat aU.zero) (a1.getD g1.toNat aU.zero)))=true then
   some (.inr (.inr false))
  else
   some (.inl (i64.wrap (g1+1))))
 else
  some (.inr (.inl ())))
def za1(a0 a1:List aU):Option Bool:=
 (if(!decide ((a0.length:Int)=(a1.length:Int)))=true then
  some false
 else
  (zc2 (zA8 a0 a1) 0).bind (λ|.inl z=>zA7 z|.inr z=>some z))
@[reducible,instance] def zef3 a0 a1:=mkJ (za1 a0 a1) 0 (@zA7.eq_1) λ(j1:Unit)=>⟨[],[],0⟩
@[reducible,instance] def zef4 (a0 a1:List aU) {T:Type} (x:T):=mkL x (@zA8.eq_1 a0 a1) λ(g1:Int)=>⟨[(1,la a1),(2,.clo 153 []),(15,la a0),(16,.int .i64 (a0.length:Int)),(17,.int .i64 g1)],[],0⟩
instance zP8(a0 a1:List aU):OkM (za1 a0 a1) 152 [la a0,la a1,.clo 153 []] [] 0 (λ r=>.bool r) (λ r=>[]) 0:=okm (za1.eq_1 a0 a1) (λ r=>[.bool r]) Tryz.f152 []
attribute [local irreducible] za1
def zF8(a90:(aO->aO->Option Bool))(a0 a1:aO):Option Bool:=
 ((if(decide (a0.k=a1.k)&&decide (a0.bG=a1.bG))=true then za0 a90 a0.bE a1.bE else some false)).bind λ v1=>
 some ((decide (a0.k=a1.k)&&decide (a0.bG=a1.bG))&&v1)
def zH3:Nat->(aO->aO->Option Bool)
 |0=>λ _ _=>none
 |n+1=>zF8 (zH3 n)
def zg2(a0 a1:aO):Option Bool:=zH3 (_root_.SizeOf.sizeOf a0+1) a0 a1
theorem zbf2(a90:(aO->aO->Option Bool))(hrc:∀(a0:aO) (a1:aO) (r:Bool),a90 a0 a1=some r->PFn C 101 [ga a0,ga a1] (.bool r))(a0 a1:aO)(r:Bool)(h:zF8 a90 a0 a1=some r):PFn C 101 [ga a0,ga a1] (.bool r):=by refine zae9 Tryz.f101 [] λ E hG hN hK=>?_;have hm:Mk (zF8 a90 a0 a1):=trivial;unfold zF8 at h;refine za3 (za8 hG ?_);refine za3 (za8 hG ?_);obtain⟨v1,hv1,h⟩:=zf3 h;have hm:=mkP hm v1;refine zbB3 [] [] hv1 (λ hc=>zP5 a90 hrc a0.bE a1.bE _ hc) rfl ?_;exact gogo
theorem zaC5:∀(n:Nat) (a0:aO) (a1:aO) (r:Bool),zH3 n a0 a1=some r->PFn C 101 [ga a0,ga a1] (.bool r)
 |0,_,_,_,h=>nomatch h
 |n+1,a0,a1,r,h=>zbf2 (zH3 n) (zaC5 n) a0 a1 r h
instance zcv2(a0 a1:aO):OkP (zg2 a0 a1) 101 [ga a0,ga a1] (λ r=>.bool r):=⟨λ r h=>zaC5 _ a0 a1 r h⟩
attribute [local irreducible] zg2
def zl4(a0 a1:aJ):Option Int:=
 (zf8 a0.name a1.name).bind λ v1=>
 some v1
instance zbF7(a0 a1:aJ):OkP (zl4 a0 a1) 164 [ga a0,ga a1] (λ r=>.int .i64 r):=ok1 (zl4.eq_1 a0 a1) Tryz.f164 []
attribute [local irreducible] zl4
def zF9(a0:Int):Bool:=
 (((zS6 a0||(decide (48<=a0)&&decide (a0<=57)))||decide (a0=95))||decide (a0=45))
instance zdz2(a0:Int):OkT 213 [.int .u8 a0] (.bool (zF9 a0)):=ok2 (λ r=>.bool r) (zF9.eq_1 a0) Tryz.f213 []
def zv4(a0 a1:aL):Int:=
 (if(!decide (zR8 a0.site a1.site=0))=true then
  (zR8 a0.site a1.site)
 else
  (if(!decide (zR8 a0.inc a1.inc=0))=true then
   (zR8 a0.inc a1.inc)
  else
   (zR8 a0.num a1.num)))
instance zcB0(a0 a1:aL):OkT 71 [.agg (aL.enc a0),.agg (aL.enc a1)] (.int .i64 (zv4 a0 a1)):=ok2 (λ r=>.int .i64 r) (zv4.eq_1 a0 a1) Tryz.f71 []
def zn0(a0:aC):Bool:=
 ((zB9 a0.mode&&decide (a0.aS=0))||((decide (a0.mode=0)&&decide (1<=a0.aS))&&decide (a0.aS<=8)))
instance zbi6(a0:aC):OkT 148 [.agg (aC.enc a0)] (.bool (zn0 a0)):=ok2 (λ r=>.bool r) (zn0.eq_1 a0) Tryz.f148 []
def zf6(a0 a1:bH):Option Bool:=
 (zh4 a0.bN a1.bN).bind λ v1=>
 some ((v1&&decide (a0.aZ=a1.aZ))&&decide (a0.limit=a1.limit))
instance zcB1(a0 a1:bH):OkP (zf6 a0 a1) 121 [ga a0,ga a1] (λ r=>.bool r):=ok1 (zf6.eq_1 a0 a1) Tryz.f121 []
attribute [local irreducible] zf6
def zaa2:List Int:=[5,5,3,4,2,1,3,5]
def zs1(a0:Int):Option Int:=
 (zp2 a0 (zaa2.length:Int)).bind λ v1=>
 gd (0<=v1/\v1<(zaa2.length:Int))<|
 some (zaa2.getD v1.toNat 0)
instance zdD7(a0:Int):OkP (zs1 a0) 289 [.int .i64 a0] (λ r=>.int .i64 r):=⟨λ r h=>by
 refine zae9 Tryz.f289 [] λ E hG hN hK=>?_;have hm:Mk (zs1 a0):=trivial;unfold zs1 at h;refine za3 (za8 hG ?_);refine za3 (za8 hG ?_);refine g_gh (.cast 3 (.full (zaa2.map (eI .i64)))) ?_;exact gogo⟩
attribute [local irreducible] zs1
attribute [local irreducible] zb7 ze2 zf2 zi6 zj8 zo7 zd6 ze5 zh9 zn4 zm3 zk2 zn9 zd7 zb9 zq5
def ze7(a0:aH):Option Bool:=
 (ze5 a0.name).bind λ v1=>
 some (((v1&&zg4 a0)&&decide (0<=a0.home))&&decide (a0.home<4))
instance zcf9(a0:aH):OkP (ze7 a0) 203 [ga a0] (λ r=>.bool r):=ok1 (ze7.eq_1 a0) Tryz.f203 []
attribute [local irreducible] ze7
def zj0(a0:aJ):Option Bool:=
 (ze5 a0.name).bind λ v1=>
 some (v1&&(za2 ({aH.zero with kind:=1,aS:=1}) a0.aM||za2 ({aH.zero with kind:=2,aS:=8}) a0.aM))
instance zbm2(a0:aJ):OkP (zj0 a0) 138 [ga a0] (λ r=>.bool r):=ok1 (zj0.eq_1 a0) Tryz.f138 []
attribute [local irreducible] zj0
def zd3(a0:Int)(a1:bD):Option (Int×bD):=
 (zc6 a0 4 a1).bind λ v1=>
 some (v1.1,v1.2)
instance zI7(a0:Int)(a1:bD):OkM (zd3 a0 a1) 48 [.ptr 0 0 0,.int .i64 a0] [(0,bx a1)] 1 (λ r=>.int .i64 r.1) (λ r=>[(0,bx r.2)]) 1:=okm (zd3.eq_1 a0 a1) (λ r=>[.int .i64 r.1]) Tryz.f48 []
attribute [local irreducible] zd3
def ze6(a0:bD):Option (ByteArray×bD):=
 (if(!decide (a0.bO.err=0))=true then
  some ((⟨#[]⟩:ByteArray),a0)
 else
  (zs0 a0.bO.rest).bind λ v1=>
  (if(!decide (v1.2.2=0))=true then
   some ((⟨#[]⟩:ByteArray),{a0 with bO:={a0.bO with err:=v1.2.2}})
  else
   gd (0<=v1.2.1/\v1.2.1<=(a0.bO.rest.length:Int)/\(a0.bO.rest.length:Int)<=(a0.bO.rest.length:Int))<|
   some (v1.1,{a0 with bO:={a0.bO with rest:=(a0.bO.rest.drop v1.2.1.toNat)}})))
instance zam3(a0:bD):OkM (ze6 a0) 96 [.ptr 0 0 0] [(0,bx a0)] 1 (λ r=>.str r.1) (λ r=>[(0,bx r.2)]) 1:=okm (ze6.eq_1 a0) (λ r=>[.str r.1]) Tryz.f96 []
attribute [local irreducible] ze6
theorem zao6:SlLaysF0.n6 C.P ⟨λ|6=>163|15=>158|14=>228|28=>222|29=>223|20=>269|21=>270|22=>271|23=>272|24=>273|25=>274|26=>275|27=>276|46=>300|47=>264|48=>265|49=>301|50=>302|57=>315|n=>n,λ|22=>94|24=>46|25=>227|39=>209|53=>263|55=>162|46=>256|45=>255|50=>260|66=>291|70=>198|76=>318|77=>206|n=>n,λ n=>n⟩ where
 mixed:=zM4
 f6:=⟨ "slices.SortFunc[[]clusterlocks/api.Atom,clusterlocks/api.Atom]",by decide,Tryz.func163.trans (dG some (by kernel_rfl))⟩
 f14:=⟨ "slices.pdqsortCmpFunc[clusterlocks/api.Atom]",by decide,Tryz.func228.trans (dG some (by kernel_rfl))⟩
 f15:=Tryz.func158.trans (dG some (by kernel_rfl))
 f20:=⟨ "slices.insertionSortCmpFunc[clusterlocks/api.Atom]",by decide,Tryz.func269.trans (dG some (by kernel_rfl))⟩
 f21:=⟨ "slices.heapSortCmpFunc[clusterlocks/api.Atom]",by decide,Tryz.func270.trans (dG some (by kernel_rfl))⟩
 f22:=⟨ "slices.breakPatternsCmpFunc[clusterlocks/api.Atom]",by decide,Tryz.func271.trans (dG some (by kernel_rfl))⟩
 f23:=⟨ "slices.choosePivotCmpFunc[clusterlocks/api.Atom]",by decide,Tryz.func272.trans (dG some (by kernel_rfl))⟩
 f24:=⟨ "slices.reverseRangeCmpFunc[clusterlocks/api.Atom]",by decide,Tryz.func273.trans (dG some (by kernel_rfl))⟩
 f25:=⟨ "slices.partialInsertionSortCmpFunc[clusterlocks/api.Atom]",by decide,Tryz.func274.trans (dG some (by kernel_rfl))⟩
 f26:=⟨ "slices.partitionEqualCmpFunc[clusterlocks/api.Atom]",by decide,Tryz.func275.trans (dG some (by kernel_rfl))⟩
 f27:=⟨ "slices.partitionCmpFunc[clusterlocks/api.Atom]",by decide,Tryz.func276.trans (dG some (by kernel_rfl))⟩
 f28:=Tryz.func222.trans (dG some (by kernel_rfl))
 f29:=Tryz.func223.trans (dG some (by kernel_rfl))
 f46:=⟨ "slices.siftDownCmpFunc[clusterlocks/api.Atom]",by decide,Tryz.func300.trans (dG some (by kernel_rfl))⟩
 f47:=Tryz.func264.trans (dG some (by kernel_rfl))
 f48:=Tryz.func265.trans (dG some (by kernel_rfl))
 f49:=⟨ "slices.medianAdjacentCmpFunc[clusterlocks/api.Atom]",by decide,Tryz.func301.trans (dG some (by kernel_rfl))⟩
 f50:=⟨ "slices.medianCmpFunc[clusterlocks/api.Atom]",by decide,Tryz.func302.trans (dG some (by kernel_rfl))⟩
 f57:=⟨ "slices.order2CmpFunc[clusterlocks/api.Atom]",by decide,Tryz.func315.trans (dG some (by kernel_rfl))⟩
 t0:=Tryz.underlying0
 a0:=Tryz.isAgg0
 z0:=Tryz.sizeOf0
 v0:=Tryz.zeroValue0
 t3:=Tryz.underlying3
 a3:=Tryz.isAgg3
 z3:=Tryz.sizeOf3
 v3:=Tryz.zeroValue3
 t4:=Tryz.underlying4
 a4:=Tryz.isAgg4
 z4:=Tryz.sizeOf4
 v4:=Tryz.zeroValue4
 t5:=Tryz.underlying5
 a5:=Tryz.isAgg5
 z5:=Tryz.sizeOf5
 v5:=Tryz.zeroValue5
 t9:=Tryz.underlying9
 a9:=Tryz.isAgg9
 z9:=Tryz.sizeOf9
 v9:=Tryz.zeroValue9
 t22:=Tryz.underlying94
 a22:=Tryz.isAgg94
 z22:=Tryz.sizeOf94
 v22:=Tryz.zeroValue94
 t25:=Tryz.underlying227
 a25:=Tryz.isAgg227
 z25:=Tryz.sizeOf227
 v25:=Tryz.zeroValue227
 t39:=Tryz.underlying209
 a39:=Tryz.isAgg209
 z39:=Tryz.sizeOf209
 v39:=Tryz.zeroValue209
 t45:=Tryz.underlying255
 a45:=Tryz.isAgg255
 z45:=Tryz.sizeOf255
 v45:=Tryz.zeroValue255
 t46:=Tryz.underlying256
 a46:=Tryz.isAgg256
 z46:=Tryz.sizeOf256
 v46:=Tryz.zeroValue256
 t50:=Tryz.underlying260
 a50:=Tryz.isAgg260
 z50:=Tryz.sizeOf260
 v50:=Tryz.zeroValue260
 t53:=Tryz.underlying263
 a53:=Tryz.isAgg263
 z53:=Tryz.sizeOf263
 v53:=Tryz.zeroValue263
 t55:=Tryz.underlying162
 a55:=Tryz.isAgg162
 z55:=Tryz.sizeOf162
 v55:=Tryz.zeroValue162
 t66:=Tryz.underlying291
 a66:=Tryz.isAgg291
 z66:=Tryz.sizeOf291
 v66:=Tryz.zeroValue291
 t70:=Tryz.underlying198
 a70:=Tryz.isAgg198
 z70:=Tryz.sizeOf198
 v70:=Tryz.zeroValue198
 t76:=Tryz.underlying318
 a76:=Tryz.isAgg318
 z76:=Tryz.sizeOf318
 v76:=Tryz.zeroValue318
 t77:=Tryz.underlying206
 a77:=Tryz.isAgg206
 z77:=Tryz.sizeOf206
 v77:=Tryz.zeroValue206
def zu5(x y:aJ):Int:=Go.Lib.compareBytes x.name.data.toList y.name.data.toList
theorem zan5(x y:aJ):zl4 x y=some (zu5 x y):=by unfold zl4 zf8;rfl
def zc0(a0:List aJ):Option (List aJ):=gd (a0.length<=4294967296/\a0.Pairwise λ x y=>zu5 x y<0\/zu5 y x<0) (some (a0.mergeSort λ x y=>!decide (zu5 y x<0)))
theorem zan6(a0 r:List aJ)(h:zc0 a0=some r):r.length=a0.length:=by obtain⟨_,h⟩:=zg8 h;obtain rfl:=dS h;exact jX _
theorem zan7(a0 r:List aJ)(h:zc0 a0=some r):MFn C 163 [.own 0 0 a0.length,.clo 164 []] [(0,sx a0)] 1 (.tup []) [(0,sx r)] 1:=by obtain⟨⟨hl,hp⟩,h⟩:=zg8 h;obtain rfl:=dS h;exact zcA4 zao6 aJ.enc 3 aJ.len (by decide) (λ x=>by first|exact(aJ.laws x).1|exact(aJ.laws x).2.1) Tryz.isAgg46 Tryz.sizeOf46 zu5 (zdD5 (λ x:aJ=>x.name) zdp2) 164 (λ x y=>(zbF7 x y).ok _ (zan5 x y)) (enters_of Tryz.func164 (by kernel_rfl) rfl) rfl _ a0 hl (zcU7 hp)
attribute [local irreducible] zc0
def zw6(a0:aH)(a1:aC):Bool:=
 (zM6 a0&&(zn2 a1||zv6 a0 a1))
instance zcL1(a0:aH)(a1:aC):OkT 142 [.agg (aH.enc a0),.agg (aC.enc a1)] (.bool (zw6 a0 a1)):=ok2 (λ r=>.bool r) (zw6.eq_1 a0 a1) Tryz.f142 []
def zaR3(a1:aL)(a2:aC)(j1:Bool×(List bA)):Option (List bA):=
 (if(!j1.1)=true then
  gd (j1.2.length+1<=4294967296)<|
  some (j1.2++[(⟨a1,a2⟩:bA)])
 else
  some j1.2)
def zao7(a0:List bA)(a1:aL)(a2:aC)(g1:Bool×Int×(List bA)):Option ((Bool×Int×(List bA))⊕(Bool×(List bA))):=
 (if(decide (g1.2.1<(a0.length:Int)))=true then
  gd (0<=g1.2.1/\g1.2.1<(a0.length:Int))<|
  (if(decide ((a0.getD g1.2.1.toNat bA.zero).aK=a1))=true then
   some (.inl (g1.1,i64.wrap (g1.2.1+1),g1.2.2))
  else
   gd ((!g1.1)=true->0<=g1.2.1/\g1.2.1<(a0.length:Int))<|
   (if((!g1.1)&&decide (0<zv4 ((a0.getD g1.2.1.toNat bA.zero).aK) a1))=true then
    gd (g1.2.2.length+1<=4294967296)<|
    gd (0<=g1.2.1/\g1.2.1<(a0.length:Int))<|
    gd (g1.2.2.length+1+1<=4294967296)<|
    some (.inl (true,i64.wrap (g1.2.1+1),((g1.2.2++[(⟨a1,a2⟩:bA)])++[(a0.getD g1.2.1.toNat bA.zero)])))
   else
    gd (0<=g1.2.1/\g1.2.1<(a0.length:Int))<|
    gd (g1.2.2.length+1<=4294967296)<|
    some (.inl (g1.1,i64.wrap (g1.2.1+1),(g1.2.2++[(a0.getD g1.2.1.toNat bA.zero)])))))
 else
  some (.inr (g1.1,g1.2.2)))
def zt1(a0:List bA)(a1:aL)(a2:aC):Option (List bA):=
 (zc2 (zao7 a0 a1 a2) ((zn2 a2),0,[])).bind (λ z=>zaR3 a1 a2 z)
@[reducible,instance] def zef5 a0 (a1:aL) (a2:aC):=mkJ (zt1 a0 a1 a2) 0 (@zaR3.eq_1 a1 a2) λ(j1:Bool×(List bA))=>⟨[(4,.ptr 0 0 0),(5,.ptr 1 0 0),(7,.own 2 0 j1.2.length),(8,.bool j1.1)],[(0,bx a1),(1,bx a2),(2,sx j1.2)],3⟩
@[reducible,instance] def zef6 (a0:List bA) (a1:aL) (a2:aC) {T:Type} (x:T):=mkL x (@zao7.eq_1 a0 a1 a2) λ(g1:Bool×Int×(List bA))=>⟨[(0,la a0),(4,.ptr 0 0 0),(5,.ptr 1 0 0),(7,.own 2 0 g1.2.2.length),(8,.bool g1.1),(9,.int .i64 g1.2.1)],[(0,bx a1),(1,bx a2),(2,sx g1.2.2)],3⟩
instance zdD8(a0:List bA)(a1:aL)(a2:aC):OkP (zt1 a0 a1 a2) 309 [la a0,ga a1,ga a2] (λ r=>la r):=ok1 (zt1.eq_1 a0 a1 a2) Tryz.f309 [(7,1)]
attribute [local irreducible] zt1
def zaL1(j1:(List aL)):Option (List aL):=
 some j1
def zao8(g1:Int×(List aL))(j2:(List aL)):Option ((Int×(List aL))⊕(List aL)):=
 some (.inl ((i64.wrap (g1.1+1)),j2))
def zS7(g2:Int×(List aL)):Option ((Int×(List aL))⊕(List aL)):=
 gd (decide (0<g2.1)=true->0<=i64.wrap (g2.1-1)/\i64.wrap (g2.1-1)<((g2.2.length:Nat):Int))<|
 gd (decide (0<g2.1)=true->0<=g2.1/\g2.1<((g2.2.length:Nat):Int))<|
 (if(decide (0<g2.1)&&decide (0<zv4 (g2.2.getD ((i64.wrap (g2.1-1)).toNat) aL.zero) (g2.2.getD g2.1.toNat aL.zero)))=true then
  gd (0<=i64.wrap (g2.1-1)/\i64.wrap (g2.1-1)<((g2.2.length:Nat):Int))<|
  gd (0<=g2.1/\g2.1<((g2.2.length:Nat):Int))<|
  gd (0<=i64.wrap (g2.1-1)/\i64.wrap (g2.1-1)<((g2.2.length:Nat):Int))<|
  gd (0<=g2.1/\g2.1<((g2.2.length:Nat):Int))<|
  some (.inl ((i64.wrap (g2.1-1)),(g2.2.set ((i64.wrap (g2.1-1)).toNat) (g2.2.getD g2.1.toNat aL.zero)).set g2.1.toNat (g2.2.getD ((i64.wrap (g2.1-1)).toNat) aL.zero)))
 else
  some (.inr g2.2))
def zE9(a0:List aL)(g1:Int×(List aL)):Option ((Int×(List aL))⊕(List aL)):=
 (if(decide (g1.1<(a0.length:Int)))=true then
  gd (0<=g1.1/\g1.1<(a0.length:Int))<|
  (zh1 g1.2 (a0.getD g1.1.toNat aL.zero)).bind λ v1=>
  (if v1=true then
   some (.inl ((i64.wrap (g1.1+1)),g1.2))
  else
   gd (0<=g1.1/\g1.1<(a0.length:Int))<|
   gd (g1.2.length+1<=4294967296)<|
   (zc2 zS7 (((g1.2.length:Nat):Int),(g1.2++[(a0.getD g1.1.toNat aL.zero)]))).bind (λ z=>zao8 g1 z))
 else
  some (.inr g1.2))
def zk1(a0:List aL):Option (List aL):=
 (zc2 (zE9 a0) (0,[])).bind (λ z=>zaL1 z)
@[reducible,instance] def zef7 a0:=mkJ (zk1 a0) 0 (@zaL1.eq_1) λ(j1:(List aL))=>⟨[(3,.own 0 0 j1.length)],[(0,sx j1)],1⟩
@[reducible,instance] def zef8 (a0:List aL) (g1:Int×(List aL)) {T1:Type} (v1:T1):=mkJ (zE9 a0 g1,v1) 2 (@zao8.eq_1 g1) λ(j2:(List aL))=>⟨[(0,la a0),(3,.own 0 0 j2.length),(4,.int .i64 g1.1)],[(0,sx j2)],1⟩
@[reducible,instance] def zef9 (a0:List aL) (g1:Int×(List aL)) {T1:Type} (v1:T1):=mkL (zE9 a0 g1,v1) (@zS7.eq_1) λ(g2:Int×(List aL))=>⟨[(0,la a0),(3,.own 0 0 g2.2.length),(4,.int .i64 g1.1),(5,.int .i64 g2.1)],[(0,sx g2.2)],1⟩
@[reducible,instance] def zeg0 (a0:List aL) {T:Type} (x:T):=mkL x (@zE9.eq_1 a0) λ(g1:Int×(List aL))=>⟨[(0,la a0),(3,.own 0 0 g1.2.length),(4,.int .i64 g1.1)],[(0,sx g1.2)],1⟩
instance zcL2(a0:List aL):OkP (zk1 a0) 116 [la a0] (λ r=>la r):=ok1 (zk1.eq_1 a0) Tryz.f116 [(3,1)]
attribute [local irreducible] zk1
def zaO0(j1:(List aJ)):Option (List aJ):=
 some j1
def zae2(a0:List aB)(a1:aL)(g1:Int×(List aJ)):Option ((Int×(List aJ))⊕(List aJ)):=
 (if(decide (g1.1<(a0.length:Int)))=true then
  gd (0<=g1.1/\g1.1<(a0.length:Int))<|
  (zj8 (a0.getD g1.1.toNat aB.zero) a1).bind λ v1=>
  (if(!(zn2 v1))=true then
   gd (0<=g1.1/\g1.1<(a0.length:Int))<|
   gd (g1.2.length+1<=4294967296)<|
   some (.inl ((i64.wrap (g1.1+1)),(g1.2++[(⟨((a0.getD g1.1.toNat aB.zero).aA).name,v1⟩:aJ)])))
  else
   some (.inl ((i64.wrap (g1.1+1)),g1.2)))
 else
  some (.inr g1.2))
def zm1(a0:List aB)(a1:aL):Option (List aJ):=
 (zc2 (zae2 a0 a1) (0,[])).bind (λ z=>zaO0 z)
@[reducible,instance] def zeg1 a0 a1:=mkJ (zm1 a0 a1) 0 (@zaO0.eq_1) λ(j1:(List aJ))=>⟨[(5,.own 0 0 j1.length)],[(0,sx j1)],1⟩
@[reducible,instance] def zeg2 (a0:List aB) (a1:aL) {T:Type} (x:T):=mkL x (@zae2.eq_1 a0 a1) λ(g1:Int×(List aJ))=>⟨[(0,la a0),(3,.ptr 0 0 0),(5,.own 1 0 g1.2.length),(6,.int .i64 g1.1)],[(0,bx a1),(1,sx g1.2)],2⟩
instance zcV2(a0:List aB)(a1:aL):OkP (zm1 a0 a1) 123 [la a0,ga a1] (λ r=>la r):=ok1 (zm1.eq_1 a0 a1) Tryz.f123 [(5,1)]
attribute [local irreducible] zm1
end
end Ab
end Go.Proofs.YtenebhlnfjcffaaGreatDoor
