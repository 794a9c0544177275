import Derived.Test.YtdlfhmkmnjbihaaGreatDoorHm14
import Derived.Test.YtdlfhmkmnjbihaaGreatDoorHm16
namespace Go.Proofs.YtdlfhmkmnjbihaaGreatDoor
namespace Ab
open IntKind (i64 u64 u8)
set_option linter.unusedSimpArgs false
set_option linter.defProp false
set_option linter.unusedVariables false
set_option maxRecDepth 100000
set_option maxHeartbeats 1000000
noncomputable section
attribute [local irreducible] zl5 zj8 zl7 zd1 zg5 zi1 zf5 zm6 zl8 zk4 ze1 ze6 zn5 zd4 zo3 za2 zg8 zg6 za5 zf6 ze4 zg3 zd7 zn0 zc9 zc6 zp8 zh0 zf7 zl6 zd5 zb1 ze0 zd6 za4 zj9 ze5 zh4 zd2 zb3 zf9 zd8 za8 zc3 ze2 zb9 zb2 zk9 za6 zc8 zd3 zk3 zf8 zd9 zk6 zi5 zq5 zc4 za9 ze7 zi3 zg0 zn1 zb7 zq4 zl4 zf1 zb6 zl1 ze8 zk7 zn7 zf2 zl0 zk0 zn8 ze9 zi6 zp3 zj5 zj0 zh2 zi7 zm7 zc5 zg1 zk1 zj1 za7 ze3 zf0 zo7 zm3 zo8 zm4 zo9 zj6 zf4 zm0 zc7 zg2 zr1 zt3 zp4 zf3 zj2 zk2 zr2 zq0 zg7 zj7 zh8 zi2 zj3 zu9 zh6 zm1 zn2 zv0 zj4 zs0 zo6 zt9 zm2 zn4 zt0 zm5 zl2 zr5 zq3 zr6 zo2 zb5 zi8 zo4 zn9 zg9 zr7 zs6
def zax4(a0:aD)(j1:(List aC)):Option Bool:=
 (zj4 a0 j1).bind λ v1=>
 some v1
def zV1(a0:aD)(a1:List aT)(g1:Int×(List aC)):Option ((Int×(List aC))⊕((List aC)⊕Bool)):=
 (if(decide (g1.1<(a1.length:Int)))=true then
  gd (0<=g1.1/\g1.1<(a1.length:Int))<|
  (if((!(za3 ((a1.getD g1.1.toNat aT.zero).aI)))||(!(zb4 a0 ((a1.getD g1.1.toNat aT.zero).aJ))))=true then
   some (.inr (.inr false))
  else
   gd (decide (0<g1.1)=true->0<=i64.wrap (g1.1-1)/\i64.wrap (g1.1-1)<(a1.length:Int))<|
   ((if(decide (0<g1.1))=true then zc4 ((a1.getD ((i64.wrap (g1.1-1)).toNat) aT.zero).aI) ((a1.getD g1.1.toNat aT.zero).aI)else some 0)).bind λ v2=>
   (if(decide (0<g1.1)&&decide (0<=v2))=true then
    some (.inr (.inr false))
   else
    gd (g1.2.length+1<=4294967296)<|
    some (.inl ((i64.wrap (g1.1+1)),(g1.2++[(a1.getD g1.1.toNat aT.zero).aJ])))))
 else
  some (.inr (.inl g1.2)))
def zq8(a0:aD)(a1:List aT):Option Bool:=
 (if((!(zh1 a0))||decide (8<(a1.length:Int)))=true then
  some false
 else
  (zc1 (zV1 a0 a1) (0,[])).bind (λ|.inl z=>zax4 a0 z|.inr z=>some z))
@[reducible,instance] def zeI9 (a0:aD) a1:=mkJ (zq8 a0 a1) 0 (@zax4.eq_1 a0) λ(j1:(List aC))=>⟨[(2,.ptr 0 0 0),(5,.own 1 0 j1.length)],[(0,bx a0),(1,sx j1)],2⟩
@[reducible,instance] def zeJ0 (a0:aD) (a1:List aT) {T:Type} (x:T):=mkL x (@zV1.eq_1 a0 a1) λ(g1:Int×(List aC))=>⟨[(1,la a1),(2,.ptr 0 0 0),(5,.own 1 0 g1.2.length),(16,la a1),(17,.int .i64 (a1.length:Int)),(18,.int .i64 g1.1)],[(0,bx a0),(1,sx g1.2)],2⟩
instance zdj5(a0:aD)(a1:List aT):OkP (zq8 a0 a1) 230 [ga a0,la a1] (λ r=>.bool r):=ok1 (zq8.eq_1 a0 a1) Tryz.f230 [(5,1)]
attribute [local irreducible] zq8
def zo0(a0:List aF):Option (List aF):=
 gd (a0.length<=4294967296)<|
 (zb5 a0).bind λ v1=>
 (za2 v1).bind λ v2=>
 some v2.1
theorem zbA0(a0:List aF)(r:(List aF))(h:zo0 a0=some r):PFn C 84 [la a0] (la r):=by refine zW4 Tryz.f84 [] λ E hG hN hK=>?_;unfold zo0 at h;refine za0 (za1 hG ?_);refine za0 ?_;obtain⟨hb1,h⟩:=zg4 h;refine za1 hG ?_;refine za0 (za1 hG ?_);obtain⟨v1,hv1,h⟩:=zd0 h;have hl_v1:=zam3 a0 _ hv1;refine zs8 [(0,0)] [] [0] (zam4 _ _ hv1) rfl rfl ?_;refine za0 (za1 hG ?_);obtain⟨v2,hv2,h⟩:=zd0 h;refine zs8 [(0,0)] [] [0] ((zam9 v1).ok _ hv2) rfl rfl ?_;refine zm8 ?_;exact zy2 h
instance zcR0(a0:List aF):OkP (zo0 a0) 84 [la a0] (λ r=>la r):=⟨zbA0 a0⟩
attribute [local irreducible] zo0
def zs1(a0:aA)(a1 a2:aC)(a3:aF):Option (ByteArray×Int×Int×Int×Int×aC×aC×aF×(List aT)×(List aM)×(List aM)):=
 (zt0 a0.aB a1 a2).bind λ v1=>
 gd (a0.aH.length+1<=4294967296)<|
 some (a0.aB.name,a0.aB.kind,a0.aB.aV,a0.aB.home,a0.gen,a1,a2,a3,a0.aL,a0.aU,(a0.aH++[{aM.zero with aI:=a3,aJ:=v1}]))
instance zbv2(a0:aA)(a1 a2:aC)(a3:aF):OkM (zs1 a0 a1 a2 a3) 206 [.ptr 0 0 0,.ptr 1 0 0,.ptr 2 0 0,.ptr 3 0 0] [(0,⟨false,8,aA.enc aA.zero,[[.str a0.aB.name,.int .i64 a0.aB.kind,.int .i64 a0.aB.aV,.int .i64 a0.aB.home,.own 4 0 a0.aL.length,.own 5 0 a0.aH.length,.own 6 0 a0.aU.length,.int .i64 a0.gen]]⟩),(1,bx a1),(2,bx a2),(3,bx a3),(4,sx a0.aL),(5,sx a0.aH),(6,sx a0.aU)] 7 (λ r=>.tup []) (λ r=>[(0,⟨false,8,aA.enc aA.zero,[[.str r.1,.int .i64 r.2.1,.int .i64 r.2.2.1,.int .i64 r.2.2.2.1,.own 4 0 r.2.2.2.2.2.2.2.2.1.length,.own 7 0 r.2.2.2.2.2.2.2.2.2.2.length,.own 6 0 r.2.2.2.2.2.2.2.2.2.1.length,.int .i64 r.2.2.2.2.1]]⟩),(1,bx r.2.2.2.2.2.1),(2,bx r.2.2.2.2.2.2.1),(3,bx r.2.2.2.2.2.2.2.1),(4,sx r.2.2.2.2.2.2.2.2.1),(6,sx r.2.2.2.2.2.2.2.2.2.1),(7,sx r.2.2.2.2.2.2.2.2.2.2)]) 8:=okm (zs1.eq_1 a0 a1 a2 a3) (λ r=>[]) Tryz.f206 []
attribute [local irreducible] zs1
def zaB6(j1:Int)(j2:(List aM)):Option ((List aM)×Int×Int):=
 some (j2,j1,0)
def zZ0(a0:List aM)(g1:Int×(List aM)):Option ((Int×(List aM))⊕(List aM)):=
 (if(decide (g1.1<(a0.length:Int)))=true then
  gd (0<=g1.1/\g1.1<(a0.length:Int))<|
  gd (g1.2.length+1<=4294967296)<|
  some (.inl ((i64.wrap (g1.1+1)),(g1.2++[{(a0.getD g1.1.toNat aM.zero)with bG:=(i64.wrap ((a0.getD g1.1.toNat aM.zero).bG+1))}])))
 else
  some (.inr g1.2))
def zZ1(a0:List aM)(a1:aM)(j1:Int):Option ((List aM)×Int×Int):=
 gd (0<=0/\0<=j1/\j1<=(a0.length:Int))<|
 gd ((a0.take j1.toNat).length<=4294967296)<|
 gd ((a0.take j1.toNat).length+1<=4294967296)<|
 (zc1 (zZ0 a0) (j1,(a0.take j1.toNat++[a1]))).bind (λ z=>zaB6 j1 z)
def zal5(a0:List aM)(a1:aM)(g2:Int):Option (Int⊕Int):=
 gd (decide (0<g2)=true->0<=i64.wrap (g2-1)/\i64.wrap (g2-1)<(a0.length:Int))<|
 gd ((decide (0<g2)&&decide ((a0.getD ((i64.wrap (g2-1)).toNat) aM.zero).aX<a1.aX))=true->0<=i64.wrap (g2-1)/\i64.wrap (g2-1)<(a0.length:Int))<|
 (if((decide (0<g2)&&decide ((a0.getD ((i64.wrap (g2-1)).toNat) aM.zero).aX<a1.aX))&&decide ((a0.getD ((i64.wrap (g2-1)).toNat) aM.zero).bG<3))=true then
  some (.inl (i64.wrap (g2-1)))
 else
  some (.inr g2))
def zt5(a0:List aM)(a1:aM):Option ((List aM)×Int×Int):=
 (zr5 a0).bind λ v1=>
 (if(!v1)=true then
  some ([],0,2)
 else
  (if((!(zz6 a1))||(!decide (a1.bG=0)))=true then
   some ([],0,1)
  else
   (zk3 a0 a1.aI).bind λ v2=>
   (if(decide (0<=v2))=true then
    some ([],0,11)
   else
    (if(decide ((a0.length:Int)=8))=true then
     some ([],0,4)
    else
     (zc1 (zal5 a0 a1) (a0.length:Int)).bind (λ z=>zZ1 a0 a1 z)))))
@[reducible,instance] def zex5 a0 a1 (j1:Int):=mkJ (zZ1 a0 a1 j1) 2 (@zaB6.eq_1 j1) λ(j2:(List aM))=>⟨[(7,.int .i64 j1),(8,.own 0 0 j2.length)],[(0,sx j2)],1⟩
@[reducible,instance] def zex6 (a0:List aM) a1 (j1:Int):=mkL (zZ1 a0 a1 j1) (@zZ0.eq_1 a0) λ(g1:Int×(List aM))=>⟨[(0,la a0),(7,.int .i64 j1),(8,.own 0 0 g1.2.length),(9,.int .i64 g1.1)],[(0,sx g1.2)],1⟩
@[reducible,instance] def zex7 (a0:List aM) (a1:aM) {T1:Type} (v1:T1) {T2:Type} (v2:T2):=mkJ ((zt5 a0 a1,v1),v2) 0 (@zZ1.eq_1 a0 a1) λ(j1:Int)=>⟨[(0,la a0),(3,.ptr 0 0 0),(7,.int .i64 j1)],[(0,bx a1)],1⟩
@[reducible,instance] def zex8 (a0:List aM) (a1:aM) {T:Type} (x:T):=mkL x (@zal5.eq_1 a0 a1) λ(g2:Int)=>⟨[(0,la a0),(3,.ptr 0 0 0),(7,.int .i64 g2)],[(0,bx a1)],1⟩
instance zbT8(a0:List aM)(a1:aM):OkP (zt5 a0 a1) 169 [la a0,ga a1] (λ r=>.tup [la r.1,.int .i64 r.2.1,.int .i64 r.2.2]):=ok1 (zt5.eq_1 a0 a1) Tryz.f169 [(56,1)]
attribute [local irreducible] zt5
def zba5(j1:Unit):Option Bool:=
 some true
def zar3(a0:List aD)(g1:Int):Option (Int⊕(Unit⊕Bool)):=
 (if(decide (g1<(a0.length:Int)))=true then
  gd (0<=g1/\g1<(a0.length:Int))<|
  (zg9 (a0.getD g1.toNat aD.zero)).bind λ v1=>
  gd ((v1&&decide (0<g1))=true->0<=i64.wrap (g1-1)/\i64.wrap (g1-1)<(a0.length:Int))<|
  gd ((v1&&decide (0<g1))=true->0<=g1/\g1<(a0.length:Int))<|
  (if((!v1)||(decide (0<g1)&&(!Op.bytesLess ((a0.getD ((i64.wrap (g1-1)).toNat) aD.zero).name).toList ((a0.getD g1.toNat aD.zero).name).toList)))=true then
   some (.inr (.inr false))
  else
   some (.inl (i64.wrap (g1+1))))
 else
  some (.inr (.inl ())))
def zu1(a0:List aD):Option Bool:=
 (if(decide (8<(a0.length:Int)))=true then
  some false
 else
  (zc1 (zar3 a0) 0).bind (λ|.inl z=>zba5 z|.inr z=>some z))
@[reducible,instance] def zex9 a0:=mkJ (zu1 a0) 0 (@zba5.eq_1) λ(j1:Unit)=>⟨[],[],0⟩
@[reducible,instance] def zey0 (a0:List aD) {T:Type} (x:T):=mkL x (@zar3.eq_1 a0) λ(g1:Int)=>⟨[(0,la a0),(3,.int .i64 g1)],[],0⟩
instance zdz0(a0:List aD):OkP (zu1 a0) 36 [la a0] (λ r=>.bool r):=ok1 (zu1.eq_1 a0) Tryz.f36 []
attribute [local irreducible] zu1
attribute [local irreducible] zs3 zn3 zs4 zr4 zr0 zv4 zq2
def zaD8(j1:Unit):Option Bool:=
 some true
def zB6(a0:aA)(g1:Int):Option (Int⊕(Unit⊕Bool)):=
 (if(decide (g1<(a0.aU.length:Int)))=true then
  gd (0<=g1/\g1<(a0.aU.length:Int))<|
  ((if(zb4 a0.aB ((a0.aU.getD g1.toNat aM.zero).aJ))=true then zl0 a0 ((a0.aU.getD g1.toNat aM.zero).aI)else some aC.zero)).bind λ v2=>
  (if((!(zb4 a0.aB ((a0.aU.getD g1.toNat aM.zero).aJ)))||(!(zk5 v2)))=true then
   some (.inr (.inr false))
  else
   some (.inl (i64.wrap (g1+1))))
 else
  some (.inr (.inl ())))
def zr9(a0:aA):Option Bool:=
 (zs0 a0.aU).bind λ v1=>
 (if((!v1)||decide (8<i64.wrap ((a0.aL.length:Int)+(a0.aU.length:Int))))=true then
  some false
 else
  (zc1 (zB6 a0) 0).bind (λ|.inl z=>zaD8 z|.inr z=>some z))
@[reducible,instance] def zeJ1 a0 {T1:Type} (v1:T1):=mkJ (zr9 a0,v1) 0 (@zaD8.eq_1) λ(j1:Unit)=>⟨[],[],0⟩
@[reducible,instance] def zeJ2 (a0:aA) {T:Type} (x:T):=mkL x (@zB6.eq_1 a0) λ(g1:Int)=>⟨[(1,.ptr 0 0 0),(20,la a0.aU),(21,.int .i64 (a0.aU.length:Int)),(22,.int .i64 g1)],[(0,bx a0)],1⟩
instance zcR1(a0:aA):OkP (zr9 a0) 232 [ga a0] (λ r=>.bool r):=ok1 (zr9.eq_1 a0) Tryz.f232 []
attribute [local irreducible] zr9
def zp7(a0:aZ):Option Bool:=
 (zk1 a0).bind λ v1=>
 (if(!decide (v1=0))=true then
  (zn3 a0 []).bind λ v2=>
  some ((!decide (v1=0))&&v2.1)
 else
  some ((!decide (v1=0))&&false))
theorem zbn4(a0:aZ)(r:Bool)(h:zp7 a0=some r):PFn C 249 [ga a0] (.bool r):=by
 refine zW4 Tryz.f249 [(3,3)] λ E hG hN hK=>?_;unfold zp7 at h;refine za0 (za1 hG ?_);refine za0 (za1 hG ?_);refine g_gh (.ownb 1 0 3 (aO.enc aO.zero)) ?_;refine za0 (za1 hG ?_);obtain⟨v1,hv1,h⟩:=zd0 h;refine zr3 (λ hg=>(zbL3 a0).ok _ hv1) ?_;refine zdb1 h (λ hc h=>?_) (λ hc h=>?_)
 · obtain⟨v2,hv2,h⟩:=zd0 h
   refine zcH0 hc [(0,1),(1,2)] [(2,3)] [0,1,2] ((zbn2 a0 []).ok _ hv2) rfl rfl ?_;refine zm8 ?_;exact zy2 h
 refine zcH1 hc (.bool false) ?_;refine zm8 ?_;exact zy2 h
instance zcD1(a0:aZ):OkP (zp7 a0) 249 [ga a0] (λ r=>.bool r):=⟨zbn4 a0⟩
attribute [local irreducible] zp7
def zaE9(a1:aM)(j1:Int×(List aM)):Option ((List aM)×Int×Int):=
 gd (0<=j1.1/\j1.1<((j1.2.length:Nat):Int))<|
 some ((j1.2.set j1.1.toNat a1),j1.1,0)
def zar4(a1:aM)(g1:Int×(List aM)):Option ((Int×(List aM))⊕(Int×(List aM))):=
 gd (decide (0<g1.1)=true->0<=i64.wrap (g1.1-1)/\i64.wrap (g1.1-1)<((g1.2.length:Nat):Int))<|
 (if(decide (0<g1.1)&&decide (zaJ3 a1 (g1.2.getD ((i64.wrap (g1.1-1)).toNat) aM.zero)=1))=true then
  gd (0<=i64.wrap (g1.1-1)/\i64.wrap (g1.1-1)<((g1.2.length:Nat):Int))<|
  gd (0<=g1.1/\g1.1<((g1.2.length:Nat):Int))<|
  gd (0<=g1.1/\g1.1<((g1.2.length:Nat):Int))<|
  gd (0<=g1.1/\g1.1<((g1.2.length:Nat):Int))<|
  some (.inl ((i64.wrap (g1.1-1)),(g1.2.set g1.1.toNat (g1.2.getD ((i64.wrap (g1.1-1)).toNat) aM.zero)).set g1.1.toNat ({((g1.2.set g1.1.toNat (g1.2.getD ((i64.wrap (g1.1-1)).toNat) aM.zero)).getD g1.1.toNat aM.zero)with bG:=(i64.wrap (((g1.2.set g1.1.toNat (g1.2.getD ((i64.wrap (g1.1-1)).toNat) aM.zero)).getD g1.1.toNat aM.zero).bG+1))})))
 else
  some (.inr (g1.1,g1.2)))
def zw8(a0:List aM)(a1:aM):Option ((List aM)×Int×Int):=
 (zs0 a0).bind λ v1=>
 (if(!v1)=true then
  some ([],0,2)
 else
  (if((!(zi4 a1))||(!decide (a1.bG=0)))=true then
   some ([],0,1)
  else
   (zl7 a0 a1.aI).bind λ v2=>
   (if(decide (0<=v2))=true then
    some ([],0,11)
   else
    (if(decide ((a0.length:Int)=8))=true then
     some ([],0,4)
    else
     gd (0<=i64.wrap ((a0.length:Int)+1)/\i64.wrap ((a0.length:Int)+1)<=i64.wrap ((a0.length:Int)+1)/\i64.wrap ((a0.length:Int)+1)<=4294967296)<|
     (zc1 (zar4 a1) ((a0.length:Int),((List.replicate ((i64.wrap ((a0.length:Int)+1)).toNat) aM.zero).take 0++a0.take ((i64.wrap ((a0.length:Int)+1)).toNat)++(List.replicate ((i64.wrap ((a0.length:Int)+1)).toNat) aM.zero).drop (0+min a0.length ((i64.wrap ((a0.length:Int)+1)).toNat))))).bind (λ z=>zaE9 a1 z)))))
@[reducible,instance] def zey1 a0 (a1:aM) {T1:Type} (v1:T1) {T2:Type} (v2:T2):=mkJ ((zw8 a0 a1,v1),v2) 1 (@zaE9.eq_1 a1) λ(j1:Int×(List aM))=>⟨[(3,.ptr 0 0 0),(7,.own 1 0 j1.2.length),(8,.int .i64 j1.1)],[(0,bx a1),(1,sx j1.2)],2⟩
@[reducible,instance] def zey2 (a1:aM) {T:Type} (x:T):=mkL x (@zar4.eq_1 a1) λ(g1:Int×(List aM))=>⟨[(3,.ptr 0 0 0),(7,.own 1 0 g1.2.length),(8,.int .i64 g1.1)],[(0,bx a1),(1,sx g1.2)],2⟩
instance zcd3(a0:List aM)(a1:aM):OkP (zw8 a0 a1) 208 [la a0,ga a1] (λ r=>.tup [la r.1,.int .i64 r.2.1,.int .i64 r.2.2]):=ok1 (zw8.eq_1 a0 a1) Tryz.f208 []
attribute [local irreducible] zw8
def zu7(a0 a1:aK):Option Bool:=
 ((if((((((((((decide (a0.kind=a1.kind)&&decide (a0.aI=a1.aI))&&decide (a0.gen=a1.gen))&&decide (a0.aW=a1.aW))&&decide (a0.aX=a1.aX))&&decide (a0.inc=a1.inc))&&decide (a0.round=a1.round))&&decide (a0.epoch=a1.epoch))&&decide (a0.site=a1.site))&&decide (a0.label=a1.label))&&decide (a0.done=a1.done))=true then zr0 a0.state a1.state else some false)).bind λ v1=>
 ((if(((((((((((decide (a0.kind=a1.kind)&&decide (a0.aI=a1.aI))&&decide (a0.gen=a1.gen))&&decide (a0.aW=a1.aW))&&decide (a0.aX=a1.aX))&&decide (a0.inc=a1.inc))&&decide (a0.round=a1.round))&&decide (a0.epoch=a1.epoch))&&decide (a0.site=a1.site))&&decide (a0.label=a1.label))&&decide (a0.done=a1.done))&&v1)=true then zf4 a0.options a1.options else some false)).bind λ v2=>
 some ((((((((((((decide (a0.kind=a1.kind)&&decide (a0.aI=a1.aI))&&decide (a0.gen=a1.gen))&&decide (a0.aW=a1.aW))&&decide (a0.aX=a1.aX))&&decide (a0.inc=a1.inc))&&decide (a0.round=a1.round))&&decide (a0.epoch=a1.epoch))&&decide (a0.site=a1.site))&&decide (a0.label=a1.label))&&decide (a0.done=a1.done))&&v1)&&v2)
instance zdz1(a0 a1:aK):OkP (zu7 a0 a1) 64 [ga a0,ga a1] (λ r=>.bool r):=ok1 (zu7.eq_1 a0 a1) Tryz.f64 []
attribute [local irreducible] zu7
def zaF0(j1:(List Int)):Option (List Int):=
 some j1
def zad9(a1:bB)(g1:Int×(List Int)):Option ((Int×(List Int))⊕(List Int)):=
 (if(decide (g1.1<(a1.lower.length:Int)))=true then
  gd (0<=g1.1/\g1.1<(a1.lower.length:Int))<|
  (zg0 g1.2 ((a1.lower.getD g1.1.toNat aO.zero).name)).bind λ v6=>
  (zb3 v6 (u64.wrap ((a1.lower.getD g1.1.toNat aO.zero).aJ).mode)).bind λ v7=>
  (zb3 v7 (u64.wrap ((a1.lower.getD g1.1.toNat aO.zero).aJ).aV)).bind λ v8=>
  some (.inl ((i64.wrap (g1.1+1)),v8))
 else
  some (.inr g1.2))
def zw9(a0:List Int)(a1:bB):Option (List Int):=
 gd (a0.length<=4294967296)<|
 (zr7 a1).bind λ v1=>
 (if(!v1)=true then
  some a0
 else
  (zf2 a0 a1.aI).bind λ v2=>
  (zb3 v2 (u64.wrap (i64.wrap (a1.label+1)))).bind λ v3=>
  (zb3 v3 (u64.wrap a1.cost)).bind λ v4=>
  (zb3 v4 (u64.wrap (a1.lower.length:Int))).bind λ v5=>
  (zc1 (zad9 a1) (0,v5)).bind (λ z=>zaF0 z))
@[reducible,instance] def zey3 a0 a1 {T1:Type} (v1:T1) {T2:Type} (v2:T2) {T3:Type} (v3:T3) {T4:Type} (v4:T4) {T5:Type} (v5:T5):=mkJ (((((zw9 a0 a1,v1),v2),v3),v4),v5) 0 (@zaF0.eq_1) λ(j1:(List Int))=>⟨[(0,.own 0 0 j1.length)],[(0,⟨false,1,[A.int .u8 0],j1.map (eI .u8)⟩)],1⟩
@[reducible,instance] def zey4 (a1:bB) {T:Type} (x:T):=mkL x (@zad9.eq_1 a1) λ(g1:Int×(List Int))=>⟨[(0,.own 0 0 g1.2.length),(35,la a1.lower),(36,.int .i64 (a1.lower.length:Int)),(37,.int .i64 g1.1)],[(0,⟨false,1,[A.int .u8 0],g1.2.map (eI .u8)⟩)],1⟩
instance zdq5(a0:List Int)(a1:bB):OkM (zw9 a0 a1) 166 [.sl (a0.map (eI .u8)),ga a1] [] 0 (λ r=>.own 0 0 r.length) (λ r=>[(0,⟨false,1,[A.int .u8 0],r.map (eI .u8)⟩)]) 1:=okm (zw9.eq_1 a0 a1) (λ r=>[.own 0 0 r.length]) Tryz.f166 [(4,1),(16,1),(44,1)]
attribute [local irreducible] zw9
def zbn5(j1:(List aA)):Option ((List aA)×Int):=
 some (j1,0)
def zan5(a0:List aD)(g1:Int×(List aA)):Option ((Int×(List aA))⊕((List aA)⊕((List aA)×Int))):=
 (if(decide (g1.1<(a0.length:Int)))=true then
  gd (0<=g1.1/\g1.1<(a0.length:Int))<|
  (zv0 (a0.getD g1.1.toNat aD.zero)).bind λ v2=>
  (if(!decide (v2.2=0))=true then
   some (.inr (.inr ([],v2.2)))
  else
   gd (g1.2.length+1<=4294967296)<|
   some (.inl ((i64.wrap (g1.1+1)),(g1.2++[v2.1]))))
 else
  some (.inr (.inl g1.2)))
def zB1(a0:List aD):Option ((List aA)×Int):=
 (zn2 a0).bind λ v1=>
 (if(!v1)=true then
  some ([],1)
 else
  (zc1 (zan5 a0) (0,[])).bind (λ|.inl z=>zbn5 z|.inr z=>some z))
@[reducible,instance] def zeJ3 a0 {T1:Type} (v1:T1):=mkJ (zB1 a0,v1) 0 (@zbn5.eq_1) λ(j1:(List aA))=>⟨[(4,.own 0 0 j1.length)],[(0,sx j1)],1⟩
@[reducible,instance] def zeJ4 (a0:List aD) {T:Type} (x:T):=mkL x (@zan5.eq_1 a0) λ(g1:Int×(List aA))=>⟨[(4,.own 0 0 g1.2.length),(12,la a0),(13,.int .i64 (a0.length:Int)),(14,.int .i64 g1.1)],[(0,sx g1.2)],1⟩
instance zdN4(a0:List aD):OkP (zB1 a0) 34 [la a0] (λ r=>.tup [la r.1,.int .i64 r.2]):=ok1 (zB1.eq_1 a0) Tryz.f34 [(4,1)]
attribute [local irreducible] zB1
def zau3(j1:Unit):Option Bool:=
 some true
def zA7(a0:aA)(g1:Int):Option (Int⊕(Unit⊕Bool)):=
 (if(decide (g1<(a0.aH.length:Int)))=true then
  gd (0<=g1/\g1<(a0.aH.length:Int))<|
  (zl0 a0 ((a0.aH.getD g1.toNat aM.zero).aI)).bind λ v1=>
  (zl7 a0.aH ((a0.aH.getD g1.toNat aM.zero).aI)).bind λ v2=>
  (if((!decide (v2=g1))||zk5 v1)=true then
   some (.inr (.inr false))
  else
   ((if(zb4 a0.aB ((a0.aH.getD g1.toNat aM.zero).aJ))=true then zo2 a0.aB ((a0.aH.getD g1.toNat aM.zero).aJ) v1 else some false)).bind λ v3=>
   (if(((!(zb4 a0.aB ((a0.aH.getD g1.toNat aM.zero).aJ)))||(!v3))||decide ((a0.aH.getD g1.toNat aM.zero).aJ=v1))=true then
    some (.inr (.inr false))
   else
    (if((!decide ((a0.aH.getD g1.toNat aM.zero).aX=0))||(!decide ((a0.aH.getD g1.toNat aM.zero).bG=0)))=true then
     some (.inr (.inr false))
    else
     some (.inl (i64.wrap (g1+1))))))
 else
  some (.inr (.inl ())))
def zo5(a0:aA):Option Bool:=
 (if(decide (8<(a0.aH.length:Int)))=true then
  some false
 else
  (zc1 (zA7 a0) 0).bind (λ|.inl z=>zau3 z|.inr z=>some z))
@[reducible,instance] def zeJ5 a0:=mkJ (zo5 a0) 0 (@zau3.eq_1) λ(j1:Unit)=>⟨[],[],0⟩
@[reducible,instance] def zeJ6 (a0:aA) {T:Type} (x:T):=mkL x (@zA7.eq_1 a0) λ(g1:Int)=>⟨[(1,.ptr 0 0 0),(11,la a0.aH),(12,.int .i64 (a0.aH.length:Int)),(13,.int .i64 g1)],[(0,bx a0)],1⟩
instance zcy6(a0:aA):OkP (zo5 a0) 231 [ga a0] (λ r=>.bool r):=ok1 (zo5.eq_1 a0) Tryz.f231 []
attribute [local irreducible] zo5
def zaD9(j1:(List aF)×(List bF)):Option ((List bF)×(List aF)):=
 some (j1.2,j1.1)
def zL0(a0:List bF)(g1:Int×(List aF)×(List bF)):Option ((Int×(List aF)×(List bF))⊕((List aF)×(List bF))):=
 (if(decide (g1.1<(a0.length:Int)))=true then
  gd (0<=g1.1/\g1.1<(a0.length:Int))<|
  (zo6 (a0.getD g1.1.toNat bF.zero) g1.2.1).bind λ v1=>
  (if(!v1.1)=true then
   gd (g1.2.2.length+1<=4294967296)<|
   some (.inl ((i64.wrap (g1.1+1)),v1.2,(g1.2.2++[(a0.getD g1.1.toNat bF.zero)])))
  else
   some (.inl ((i64.wrap (g1.1+1)),v1.2,g1.2.2)))
 else
  some (.inr (g1.2.1,g1.2.2)))
def zq6(a0:List bF)(a1:List aF):Option ((List bF)×(List aF)):=
 (zc1 (zL0 a0) (0,a1,[])).bind (λ z=>zaD9 z)
@[reducible,instance] def zey5 (a0:List bF) (a1:List aF):=mkJ (zq6 a0 a1) 0 (@zaD9.eq_1) λ(j1:(List aF)×(List bF))=>⟨[(5,.own 1 0 j1.2.length)],[(0,⟨false,1,[A.sl ([].map aF.enc)],[[A.sl (j1.1.map aF.enc)]]⟩),(1,sx j1.2)],2⟩
@[reducible,instance] def zey6 (a0:List bF) {T:Type} (x:T):=mkL x (@zL0.eq_1 a0) λ(g1:Int×(List aF)×(List bF))=>⟨[(1,.clo 105 [.ptr 0 0 0]),(5,.own 1 0 g1.2.2.length),(8,la a0),(9,.int .i64 (a0.length:Int)),(10,.int .i64 g1.1)],[(0,⟨false,1,[A.sl ([].map aF.enc)],[[A.sl (g1.2.1.map aF.enc)]]⟩),(1,sx g1.2.2)],2⟩
instance zbn6(a0:List bF)(a1:List aF):OkM (zq6 a0 a1) 102 [la a0,.clo 105 [.ptr 0 0 0]] [(0,⟨false,1,[A.sl ([].map aF.enc)],[[A.sl (a1.map aF.enc)]]⟩)] 1 (λ r=>la r.1) (λ r=>[(0,⟨false,1,[A.sl ([].map aF.enc)],[[A.sl (r.2.map aF.enc)]]⟩)]) 1:=⟨λ r h=>by
 refine zU4 Tryz.f102 [(5,1),(16,1)] [la r.1] λ E hG hN hK=>?_;have hm:Mk (zq6 a0 a1):=trivial;unfold zq6 at h;refine za0 (za1 hG ?_);refine za0 (za1 hG ?_);refine za0 (za0 (za1 hG ?_));refine zaJ2 hm h (λ j1 hm h=>?_) ?_
 · try refine g_st ?_
   refine za0 (za1 hG ?_);refine g_gh (.fz [1]) ?_;exact gogo
 exact gogo⟩
attribute [local irreducible] zq6
def zaF1(a0:aD)(a1:List aT)(j1:Unit):Option Bool:=
 (zf5 a1).bind λ v1=>
 (zl2 a0 v1).bind λ v2=>
 some v2
def zae0(a0:aD)(a1:List aT)(g1:Int):Option (Int⊕(Unit⊕Bool)):=
 (if(decide (g1<(a1.length:Int)))=true then
  gd (0<=g1/\g1<(a1.length:Int))<|
  gd (zl9 ((a1.getD g1.toNat aT.zero).aI)=true->0<=g1/\g1<(a1.length:Int))<|
  gd (((!((!(zl9 ((a1.getD g1.toNat aT.zero).aI)))||(!(zy0 a0 ((a1.getD g1.toNat aT.zero).aJ)))))&&decide (0<g1))=true->0<=i64.wrap (g1-1)/\i64.wrap (g1-1)<(a1.length:Int))<|
  gd (((!((!(zl9 ((a1.getD g1.toNat aT.zero).aI)))||(!(zy0 a0 ((a1.getD g1.toNat aT.zero).aJ)))))&&decide (0<g1))=true->0<=g1/\g1<(a1.length:Int))<|
  (if(((!(zl9 ((a1.getD g1.toNat aT.zero).aI)))||(!(zy0 a0 ((a1.getD g1.toNat aT.zero).aJ))))||(decide (0<g1)&&decide (0<=zt7 ((a1.getD ((i64.wrap (g1-1)).toNat) aT.zero).aI) ((a1.getD g1.toNat aT.zero).aI))))=true then
   some (.inr (.inr false))
  else
   some (.inl (i64.wrap (g1+1))))
 else
  some (.inr (.inl ())))
def zv6(a0:aD)(a1:List aT):Option Bool:=
 (if((!(zJ1 a0))||decide (8<(a1.length:Int)))=true then
  some false
 else
  (zc1 (zae0 a0 a1) 0).bind (λ|.inl z=>zaF1 a0 a1 z|.inr z=>some z))
@[reducible,instance] def zey7 (a0:aD) (a1:List aT):=mkJ (zv6 a0 a1) 0 (@zaF1.eq_1 a0 a1) λ(j1:Unit)=>⟨[(1,la a1),(2,.ptr 0 0 0)],[(0,bx a0)],1⟩
@[reducible,instance] def zey8 (a0:aD) (a1:List aT) {T:Type} (x:T):=mkL x (@zae0.eq_1 a0 a1) λ(g1:Int)=>⟨[(1,la a1),(2,.ptr 0 0 0),(5,.int .i64 g1)],[(0,bx a0)],1⟩
instance zdz2(a0:aD)(a1:List aT):OkP (zv6 a0 a1) 245 [ga a0,la a1] (λ r=>.bool r):=ok1 (zv6.eq_1 a0 a1) Tryz.f245 []
attribute [local irreducible] zv6
def zaF2(j1:(List aF)):Option (List aF):=
 (zh6 j1).bind λ v1=>
 some v1
def zae1(a0:List aA)(g1:Int×(List aF)):Option ((Int×(List aF))⊕(List aF)):=
 (if(decide (g1.1<(a0.length:Int)))=true then
  gd (0<=g1.1/\g1.1<(a0.length:Int))<|
  (zr4 (a0.getD g1.1.toNat aA.zero)).bind λ v2=>
  gd (g1.2.length+v2.length<=4294967296)<|
  some (.inl ((i64.wrap (g1.1+1)),(g1.2++v2)))
 else
  some (.inr g1.2))
def zv7(a0:List aA):Option (List aF):=
 (zc1 (zae1 a0) (0,[])).bind (λ z=>zaF2 z)
@[reducible,instance] def zey9 a0:=mkJ (zv7 a0) 0 (@zaF2.eq_1) λ(j1:(List aF))=>⟨[(3,.own 0 0 j1.length)],[(0,sx j1)],1⟩
@[reducible,instance] def zez0 (a0:List aA) {T:Type} (x:T):=mkL x (@zae1.eq_1 a0) λ(g1:Int×(List aF))=>⟨[(0,la a0),(3,.own 0 0 g1.2.length),(4,.int .i64 g1.1)],[(0,sx g1.2)],1⟩
instance zdz3(a0:List aA):OkP (zv7 a0) 28 [la a0] (λ r=>la r):=ok1 (zv7.eq_1 a0) Tryz.f28 [(3,1)]
attribute [local irreducible] zv7
def zA8(a0:aA):Option Bool:=
 (zc7 a0.aB).bind λ v1=>
 ((if v1=true then zq8 a0.aB a0.aL else some false)).bind λ v2=>
 ((if(v1&&v2)=true then zo5 a0 else some false)).bind λ v3=>
 ((if((v1&&v2)&&v3)=true then zr9 a0 else some false)).bind λ v4=>
 some (((((v1&&v2)&&v3)&&v4)&&decide (0<=a0.gen))&&decide (a0.gen<=1073741824))
instance zdz4(a0:aA):OkP (zA8 a0) 179 [ga a0] (λ r=>.bool r):=ok1 (zA8.eq_1 a0) Tryz.f179 []
attribute [local irreducible] zA8
def zba6(j2:Unit):Option Bool:=
 some true
def zar5(a0:aA)(g1:Int):Option (Int⊕(Unit⊕Bool)):=
 (if(decide (g1<(a0.aU.length:Int)))=true then
  gd (0<=g1/\g1<(a0.aU.length:Int))<|
  gd (zy0 a0.aB ((a0.aU.getD g1.toNat aM.zero).aJ)=true->0<=g1/\g1<(a0.aU.length:Int))<|
  ((if(zy0 a0.aB ((a0.aU.getD g1.toNat aM.zero).aJ))=true then zm6 a0.aL ((a0.aU.getD g1.toNat aM.zero).aI)else some aC.zero)).bind λ v4=>
  (if((!(zy0 a0.aB ((a0.aU.getD g1.toNat aM.zero).aJ)))||(!(zh5 v4)))=true then
   some (.inr (.inr false))
  else
   some (.inl (i64.wrap (g1+1))))
 else
  some (.inr (.inl ())))
def zar6(a0:aA)(j1:Unit):Option Bool:=
 (zc1 (zar5 a0) 0).bind (λ|.inl z=>zba6 z|.inr z=>some z)
def zT6(a0:aA)(g2:Int):Option (Int⊕(Unit⊕Bool)):=
 (if(decide (g2<(a0.aH.length:Int)))=true then
  gd (0<=g2/\g2<(a0.aH.length:Int))<|
  (zm6 a0.aL ((a0.aH.getD g2.toNat aM.zero).aI)).bind λ v5=>
  ((if(!(((((zh5 v5||(!(zy0 a0.aB ((a0.aH.getD g2.toNat aM.zero).aJ))))||(!(zq1 a0.aB ((a0.aH.getD g2.toNat aM.zero).aJ) v5)))||decide ((a0.aH.getD g2.toNat aM.zero).aJ=v5))||(!decide ((a0.aH.getD g2.toNat aM.zero).aX=0)))||(!decide ((a0.aH.getD g2.toNat aM.zero).bG=0))))=true then zk3 a0.aH ((a0.aH.getD g2.toNat aM.zero).aI)else some 0)).bind λ v6=>
  (if((((((zh5 v5||(!(zy0 a0.aB ((a0.aH.getD g2.toNat aM.zero).aJ))))||(!(zq1 a0.aB ((a0.aH.getD g2.toNat aM.zero).aJ) v5)))||decide ((a0.aH.getD g2.toNat aM.zero).aJ=v5))||(!decide ((a0.aH.getD g2.toNat aM.zero).aX=0)))||(!decide ((a0.aH.getD g2.toNat aM.zero).bG=0)))||(!decide (v6=g2)))=true then
   some (.inr (.inr false))
  else
   some (.inl (i64.wrap (g2+1))))
 else
  some (.inr (.inl ())))
def zx0(a0:aA):Option Bool:=
 (zg9 a0.aB).bind λ v1=>
 ((if v1=true then zv6 a0.aB a0.aL else some false)).bind λ v2=>
 ((if(!(((!v1)||(!v2))||decide (8<(a0.aH.length:Int))))=true then zr5 a0.aU else some false)).bind λ v3=>
 (if(((((((!v1)||(!v2))||decide (8<(a0.aH.length:Int)))||(!v3))||decide (8<i64.wrap ((a0.aL.length:Int)+(a0.aU.length:Int))))||decide (a0.gen<0))||decide (1073741824<a0.gen))=true then
  some false
 else
  (zc1 (zT6 a0) 0).bind (λ|.inl z=>zar6 a0 z|.inr z=>some z))
@[reducible,instance] def zez1 a0 j1:=mkJ (zar6 a0 j1) 2 (@zba6.eq_1) λ(j2:Unit)=>⟨[],[],0⟩
@[reducible,instance] def zez2 (a0:aA) {T:Type} (x:T):=mkL x (@zar5.eq_1 a0) λ(g1:Int)=>⟨[(1,.ptr 0 0 0),(3,.ptr 1 0 0),(7,.int .i64 g1)],[(0,bx a0),(1,bx a0.aB)],2⟩
@[reducible,instance] def zez3 (a0:aA) {T1:Type} (v1:T1) {T2:Type} (v2:T2) {T3:Type} (v3:T3):=mkJ (((zx0 a0,v1),v2),v3) 0 (@zar6.eq_1 a0) λ(j1:Unit)=>⟨[(1,.ptr 0 0 0),(3,.ptr 1 0 0)],[(0,bx a0),(1,bx a0.aB)],2⟩
@[reducible,instance] def zez4 (a0:aA) {T:Type} (x:T):=mkL x (@zT6.eq_1 a0) λ(g2:Int)=>⟨[(1,.ptr 0 0 0),(3,.ptr 1 0 0),(4,.int .i64 g2)],[(0,bx a0),(1,bx a0.aB)],2⟩
instance zdz5(a0:aA):OkP (zx0 a0) 185 [ga a0] (λ r=>.bool r):=ok1 (zx0.eq_1 a0) Tryz.f185 []
attribute [local irreducible] zx0
def zab4(a0:List aD)(a1:Int):Option (bC×Int):=
 (zn2 a0).bind λ v1=>
 (if(((!v1)||decide (a1<0))||decide (4<=a1))=true then
  some ({bC.zero with},1)
 else
  (zl5 a0 a1).bind λ v2=>
  (zB1 v2).bind λ v3=>
  (if(!decide (v3.2=0))=true then
   some ({bC.zero with},v3.2)
  else
   some ({bC.zero with aG:=v3.1},0)))
instance zdR6(a0:List aD)(a1:Int):OkP (zab4 a0 a1) 10 [la a0,.int .i64 a1] (λ r=>.tup [ga r.1,.int .i64 r.2]):=ok1 (zab4.eq_1 a0 a1) Tryz.f10 []
attribute [local irreducible] zab4
def zN0(a0:aD)(a1:List aT)(a2:aF)(a3:aC):Option Bool:=
 (zv6 a0 a1).bind λ v1=>
 ((if((v1&&zl9 a2)&&zy0 a0 a3)=true then zr1 a1 a2 a3 else some [])).bind λ v2=>
 ((if((v1&&zl9 a2)&&zy0 a0 a3)=true then zv6 a0 v2 else some false)).bind λ v3=>
 some (((v1&&zl9 a2)&&zy0 a0 a3)&&v3)
instance zdI3(a0:aD)(a1:List aT)(a2:aF)(a3:aC):OkP (zN0 a0 a1 a2 a3) 247 [ga a0,la a1,ga a2,ga a3] (λ r=>.bool r):=ok1 (zN0.eq_1 a0 a1 a2 a3) Tryz.f247 []
attribute [local irreducible] zN0
def zan6(j1:Unit):Option Bool:=
 some true
def zZ2(a0 a1:List bD)(g1:Int):Option (Int⊕(Unit⊕Bool)):=
 (if(decide (g1<(a0.length:Int)))=true then
  gd (0<=g1/\g1<(a0.length:Int))<|
  gd (0<=g1/\g1<(a1.length:Int))<|
  gd (decide ((a0.getD g1.toNat bD.zero).to=(a1.getD g1.toNat bD.zero).to)=true->0<=g1/\g1<(a0.length:Int))<|
  gd (decide ((a0.getD g1.toNat bD.zero).to=(a1.getD g1.toNat bD.zero).to)=true->0<=g1/\g1<(a1.length:Int))<|
  ((if(decide ((a0.getD g1.toNat bD.zero).to=(a1.getD g1.toNat bD.zero).to))=true then zu7 ((a0.getD g1.toNat bD.zero).message) ((a1.getD g1.toNat bD.zero).message)else some false)).bind λ v1=>
  (if((!decide ((a0.getD g1.toNat bD.zero).to=(a1.getD g1.toNat bD.zero).to))||(!v1))=true then
   some (.inr (.inr false))
  else
   some (.inl (i64.wrap (g1+1))))
 else
  some (.inr (.inl ())))
def zv5(a0 a1:List bD):Option Bool:=
 (if(!decide ((a0.length:Int)=(a1.length:Int)))=true then
  some false
 else
  (zc1 (zZ2 a0 a1) 0).bind (λ|.inl z=>zan6 z|.inr z=>some z))
@[reducible,instance] def zez5 a0 a1:=mkJ (zv5 a0 a1) 0 (@zan6.eq_1) λ(j1:Unit)=>⟨[],[],0⟩
@[reducible,instance] def zez6 (a0 a1:List bD) {T:Type} (x:T):=mkL x (@zZ2.eq_1 a0 a1) λ(g1:Int)=>⟨[(0,la a0),(1,la a1),(5,.int .i64 g1)],[],0⟩
instance zcU4(a0 a1:List bD):OkP (zv5 a0 a1) 19 [la a0,la a1] (λ r=>.bool r):=ok1 (zv5.eq_1 a0 a1) Tryz.f19 []
attribute [local irreducible] zv5
def zD0(a0:aA):Option Bool:=
 (zx0 a0).bind λ v1=>
 (if(!v1)=true then
  some false
 else
  (zl8 a0).bind λ v2=>
  ((if v2.2=true then zN0 a0.aB a0.aL v2.1.aI v2.1.aJ else some false)).bind λ v3=>
  some ((!v2.2)||(!v3)))
instance zdj6(a0:aA):OkP (zD0 a0) 186 [ga a0] (λ r=>.bool r):=ok1 (zD0.eq_1 a0) Tryz.f186 []
attribute [local irreducible] zD0
def zA9(a0:aA):Option Bool:=
 (zx0 a0).bind λ v1=>
 ((if v1=true then zD0 a0 else some false)).bind λ v2=>
 some (v1&&v2)
instance zcd4(a0:aA):OkP (zA9 a0) 137 [ga a0] (λ r=>.bool r):=ok1 (zA9.eq_1 a0) Tryz.f137 []
attribute [local irreducible] zA9
def zba7(j1:Unit):Option Bool:=
 some true
def zar7(a0:List aA)(g1:Int):Option (Int⊕(Unit⊕Bool)):=
 (if(decide (g1<(a0.length:Int)))=true then
  gd (0<=g1/\g1<(a0.length:Int))<|
  (zA9 (a0.getD g1.toNat aA.zero)).bind λ v1=>
  gd ((v1&&decide (0<g1))=true->0<=i64.wrap (g1-1)/\i64.wrap (g1-1)<(a0.length:Int))<|
  gd ((v1&&decide (0<g1))=true->0<=g1/\g1<(a0.length:Int))<|
  (if((!v1)||(decide (0<g1)&&(!Op.bytesLess (((a0.getD ((i64.wrap (g1-1)).toNat) aA.zero).aB).name).toList (((a0.getD g1.toNat aA.zero).aB).name).toList)))=true then
   some (.inr (.inr false))
  else
   some (.inl (i64.wrap (g1+1))))
 else
  some (.inr (.inl ())))
def zG2(a0:List aA):Option Bool:=
 (if(decide (8<(a0.length:Int)))=true then
  some false
 else
  (zc1 (zar7 a0) 0).bind (λ|.inl z=>zba7 z|.inr z=>some z))
@[reducible,instance] def zez7 a0:=mkJ (zG2 a0) 0 (@zba7.eq_1) λ(j1:Unit)=>⟨[],[],0⟩
@[reducible,instance] def zez8 (a0:List aA) {T:Type} (x:T):=mkL x (@zar7.eq_1 a0) λ(g1:Int)=>⟨[(0,la a0),(3,.int .i64 g1)],[],0⟩
instance zdz6(a0:List aA):OkP (zG2 a0) 87 [la a0] (λ r=>.bool r):=ok1 (zG2.eq_1 a0) Tryz.f87 []
attribute [local irreducible] zG2
def zaR0(j1:aA×(List aT)):Option (aA×(List aT)):=
 some (j1.1,j1.2)
def zV2(g1:aA×(List aT))(v4:aM×Bool)(j2:aA):Option ((aA×(List aT))⊕(aA×(List aT))):=
 (zr1 j2.aL v4.1.aI v4.1.aJ).bind λ v5=>
 gd (g1.2.length+1<=4294967296)<|
 some (.inl ({j2 with aL:=v5},(g1.2++[(⟨v4.1.aI,v4.1.aJ⟩:aT)])))
def zM0(g1:aA×(List aT)):Option ((aA×(List aT))⊕(aA×(List aT))):=
 (zD0 g1.1).bind λ v3=>
 (if(!v3)=true then
  (zl8 g1.1).bind λ v4=>
  (if(decide (0<(g1.1.aH.length:Int)))=true then
   gd (0<=1/\1<=(g1.1.aH.length:Int)/\(g1.1.aH.length:Int)<=(g1.1.aH.length:Int))<|
   zV2 g1 v4 ({g1.1 with aH:=(g1.1.aH.drop 1)})
  else
   gd (0<=1/\1<=(g1.1.aU.length:Int)/\(g1.1.aU.length:Int)<=(g1.1.aU.length:Int))<|
   zV2 g1 v4 ({g1.1 with aU:=(g1.1.aU.drop 1)}))
 else
  some (.inr (g1.1,g1.2)))
def zD1(a0:aA):Option (aA×(List aT)):=
 (zx0 a0).bind λ v1=>
 (if(!v1)=true then
  some ({aA.zero with},[])
 else
  (zk6 a0).bind λ v2=>
  (zc1 zM0 (v2,[])).bind (λ z=>zaR0 z))
@[reducible,instance] def zez9 a0 {T1:Type} (v1:T1) {T2:Type} (v2:T2):=mkJ ((zD1 a0,v1),v2) 0 (@zaR0.eq_1) λ(j1:aA×(List aT))=>⟨[(1,.ptr 0 0 0),(2,.ptr 1 0 0),(4,.own 2 0 j1.2.length)],[(0,bx j1.1),(1,bx aA.zero),(2,sx j1.2)],3⟩
@[reducible,instance] def zeA0 (g1:aA×(List aT)) {T1:Type} (v3:T1) (v4:aM×Bool):=mkJ ((zM0 g1,v3),v4) 999 (@zV2.eq_1 g1 v4) λ(j2:aA)=>⟨[(1,.ptr 0 0 0),(2,.ptr 1 0 0),(4,.own 2 0 g1.2.length),(5,.ptr 3 0 0)],[(0,bx j2),(1,bx aA.zero),(2,sx g1.2),(3,bx v4.1)],4⟩
@[reducible,instance] def zeA1 {T:Type} (x:T):=mkL x (@zM0.eq_1) λ(g1:aA×(List aT))=>⟨[(1,.ptr 0 0 0),(2,.ptr 1 0 0),(4,.own 2 0 g1.2.length)],[(0,bx g1.1),(1,bx aA.zero),(2,sx g1.2)],3⟩
instance zdj7(a0:aA):OkP (zD1 a0) 224 [ga a0] (λ r=>.tup [ga r.1,la r.2]):=ok1 (zD1.eq_1 a0) Tryz.f224 [(4,1)]
attribute [local irreducible] zD1
def zx4(a0:aA):Option (aA×(List aT)×Int):=
 (zD1 a0).bind λ v1=>
 some ({v1.1 with gen:=(zaN5 a0.gen)},v1.2,0)
instance zba8(a0:aA):OkP (zx4 a0) 168 [ga a0] (λ r=>.tup [ga r.1,la r.2.1,.int .i64 r.2.2]):=ok1 (zx4.eq_1 a0) Tryz.f168 []
attribute [local irreducible] zx4
end
end Ab
end Go.Proofs.YtdlfhmkmnjbihaaGreatDoor
