import Derived.Test.YtogpinppgncpmaaGreatDoorHm7
import Derived.Test.YtogpinppgncpmaaGreatDoorHm10
namespace Go.Proofs.YtogpinppgncpmaaGreatDoor
namespace Ab
open IntKind (i64 u64 u8)
set_option linter.unusedSimpArgs false
set_option linter.defProp false
set_option linter.unusedVariables false
set_option maxRecDepth 100000
set_option maxHeartbeats 1000000
noncomputable section
attribute [local irreducible] zb2 za4 zd4 za6 zh1 zm5 zm4 zh2 zk4 zi2 zd7 zg4 za7 zn9 zh3 zj7 ze3 za8 zg8 zi3 zg1 zl1 zj1 za9 zf9 ze4 zh8 ze5 zk7 zk0 zk1 zn8 zg9 zm3 f_ref08_holds zj9 zc5 zf8 zd0 zd9 ze6 zn2 zm9 zg7 ze7 zg0 zb3 za0 zf2 zj3 zl8 zh9 zf3 zh4 zo0 zn0 zk2 zb4 zd1 zd2 zd6 zg3 zd8 zc3 zo7 za1 zq1 zi0 zi5 zh5 zj5 zc1 zb0 ze9 zf4 zn1 zo8 zp1 ze8 zb8 zi6 zi4
def zl3 (a0:aT):Bool :=
 (((((zb6 a0.aN&&(zb1 ({ aI.zero with kind:=1,aS:=1 }) a0.aK||zb1 ({ aI.zero with kind:=2,aS:=8 }) a0.aK))&&decide (0≤a0.bG))&&decide (a0.bG≤7))&&decide (0≤a0.bQ))&&decide (a0.bQ≤3))
instance zcJ6 (a0:aT):OkT 266 [.agg (aT.enc a0)] (.bool (zl3 a0)):=ok2 (fun r=>.bool r) (zl3.eq_1 a0) Tryz.f266 []
def zp9 (a0:aA):Option (List aT) :=
 (zb4 [a0.aL,a0.aV]).bind fun v1 =>
 some v1
instance zdb7 (a0:aA):OkP (zp9 a0) 80 [ga a0] (fun r=>la r):=ok1 (zp9.eq_1 a0) Tryz.f80 []
attribute [local irreducible] zp9
def zaK6 (j1:(List Int)):Option (List Int) :=
 some j1
def zw1 (a1:aJ) (g1:(List Int)×Int):Option (((List Int)×Int)⊕(List Int)) :=
 (if (decide (g1.2 < 3))=true then
  gd (0≤g1.2∧g1.2 < 3) <|
  (ze7 g1.1 (u64.wrap (Arr.get (⟨[a1.site,a1.inc,a1.num],rfl⟩:Arr Int 3) g1.2.toNat 0))).bind fun v1 =>
  some (.inl (v1,i64.wrap (g1.2+1)))
 else
  some (.inr g1.1))
def zk3 (a0:List Int) (a1:aJ):Option (List Int) :=
 gd (a0.length≤4294967296) <|
 (if (!(zb6 a1))=true then
  some a0
 else
  (zc0 (zw1 a1) (a0,0)).bind (fun z=>zaK6 z))
@[reducible,instance] def zdQ2 (a0:List Int) (a1:aJ):=mkJ (zk3 a0 a1) 0 (@zaK6.eq_1) fun (j1:(List Int))=>⟨[(5,.sl (j1.map (eI .u8)))],[],0⟩
@[reducible,instance] def zdQ3 (a1:aJ) {T:Type} (x:T):=mkL x (@zw1.eq_1 a1) fun (g1:(List Int)×Int)=>⟨[(5,.sl (g1.1.map (eI .u8))),(20,.agg (Arr.enc (eI .i64) (⟨[a1.site,a1.inc,a1.num],rfl⟩:Arr Int 3))),(21,.int .i64 g1.2)],[],0⟩
instance zcP4 (a0:List Int) (a1:aJ):OkP (zk3 a0 a1) 39 [.sl (a0.map (eI .u8)),ga a1] (fun r=>.sl (r.map (eI .u8))):=⟨fun r h=>by
 refine zad2 Tryz.f39 [] fun E hG hN hK=>?_
 have hm:Mk (zk3 a0 a1):=trivial
 unfold zk3 at h
 refine za2 (za3 hG ?_)
 refine za2 ?_
 obtain ⟨hb2,h⟩:=zd5 h
 refine za3 hG ?_
 refine g_gh (.fz [1]) ?_
 exact gogo⟩
attribute [local irreducible] zk3
def zb9 (a0:aY):Option (Int×aY) :=
 (zc1 1073741824 16 a0).bind fun v1 =>
 some (v1.1,v1.2)
instance zy5 (a0:aY):OkM (zb9 a0) 43 [.ptr 0 0 0] [(0,bx a0)] 1 (fun r=>.int .i64 r.1) (fun r=>[(0,bx r.2)]) 1:=okm (zb9.eq_1 a0) (fun r=>[.int .i64 r.1]) Tryz.f43 []
attribute [local irreducible] zb9
def zau8 (j1:(List aM)):Option (List aM) :=
 some j1
def zau9 (a90:(aO→List aM→Option (List aM))) (a0:aO) (g1:Int×(List aM)):Option ((Int×(List aM))⊕(List aM)) :=
 (if (decide (g1.1 < (a0.bA.length:Int)))=true then
  gd (0≤g1.1∧g1.1 < (a0.bA.length:Int)) <|
  (a90 (a0.bA.getD g1.1.toNat aO.zero) g1.2).bind fun v2 =>
  some (.inl ((i64.wrap (g1.1+1)),v2))
 else
  some (.inr g1.2))
def zT7 (a90:(aO→List aM→Option (List aM))) (a0:aO) (a1:List aM):Option (List aM) :=
 (if (decide ((a0.bA.length:Int)=0))=true then
  (zb0 a1 a0.bB).bind fun v1 =>
  (if v1=true then
   some a1
  else
   gd (a1.length+1≤4294967296) <|
   some (a1++[a0.bB]))
 else
  (zc0 (zau9 a90 a0) (0,a1)).bind (fun z=>zau8 z))
def zaj0:Nat→(aO→List aM→Option (List aM))
 | 0=>fun _ _=>none
 | n+1=>zT7 (zaj0 n)
def zk8 (a0:aO) (a1:List aM):Option (List aM):=zaj0 (_root_.SizeOf.sizeOf a0+1) a0 a1
@[reducible,instance] def zdQ4 (a90:(aO→List aM→Option (List aM))) (a0:aO) (a1:List aM):=mkJ (zT7 a90 a0 a1) 0 (@zau8.eq_1) fun (j1:(List aM))=>⟨[(0,.own 1 0 j1.length)],[(1,sx j1)],2⟩
@[reducible,instance] def zdQ5 (a90:(aO→List aM→Option (List aM))) (a0:aO) {T:Type} (x:T):=mkL x (@zau9.eq_1 a90 a0) fun (g1:Int×(List aM))=>⟨[(0,.own 1 0 g1.2.length),(22,la a0.bA),(23,.int .i64 (a0.bA.length:Int)),(24,.int .i64 g1.1)],[(1,sx g1.2)],2⟩
abbrev zaa3 (g:(aO→List aM→Option (List aM))):Prop:=∀ (a0:aO) (a1:List aM),OkM (g a0 a1) 79 [.own 0 0 a1.length,.agg (aO.enc a0)] [(0,⟨false,3,aM.enc aM.zero,a1.map aM.enc⟩)] 1 (fun r=>.own 1 0 r.length) (fun r=>[(1,⟨false,3,aM.enc aM.zero,r.map aM.enc⟩)]) 2
theorem zaY2 (a90:(aO→List aM→Option (List aM))) (hrc:zaa3 a90):zaa3 (zT7 a90):=fun a0 a1=>okm (zT7.eq_1 a90 a0 a1) (fun r=>[.own 1 0 r.length]) Tryz.f79 [(4,1)]
theorem zaY3:∀ n,zaa3 (zaj0 n):=zaR5 (fun _ _=>⟨fun _ h=>nomatch h⟩) fun n=>zaY2 _
instance zci6:zaa3 zk8:=fun a0 a1=>zaY3 _ a0 a1
attribute [local irreducible] zk8
def zr2 :List ByteArray:=[(⟨#[97]⟩:ByteArray),(⟨#[98]⟩:ByteArray),(⟨#[99]⟩:ByteArray),(⟨#[100]⟩:ByteArray)]
def zaq2 (j1:bJ×(List aI)):Option ((List aI)×bJ) :=
 (zb8 8 j1.1).bind fun v1 =>
 (zb8 4 v1.2).bind fun v2 =>
 gd (j1.2.length+1≤4294967296) <|
 (zb8 3 v2.2).bind fun v3 =>
 (zb8 4 v3.2).bind fun v4 =>
 gd (j1.2.length+1+1≤4294967296) <|
 some (((j1.2++[(⟨(⟨#[112]⟩:ByteArray),2,i64.wrap (1+v1.1),v2.1⟩:aI)])++[(⟨(⟨#[113]⟩:ByteArray),2,i64.wrap (1+v3.1),v4.1⟩:aI)]),v4.2)
def zK8 (g1:Int×bJ×(List aI)):Option ((Int×bJ×(List aI))⊕(bJ×(List aI))) :=
 (if (decide (g1.1 < (zr2.length:Int)))=true then
  gd (0≤g1.1∧g1.1 < (zr2.length:Int)) <|
  (zb8 4 g1.2.1).bind fun v5 =>
  gd (g1.2.2.length+1≤4294967296) <|
  some (.inl ((i64.wrap (g1.1+1)),v5.2,(g1.2.2++[(⟨(zr2.getD g1.1.toNat ⟨#[]⟩),1,1,v5.1⟩:aI)])))
 else
  some (.inr (g1.2.1,g1.2.2)))
def zl4 (a0:bJ):Option ((List aI)×bJ) :=
 (zc0 zK8 (0,a0,[])).bind (fun z=>zaq2 z)
@[reducible,instance] def zdQ6 (a0:bJ):=mkJ (zl4 a0) 0 (@zaq2.eq_1) fun (j1:bJ×(List aI))=>⟨[(0,.ptr 0 0 0),(3,.own 1 0 j1.2.length)],[(0,bx j1.1),(1,sx j1.2)],2⟩
@[reducible,instance] def zdQ7 {T:Type} (x:T):=mkL x (@zK8.eq_1) fun (g1:Int×bJ×(List aI))=>⟨[(0,.ptr 0 0 0),(3,.own 1 0 g1.2.2.length),(4,.full (zr2.map eS)),(5,.int .i64 g1.1)],[(0,bx g1.2.1),(1,sx g1.2.2)],2⟩
instance zcA8 (a0:bJ):OkM (zl4 a0) 93 [.ptr 0 0 0] [(0,bx a0)] 1 (fun r=>la r.1) (fun r=>[(0,bx r.2)]) 1:=⟨fun r h=>by
 refine zaz8 Tryz.f93 [(3,1)] [la r.1] fun E hG hN hK=>?_
 have hm:Mk (zl4 a0):=trivial
 unfold zl4 at h
 refine za2 (za3 hG ?_)
 refine za2 (za3 hG ?_)
 refine za2 (za3 hG ?_)
 refine g_gh (.cast 4 (.full (zr2.map eS))) ?_
 refine za2 (za2 (za3 hG ?_))
 refine zax0 hm h (fun j1 hm h=>?_) ?_
 · try refine g_st ?_
   refine za2 (za3 hG ?_)
   obtain ⟨v1,hv1,h⟩:=zc9 h
   have hm:=mkP hm v1
   refine zs2 [(0,0)] [] [0] ((zr0 8 j1.1).ok _ hv1) rfl rfl ?_
   obtain ⟨v2,hv2,h⟩:=zc9 h
   have hm:=mkP hm v2
   obtain ⟨hb2,h⟩:=zd5 h
   refine zs2 [(0,0)] [] [0] ((zr0 4 v1.2).ok _ hv2) rfl rfl ?_
   refine za2 (za3 hG ?_)
   obtain ⟨v3,hv3,h⟩:=zc9 h
   have hm:=mkP hm v3
   refine zs2 [(0,0)] [] [0] ((zr0 3 v2.2).ok _ hv3) rfl rfl ?_
   obtain ⟨v4,hv4,h⟩:=zc9 h
   have hm:=mkP hm v4
   obtain ⟨hb1,h⟩:=zd5 h
   refine zs2 [(0,0)] [] [0] ((zr0 4 v3.2).ok _ hv4) rfl rfl ?_
   refine g_gh (.fz [3]) ?_
   exact gogo
 exact gogo⟩
attribute [local irreducible] zl4
def zax9 (j1:bJ×aO):Option (aO×bJ) :=
 some (j1.2,j1.1)
@[go_sem] def zdw3  (j1:bJ×aO):St:=⟨[(6,.ptr 1 0 0),(8,.ptr 2 0 0)],[(0,bx j1.1),(1,bx aO.zero),(2,⟨false,5,aO.enc aO.zero,[[.int .i64 j1.2.k,.str j1.2.bB.name,.int .i64 j1.2.bB.aK.mode,.int .i64 j1.2.bB.aK.aS,.own 3 0 j1.2.bA.length]]⟩),(3,sx j1.2.bA)],4⟩
def zaj8 (a90:(List aM→Int→bJ→Option (aO×bJ))) (a0:List aM) (a1:Int) (v3:Int×bJ) (g1:Int×bJ×aO):Option ((Int×bJ×aO)⊕(bJ×aO)) :=
 (if (decide (g1.1 < i64.wrap (1+v3.1)))=true then
  (a90 a0 (i64.wrap (a1 - 1)) g1.2.1).bind fun v5 =>
  gd (g1.2.2.bA.length+1≤4294967296) <|
  some (.inl ((i64.wrap (g1.1+1)),v5.2,(⟨g1.2.2.k,(⟨g1.2.2.bB.name,(⟨g1.2.2.bB.aK.mode,g1.2.2.bB.aK.aS⟩:aC)⟩:aM),(g1.2.2.bA++[v5.1])⟩:aO)))
 else
  some (.inr (g1.2.1,g1.2.2)))
@[go_sem] def zdw4 (a0:List aM) (a1:Int) (v3:Int×bJ) (g1:Int×bJ×aO):St:=⟨[(0,.ptr 0 0 0),(1,la a0),(2,.int .i64 a1),(6,.ptr 1 0 0),(7,.int .i64 (i64.wrap (1+v3.1))),(8,.ptr 2 0 0),(9,.int .i64 g1.1)],[(0,bx g1.2.1),(1,bx aO.zero),(2,⟨false,5,aO.enc aO.zero,[[.int .i64 g1.2.2.k,.str g1.2.2.bB.name,.int .i64 g1.2.2.bB.aK.mode,.int .i64 g1.2.2.bB.aK.aS,.own 3 0 g1.2.2.bA.length]]⟩),(3,sx g1.2.2.bA)],4⟩
def zad9 (a90:(List aM→Int→bJ→Option (aO×bJ))) (a0:List aM) (a1:Int) (a2:bJ):Option (aO×bJ) :=
 ((if (!(decide (a1=0)))=true then zb8 4 a2 else some (0,a2))).bind fun v1 =>
 (if (decide (a1=0)||decide (v1.1=0))=true then
  (zb8 (a0.length:Int) v1.2).bind fun v2 =>
  gd (0≤v2.1∧v2.1 < (a0.length:Int)) <|
  some ({ aO.zero with bB:=(a0.getD v2.1.toNat aM.zero) },v2.2)
 else
  (zb8 3 v1.2).bind fun v3 =>
  (zb8 (i64.wrap (1+v3.1)) v3.2).bind fun v4 =>
  (zc0 (zaj8 a90 a0 a1 v3) (0,v4.2,(⟨(i64.wrap (1+v4.1)),(⟨aM.zero.name,(⟨aM.zero.aK.mode,aM.zero.aK.aS⟩:aC)⟩:aM),[]⟩:aO))).bind (fun z=>zax9 z))
def zS8:Nat→(List aM→Int→bJ→Option (aO×bJ))
 | 0=>fun _ _ _=>none
 | n+1=>zad9 (zS8 n)
def zr3 (a0:List aM) (a1:Int) (a2:bJ):Option (aO×bJ):=zS8 (a1.toNat+1) a0 a1 a2
theorem zbA5 (a90:(List aM→Int→bJ→Option (aO×bJ))) (hrc:∀ (a0:List aM) (a1:Int) (a2:bJ) (r:aO×bJ),a90 a0 a1 a2=some r→MFn C 247 [.ptr 0 0 0,la a0,.int .i64 a1] [(0,bx a2)] 1 (ga r.1) [(0,bx r.2)] 1) (a0:List aM) (a1:Int) (a2:bJ) (r:aO×bJ) (h:zad9 a90 a0 a1 a2=some r):MFn C 247 [.ptr 0 0 0,la a0,.int .i64 a1] [(0,bx a2)] 1 (ga r.1) [(0,bx r.2)] 1:=by
 refine zaz8 Tryz.f247 [(32,18),(8,18)] [ga r.1] fun E hG hN hK=>?_
 unfold zad9 at h
 refine za2 (za3 hG ?_)
 refine za2 (za2 (za3 hG ?_))
 obtain ⟨v1,hv1,h⟩:=zc9 h
 refine zbf5 [(0,0)] [0] hv1 (fun hc=>(zr0 4 a2).ok _ hc) rfl ?_
 refine zl0 rfl hG h (fun _ h=>?_) (fun _ h=>?_)
 · refine za2 (za3 hG ?_)
   obtain ⟨v2,hv2,h⟩:=zc9 h
   obtain ⟨hb1,h⟩:=zd5 h
   refine zs2 [(0,0)] [] [0] ((zr0 (a0.length:Int) v1.2).ok _ hv2) rfl rfl ?_
   refine zt2 ?_
   exact zS4 [(0,0)] h
 refine zj2 ?_
 refine za2 (za3 hG ?_)
 obtain ⟨v3,hv3,h⟩:=zc9 h
 refine zs2 [(0,0)] [] [0] ((zr0 3 v1.2).ok _ hv3) rfl rfl ?_
 refine za2 (za3 hG ?_)
 obtain ⟨v4,hv4,h⟩:=zc9 h
 refine zs2 [(0,0)] [] [0] ((zr0 (i64.wrap (1+v3.1)) v3.2).ok _ hv4) rfl rfl ?_
 refine g_gh (.ownb 2 4 5 (aO.enc aO.zero)) ?_
 refine za2 (za2 (za3 hG ?_))
 refine zB6 zdw3 (fun v=>zax9 v=some r) ?_ ?_
 · intro j1 h
   unfold zax9 at h
   refine g_st ?_
   refine za2 (za3 hG ?_)
   refine g_gh (.fz [3]) ?_
   refine zt2 ?_
   exact zS4 [(0,0)] h
 refine zY4 (zdw4 a0 a1 v3) hK [(0,0),(1,1),(2,2),(3,3)] h (fun x_l1 h g1 y_l1 h_l1 hx_l1=>?_)
 unfold zaj8 at h_l1
 refine g_st ?_
 refine za2 (za2 (za3 hG ?_))
 refine zl0 rfl hG h_l1 (fun _ h_l1=>?_) (fun _ h_l1=>?_)
 · refine zj2 ?_
   refine za2 (zB5 (zad1 zw6 hG ?_))
   obtain ⟨v5,hv5,h_l1⟩:=zc9 h_l1
   obtain ⟨hb2,h_l1⟩:=zd5 h_l1
   refine zbO6 [(0,0)] [] [0] (hrc a0 (i64.wrap (a1 - 1)) g1.2.1 _ hv5) rfl rfl ?_
   refine za3 hG ?_
   exact zF8 hK [(0,0),(1,1),(2,2),(3,4)] h_l1
 refine zH3 ?_
 cases h_l1
 cases hx_l1 _ rfl
 exact zy4 hK [(0,0),(1,1),(2,2),(3,3)] (g1.2.1,g1.2.2) (by exact h)
theorem zaT5:∀ (n:Nat) (a0:List aM) (a1:Int) (a2:bJ) (r:aO×bJ),zS8 n a0 a1 a2=some r→MFn C 247 [.ptr 0 0 0,la a0,.int .i64 a1] [(0,bx a2)] 1 (ga r.1) [(0,bx r.2)] 1
 | 0,_,_,_,_,h=>nomatch h
 | n+1,a0,a1,a2,r,h=>zbA5 (zS8 n) (zaT5 n) a0 a1 a2 r h
instance zcP5 (a0:List aM) (a1:Int) (a2:bJ):OkM (zr3 a0 a1 a2) 247 [.ptr 0 0 0,la a0,.int .i64 a1] [(0,bx a2)] 1 (fun r=>ga r.1) (fun r=>[(0,bx r.2)]) 1:=⟨fun r h=>zaT5 _ a0 a1 a2 r h⟩
attribute [local irreducible] zr3
def zaF7 (j1:Unit):Option Bool :=
 some true
def zH9 (a0:ByteArray) (g1:Int):Option (Int⊕(Unit⊕Bool)) :=
 (if (decide (g1 < (a0.size:Int)))=true then
  gd (0≤g1∧g1 < (a0.size:Int)) <|
  (if (!(zD1 ((a0.toList.getD g1.toNat 0).toNat:Int)))=true then
   some (.inr (.inr false))
  else
   some (.inl (i64.wrap (g1+1))))
 else
  some (.inr (.inl ())))
def zh7 (a0:ByteArray):Option Bool :=
 gd ((!(decide ((a0.size:Int) < 1)||decide (12 < (a0.size:Int))))=true→0≤0∧0 < (a0.size:Int)) <|
 (if (((decide ((a0.size:Int) < 1)||decide (12 < (a0.size:Int)))||(!(zP9 ((a0.toList.getD 0 0).toNat:Int))))||zH7 a0)=true then
  some false
 else
  (zc0 (zH9 a0) 0).bind (fun|.inl z=>zaF7 z|.inr z=>some z))
@[reducible,instance] def zdQ8 a0:=mkJ (zh7 a0) 0 (@zaF7.eq_1) fun (j1:Unit)=>⟨[],[],0⟩
@[reducible,instance] def zdQ9 (a0:ByteArray) {T:Type} (x:T):=mkL x (@zH9.eq_1 a0) fun (g1:Int)=>⟨[(0,.str a0),(3,.int .i64 g1)],[],0⟩
instance zaK7 (a0:ByteArray):OkP (zh7 a0) 190 [.str a0] (fun r=>.bool r):=ok1 (zh7.eq_1 a0) Tryz.f190 []
attribute [local irreducible] zh7
def zt3 (a0:aA) (a1:aJ):Option Bool :=
 (zi4 a0 a1).bind fun v1 =>
 ((if (!v1.2)=true then zi0 a0 a1 else some aC.zero)).bind fun v2 =>
 some (v1.2||(!(zl7 v2)))
instance zdo8 (a0:aA) (a1:aJ):OkP (zt3 a0 a1) 279 [ga a0,ga a1] (fun r=>.bool r):=ok1 (zt3.eq_1 a0 a1) Tryz.f279 []
attribute [local irreducible] zt3
def zf1 (a0:aI):Option Bool :=
 (ze8 a0.name).bind fun v1 =>
 some (((v1&&zf7 a0)&&decide (0≤a0.home))&&decide (a0.home < 4))
instance zbX8 (a0:aI):OkP (zf1 a0) 170 [ga a0] (fun r=>.bool r):=ok1 (zf1.eq_1 a0) Tryz.f170 []
attribute [local irreducible] zf1
def ltS (x y:aJ):Prop:=x.site < y.site∨x.site=y.site∧(x.inc < y.inc∨x.inc=y.inc∧x.num < y.num)
instance (x y:aJ):Decidable (ltS x y):=by unfold ltS; infer_instance
def cmpS (x y:aJ):Int:=if ltS x y then -1 else if ltS y x then 1 else 0
theorem zaT6 (x y:aJ):ltOf cmpS x y=decide (ltS x y):=by
 unfold ltOf cmpS
 by_cases h:ltS x y
 · simp [h]
 · by_cases h2:ltS y x <;> simp [h,h2]
theorem zcr0:Go.Sort.SWO (ltOf cmpS) where
 irrefl x:=by rw [zaT6]; simp [ltS]
 trans x y z h1 h2:=by
  rw [zaT6,bY] at *; unfold ltS at *; omega
 ntrans x y z h1 h2:=by
  rw [zaT6,cW] at *; unfold ltS at *; omega
theorem zcA9 (x y:aJ) (h1:ltOf cmpS x y=false) (h2:ltOf cmpS y x=false):x=y:=by
 rw [zaT6,cW] at *; unfold ltS at *; rw [aJ.ext_iff]; omega
theorem zcJ7 (p q:aJ):zd8 p q=some (cmpS p q):=by
 unfold zd8 zh3
 have e:∀ (x y z:Int) (i:Nat) (h:[x,y,z].length=3),Arr.get (⟨[x,y,z],h⟩:Arr Int 3) i 0=match i with|0=>x|1=>y|_=>z:=by
  intro x y z i h
  match i with
  | 0=>rfl
  | 1=>rfl
  | 2=>rfl
  | n+3 =>
    have:¬ (n+3 < 3):=by omega
    simp [Arr.get,zL7,this]
 have w1:i64.wrap (0+1)=1:=by decide
 have w2:i64.wrap (1+1)=2:=by decide
 have w3:i64.wrap (2+1)=3:=by decide
 have s3:zn6 ⟨[p.site,p.inc,p.num],rfl⟩ ⟨[q.site,q.inc,q.num],rfl⟩ 3=some (.inr (.inl ())):=by unfold zn6; simp
 have s2:zn6 ⟨[p.site,p.inc,p.num],rfl⟩ ⟨[q.site,q.inc,q.num],rfl⟩ 2=some (if p.num < q.num then .inr (.inr (-1)) else if q.num < p.num then .inr (.inr 1) else .inl 3):=by
  unfold zn6
  rw [bV (by decide),zg6 (by decide),zg6 (by decide),zg6 (by decide)]
  simp only [e,show (2:Int).toNat=2 from rfl,bY,w3]
  by_cases h:p.num < q.num
  · simp [h]
  · by_cases h2:q.num < p.num <;> simp [h,h2]
 have s1:zn6 ⟨[p.site,p.inc,p.num],rfl⟩ ⟨[q.site,q.inc,q.num],rfl⟩ 1=some (if p.inc < q.inc then .inr (.inr (-1)) else if q.inc < p.inc then .inr (.inr 1) else .inl 2):=by
  unfold zn6
  rw [bV (by decide),zg6 (by decide),zg6 (by decide),zg6 (by decide)]
  simp only [e,show (1:Int).toNat=1 from rfl,bY,w2]
  by_cases h:p.inc < q.inc
  · simp [h]
  · by_cases h2:q.inc < p.inc <;> simp [h,h2]
 have s0:zn6 ⟨[p.site,p.inc,p.num],rfl⟩ ⟨[q.site,q.inc,q.num],rfl⟩ 0=some (if p.site < q.site then .inr (.inr (-1)) else if q.site < p.site then .inr (.inr 1) else .inl 1):=by
  unfold zn6
  rw [bV (by decide),zg6 (by decide),zg6 (by decide),zg6 (by decide)]
  simp only [e,show (0:Int).toNat=0 from rfl,bY,w1]
  by_cases h:p.site < q.site
  · simp [h]
  · by_cases h2:q.site < p.site <;> simp [h,h2]
 unfold cmpS ltS
 by_cases a1:p.site < q.site
 · rw [zf6,s0]; simp [a1]
 · by_cases a2:q.site < p.site
   · rw [zf6,s0]
     have:¬ p.site=q.site:=by omega
     simp [a1,a2,this]
   · have h1:p.site=q.site:=by omega
     by_cases b1:p.inc < q.inc
     · rw [zf6,s0]; simp only [a1,a2,cA]; rw [zf6,s1]; simp [b1,h1]
     · by_cases b2:q.inc < p.inc
       · have:¬ p.inc=q.inc:=by omega
         rw [zf6,s0]; simp only [a1,a2,cA]; rw [zf6,s1]; simp [b1,b2,h1,this]
       · have h2:p.inc=q.inc:=by omega
         rw [zf6,s0]; simp only [a1,a2,cA]; rw [zf6,s1]; simp only [b1,b2,cA]; rw [zf6,s2]
         by_cases c1:p.num < q.num
         · simp [c1,h1,h2]
         · by_cases c2:q.num < p.num
           · simp [c1,c2,h1,h2]
           · simp only [c1,c2,cA]; rw [zf6,s3]; simp [h1,h2,zag5]
def zg2 (a0 a1:aA):Option Bool :=
 ((if (decide (a0.aB=a1.aB))=true then za8 a0.aR a1.aR else some false)).bind fun v1 =>
 ((if (decide (a0.aB=a1.aB)&&v1)=true then za6 a0.aL a1.aL else some false)).bind fun v2 =>
 ((if ((decide (a0.aB=a1.aB)&&v1)&&v2)=true then za1 a0.aV a1.aV else some false)).bind fun v3 =>
 some (((decide (a0.aB=a1.aB)&&v1)&&v2)&&v3)
instance zcc6 (a0 a1:aA):OkP (zg2 a0 a1) 60 [ga a0,ga a1] (fun r=>.bool r):=⟨fun r h=>by
 refine zad2 Tryz.f60 [] fun E hG hN hK=>?_
 have hm:Mk (zg2 a0 a1):=trivial
 unfold zg2 at h
 refine za2 (za3 hG ?_)
 refine za2 (za3 hG ?_)
 obtain ⟨v1,hv1,h⟩:=zc9 h
 have hm:=mkP hm v1
 refine zq4 (fun hg=>(zaw1 a0.aR a1.aR).ok _ (zaH9 hg hv1)) ?_
 obtain ⟨v2,hv2,h⟩:=zc9 h
 have hm:=mkP hm v2
 refine zq4 (fun hg=>(zav9 a0.aL a1.aL).ok _ (zaH9 hg hv2)) ?_
 obtain ⟨v3,hv3,h⟩:=zc9 h
 have hm:=mkP hm v3
 refine zbf5 [] [] hv3 (fun hc=>(zN5 a0.aV a1.aV).ok _ hc) rfl ?_
 exact gogo⟩
attribute [local irreducible] zg2
def zf0 (a0 a1:bC):Option Bool :=
 ((if (decide (a0.aN=a1.aN)&&decide (a0.gen=a1.gen))=true then ze9 a0.bO a1.bO else some false)).bind fun v1 =>
 some ((decide (a0.aN=a1.aN)&&decide (a0.gen=a1.gen))&&v1)
instance zbd5 (a0 a1:bC):OkP (zf0 a0 a1) 27 [ga a0,ga a1] (fun r=>.bool r):=ok1 (zf0.eq_1 a0 a1) Tryz.f27 []
attribute [local irreducible] zf0
def zt5 (a0:aI) (a1:aC):Bool :=
 (zJ1 a0&&(zl7 a1||zs9 a0 a1))
instance zcB0 (a0:aI) (a1:aC):OkT 244 [.agg (aI.enc a0),.agg (aC.enc a1)] (.bool (zt5 a0 a1)):=ok2 (fun r=>.bool r) (zt5.eq_1 a0 a1) Tryz.f244 []
def zaK8 (a1:aJ) (a2:aC) (j1:Bool×(List aU)):Option (List aU) :=
 (if (!j1.1)=true then
  gd (j1.2.length+1≤4294967296) <|
  some (j1.2++[(⟨a1,a2⟩:aU)])
 else
  some j1.2)
def zal5 (a0:List aU) (a1:aJ) (a2:aC) (g1:Bool×Int×(List aU)):Option ((Bool×Int×(List aU))⊕(Bool×(List aU))) :=
 (if (decide (g1.2.1 < (a0.length:Int)))=true then
  gd (0≤g1.2.1∧g1.2.1 < (a0.length:Int)) <|
  (if (decide ((a0.getD g1.2.1.toNat aU.zero).aN=a1))=true then
   some (.inl (g1.1,i64.wrap (g1.2.1+1),g1.2.2))
  else
   gd ((!g1.1)=true→0≤g1.2.1∧g1.2.1 < (a0.length:Int)) <|
   (if ((!g1.1)&&decide (0 < zu4 ((a0.getD g1.2.1.toNat aU.zero).aN) a1))=true then
    gd (g1.2.2.length+1≤4294967296) <|
    gd (0≤g1.2.1∧g1.2.1 < (a0.length:Int)) <|
    gd (g1.2.2.length+1+1≤4294967296) <|
    some (.inl (true,i64.wrap (g1.2.1+1),((g1.2.2++[(⟨a1,a2⟩:aU)])++[(a0.getD g1.2.1.toNat aU.zero)])))
   else
    gd (0≤g1.2.1∧g1.2.1 < (a0.length:Int)) <|
    gd (g1.2.2.length+1≤4294967296) <|
    some (.inl (g1.1,i64.wrap (g1.2.1+1),(g1.2.2++[(a0.getD g1.2.1.toNat aU.zero)])))))
 else
  some (.inr (g1.1,g1.2.2)))
def zr9 (a0:List aU) (a1:aJ) (a2:aC):Option (List aU) :=
 (zc0 (zal5 a0 a1 a2) ((zl7 a2),0,[])).bind (fun z=>zaK8 a1 a2 z)
@[reducible,instance] def zdR0 a0 (a1:aJ) (a2:aC):=mkJ (zr9 a0 a1 a2) 0 (@zaK8.eq_1 a1 a2) fun (j1:Bool×(List aU))=>⟨[(4,.ptr 0 0 0),(5,.ptr 1 0 0),(7,.own 2 0 j1.2.length),(8,.bool j1.1)],[(0,bx a1),(1,bx a2),(2,sx j1.2)],3⟩
@[reducible,instance] def zdR1 (a0:List aU) (a1:aJ) (a2:aC) {T:Type} (x:T):=mkL x (@zal5.eq_1 a0 a1 a2) fun (g1:Bool×Int×(List aU))=>⟨[(0,la a0),(4,.ptr 0 0 0),(5,.ptr 1 0 0),(7,.own 2 0 g1.2.2.length),(8,.bool g1.1),(9,.int .i64 g1.2.1)],[(0,bx a1),(1,bx a2),(2,sx g1.2.2)],3⟩
instance zdo9 (a0:List aU) (a1:aJ) (a2:aC):OkP (zr9 a0 a1 a2) 285 [la a0,ga a1,ga a2] (fun r=>la r):=ok1 (zr9.eq_1 a0 a1 a2) Tryz.f285 [(7,1)]
attribute [local irreducible] zr9
def zO9 (a0 a1:aC):Bool :=
 (if ((!(zp6 a1))||decide (a0=a1))=true then
  false
 else
  (if (decide (a0={ aC.zero with  }))=true then
   true
  else
   (if (!(zp6 a0))=true then
    false
   else
    (if (!decide (a0.mode=0))=true then
     (zQ0 a1.mode a0.mode)
    else
     (decide (a0.aS < a1.aS))))))
instance zdb8 (a0 a1:aC):OkT 192 [.agg (aC.enc a0),.agg (aC.enc a1)] (.bool (zO9 a0 a1)):=ok2 (fun r=>.bool r) (zO9.eq_1 a0 a1) Tryz.f192 []
def zbg2 (j1:Unit):Option Int :=
 some 0
def zay0 (a0 a1 g1:Int):Option (Int⊕(Unit⊕Int)) :=
 (if (decide (g1≤5))=true then
  (if (zQ0 g1 a0&&zQ0 g1 a1)=true then
   some (.inr (.inr g1))
  else
   some (.inl (i64.wrap (g1+1))))
 else
  some (.inr (.inl ())))
def zu3 (a0 a1:Int):Option Int :=
 (zc0 (zay0 a0 a1) 1).bind (fun|.inl z=>zbg2 z|.inr z=>some z)
@[reducible,instance] def zdR2 a0 a1:=mkJ (zu3 a0 a1) 0 (@zbg2.eq_1) fun (j1:Unit)=>⟨[],[],0⟩
@[reducible,instance] def zdR3 (a0 a1:Int) {T:Type} (x:T):=mkL x (@zay0.eq_1 a0 a1) fun (g1:Int)=>⟨[(0,.int .i64 a0),(1,.int .i64 a1),(5,.int .i64 g1)],[],0⟩
instance zdp0 (a0 a1:Int):OkP (zu3 a0 a1) 245 [.int .i64 a0,.int .i64 a1] (fun r=>.int .i64 r):=ok1 (zu3.eq_1 a0 a1) Tryz.f245 []
attribute [local irreducible] zu3
def zag9 (j2:aD):Option aD :=
 some j2
@[go_sem] def zdw5  (j2:aD):St:=⟨[(2,.ptr 0 0 0),(3,.ptr 1 0 0)],[(0,bx aD.zero),(1,⟨false,2,aD.enc aD.zero,[[.own 2 0 j2.aF.length,.own 3 0 j2.aQ.length]]⟩),(2,sx j2.aF),(3,sx j2.aQ)],4⟩
def zT8 (a0:aD) (g1:Int×aD):Option ((Int×aD)⊕aD) :=
 (if (decide (g1.1 < (a0.aQ.length:Int)))=true then
  gd (0≤g1.1∧g1.1 < (a0.aQ.length:Int)) <|
  (zd1 (a0.aQ.getD g1.1.toNat bC.zero)).bind fun v1 =>
  gd (g1.2.aQ.length+1≤4294967296) <|
  some (.inl ((i64.wrap (g1.1+1)),(⟨g1.2.aF,(g1.2.aQ++[v1])⟩:aD)))
 else
  some (.inr g1.2))
@[go_sem] def zdw6 (a0:aD) (g1:Int×aD):St:=⟨[(2,.ptr 0 0 0),(3,.ptr 1 0 0),(24,la a0.aQ),(25,.int .i64 (a0.aQ.length:Int)),(26,.int .i64 g1.1)],[(0,bx aD.zero),(1,⟨false,2,aD.enc aD.zero,[[.own 2 0 g1.2.aF.length,.own 3 0 g1.2.aQ.length]]⟩),(2,sx g1.2.aF),(3,sx g1.2.aQ)],4⟩
def zT9 (a0 j1:aD):Option aD :=
 (zc0 (zT8 a0) (0,j1)).bind (fun z=>zag9 z)
@[go_sem] def zdw7 (a0 j1:aD):St:=⟨[(1,.ptr 0 0 0),(2,.ptr 1 0 0),(3,.ptr 2 0 0)],[(0,bx a0),(1,bx aD.zero),(2,⟨false,2,aD.enc aD.zero,[[.own 3 0 j1.aF.length,.own 4 0 j1.aQ.length]]⟩),(3,sx j1.aF),(4,sx j1.aQ)],5⟩
def zU0 (a0:aD) (g2:Int×aD):Option ((Int×aD)⊕aD) :=
 (if (decide (g2.1 < (a0.aF.length:Int)))=true then
  gd (0≤g2.1∧g2.1 < (a0.aF.length:Int)) <|
  (zd6 (a0.aF.getD g2.1.toNat aA.zero)).bind fun v2 =>
  gd (g2.2.aF.length+1≤4294967296) <|
  some (.inl ((i64.wrap (g2.1+1)),(⟨(g2.2.aF++[v2]),g2.2.aQ⟩:aD)))
 else
  some (.inr g2.2))
@[go_sem] def zdw8 (a0:aD) (g2:Int×aD):St:=⟨[(1,.ptr 0 0 0),(2,.ptr 1 0 0),(3,.ptr 2 0 0),(9,la a0.aF),(10,.int .i64 (a0.aF.length:Int)),(11,.int .i64 g2.1)],[(0,bx a0),(1,bx aD.zero),(2,⟨false,2,aD.enc aD.zero,[[.own 3 0 g2.2.aF.length,.own 4 0 g2.2.aQ.length]]⟩),(3,sx g2.2.aF),(4,sx g2.2.aQ)],5⟩
def zi9 (a0:aD):Option aD :=
 (zc0 (zU0 a0) (0,(⟨[],[]⟩:aD))).bind (fun z=>zT9 a0 z)
theorem zbd6 (a0 r:aD) (h:zi9 a0=some r):MFn C 21 [ga a0] [] 0 (.agg [.own 0 0 r.aF.length,.own 1 0 r.aQ.length]) [(0,sx r.aF),(1,sx r.aQ)] 2:=by
 refine zaz8 Tryz.f21 [(3,5)] [.agg [.own 0 0 r.aF.length,.own 1 0 r.aQ.length]] fun E hG hN hK=>?_
 unfold zi9 at h
 refine za2 (za3 hG ?_)
 refine za2 (za3 hG ?_)
 refine g_gh (.ownb 2 0 8 (aA.enc aA.zero)) ?_
 refine g_gh (.ownb 2 1 9 (bC.enc bC.zero)) ?_
 refine za2 (za2 (za3 hG ?_))
 refine zB6 (zdw7 a0) (fun v=>zT9 a0 v=some r) ?_ ?_
 · intro j1 h
   unfold zT9 at h
   refine g_st ?_
   refine za2 (za2 (za3 hG ?_))
   refine zB6 zdw5 (fun v=>zag9 v=some r) ?_ ?_
   · intro j2 h
     unfold zag9 at h
     refine g_st ?_
     refine za2 (za3 hG ?_)
     refine zt2 ?_
     exact zS4 [(0,2),(1,3)] h
   refine zY4 (zdw6 a0) hK [(0,1),(1,2),(2,3),(3,4)] h (fun x_l1 h g1 y_l1 h_l1 hx_l1=>?_)
   unfold zT8 at h_l1
   refine g_st ?_
   refine za2 (za3 hG ?_)
   refine za2 ?_
   refine zl0 rfl hG h_l1 (fun _ h_l1=>?_) (fun _ h_l1=>?_)
   · refine zj2 ?_
     refine za2 (zB5 (za2 ?_))
     obtain ⟨hb2,h_l1⟩:=zd5 h_l1
     refine za3 hG ?_
     refine zad1 zw6 hG ?_
     obtain ⟨v1,hv1,h_l1⟩:=zc9 h_l1
     obtain ⟨hb1,h_l1⟩:=zd5 h_l1
     refine zaa0 (fun hg=>(zag8 (a0.aQ.getD g1.1.toNat bC.zero)).ok _ hv1) ?_
     refine za3 hG ?_
     exact zF8 hK [(0,0),(1,1),(2,2),(3,5)] h_l1
   refine zH3 ?_
   cases h_l1
   cases hx_l1 _ rfl
   exact zy4 hK [(0,0),(1,1),(2,2),(3,3)] g1.2 (by exact h)
 refine zY4 (zdw8 a0) hK [(0,0),(1,1),(2,2),(3,3),(4,4)] h (fun x_l2 h g2 y_l2 h_l2 hx_l2=>?_)
 unfold zU0 at h_l2
 refine g_st ?_
 refine za2 (za3 hG ?_)
 refine za2 ?_
 refine zl0 rfl hG h_l2 (fun _ h_l2=>?_) (fun _ h_l2=>?_)
 · refine zj2 ?_
   refine za2 (zB5 (za2 ?_))
   obtain ⟨hb4,h_l2⟩:=zd5 h_l2
   refine za3 hG ?_
   refine zad1 zw6 hG ?_
   obtain ⟨v2,hv2,h_l2⟩:=zc9 h_l2
   obtain ⟨hb3,h_l2⟩:=zd5 h_l2
   refine zaa0 (fun hg=>(zau7 (a0.aF.getD g2.1.toNat aA.zero)).ok _ hv2) ?_
   refine za3 hG ?_
   exact zF8 hK [(0,0),(1,1),(2,2),(3,6),(4,4)] h_l2
 refine zH3 ?_
 cases h_l2
 cases hx_l2 _ rfl
 exact zy4 hK [(0,0),(1,1),(2,2),(3,3),(4,4)] g2.2 (by exact h)
attribute [local irreducible] zi9
attribute [local irreducible] zp7 zi7 zc6 ze0 zs0 zj6 zo2 zj8 zg5 zp8 zl2 zh0 zb5 zi8 zr5
def zah0 (j1:Bool):Option Bool :=
 some j1
@[go_sem] def zdD7  (j1:Bool):St:=⟨[(5,.bool j1)],[],0⟩
def zU1 (a1:List aC) (g1:Int×Int×(Arr Bool 6)) (j2:Unit):Option ((Int×Int×(Arr Bool 6))⊕Bool) :=
 gd (0≤(a1.getD g1.2.1.toNat aC.zero).mode∧(a1.getD g1.2.1.toNat aC.zero).mode < 6) <|
 some (.inl ((i64.wrap (g1.1+(a1.getD g1.2.1.toNat aC.zero).aS)),i64.wrap (g1.2.1+1),Arr.put g1.2.2 (((a1.getD g1.2.1.toNat aC.zero).mode).toNat) true))
@[go_sem] def zdD8 (a0:aI) (a1:List aC) (g1:Int×Int×(Arr Bool 6)) (j2:Unit):St:=⟨[(2,.ptr 0 0 0),(5,.bool true),(6,.ptr 1 0 0),(7,.int .i64 (i64.wrap (g1.1+(a1.getD g1.2.1.toNat aC.zero).aS))),(9,.ptr 2 0 0),(15,la a1),(16,.int .i64 (a1.length:Int)),(17,.int .i64 g1.2.1)],[(0,bx a0),(1,⟨false,6,Arr.enc eB (Arr.rep 6 false),[Arr.enc eB g1.2.2]⟩),(2,bx (a1.getD g1.2.1.toNat aC.zero))],3⟩
def zD3 (a1:List aC) (g1:Int×Int×(Arr Bool 6)) (g2:Int):Option (Int⊕(Unit⊕Bool)) :=
 (if (decide (g2 < 6))=true then
  gd (0≤g2∧g2 < 6) <|
  ((if (Arr.get g1.2.2 g2.toNat false)=true then zh5 g2 ((a1.getD g1.2.1.toNat aC.zero).mode) else some false)).bind fun v1 =>
  (if (Arr.get g1.2.2 g2.toNat false&&(!v1))=true then
   some (.inr (.inr false))
  else
   some (.inl (i64.wrap (g2+1))))
 else
  some (.inr (.inl ())))
@[go_sem] def zdD9 (a0:aI) (a1:List aC) (g1:Int×Int×(Arr Bool 6)) (g2:Int):St:=⟨[(2,.ptr 0 0 0),(5,.bool true),(6,.ptr 1 0 0),(7,.int .i64 (i64.wrap (g1.1+(a1.getD g1.2.1.toNat aC.zero).aS))),(9,.ptr 2 0 0),(15,la a1),(16,.int .i64 (a1.length:Int)),(17,.int .i64 g1.2.1),(41,.agg (Arr.enc eB g1.2.2)),(42,.int .i64 g2)],[(0,bx a0),(1,⟨false,6,Arr.enc eB (Arr.rep 6 false),[Arr.enc eB g1.2.2]⟩),(2,bx (a1.getD g1.2.1.toNat aC.zero))],3⟩
def zJ4 (a0:aI) (a1:List aC) (g1:Int×Int×(Arr Bool 6)):Option ((Int×Int×(Arr Bool 6))⊕Bool) :=
 (if (decide (g1.2.1 < (a1.length:Int)))=true then
  gd (0≤g1.2.1∧g1.2.1 < (a1.length:Int)) <|
  (if ((!(zc7 a0 (a1.getD g1.2.1.toNat aC.zero)))||decide (a0.aS < i64.wrap (g1.1+(a1.getD g1.2.1.toNat aC.zero).aS)))=true then
   some (.inr false)
  else
   (if (decide ((a1.getD g1.2.1.toNat aC.zero).mode=0))=true then
    some (.inl ((i64.wrap (g1.1+(a1.getD g1.2.1.toNat aC.zero).aS)),i64.wrap (g1.2.1+1),g1.2.2))
   else
    (zc0 (zD3 a1 g1) 0).bind (fun|.inl z=>zU1 a1 g1 z|.inr z=>some (.inr z))))
 else
  some (.inr true))
@[go_sem] def zdE0 (a0:aI) (a1:List aC) (g1:Int×Int×(Arr Bool 6)):St:=⟨[(2,.ptr 0 0 0),(5,.bool true),(6,.ptr 1 0 0),(7,.int .i64 g1.1),(15,la a1),(16,.int .i64 (a1.length:Int)),(17,.int .i64 g1.2.1)],[(0,bx a0),(1,⟨false,6,Arr.enc eB (Arr.rep 6 false),[Arr.enc eB g1.2.2]⟩)],2⟩
def zk9 (a0:aI) (a1:List aC):Option Bool :=
 (if (!(zf7 a0))=true then
  some false
 else
  (zc0 (zJ4 a0 a1) (0,0,Arr.rep 6 false)).bind (fun z=>zah0 z))
theorem zbg3 (a0:aI) (a1:List aC) (r:Bool) (h:zk9 a0 a1=some r):PFn C 221 [ga a0,la a1] (.bool r):=by
 refine zad2 Tryz.f221 [] fun E hG hN hK=>?_
 unfold zk9 at h
 refine za2 (za3 hG ?_)
 refine zcX8 ?_
 refine za2 (za2 (za3 hG ?_))
 refine zq4 (fun hg=>(zbz9 a0).ok) ?_
 refine zl0 rfl hG h (fun _ h=>?_) (fun _ h=>?_)
 · refine za2 (za3 hG ?_)
   refine zt2 ?_
   exact zI9 h
 refine zj2 ?_
 refine za2 (za3 hG ?_)
 refine za2 (za3 hG ?_)
 refine za2 (za3 hG ?_)
 refine za2 ?_
 refine zdn8 ?_
 refine za2 (za2 (za3 hG ?_))
 refine zB6 zdD7 (fun v=>zah0 v=some r) ?_ ?_
 · intro j1 h
   unfold zah0 at h
   refine g_st ?_
   refine za2 (za3 hG ?_)
   refine zt2 ?_
   exact zI9 h
 refine zY4 (zdE0 a0 a1) hK [(0,0),(1,1)] h (fun x_l1 h g1 y_l1 h_l1 hx_l1=>?_)
 unfold zJ4 at h_l1
 refine g_st ?_
 refine za2 (za3 hG ?_)
 refine za2 ?_
 refine zl0 rfl hG h_l1 (fun _ h_l1=>?_) (fun _ h_l1=>?_)
 · refine zj2 ?_
   refine za2 (zB5 (za2 ?_))
   obtain ⟨hb3,h_l1⟩:=zd5 h_l1
   refine za3 hG ?_
   refine za2 (za2 (za3 hG ?_))
   refine zq4 (fun hg=>(zbm0 a0 (a1.getD g1.2.1.toNat aC.zero)).ok) ?_
   refine zl0 rfl hG h_l1 (fun _ h_l1=>?_) (fun _ h_l1=>?_)
   · refine za2 (za3 hG ?_)
     refine zH3 ?_
     cases h_l1
     cases hx_l1 _ rfl
     exact zy4 hK [] false (by exact h)
   refine zj2 ?_
   refine za2 (za3 hG ?_)
   refine za2 (za2 (za3 hG ?_))
   refine zl0 rfl hG h_l1 (fun _ h_l1=>?_) (fun _ h_l1=>?_)
   · refine zH3 ?_
     refine za3 hG ?_
     exact zF8 hK [(0,0),(1,1)] h_l1
   refine zj2 ?_
   refine za2 (za2 (za3 hG ?_))
   refine zB6 (zdD8 a0 a1 g1) (fun v=>zU1 a1 g1 v=some y_l1) ?_ ?_
   · intro j2 h_l1
     unfold zU1 at h_l1
     refine g_st ?_
     obtain ⟨hb1,h_l1⟩:=zd5 h_l1
     refine za3 hG ?_
     refine za3 hG ?_
     exact zF8 hK [(0,0),(1,1)] h_l1
   refine zY4 (zdD9 a0 a1 g1) hK [(0,0),(1,1),(2,2)] h_l1 (fun x_l2 h_l1 g2 y_l2 h_l2 hx_l2=>?_)
   unfold zD3 at h_l2
   refine g_st ?_
   refine za2 (za3 hG ?_)
   refine za2 ?_
   refine zl0 rfl hG h_l2 (fun _ h_l2=>?_) (fun _ h_l2=>?_)
   · refine zj2 ?_
     refine za2 (zB5 (za2 ?_))
     obtain ⟨hb2,h_l2⟩:=zd5 h_l2
     refine za3 hG ?_
     refine za2 (za3 hG ?_)
     obtain ⟨v1,hv1,h_l2⟩:=zc9 h_l2
     refine zq4 (fun hg=>(zbr0 g2 ((a1.getD g1.2.1.toNat aC.zero).mode)).ok _ (zaH9 hg hv1)) ?_
     refine zl0 rfl hG h_l2 (fun _ h_l2=>?_) (fun _ h_l2=>?_)
     · refine za2 (za3 hG ?_)
       refine zH3 ?_
       obtain rfl:=dU h_l2
       have hx:=hx_l2 _ rfl
       subst hx
       try dsimp only at h_l1
       cases h_l1
       cases hx_l1 _ rfl
       exact zy4 hK [] false (by exact h)
     refine zj2 ?_
     refine za3 hG ?_
     exact zF8 hK [(0,0),(1,1),(2,2)] h_l2
   refine zH3 ?_
   obtain rfl:=dU h_l2
   have hx:=hx_l2 _ rfl
   subst hx
   try dsimp only at h_l1
   exact zy4 hK [(0,0),(1,1),(2,2)] () (by exact h_l1)
 refine zH3 ?_
 cases h_l1
 cases hx_l1 _ rfl
 exact zy4 hK [] true (by exact h)
instance zcl9 (a0:aI) (a1:List aC):OkP (zk9 a0 a1) 221 [ga a0,la a1] (fun r=>.bool r):=⟨zbg3 a0 a1⟩
attribute [local irreducible] zk9
def ze2 (a0:aY):Option (aJ×aY) :=
 (if (!decide (a0.bN.err=0))=true then
  some ({ aJ.zero with  },a0)
 else
  (zs0 a0.bN.rest).bind fun v1 =>
  (if (!decide (v1.2.2=0))=true then
   some ({ aJ.zero with  },{ a0 with bN:={ a0.bN with err:=v1.2.2 } })
  else
   gd (0≤v1.2.1∧v1.2.1≤(a0.bN.rest.length:Int)∧(a0.bN.rest.length:Int)≤(a0.bN.rest.length:Int)) <|
   some (v1.1,{ a0 with bN:={ a0.bN with rest:=(a0.bN.rest.drop v1.2.1.toNat) } })))
instance zbK0 (a0:aY):OkM (ze2 a0) 42 [.ptr 0 0 0] [(0,bx a0)] 1 (fun r=>ga r.1) (fun r=>[(0,bx r.2)]) 1:=okm (ze2.eq_1 a0) (fun r=>[ga r.1]) Tryz.f42 []
attribute [local irreducible] ze2
def zi1 (a0 a1:aA):Option Bool :=
 ((if (decide (a0.gen=a1.gen))=true then zg2 a0 a1 else some false)).bind fun v1 =>
 ((if (decide (a0.gen=a1.gen)&&v1)=true then za6 a0.aV a1.aV else some false)).bind fun v2 =>
 some ((decide (a0.gen=a1.gen)&&v1)&&v2)
instance zaY4 (a0 a1:aA):OkP (zi1 a0 a1) 24 [ga a0,ga a1] (fun r=>.bool r):=ok1 (zi1.eq_1 a0 a1) Tryz.f24 []
attribute [local irreducible] zi1
def zx1 (j1:Unit):Option Bool :=
 some true
def zo6 (a0 a1:List bC) (g1:Int):Option (Int⊕(Unit⊕Bool)) :=
 (if (decide (g1 < (a0.length:Int)))=true then
  gd (0≤g1∧g1 < (a0.length:Int)) <|
  gd (0≤g1∧g1 < (a1.length:Int)) <|
  (zf0 (a0.getD g1.toNat bC.zero) (a1.getD g1.toNat bC.zero)).bind fun v1 =>
  (if (!v1)=true then
   some (.inr (.inr false))
  else
   some (.inl (i64.wrap (g1+1))))
 else
  some (.inr (.inl ())))
def za5 (a0 a1:List bC):Option Bool :=
 (if (!decide ((a0.length:Int)=(a1.length:Int)))=true then
  some false
 else
  (zc0 (zo6 a0 a1) 0).bind (fun|.inl z=>zx1 z|.inr z=>some z))
@[reducible,instance] def zdR4 a0 a1:=mkJ (za5 a0 a1) 0 (@zx1.eq_1) fun (j1:Unit)=>⟨[],[],0⟩
@[reducible,instance] def zdR5 (a0 a1:List bC) {T:Type} (x:T):=mkL x (@zo6.eq_1 a0 a1) fun (g1:Int)=>⟨[(1,la a1),(2,.clo 27 []),(15,la a0),(16,.int .i64 (a0.length:Int)),(17,.int .i64 g1)],[],0⟩
instance zN7 (a0 a1:List bC):OkM (za5 a0 a1) 48 [la a0,la a1,.clo 27 []] [] 0 (fun r=>.bool r) (fun r=>[]) 0:=okm (za5.eq_1 a0 a1) (fun r=>[.bool r]) Tryz.f48 []
attribute [local irreducible] za5
def zaz9 (j1:Unit):Option Bool :=
 some true
def zaj1 (g1:Int×Int) (j2:Unit):Option ((Int×Int)⊕(Unit⊕Bool)) :=
 some (.inl (g1.1,i64.wrap (g1.2+1)))
def zF7 (a1:List aC) (g1:Int×Int) (g2:Int):Option (Int⊕(Unit⊕Bool)) :=
 (if (decide (g2 < g1.2))=true then
  gd (0≤g1.2∧g1.2 < (a1.length:Int)) <|
  gd ((!(zl7 (a1.getD g1.2.toNat aC.zero)))=true→0≤g2∧g2 < (a1.length:Int)) <|
  gd (((!(zl7 (a1.getD g1.2.toNat aC.zero)))&&(!(zl7 (a1.getD g2.toNat aC.zero))))=true→0≤g1.2∧g1.2 < (a1.length:Int)) <|
  gd (((!(zl7 (a1.getD g1.2.toNat aC.zero)))&&(!(zl7 (a1.getD g2.toNat aC.zero))))=true→0≤g2∧g2 < (a1.length:Int)) <|
  (if (((!(zl7 (a1.getD g1.2.toNat aC.zero)))&&(!(zl7 (a1.getD g2.toNat aC.zero))))&&(!(zN6 ((a1.getD g1.2.toNat aC.zero).mode) ((a1.getD g2.toNat aC.zero).mode))))=true then
   some (.inr (.inr false))
  else
   some (.inl (i64.wrap (g2+1))))
 else
  some (.inr (.inl ())))
def zA4 (a0:aI) (a1:List aC) (g1:Int×Int):Option ((Int×Int)⊕(Unit⊕Bool)) :=
 (if (decide (g1.2 < (a1.length:Int)))=true then
  gd (0≤g1.2∧g1.2 < (a1.length:Int)) <|
  (if (!(zt5 a0 (a1.getD g1.2.toNat aC.zero)))=true then
   some (.inr (.inr false))
  else
   (if (decide (a0.kind=2))=true then
    gd (0≤g1.2∧g1.2 < (a1.length:Int)) <|
    (if (decide (a0.aS < i64.wrap (g1.1+(a1.getD g1.2.toNat aC.zero).aS)))=true then
     some (.inr (.inr false))
    else
     some (.inl ((i64.wrap (g1.1+(a1.getD g1.2.toNat aC.zero).aS)),i64.wrap (g1.2+1))))
   else
    (zc0 (zF7 a1 g1) 0).bind (fun|.inl z=>zaj1 g1 z|.inr z=>some (.inr (.inr z)))))
 else
  some (.inr (.inl ())))
def zm0 (a0:aI) (a1:List aC):Option Bool :=
 (if (!(zJ1 a0))=true then
  some false
 else
  (zc0 (zA4 a0 a1) (0,0)).bind (fun|.inl z=>zaz9 z|.inr z=>some z))
@[reducible,instance] def zdR6 a0 a1:=mkJ (zm0 a0 a1) 0 (@zaz9.eq_1) fun (j1:Unit)=>⟨[],[],0⟩
@[reducible,instance] def zdR7 (a0:aI) (a1:List aC) (g1:Int×Int):=mkJ (zA4 a0 a1 g1) 2 (@zaj1.eq_1 g1) fun (j2:Unit)=>⟨[(1,la a1),(2,.ptr 0 0 0),(5,.int .i64 g1.1),(6,.int .i64 g1.2)],[(0,bx a0)],1⟩
@[reducible,instance] def zdR8 (a0:aI) (a1:List aC) (g1:Int×Int):=mkL (zA4 a0 a1 g1) (@zF7.eq_1 a1 g1) fun (g2:Int)=>⟨[(1,la a1),(2,.ptr 0 0 0),(5,.int .i64 g1.1),(6,.int .i64 g1.2),(7,.int .i64 g2)],[(0,bx a0)],1⟩
@[reducible,instance] def zdR9 (a0:aI) (a1:List aC) {T:Type} (x:T):=mkL x (@zA4.eq_1 a0 a1) fun (g1:Int×Int)=>⟨[(1,la a1),(2,.ptr 0 0 0),(5,.int .i64 g1.1),(6,.int .i64 g1.2)],[(0,bx a0)],1⟩
instance zcx7 (a0:aI) (a1:List aC):OkP (zm0 a0 a1) 282 [ga a0,la a1] (fun r=>.bool r):=ok1 (zm0.eq_1 a0 a1) Tryz.f282 []
attribute [local irreducible] zm0
def zbc0 (j1:Unit):Option Bool :=
 some true
def zas2 (a0 a1:aD) (g1:Int):Option (Int⊕(Unit⊕Bool)) :=
 (if (decide (g1 < (a0.aQ.length:Int)))=true then
  gd (0≤g1∧g1 < (a0.aQ.length:Int)) <|
  gd (0≤g1∧g1 < (a1.aQ.length:Int)) <|
  (zi5 (a0.aQ.getD g1.toNat bC.zero) (a1.aQ.getD g1.toNat bC.zero)).bind fun v2 =>
  (if (!v2)=true then
   some (.inr (.inr false))
  else
   some (.inl (i64.wrap (g1+1))))
 else
  some (.inr (.inl ())))
def zt0 (a0 a1:aD):Option Bool :=
 (zr5 a0.aF a1.aF).bind fun v1 =>
 (if ((!v1)||(!decide ((a0.aQ.length:Int)=(a1.aQ.length:Int))))=true then
  some false
 else
  (zc0 (zas2 a0 a1) 0).bind (fun|.inl z=>zbc0 z|.inr z=>some z))
@[reducible,instance] def zdS0 a0 a1 {T1:Type} (v1:T1):=mkJ (zt0 a0 a1,v1) 0 (@zbc0.eq_1) fun (j1:Unit)=>⟨[],[],0⟩
@[reducible,instance] def zdS1 (a0 a1:aD) {T:Type} (x:T):=mkL x (@zas2.eq_1 a0 a1) fun (g1:Int)=>⟨[(2,.ptr 0 0 0),(3,.ptr 1 0 0),(5,.int .i64 g1)],[(0,bx a0),(1,bx a1)],2⟩
instance zbn9 (a0 a1:aD):OkP (zt0 a0 a1) 9 [ga a0,ga a1] (fun r=>.bool r):=ok1 (zt0.eq_1 a0 a1) Tryz.f9 []
attribute [local irreducible] zt0
end
end Ab
end Go.Proofs.YtogpinppgncpmaaGreatDoor
