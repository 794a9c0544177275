import Derived.Test.YtdlfhmkmnjbihaaGreatDoorHm27
namespace Go.Proofs.YtdlfhmkmnjbihaaGreatDoor
namespace Ab
open IntKind (i64 u64 u8)
set_option linter.unusedSimpArgs false
set_option linter.defProp false
set_option linter.unusedVariables false
set_option maxRecDepth 100000
set_option maxHeartbeats 1000000
noncomputable section
attribute [local irreducible] zk2 zd1 za7 zd5 zd8 za4 zo7 ze9 zl8 zi1 zc1 zk8 zh8 zd4 zk5 za2 zf9 zc9 zf7 za3 zh5 zc5 zc7 zf6 zk9 zd9 zm9 zh3 zf0 zh1 zd7 za5 ze0 zc8 zd2 zl5 ze1 zo2 zb3 zj1 zj0 ze8 zp1 zi2 zk6 zh0 zc2 zb7 zb9 zj3 zg6 zi3 zf1 zi5 ze6 zg0 zm7 zl0 zf2 za9 za8 zf3 zg7 zb4 zp2 zm8 zc3 zj4 zj8 zf4 zn5 zh2 zg2 zg3 zl6 zj6 zg4 zn8 zg8 zh9 zi6 zn9 zc6 zg5 ze4 zf5 zo0 zn3 zl4 zu5 zq3 zn1 zi0 zp7 zq1 zo8 zn0 zo9 zp0 zi7 zj7 zs6 zc4 zi8 zi9 zh6 zh7 zo4 zo5 zn7 zi4 zt4 zj9 zq9 zk4 zs7 zr8 zp9 zr2 zr3 zr4 zy9 zt6 zq0 zq4 zp8 zv3 zs8 zr1 zb5 zn6 zn2 zk7 zt5 zr9 zs9 zw9 zo1 zx2 zC6 zv5 zD9 zs0 zq5 zx0 zv8 zq6 zv9 zt7 zz4 zN4 zz5 zP8 zT1 zT2 zJ2 zz1 zx3 zC7 zA1 zB8 zB9 zH0 zz2 zz3 zC8 zV0 zr7 zI6 zF4 zJ3 zF5 zF6 zF7 zJ4 zF8 zF9 zG0 zz6 zJ5 zx4 zC0 zC9 zv4 zC1 zJ6 zL2 zL3 zO3 zJ7 zL4 zG1
attribute [local irreducible] zV1
attribute [local irreducible] zU3
attribute [local irreducible] zQ0
attribute [local irreducible] zV2
attribute [local irreducible] zH1
attribute [local irreducible] zO4
attribute [local irreducible] zU4
attribute [local irreducible] zz0
attribute [local irreducible] zw0
attribute [local irreducible] zS2
attribute [local irreducible] zD3
@[go_sem] theorem zdF2{K:Type}(e:K->List A)(k:IntKind)(l:List (K×Int)):pureEs (l.map (mG e (eI k)))=true:=by
  induction l with
  |nil=>rfl
  |cons a l ih=>simpa [pureEs,zj2,A.pure1,eI,mG]using ih
@[go_sem] theorem zdG8{K:Type}(e:K->List A)(i:IntKind)(k:K)(v:Int)(l:List (K×Int)):mins (.agg (e k)) [.int i v] (l.map (mG e (eI i)))=(zbj1 e k v l).map (mG e (eI i)):=zdu3 e (eI i) k v l
@[go_sem] theorem zdA6(ag:Bool)(k:IntKind)(z:Int)(o:Option Int):mval ag [.int k z] (o.map (eI k))=zX9 ag [.int k (o.getD z)]:=zcY1 ag (eI k) z o
@[go_sem] theorem zeb0(a b:key):keyL (key.enc a) (key.enc b)=true:=rfl
@[go_sem] theorem zeb1(a b:key):zC4 (.agg (key.enc a)) (.agg (key.enc b))=true:=rfl
def zN7(j1:Unit):Option Bool:=
 (zw0).bind λ v4=>
 some v4
@[go_sem] def zdz4(j1:Unit):St:=⟨[],[],0⟩
def zN8(v6:aJ×bB)(v7:aX×(List aW)×(List aS)×Int)(j2:(List (key×Int)))(j3:Unit):Option ((bB×aX×(List (key×Int)))⊕(Unit⊕Bool)):=
 (if((!decide (v6.1.kind=5))&&decide ((v7.2.1.length:Int)=0))=true then
  some (.inr (.inr false))
 else
  some (.inl (v6.2,v7.1,j2)))
@[go_sem] def zdz5(v2:(List aD)×bB)(v6:aJ×bB)(v7:aX×(List aW)×(List aS)×Int)(j2:(List (key×Int)))(j3:Unit):St:=⟨[(3,.ptr 0 0 0),(4,la v2.1),(5,.ptr 1 0 0),(7,.mp 2),(8,.ptr 3 0 0),(10,la v7.2.1)],[(0,bx v6.2),(1,bx v7.1),(2,⟨false,0,[A.agg (key.enc key.zero),A.bool false],j2.map (mG key.enc (eI .i64))⟩),(3,bx v6.1)],4⟩
def zG5(v6:aJ×bB)(v7:aX×(List aW)×(List aS)×Int)(j2:(List (key×Int)))(g2:Int):Option (Int⊕(Unit⊕Bool)):=
 (if (decide (g2<(v7.2.1.length:Int)))=true then
  gd (0<=g2/\g2<(v7.2.1.length:Int))<|
  (if(!decide ((v7.2.1.getD g2.toNat aW.zero).to=(((v7.2.1.getD g2.toNat aW.zero).message).aI).site))=true then
   some (.inr (.inr false))
  else
   (if (decide (g2=0)&&(!decide (v6.1.kind=5)))=true then
    (if((((!decide (((v7.2.1.getD g2.toNat aW.zero).message).kind=3))||(!decide (((v7.2.1.getD g2.toNat aW.zero).message).aI=v6.1.aI)))||(!decide (((v7.2.1.getD g2.toNat aW.zero).message).gen=v6.1.gen)))||(!(((((v7.2.1.getD g2.toNat aW.zero).message).aY).name).toList==v6.1.aY.name.toList)))=true then
     some (.inr (.inr false))
    else
     (zf6 v7.1.aG v6.1.aY.name).bind λ v8=>
     (if(decide (v8<0))=true then
      some (.inr (.inr false))
     else
      gd (0<=v8/\v8<(v7.1.aG.length:Int))<|
      (zg7 (v7.1.aG.getD v8.toNat aA.zero) v6.1.aI).bind λ v9=>
      (if(!decide (v9=(((v7.2.1.getD g2.toNat aW.zero).message).aY).aK))=true then
       some (.inr (.inr false))
      else
       (zh9 (v7.1.aG.getD v8.toNat aA.zero) v6.1.aI).bind λ v10=>
       (if((decide (v6.1.kind=2)&&((!((v7.2.1.getD g2.toNat aW.zero).message).done)||v10.2))||(decide (v6.1.kind=1)&&decide (((v7.2.1.getD g2.toNat aW.zero).message).done=v10.2)))=true then
        some (.inr (.inr false))
       else
        some (.inl (i64.wrap (g2+1)))))))
   else
    (if((!decide (((v7.2.1.getD g2.toNat aW.zero).message).kind=4))||(!decide (((v7.2.1.getD g2.toNat aW.zero).message).gen=(zbB6 key.enc (⟨((v7.2.1.getD g2.toNat aW.zero).message).aI,(((v7.2.1.getD g2.toNat aW.zero).message).aY).name⟩:key) j2).getD 0)))=true then
     some (.inr (.inr false))
    else
     some (.inl (i64.wrap (g2+1))))))
 else
  some (.inr (.inl ())))
@[go_sem] def zdz6(v2:(List aD)×bB)(v6:aJ×bB)(v7:aX×(List aW)×(List aS)×Int)(j2:(List (key×Int)))(g2:Int):St:=⟨[(3,.ptr 0 0 0),(4,la v2.1),(5,.ptr 1 0 0),(7,.mp 2),(8,.ptr 3 0 0),(10,la v7.2.1),(63,la v7.2.1),(64,.int .i64 (v7.2.1.length:Int)),(65,.int .i64 g2)],[(0,bx v6.2),(1,bx v7.1),(2,⟨false,0,[A.agg (key.enc key.zero),A.bool false],j2.map (mG key.enc (eI .i64))⟩),(3,bx v6.1)],4⟩
def zA3(v6:aJ×bB)(v7:aX×(List aW)×(List aS)×Int)(j2:(List (key×Int))):Option ((bB×aX×(List (key×Int)))⊕(Unit⊕Bool)):=
 (zc0 (zG5 v6 v7 j2) 0).bind (λ|.inl z=>zN8 v6 v7 j2 z|.inr z=>some (.inr (.inr z)))
@[go_sem] def zdz7(v2:(List aD)×bB)(g1:bB×aX×(List (key×Int)))(v6:aJ×bB)(v7:aX×(List aW)×(List aS)×Int)(j2:(List (key×Int))):St:=⟨[(3,.ptr 0 0 0),(4,la v2.1),(5,.ptr 1 0 0),(7,.mp 2),(8,.ptr 3 0 0),(9,.ptr 4 0 0),(10,la v7.2.1)],[(0,bx v6.2),(1,bx g1.2.1),(2,⟨false,0,[A.agg (key.enc key.zero),A.bool false],j2.map (mG key.enc (eI .i64))⟩),(3,bx v6.1),(4,bx v7.1)],5⟩
def zN9(v2:(List aD)×bB)(g1:bB×aX×(List (key×Int))):Option ((bB×aX×(List (key×Int)))⊕(Unit⊕Bool)):=
 (zc1 g1.1).bind λ v5=>
 (if v5.1=true then
  (zj9 v2.1 v5.2).bind λ v6=>
  (zz0 g1.2.1 v6.1).bind λ v7=>
  (if(!decide (v7.2.2.2=0))=true then
   some (.inl (v6.2,g1.2.1,g1.2.2))
  else
   (if(decide (v6.1.kind=1))=true then
    zA3 v6 v7 (zbj1 key.enc (⟨v6.1.aI,v6.1.aY.name⟩:key) v6.1.gen g1.2.2)
   else
    zA3 v6 v7 g1.2.2))
 else
  some (.inr (.inl ())))
@[go_sem] def zdz8(v2:(List aD)×bB)(g1:bB×aX×(List (key×Int))):St:=⟨[(3,.ptr 0 0 0),(4,la v2.1),(5,.ptr 1 0 0),(7,.mp 2)],[(0,bx g1.1),(1,bx g1.2.1),(2,⟨false,0,[A.agg (key.enc key.zero),A.bool false],g1.2.2.map (mG key.enc (eI .i64))⟩)],3⟩
def zG9(a0:List Int):Option Bool:=
 (if(!(zF0 a0))=true then
  (zw0).bind λ v1=>
  some v1
 else
  (zp8 ({bB.zero with l:=a0})).bind λ v2=>
  (zP8 v2.1 0).bind λ v3=>
  (zc0 (zN9 v2) (v2.2,v3.1,[])).bind (λ|.inl z=>zN7 z|.inr z=>some z))
theorem zbd5(a0:List Int)(r:Bool)(h:zG9 a0=some r):PFn C 6 [.sl (a0.map (eI .i64))] (.bool r):=by
 refine zW0 Tryz.f6 [] λ E hG hN hK=>?_;unfold zG9 at h;refine za0 (za1 hG ?_);refine za0 (za0 (za1 hG ?_));refine zm4 (λ hg=>(zbj6 a0).ok) ?_;refine ze5 rfl hG h (λ _ h=>?_) (λ _ h=>?_)
 · refine za0 (za1 hG ?_)
   obtain⟨v1,hv1,h⟩:=zb8 h;refine zm4 (λ hg=>(zap8).ok _ hv1) ?_;refine zm2 ?_;exact zt1 h
 refine ze2 ?_;refine za0 (za1 hG ?_);refine za0 (za1 hG ?_);obtain⟨v2,hv2,h⟩:=zb8 h;refine zp6 [(0,0)] [] [0] ((zaN3 ({bB.zero with l:=a0})).ok _ hv2) rfl rfl ?_;refine za0 (za1 hG ?_);obtain⟨v3,hv3,h⟩:=zb8 h;refine zm4 (λ hg=>(zbB9 v2.1 0).ok _ hv3) ?_;refine za0 (za1 hG ?_);refine za0 ?_;refine zy5 zdz4 (λ v=>zN7 v=some r) ?_ ?_
 · intro j1 h
   unfold zN7 at h;refine g_st ?_;refine za0 (za1 hG ?_);obtain⟨v4,hv4,h⟩:=zb8 h;refine zm4 (λ hg=>(zap8).ok _ hv4) ?_;refine zm2 ?_;exact zt1 h
 refine zal7 (zdz8 v2) hK [(0,0),(1,1),(2,2)] h (λ x_l1 h g1 y_l1 h_l1 hx_l1=>?_);unfold zN9 at h_l1;refine g_st ?_;refine za0 (za0 (za1 hG ?_));obtain⟨v5,hv5,h_l1⟩:=zb8 h_l1;refine zp6 [(0,0)] [] [0] ((zax0 g1.1).ok _ hv5) rfl rfl ?_;refine ze5 rfl hG h_l1 (λ _ h_l1=>?_) (λ _ h_l1=>?_)
 · refine ze2 ?_
   refine zw6 (za0 (za1 hG ?_));obtain⟨v6,hv6,h_l1⟩:=zb8 h_l1;refine zp6 [(0,0)] [] [0] ((zaA2 v2.1 v5.2).ok _ hv6) rfl rfl ?_;refine za0 (za1 hG ?_);obtain⟨v7,hv7,h_l1⟩:=zb8 h_l1;refine zm4 (λ hg=>(zbq8 g1.2.1 v6.1).ok _ hv7) ?_;refine za0 (za0 (za1 hG ?_));refine ze5 rfl hG h_l1 (λ _ h_l1=>?_) (λ _ h_l1=>?_)
   · refine zA6 ?_
     exact zM4 hK [(0,0),(1,1),(2,2)] h_l1
   refine ze2 ?_;refine za0 (za0 (za1 hG ?_));refine zak2 (zdz7 v2 g1 v6 v7) (λ v=>zA3 v6 v7 v=some y_l1) rfl hG h_l1 ?_ (λ _ h_l1=>?_) (λ _ h_l1=>?_)
   · intro j2 h_l1
     unfold zA3 at h_l1;refine g_st ?_;refine za0 (za1 hG ?_);refine za0 (za0 (za1 hG ?_));refine zy5 (zdz5 v2 v6 v7 j2) (λ v=>zN8 v6 v7 j2 v=some y_l1) ?_ ?_
     · intro j3 h_l1
       unfold zN8 at h_l1;refine g_st ?_;refine za0 (za1 hG ?_);refine ze5 rfl hG h_l1 (λ _ h_l1=>?_) (λ _ h_l1=>?_)
       · refine za0 (za1 hG ?_)
         refine zm2 ?_;cases h_l1;cases hx_l1 _ rfl;exact zt1 h
       refine ze2 ?_;exact zM4 hK [(0,0),(1,1),(2,2)] h_l1
     refine zal7 (zdz6 v2 v6 v7 j2) hK [(0,0),(1,1),(2,2),(3,3)] h_l1 (λ x_l2 h_l1 g2 y_l2 h_l2 hx_l2=>?_);unfold zG5 at h_l2;refine g_st ?_;refine za0 (za1 hG ?_);refine za0 ?_;refine ze5 rfl hG h_l2 (λ _ h_l2=>?_) (λ _ h_l2=>?_)
     · refine ze2 ?_
       refine za0 (zw6 (za0 ?_));obtain⟨hb2,h_l2⟩:=ze3 h_l2;refine za1 hG ?_;refine za0 (za1 hG ?_);refine za0 (za0 (za1 hG ?_));refine ze5 rfl hG h_l2 (λ _ h_l2=>?_) (λ _ h_l2=>?_)
       · refine za0 (za1 hG ?_)
         refine zm2 ?_;obtain rfl:=cR h_l2;have hx:=hx_l2 _ rfl;subst hx
         try dsimp only at h_l1
         cases h_l1;cases hx_l1 _ rfl;exact zt1 h
       refine ze2 ?_;refine za0 (za0 (za1 hG ?_));refine ze5 rfl hG h_l2 (λ _ h_l2=>?_) (λ _ h_l2=>?_)
       · refine za0 (za0 (za1 hG ?_))
         refine ze5 rfl hG h_l2 (λ _ h_l2=>?_) (λ _ h_l2=>?_)
         · refine za0 (za1 hG ?_)
           refine zm2 ?_;obtain rfl:=cR h_l2;have hx:=hx_l2 _ rfl;subst hx
           try dsimp only at h_l1
           cases h_l1;cases hx_l1 _ rfl;exact zt1 h
         refine ze2 ?_;refine za0 (za1 hG ?_);obtain⟨v8,hv8,h_l2⟩:=zb8 h_l2;refine zm4 (λ hg=>(zbj5 v7.1.aG v6.1.aY.name).ok _ hv8) ?_;refine za0 (za0 (za1 hG ?_));refine ze5 rfl hG h_l2 (λ _ h_l2=>?_) (λ _ h_l2=>?_)
         · refine za0 (za1 hG ?_)
           refine zm2 ?_;obtain rfl:=cR h_l2;have hx:=hx_l2 _ rfl;subst hx
           try dsimp only at h_l1
           cases h_l1;cases hx_l1 _ rfl;exact zt1 h
         refine ze2 ?_;refine za0 ?_;obtain⟨hb1,h_l2⟩:=ze3 h_l2;refine za1 hG ?_;refine za0 (za0 (zbl3 zC5 hG ?_));obtain⟨v9,hv9,h_l2⟩:=zb8 h_l2;refine zaf4 (λ hg=>(zaj3 (v7.1.aG.getD v8.toNat aA.zero) v6.1.aI).ok _ hv9) ?_;refine ze5 rfl hG h_l2 (λ _ h_l2=>?_) (λ _ h_l2=>?_)
         · refine za0 (za1 hG ?_)
           refine zm2 ?_;obtain rfl:=cR h_l2;have hx:=hx_l2 _ rfl;subst hx
           try dsimp only at h_l1
           cases h_l1;cases hx_l1 _ rfl;exact zt1 h
         refine ze2 ?_;refine za0 (za1 hG ?_);obtain⟨v10,hv10,h_l2⟩:=zb8 h_l2;refine zm4 (λ hg=>(zaV4 (v7.1.aG.getD v8.toNat aA.zero) v6.1.aI).ok _ hv10) ?_;refine za0 (za0 (za1 hG ?_));refine ze5 rfl hG h_l2 (λ _ h_l2=>?_) (λ _ h_l2=>?_)
         · refine za0 (za1 hG ?_)
           refine zm2 ?_;obtain rfl:=cR h_l2;have hx:=hx_l2 _ rfl;subst hx
           try dsimp only at h_l1
           cases h_l1;cases hx_l1 _ rfl;exact zt1 h
         refine ze2 ?_;refine zA6 ?_;refine za1 hG ?_;exact zM4 hK [(0,0),(1,1),(2,2),(3,3)] h_l2
       refine ze2 ?_;refine za0 (zbl3 zC5 hG ?_);refine ze5 rfl hG h_l2 (λ _ h_l2=>?_) (λ _ h_l2=>?_)
       · refine za0 (za1 hG ?_)
         refine zm2 ?_;obtain rfl:=cR h_l2;have hx:=hx_l2 _ rfl;subst hx
         try dsimp only at h_l1
         cases h_l1;cases hx_l1 _ rfl;exact zt1 h
       refine ze2 ?_;refine za1 hG ?_;exact zM4 hK [(0,0),(1,1),(2,2),(3,3)] h_l2
     refine zA6 ?_;obtain rfl:=cR h_l2;have hx:=hx_l2 _ rfl;subst hx
     try dsimp only at h_l1
     exact zs2 hK [(0,0),(1,1),(2,2),(3,3)] () (by exact h_l1)
   · refine za1 hG ?_
     exact zs2 hK [(0,0),(1,1),(2,2),(3,3),(4,4)] (zbj1 key.enc (⟨v6.1.aI,v6.1.aY.name⟩:key) v6.1.gen g1.2.2) (by exact h_l1)
   refine ze2 ?_;exact zs2 hK [(0,0),(1,1),(2,2),(3,3),(4,4)] g1.2.2 (by exact h_l1)
 refine zA6 ?_;cases h_l1;cases hx_l1 _ rfl;exact zs2 hK [] () (by exact h)
instance zaX0(a0:List Int):OkP (zG9 a0) 6 [.sl (a0.map (eI .i64))] (λ r=>.bool r):=⟨zbd5 a0⟩
attribute [local irreducible] zG9
end
end Ab
end Go.Proofs.YtdlfhmkmnjbihaaGreatDoor
