import Derived.Lib.Bytealg
import Derived.Test.YtamndckemppjdaaGreatDoorAb15
import Derived.Test.YtamndckemppjdaaGreatDoorSort
import Derived.Shelf.Small.Strs
namespace Go.Proofs.YtamndckemppjdaaGreatDoor
namespace Ab
open Go.Lib
theorem zbM1:∀(x y:List UInt8),compareBytes y x=-compareBytes x y
 |[],[]=>rfl
 |[],_::_=>rfl
 |_::_,[]=>rfl
 |a::x,b::y=>by
  unfold compareBytes
  by_cases h:a<b
  .have k:=UInt8.lt_asymm h;simp[h,k]
  .by_cases k:b<a
   .simp[h,k]
   .simp only[h,k,cV];exact zbM1 x y
theorem zbB9:∀{x y z:List UInt8},compareBytes x y<=0->compareBytes y z<=0->compareBytes x z<=0
 |[],_,[],_,_=>by simp[compareBytes]
 |[],_,_::_,_,_=>by simp[compareBytes]
 |_::_,[],_,h,_=>by simp[compareBytes]at h
 |_::_,_::_,[],_,h=>by simp[compareBytes]at h
 |a::x,b::y,c::z,h,k=>by
  unfold compareBytes at h k⊢;simp only[UInt8.lt_iff_toNat_lt]at h k|-
  by_cases h1:a.toNat<b.toNat
  .have:b.toNat<=c.toNat:=by
    by_cases h2:c.toNat<b.toNat
    .rw[cL (by omega),cQ h2]at k;omega
    .omega
   rw[cQ (by omega)];decide
  .by_cases h2:b.toNat<a.toNat
   .rw[cL h1,cQ h2]at h;omega
   .rw[cL h1,cL h2]at h;have e:a.toNat=b.toNat:=by omega
    rw[e]
    by_cases h3:b.toNat<c.toNat
    .rw[cQ h3];decide
    .by_cases h4:c.toNat<b.toNat
     .rw[cL h3,cQ h4]at k;omega
     .rw[cL h3,cL h4]at k⊢;exact zbB9 h k
def cmpN(a b:ByteArray):Int:=compareBytes a.data.toList b.data.toList
theorem zaq5(a b:ByteArray):cmpN b a=-cmpN a b:=zbM1 _ _
theorem zaR4{a b c:ByteArray}(h:cmpN a b<=0)(k:cmpN b c<=0):cmpN a c<=0:=zbB9 h k
open Go.Shelf Go.Sort
set_option linter.unusedVariables false
set_option linter.unusedSimpArgs false
theorem zbR1{C:Cx}{ρ:Ren}(L:Lays.n106 C.P ρ){f:FuncId}(hf:ρ.f 106=f)(a b:ByteArray):
  PFn C f [.str a,.str b] (.int .i64 (Lib.compareBytes a.data.toList b.data.toList)):=by
 subst hf;intro w W vs hG hW hl hv;obtain⟨v0,v1,rfl⟩:∃v0 v1,vs=[v0,v1]:=by
  match vs,hl with
  |[x,y],_=>exact⟨x,y,rfl⟩
 have r0:RepC w W v0 (.str a):=hv 0 v0 (.str a) rfl rfl;have r1:RepC w W v1 (.str b):=hv 1 v1 (.str b) rfl rfl;cases r0;cases r1;refine(Any.strings_Compare L a b w).mono λ e w' ⟨he,hw⟩=>?_;subst hw;exact⟨_,he,Keeps.refl _ _,RepC.int _ _⟩
theorem zbZ9:Go.Sort.SWO (ltOf cmpN) where
 irrefl x:=by have:=zaq5 x x;simp only[ltOf,eD];omega
 trans x y z h1 h2:=by
  simp only[ltOf,eV]at*;have a1:=zaq5 x z;have a2:=zaq5 x y;have h3:=zaR4 (a:=x) (b:=y) (c:=z) (by omega) (by omega)
  by_cases c:cmpN x z=0
  .have:=zaR4 (a:=y) (b:=z) (c:=x) (by omega) (by omega);omega
  .omega
 ntrans x y z h1 h2:=by simp only[ltOf,eD]at*;have a1:=zaq5 x y;have a2:=zaq5 y z;have a3:=zaq5 x z;have:=zaR4 (a:=z) (b:=y) (c:=x) (by omega) (by omega);omega
end Ab
end Go.Proofs.YtamndckemppjdaaGreatDoor
