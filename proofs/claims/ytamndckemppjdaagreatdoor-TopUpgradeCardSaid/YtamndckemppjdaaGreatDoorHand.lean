import Derived.Test.YtamndckemppjdaaGreatDoorAb15
import Derived.Shelf.Spec.SlicesGrow
namespace Go.Proofs.YtamndckemppjdaaGreatDoor
namespace Ab
open Go.Shelf
set_option linter.unusedVariables false
set_option linter.unusedSimpArgs false
theorem zcR4(r:Row):(⟨[],[(0,r)],1⟩:St).m=setM (⟨[],[],0⟩:St).m [(0,.row r)]:=by
 funext x
 by_cases h:x=0
 .subst h;simp[St.m,setM,look]
 .simp[St.m,setM,look,h,Nat.one_le_iff_ne_zero]
theorem zbZ5{w:World}{W:Nat->Prop}{μ:Nat->Loc}{v:Value}(h:RepV w W μ v (.full [])):∃a,v=.slice a 0 0:=by
 have h':RepC w W v (.full []):=h;cases h' with
 |full a n es h1=>
  cases h1 with
  |sl0=>exact⟨_,rfl⟩
  |sl b off cap sz es us hb hlt hn=>simp at hn
def zbZ6(P:Program)(t:TypeId)(sz:Nat):Bool:=
 match P.info? t with
 |some i=>i.size==sz&&decide (0<sz)&&(match i.zero with|some z=>z.cells.size==sz|none=>false)&&decide (4294967296*i.bytes<=140737488355328)
 |none=>false
theorem zbZ7{C:Cx}{ρ:Ren}(L:Lays8.n4 C.P ρ){sz:Nat}(hok:zbZ6 C.P (ρ.t 25) sz=true)
  {f:FuncId} (hf:ρ.f 4=f) (zz:List A) (a0:Int) (h0:0<=a0) (h1:a0<=4294967296):MFn C f [.full [],.int .i64 a0] [] 0 (.own 0 0 0) [(0,⟨false,sz,zz,[]⟩)] 1:=by
 subst hf;obtain⟨i0,z,hi0,hz0,hsz,hpos,hzs,hby⟩:∃i0 z,C.P.info? (ρ.t 25)=some i0/\i0.zero=some z/\i0.size=sz/\0<sz/\z.cells.size=sz/\4294967296*i0.bytes<=140737488355328:=by
  unfold zbZ6 at hok;split at hok
  .rename_i i hi;split at hok
   .rename_i z hz;simp only[cF,cY,eV]at hok;obtain⟨⟨⟨h1,h2⟩,h3⟩,h4⟩:=hok;exact⟨i,z,hi,hz,h1,h2,h3,h4⟩
   .simp at hok
  .simp at hok
 subst hsz;intro w W μ vs hG hW hl hv hm hi;obtain⟨v0,v1,rfl⟩:∃v0 v1,vs=[v0,v1]:=by
  match vs,hl with
  |[a,b],_=>exact⟨a,b,rfl⟩
 obtain⟨ad,rfl⟩:=zbZ5 (hv 0 v0 (.full []) rfl rfl);have r1:RepC w W v1 (.int .i64 a0):=hv 1 v1 (.int .i64 a0) rfl rfl;cases r1;obtain⟨n,rfl⟩:∃n:Nat,a0=n:=⟨a0.toNat,by omega⟩;have hid:(⟨[],[],0⟩:St).m 0=.fresh:=by simp[St.m]
 rw[zcR4]
 by_cases hn:n=0
 .subst hn;refine(Any8.slices_Grow_room L ad 0 0 0 w (cU _) (by omega) (by omega) (by omega)).mono λ e w' ⟨he,hw⟩=>?_;subst hw;exact⟨_,W,_,he,Step.newEmpty hm hi hW hid hpos rfl (Keeps.refl _ _),zay2 (by simp) 0⟩
 .refine(Any8.slices_Grow_grow L i0 z hi0 hz0 hpos ad 0 0 n [] w (cU _) (by omega) ?_ (by omega) (by simp) (λ _=>rfl) (λ a _ j v h=>by simp at h)).mono λ e w' ⟨he,hw⟩=>?_
  .simp only[dJ];exact fZ (dC _ (by omega)) hby
  have hc1:grownCap w (0+n) 0 (ρ.t 25)<=maxLen:=grownCap_le_maxLen w (0+n) 0 (ρ.t 25) (by simp only[maxLen];omega);generalize hc:grownCap w (0+n) 0 (ρ.t 25)=c at*;have hc0:0+n<=c:=by rw[<-hc];exact grownCap_ge _ _ _ _
  obtain⟨R,hR⟩:∃R:List Value,(([]:List Value).toArray++Builtin.zeroCells z.cells (0+n-0)++Builtin.zeroCells z.cells (c-(0+n)))=R.toArray:=⟨_,Array.toArray_toList.symm⟩;have hRl:R.length=c*i0.size:=by
   have:(R.toArray).size=c*i0.size:=by rw[<-hR];simp only[Array.size_append,size_zeroCells,hzs,dJ,fL,List.length_nil];rw[<-dK];congr 1;omega
   simpa using this
  rw[hR]at hw;subst hw;have hst:=Step.new (w':=w.drew.alloc (.cells (([]:List Value)++R).toArray (ρ.t 25))) hm hi hW hid (r:=⟨false,i0.size,zz,[]⟩) (us:=[]) (rest:=R) (e:=ρ.t 25) hpos (zQ5 _ _)
   ⟨by simp,λ i c h=>by simp at h,λ i c j a h=>by simp at h⟩ (by simpa using heap_alloc_new w.drew _)
  refine⟨_,_,_,he,hst,?_⟩;have:=zS2 (w:=w.drew.alloc (.cells (([]:List Value)++R).toArray (ρ.t 25))) (W:=λ b=>W b\/b=w.heap.size)
   (μ:=λ x=>if x=0 then Loc.at_ ⟨w.heap.size,i0.size,([]:List Value).length+R.length⟩else μ x) (x:=0) (lo:=0) (n:=0) (cap:=c)
   (k:=⟨w.heap.size,i0.size,([]:List Value).length+R.length⟩) (by simp) (by simp[hRl]) (eQ _) (by omega)
  simpa using this
end Ab
end Go.Proofs.YtamndckemppjdaaGreatDoor
