import Derived.Test.YtcggeefhhegeoaaGreatDoorAb17
import Derived.Shelf.SlSortCmp.NoneTotal
namespace Go.Proofs.YtcggeefhhegeoaaGreatDoor
namespace Ab
open Go.Shelf Go.Sort
set_option linter.unusedVariables false
set_option linter.unusedSimpArgs false
def valA:A→Value
 | .bool b=>.bool b
 | .int k n=>.int k n
 | .str s=>.string s
 | _=>undef
theorem zce6 {w:World} {W:Nat→Prop} {a:A} (h:a.scal1=true):RepC w W (valA a) a:=by
 cases a <;> simp [A.scal1] at h
 ·exact .bool _
 ·exact .int _ _
 ·exact .str _
theorem zce7 {w:World} {W:Nat→Prop} {μ:Nat→Loc} {v:Value} {a:A} (h:a.scal1=true) (hr:RepK w W μ v a):v=valA a:=by
 cases a <;> simp [A.scal1] at h
 all_goals
  have hr':RepC w W v _:=hr
  cases hr'
  rfl
theorem zbh2:∀ {cs:List A},zv2 cs=true→∀ c ∈ cs,c.scal1=true
 | [],_,_,h=>by cases h
 | b :: r,hs,c,h=>by
  simp only [zv2,bX] at hs
  rcases cJ.1 h with rfl|h
  ·exact hs.1
  ·exact zbh2 hs.2 c h
theorem zde2 {w w':World} (h:Keeps (fun _=>False) w w'):∃ q os,w'=grow (w.drewN q) os:=by
 refine ⟨w'.drawn - w.drawn,w'.heap.extract w.heap.size w'.heap.size,?_⟩
 obtain ⟨h1,h2,h3,h4,h5,h6⟩:=h
 cases w with
 | mk hp tp dr os ou =>
  cases w' with
  | mk hp' tp' dr' os' ou' =>
   simp only at h1 h2 h3 h4 h5 h6
   subst h1; subst h2; subst h3
   simp only [grow,World.drewN,World.mk.injEq,gH,jW]
   refine ⟨?_,by omega⟩
   apply Array.ext_getElem?
   intro i
   rw [Array.getElem?_append]
   split
   ·rename_i hlt; exact h6 i hlt (fun h=>h)
   ·rename_i hge
    simp only [Array.getElem?_extract]
    split
    ·congr 1; omega
    ·exact Array.getElem?_eq_none (by omega)
theorem zbd5 {E:Type} [Inhabited E] (enc:E→List Value) (k:Nat) (w:World) (b m:Nat) (d:Array E) (os:Array Obj):Keeps (fun x=>x=b) w (sortWorldK enc k w b 0 m d os):=by
 refine ⟨rfl,rfl,rfl,?_,?_,fun x hx hn=>?_⟩
 ·simp [sortWorldK,grow,putRowK,putRow,mapBlock,Go.Sort.ahead]
 ·simp only [sortWorldK,grow,putRowK,putRow,mapBlock,Go.Sort.heap_ahead,Array.size_append,Array.size_modify]; omega
 ·simp only [sortWorldK,grow,putRowK,putRow,mapBlock,Go.Sort.heap_ahead]
  rw [gM (by simpa using hx),Array.getElem?_modify,bW (Ne.symm hn)]
theorem zcl0 (us F rest:List Value) (h:us.length=F.length):putCells id 0 F.toArray (us++rest).toArray=(F++rest).toArray:=by
 apply Array.ext_getElem?
 intro i
 simp only [putCells,Array.getElem?_mapIdx,fA,gB,gH,dU,hI,Nat.sub_zero,id]
 by_cases hi:i < F.length
 ·rw [dM (by omega),dM hi]
  have:i < us.length:=by omega
  simp [hi,this]
 ·rw [fE (by omega),fE (by omega),h]
  simp [hi]
theorem zbR3 {E:Type} [Inhabited E] (enc:E→List Value) (k:Nat) (w:World) (b m:Nat) (d:Array E) (os:Array Obj) {us rest:List Value} {e:TypeId} (hb:w.heap[b]? = some (.cells (us++rest).toArray e (0,0)))
  (hu:us.length=d.size * k):(sortWorldK enc k w b 0 m d os).heap[b]? = some (.cells ((flatK enc k d).toList++rest).toArray e (0,0)):=by
 have hlt:b < w.heap.size:=(dK.1 hb).1
 simp only [sortWorldK,grow,putRowK,putRow,mapBlock,Go.Sort.heap_ahead]
 rw [gM (by simpa using hlt),Array.getElem?_modify,bY rfl,hb]
 simp only [Option.map_some,onCells]
 rw [← Array.toArray_toList (xs:=flatK enc k d),zcl0 us _ rest (by simpa using hu)]
theorem zbH3 {w:World} {W:Nat→Prop} {μ:Nat→Loc} {E:Type} [Inhabited E] (enc:E→List A) (k:Nat) (hk:∀ x,(enc x).length=k) (hpos:0 < k) (hsc:∀ x,zv2 (enc x)=true) (l:List E) :
  Flat (RepK w W μ) k (flatK (fun x=>(enc x).map valA) k l.toArray).toList (l.map enc):=by
 refine ⟨by simp,fun i c h=>?_,fun i c j a hc ha=>?_⟩
 ·rw [cO] at h
  obtain ⟨x,_,rfl⟩:=cI.1 h
  exact hk x
 ·rw [cO] at hc
  obtain ⟨x,hx,rfl⟩:=cI.1 hc
  obtain ⟨hi,hxi⟩:=cH.1 hx
  have hj:j < k:=by rw [← hk x]; exact (cH.1 ha).1
  have hlt:i * k+j < l.length * k:=by
   have:(i+1) * k≤l.length * k:=dE _ hi
   rw [dO] at this; omega
  refine ⟨valA a,?_,zt7 (zce6 (zbh2 (hsc x) a (cP ha)))⟩
  have hg:=get_flatK (fun x=>(enc x).map valA) k l.toArray (i * k+j) (by simpa using hlt)
  have hd:(i * k+j) / k=i:=by rw [iI,Nat.mul_add_div hpos,Nat.div_eq_of_lt hj,Nat.add_zero]
  have hm:(i * k+j) % k=j:=by rw [iI,Nat.mul_add_mod,Nat.mod_eq_of_lt hj]
  rw [hd,hm] at hg
  have hsz:i * k+j < (flatK (fun x=>(enc x).map valA) k l.toArray).size:=by simpa using hlt
  rw [getElem!_pos (flatK (fun x=>(enc x).map valA) k l.toArray) (i * k+j) hsz] at hg
  rw [iM,jA hsz,hg]
  have hxl:l.toArray[i]! = x:=by simp [hi,hxi]
  rw [hxl]
  have:((enc x).map valA)[j]? = some (valA a):=by rw [cO,ha]; rfl
  simp only [List.getElem!_eq_getElem?_getD,this,Option.getD_some]
theorem zds9 {w:World} {W:Nat→Prop} {μ:Nat→Loc} {E:Type} [Inhabited E] (enc:E→List A) (k:Nat) (hk:∀ x,(enc x).length=k) (hpos:0 < k) (hsc:∀ x,zv2 (enc x)=true) (l:List E) {us:List Value}
  (h:Flat (RepK w W μ) k us (l.map enc)):us=(flatK (fun x=>(enc x).map valA) k l.toArray).toList:=by
 have h2:=zbH3 (w:=w) (W:=W) (μ:=μ) enc k hk hpos hsc l
 apply List.ext_getElem?
 intro t
 by_cases ht:t < l.length * k
 ·have hi:t / k < l.length:=(gO hpos).2 ht
  have hc:(l.map enc)[t / k]? = some (enc l[t / k]):=by rw [cO,cC hi]; rfl
  have hj:t % k < (enc l[t / k]).length:=by rw [hk]; exact jL _ hpos
  have ha:=cC hj
  obtain ⟨u,hu,hr⟩:=h.ha _ _ _ _ hc ha
  obtain ⟨u2,hu2,hr2⟩:=h2.ha _ _ _ _ hc ha
  rw [iO] at hu hu2
  have hs:=zbh2 (hsc l[t / k]) _ (cP ha)
  rw [hu,hu2,zce7 hs hr,zce7 hs hr2]
 ·rw [fU (by rw [h.hl]; simpa using ht),fU (by rw [h2.hl]; simpa using ht)]
theorem zdF8 (r r':Row):(⟨[],[(0,r')],1⟩:St).m=setM (⟨[],[(0,r)],1⟩:St).m [(0,.row r')]:=by
 funext x
 by_cases h:x=0
 ·subst h; simp [St.m,setM,look]
 ·simp [St.m,setM,look,h,Nat.one_le_iff_ne_zero]
theorem zde3 {C:Cx} {ρ:Ren} {E:Type} [Inhabited E] (L:SlLaysF0.n6 C.P ρ) (enc:E→List A) (k:Nat) (hk:∀ x,(enc x).length=k) (hpos:0 < k) (hsc:∀ x,zv2 (enc x)=true)
  (aE:∀ w,(isAgg (ρ.t 24)).run C.P w=.ok true w) (zE:∀ w,(Go.sizeOf (ρ.t 24)).run C.P w=.ok k w) (cf:E→E→Int) (hO:SWO (ltOf cf)) (hT:∀ x y,(ltOf cf) x y=false→(ltOf cf) y x=false→x=y) (g:Nat)
  (hcmp:∀ x y,PFn C g [.agg (enc x),.agg (enc y)] (.int .i64 (cf x y))) (eg:∀ args w,(callFunc g args).run C.P w=.ok (.enter g args) w) {f:FuncId} (hf:ρ.f 6=f) (zz:List A) (l:List E) (hl:l.length≤4294967296) :
  MFn C f [.own 0 0 l.length,.clo g []] [(0,⟨false,k,zz,l.map enc⟩)] 1 (.tup []) [(0,⟨false,k,zz,(l.mergeSort fun x y=>!(ltOf cf) y x).map enc⟩)] 1:=by
 subst hf
 intro w W μ vs hG hW hvl hv hm hi
 obtain ⟨v0,v1,rfl⟩:∃ v0 v1,vs=[v0,v1]:=by
  match vs,hvl with
  | [a,b],_=>exact ⟨a,b,rfl⟩
 have r0:RepP w W μ v0 (.own 0 0 l.length):=hv 0 v0 (.own 0 0 l.length) rfl rfl
 have r1:RepK w W μ v1 (.clo g []):=hv 1 v1 (.clo g []) rfl rfl
 obtain ⟨cs,rfl,hcs,_⟩:=r1
 have hcs0:cs=[]:=iF.1 (by simpa using hcs)
 subst hcs0
 have hm0:(⟨[],[(0,⟨false,k,zz,l.map enc⟩)],1⟩:St).m 0=.row ⟨false,k,zz,l.map enc⟩:=by simp [St.m,look]
 have none:∀ p cap,v0=.slice p 0 cap→l.length=0→Calls C.P (ρ.f 6) [v0,Value.func (.func g) #[] [].toArray].toArray w fun e w'=>∃ v W' μ',e=.returned v∧Step (⟨[],[(0,⟨false,k,zz,l.map enc⟩)],1⟩:St).m (⟨[],[(0,⟨false,k,zz,(l.mergeSort fun x y=>!(ltOf cf) y x).map enc⟩)],1⟩:St).m w w' W W' μ μ'∧Rep w' W' μ' v (.tup []):=by
  intro p cap hp h0
  subst hp
  have hl0:l=[]:=iF.1 h0
  subst hl0
  refine (AnyF.slices_SortFunc_none L p cap _ w).mono fun e w' ⟨he,hw⟩=>?_
  subst hw
  exact ⟨_,W,μ,he,by simpa using Step.quiet (Keeps.refl _ _) hm hi hW,⟨[],rfl,rfl,fun i u a h1 h2=>by simp at h1⟩⟩
 have hmm:=hm 0
 rw [hm0] at hmm
 obtain ⟨hone,r0⟩:=r0
 rcases hmm with ⟨h1,h2,h3⟩|⟨kb,h1,h2⟩
 ·rw [h1] at r0
  obtain ⟨hn,p,hp⟩:=r0
  exact none p 0 hp hn
 rw [h1] at r0
 rcases r0 with ⟨hn,p,hp⟩|⟨cap,hp,hcap,hle,hmax⟩
 ·exact none p 0 hp hn
 by_cases hn:l.length=0
 ·rw [hn] at hp
  exact none _ cap hp hn
 subst hp
 obtain ⟨hWb,hsz,_,us,rest,e0,hheap,htot,hflat⟩:=h2
 simp only at hWb hsz hflat
 have hus:=zds9 enc k hk hpos hsc l hflat
 have hblk:kb.b < w.heap.size:=(dK.1 hheap).1
 have hul:us.length=l.length * k:=by rw [hus]; simp
 have hH:HoldsK (fun x=>(enc x).map valA) k w kb.b 0 l.toArray:=by
  intro j hj
  have hj':j < l.length * k:=by simpa using hj
  constructor
  ·simp only [World.cell?,hheap,dU,id]
   rw [hus]
   simp only [Option.isSome_none,bV,cD,fA]
   rw [dM (by simpa using hj'),iM,jA hj,getElem!_pos _ j hj]
  ·simp only [World.frozen?,hheap]
   simp
 have hC:CmpLays C.P g #[] (fun x=>(enc x).map valA) k cf kb.b 0 l.toArray.size w:=by
  intro m os dk hdk x y
  have hkp:=zbd5 (fun x=>(enc x).map valA) k w kb.b m dk os
  have hG2:zbf7 (sortWorldK (fun x=>(enc x).map valA) k w kb.b 0 m dk os) W C.G:=fun q cs hq=>by
   obtain ⟨h1,h2,h3⟩:=hG q cs hq
   have hne:¬ q=kb.b:=fun h=>h1 (h ▸ hWb trivial)
   refine ⟨h1,dZ h2 hkp.size,fun j a hj=>?_⟩
   obtain ⟨u,hu,hr⟩:=h3 j a hj
   exact ⟨u,(World.cell?_of_block (w:=w) (hkp.block q h2 hne)).trans hu,hr.keep hkp (fun b _ h1 h2=>h1 (h2 ▸ hWb trivial)) (fun _ _ h=>h)⟩
  have agg:∀ x,RepV (sortWorldK (fun x=>(enc x).map valA) k w kb.b 0 m dk os) W zax5 (.agg ((enc x).map valA).toArray) (.agg (enc x)):=fun x =>
   ⟨_,rfl,by simp,fun i u a h1 h2=>by
    rw [cO,h2] at h1
    cases h1
    exact zt7 (zce6 (zbh2 (hsc x) a (cP h2)))⟩
  refine (hcmp x y _ W [.agg ((enc x).map valA).toArray,.agg ((enc y).map valA).toArray] hG2 (fun b hb=>dZ (hW b hb) hkp.size) rfl (fun i v a h1 h2=>?_)).mono fun e w' ⟨v,he,hkeep,hr⟩=>?_
  ·match i with
   | 0=>cases h1; cases h2; exact agg x
   | 1=>cases h1; cases h2; exact agg y
   | n+2=>simp at h1
  ·have hr':RepC w' W v (.int .i64 (cf x y)):=hr
   cases hr'
   exact ⟨he,zde2 hkeep⟩
 rw [iX]
 refine (AnyQ.slices_SortFunc_total L k aE zE (fun x=>(enc x).map valA) (fun x=>by simp [hk]) (fun x v h=>?_) cf hO g #[] kb.b 0 cap l.toArray w eg hC hH hblk (by simp; omega) hT).mono fun e w' ⟨he,n,os,hw⟩=>?_
 ·obtain ⟨a,ha,rfl⟩:=cR.1 h
  have:=zbh2 (hsc x) a ha
  cases a <;> simp [A.scal1] at this <;> rfl
 ·subst hw
  simp only [List.toList_toArray] at *
  have hkp:=zbd5 (fun x=>(enc x).map valA) k w kb.b n (l.mergeSort fun x y=>!(ltOf cf) y x).toArray os
  refine ⟨_,W,μ,he,?_,⟨[],rfl,rfl,fun i u a h1 h2=>by simp at h1⟩⟩
  rw [zdF8 ⟨false,k,zz,l.map enc⟩ ⟨false,k,zz,(l.mergeSort fun x y=>!(ltOf cf) y x).map enc⟩]
  have hlen:((l.mergeSort fun x y=>!(ltOf cf) y x).toArray.size)=l.length:=by simp
  exact Step.write (r':=⟨false,k,zz,(l.mergeSort fun x y=>!(ltOf cf) y x).map enc⟩) hm hi hW h1 hm0 rfl rfl hkp
   (zbH3 enc k hk hpos hsc _) (zbR3 (fun x=>(enc x).map valA) k w kb.b n _ os hheap (by rw [hul,hlen])) (by
    rw [← htot,hul]; simp [iN])
end Ab
end Go.Proofs.YtcggeefhhegeoaaGreatDoor
