import Derived.Test.YtenebhlnfjcffaaGreatDoorAb16
import Derived.Shelf.SlSortCmp.NoneTotal
namespace Go.Proofs.YtenebhlnfjcffaaGreatDoor
namespace Ab
open Go.Shelf Go.Sort
set_option linter.unusedVariables false
set_option linter.unusedSimpArgs false
theorem zcy4 {w w':World} (h:Keeps (fun _=>False) w w'):∃ q os,w'=grow (w.drewN q) os:=by
 refine ⟨w'.drawn - w.drawn,w'.heap.extract w.heap.size w'.heap.size,?_⟩
 obtain ⟨h1,h2,h3,h4,h5,h6⟩:=h
 cases w with
 | mk hp tp dr os ou =>
  cases w' with
  | mk hp' tp' dr' os' ou' =>
   simp only at h1 h2 h3 h4 h5 h6
   subst h1; subst h2; subst h3
   simp only [grow,World.drewN,World.mk.injEq,fC,iF]
   refine ⟨?_,by omega⟩
   apply Array.ext_getElem?
   intro i
   rw [Array.getElem?_append]
   split
   ·rename_i hlt; exact h6 i hlt (fun h=>h)
   ·rename_i hge
    simp only [Array.getElem?_extract]
    split
    ·congr 1; omega
    ·exact Array.getElem?_eq_none (by omega)
theorem zaI5 {E:Type} [Inhabited E] (enc:E→List Value) (k:Nat) (w:World) (b m:Nat) (d:Array E) (os:Array Obj):Keeps (fun x=>x=b) w (sortWorldK enc k w b 0 m d os):=by
 refine ⟨rfl,rfl,rfl,?_,?_,fun x hx hn=>?_⟩
 ·simp [sortWorldK,grow,putRowK,putRow,mapBlock,Go.Sort.ahead]
 ·simp only [sortWorldK,grow,putRowK,putRow,mapBlock,Go.Sort.heap_ahead,Array.size_append,Array.size_modify]; omega
 ·simp only [sortWorldK,grow,putRowK,putRow,mapBlock,Go.Sort.heap_ahead]
  rw [gJ (by simpa using hx),iS,bW (kB hn)]
theorem zbI9 (us F rest:List Value) (h:us.length=F.length):putCells id 0 F.toArray (us++rest).toArray=(F++rest).toArray:=by
 apply Array.ext_getElem?
 intro i
 simp only [putCells,Array.getElem?_mapIdx,fA,fF,fC,dJ,gZ,Nat.sub_zero,id]
 by_cases hi:i < F.length
 ·rw [dE (by omega),dE hi]
  have:i < us.length:=by omega
  simp [hi,this]
 ·rw [eR (by omega),eR (by omega),h]
  simp [hi]
theorem zbr9 {E:Type} [Inhabited E] (enc:E→List Value) (k:Nat) (w:World) (b m:Nat) (d:Array E) (os:Array Obj) {us rest:List Value} {e:TypeId} (hb:w.heap[b]? = some (.cells (us++rest).toArray e (0,0)))
  (hu:us.length=d.size * k):(sortWorldK enc k w b 0 m d os).heap[b]? = some (.cells ((flatK enc k d).toList++rest).toArray e (0,0)):=by
 have hlt:b < w.heap.size:=(cH.1 hb).1
 simp only [sortWorldK,grow,putRowK,putRow,mapBlock,Go.Sort.heap_ahead]
 rw [gJ (by simpa using hlt),iS,bY rfl,hb]
 simp only [Option.map_some,onCells]
 rw [← Array.toArray_toList (xs:=flatK enc k d),zbI9 us _ rest (by simpa using hu)]
def nth (k:Nat) (us:List Value) (i:Nat):List Value:=(us.drop (i * k)).take k
theorem zbm7 {k n:Nat} {us:List Value} (h:us.length=n * k) {i:Nat} (hi:i < n):(nth k us i).length=k:=by
 have:(i+1) * k≤n * k:=dC _ hi
 rw [dN] at this
 simp [nth]; omega
theorem zbZ5 {k:Nat} {us:List Value} {i j:Nat} (hj:j < k):(nth k us i)[j]? = us[i * k+j]? := by
 simp [nth,dH,hj]
theorem zch4 {i k j:Nat} (hj:j < k):(i * k+j) / k=i∧(i * k+j) % k=j:=by
 have hpos:0 < k:=by omega
 exact ⟨by rw [jV,Nat.mul_add_div hpos,Nat.div_eq_of_lt hj,Nat.add_zero],by rw [jV,Nat.mul_add_mod,Nat.mod_eq_of_lt hj]⟩
theorem zbR0 {k n:Nat} (hpos:0 < k) {us:List Value} (h:us.length=n * k) [Inhabited (Fin n)] (d:Array (Fin n)) (t:Nat) (ht:t < d.size * k) :
  (flatK (fun i:Fin n=>nth k us i) k d).toList[t]? = us[(d[t / k]!).1 * k+t % k]? := by
 have hg:=get_flatK (fun i:Fin n=>nth k us i) k d t ht
 have hsz:t < (flatK (fun i:Fin n=>nth k us i) k d).size:=by simpa using ht
 rw [iR _ t hsz] at hg
 rw [gY,eX hsz,hg]
 have hj:t % k < k:=jU _ hpos
 have hl:=zbm7 h (d[t / k]!).2
 rw [← zbZ5 (us:=us) (i:=(d[t / k]!).1) hj,List.getElem!_eq_getElem?_getD,bX (by omega)]
 rfl
theorem zcM7 {k n:Nat} (hpos:0 < k) {us:List Value} (h:us.length=n * k) [Inhabited (Fin n)]:(flatK (fun i:Fin n=>nth k us i) k (List.finRange n).toArray).toList=us:=by
 apply List.ext_getElem?
 intro t
 by_cases ht:t < n * k
 ·rw [zbR0 hpos h _ t (by simpa using ht)]
  have hi:t / k < n:=(gO hpos).2 ht
  have:((List.finRange n).toArray[t / k]!).1=t / k:=by rw [iR _ _ (by simpa using hi)]; simp
  rw [this,iV]
 ·rw [gP (by simpa using ht),gP (by omega)]
theorem zcZ1 (r r':Row):(⟨[],[(0,r')],1⟩:St).m=setM (⟨[],[(0,r)],1⟩:St).m [(0,.row r')]:=by
 funext x
 by_cases h:x=0
 ·subst h; simp [St.m,setM,look]
 ·simp [St.m,setM,look,h,Nat.one_le_iff_ne_zero]
theorem zbR1 {C:Cx} {ρ:Ren} {T:Type} (L:SlLaysF0.n6 C.P ρ) (enc:T→List A) (k:Nat) (hk:∀ x,(enc x).length=k) (hpos:0 < k) (hpu:∀ x,zk0 (enc x)=true)
  (aE:∀ w,(isAgg (ρ.t 24)).run C.P w=.ok true w) (zE:∀ w,(Go.sizeOf (ρ.t 24)).run C.P w=.ok k w) (cf:T→T→Int) (hO:SWO (ltOf cf)) (g:Nat)
  (hcmp:∀ x y,PFn C g [.agg (enc x),.agg (enc y)] (.int .i64 (cf x y))) (eg:∀ args w,(callFunc g args).run C.P w=.ok (.enter g args) w) {f:FuncId} (hf:ρ.f 6=f) (zz:List A) (l:List T) (hl:l.length≤4294967296)
  (hT:∀ x ∈ l,∀ y ∈ l,(ltOf cf) x y=false→(ltOf cf) y x=false→x=y) :
  MFn C f [.own 0 0 l.length,.clo g []] [(0,⟨false,k,zz,l.map enc⟩)] 1 (.tup []) [(0,⟨false,k,zz,(l.mergeSort fun x y=>!(ltOf cf) y x).map enc⟩)] 1:=by
 subst hf
 intro w W μ vs hG hW hvl hv hm hi
 obtain ⟨v0,v1,rfl⟩:∃ v0 v1,vs=[v0,v1]:=by
  match vs,hvl with
  | [a,b],_=>exact ⟨a,b,rfl⟩
 have r0:RepP w W μ v0 (.own 0 0 l.length):=hv 0 v0 (.own 0 0 l.length) rfl rfl
 have r1:RepK w W μ v1 (.clo g []):=hv 1 v1 (.clo g []) rfl rfl
 obtain ⟨cs,rfl,hcs,_⟩:=r1
 have hcs0:cs=[]:=iK.1 (by simpa using hcs)
 subst hcs0
 have hm0:(⟨[],[(0,⟨false,k,zz,l.map enc⟩)],1⟩:St).m 0=.row ⟨false,k,zz,l.map enc⟩:=by simp [St.m,look]
 have none:∀ p cap,v0=.slice p 0 cap→l.length=0→Calls C.P (ρ.f 6) [v0,Value.func (.func g) #[] [].toArray].toArray w fun e w'=>∃ v W' μ',e=.returned v∧Step (⟨[],[(0,⟨false,k,zz,l.map enc⟩)],1⟩:St).m (⟨[],[(0,⟨false,k,zz,(l.mergeSort fun x y=>!(ltOf cf) y x).map enc⟩)],1⟩:St).m w w' W W' μ μ'∧Rep w' W' μ' v (.tup []):=by
  intro p cap hp h0
  subst hp
  have hl0:l=[]:=iK.1 h0
  subst hl0
  refine (AnyF.slices_SortFunc_none L p cap _ w).mono fun e w' ⟨he,hw⟩=>?_
  subst hw
  exact ⟨_,W,μ,he,by simpa using Step.quiet (Keeps.refl _ _) hm hi hW,⟨[],rfl,rfl,fun i u a h1 h2=>by simp at h1⟩⟩
 have hmm:=hm 0
 rw [hm0] at hmm
 obtain ⟨hone,r0⟩:=r0
 rcases hmm with ⟨h1,h2,h3⟩|⟨kb,h1,h2⟩
 ·rw [h1] at r0
  obtain ⟨hn,p,hp⟩:=r0
  exact none p 0 hp hn
 rw [h1] at r0
 obtain ⟨hkp,r0⟩:=r0
 rcases r0 with ⟨hn,p,hp⟩|⟨cap,hp,hcap,hle,hmax⟩
 ·exact none p 0 hp hn
 by_cases hn:l.length=0
 ·rw [hn] at hp
  exact none _ cap hp hn
 subst hp
 replace h2:=h2.ok hkp
 obtain ⟨hWb,hsz,_,us,rest,e0,hheap,htot,hflat⟩:=h2
 simp only at hWb hsz hflat
 haveI:Inhabited (Fin l.length):=⟨⟨0,by omega⟩⟩
 have hul:us.length=l.length * k:=by simpa using hflat.hl
 have hblk:kb.b < w.heap.size:=(cH.1 hheap).1
 have hat:∀ (i:Nat) (hi:i < l.length) (j:Nat) (a:A),(enc l[i])[j]? = some a→∃ u,us[i * k+j]? = some u∧RepC w W u a:=fun i hi j a ha=>by
  obtain ⟨u,hu,hr⟩:=hflat.ha i (enc l[i]) j a (by rw [cK,bX hi]; rfl) ha
  exact ⟨u,hu,hr.toC (zab6 (hpu l[i]) a (cJ ha))⟩
 have hkeep:∀ {w':World},Keeps (fun x=>x=kb.b) w w'→∀ {u:Value} {a:A},RepC w W u a→RepC w' W u a:=fun hkp _ _ hr=>hr.keep hkp (fun b _ h1 h2=>h1 (h2 ▸ hWb trivial)) (fun _ _ h=>h)
 have hH:HoldsK (fun i:Fin l.length=>nth k us i) k w kb.b 0 (List.finRange l.length).toArray:=by
  intro j hj
  have hj':j < l.length * k:=by simpa using hj
  constructor
  ·simp only [World.cell?,hheap,dJ,id]
   simp only [Option.isSome_none,bT,cA,fA]
   rw [dE (by omega)]
   conv=>lhs; rw [← zcM7 hpos hul]
   rw [gY,eX hj,iR _ j hj]
  ·simp only [World.frozen?,hheap]
   simp
 have hC:CmpLays C.P g #[] (fun i:Fin l.length=>nth k us i) k (fun i j=>cf l[i.1] l[j.1]) kb.b 0 (List.finRange l.length).toArray.size w:=by
  intro m os dk hdk x y
  have hkp:=zaI5 (fun i:Fin l.length=>nth k us i) k w kb.b m dk os
  have hG2:zaL0 (sortWorldK (fun i:Fin l.length=>nth k us i) k w kb.b 0 m dk os) W C.G:=fun q cs hq=>by
   obtain ⟨h1,h2,h3⟩:=hG q cs hq
   have hne:¬ q=kb.b:=fun h=>h1 (h ▸ hWb trivial)
   refine ⟨h1,dQ h2 hkp.size,fun j a hj=>?_⟩
   obtain ⟨u,hu,hr⟩:=h3 j a hj
   exact ⟨u,(World.cell?_of_block (w:=w) (hkp.block q h2 hne)).trans hu,hkeep hkp hr⟩
  have agg:∀ x:Fin l.length,RepV (sortWorldK (fun i:Fin l.length=>nth k us i) k w kb.b 0 m dk os) W zai9 (.agg (nth k us x).toArray) (.agg (enc l[x.1])):=fun x =>
   ⟨_,rfl,by rw [zbm7 hul x.2,hk],fun i u a h1 h2=>by
    have hi:i < k:=by rw [← hk l[x.1]]; exact (cC.1 h2).1
    obtain ⟨u2,hu2,hr⟩:=hat x.1 x.2 i a h2
    rw [zbZ5 hi,hu2] at h1
    cases h1
    exact zo3 (hkeep hkp hr)⟩
  refine (hcmp l[x.1] l[y.1] _ W [.agg (nth k us x).toArray,.agg (nth k us y).toArray] hG2 (fun b hb=>dQ (hW b hb) hkp.size) rfl (fun i v a h1 h2=>?_)).mono fun e w' ⟨v,he,hkeep,hr⟩=>?_
  ·match i with
   | 0=>cases h1; cases h2; exact agg x
   | 1=>cases h1; cases h2; exact agg y
   | n+2=>simp at h1
  ·have hr':RepC w' W v (.int .i64 (cf l[x.1] l[y.1])):=hr
   cases hr'
   exact ⟨he,zcy4 hkeep⟩
 rw [jE]
 have hO2:SWO (ltOf fun (i j:Fin l.length)=>cf l[i.1] l[j.1]):=⟨fun x=>hO.irrefl _,fun x y z h1 h2=>hO.trans _ _ _ h1 h2,fun x y z h1 h2=>hO.ntrans _ _ _ h1 h2⟩
 have hrun:=AnyQ.slices_SortFunc L k aE zE (fun i:Fin l.length=>nth k us i) (fun x=>zbm7 hul x.2) (fun x v h=>?_) (fun i j=>cf l[i.1] l[j.1]) hO2 g #[] kb.b 0 cap (List.finRange l.length).toArray w eg hC hH hblk (by simp; omega)
 ·rw [show (List.finRange l.length).toArray.size=l.length by simp] at hrun
  refine hrun.mono fun e w' ⟨he,d',n,os,hp,hs,hw⟩=>?_
  subst hw
  obtain ⟨hsz',_,hperm⟩:=hp
  rw [show (List.finRange l.length).toArray.size=l.length by simp] at hsz'
  have x1:=@Array.extract_size _ d'
  have x2:=@Array.extract_size _ (List.finRange l.length).toArray
  rw [hsz'] at x1; rw [show (List.finRange l.length).toArray.size=l.length by simp] at x2
  rw [x1,x2] at hperm
  have hres:d'.toList.map (fun i:Fin l.length=>l[i.1])=l.mergeSort fun x y=>!(ltOf cf) y x:=by
   have p1:(d'.toList.map (fun i:Fin l.length=>l[i.1])).Perm l:=by
    have:=hperm.map (fun i:Fin l.length=>l[i.1])
    refine this.trans (.of_eq ?_)
    apply iX
    ·simp
    ·intro i h1 h2; simp
   refine iH (le:=fun x y=>(!ltOf cf y x)=true) ?_ ?_ ?_ (p1.trans (iD _ _).symm)
   ·intro a b ha hb h1 h2
    simp only [cN] at h1 h2
    exact hT a (p1.subset ha) b ((iD _ _).subset hb) h2 h1
   ·rw [dT]
    intro i j hi hj hij
    have hi':i < d'.size:=by simpa using hi
    have hj':j < d'.size:=by simpa using hj
    have:=hs i j (fF _) hij (by omega)
    rw [iR d' i hi',iR d' j hj'] at this
    simpa [ltOf] using this
   ·exact iL (fun a b c h1 h2=>by simp only [cN] at *; exact hO.ntrans _ _ _ h2 h1) (fun a b=>by
     cases hab:ltOf cf b a
     ·rfl
     ·cases hba:ltOf cf a b
      ·simp
      ·have:=hO.trans _ _ _ hab hba
       rw [hO.irrefl] at this; cases this) _
  have hkp:=zaI5 (fun i:Fin l.length=>nth k us i) k w kb.b n d' os
  refine ⟨_,W,μ,he,?_,⟨[],rfl,rfl,fun i u a h1 h2=>by simp at h1⟩⟩
  rw [zcZ1 ⟨false,k,zz,l.map enc⟩ ⟨false,k,zz,(l.mergeSort fun x y=>!(ltOf cf) y x).map enc⟩]
  refine Step.write (r':=⟨false,k,zz,(l.mergeSort fun x y=>!(ltOf cf) y x).map enc⟩) hm hi hW h1 hm0 rfl rfl hkp ?_ (zbr9 (fun i:Fin l.length=>nth k us i) k w kb.b n _ os hheap (by rw [hul,hsz'])) (by
    rw [← htot,hul]; simp [hsz'])
  simp only
  rw [← hres]
  refine ⟨by simp,fun i c h=>?_,fun i c j a hc ha=>?_⟩
  ·rw [List.map_map,cK] at h
   obtain ⟨x,_,rfl⟩:=cD.1 h
   exact hk _
  ·rw [List.map_map,cK] at hc
   obtain ⟨x,hx,rfl⟩:=cD.1 hc
   have hj:j < k:=by rw [← hk l[x.1]]; exact (cC.1 ha).1
   obtain ⟨hi,hxi⟩:=cC.1 hx
   have hi':i < d'.size:=by simpa using hi
   have hlt:i * k+j < d'.size * k:=by
    have:(i+1) * k≤d'.size * k:=dC _ hi'
    rw [dN] at this; omega
   obtain ⟨u,hu,hr⟩:=hat x.1 x.2 j a ha
   refine ⟨u,?_,zo3 hr⟩
   rw [zbR0 hpos hul d' _ hlt,(zch4 hj).1,(zch4 hj).2,iR d' i hi',show d'[i]=x by simpa using hxi]
   exact hu
 ·have hx:=x.2
  obtain ⟨j,hj,e⟩:=fE h
  have hj2:j < k:=by rw [← zbm7 hul x.2]; exact hj
  have hj3:j < (enc l[x.1]).length:=by rw [hk]; exact hj2
  have ha:(enc l[x.1])[j]? = some ((enc l[x.1])[j]'hj3):=bX hj3
  obtain ⟨u,hu,hr⟩:=hat x.1 hx j _ ha
  have:some v=some u:=by rw [← hu,← zbZ5 (us:=us) hj2,bX hj,e]
  cases this
  exact hr.oneCell
theorem zcM8 {T U:Type} {cf:U→U→Int} (g:T→U) (h:SWO (ltOf cf)):SWO (ltOf fun x y=>cf (g x) (g y)):=⟨fun x=>h.irrefl _,fun x y z h1 h2=>h.trans _ _ _ h1 h2,fun x y z h1 h2=>h.ntrans _ _ _ h1 h2⟩
theorem zch5 {T:Type} {cf:T→T→Int}:∀ {l:List T},(l.Pairwise fun x y=>cf x y < 0∨cf y x < 0)→∀ x ∈ l,∀ y ∈ l,ltOf cf x y=false→ltOf cf y x=false→x=y
 | [],_,_,hx,_,_,_,_=>nomatch hx
 | a :: l,h,x,hx,y,hy,h1,h2=>by
  obtain ⟨k1,k2⟩:=dA.1 h
  simp only [ltOf,cG] at h1 h2
  rcases cE.1 hx with e|mx
  ·rcases cE.1 hy with k|my
   ·rw [e,k]
   ·subst e; exact absurd (k1 y my) (fun c=>c.elim h1 h2)
  ·rcases cE.1 hy with e|my
   ·subst e; exact absurd (k1 x mx) (fun c=>c.elim h2 h1)
   ·exact zch5 k2 x mx y my (by simpa [ltOf] using h1) (by simpa [ltOf] using h2)
end Ab
end Go.Proofs.YtenebhlnfjcffaaGreatDoor
