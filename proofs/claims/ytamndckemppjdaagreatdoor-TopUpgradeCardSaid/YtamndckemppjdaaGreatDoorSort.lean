import Derived.Test.YtamndckemppjdaaGreatDoorAb15
import Derived.Shelf.SlSortCmp.NoneTotal
namespace Go.Proofs.YtamndckemppjdaaGreatDoor
namespace Ab
open Go.Shelf Go.Sort
set_option linter.unusedVariables false
set_option linter.unusedSimpArgs false
theorem zbZ8{w w':World}(h:Keeps (λ _=>False) w w'):∃q os,w'=grow (w.drewN q) os:=by
 refine⟨w'.drawn-w.drawn,w'.heap.extract w.heap.size w'.heap.size,?_⟩;obtain⟨h1,h2,h3,h4,h5,h6⟩:=h;cases w with
 |mk hp tp dr os ou=>
  cases w' with
  |mk hp' tp' dr' os' ou'=>
   simp only at h1 h2 h3 h4 h5 h6;subst h1;subst h2;subst h3;simp only[grow,World.drewN,World.mk.injEq,hZ,iA];refine⟨?_,by omega⟩;apply Array.ext_getElem?;intro i;rw[Array.getElem?_append];split
   .rename_i hlt;exact h6 i hlt (λ h=>h)
   .rename_i hge;simp only[Array.getElem?_extract];split
    .congr 1;omega
    .exact Array.getElem?_eq_none (by omega)
theorem zaG7{E:Type}[Inhabited E](enc:E->List Value)(k:Nat)(w:World)(b m:Nat)(d:Array E)(os:Array Obj):Keeps (λ x=>x=b) w (sortWorldK enc k w b 0 m d os):=by
 refine⟨rfl,rfl,rfl,?_,?_,λ x hx hn=>?_⟩
 .simp[sortWorldK,grow,putRowK,putRow,mapBlock,Go.Sort.ahead]
 .simp only[sortWorldK,grow,putRowK,putRow,mapBlock,Go.Sort.heap_ahead,Array.size_append,Array.size_modify];omega
 .simp only[sortWorldK,grow,putRowK,putRow,mapBlock,Go.Sort.heap_ahead];rw[eU (by simpa using hx),gT,cL (iP hn)]
theorem zbu9(us F rest:List Value)(h:us.length=F.length):putCells id 0 F.toArray (us++rest).toArray=(F++rest).toArray:=by
 apply Array.ext_getElem?;intro i;simp only[putCells,Array.getElem?_mapIdx,dX,eQ,hZ,dJ,fL,Nat.sub_zero,id]
 by_cases hi:i<F.length
 .rw[dF (by omega),dF hi];have:i<us.length:=by omega
  simp[hi,this]
 .rw[eC (by omega),eC (by omega),h];simp[hi]
theorem zbk6{E:Type}[Inhabited E](enc:E->List Value)(k:Nat)(w:World)(b m:Nat)(d:Array E)(os:Array Obj){us rest:List Value}{e:TypeId}(hb:w.heap[b]? =some (.cells (us++rest).toArray e (0,0)))
  (hu:us.length=d.size*k):(sortWorldK enc k w b 0 m d os).heap[b]? =some (.cells ((flatK enc k d).toList++rest).toArray e (0,0)):=by
 have hlt:b<w.heap.size:=(cO.1 hb).1;simp only[sortWorldK,grow,putRowK,putRow,mapBlock,Go.Sort.heap_ahead];rw[eU (by simpa using hlt),gT,cQ rfl,hb];simp only[Option.map_some,onCells];rw[<-Array.toArray_toList (xs:=flatK enc k d),zbu9 us _ rest (by simpa using hu)]
def nth(k:Nat)(us:List Value)(i:Nat):List Value:=(us.drop (i*k)).take k
theorem zbf1{k n:Nat}{us:List Value}(h:us.length=n*k){i:Nat}(hi:i<n):(nth k us i).length=k:=by have:(i+1)*k<=n*k:=dC _ hi;rw[dK]at this;simp[nth];omega
theorem zbH2{k:Nat}{us:List Value}{i j:Nat}(hj:j<k):(nth k us i)[j]? =us[i*k+j]? :=by simp[nth,dG,hj]
theorem zbL9{i k j:Nat}(hj:j<k):(i*k+j)/k=i/\(i*k+j)% k=j:=by
 have hpos:0<k:=by omega
 exact⟨by rw[iT,Nat.mul_add_div hpos,Nat.div_eq_of_lt hj,Nat.add_zero],by rw[iT,Nat.mul_add_mod,Nat.mod_eq_of_lt hj]⟩
theorem zbB7{k n:Nat}(hpos:0<k){us:List Value}(h:us.length=n*k)[Inhabited (Fin n)](d:Array (Fin n))(t:Nat)(ht:t<d.size*k):
  (flatK (λ i:Fin n=>nth k us i) k d).toList[t]? =us[(d[t/k]!).1*k+t% k]? :=by
 have hg:=get_flatK (λ i:Fin n=>nth k us i) k d t ht;have hsz:t<(flatK (λ i:Fin n=>nth k us i) k d).size:=by simpa using ht
 rw[gR _ t hsz]at hg;rw[fV,eE hsz,hg];have hj:t% k<k:=gU _ hpos;have hl:=zbf1 h (d[t/k]!).2;rw[<-zbH2 (us:=us) (i:=(d[t/k]!).1) hj,List.getElem!_eq_getElem?_getD,cJ (by omega)];rfl
theorem zch3{k n:Nat}(hpos:0<k){us:List Value}(h:us.length=n*k)[Inhabited (Fin n)]:(flatK (λ i:Fin n=>nth k us i) k (List.finRange n).toArray).toList=us:=by
 apply List.ext_getElem?;intro t
 by_cases ht:t<n*k
 .rw[zbB7 hpos h _ t (by simpa using ht)];have hi:t/k<n:=(fF hpos).2 ht;have:((List.finRange n).toArray[t/k]!).1=t/k:=by rw[gR _ _ (by simpa using hi)];simp
  rw[this,gB]
 .rw[fH (by simpa using ht),fH (by omega)]
theorem zcR5(r r':Row):(⟨[],[(0,r')],1⟩:St).m=setM (⟨[],[(0,r)],1⟩:St).m [(0,.row r')]:=by
 funext x
 by_cases h:x=0
 .subst h;simp[St.m,setM,look]
 .simp[St.m,setM,look,h,Nat.one_le_iff_ne_zero]
theorem zbB8{C:Cx}{ρ:Ren}{T:Type}(L:SlLaysF0.n6 C.P ρ)(enc:T->List A)(k:Nat)(hk:∀x,(enc x).length=k)(hpos:0<k)(hpu:∀x,zk0 (enc x)=true)
  (aE:∀w,(isAgg (ρ.t 24)).run C.P w=.ok true w) (zE:∀w,(Go.sizeOf (ρ.t 24)).run C.P w=.ok k w) (cf:T->T->Int) (hO:SWO (ltOf cf)) (g:Nat)
  (hcmp:∀x y,PFn C g [.agg (enc x),.agg (enc y)] (.int .i64 (cf x y))) (eg:∀args w,(callFunc g args).run C.P w=.ok (.enter g args) w) {f:FuncId} (hf:ρ.f 6=f) (zz:List A) (l:List T) (hl:l.length<=4294967296)
  (hT:∀x∈l,∀y∈l,(ltOf cf) x y=false->(ltOf cf) y x=false->x=y) (hgn:(g==zF2)=false:=by rfl):
  MFn C f [.own 0 0 l.length,.clo g []] [(0,⟨false,k,zz,l.map enc⟩)] 1 (.tup []) [(0,⟨false,k,zz,(l.mergeSort λ x y=>!(ltOf cf) y x).map enc⟩)] 1:=by
 subst hf;intro w W μ vs hG hW hvl hv hm hi;obtain⟨v0,v1,rfl⟩:∃v0 v1,vs=[v0,v1]:=by
  match vs,hvl with
  |[a,b],_=>exact⟨a,b,rfl⟩
 have r0:RepP w W μ v0 (.own 0 0 l.length):=hv 0 v0 (.own 0 0 l.length) rfl rfl;have r1:RepK w W μ v1 (.clo g []):=hv 1 v1 (.clo g []) rfl rfl;obtain⟨cs,rfl,hcs,_⟩:=cloK r1 hgn;have hcs0:cs=[]:=fO.1 (by simpa using hcs);subst hcs0;have hm0:(⟨[],[(0,⟨false,k,zz,l.map enc⟩)],1⟩:St).m 0=.row ⟨false,k,zz,l.map enc⟩:=by simp[St.m,look]
 have none:∀p cap,v0=.slice p 0 cap->l.length=0->Calls C.P (ρ.f 6) [v0,Value.func (.func g) #[] [].toArray].toArray w λ e w'=>∃v W' μ',e=.returned v/\Step (⟨[],[(0,⟨false,k,zz,l.map enc⟩)],1⟩:St).m (⟨[],[(0,⟨false,k,zz,(l.mergeSort λ x y=>!(ltOf cf) y x).map enc⟩)],1⟩:St).m w w' W W' μ μ'/\Rep w' W' μ' v (.tup []):=by intro p cap hp h0;subst hp;have hl0:l=[]:=fO.1 h0;subst hl0;refine(AnyF.slices_SortFunc_none L p cap _ w).mono λ e w' ⟨he,hw⟩=>?_;subst hw;exact⟨_,W,μ,he,by simpa using Step.quiet (Keeps.refl _ _) hm hi hW,⟨[],rfl,rfl,λ i u a h1 h2=>by simp at h1⟩⟩
 have hmm:=hm 0;rw[hm0]at hmm;obtain⟨hone,r0⟩:=r0;rcases hmm with⟨h1,h2,h3⟩|⟨kb,h1,h2⟩
 .rw[h1]at r0;obtain⟨hn,p,hp⟩:=r0;exact none p 0 hp hn
 rw[h1]at r0;obtain⟨hkp,r0⟩:=r0;rcases r0 with⟨hn,p,hp⟩|⟨cap,hp,hcap,hle,hmax⟩
 .exact none p 0 hp hn
 by_cases hn:l.length=0
 .rw[hn]at hp;exact none _ cap hp hn
 subst hp
 replace h2:=h2.ok hkp
 obtain⟨hWb,hsz,_,us,rest,e0,hheap,htot,hflat⟩:=h2;simp only at hWb hsz hflat;haveI:Inhabited (Fin l.length):=⟨⟨0,by omega⟩⟩;have hul:us.length=l.length*k:=by simpa using hflat.hl
 have hblk:kb.b<w.heap.size:=(cO.1 hheap).1;have hat:∀(i:Nat) (hi:i<l.length) (j:Nat) (a:A),(enc l[i])[j]? =some a->∃u,us[i*k+j]? =some u/\RepC w W u a:=λ i hi j a ha=>by obtain⟨u,hu,hr⟩:=hflat.ha i (enc l[i]) j a (by rw[cP,cJ hi];rfl) ha;exact⟨u,hu,hr.toC (zY7 (hpu l[i]) a (cN ha))⟩
 have hkeep:∀{w':World},Keeps (λ x=>x=kb.b) w w'->∀{u:Value} {a:A},RepC w W u a->RepC w' W u a:=λ hkp _ _ hr=>hr.keep hkp (λ b _ h1 h2=>h1 (h2▸hWb trivial)) (λ _ _ h=>h);have hH:HoldsK (λ i:Fin l.length=>nth k us i) k w kb.b 0 (List.finRange l.length).toArray:=by
  intro j hj;have hj':j<l.length*k:=by simpa using hj
  constructor
  .simp only[World.cell?,hheap,dJ,id];simp only[Option.isSome_none,cG,cV,dX];rw[dF (by omega)]
   conv=>lhs;rw[<-zch3 hpos hul]
   rw[fV,eE hj,gR _ j hj]
  .simp only[World.frozen?,hheap];simp
 have hC:CmpLays C.P g #[] (λ i:Fin l.length=>nth k us i) k (λ i j=>cf l[i.1] l[j.1]) kb.b 0 (List.finRange l.length).toArray.size w:=by
  intro m os dk hdk x y;have hkp:=zaG7 (λ i:Fin l.length=>nth k us i) k w kb.b m dk os;have hG2:zaq7 (sortWorldK (λ i:Fin l.length=>nth k us i) k w kb.b 0 m dk os) W C.G:=λ q cs hq=>by obtain⟨h1,h2,h3⟩:=hG q cs hq;have hne:¬q=kb.b:=λ h=>h1 (h▸hWb trivial);refine⟨h1,cR h2 hkp.size,λ j a hj=>?_⟩;obtain⟨u,hu,hr⟩:=h3 j a hj;exact⟨u,(World.cell?_of_block (w:=w) (hkp.block q h2 hne)).trans hu,hkeep hkp hr⟩
  have agg:∀x:Fin l.length,RepV (sortWorldK (λ i:Fin l.length=>nth k us i) k w kb.b 0 m dk os) W zN6 (.agg (nth k us x).toArray) (.agg (enc l[x.1])):=λ x=>
   ⟨_,rfl,by rw[zbf1 hul x.2,hk],λ i u a h1 h2=>by
    have hi:i<k:=by rw[<-hk l[x.1]];exact(cH.1 h2).1
    obtain⟨u2,hu2,hr⟩:=hat x.1 x.2 i a h2;rw[zbH2 hi,hu2]at h1;cases h1;exact zp5 (hkeep hkp hr)⟩
  refine(hcmp l[x.1] l[y.1] _ W [.agg (nth k us x).toArray,.agg (nth k us y).toArray] hG2 (λ b hb=>cR (hW b hb) hkp.size) rfl (λ i v a h1 h2=>?_)).mono λ e w' ⟨v,he,hkeep,hr⟩=>?_
  .match i with
   |0=>cases h1;cases h2;exact agg x
   |1=>cases h1;cases h2;exact agg y
   |n+2=>simp at h1
  .have hr':RepC w' W v (.int .i64 (cf l[x.1] l[y.1])):=hr;cases hr';exact⟨he,zbZ8 hkeep⟩
 rw[gP];have hO2:SWO (ltOf λ(i j:Fin l.length)=>cf l[i.1] l[j.1]):=⟨λ x=>hO.irrefl _,λ x y z h1 h2=>hO.trans _ _ _ h1 h2,λ x y z h1 h2=>hO.ntrans _ _ _ h1 h2⟩;have hrun:=AnyQ.slices_SortFunc L k aE zE (λ i:Fin l.length=>nth k us i) (λ x=>zbf1 hul x.2) (λ x v h=>?_) (λ i j=>cf l[i.1] l[j.1]) hO2 g #[] kb.b 0 cap (List.finRange l.length).toArray w eg hC hH hblk (by simp;omega)
 .rw[show(List.finRange l.length).toArray.size=l.length by simp]at hrun;refine hrun.mono λ e w' ⟨he,d',n,os,hp,hs,hw⟩=>?_;subst hw;obtain⟨hsz',_,hperm⟩:=hp;rw[show(List.finRange l.length).toArray.size=l.length by simp]at hsz';have x1:=@Array.extract_size _ d';have x2:=@Array.extract_size _ (List.finRange l.length).toArray;rw[hsz']at x1;rw[show(List.finRange l.length).toArray.size=l.length by simp]at x2;rw[x1,x2]at hperm;have hres:d'.toList.map (λ i:Fin l.length=>l[i.1])=l.mergeSort λ x y=>!(ltOf cf) y x:=by
   have p1:(d'.toList.map (λ i:Fin l.length=>l[i.1])).Perm l:=by
    have:=hperm.map (λ i:Fin l.length=>l[i.1]);refine this.trans (.of_eq ?_);apply List.ext_getElem
    .simp
    .intro i h1 h2;simp
   refine List.Perm.eq_of_pairwise (le:=λ x y=>(!ltOf cf y x)=true) ?_ ?_ ?_ (p1.trans (List.mergeSort_perm _ _).symm)
   .intro a b ha hb h1 h2;simp only[dQ]at h1 h2;exact hT a (p1.subset ha) b ((List.mergeSort_perm _ _).subset hb) h2 h1
   .rw[List.pairwise_iff_getElem];intro i j hi hj hij;have hi':i<d'.size:=by simpa using hi
    have hj':j<d'.size:=by simpa using hj
    have:=hs i j (eQ _) hij (by omega);rw[gR d' i hi',gR d' j hj']at this
    simpa [ltOf]using this
   .exact List.pairwise_mergeSort (λ a b c h1 h2=>by simp only[dQ]at*;exact hO.ntrans _ _ _ h2 h1) (λ a b=>by
     cases hab:ltOf cf b a
     .rfl
     .cases hba:ltOf cf a b
      .simp
      .have:=hO.trans _ _ _ hab hba;rw[hO.irrefl]at this;cases this) _
  have hkp:=zaG7 (λ i:Fin l.length=>nth k us i) k w kb.b n d' os;refine⟨_,W,μ,he,?_,⟨[],rfl,rfl,λ i u a h1 h2=>by simp at h1⟩⟩;rw[zcR5 ⟨false,k,zz,l.map enc⟩ ⟨false,k,zz,(l.mergeSort λ x y=>!(ltOf cf) y x).map enc⟩];refine Step.write (r':=⟨false,k,zz,(l.mergeSort λ x y=>!(ltOf cf) y x).map enc⟩) hm hi hW h1 hm0 rfl rfl hkp ?_ (zbk6 (λ i:Fin l.length=>nth k us i) k w kb.b n _ os hheap (by rw[hul,hsz'])) (by
    rw[<-htot,hul];simp[hsz'])
  simp only;rw[<-hres];refine⟨by simp,λ i c h=>?_,λ i c j a hc ha=>?_⟩
  .rw[gS,cP]at h;obtain⟨x,_,rfl⟩:=cI.1 h;exact hk _
  .rw[gS,cP]at hc;obtain⟨x,hx,rfl⟩:=cI.1 hc;have hj:j<k:=by rw[<-hk l[x.1]];exact(cH.1 ha).1
   obtain⟨hi,hxi⟩:=cH.1 hx;have hi':i<d'.size:=by simpa using hi
   have hlt:i*k+j<d'.size*k:=by have:(i+1)*k<=d'.size*k:=dC _ hi';rw[dK]at this;omega
   obtain⟨u,hu,hr⟩:=hat x.1 x.2 j a ha;refine⟨u,?_,zp5 hr⟩;rw[zbB7 hpos hul d' _ hlt,(zbL9 hj).1,(zbL9 hj).2,gR d' i hi',show d'[i]=x by simpa using hxi];exact hu
 .have hx:=x.2;obtain⟨j,hj,e⟩:=gH h;have hj2:j<k:=by rw[<-zbf1 hul x.2];exact hj
  have hj3:j<(enc l[x.1]).length:=by rw[hk];exact hj2
  have ha:(enc l[x.1])[j]? =some ((enc l[x.1])[j]'hj3):=cJ hj3;obtain⟨u,hu,hr⟩:=hat x.1 hx j _ ha;have:some v=some u:=by rw[<-hu,<-zbH2 (us:=us) hj2,cJ hj,e]
  cases this;exact hr.oneCell
theorem zch4{T U:Type}{cf:U->U->Int}(g:T->U)(h:SWO (ltOf cf)):SWO (ltOf λ x y=>cf (g x) (g y)):=⟨λ x=>h.irrefl _,λ x y z h1 h2=>h.trans _ _ _ h1 h2,λ x y z h1 h2=>h.ntrans _ _ _ h1 h2⟩
theorem zbM0{T:Type}{cf:T->T->Int}:∀{l:List T},(l.Pairwise λ x y=>cf x y<0\/cf y x<0)->∀x∈l,∀y∈l,ltOf cf x y=false->ltOf cf y x=false->x=y
 |[],_,_,hx,_,_,_,_=>nomatch hx
 |a::l,h,x,hx,y,hy,h1,h2=>by
  obtain⟨k1,k2⟩:=List.pairwise_cons.1 h;simp only[ltOf,eD]at h1 h2;rcases dB.1 hx with e|mx
  .rcases dB.1 hy with k|my
   .rw[e,k]
   .subst e;exact absurd (k1 y my) (λ c=>c.elim h1 h2)
  .rcases dB.1 hy with e|my
   .subst e;exact absurd (k1 x mx) (λ c=>c.elim h2 h1)
   .exact zbM0 k2 x mx y my (by simpa [ltOf]using h1) (by simpa [ltOf]using h2)
end Ab
end Go.Proofs.YtamndckemppjdaaGreatDoor
