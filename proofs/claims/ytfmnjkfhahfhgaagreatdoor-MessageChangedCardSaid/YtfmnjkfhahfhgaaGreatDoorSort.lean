import Derived.Test.YtfmnjkfhahfhgaaGreatDoorTy
import Derived.Shelf.SlSortCmp.NoneTotal
namespace Go.Proofs.YtfmnjkfhahfhgaaGreatDoor
namespace Ab
set_option linter.all false
open Go.Shelf Go.Sort
def bD0{w w':World}(h:Keeps (λ _=>False) w w'):∃q H,w'=grow (w.drewN q) H:=by
 refine⟨w'.drawn-w.drawn,w'.heap.extract w.heap.size w'.heap.size,?_⟩;obtain⟨O,U,Y,F,M,B⟩:=h;cases w with
 |mk L tp dr H ou=>
  cases w' with
  |mk V Z y0 z0 u0=>
   simp only at O U Y F M B;subst O;subst U;subst Y;simp only[grow,World.drewN,World.mk.injEq,gG,jK];refine⟨?_,by omega⟩;apply Array.ext_getElem?;intro i;rw[Array.getElem?_append];split
   .rename_i K;exact B i K (λ h=>h)
   .rename_i p0;simp only[Array.getElem?_extract];split
    .congr 1;omega
    .exact Array.getElem?_eq_none om
def Uf{E:Type}[Inhabited E](enc:E->List Value)(k:Nat)(w:World)(b m:Nat)(d:Array E)(H:Array Obj):Keeps (λ x=>x=b) w (sortWorldK enc k w b 0 m d H):=by
 refine⟨rfl,rfl,rfl,?_,?_,λ x K O=>?_⟩
 .simp[sortWorldK,grow,putRowK,putRow,mapBlock,Go.Sort.ahead]
 .simp only[sortWorldK,grow,putRowK,putRow,mapBlock,Go.Sort.heap_ahead,Array.size_append,Array.size_modify];omega
 .simp only[sortWorldK,grow,putRowK,putRow,mapBlock,Go.Sort.heap_ahead];rw[iC (by simpa using K),jT,bX (lD O)]
def bD2(us F rest:List Value)(h:us.length=F.length):putCells id 0 F.toArray (us++rest).toArray=(F++rest).toArray:=by
 apply Array.ext_getElem?;intro i;simp only[putCells,Array.getElem?_mapIdx,fO,fS,gG,eC,iM,Nat.sub_zero,id]
 by_cases H:i<F.length
 .rw[dX om,dX H];have:i<us.length:=om
  simp[H,this]
 .rw[fE om,fE om,h];simp[H]
def bD3{E:Type}[Inhabited E](enc:E->List Value)(k:Nat)(w:World)(b m:Nat)(d:Array E)(H:Array Obj){us rest:List Value}{e:TypeId}(hb:w.heap[b]? =some (.cells (us++rest).toArray e (0,0)))
  (O:us.length=d.size*k):(sortWorldK enc k w b 0 m d H).heap[b]? =some (.cells ((flatK enc k d).toList++rest).toArray e (0,0)):=by
 have K:b<w.heap.size:=(cS.1 hb).1;simp only[sortWorldK,grow,putRowK,putRow,mapBlock,Go.Sort.heap_ahead];rw[iC (by simpa using K),jT,cA rfl,hb];simp only[xm,onCells];rw[<-lQ (xs:=flatK enc k d),bD2 us _ rest (by simpa using O)]
def nth(k:Nat)(us:List Value)(i:Nat):List Value:=(us.drop (i*k)).take k
def K1{k n:Nat}{us:List Value}(h:us.length=n*k){i:Nat}(hi:i<n):(nth k us i).length=k:=by have:(i+1)*k<=n*k:=dR _ hi;rw[eD]at this;simp[nth];omega
def Ov{k:Nat}{us:List Value}{i j:Nat}(H:j<k):(nth k us i)[j]? =us[i*k+j]? :=by simp[nth,eA,H]
def Ug{i k j:Nat}(O:j<k):(i*k+j)/k=i/\(i*k+j)% k=j:=by
 have H:0<k:=om
 exact⟨by rw[jN,Nat.mul_add_div H,Nat.div_eq_of_lt O,lV],by rw[jN,Nat.mul_add_mod,Nat.mod_eq_of_lt O]⟩
def Uh{k n:Nat}(H:0<k){us:List Value}(h:us.length=n*k)[Inhabited (Fin n)](d:Array (Fin n))(t:Nat)(K:t<d.size*k):
  (flatK (λ i:Fin n=>nth k us i) k d).toList[t]? =us[(d[t/k]!).1*k+t% k]? :=by
 have hg:=get_flatK (λ i:Fin n=>nth k us i) k d t K;have O:t<(flatK (λ i:Fin n=>nth k us i) k d).size:=by simpa using K
 rw[jR _ t O]at hg;rw[jA,fK O,hg];have U:t% k<k:=lC _ H;have L:=K1 h (d[t/k]!).2;rw[<-Ov (us:=us) (i:=(d[t/k]!).1) U,List.getElem!_eq_getElem?_getD,cF om];rfl
def bD8{k n:Nat}(H:0<k){us:List Value}(h:us.length=n*k)[Inhabited (Fin n)]:(flatK (λ i:Fin n=>nth k us i) k (List.finRange n).toArray).toList=us:=by
 apply List.ext_getElem?;intro t
 by_cases K:t<n*k
 .rw[Uh H h _ t (by simpa using K)];have L:t/k<n:=(iG H).2 K;have:((List.finRange n).toArray[t/k]!).1=t/k:=by rw[jR _ _ (by simpa using L)];simp
  rw[this,jV]
 .rw[gO (by simpa using K),gO om]
def bD9(r r':Row):(⟨[],[(0,r')],1⟩:St).m=setM (⟨[],[(0,r)],1⟩:St).m [(0,.row r')]:=by
 funext x
 by_cases h:x=0
 .subst h;simp[St.m,setM,look]
 .simp[St.m,setM,look,h,Nat.one_le_iff_ne_zero]
def bDa{C:Cx}{ρ:Ren}{T:Type}(L:SlLaysF0.n6 C.P ρ)(enc:T->List A)(k:Nat)(hk:∀x,(enc x).length=k)(p0:0<k)(z1:∀x,mQ (enc x)=true)
  (aE:∀w,(isAgg (ρ.t 24)).run C.P w=.ok true w) (zE:∀w,(Go.sizeOf (ρ.t 24)).run C.P w=.ok k w) (F:T->T->Int) (hO:SWO (ltOf F)) (g:Nat)
  (d0:∀x y,PFn C g [.agg (enc x),.agg (enc y)] (.int .i64 (F x y))) (eg:∀q0 w,(callFunc g q0).run C.P w=.ok (.enter g q0) w) {f:FuncId} (hf:ρ.f 6=f) (zz:List A) (l:List T) (hl:l.length<=4294967296)
  (hT:∀x∈l,∀y∈l,(ltOf F) x y=false->(ltOf F) y x=false->x=y) (u1:(g==zV)=false:=by rfl):
  MFn C f [.own 0 0 l.length,.clo g []] [(0,⟨false,k,zz,l.map enc⟩)] 1 (.tup []) [(0,⟨false,k,zz,(l.mergeSort λ x y=>!(ltOf F) y x).map enc⟩)] 1:=by
 subst hf;intro w W μ vs hG hW hvl hv hm hi;obtain⟨v0,v1,rfl⟩:∃v0 v1,vs=[v0,v1]:=by
  match vs,hvl with
  |[a,b],_=>exact⟨a,b,rfl⟩
 have r0:RepP w W μ v0 (.own 0 0 l.length):=hv 0 v0 (.own 0 0 l.length) rfl rfl;have r1:RepK w W μ v1 (.clo g []):=hv 1 v1 (.clo g []) rfl rfl;obtain⟨cs,rfl,q1,_⟩:=cloK r1 u1;have f0:cs=[]:=gW.1 (by simpa using q1);subst f0;have g0:(⟨[],[(0,⟨false,k,zz,l.map enc⟩)],1⟩:St).m 0=.row ⟨false,k,zz,l.map enc⟩:=by simp[St.m,look]
 have none:∀p y0,v0=.slice p 0 y0->l.length=0->Calls C.P (ρ.f 6) [v0,Value.func (.func g) #[] [].toArray].toArray w λ e w'=>∃v W' μ',e=.returned v/\Step (⟨[],[(0,⟨false,k,zz,l.map enc⟩)],1⟩:St).m (⟨[],[(0,⟨false,k,zz,(l.mergeSort λ x y=>!(ltOf F) y x).map enc⟩)],1⟩:St).m w w' W W' μ μ'/\Rep w' W' μ' v (.tup []):=by intro p y0 hp h0;subst hp;have s1:l=[]:=gW.1 h0;subst s1;refine(AnyF.slices_SortFunc_none L p y0 _ w).mono λ e w' ⟨he,hw⟩=>?_;subst hw;exact⟨_,W,μ,he,by simpa using Step.quiet (Keeps.refl _ _) hm hi hW,⟨[],rfl,rfl,λ i u a H O=>by simp at H⟩⟩
 have l0:=hm 0;rw[g0]at l0;obtain⟨m1,r0⟩:=r0;rcases l0 with⟨H,O,h3⟩|⟨kb,H,O⟩
 .rw[H]at r0;obtain⟨hn,p,hp⟩:=r0;exact none p 0 hp hn
 rw[H]at r0;obtain⟨U,r0⟩:=r0;rcases r0 with⟨hn,p,hp⟩|⟨y0,hp,i1,a1,o1⟩
 .exact none p 0 hp hn
 by_cases hn:l.length=0
 .rw[hn]at hp;exact none _ y0 hp hn
 subst hp
 replace O:=O.ok U
 obtain⟨t0,t1,_,us,b1,e0,Y,htot,M⟩:=O;simp only at t0 t1 M;haveI:Inhabited (Fin l.length):=⟨⟨0,by omega⟩⟩;have K:us.length=l.length*k:=by simpa using M.hl
 have m0:kb.b<w.heap.size:=(cS.1 Y).1;have c0:∀(i:Nat) (hi:i<l.length) (j:Nat) (a:A),(enc l[i])[j]? =some a->∃u,us[i*k+j]? =some u/\RepC w W u a:=λ i hi j a ha=>by obtain⟨u,hu,V⟩:=M.ha i (enc l[i]) j a (by rw[cV,cF hi];rfl) ha;exact⟨u,hu,V.toC (g9 (z1 l[i]) a (cU ha))⟩
 have B:∀{w':World},Keeps (λ x=>x=kb.b) w w'->∀{u:Value} {a:A},RepC w W u a->RepC w' W u a:=λ U _ _ V=>V.keep U (λ b _ H O=>H (O▸t0 trivial)) (λ _ _ h=>h);have hH:HoldsK (λ i:Fin l.length=>nth k us i) k w kb.b 0 (List.finRange l.length).toArray:=by
  intro j Z;have j0:j<l.length*k:=by simpa using Z
  constructor
  .simp only[World.cell?,Y,eC,id];simp only[oc,bZ,cI,fO];rw[dX om]
   conv=>lhs;rw[<-bD8 p0 K]
   rw[jA,fK Z,jR _ j Z]
  .simp only[World.frozen?,Y];simp
 have hC:CmpLays C.P g #[] (λ i:Fin l.length=>nth k us i) k (λ i j=>F l[i.1] l[j.1]) kb.b 0 (List.finRange l.length).toArray.size w:=by
  intro m os dk w1 x y;have U:=Uf (λ i:Fin l.length=>nth k us i) k w kb.b m dk os;have c1:zX (sortWorldK (λ i:Fin l.length=>nth k us i) k w kb.b 0 m dk os) W C.G:=λ q cs hq=>by obtain⟨H,O,h3⟩:=hG q cs hq;have d1:¬q=kb.b:=λ h=>H (h▸t0 trivial);refine⟨H,eK O U.size,λ j a Z=>?_⟩;obtain⟨u,hu,V⟩:=h3 j a Z;exact⟨u,(World.cell?_of_block (w:=w) (U.block q O d1)).trans hu,B U V⟩
  have o0:∀x:Fin l.length,RepV (sortWorldK (λ i:Fin l.length=>nth k us i) k w kb.b 0 m dk os) W rE (.agg (nth k us x).toArray) (.agg (enc l[x.1])):=λ x=>
   ⟨_,rfl,by rw[K1 K x.2,hk],λ i u a H O=>by
    have hi:i<k:=by rw[<-hk l[x.1]];exact(cJ.1 O).1
    obtain⟨u2,e1,V⟩:=c0 x.1 x.2 i a O;rw[Ov hi,e1]at H;cases H;exact nV (B U V)⟩
  refine(d0 l[x.1] l[y.1] _ W [.agg (nth k us x).toArray,.agg (nth k us y).toArray] c1 (λ b hb=>eK (hW b hb) U.size) rfl (λ i v a H O=>?_)).mono λ e w' ⟨v,he,B,V⟩=>?_
  .match i with
   |0=>cases H;cases O;exact o0 x
   |1=>cases H;cases O;exact o0 y
   |n+2=>simp at H
  .have f1:RepC w' W v (.int .i64 (F l[x.1] l[y.1])):=V;cases f1;exact⟨he,bD0 B⟩
 rw[kH];have g1:SWO (ltOf λ(i j:Fin l.length)=>F l[i.1] l[j.1]):=⟨λ x=>hO.irrefl _,λ x y z H O=>hO.trans _ _ _ H O,λ x y z H O=>hO.ntrans _ _ _ H O⟩;have s0:=AnyQ.slices_SortFunc L k aE zE (λ i:Fin l.length=>nth k us i) (λ x=>K1 K x.2) (λ x v h=>?_) (λ i j=>F l[i.1] l[j.1]) g1 g #[] kb.b 0 y0 (List.finRange l.length).toArray w eg hC hH m0 (by simp;omega)
 .rw[show(List.finRange l.length).toArray.size=l.length by simp]at s0;refine s0.mono λ e w' ⟨he,d',n,os,hp,hs,hw⟩=>?_;subst hw;obtain⟨x0,_,z0⟩:=hp;rw[show(List.finRange l.length).toArray.size=l.length by simp]at x0;have x1:=@Array.extract_size _ d';have x2:=@Array.extract_size _ (List.finRange l.length).toArray;rw[x0]at x1;rw[show(List.finRange l.length).toArray.size=l.length by simp]at x2;rw[x1,x2]at z0;have b0:d'.toList.map (λ i:Fin l.length=>l[i.1])=l.mergeSort λ x y=>!(ltOf F) y x:=by
   have p1:(d'.toList.map (λ i:Fin l.length=>l[i.1])).Perm l:=by
    have:=z0.map (λ i:Fin l.length=>l[i.1]);refine this.trans (.of_eq ?_);apply jX
    .simp
    .intro i H O;simp
   refine List.Perm.eq_of_pairwise (le:=λ x y=>(!ltOf F y x)=true) ?_ ?_ ?_ (p1.trans (List.mergeSort_perm _ _).symm)
   .intro a b ha hb H O;simp only[dB]at H O;exact hT a (p1.subset ha) b ((List.mergeSort_perm _ _).subset hb) O H
   .rw[eZ];intro i j hi Z k1;have u0:i<d'.size:=by simpa using hi
    have j0:j<d'.size:=by simpa using Z
    have:=hs i j (fS _) k1 om;rw[jR d' i u0,jR d' j j0]at this
    simpa [ltOf]using this
   .exact List.pairwise_mergeSort (λ a b c H O=>by simp only[dB]at*;exact hO.ntrans _ _ _ O H) (λ a b=>by
     cases hab:ltOf F b a
     .rfl
     .cases hba:ltOf F a b
      .simp
      .have:=hO.trans _ _ _ hab hba;rw[hO.irrefl]at this;cases this) _
  have U:=Uf (λ i:Fin l.length=>nth k us i) k w kb.b n d' os;refine⟨_,W,μ,he,?_,⟨[],rfl,rfl,λ i u a H O=>by simp at H⟩⟩;rw[bD9 ⟨false,k,zz,l.map enc⟩ ⟨false,k,zz,(l.mergeSort λ x y=>!(ltOf F) y x).map enc⟩];refine Step.write (r':=⟨false,k,zz,(l.mergeSort λ x y=>!(ltOf F) y x).map enc⟩) hm hi hW H g0 rfl rfl U ?_ (bD3 (λ i:Fin l.length=>nth k us i) k w kb.b n _ os Y (by rw[K,x0])) (by
    rw[<-htot,K];simp[x0])
  simp only;rw[<-b0];refine⟨by simp,λ i c h=>?_,λ i c j a hc ha=>?_⟩
  .rw[jP,cV]at h;obtain⟨x,_,rfl⟩:=cN.1 h;exact hk _
  .rw[jP,cV]at hc;obtain⟨x,hx,rfl⟩:=cN.1 hc;have Z:j<k:=by rw[<-hk l[x.1]];exact(cJ.1 ha).1
   obtain⟨hi,l1⟩:=cJ.1 hx;have u0:i<d'.size:=by simpa using hi
   have hlt:i*k+j<d'.size*k:=by have:(i+1)*k<=d'.size*k:=dR _ u0;rw[eD]at this;omega
   obtain⟨u,hu,V⟩:=c0 x.1 x.2 j a ha;refine⟨u,?_,nV V⟩;rw[Uh p0 K d' _ hlt,(Ug Z).1,(Ug Z).2,jR d' i u0,show d'[i]=x by simpa using l1];exact hu
 .have hx:=x.2;obtain⟨j,Z,e⟩:=gJ h;have a0:j<k:=by rw[<-K1 K x.2];exact Z
  have y1:j<(enc l[x.1]).length:=by rw[hk];exact a0
  have ha:(enc l[x.1])[j]? =some ((enc l[x.1])[j]'y1):=cF y1;obtain⟨u,hu,V⟩:=c0 x.1 hx j _ ha;have:some v=some u:=by rw[<-hu,<-Ov (us:=us) a0,cF Z,e]
  cases this;exact V.oneCell
end Ab
end Go.Proofs.YtfmnjkfhahfhgaaGreatDoor
