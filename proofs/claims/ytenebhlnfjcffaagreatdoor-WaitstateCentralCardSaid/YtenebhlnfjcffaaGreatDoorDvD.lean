import Derived.Test.YtenebhlnfjcffaaGreatDoorDvA
import Derived.Test.YtenebhlnfjcffaaGreatDoorStr
namespace Go.Proofs.YtenebhlnfjcffaaGreatDoor
namespace Ab
set_option linter.unusedVariables false
set_option linter.unusedSimpArgs false
theorem zbD3{α:Type}{P:List α->Prop}(h0:P [])(h1:∀l a,P l->P (l++[a]))(l:List α):P l:=by
 rw[<-List.reverse_reverse l];generalize l.reverse=m;induction m with
 |nil=>exact h0
 |cons a m ih=>rw[List.reverse_cons];exact h1 _ _ ih
theorem zdf4(a b:List bC)(n:ByteArray):zg0 (a++b) n=b.foldl (sayE n) (zg0 a n):=by unfold zg0;rw[kP]
theorem LedgerP.snoc{l:aW}(h:LedgerP l){n:ByteArray}{a:aC}(hn:zE5 n=true)(hg:zv7 (zg0 l.aD n) a=true){ns:List ByteArray}(nd:ns.Nodup)(h8:ns.length<=8)
  (hs:∀e∈l.aD,e.name∈ns) (hm:n∈ns):LedgerP ⟨l.aD++[⟨n,zg0 l.aD n,a⟩],l.aY⟩:=by
 have hent:∀i,i<(l.aD++[(⟨n,zg0 l.aD n,a⟩:bC)]).length->EntV (l.aD++[(⟨n,zg0 l.aD n,a⟩:bC)]) i:=λ i hi=>by
  rw[cD,List.length_singleton]at hi
  by_cases c:i<l.aD.length
  .have:=h.ent i c;unfold EntV at this⊢;rw[zaH5 _ _ _ _ c,eP (by omega)];exact this
  .have e:i=l.aD.length:=by omega
   subst e;unfold EntV;rw[zaM1,eP (dA _),dH];exact⟨hn,rfl,hg⟩
 have hall:∀e∈l.aD++[(⟨n,zg0 l.aD n,a⟩:bC)],e.name∈ns:=λ e he=>by
  rcases cR.1 he with he|he
  .exact hs e he
  .rw[dN.1 he];exact hm
 refine⟨?_,h.ls,hent,λ ms md hms=>?_,λ i hi=>?_⟩
 .have:=zcE9 hent nd h8 hall;show(l.aD++[_]).length<=72;omega
 .have:=dL md (l₂:=ns) λ m hm=>by
   obtain⟨e,he,hen⟩:=hms m hm;rw[<-hen];exact hall e he
  omega
 .obtain⟨h1,h2,h3,h4,h5⟩:=h.sv i hi;refine⟨h1,h2,h3,?_,h5⟩;show(l.aY.getD i bK.zero).at_<=(((l.aD++[(⟨n,zg0 l.aD n,a⟩:bC)]).length:Nat):Int);rw[cD];omega
theorem LedgerP.mono{l:aW}(h:LedgerP l):∀d i,i+d<l.aY.length->(l.aY.getD i bK.zero).at_<=(l.aY.getD (i+d) bK.zero).at_
 |0,i,_=>iO _
 |d+1,i,hd=>by have h1:=h.mono d i (by omega);have h2:=(h.sv (i+(d+1)) hd).2.2.2.2.1 (by omega);rw[show i+(d+1)-1=i+d by omega]at h2;omega
theorem LedgerP.cut{l:aW}(h:LedgerP l){k sv:Nat}(hk:k<=l.aD.length)(hsv:sv<=l.aY.length)(hat:∀i,i<sv->(l.aY.getD i bK.zero).at_<=(k:Int)):LedgerP ⟨l.aD.take k,l.aY.take sv⟩:=by
 have e1:(l.aD.take k).length=k:=by rw[cU];omega
 have e2:(l.aY.take sv).length=sv:=by rw[cU];omega
 refine⟨by have:=h.le;show(l.aD.take k).length<=72;omega,by have:=h.ls;show(l.aY.take sv).length<=4;omega,λ i hi=>?_,λ ms md hms=>h.n8 ms md λ n hn=>?_,λ i hi=>?_⟩
 .have hi:i<k:=by rw[<-e1];exact hi
  have:=h.ent i (by omega);unfold EntV at this⊢;show zE5 ((l.aD.take k).getD i bC.zero).name=true/\((l.aD.take k).getD i bC.zero).before=zg0 ((l.aD.take k).take i) _/\_;rw[zaH4 _ _ _ _ hi,gH,fG (by omega)];exact this
 .obtain⟨e,he,hen⟩:=hms n hn;exact⟨e,fV he,hen⟩
 .have hi:i<sv:=by rw[<-e2];exact hi
  obtain⟨h1,h2,h3,h4,h5,h6⟩:=h.sv i (by omega);have hh:=hat i hi;unfold zaX5;show 1<=((l.aY.take sv).getD i bK.zero).label/\((l.aY.take sv).getD i bK.zero).label<=99/\0<=((l.aY.take sv).getD i bK.zero).at_/\((l.aY.take sv).getD i bK.zero).at_<=(((l.aD.take k).length:Nat):Int)/\
   (0<i->((l.aY.take sv).getD (i-1) bK.zero).at_<=((l.aY.take sv).getD i bK.zero).at_)/\∀j,j<i->((l.aY.take sv).getD j bK.zero).label≠((l.aY.take sv).getD i bK.zero).label
  rw[zaH4 _ _ _ _ hi,e1];refine⟨h1,h2,h3,hh,λ h0=>?_,λ j hj=>?_⟩
  .rw[zaH4 _ _ _ _ (by omega)];exact h5 h0
  .rw[zaH4 _ _ _ _ (by omega)];exact h6 j hj
def isnt(n:ByteArray)(e:bC):Bool:=!decide (e.name=n)
def gone(n:ByteArray)(l:List bC):List bC:=l.filter (isnt n)
theorem zbI2(n:ByteArray)(l:List bC)(e:bC):gone n (l++[e])=gone n l++(if e.name=n then[]else[e]):=by
 unfold gone;rw[jK]
 by_cases c:e.name=n
 .rw[bX c,List.filter_cons_of_neg (by unfold isnt;simp[c])];rfl
 .rw[bV c,List.filter_cons_of_pos (by unfold isnt;simp[c])];rfl
theorem zcm7{n m:ByteArray}(h:m≠n)(l:List bC):zg0 (gone n l) m=zg0 l m:=by
 refine zbD3 (P:=λ l=>zg0 (gone n l) m=zg0 l m) rfl (λ l e ih=>?_) l;rw[zbI2,zV1]
 by_cases c:e.name=n
 .rw[bX c,dX,ih,bV (by rw[c];exactλ h2=>h h2.symm)]
 .rw[bV c,zV1,ih]
theorem zdf5(n:ByteArray)(l:List bC):zg0 (gone n l) n=aC.zero:=by
 refine zbD3 (P:=λ l=>zg0 (gone n l) n=aC.zero) rfl (λ l e ih=>?_) l;rw[zbI2]
 by_cases c:e.name=n
 .rw[bX c,dX,ih]
 .rw[bV c,zV1,bV c,ih]
theorem zcc2(l:List bC):(∀i,i<l.length->EntV l i)↔∀a e b,l=a++e::b->zE5 e.name=true/\e.before=zg0 a e.name/\zv7 e.before e.after=true:=by
 constructor
 .intro h a e b hl;have:=h a.length (by rw[hl];simp);unfold EntV at this;rw[hl,zaM1,eP (dA _),dH]at this;exact this
 .intro h i hi;exact h (l.take i) (l.getD i bC.zero) (l.drop (i+1)) (by rw[<-zaH3 l i bC.zero hi,eH])
def cutS(n:ByteArray)(l:List bC)(i:Nat)(s:bK):bK:={s with at_:=s.at_-(((l.take i).take s.at_.toNat).filter λ e=>decide (e.name=n)).length}
def zcm8(n:ByteArray)(l:aW):aW:=⟨gone n l.aD,l.aY.map (cutS n l.aD l.aD.length)⟩
theorem zbz0(n:ByteArray):∀l:List bC,(gone n l).length+(l.filter λ e=>decide (e.name=n)).length=l.length
 |[]=>rfl
 |e::l=>by
  have:=zbz0 n l;unfold gone isnt at*
  by_cases c:e.name=n
  .simp only[jC,c,cA,cO,bT,cB,cC,List.length_cons];omega
  .simp only[jC,c,cJ,dC,bT,cB,cC,List.length_cons];omega
theorem zcW6{n:ByteArray}{l:List bC}{s:bK}(h0:0<=s.at_)(h1:s.at_<=(l.length:Int)):(cutS n l l.length s).at_=((gone n (l.take s.at_.toNat)).length:Int):=by
 have:=zbz0 n (l.take s.at_.toNat);have e:(l.take s.at_.toNat).length=s.at_.toNat:=by rw[cU];omega
 unfold cutS;simp only[dH];omega
theorem zcm9(n:ByteArray)(l:List bC){a b:Nat}(h:a<=b):(gone n (l.take a)).length<=(gone n (l.take b)).length:=by
 have:(l.take a).Sublist (l.take b):=by rw[show a=min a b by omega,<-gH];exact List.take_sublist _ _
 exact(this.filter _).length_le
theorem LedgerP.drop{l:aW}(h:LedgerP l)(n:ByteArray):LedgerP (zcm8 n l):=by
 have hsub:(gone n l.aD).Sublist l.aD:=iK;have gm:∀i,i<l.aY.length->(l.aY.map (cutS n l.aD l.aD.length)).getD i bK.zero=cutS n l.aD l.aD.length (l.aY.getD i bK.zero):=λ i hi=>by rw[bW,cN,bW,bZ hi];rfl
 refine⟨eC hsub.length_le h.le,by show(l.aY.map _).length<=4;rw[dB];exact h.ls,(zcc2 _).2 λ a e b hl=>?_,λ ms md hms=>h.n8 ms md λ m hm=>?_,λ i hi=>?_⟩
 .obtain⟨x,y,h1,h2,h3⟩:=List.filter_eq_append_iff.1 (show l.aD.filter (isnt n)=a++e::b from hl);obtain⟨u,v,h4,h5,h6,h7⟩:=List.filter_eq_cons_iff.1 h3;obtain⟨k1,k2,k3⟩:=(zcc2 _).1 h.ent (x++u) e v (by rw[h1,h4,dD]);refine⟨k1,?_,k3⟩;have hen:e.name≠n:=by unfold isnt at h6;simpa using h6
  have hu:gone n u=[]:=List.filter_eq_nil_iff.2 h5;rw[k2,<-zcm7 hen,<-h2];unfold gone at hu⊢;rw[jK,hu,dX]
 .obtain⟨e,he,hen⟩:=hms m hm;exact⟨e,hsub.subset he,hen⟩
 .have hi:i<l.aY.length:=by have:i<(l.aY.map (cutS n l.aD l.aD.length)).length:=hi;rwa [dB]at this
  obtain⟨h1,h2,h3,h4,h5,h6⟩:=h.sv i hi;unfold zaX5;show 1<=((l.aY.map (cutS n l.aD l.aD.length)).getD i bK.zero).label/\((l.aY.map (cutS n l.aD l.aD.length)).getD i bK.zero).label<=99/\0<=((l.aY.map (cutS n l.aD l.aD.length)).getD i bK.zero).at_/\((l.aY.map (cutS n l.aD l.aD.length)).getD i bK.zero).at_<=(((gone n l.aD).length:Nat):Int)/\
   (0<i->((l.aY.map (cutS n l.aD l.aD.length)).getD (i-1) bK.zero).at_<=((l.aY.map (cutS n l.aD l.aD.length)).getD i bK.zero).at_)/\∀j,j<i->((l.aY.map (cutS n l.aD l.aD.length)).getD j bK.zero).label≠((l.aY.map (cutS n l.aD l.aD.length)).getD i bK.zero).label
  rw[gm i hi,zcW6 h3 h4];refine⟨h1,h2,by omega,?_,λ h0=>?_,λ j hj=>?_⟩
  .have:=zcm9 n l.aD (show(l.aY.getD i bK.zero).at_.toNat<=l.aD.length by omega);rw[dH]at this;omega
  .obtain⟨_,_,g3,g4,_⟩:=h.sv (i-1) (by omega);rw[gm (i-1) (by omega),zcW6 g3 g4];have:=h5 h0;have:=zcm9 n l.aD (show(l.aY.getD (i-1) bK.zero).at_.toNat<=(l.aY.getD i bK.zero).at_.toNat by omega);omega
  .rw[gm j (by omega)];exact h6 j hj
theorem zbO7{l:aW}{e:bC}(h:LedgerP l)(h2:LedgerP ⟨l.aD++[e],l.aY⟩):zw2 l e=some (⟨l.aD++[e],l.aY⟩,0):=by have:=h.le;have:=h.ls;unfold zw2;rw[zaq3 h,Option.bind_some,bV (by decide),gdp (by omega),gdp (by omega),gdp (by omega),zaq3 h2,Option.bind_some,bV (by decide)]
theorem zdf6{l:aW}(h:LedgerP l)(n:Int):∃r,zC9 l n=some r/\(r.2=0->LedgerP r.1/\r.1.aD=l.aD):=by
 have hle:=h.le;have hls:=h.ls;unfold zC9;rw[zaq3 h,Option.bind_some,bV (by decide)]
 by_cases c1:((decide (n<1))||(decide (99<n)))=true
 .rw[bX c1];exact⟨_,rfl,λ h=>nomatch h⟩
 rw[bV c1];obtain⟨v,f1,f2⟩:=zbI1 l.aY n (by omega);rw[f1,Option.bind_some];rcases f2 with⟨rfl,hn⟩|⟨i,rfl,hi,_⟩
 .rw[bV (by decide)]
  by_cases c2:(l.aY.length:Int)=4
  .rw[bX (cG c2)];exact⟨_,rfl,λ h=>nomatch h⟩
  rw[bV (by simpa using c2),gdp (by omega),gdp (by omega),gdp (by omega)];simp only[dI,bY,kD]at c1;refine⟨_,rfl,λ _=>⟨⟨hle,by show(l.aY++[_]).length<=4;rw[cD,List.length_singleton];omega,h.ent,h.n8,λ i hi=>?_⟩,rfl⟩⟩;have hi:i<(l.aY++[(⟨n,(l.aD.length:Int)⟩:bK)]).length:=hi;rw[cD,List.length_singleton]at hi;unfold zaX5;simp only
  by_cases c:i<l.aY.length
  .obtain⟨h1,h2,h3,h4,h5,h6⟩:=h.sv i c;rw[zaH5 _ _ _ _ c];refine⟨h1,h2,h3,h4,λ h0=>?_,λ j hj=>?_⟩
   .rw[zaH5 _ _ _ _ (by omega)];exact h5 h0
   .rw[zaH5 _ _ _ _ (by omega)];exact h6 j hj
  .have e:i=l.aY.length:=by omega
   subst e;rw[zaM1];refine⟨by simp only;omega,by simp only;omega,by simp only;omega,iO _,λ h0=>?_,λ j hj=>?_⟩
   .rw[zaH5 _ _ _ _ (by omega)];exact(h.sv _ (by omega)).2.2.2.1
   .rw[zaH5 _ _ _ _ hj];exact hn _ (zd5 hj)
 .rw[bX (by simp)];exact⟨_,rfl,λ h=>nomatch h⟩
theorem zdf7{l:List bC}{k:Nat}{n:ByteArray}(h:∀e∈l.drop k,e.name≠n):zg0 l n=zg0 (l.take k) n:=by
 have key:∀(b:List bC) (a:aC),(∀e∈b,e.name≠n)->b.foldl (sayE n) a=a:=by
  intro b;induction b with
  |nil=>intro a _;rfl
  |cons e b ih=>intro a hb;rw[List.foldl_cons,show sayE n a e=a by unfold sayE;rw[bV (hb e (.head _))]];exact ih a λ x hx=>hb x (.tail _ hx)
 rw[<-eH k l,zdf4,key _ _ h,eH]
theorem zdf8{l:aW}(h:LedgerP l)(label:Int):∃r,zy8 l label=some r/\(r.2.2=0->LedgerP r.1/\∃k:Nat,k<=l.aD.length/\r.1.aD=l.aD.take k/\(∀a∈r.2.1,(∃e∈l.aD,e.name=a.name)/\a.aM=zg0 (l.aD.take k) a.name)/\
  (∀n,zg0 l.aD n≠zg0 (l.aD.take k) n->∃a∈r.2.1,a.name=n))/\r.2.1.length<=72:=by
 have hle:=h.le;have hls:=h.ls;have k1:∀(at_:Nat) (sv:Nat),at_<=l.aD.length->sv<=l.aY.length->(∀i,i<sv->(l.aY.getD i bK.zero).at_<=(at_:Int))->∃r,zaa7 l ((at_:Int),(sv:Int))=some r/\(r.2.2=0->LedgerP r.1/\∃k:Nat,k<=l.aD.length/\r.1.aD=l.aD.take k/\(∀a∈r.2.1,(∃e∈l.aD,e.name=a.name)/\a.aM=zg0 (l.aD.take k) a.name)/\
  (∀n,zg0 l.aD n≠zg0 (l.aD.take k) n->∃a∈r.2.1,a.name=n))/\r.2.1.length<=72:=by
  intro at_ sv ha hs hat;unfold zaa7;simp only[Int.toNat_natCast];rw[gdp (by omega),gdp (by simp only[cU];omega),gdp (by omega),gdp (by simp only[cU];omega),gdp (by omega)];obtain⟨ns,n1,n2,n3⟩:=zbo9 (l.aD.drop at_) (by simp only[eK];omega);rw[n1,Option.bind_some];have hnl:ns.length<=72:=by rw[eK]at n2;omega
  have key:=zap9 ns (⟨#[]⟩:ByteArray) (λ n=>(⟨n,zg0 (l.aD.take at_) n⟩:aJ)) [] (body:=zak6 l ((at_:Int),(sv:Int)) ns) (by omega) (by simp) (λ i s hi hs'=>by
   unfold zak6;have h3:0<=(i:Int)/\(i:Int)<(ns.length:Int):=by omega
   have h5:s.length+1<=4294967296:=by omega
   simp only[h3.1,h3.2,h5,cS,zg9,cA,cC,Int.toNat_natCast,zc4 i (show i<4611686018427387904 by omega)];rw[zad7 _ _ (by simp only[cU];omega)];rfl) (λ s=>by unfold zak6;simp)
  rw[key,Option.bind_some];refine⟨_,rfl,λ _=>⟨h.cut ha hs hat,at_,ha,rfl,λ a hm=>?_,λ n hn=>?_⟩,?_⟩
  .obtain⟨n,hn,e⟩:=cI.1 (show a∈ns.map _ from hm);cases e;obtain⟨en,he,hen⟩:=(n3 n).1 hn;exact⟨⟨en,gX he,hen⟩,rfl⟩
  .by_cases c:∃e∈l.aD.drop at_,e.name=n
   .exact⟨_,cI.2 ⟨n,(n3 n).2 c,rfl⟩,rfl⟩
   .exact absurd (zdf7 λ e he hen=>c ⟨e,he,hen⟩) hn
  .show(ns.map _).length<=72;rw[dB];exact hnl
 unfold zy8;rw[zaq3 h,Option.bind_some];simp only[cO,bT,cB]
 by_cases c:label=0
 .rw[bV (by simp[c])];exact k1 0 0 (by omega) (by omega) λ i hi=>by omega
 .rw[bX (by simp[c])];obtain⟨v,f1,f2⟩:=zbI1 l.aY label (by omega);rw[f1,Option.bind_some];rcases f2 with⟨rfl,_⟩|⟨i,rfl,hi,_⟩
  .exact⟨_,rfl,(λ h=>nomatch h),by simp⟩
  .have hs:=h.sv i hi;rw[bV (by simp),gdp (by omega),Int.toNat_natCast,zc4 i (by omega),show(l.aY.getD i bK.zero).at_=(((l.aY.getD i bK.zero).at_.toNat:Nat):Int)by have:=hs.2.2.1;omega];refine k1 _ _ (by have:=hs.2.2.2.1;omega) (by omega) λ j hj=>?_;have:=h.mono (i-j) j (by omega);rw[show j+(i-j)=i by omega]at this;have:=hs.2.2.1;omega
theorem zcg9{l:aW}(h:LedgerP l){n:ByteArray}(hn:∃e∈l.aD,e.name=n):zx9 l n=some (zcm8 n l,true):=by
 have hle:=h.le;have hls:=h.ls;unfold zx9;rw[zaq3 h,Option.bind_some];simp only[cO,bT,cB];rw[gdp (by omega)];have step:∀(k:Nat),k<l.aD.length->(l.aD.getD k bC.zero).name=n->∀s∈l.aY,cutS n l.aD (k+1) s=if(k:Int)<s.at_ then{cutS n l.aD k s with at_:=IntKind.i64.wrap ((cutS n l.aD k s).at_-1)}else cutS n l.aD k s:=λ k hk hkn s hs=>by
  have hat:=h.at_ s hs;have hc:(((l.aD.take k).take s.at_.toNat).filter λ e=>decide (e.name=n)).length<=k:=eC (iR _ _) (by rw[cU,cU];omega);unfold cutS
  by_cases c:(k:Int)<s.at_
  .rw[bX c,zj1 (by simp only;omega) (by simp only;omega),dO (l:=l.aD.take k) (by rw[cU];omega),dO (l:=l.aD.take (k+1)) (by rw[cU];omega),zx3 bC.zero hk,jK,show[l.aD.getD k bC.zero].filter (λ e=>decide (e.name=n))=[l.aD.getD k bC.zero]from List.filter_cons_of_pos (cG hkn)];simp only[cD,List.length_singleton];congr 1;omega
  .rw[bV c,gH,gH,fG (by omega),fG (by omega)]
 have inner:∀(k:Nat),k<l.aD.length->(l.aD.getD k bC.zero).name=n->∀es,zc2 (zak5 l ((k:Int),(⟨es,l.aY.map (cutS n l.aD k)⟩:aW))) (0,⟨es,l.aY.map (cutS n l.aD k)⟩)=some ⟨es,l.aY.map (cutS n l.aD (k+1))⟩:=λ k hk hkn es=>by
  obtain⟨x,h1,h2⟩:=zq9 (body:=zak5 l ((k:Int),(⟨es,l.aY.map (cutS n l.aD k)⟩:aW))) (λ g=>∃j:Nat,j<=l.aY.length/\g=((j:Int),(⟨es,(l.aY.take j).map (cutS n l.aD (k+1))++(l.aY.drop j).map (cutS n l.aD k)⟩:aW))) (λ g=>l.aY.length-g.1.toNat) (λ y=>y=⟨es,l.aY.map (cutS n l.aD (k+1))⟩)
   (λ g ⟨j,hj,hg⟩=>by
    subst hg;unfold zak5;have hlen:((l.aY.take j).map (cutS n l.aD (k+1))++(l.aY.drop j).map (cutS n l.aD k)).length=l.aY.length:=by rw[cD,dB,dB,cU,eK];omega
    by_cases c:j<l.aY.length
    .left;have h3:0<=(j:Int)/\(j:Int)<(l.aY.length:Int):=by omega
     have e1:((l.aY.take j).map (cutS n l.aD (k+1))).length=j:=by rw[dB,cU];omega
     have e2:(l.aY.drop j).map (cutS n l.aD k)=cutS n l.aD k (l.aY.getD j bK.zero)::(l.aY.drop (j+1)).map (cutS n l.aD k):=by rw[zaH3 l.aY j bK.zero c];rfl
     have e3:=zaM1 ((l.aY.take j).map (cutS n l.aD (k+1))) ((l.aY.drop (j+1)).map (cutS n l.aD k)) (cutS n l.aD k (l.aY.getD j bK.zero)) bK.zero;rw[e1,<-e2]at e3;have e4:=λ z=>zbr7 ((l.aY.take j).map (cutS n l.aD (k+1))) ((l.aY.drop (j+1)).map (cutS n l.aD k)) (cutS n l.aD k (l.aY.getD j bK.zero)) z;rw[e1,<-e2]at e4;have e5:(l.aY.take (j+1)).map (cutS n l.aD (k+1))++(l.aY.drop (j+1)).map (cutS n l.aD k)=(l.aY.take j).map (cutS n l.aD (k+1))++cutS n l.aD (k+1) (l.aY.getD j bK.zero)::(l.aY.drop (j+1)).map (cutS n l.aD k):=by rw[show l.aY.take (j+1)=l.aY.take j++[l.aY.getD j bK.zero]by rw[List.take_add_one,bZ c,bW,bZ c];rfl,fA,dD];rfl
     have hst:=step k hk hkn _ (zd5 (z:=bK.zero) c);simp only[hlen,h3.1,h3.2,cS,zg9,cA,cC,Int.toNat_natCast,zc4 j (show j<4611686018427387904 by omega),e3,bY]
     by_cases c2:(k:Int)<(l.aY.getD j bK.zero).at_
     .rw[bX c2]at hst⊢;exact⟨_,rfl,⟨j+1,c,by rw[e4,e5,hst]⟩,by simp only[Int.toNat_natCast];omega⟩
     .rw[bV c2]at hst⊢;exact⟨_,rfl,⟨j+1,c,by rw[e5,hst,e2]⟩,by simp only[Int.toNat_natCast];omega⟩
    .right;have e:j=l.aY.length:=by omega
     subst e;simp only[hlen,eR,cJ,bT,cB];exact⟨_,rfl,by rw[dH,kV,iZ,dX]⟩) (0,⟨es,l.aY.map (cutS n l.aD k)⟩) ⟨0,by omega,rfl⟩
  rw[h1,h2]
 obtain⟨x,h1,h2⟩:=zq9 (body:=zaa6 l n) (λ g=>∃k:Nat,k<=l.aD.length/\g=((k:Int),(⟨gone n (l.aD.take k),l.aY.map (cutS n l.aD k)⟩:aW))) (λ g=>l.aD.length-g.1.toNat) (λ y=>y=zcm8 n l)
  (λ g ⟨k,hk,hg⟩=>by
   subst hg;unfold zaa6
   by_cases c:k<l.aD.length
   .left;have h3:0<=(k:Int)/\(k:Int)<(l.aD.length:Int):=by omega
    have h5:(gone n (l.aD.take k)).length+1<=4294967296:=by have:(gone n (l.aD.take k)).length<=(l.aD.take k).length:=iR _ _;rw[cU]at this;omega
    have e1:gone n (l.aD.take (k+1))=gone n (l.aD.take k)++(if(l.aD.getD k bC.zero).name=n then[]else[l.aD.getD k bC.zero]):=by rw[zx3 bC.zero c,zbI2]
    simp only[h3.1,h3.2,h5,cS,zg9,cA,cC,Int.toNat_natCast,zc4 k (show k<4611686018427387904 by omega),zP0]
    by_cases c2:(l.aD.getD k bC.zero).name=n
    .rw[bV (by rw[cG c2];decide),inner k c c2,Option.bind_some];rw[bX c2,dX]at e1;unfold zaM7;exact⟨_,by rw[zc4 k (by omega)],⟨k+1,c,by rw[e1]⟩,by simp only[Int.toNat_natCast];omega⟩
    .rw[bX (by rw[eE c2];decide)];rw[bV c2]at e1;refine⟨_,rfl,⟨k+1,c,?_⟩,by simp only[Int.toNat_natCast];omega⟩;rw[e1];congr 2;refine kE λ s hs=>?_;unfold cutS;rw[gH,gH]
     by_cases c3:s.at_.toNat<=k
     .rw[fG c3,fG (by omega)]
     .rw[iL (by omega),iL (by omega),zx3 bC.zero c,jK,List.filter_cons_of_neg (by rw[eE c2];decide),List.filter_nil,dX]
   .right;have e:k=l.aD.length:=by omega
    subst e;simp only[eR,cJ,bT,cB];exact⟨_,rfl,by rw[dH];rfl⟩) (0,⟨[],l.aY⟩) ⟨0,by omega,by
   have:l.aY.map (cutS n l.aD 0)=l.aY:=by refine(kE λ s hs=>?_).trans (List.map_id _);unfold cutS;simp
   show((0:Int),(⟨[],l.aY⟩:aW))=((0:Int),⟨[],l.aY.map (cutS n l.aD 0)⟩);rw[this]⟩
 rw[h1,Option.bind_some,h2];unfold zaM6;have hlt:(gone n l.aD).length<l.aD.length:=by have:=zbz0 n l.aD;obtain⟨e,he,hen⟩:=hn;have:0<(l.aD.filter λ e=>decide (e.name=n)).length:=List.length_pos_of_mem (hI.2 ⟨he,cG hen⟩);omega
 rw[bV (by simp only[bY];show¬(((gone n l.aD).length:Nat):Int)=_;omega)]
theorem zcO4:∀{l:List aO} {k:aO},okL l=true->k∈l->okE k=true
 |x::l,k,h,hk=>by
  simp only[okL,bU]at h;rcases cF.1 hk with rfl|hk
  .exact h.1
  .exact zcO4 h.2 hk
theorem zcO5{e:aO}(h:vE e=true):okE e=true/\fitE e=true:=by
 unfold vE at h;rw[bU]at h;refine⟨?_,h.1⟩;have h2:=h.2;unfold zak9 at h2;split at h2
 .assumption
 .cases h2
theorem zcc3{α β:Type}{o:Option α}{f:α->β}{b:β}(h:(o.bind λ v=>some (f v))=some b):∃v,o=some v/\f v=b:=by
 cases o with
 |none=>cases h
 |some v=>exact⟨v,rfl,dS h⟩
theorem zaE5(e:aO):∃v,zi4 e=some v/\v.2=vE e:=by have h:=zaT8 e;unfold zE3 at h;exact zcc3 h
theorem zaU1{e:aO}{v:List aJ×Bool}(h:zi4 e=some v):v.1.length<=8:=by
 unfold zi4 at h;obtain⟨v1,h1,h⟩:=zf3 h
 by_cases c:v1=0
 .rw[bX (by simpa using c)]at h;cases h;simp
 rw[bV (by simpa using c)]at h;obtain⟨v2,h2,h⟩:=zf3 h;cases v2 with
 |inl v2=>cases h;simp
 |inr v2=>
  simp only at h
  by_cases c2:((!v2.2)||(decide (8<(v2.1.length:Int))))=true
  .rw[bX c2]at h;cases h;simp
  .rw[bV c2]at h;have hl:v2.1.length<=8:=by
    simp only[dI,bY,kD]at c2;omega
   have ho:=zaX3 v2 (by omega)
   by_cases d:dnN v2.1
   .rw[ho.1 d]at h;have:zQ3 v2 ()=some v:=h;unfold zQ3 at this;cases this;exact hl
   .rw[ho.2 d]at h;cases h;simp
theorem zbp1{e:aO}{v:List aJ×Bool}(h:zi4 e=some v):dnN v.1:=by
 unfold zi4 at h;obtain⟨v1,h1,h⟩:=zf3 h
 by_cases c:v1=0
 .rw[bX (by simpa using c)]at h;cases h;exact .nil
 rw[bV (by simpa using c)]at h;obtain⟨v2,h2,h⟩:=zf3 h;cases v2 with
 |inl v2=>cases h;exact .nil
 |inr v2=>
  simp only at h
  by_cases c2:((!v2.2)||(decide (8<(v2.1.length:Int))))=true
  .rw[bX c2]at h;cases h;exact .nil
  .rw[bV c2]at h;have hl:v2.1.length<=8:=by
    simp only[dI,bY,kD]at c2;omega
   have ho:=zaX3 v2 (by omega)
   by_cases d:dnN v2.1
   .rw[ho.1 d]at h;have:zQ3 v2 ()=some v:=h;unfold zQ3 at this;cases this;exact d
   .rw[ho.2 d]at h;cases h;exact .nil
theorem zcc4{L:List aJ}(h:dnN L){a b:aJ}(ha:a∈L)(hb:b∈L)(e:a.name=b.name):a=b:=by
 obtain⟨i,hi,rfl⟩:=eY.1 ha;obtain⟨j,hj,rfl⟩:=eY.1 hb;have k:=λ x y hx hy hxy=>dU.1 h x y hx hy hxy;rcases gZ i j with c|c|c
 .have:=k i j hi hj c;rw[e]at this;simp at this
 .subst c;rfl
 .have:=k j i hj hi c;rw[e]at this;simp at this
theorem zdf9(e:aO)(L:List aJ)(S:List Bool)(hL:L.length<=1000):∃b,((zc2 (zF6 e L S) 0).bind (λ|.inl z=>zaf5 z|.inr z=>some z))=some b/\((∀i,S.getD i false=false)->b=false):=by
 obtain⟨x,h1,h2⟩:=zq9 (body:=zF6 e L S) (λ g=>∃i:Nat,g=i/\i<=L.length) (λ g=>L.length-g.toNat) (λ x=>∀b,x=.inr b->(∀i,S.getD i false=false)->b=false)
  (λ g ⟨i,hi,hle⟩=>by
   subst hi;unfold zF6
   by_cases c:i<L.length
   .have h3:0<=(i:Int)/\(i:Int)<(L.length:Int):=by omega
    simp only[h3.1,h3.2,cS,zg9,cA,cC,Int.toNat_natCast]
    by_cases d:L.getD i aJ.zero=e.bG
    .right;rw[bX (by simpa using d),gdp (by intro h;simp only[bY]at h;simp;omega)];exact⟨_,rfl,λ b hb hS=>by cases hb;rw[hS,iM]⟩
    .left;rw[bV (by simpa using d),zc4 i (by omega)];exact⟨_,rfl,⟨i+1,rfl,c⟩,by simp only[Int.toNat_natCast];omega⟩
   .right;simp only[show¬(i:Int)<(L.length:Int)by omega,cJ,bT,cB];exact⟨_,rfl,λ b hb=>by cases hb⟩) 0 ⟨0,rfl,by omega⟩
 rw[h1];cases x with
 |inl x=>exact⟨false,rfl,λ _=>rfl⟩
 |inr b=>exact⟨b,rfl,h2 b rfl⟩
theorem zcF0:∀(n:Nat) (e:aO),_root_.SizeOf.sizeOf e<n->zr9 e<=24->∀(L:List aJ) (S:List Bool),L.length<=1000->∃b,fr_ref08_holds n e L S=some b/\(okE e=true->(∀i,S.getD i false=false)->b=false)
 |0,_,h,_,_,_,_=>by omega
 |n+1,e,h,hn,L,S,hL=>by
  show∃b,zI6 (fr_ref08_holds n) e L S=some b/\_;unfold zI6;have hl:=zK3 e.bE;have hne:=zX9 e
  by_cases c:e.k=0
  .rw[bX (by simpa using c)];obtain⟨b,h1,h2⟩:=zdf9 e L S hL;exact⟨b,h1,λ _=>h2⟩
  .rw[bV (by simpa using c)];obtain⟨x,h1,h2⟩:=zq9 (body:=zX2 (fr_ref08_holds n) e L S) (λ g=>∃i:Nat,g.2=i/\i<=e.bE.length/\0<=g.1/\g.1<=i/\(okL e.bE=true->(∀i,S.getD i false=false)->g.1=0)) (λ g=>e.bE.length-g.2.toNat)
    (λ x=>okL e.bE=true->(∀i,S.getD i false=false)->x=0)
    (λ g ⟨i,hi,hle,h0,h4,hg⟩=>by
     obtain⟨m,g2⟩:=g;simp only at hi h0 h4 hg;subst hi;unfold zX2
     by_cases c:i<e.bE.length
     .left;have h3:0<=(i:Int)/\(i:Int)<(e.bE.length:Int):=by omega
      simp only[h3.1,h3.2,cS,zg9,cA,cC,Int.toNat_natCast];have hk:=zd5 (z:=aO.zero) c;obtain⟨b,e1,e2⟩:=zcF0 n _ (zaq2 h hk) (by have:=zbH9 hk;omega) L S hL;rw[e1,Option.bind_some,zc4 i (by omega)];cases b with
      |true=>rw[bX rfl,zj1 (by omega) (by omega)];exact⟨_,rfl,⟨i+1,rfl,c,by simp only;omega,by simp only;omega,λ ho hS=>by have:=e2 (zcO4 ho hk) hS;cases this⟩,by simp only[Int.toNat_natCast];omega⟩
      |false=>rw[bV (by decide)];exact⟨_,rfl,⟨i+1,rfl,c,h0,by simp only;omega,hg⟩,by simp only[Int.toNat_natCast];omega⟩
     .right;simp only[show¬(i:Int)<(e.bE.length:Int)by omega,cJ,bT,cB];exact⟨_,rfl,hg⟩) (0,0) ⟨0,rfl,by omega,by simp,by simp,λ _ _=>rfl⟩
   rw[h1,Option.bind_some];refine⟨_,rfl,λ ho hS=>?_⟩
   by_cases ck:e.bE.length=0
   .exact absurd ((zcb4 ck).1 ho).1 c
   .have h5:=(zcb5 ck).1 ho;rw[h2 h5.2 hS];exact eE (by omega)
theorem zdv7{e:aO}(h:vE e=true):zr9 e<=24:=by have:=(zcO5 h).2;unfold fitE at this;simp only[bU,bY]at this;omega
theorem zaU2{e:aO}(h:vE e=true){L:List aJ}(hL:L.length<=1000)(S:List Bool):∃b,f_ref08_holds e L S=some b/\((∀i,S.getD i false=false)->b=false):=by unfold f_ref08_holds;obtain⟨b,h1,h2⟩:=zcF0 _ e (eV _) (zdv7 h) L S hL;exact⟨b,h1,h2 (zcO5 h).1⟩
theorem zaU3{e:aO}(h:vE e=true)(S:List Bool):∃b,zw0 e S=some b/\((∀i,S.getD i false=false)->b=false):=by unfold zw0;obtain⟨v,h1,h2⟩:=zaE5 e;rw[h1,Option.bind_some,h2,h];obtain⟨b,h3,h4⟩:=zaU2 h (L:=v.1) (by have:=zaU1 h1;omega) S;rw[bX rfl,h3];exact⟨b,by simp,h4⟩
theorem zai1(e:aO):∃l,zw8 e=some l/\l.length<=8/\zi4 e=some (l,vE e):=by unfold zw8;obtain⟨v,h1,h2⟩:=zaE5 e;exact⟨v.1,by rw[h1];rfl,zaU1 h1,by rw[h1,<-h2]⟩
def subB(x S:List Bool):Prop:=∀k,x.getD k false=true->S.getD k false=true
theorem zcc5{x S:List Bool}(h:subB x S)(i:Nat){v:Bool}(hv:v=true->S.getD i false=true):subB (x.set i v) S:=λ k hk=>by
 by_cases e:i=k
 .subst e
  by_cases c:i<x.length
  .rw[zp9 _ _ _ _ c]at hk;exact hv hk
  .rw[List.set_eq_of_length_le (by omega)]at hk;exact h i hk
 .rw[bW,kA e,<-bW]at hk;exact h k hk
theorem zcO6(S:List Bool)(v:List aJ×Bool)(hv:v.1.length<=8)(s0:List Bool)(h0:s0.length=v.1.length)(hs:subB s0 S):∃x,zc2 (zah4 S v) (0,s0)=some x/\x.length=v.1.length/\subB x S:=
 zq9 (body:=zah4 S v) (λ g=>∃i:Nat,g.1=i/\i<=v.1.length/\g.2.length=v.1.length/\subB g.2 S) (λ g=>v.1.length-g.1.toNat) (λ x=>x.length=v.1.length/\subB x S)
  (λ g ⟨i,hi,hle,hg,hb⟩=>by
   obtain⟨g1,g2⟩:=g;simp only at hi hg hb;subst hi;unfold zah4
   by_cases c:i<v.1.length
   .left;have h3:0<=(i:Int)/\(i:Int)<(v.1.length:Int):=by omega
    simp only[h3.2,cA,cC,Int.toNat_natCast];rw[gdp (by intro h;simp only[bY]at h;omega),gdp (by omega),zc4 i (by omega)];exact⟨_,rfl,⟨i+1,rfl,c,by simp only[eA];exact hg,zcc5 hb i λ h=>(Bool.and_eq_true_iff.1 h).2⟩,by simp only[Int.toNat_natCast];omega⟩
   .right;simp only[show¬(i:Int)<(v.1.length:Int)by omega,cJ,bT,cB];exact⟨_,rfl,hg,hb⟩) (0,s0) ⟨0,rfl,by omega,h0,hs⟩
theorem zcO7{e:aO}(h:vE e=true)(v:List aJ×Bool)(hv:v.1.length<=8)(s0 S:List Bool)(h0:s0.length=v.1.length)(hs:subB s0 S):∃x,zc2 (zah3 e v) (IntKind.i64.wrap ((v.1.length:Int)-1),s0)=some x/\x.length=v.1.length/\subB x S:=
 zq9 (body:=zah3 e v) (λ g=>-1<=g.1/\g.1<(v.1.length:Int)/\g.2.length=v.1.length/\subB g.2 S) (λ g=>(g.1+1).toNat) (λ x=>x.length=v.1.length/\subB x S)
  (λ g ⟨h1,h2,hg,hb⟩=>by
   obtain⟨i,s⟩:=g;simp only at h1 h2 hg hb;unfold zah3
   by_cases c:0<=i
   .left;have e1:IntKind.i64.wrap (i-1)=i-1:=zj1 (by omega) (by omega);rw[bX (by simpa using c)];simp only[e1];rw[gdp (by omega)]
    by_cases d:s.getD i.toNat false=true
    .rw[bX d,gdp (by omega)];obtain⟨b,h3,_⟩:=zaU2 h (L:=v.1) (by omega) (s.set i.toNat false);rw[h3,Option.bind_some,gdp (by omega)];refine⟨(i-1,_),rfl,⟨by simp only;omega,by simp only;omega,by simp only[eA];exact hg,?_⟩,by simp only;omega⟩;exact zcc5 (zcc5 hb i.toNat (v:=false) (λ h=>by cases h)) i.toNat λ _=>hb _ d
    .rw[bV d];exact⟨(i-1,s),rfl,⟨by simp only;omega,by simp only;omega,hg,hb⟩,by simp only;omega⟩
   .right;simp only[c,cJ,bT,cB];exact⟨_,rfl,hg,hb⟩) _ ⟨by simp only;rw[zj1 (by omega) (by omega)];omega,by simp only;rw[zj1 (by omega) (by omega)];omega,h0,hs⟩
theorem zcn0(n:Nat)(S:List Bool):subB (List.replicate n false) S:=λ k hk=>by rw[bW,jL]at hk;split at hk<;>cases hk
theorem zcc6{e:aO}(h:vE e=true)(S:List Bool){l:List aJ}(ha:zi4 e=some (l,vE e)):∃x,zL6 e S=some x/\x.length=l.length/\subB x S:=by
 unfold zL6;have hl:=zaU1 ha;simp only at hl;rw[ha,Option.bind_some,gdp (by simp only;omega),h,bX rfl];obtain⟨b,h3,_⟩:=zaU2 h (L:=l) (by omega) S;simp only[h3,Option.bind_some];cases b with
 |false=>exact⟨_,rfl,by simp,zcn0 _ _⟩
 |true=>simp only[cO,eU,bT,cB];obtain⟨x,h4,h5,h5'⟩:=zcO6 S (l,true) (by simp only;omega) (List.replicate ((l.length:Int).toNat) false) (by simp) (zcn0 _ _);rw[h4,Option.bind_some];unfold zas4;obtain⟨y,h6,h7⟩:=zcO7 h (l,true) (by simp only;omega) x S h5 h5';rw[h6];exact⟨y,rfl,h7⟩
theorem zaE6(l:List aF)(p:aL)(hl:l.length<=1000):∃v,zi9 l p=some v/\(v=-1/\(∀x∈l,x.aK≠p)\/∃i:Nat,v=i/\i<l.length/\(l.getD i aF.zero).aK=p):=by
  unfold zi9;rw[zaQ2 l aF.zero (λ a=>decide (a.aK=p)) (λ i hi=>by
    unfold zar3;have h3:0<=(i:Int)/\(i:Int)<(l.length:Int):=by omega
    simp only[h3.1,h3.2,cS,zg9,cA,cC,Int.toNat_natCast,zc4 i (show i<4611686018427387904 by omega)];split<;>rfl) (by unfold zar3;simp)]
  cases h:l.findIdx? λ a=>decide (a.aK=p)with
  |none=>refine⟨-1,rfl,.inl ⟨rfl,λ x hx e=>?_⟩⟩;have:=fJ.1 h x hx;simp[e]at this
  |some i=>obtain⟨h1,h2,_⟩:=eT.1 h;refine⟨i,rfl,.inr ⟨i,rfl,h1,?_⟩⟩;rw[bW,bZ h1];exact fY h2
theorem zbd2(t:List aB)(hl:t.length<=1000):zh2 t=some (t.map (·.aA)):=by
  unfold zh2;rw[zap9 t aB.zero (·.aA) [] (by omega) (by simp) (λ i s hi hs=>by
    unfold zaj3;have h3:0<=(i:Int)/\(i:Int)<(t.length:Int):=by omega
    simp only[h3.1,h3.2,cS,zg9,cA,cC,Int.toNat_natCast,zc4 i (show i<4611686018427387904 by omega)];rw[gdp (by omega)]) (λ s=>by unfold zaj3;simp)]
  rfl
theorem zbd3{α β:Type}(l:List α)(z:α)(f:α->Option β){body:Int×List β->Option ((Int×List β)⊕List β)}(hl:l.length<=1000000)
    (hb:∀(i:Nat) (s:List β),i<l.length->s.length<=1000000->body ((i:Int),s)=some (.inl (((i+1:Nat):Int),zaL6 s (f (l.getD i z))))) (he:∀s,body ((l.length:Int),s)=some (.inr s)):zc2 body (0,[])=some (l.filterMap f):=by
  have key:=zE7 (body:=body) l z (λ i (s:List β)=>((i:Int),s)) (λ i a s=>some (.inl (zaL6 s (f a)))) (λ s=>s) (λ i s=>s.length<=i)
    (λ i s hi hs=>⟨by rw[hb i s hi (by omega)];rfl,λ s' h=>by simp only[dE,fN]at h;subst h;have:=zdd3 s (f (l.getD i z));omega⟩) (λ s hs=>he s) [] (by simp)
  rw[show((0,[]):Int×List β)=(λ(i:Nat) (s:List β)=>((i:Int),s)) 0 []from rfl,key,zaP8 f];simp
def zav9(p:aL)(q:aB):Option aJ:=if getH q.aP p=aC.zero then none else some ⟨q.aA.name,getH q.aP p⟩
def zay5(p:aL)(q:aB):Option aJ:=if(zr8 q p).2=true then some ⟨q.aA.name,(zr8 q p).1⟩else none
def sayF(l:List bC)(n:ByteArray):Option aJ:=if zg0 l n=aC.zero then none else some ⟨n,zg0 l n⟩
theorem zat5{t:List aB}(h:Lens t){i:Nat}(hi:i<t.length):(t.getD i aB.zero).aP.length<=1000/\(t.getD i aB.zero).aN.length<=1000/\(t.getD i aB.zero).aT.length<=1000:=h _ (zd5 hi)
theorem zbD4(t:List aB)(p:aL)(hl:t.length<=1000)(hs:Lens t):zm1 t p=some (t.filterMap (zav9 p)):=by
  unfold zm1;rw[zbd3 t aB.zero (zav9 p) (by omega) (λ i s hi hs'=>by
    unfold zae2;have h3:0<=(i:Int)/\(i:Int)<(t.length:Int):=by omega
    have h4:=zat5 hs hi;have h5:s.length+1<=4294967296:=by omega
    simp only[h3.1,h3.2,h5,cS,zg9,cA,cC,Int.toNat_natCast,zc4 i (show i<4611686018427387904 by omega),zI3 (t.getD i aB.zero) p (by omega),Option.bind_some,zaJ4];unfold zav9
    by_cases c:getH (t.getD i aB.zero).aP p=aC.zero
    .rw[bX c,bV (by rw[(zak8 _).2 c];decide)];rfl
    .rw[bV c,bX (by rw[(zav6 _).2 c];rfl)];rfl) (λ s=>by unfold zae2;simp)]
  rfl
theorem zbO8(t:List aB)(p:aL)(hl:t.length<=1000)(hs:Lens t):zp4 t p=some (t.filterMap (zay5 p)):=by
  unfold zp4;rw[zbd3 t aB.zero (zay5 p) (by omega) (λ i s hi hs'=>by
    unfold zam5;have h3:0<=(i:Int)/\(i:Int)<(t.length:Int):=by omega
    have h4:=zat5 hs hi;have h5:s.length+1<=4294967296:=by omega
    simp only[h3.1,h3.2,h5,cS,zg9,cA,cC,Int.toNat_natCast,zc4 i (show i<4611686018427387904 by omega),zU7 (t.getD i aB.zero) p (by omega) (by omega),Option.bind_some];unfold zay5;split<;>rfl) (λ s=>by unfold zam5;simp)]
  rfl
theorem zaX6(l:aW)(hl:l.aD.length<=1000):∃ns:List ByteArray,ns.Pairwise ltN/\(∀n,n∈ns↔∃e∈l.aD,e.name=n)/\zi6 l=some (ns.filterMap (sayF l.aD))/\ns.length<=l.aD.length:=by
  obtain⟨ns,h1,h0,h3⟩:=zaN4 l.aD (by omega);have h2:ns.length<=l.aD.length:=by obtain⟨ms,m1,m2,_⟩:=zbo9 l.aD (by omega);rw[h1]at m1;cases m1;exact m2
  refine⟨ns,h0,h3,?_,h2⟩;unfold zi6;rw[h1,Option.bind_some,zbd3 ns ⟨#[]⟩ (sayF l.aD) (by omega) (λ i s hi hs'=>by
    unfold zae1;have h3:0<=(i:Int)/\(i:Int)<(ns.length:Int):=by omega
    have h5:s.length+1<=4294967296:=by omega
    simp only[h3.1,h3.2,h5,cS,zg9,cA,cC,Int.toNat_natCast,zc4 i (show i<4611686018427387904 by omega),zad7 l.aD _ (by omega),Option.bind_some];unfold sayF
    by_cases c:zg0 l.aD (ns.getD i ⟨#[]⟩)=aC.zero
    .rw[bX c,bV (by rw[c];decide)];rfl
    .rw[bV c,bX (by rw[eE c];rfl)];rfl) (λ s=>by unfold zae1;simp)]
  rfl
theorem zaU4(a b:List aJ)(ha:a.length<=1000000):zf0 a b=some (decide (a=b)):=by
  unfold zf0
  by_cases h:a.length=b.length
  · rw[bV (by simp[h])]
    exact zdd2 a b aJ.zero (by omega) h (λ i=>rfl)
  · have:¬a=b:=λ e=>h (by rw[e])
    rw[bX (by simp;omega),eE this]
def grA(t:List aB)(p:aL)(a:aJ):Bool:=if zA5 t a.name<0 then false else covA (t.getD (zA5 t a.name).toNat aB.zero).aA (getH (t.getD (zA5 t a.name).toNat aB.zero).aP p) a.aM
theorem zdv8{t:List aB}(h:AscN t){i:Nat}(hi:i<t.length){a:aJ}(hn:(t.getD i aB.zero).aA.name=a.name)(p:aL):grA t p a=covA (t.getD i aB.zero).aA (getH (t.getD i aB.zero).aP p) a.aM:=by unfold grA;rw[<-hn,zaE3 h hi,bV (by omega),Int.toNat_natCast]
theorem zaU5(t:List aB)(p:aL)(e:aO)(hl:t.length<=1000)(hs:Lens t):∃bs L,zx1 t p e=some bs/\zi4 e=some (L,vE e)/\bs.length=L.length/\(t=[]->∀i,bs.getD i false=false)/\bs=L.map (grA t p):=by
  obtain⟨L,h1,h2,h3⟩:=zai1 e;refine⟨L.map (grA t p),L,?_,h3,dB _,λ ht i=>?_,rfl⟩
  · unfold zx1
    rw[h1,Option.bind_some,gdp (by omega)];obtain⟨x,h4,h5⟩:=zq9 (body:=zak1 t p L) (λ g=>∃i:Nat,i<=L.length/\g=((i:Int),(L.take i).map (grA t p)++List.replicate (L.length-i) false)) (λ g=>L.length-g.1.toNat) (λ x=>x=L.map (grA t p))
      (λ g ⟨i,hi,hg⟩=>by
        subst hg;unfold zak1;have hlen:((L.take i).map (grA t p)++List.replicate (L.length-i) false).length=L.length:=by rw[cD,dB,cU,gQ];omega
        by_cases c:i<L.length
        · left
          have h3:0<=(i:Int)/\(i:Int)<(L.length:Int):=by omega
          have e1:((L.take i).map (grA t p)).length=i:=by rw[dB,cU];omega
          have e2:List.replicate (L.length-i) false=false::List.replicate (L.length-(i+1)) false:=by rw[show L.length-i=L.length-(i+1)+1 by omega];rfl
          have e3:=zbr7 ((L.take i).map (grA t p)) (List.replicate (L.length-(i+1)) false) false;have e4:∀z,((L.take i).map (grA t p)++List.replicate (L.length-i) false).set i z=(L.take i).map (grA t p)++z::List.replicate (L.length-(i+1)) false:=λ z=>by have:=e3 z;rw[e1]at this;rw[e2];exact this
          have e5:(L.take (i+1)).map (grA t p)++List.replicate (L.length-(i+1)) false=(L.take i).map (grA t p)++grA t p (L.getD i aJ.zero)::List.replicate (L.length-(i+1)) false:=by rw[zx3 aJ.zero c,fA,dD];rfl
          simp only[h3.1,h3.2,cS,zg9,cA,cC,Int.toNat_natCast,zc4 i (show i<4611686018427387904 by omega),zX0 t _ (show t.length<=1000000 by omega),Option.bind_some];have hgr:grA t p (L.getD i aJ.zero)=if zA5 t (L.getD i aJ.zero).name<0 then false else covA (t.getD (zA5 t (L.getD i aJ.zero).name).toNat aB.zero).aA (getH (t.getD (zA5 t (L.getD i aJ.zero).name).toNat aB.zero).aP p) (L.getD i aJ.zero).aM:=rfl;rcases zaT3 (t:=t) (nm:=(L.getD i aJ.zero).name)with e|⟨k,e,hk,_⟩
          · rw[e,bV (by decide)]
            rw[e,bX (by decide)]at hgr;refine⟨_,rfl,⟨i+1,c,?_⟩,by simp only[Int.toNat_natCast];omega⟩;rw[e5,hgr,e2]
          · have h6:=zat5 hs hk
            rw[e,bX (by simp),gdp (by omega),gdp (by omega)];rw[e,bV (by omega)]at hgr;simp only[Int.toNat_natCast]at hgr⊢;rw[zI3 _ _ (by omega),Option.bind_some,gdp (by rw[hlen];exact⟨trivial,h3.2⟩)];refine⟨_,rfl,⟨i+1,c,?_⟩,by simp only[Int.toNat_natCast];omega⟩;rw[e5,hgr,e4];rfl
        · right
          have e:i=L.length:=by omega
          subst e;simp only[eR,cJ,bT,cB];exact⟨_,rfl,by rw[dH,gG];simp⟩) (0,List.replicate ((L.length:Int).toNat) false) ⟨0,by omega,by simp⟩
    rw[h4,h5];rfl
  · subst ht
    have:∀a,grA [] p a=false:=λ a=>by unfold grA;exact bX (by show(-1:Int)<0;decide)
    rw[bW,cN];cases L[i]? with
    |none=>rfl
    |some a=>exact this a
def zaw0(q:aB)(x:aF)(L:List aJ):Prop:=
  (∃a∈L,a.name=q.aA.name/\covA q.aA (zg0 x.aX.aD q.aA.name) a.aM=false/\
    ((zr8 q x.aK).2=false/\getH q.aP x.aK=zJ6 q.aA (zg0 x.aX.aD q.aA.name) a.aM\/
     (zr8 q x.aK).2=true/\getH q.aP x.aK=zg0 x.aX.aD q.aA.name/\(zr8 q x.aK).1=zJ6 q.aA (zg0 x.aX.aD q.aA.name) a.aM/\∀w∈q.aT,w.aK=x.aK->w.aZ=x.aR.aZ))\/
  ((∀a∈L,a.name=q.aA.name->covA q.aA (zg0 x.aX.aD q.aA.name) a.aM=true)/\getH q.aP x.aK=zg0 x.aX.aD q.aA.name/\(zr8 q x.aK).2=false)
theorem zcF1(q:aB)(x:aF)(hl:q.aT.length<=1000):zc2 (zU5 q x) 0=some (.inr false)/\(¬∀w∈q.aT,w.aK=x.aK->w.aZ=x.aR.aZ)\/zc2 (zU5 q x) 0=some (.inl ())/\∀w∈q.aT,w.aK=x.aK->w.aZ=x.aR.aZ:=by
  have key:=zV2 (body:=zU5 q x) q.aT.length (λ i=>(q.aT.getD i aU.zero).aK=x.aK->(q.aT.getD i aU.zero).aZ=x.aR.aZ) (λ i hi=>by
    unfold zU5;have h3:0<=(i:Int)/\(i:Int)<(q.aT.length:Int):=by omega
    simp only[h3.1,h3.2,cS,eD,zg9,cA,cC,Int.toNat_natCast,zc4 i (show i<4611686018427387904 by omega)]
    by_cases c:(q.aT.getD i aU.zero).aK=x.aK/\(q.aT.getD i aU.zero).aZ≠x.aR.aZ
    · rw[bX (by rw[cG c.1,eE c.2];rfl)]
      exact⟨false,rfl,(λ h=>nomatch h),λ h=>absurd (h c.1) c.2⟩
    · rw[bV (by
        simp only[bU,bY,cP,cL];exact c)]
      exact⟨true,rfl,λ _ h=>jD λ h2=>c ⟨h,h2⟩,λ _=>rfl⟩) (by unfold zU5;simp)
  have hm:=zad0 (P:=λ w:aU=>w.aK=x.aK->w.aZ=x.aR.aZ) (l:=q.aT) (z:=aU.zero);rcases key with⟨h1,h2⟩|⟨h1,h2⟩
  .exact .inl ⟨h1,λ h=>h2 (hm.2 h)⟩
  .exact .inr ⟨h1,hm.1 h2⟩
theorem zdF6 (q:aB) (x:aF) (L:List aJ) (he:x.aX.aD.length<=1000) (h0:q.aP.length<=1000) (h1:q.aN.length<=1000) (h2:q.aT.length<=1000) (hL:L.length<=1000) (hd:dnN L):
    ∃b,zG2 q x L=some b/\(b=true↔zaw0 q x L):=by
  unfold zG2;rw[zad7 _ _ (by omega),Option.bind_some,zI3 _ _ (by omega),Option.bind_some,zU7 _ _ (by omega) (by omega),Option.bind_some];obtain⟨r,h3,h4⟩:=zq9 (body:=zaa8 q x L (zg0 x.aX.aD q.aA.name) (getH q.aP x.aK) (zr8 q x.aK)) (λ g=>∃i:Nat,g=i/\i<=L.length/\∀k,k<i->(L.getD k aJ.zero).name=q.aA.name->covA q.aA (zg0 x.aX.aD q.aA.name) (L.getD k aJ.zero).aM=true) (λ g=>L.length-g.toNat)
    (λ r=>r=.inl ()/\(∀a∈L,a.name=q.aA.name->covA q.aA (zg0 x.aX.aD q.aA.name) a.aM=true)\/∃b,r=.inr b/\(b=true↔zaw0 q x L))
    (fun g ⟨i,hi,hle,hg⟩=>by
      subst hi;unfold zaa8
      by_cases c:i<L.length
      · have h3:0<=(i:Int)/\(i:Int)<(L.length:Int):=by omega
        simp only[h3.1,h3.2,cS,zg9,cA,cC,Int.toNat_natCast,zc4 i (show i<4611686018427387904 by omega),zP0]
        by_cases d:((!decide ((L.getD i aJ.zero).name=q.aA.name))||(zu4 q.aA (zg0 x.aX.aD q.aA.name) ((L.getD i aJ.zero).aM)))=true
        · rw[bX d]
          refine .inl ⟨_,rfl,⟨i+1,rfl,c,λ k hk hn=>?_⟩,by simp only[Int.toNat_natCast];omega⟩;rcases fS k i with h5|h5
          .exact hg k h5 hn
          · have:k=i:=by omega
            subst this;rw[cG hn]at d;exact d
        · rw[bV d]
          right;simp only[dI,cP,cL,kD,jU,gT]at d;obtain⟨d1,d2⟩:=d;have hm:=zd5 (z:=aJ.zero) c;have only:∀a∈L,a.name=q.aA.name->a=L.getD i aJ.zero:=λ a ha hn=>zcc4 hd ha hm (hn.trans d1.symm);have not2:¬(∀a∈L,a.name=q.aA.name->covA q.aA (zg0 x.aX.aD q.aA.name) a.aM=true):=λ h=>by have h5:zu4 q.aA (zg0 x.aX.aD q.aA.name) ((L.getD i aJ.zero).aM)=true:=h _ hm d1;rw[d2]at h5;cases h5
          rw[zbu3,Option.bind_some];cases hw:(zr8 q x.aK).2 with
          |false=>
            simp only[dC,cC];refine⟨_,rfl,.inr ⟨_,rfl,λ hb=>.inl ⟨_,hm,d1,d2,.inl ⟨hw,fY hb⟩⟩,λ hp=>?_⟩⟩;rcases hp with⟨a,ha,hn,_,hp⟩|hp
            · rw[only a ha hn]at hp
              rcases hp with hp|hp
              .exact cG hp.2
              .rw[hw]at hp;exact absurd hp.1 (by decide)
            .exact absurd hp.1 not2
          |true=>
            simp only[cO,bT,cB];have fin:∀b:Bool,(b=true↔getH q.aP x.aK=zg0 x.aX.aD q.aA.name/\(zr8 q x.aK).1=zJ6 q.aA (zg0 x.aX.aD q.aA.name) (L.getD i aJ.zero).aM/\∀w∈q.aT,w.aK=x.aK->w.aZ=x.aR.aZ)->(b=true↔zaw0 q x L):=λ b hb=>by
              rw[hb];refine⟨λ h=>.inl ⟨_,hm,d1,d2,.inr ⟨hw,h⟩⟩,λ hp=>?_⟩;rcases hp with⟨a,ha,hn,_,hp⟩|hp
              · rw[only a ha hn]at hp
                rcases hp with hp|hp
                .rw[hw]at hp;exact absurd hp.1 (by decide)
                .exact hp.2
              .exact absurd hp.1 not2
            rcases zcF1 q x h2 with⟨e1,e2⟩|⟨e1,e2⟩
            · rw[e1]
              exact⟨_,rfl,.inr ⟨false,rfl,fin _ ⟨(λ h=>nomatch h),λ h=>absurd h.2.2 e2⟩⟩⟩
            · rw[e1]
              refine⟨_,rfl,.inr ⟨_,rfl,fin _ ?_⟩⟩;rw[bU,bY,bY];exact⟨λ h=>⟨h.1,h.2,e2⟩,λ h=>⟨h.1,h.2.1⟩⟩
      · right
        have e:i=L.length:=by omega
        subst e;simp only[eR,cJ,bT,cB];exact⟨_,rfl,.inl ⟨rfl,zad0.1 hg⟩⟩) 0 ⟨0,rfl,by omega,λ k hk=>by omega⟩
  rw[h3];rcases h4 with⟨rfl,h4⟩|⟨b,rfl,hb⟩
  · refine⟨_,rfl,?_⟩
    rw[bU,bY,cP];refine⟨λ h=>.inr ⟨h4,h⟩,λ hp=>?_⟩;rcases hp with⟨a,ha,hn,hc,_⟩|hp
    .rw[h4 a ha hn]at hc;cases hc
    .exact hp.2
  .exact⟨b,rfl,hb⟩
theorem zdg0(e:aO):∃b,zh4 e aO.zero=some b/\(b=true↔e=aO.zero):=by
  unfold zh4;show∃b,zP3 (zam0 _) e aO.zero=some b/\_;unfold zP3
  by_cases h:(((!decide (e.k=aO.zero.k))||(!decide (e.bG=aO.zero.bG)))||(!decide ((e.bE.length:Int)=(aO.zero.bE.length:Int))))=true
  · rw[bX h]
    refine⟨_,rfl,(λ h=>nomatch h),λ he=>?_⟩;rw[he]at h;simp at h
  · rw[bV h]
    simp only[dI,kD,cP,cL,jU]at h;have hk:e.bE.length=0:=by have h2:=h.2;simp only[aO.zero,List.length_nil]at h2;omega
    rw[zq3];unfold zau3;simp only[hk,Int.natCast_zero,show¬(0:Int)<0 by omega,cJ,bT,cB];refine⟨_,rfl,λ _=>?_,λ _=>rfl⟩;have hk:=cW hk;obtain⟨⟨h1,h2⟩,_⟩:=h;have eta:e=⟨e.k,e.bG,e.bE⟩:=by cases e;rfl
    rw[eta,h1,h2,hk];rfl
theorem zct4(r:bH):∃b,zf6 r {bH.zero with}=some b/\(b=true↔r=bH.zero):=by
  obtain⟨b,h1,h2⟩:=zdg0 r.bN;unfold zf6;rw[show({bH.zero with}:bH).bN=aO.zero from rfl,h1,Option.bind_some];refine⟨_,rfl,?_⟩;rw[bU,bU,h2,bY,bY];constructor
  · rintro⟨⟨h3,h4⟩,h5⟩
    cases r;simp only at h3 h4 h5;subst h3 h4 h5;rfl
  .intro h;rw[h];exact⟨⟨rfl,rfl⟩,rfl⟩
theorem zch0(l:List aH)(nm:ByteArray)(hl:l.length<=1000):∃v,zn1 l nm=some v/\(v.2=true->v.1∈l/\v.1.name=nm)/\(v.2=false->∀r∈l,r.name≠nm):=by
  unfold zn1;obtain⟨r,h3,h4⟩:=zq9 (body:=zaw5 l nm) (λ g=>∃i:Nat,g=i/\i<=l.length/\∀k,k<i->(l.getD k aH.zero).name≠nm) (λ g=>l.length-g.toNat) (λ r=>r=.inl ()/\(∀x∈l,x.name≠nm)\/∃x,r=.inr (x,true)/\x∈l/\x.name=nm)
    (fun g ⟨i,hi,hle,hg⟩=>by
      subst hi;unfold zaw5
      by_cases c:i<l.length
      · have h3:0<=(i:Int)/\(i:Int)<(l.length:Int):=by omega
        simp only[h3.1,h3.2,cS,zg9,cA,cC,Int.toNat_natCast,zc4 i (show i<4611686018427387904 by omega),zP0]
        by_cases d:(l.getD i aH.zero).name=nm
        · rw[bX (cG d)]
          exact .inr ⟨_,rfl,.inr ⟨_,rfl,zd5 c,d⟩⟩
        · rw[bV (by simpa using d)]
          refine .inl ⟨_,rfl,⟨i+1,rfl,c,λ k hk=>?_⟩,by simp only[Int.toNat_natCast];omega⟩;rcases fS k i with h5|h5
          .exact hg k h5
          · have:k=i:=by omega
            subst this;exact d
      · right
        have e:i=l.length:=by omega
        subst e;simp only[eR,cJ,bT,cB];exact⟨_,rfl,.inl ⟨rfl,zad0.1 hg⟩⟩) 0 ⟨0,rfl,by omega,λ k hk=>by omega⟩
  rw[h3];rcases h4 with⟨rfl,h4⟩|⟨x,rfl,hx⟩
  .exact⟨_,rfl,(λ h=>nomatch h),λ _=>h4⟩
  .exact⟨_,rfl,(λ _=>hx),λ h=>nomatch h⟩
theorem zbI3(l:List aH)(a:aJ)(hl:catV l=true):∃v,zB2 l a=some v/\(v=0↔∃r∈l,r.name=a.name/\za2 r a.aM=true):=by
  obtain⟨h8,_,hp⟩:=(zbd0 l).1 hl;unfold zB2;rw[zbo8,Option.bind_some,hl];obtain⟨v,h1,h2,h3⟩:=zch0 l a.name (by omega);simp only[cO,bT,cB,h1,Option.bind_some];cases hv:v.2 with
  |false=>exact⟨10,rfl,(λ h=>nomatch h),λ⟨r,hr,hn,_⟩=>absurd hn (h3 hv r hr)⟩
  |true=>
    obtain⟨m1,m2⟩:=h2 hv;simp only[cO,bT,cB];cases hf:zv6 v.1 a.aM with
    |false=>
      refine⟨12,rfl,(λ h=>nomatch h),λ⟨r,hr,hn,hr2⟩=>?_⟩;have:r=v.1:=by
        obtain⟨i,hi,rfl⟩:=eY.1 hr;obtain⟨j,hj,e⟩:=eY.1 m1;rw[<-e]at m2⊢;rcases gZ i j with c|c|c
        .exact absurd (hn.trans m2.symm) (zaZ0 (dU.1 hp i j hi hj c))
        .subst c;rfl
        .exact absurd (m2.trans hn.symm) (zaZ0 (dU.1 hp j i hj hi c))
      rw[this,<-zaJ2,hf]at hr2;cases hr2
    |true=>exact⟨0,rfl,(λ _=>⟨v.1,m1,m2,by rw[<-zaJ2];exact hf⟩),λ _=>rfl⟩
theorem zbd4(l:List aH){e:aO}(he:vE e=true)(hl:catV l=true){L:List aJ}(hL:zi4 e=some (L,true)):∃v,zD3 l e=some v/\(v=0↔∀a∈L,∃r∈l,r.name=a.name/\za2 r a.aM=true):=by
  unfold zD3;have hw:=zaU1 hL;simp only at hw;rw[hL,Option.bind_some];simp only[cO,bT,cB];obtain⟨r,h4,h5⟩:=zq9 (body:=zak0 l (L,true)) (λ g=>∃i:Nat,g=i/\i<=L.length/\∀k,k<i->∃r∈l,r.name=(L.getD k aJ.zero).name/\za2 r (L.getD k aJ.zero).aM=true) (λ g=>L.length-g.toNat)
    (λ r=>(∃v,r=.inr v/\v≠0/\¬∀a∈L,∃r∈l,r.name=a.name/\za2 r a.aM=true)\/r=.inl ()/\∀a∈L,∃r∈l,r.name=a.name/\za2 r a.aM=true)
    (fun g ⟨i,hi,hle,hg⟩=>by
      subst hi;unfold zak0
      by_cases c:i<L.length
      · have h3:0<=(i:Int)/\(i:Int)<(L.length:Int):=by omega
        obtain⟨v,e1,e2⟩:=zbI3 l (L.getD i aJ.zero) hl;simp only[h3.1,h3.2,cS,zg9,cA,cC,Int.toNat_natCast,zc4 i (show i<4611686018427387904 by omega),e1,Option.bind_some]
        by_cases d:v=0
        · rw[bV (by simp[d])]
          refine .inl ⟨_,rfl,⟨i+1,rfl,c,λ k hk=>?_⟩,by simp only[Int.toNat_natCast];omega⟩;rcases fS k i with h5|h5
          .exact hg k h5
          · have:k=i:=by omega
            subst this;exact e2.1 d
        · rw[bX (by simp[d])]
          exact .inr ⟨_,rfl,.inl ⟨v,rfl,d,λ h=>d (e2.2 (h _ (zd5 c)))⟩⟩
      · right
        have e:i=L.length:=by omega
        subst e;simp only[eR,cJ,bT,cB];exact⟨_,rfl,.inr ⟨rfl,zad0.1 hg⟩⟩) 0 ⟨0,rfl,by omega,λ k hk=>by omega⟩
  rw[h4];rcases h5 with⟨v,rfl,hv,hn⟩|⟨rfl,hr⟩
  .exact⟨v,rfl,λ h=>absurd h hv,λ h=>absurd h hn⟩
  .exact⟨0,rfl,λ _=>hr,λ _=>rfl⟩
open Go.Lib
theorem zdI0:∀{x y:List UInt8},Op.bytesLess x y=true->compareBytes x y<0
 |[],[],h=>by simp[Op.bytesLess]at h
 |[],_::_,_=>by simp[compareBytes]
 |_::_,[],h=>by simp[Op.bytesLess]at h
 |a::x,b::y,h=>by
  simp only[Op.bytesLess,dI,bU,bY,dK]at h;unfold compareBytes;rcases h with h|⟨h1,h2⟩
  .rw[bX h];decide
  .subst h1;rw[bV (UInt8.lt_irrefl a),bV (UInt8.lt_irrefl a)];exact zdI0 h2
theorem zdg1{α:Type}{s l:List α}(cf:α->α->Int)(an:∀x y,cf y x=-cf x y)(tr:∀x y z,cf x y<=0->cf y z<=0->cf x z<=0)(hs:s.Pairwise λ x y=>cf x y<0)(hp:l.Perm s):
  (l.Pairwise λ x y=>cf x y<0\/cf y x<0)/\(l.mergeSort λ x y=>!decide (cf y x<0))=s:=by
 have hsr:s.Pairwise λ x y=>cf x y<0\/cf y x<0:=hs.imp λ h=>.inl h;refine⟨(hp.pairwise_iff λ h=>h.symm).2 hsr,?_⟩;have le:∀x y,(!decide (cf y x<0))=true↔cf x y<=0:=λ x y=>by have:=an x y;simp only[cP,cL];omega
 refine jG (le:=λ x y=>(!decide (cf y x<0))=true) ?_ ?_ ?_ ((jF _ _).trans hp)
 .intro x y hx hy h1 h2;rw[le]at h1 h2;obtain⟨i,hi,rfl⟩:=fO (hp.subset ((jF _ _).subset hx));obtain⟨j,hj,rfl⟩:=fO hy;have hq:=dU.1 hs;have:=an s[i] s[j];rcases gZ i j with h3|h3|h3
  .have:=hq i j hi hj h3;omega
  .subst h3;rfl
  .have:=hq j i hj hi h3;omega
 .exact jN (λ a b c h1 h2=>by rw[le]at*;exact tr _ _ _ h1 h2) (λ a b=>by
   have:=an a b;simp only[dI,le];omega) _
 .exact hs.imp λ h=>(le _ _).2 (by omega)
def putE(m:List (ByteArray×aC))(e:bC):List (ByteArray×aC):=mput e.name e.after m
def zX1(l:List bC):List (ByteArray×aC):=l.foldl putE []
theorem zaU6(l:List bC)(e:bC):zX1 (l++[e])=mput e.name e.after (zX1 l):=by unfold zX1;rw[kP];rfl
theorem zcn1{V:Type}(k n:ByteArray)(v:V):∀m:List (ByteArray×V),mget n (mput k v m)=if k=n then some v else mget n m
 |[]=>by
  by_cases e:k=n
  .subst e;simp[mput,mget]
  .simp only[mput,mget,zP0,eE λ h:n=k=>e h.symm,cond_false,bV e]
 |p::m=>by
  unfold mput;cases hb:k.toList==p.1.toList with
  |true=>
   rw[zP0,bY]at hb;subst hb;simp only[cond_true,mget]
   by_cases e:p.1=n
   .subst e;simp
   .simp only[zP0,eE λ h:n=p.1=>e h.symm,cond_false,bV e]
  |false=>
   rw[zP0,cL]at hb;simp only[cond_false,mget];rw[zcn1 k n v m]
   by_cases e:n=p.1
   .subst e;simp[bV hb]
   .simp only[zP0,eE e,cond_false]
theorem zbr8(l:List bC)(nm:ByteArray):(mget nm (zX1 l)).getD aC.zero=zg0 l nm:=by
 induction l using zbD3 with
 |h0=>rfl
 |h1 l e ih=>
  rw[zaU6,zcn1,zV1]
  by_cases h:e.name=nm
  .rw[bX h,bX h];rfl
  .rw[bV h,bV h,ih]
theorem zcc7{V:Type}(k n:ByteArray)(v:V):∀m:List (ByteArray×V),n∈(mput k v m).map (·.1)↔n=k\/n∈m.map (·.1)
 |[]=>by simp[mput]
 |p::m=>by
  unfold mput;cases hb:k.toList==p.1.toList with
  |true=>rw[zP0,bY]at hb;subst hb;simp only[cond_true,dF,cF];exact⟨Or.inr,λ h=>h.elim .inl id⟩
  |false=>simp only[cond_false,dF,cF,zcc7 k n v m];exact⟨λ h=>h.elim (λ h=>.inr (.inl h)) λ h=>h.elim .inl λ h=>.inr (.inr h),λ h=>h.elim (λ h=>.inr (.inl h)) λ h=>h.elim .inl λ h=>.inr (.inr h)⟩
theorem zcc8{V:Type}(k:ByteArray)(v:V):∀m:List (ByteArray×V),(m.map (·.1)).Nodup->((mput k v m).map (·.1)).Nodup
 |[],_=>by simp[mput]
 |p::m,h=>by
  unfold mput;have h2:=fL.1 h;cases hb:k.toList==p.1.toList with
  |true=>rw[zP0,bY]at hb;subst hb;exact h
  |false=>
   rw[zP0,cL]at hb;simp only[cond_false,dF];refine fL.2 ⟨λ hm=>?_,zcc8 k v m h2.2⟩;rcases(zcc7 k p.1 v m).1 hm with e|e
   .exact hb e.symm
   .exact h2.1 e
theorem zbg4(l:List bC):(∀n,n∈(zX1 l).map (·.1)↔∃e∈l,e.name=n)/\((zX1 l).map (·.1)).Nodup:=by
 induction l using zbD3 with
 |h0=>exact⟨λ n=>by simp[zX1],.nil⟩
 |h1 l e ih=>rw[zaU6];refine⟨λ n=>?_,zcc8 _ _ _ ih.2⟩;rw[zcc7,ih.1];simp only[cR,dN,or_and_right,exists_or,exists_eq_left];exact⟨λ h=>h.elim (λ h=>.inr h.symm) .inl,λ h=>h.elim .inr λ h=>.inl h.symm⟩
theorem zbp2(l:List bC)(hl:l.length<=4000000000000000000):zh0 l=some (zX1 l):=by
 unfold zh0;obtain⟨x,h1,h2⟩:=zq9 (body:=zaj2 l) (λ g=>∃i:Nat,g.1=i/\i<=l.length/\g.2=zX1 (l.take i)) (λ g=>l.length-g.1.toNat) (λ x=>x=zX1 l)
  (λ g ⟨i,hi,hle,hg⟩=>by
   obtain⟨g1,g2⟩:=g;simp only at hi hg;subst hi;unfold zaj2
   by_cases c:i<l.length
   .left;have h3:0<=(i:Int)/\(i:Int)<(l.length:Int):=by omega
    simp only[h3.1,h3.2,cS,zg9,cA,cC,Int.toNat_natCast,zc4 i (show i<4611686018427387904 by omega)];refine⟨_,rfl,⟨i+1,rfl,c,?_⟩,by simp only[Int.toNat_natCast];omega⟩;rw[zx3 bC.zero c,zaU6,hg]
   .right;have e:i=l.length:=by omega
    refine⟨g2,?_,by rw[hg,e,dH]⟩;simp only[show¬(i:Int)<(l.length:Int)by omega,cJ,bT,cB]) (0,[]) ⟨0,rfl,by omega,rfl⟩
 rw[h1,Option.bind_some,h2];rfl
theorem zbp3(a:aC):zal1 a=zn0 a:=by
 rw[dW,zad8];unfold zal1 zw5
 by_cases h:a.mode=0
 .rw[bV (by simp[h])];simp only[bU,bY];omega
 .rw[bX (by simp[h])];simp only[bU,bY];omega
theorem zbO9(a b:aC):zp3 a b=some (zv7 a b):=by
 unfold zp3 zv7;rw[zbp3,zbp3]
 by_cases h1:((!(zn0 b))||(decide (a=b)))=true
 .rw[bX h1,bX h1]
 .rw[bV h1,bV h1]
  by_cases h2:(decide (a=({aC.zero with}:aC)))=true
  .rw[bX h2,bX h2]
  .rw[bV h2,bV h2]
   by_cases h3:(!(zn0 a))=true
   .rw[bX h3,bX h3]
   .rw[bV h3,bV h3];simp only[dI,cP,bY,kD,fB]at h1 h3;have ua:=(zad8 a).1 h3;have ub:=(zad8 b).1 h1.1
    by_cases ma:a.mode=0
    .by_cases mb:b.mode=0
     .simp[ma,mb]
     .have:¬a.aS<b.aS:=by omega
      simp[ma,mb,this]
    .by_cases mb:b.mode=0
     .have:zH9 b.mode a.mode=false:=by
       cases hc:zH9 b.mode a.mode with
       |false=>rfl
       |true=>have:=((zaL8 b.mode a.mode).1 hc).1;omega
      rw[mb]at this;simp[ma,mb,this]
     .simp[ma,mb,zaD8,covM]
theorem EntV.take{l:List bC}{i j:Nat}(hi:i<=l.length)(hj:j<i)(h:EntV l j):EntV (l.take i) j:=by
 have e1:(l.take i).getD j bC.zero=l.getD j bC.zero:=by simp only[bW,dT,bX hj]
 have e2:(l.take i).take j=l.take j:=by rw[gH,fG (by omega)]
 unfold EntV at h⊢;rw[e1,e2];exact h
theorem zcF2{l:List bC}{i:Nat}(hi:i<=l.length)(h:∀j,j<i->EntV l j)(h8:(zX1 (l.take i)).length<=8):i<=64:=by
 have hl:(l.take i).length=i:=by rw[cU];omega
 have hn:=zbg4 (l.take i);have:=zcE9 (l:=l.take i) (λ j hj=>(h j (by omega)).take hi (by omega)) hn.2 (by rw[dB];exact h8) (λ e he=>(hn.1 _).2 ⟨e,he,rfl⟩);omega
theorem zcF3{V:Type}(k:ByteArray)(v:V):∀m:List (ByteArray×V),m.length<=(mput k v m).length
 |[]=>fD _
 |p::m=>by
  unfold mput;cases k.toList==p.1.toList with
  |true=>exact dA _
  |false=>exact Nat.succ_le_succ (zcF3 k v m)
theorem zdg2(l:List bC)(d i:Nat):(zX1 (l.take i)).length<=(zX1 (l.take (i+d))).length:=by
 induction d with
 |zero=>exact dA _
 |succ d ih=>
  refine eC ih ?_
  by_cases c:i+d<l.length
  .rw[show i+(d+1)=i+d+1 from rfl,zx3 bC.zero c,zaU6];exact zcF3 _ _ _
  .rw[dO (show l.length<=i+d by omega),dO (show l.length<=i+(d+1)by omega)];exact dA _
theorem zcc9(l:aW):∃x,zc2 (zab8 l) (0,[])=some x/\((x=.inl ()/\(∀i,i<l.aD.length->EntV l.aD i)/\(zX1 l.aD).length<=8)\/(x=.inr false/\¬((∀i,i<l.aD.length->EntV l.aD i)/\(zX1 l.aD).length<=8))):=by
 refine zq9 (body:=zab8 l) (λ g=>∃i:Nat,g.1=i/\i<=l.aD.length/\g.2=zX1 (l.aD.take i)/\(∀j,j<i->EntV l.aD j)/\(zX1 (l.aD.take i)).length<=8) (λ g=>l.aD.length-g.1.toNat)
  (λ x=>(x=.inl ()/\(∀i,i<l.aD.length->EntV l.aD i)/\(zX1 l.aD).length<=8)\/(x=.inr false/\¬((∀i,i<l.aD.length->EntV l.aD i)/\(zX1 l.aD).length<=8))) ?_ _ ⟨0,rfl,fD _,rfl,λ j hj=>by omega,by simp[zX1]⟩
 rintro⟨g1,g2⟩ ⟨i,hi,hle,hg,hj,h8⟩;simp only at hi hg;subst hi;subst hg;have h64:=zcF2 hle hj h8;unfold zab8
 by_cases c:i<l.aD.length
 .have h3:0<=(i:Int)/\(i:Int)<(l.aD.length:Int):=by omega
  simp only[h3.1,h3.2,cS,zg9,cA,cC,Int.toNat_natCast,zaN1,Option.bind_some,zbr8,zc4 i (show i<4611686018427387904 by omega)]
  by_cases e1:zE5 (l.aD.getD i bC.zero).name=true/\(l.aD.getD i bC.zero).before=zg0 (l.aD.take i) (l.aD.getD i bC.zero).name
  .rw[bX (by rw[e1.1,cG e1.2];rfl),zbO9,Option.bind_some]
   by_cases e2:zv7 (l.aD.getD i bC.zero).before (l.aD.getD i bC.zero).after=true
   .rw[bV (by rw[e1.1,cG e1.2,e2];decide)];have hs:mput (l.aD.getD i bC.zero).name (l.aD.getD i bC.zero).after (zX1 (l.aD.take i))=zX1 (l.aD.take (i+1)):=by rw[zx3 bC.zero c,zaU6]
    simp only[hs]
    by_cases e3:(zX1 (l.aD.take (i+1))).length<=8
    .left;rw[bV (by simp;omega)];refine⟨_,rfl,⟨i+1,rfl,c,rfl,λ j hj'=>?_,e3⟩,by simp only[Int.toNat_natCast];omega⟩;rcases fS j i with k|k
     .exact hj j k
     .have:j=i:=by omega
      subst this;exact⟨e1.1,e1.2,e2⟩
    .right;rw[bX (by simp;omega)];refine⟨_,rfl,.inr ⟨rfl,λ h=>e3 ?_⟩⟩;have:=zdg2 l.aD (l.aD.length-(i+1)) (i+1);rw[show i+1+(l.aD.length-(i+1))=l.aD.length by omega,dH]at this;omega
   .right;rw[bX (by rw[dP.2 e2];simp)];exact⟨_,rfl,.inr ⟨rfl,λ h=>e2 (h.1 i c).2.2⟩⟩
  .right;have hc:(!zE5 (l.aD.getD i bC.zero).name||!decide ((l.aD.getD i bC.zero).before=zg0 (l.aD.take i) (l.aD.getD i bC.zero).name))=true:=by
    rw[dI,cP,cP,cL]
    by_cases n:zE5 (l.aD.getD i bC.zero).name=true
    .exact .inr λ h=>e1 ⟨n,h⟩
    .exact .inl (dP.2 n)
   rw[bV (by rw[hc];decide),Option.bind_some,bX (by rw[hc];rfl)];exact⟨_,rfl,.inr ⟨rfl,λ h=>e1 ⟨(h.1 i c).1,(h.1 i c).2.1⟩⟩⟩
 .right;have e:i=l.aD.length:=by omega
  subst e;rw[dH]at h8;simp only[show¬(l.aD.length:Int)<(l.aD.length:Int)by omega,cJ,bT,cB];exact⟨_,rfl,.inl ⟨rfl,hj,h8⟩⟩
theorem zbP0(l:List bK)(x:Int)(hl:l.length<=1000000):∃v,zj2 l x=some v/\(v<0/\(∀s∈l,s.label≠x)\/0<=v/\∃s∈l,s.label=x):=by
 unfold zj2;rw[zaQ2 l bK.zero (λ a=>decide (a.label=x)) (λ i hi=>by
  unfold zam2;have h3:0<=(i:Int)/\(i:Int)<(l.length:Int):=by omega
  simp only[h3.1,h3.2,cS,zg9,cA,cC,Int.toNat_natCast,zc4 i (show i<4611686018427387904 by omega)];split<;>rfl) (by unfold zam2;simp)]
 cases h:l.findIdx? λ a=>decide (a.label=x)with
 |none=>refine⟨-1,rfl,.inl ⟨by decide,λ s hs e=>?_⟩⟩;have:=fJ.1 h s hs;simp[e]at this
 |some i=>obtain⟨h1,h2,_⟩:=eT.1 h;exact⟨i,rfl,.inr ⟨by omega,_,iN h1,fY h2⟩⟩
theorem zbu6{l:List bK}{i:Nat}(hi:i<=l.length){P:bK->Prop}:(∀s∈l.take i,P s)↔∀j,j<i->P (l.getD j bK.zero):=by
 constructor
 .intro h j hj;refine h _ ?_;rw[bW,bZ (by omega),Option.getD_some];exact kK.2 ⟨j,by omega,rfl⟩
 .intro h s hs;obtain⟨j,hj,rfl⟩:=kK.1 hs;have:=h j (by omega);rwa [bW,bZ (by omega),Option.getD_some]at this
def zcd0(l:List bK)(i:Nat):Int:=if i=0 then 0 else(l.getD (i-1) bK.zero).at_
theorem zct5(l:aW)(h4:l.aY.length<=4)(he:l.aD.length<=1000):∃b,ze9 l.aY (l.aD.length:Int)=some b/\(b=true↔∀i,i<l.aY.length->zaX5 l i):=by
 unfold ze9;rw[bV (by simp;omega)];obtain⟨x,h1,h2⟩:=zq9 (body:=zV7 l.aY (l.aD.length:Int)) (λ g=>∃i:Nat,g.2=i/\i<=l.aY.length/\g.1=zcd0 l.aY i/\0<=g.1/\∀j,j<i->zaX5 l j) (λ g=>l.aY.length-g.2.toNat)
  (λ x=>x=.inl ()/\(∀i,i<l.aY.length->zaX5 l i)\/x=.inr false/\¬∀i,i<l.aY.length->zaX5 l i) (λ g ⟨i,hi,hle,hg,h0,hj⟩=>by
   obtain⟨g1,g2⟩:=g;simp only at hi hg h0;subst hi;subst hg;unfold zV7
   by_cases c:i<l.aY.length
   .have h3:0<=(i:Int)/\(i:Int)<(l.aY.length:Int):=by omega
    have h5:(i:Int)<=(l.aY.length:Int):=by omega
    simp only[h3.1,h3.2,h5,cS,zg9,cA,cC,Int.toNat_natCast,iO,eD,zc4 i (show i<4611686018427387904 by omega)];obtain⟨s,hs⟩:∃s,l.aY.getD i bK.zero=s:=⟨_,rfl⟩;simp only[hs]
    by_cases e1:1<=s.label/\s.label<=99
    .have d1:decide (s.label<1)=false:=by simp;omega
     have d2:decide (99<s.label)=false:=by simp;omega
     obtain⟨v,k1,k2⟩:=zbP0 (l.aY.take i) s.label (by rw[cU];omega);simp only[d1,d2,jH,dC,cC,k1,Option.bind_some,dM];rcases k2 with⟨k2,k3⟩|⟨k2,k3⟩
     .rw[bV (by simp;omega)];rw[zbu6 hle]at k3
      by_cases e2:zcd0 l.aY i<=s.at_/\s.at_<=(l.aD.length:Int)
      .left;rw[bV (by simp;omega)];have hv:zaX5 l i:=by
        unfold zaX5;rw[hs];refine⟨e1.1,e1.2,by omega,e2.2,λ hp=>?_,k3⟩;have:=e2.1;unfold zcd0 at this;rwa [bV (by omega)]at this
       refine⟨_,rfl,⟨i+1,rfl,c,by simp only[zcd0,Nat.succ_ne_zero,cB,Nat.add_sub_cancel,hs],by simp only;omega,λ j hj'=>?_⟩,by simp only[Int.toNat_natCast];omega⟩;rcases fS j i with k|k
       .exact hj j k
       .have:j=i:=by omega
        subst this;exact hv
      .right;rw[bX (by simp;omega)];refine⟨_,rfl,.inr ⟨rfl,λ h=>e2 ?_⟩⟩;have hv:=h i c;unfold zaX5 at hv;rw[hs]at hv;refine⟨?_,hv.2.2.2.1⟩;unfold zcd0;split
       .exact hv.2.2.1
       .exact hv.2.2.2.2.1 (by omega)
     .right;rw[bX (by simpa using k2)];refine⟨_,rfl,.inr ⟨rfl,λ h=>?_⟩⟩;have hv:=h i c;unfold zaX5 at hv;rw[hs]at hv;obtain⟨s',hs',e⟩:=k3;exact(zbu6 hle (P:=λ s'=>s'.label≠s.label)).2 hv.2.2.2.2.2 s' hs' e
    .right;have d:(decide (s.label<1)||decide (99<s.label))=true:=by simp;omega
     simp only[d,cO,bT,cB,Option.bind_some,fZ,cC];refine⟨_,rfl,.inr ⟨rfl,λ h=>e1 ?_⟩⟩;have hv:=h i c;unfold zaX5 at hv;rw[hs]at hv;exact⟨hv.1,hv.2.1⟩
   .right;have e:i=l.aY.length:=by omega
    subst e;simp only[show¬(l.aY.length:Int)<(l.aY.length:Int)by omega,cJ,bT,cB];exact⟨_,rfl,.inl ⟨rfl,hj⟩⟩) (0,0) ⟨0,rfl,by omega,rfl,by decide,λ j hj=>by omega⟩
 rcases h2 with⟨rfl,h2⟩|⟨rfl,h2⟩
 .exact⟨true,by rw[h1];rfl,λ _=>h2,λ _=>rfl⟩
 .exact⟨false,by rw[h1];rfl,(λ h=>nomatch h),λ h=>absurd h h2⟩
theorem zbP1(l:aW):∃b,zs2 l=some b/\(b=true↔LedgerP l):=by
 unfold zs2;have hn:=zbg4 l.aD;obtain⟨x,h1,⟨rfl,h2,h3⟩|⟨rfl,h2⟩⟩:=zcc9 l
 .rw[h1,Option.bind_some];show∃b,zam6 l ()=some b/\_;unfold zam6;have h64:=zcF2 (i:=l.aD.length) (dA _) h2 (by rw[dH];exact h3);have h8:∀ns:List ByteArray,ns.Nodup->(∀n∈ns,∃e∈l.aD,e.name=n)->ns.length<=8:=λ ns nd hs=>by
   have:=dL nd (l₂:=(zX1 l.aD).map (·.1)) λ n m=>(hn.1 n).2 (hs n m);rw[dB]at this;omega
  by_cases c:l.aY.length<=4
  .obtain⟨b,k1,k2⟩:=zct5 l c (by omega);rw[k1];exact⟨b,rfl,λ h=>⟨by omega,c,h2,h8,k2.1 h⟩,λ h=>k2.2 h.sv⟩
  .refine⟨false,?_,(λ h=>nomatch h),λ h=>absurd h.ls c⟩;unfold ze9;rw[bX (by simp;omega)];rfl
 .refine⟨false,by rw[h1];rfl,(λ h=>nomatch h),λ h=>absurd ⟨h.ent,?_⟩ h2⟩;have:=h.n8 _ hn.2 λ n m=>(hn.1 n).1 m;rwa [dB]at this
theorem zcd1(l:aW)(n:ByteArray)(hl:l.aD.length<=1000):zn9 l n=some (zg0 l.aD n):=by unfold zn9;rw[zbp2 _ (by omega),Option.bind_some,zbr8]
theorem zcd2{V:Type}{n:ByteArray}{v:V}:∀{m:List (ByteArray×V)},(m.map (·.1)).Nodup->((n,v)∈m↔mget n m=some v)
 |[],_=>by simp[mget]
 |p::m,h=>by
  have h2:=fL.1 h;unfold mget;cases hb:n.toList==p.1.toList with
  |true=>
   rw[zP0,bY]at hb;subst hb;simp only[cond_true,cF,dE];constructor
   .rintro(e|e)
    .rw[<-e]
    .exact absurd (cI.2 ⟨_,e,rfl⟩) h2.1
   .intro e;left;rw[<-e]
  |false=>rw[zP0,cL]at hb;simp only[cond_false,cF,zcd2 h2.2];exact⟨λ e=>e.elim (λ e=>absurd (dG Prod.fst e) hb) id,.inr⟩
def zbM6(p:ByteArray×aC):Option aJ:=if p.2=aC.zero then none else some ⟨p.1,p.2⟩
theorem zbp4:∀(es:List (ByteArray×aC)) (g:List aJ),g.length+es.length<=1000->zbh4 zS9 (λ g1:List aJ=>g1) es g=some (g++es.filterMap zbM6)
 |[],g,_=>by simp[zbh4]
 |e::es,g,h=>by
  simp only[List.length_cons]at h;unfold zbh4 zS9;rw[List.filterMap_cons]
  by_cases c:e.2=aC.zero
  .have:zbM6 e=none:=by unfold zbM6;rw[bX c]
   rw[bV (by simpa using c),this];exact zbp4 es g (by omega)
  .have:zbM6 e=some ⟨e.1,e.2⟩:=by unfold zbM6;rw[bV c]
   rw[bX (by simpa using c),gdp (by omega),this];show zbh4 zS9 (λ g1:List aJ=>g1) es (g++[⟨e.1,e.2⟩])=_;rw[zbp4 es _ (by simp;omega),dD];rfl
theorem zbg5{p:ByteArray×aC}{a:aJ}:zbM6 p=some a↔p.2≠aC.zero/\a=⟨p.1,p.2⟩:=by
 unfold zbM6;split
 .rename_i h;exact⟨(λ h=>nomatch h),λ h2=>absurd h h2.1⟩
 .rename_i h;exact⟨λ e=>⟨h,(dS e).symm⟩,λ e=>by rw[e.2]⟩
theorem zaz9{l:List bC}{n:ByteArray}{a:aJ}:sayF l n=some a↔zg0 l n≠aC.zero/\a=⟨n,zg0 l n⟩:=by
 unfold sayF;split
 .rename_i h;exact⟨(λ h=>nomatch h),λ h2=>absurd h h2.1⟩
 .rename_i h;exact⟨λ e=>⟨h,(dS e).symm⟩,λ e=>by rw[e.2]⟩
theorem zct6{l:List bC}{n:ByteArray}(h:zg0 l n≠aC.zero):mget n (zX1 l)=some (zg0 l n):=by
 have:=zbr8 l n;cases hm:mget n (zX1 l)with
 |none=>rw[hm]at this;exact absurd this.symm h
 |some v=>rw[hm]at this;rw[<-this];rfl
theorem zcO8(l:List bC){ns:List ByteArray}(ha:ns.Pairwise ltN)(hn:∀n,n∈ns↔∃e∈l,e.name=n):((zX1 l).filterMap zbM6).Perm (ns.filterMap (sayF l)):=by
 have h:=zbg4 l;have hd:(zX1 l).Pairwise λ p q=>p.1≠q.1:=iI.1 h.2;refine(iA (jO _ (λ a a' hne b hb b' hb' e=>?_) hd) (jO _ (λ a a' hlt b hb b' hb' e=>?_) ha)).2 λ a=>?_
 .rw[(zbg5.1 hb).2,(zbg5.1 hb').2]at e;exact hne (dG aJ.name e)
 .rw[(zaz9.1 hb).2,(zaz9.1 hb').2]at e;exact zaZ0 hlt (dG aJ.name e)
 .rw[eJ,eJ];constructor
  .rintro⟨⟨n,v⟩,hm,e⟩;obtain⟨h1,rfl⟩:=zbg5.1 e;have hg:=(zcd2 h.2).1 hm;have hh:=zbr8 l n;rw[hg]at hh;simp only[Option.getD_some]at hh;subst hh;exact⟨n,(hn n).2 ((h.1 n).1 (cI.2 ⟨_,hm,rfl⟩)),zaz9.2 ⟨h1,rfl⟩⟩
  .rintro⟨n,hm,e⟩;obtain⟨h1,rfl⟩:=zaz9.1 e;exact⟨(n,zg0 l n),(zcd2 h.2).2 (zct6 h1),zbg5.2 ⟨h1,rfl⟩⟩
theorem zdv9{s l:List aJ}(h:s.Pairwise λ a b=>ltN a.name b.name)(hl:s.length<=1000)(hp:l.Perm s):zc0 l=some s:=by
 have:=zdg1 zu5 (λ x y=>zaG4 _ _) (λ x y z h k=>zbf0 h k) (h.imp λ{x y} k=>by
  unfold ltN at k;rw[ByteArray.toList_eq,ByteArray.toList_eq]at k;exact zdI0 k) hp
 unfold zc0;rw[gdp ⟨by rw[hp.length_eq];omega,this.1⟩,this.2]
theorem zcd3{α:Type}(m:List α)(d:α):(List.range m.length).map (m.getD · d)=m:=by
 apply iX
 .simp
 .intro i h1 h2;rw[List.getElem_map,List.getElem_range,bW,bZ h2,Option.getD_some]
theorem zaU7{l:aW}(hl:l.aD.length<=500):∃ns:List ByteArray,ns.Pairwise ltN/\(∀n,n∈ns↔∃e∈l.aD,e.name=n)/\zm6 l=some (ns.filterMap (sayF l.aD))/\zi6 l=some (ns.filterMap (sayF l.aD))/\ns.length<=l.aD.length:=by
 obtain⟨ns,h1,h2,h3,h4⟩:=zaX6 l (by omega);refine⟨ns,h1,h2,?_,h3,h4⟩;have hn:=zbg4 l.aD;have hlen:(zX1 l.aD).length<=ns.length:=by have:=dL hn.2 (l₂:=ns) λ n m=>(h2 n).2 ((hn.1 n).1 m);rwa [dB]at this
 unfold zm6;rw[zbp2 _ (by omega),Option.bind_some];refine zdC4 λ q hq=>?_;have hp:(q.map ((zX1 l.aD).getD · (⟨#[]⟩,aC.zero))).Perm (zX1 l.aD):=by have:=hq.map ((zX1 l.aD).getD · (⟨#[]⟩,aC.zero));rwa [zcd3]at this
 rw[zbp4 _ _ (by rw[hp.length_eq];simp only[List.length_nil];omega),Option.bind_some,List.nil_append];show zS8 _=_;unfold zS8;rw[zdv9 (s:=ns.filterMap (sayF l.aD)) ?_ ?_ ((hp.filterMap _).trans (zcO8 _ h1 h2))]
 .rfl
 .exact jO _ (λ a a' hlt b hb b' hb'=>by rw[(zaz9.1 hb).2,(zaz9.1 hb').2];exact hlt) h1
 .have:=eZ (sayF l.aD) ns;omega
structure WaitV (now:Int) (t:List aB) (x:aF):Prop where
 ve:vE x.aR.bN=true
 pr:0<=x.aR.aZ/\x.aR.aZ<=7
 li:0<=x.aR.limit/\x.aR.limit<=1000
 since:0<=x.since/\x.since<=now
 res:∀L b,zi4 x.aR.bN=some (L,b)->∀a∈L,∃q∈t,q.aA.name=a.name/\za2 q.aA a.aM=true
 part:∀L b,zi4 x.aR.bN=some (L,b)->∀q∈t,zaw0 q x L
structure ProcV (now:Int) (t:List aB) (x:aF):Prop where
 pv:zd2 x.aK=true
 cost:1<=x.cost/\x.cost<=1000
 gen:0<=x.gen/\x.gen<=1073741824
 led:LedgerP x.aX
 held:∀n,zg0 x.aX.aD n≠aC.zero->∃q∈t,q.aA.name=n/\za2 q.aA (zg0 x.aX.aD n)=true
 wait:x.bF=true->WaitV now t x
 run:x.bF=false->x.aR=bH.zero/\x.since=0/\∀q∈t,getH q.aP x.aK=zg0 x.aX.aD q.aA.name/\(zr8 q x.aK).2=false
def zbp5(now:Int)(t:List aB)(x:aF):Prop:=x.bF=true->(x.aR.limit=0\/now<x.since+x.aR.limit)/\∀bs,zx1 t x.aK x.aR.bN=some bs->zw0 x.aR.bN bs=some false
structure CenV (c:aV):Prop where
 now:0<=c.now/\c.now<=1073741824
 t:ValidT c.aI
 len:c.aG.length<=8
 each:∀x∈c.aG,ProcV c.now c.aI x
 asc:c.aG.Pairwise λ a b=>ltP a.aK b.aK
 aG:∀p∈zB8 c.aI,∃x∈c.aG,x.aK=p
 quiet:∀x∈c.aG,zbp5 c.now c.aI x
theorem ValidT.inj{t:List aB}(h:ValidT t){q q':aB}(h1:q∈t)(h2:q'∈t)(e:q.aA.name=q'.aA.name):q=q':=by obtain⟨i,hi,rfl⟩:=zt8 (z:=aB.zero) h1;obtain⟨j,hj,rfl⟩:=zt8 (z:=aB.zero) h2;rw[zaJ6 h.asc hi hj e]
theorem ValidT.lens'{t:List aB}(h:ValidT t):t.length<=1000/\Lens t:=⟨by have:=h.len;omega,h.lens⟩
theorem zaM2{l:List bC}{n:ByteArray}(h:zg0 l n≠aC.zero):∃e∈l,e.name=n:=by
 have:∀(l:List bC) (a:aC),(∀e∈l,e.name≠n)->l.foldl (sayE n) a=a:=by
  intro l;induction l with
  |nil=>intro a _;rfl
  |cons e l ih=>
   intro a hn;rw[List.foldl_cons];have:sayE n a e=a:=by unfold sayE;rw[bV (hn e (.head _))]
   rw[this];exact ih a λ x hx=>hn x (.tail _ hx)
 by_cases c:∃e∈l,e.name=n
 .exact c
 .exact absurd (this l aC.zero λ e he hh=>c ⟨e,he,hh⟩) h
theorem zcO9(c:aV)(hl:c.aI.length<=1000)(v:List aJ)(hv:v.length<=1000)(hi:AscN c.aI):
  zc2 (zQ5 c v) 0=some (.inr false)/\(¬∀i,i<v.length->∃q∈c.aI,q.aA.name=(v.getD i aJ.zero).name/\za2 q.aA (v.getD i aJ.zero).aM=true)\/zc2 (zQ5 c v) 0=some (.inl ())/\∀i,i<v.length->∃q∈c.aI,q.aA.name=(v.getD i aJ.zero).name/\za2 q.aA (v.getD i aJ.zero).aM=true:=
 zV2 v.length _ (λ i hi2=>by
  unfold zQ5;have h3:0<=(i:Int)/\(i:Int)<(v.length:Int):=by omega
  simp only[h3.1,h3.2,cS,eD,zg9,cA,cC,Int.toNat_natCast,zc4 i (show i<4611686018427387904 by omega),zX0 c.aI _ (show c.aI.length<=1000000 by omega),Option.bind_some];rcases zaT3 (t:=c.aI) (nm:=(v.getD i aJ.zero).name)with e|⟨k,e,hk,hn⟩
  .refine⟨false,?_,(λ h=>nomatch h),λ⟨q,hq,hqn,_⟩=>?_⟩
   .rw[e,gdp (by intro h;exact absurd h (by decide))];rfl
   .obtain⟨j,hj,rfl⟩:=zt8 (z:=aB.zero) hq;have:=zaE3 hi hj;rw[hqn,e]at this;omega
  .rw[e,gdp (by intro _;omega)];simp only[Int.toNat_natCast,show¬(k:Int)<0 by omega,cJ,dM];cases hf:zv6 (c.aI.getD k aB.zero).aA (v.getD i aJ.zero).aM with
   |false=>refine⟨false,rfl,(λ h=>nomatch h),λ⟨q,hq,hqn,hqf⟩=>?_⟩;obtain⟨j,hj,rfl⟩:=zt8 (z:=aB.zero) hq;have:=zaJ6 hi hj hk (hqn.trans hn.symm);subst this;rw[<-zaJ2,hf]at hqf;cases hqf
   |true=>exact⟨true,rfl,(λ _=>⟨_,zd5 hk,hn,by rw[<-zaJ2];exact hf⟩),λ _=>rfl⟩) (by unfold zQ5;simp)
theorem zcF4(c:aV)(x:aF)(L:List aJ)(hL:L.length<=8)(hd:dnN L)(he:x.aX.aD.length<=1000)(hl:c.aI.length<=1000)(hs:Lens c.aI):
  zc2 (zJ9 c x L) 0=some (.inr false)/\(¬∀q∈c.aI,zaw0 q x L)\/zc2 (zJ9 c x L) 0=some (.inl ())/\∀q∈c.aI,zaw0 q x L:=by
 have key:=zV2 (body:=zJ9 c x L) c.aI.length (λ i=>zaw0 (c.aI.getD i aB.zero) x L) (λ i hi=>by
  unfold zJ9;have h3:0<=(i:Int)/\(i:Int)<(c.aI.length:Int):=by omega
  have h4:=zat5 hs hi;obtain⟨b,h1,h2⟩:=zdF6 (c.aI.getD i aB.zero) x L he (by omega) (by omega) (by omega) (by omega) hd;simp only[h3.1,h3.2,cS,eD,zg9,cA,cC,Int.toNat_natCast,zc4 i (show i<4611686018427387904 by omega),h1,Option.bind_some];cases b with
  |false=>exact⟨false,rfl,h2⟩
  |true=>exact⟨true,rfl,h2⟩) (by unfold zJ9;simp)
 have hm:=zad0 (P:=λ q:aB=>zaw0 q x L) (l:=c.aI) (z:=aB.zero);rcases key with⟨h1,h2⟩|⟨h1,h2⟩
 .exact .inl ⟨h1,λ h=>h2 (hm.2 h)⟩
 .exact .inr ⟨h1,hm.1 h2⟩
theorem zbu7{t:List aB}(hv:ValidT t){l:List bC}{p:aL}{ns:List ByteArray}(h1:ns.Pairwise ltN)(h2:∀n,n∈ns↔∃e∈l,e.name=n)(hheld:∀n,zg0 l n≠aC.zero->∃q∈t,q.aA.name=n):
  ns.filterMap (sayF l)=t.filterMap (zav9 p)↔∀q∈t,getH q.aP p=zg0 l q.aA.name:=by
 have hsay:∀n,(⟨n,zg0 l n⟩:aJ)∈ns.filterMap (sayF l)↔zg0 l n≠aC.zero:=λ n=>by
  rw[eJ];constructor
  .rintro⟨m,hm,e⟩ z;unfold sayF at e;split at e
   .cases e
   .rename_i c;simp only[dE,aJ.mk.injEq]at e;rw[e.1]at c;exact c z
  .exactλ hn=>⟨n,(h2 n).2 (zaM2 hn),by unfold sayF;rw[bV hn]⟩
 have hhold:∀q∈t,∀a,(⟨q.aA.name,a⟩:aJ)∈t.filterMap (zav9 p)↔getH q.aP p=a/\a≠aC.zero:=λ q hq a=>by
  rw[eJ];constructor
  .rintro⟨q',hq',e⟩;unfold zav9 at e;split at e
   .cases e
   .rename_i c;simp only[dE,aJ.mk.injEq]at e;rw[<-hv.inj hq' hq e.1,<-e.2];exact⟨rfl,c⟩
  .rintro⟨rfl,c⟩;exact⟨q,hq,by unfold zav9;rw[bV c]⟩
 constructor
 .intro e q hq
  by_cases z1:getH q.aP p=aC.zero
  .by_cases z2:zg0 l q.aA.name=aC.zero
   .rw[z1,z2]
   .have:=(hsay _).2 z2;rw[e,hhold q hq]at this;exact this.1
  .have:=(hhold q hq _).2 ⟨rfl,z1⟩;rw[<-e]at this;obtain⟨m,hm,e2⟩:=eJ.1 this;unfold sayF at e2;split at e2
   .cases e2
   .simp only[dE,aJ.mk.injEq]at e2;rw[<-e2.1];exact e2.2.symm
 .intro h;have irr:∀a:ByteArray,¬ltN a a:=λ a h=>zaZ0 h rfl;have p1:(ns.filterMap (sayF l)).Pairwise λ a b:aJ=>ltN a.name b.name:=by
   rw[jP];refine h1.imp λ{a b} hab x hx y hy=>?_;have g:∀{n:ByteArray} {z:aJ},sayF l n=some z->z.name=n:=λ{n z} hz=>by
    unfold sayF at hz;split at hz
    .cases hz
    .cases hz;rfl
   rw[g hx,g hy];exact hab
  have p2:(t.filterMap (zav9 p)).Pairwise λ a b:aJ=>ltN a.name b.name:=by
   rw[jP];refine hv.asc.imp λ{a b} hab x hx y hy=>?_;have g:∀{q:aB} {z:aJ},zav9 p q=some z->z.name=q.aA.name:=λ{q z} hz=>by
    unfold zav9 at hz;split at hz
    .cases hz
    .cases hz;rfl
   rw[g hx,g hy];exact hab
  have nd:∀{m:List aJ},(m.Pairwise λ a b:aJ=>ltN a.name b.name)->m.Nodup:=λ hm=>hm.imp λ hab e=>by rw[e]at hab;exact irr _ hab
  refine jG (le:=λ a b:aJ=>ltN a.name b.name) (λ a b _ _ h3 h4=>absurd (zaQ1 h3 h4) (irr _)) p1 p2 ((iA (nd p1) (nd p2)).2 λ a=>?_);constructor
  .intro ha;obtain⟨n,hn,e⟩:=eJ.1 ha;unfold sayF at e;split at e
   .cases e
   .rename_i c;cases e;obtain⟨q,hq,rfl⟩:=hheld _ c;rw[hhold q hq];exact⟨h q hq,c⟩
  .intro ha;obtain⟨q,hq,e⟩:=eJ.1 ha;unfold zav9 at e;split at e
   .cases e
   .rename_i c;cases e;rw[h q hq]at c⊢;exact(hsay _).2 c
theorem zbM7{t:List aB}{p:aL}:((t.filterMap (zay5 p)).length:Int)=0↔∀q∈t,(zr8 q p).2=false:=by
 constructor
 .intro h q hq;rcases hb (zr8 q p).2 with c|c
  .have:(⟨q.aA.name,(zr8 q p).1⟩:aJ)∈t.filterMap (zay5 p):=eJ.2 ⟨q,hq,by unfold zay5;rw[bX c]⟩;rw[cW (l:=t.filterMap (zay5 p)) (by omega)]at this;cases this
  .exact c
 .intro h;have:t.filterMap (zay5 p)=[]:=List.filterMap_eq_nil_iff.2 λ q hq=>by unfold zay5;rw[bV (by rw[h q hq];decide)]
  rw[this];rfl
theorem zcP0{t:List aB}(hv:ValidT t):catV (t.map (·.aA))=true:=by
 rw[zbd0];refine⟨by rw[dB];exact hv.len,λ r hr=>?_,?_⟩
 .obtain⟨q,hq,rfl⟩:=cI.1 hr;exact((zw3 q).1 (hv.each q hq)).1.res
 .rw[iI];exact hv.asc
theorem zaE7(r:bH):zS0 r=some (vE r.bN&&(decide (0<=r.aZ)&&(decide (r.aZ<=7)&&(decide (0<=r.limit)&&decide (r.limit<=1000))))):=by unfold zS0;rw[zaT8,Option.bind_some];simp only[gV]
theorem zcP1(c:aV)(x:aF)(hv:ValidT c.aI)(hnow:0<=c.now/\c.now<=1073741824):∃b,zJ0 c x=some b/\(b=true↔ProcV c.now c.aI x/\zbp5 c.now c.aI x):=by
 obtain⟨hl,hs⟩:=hv.lens';unfold zJ0;obtain⟨bl,l1,l2⟩:=zbp0 x.aX;rw[l1,zaS5];cases hp:zd2 x.aK with
 |false=>exact⟨false,rfl,(λ h=>nomatch h),λ h=>by have:=h.1.pv;rw[hp]at this;cases this⟩
 |true=>
 by_cases cc:x.cost<1\/1000<x.cost
 .refine⟨false,?_,(λ h=>nomatch h),λ h=>by have:=h.1.cost;omega⟩;rcases cc with h|h<;>simp[h]
 have c1:¬x.cost<1:=λ h=>cc (.inl h);have c2:¬1000<x.cost:=λ h=>cc (.inr h);simp only[c1,c2,cJ,cO,eU,dC,cC,Option.bind_some,dM];cases bl with
 |false=>exact⟨false,rfl,(λ h=>nomatch h),λ h=>l2.2 h.1.led⟩
 |true=>
 have led:=l2.1 rfl
 by_cases cg:x.gen<0\/1073741824<x.gen
 .refine⟨false,?_,(λ h=>nomatch h),λ h=>by have:=h.1.gen;omega⟩;rcases cg with h|h<;>simp[h]
 have g1:¬x.gen<0:=λ h=>cg (.inl h);have g2:¬1073741824<x.gen:=λ h=>cg (.inr h);simp only[g1,g2,cJ,cO,eU,bT,cB];obtain⟨ns,n1,n2,n3,n4⟩:=zaX6 x.aX (by have:=led.le;omega);have hle:=led.le;have hv':(ns.filterMap (sayF x.aX.aD)).length<=1000:=by have:=eZ (sayF x.aX.aD) ns;omega
 rw[n3,Option.bind_some];have hheldiff:(∀i,i<(ns.filterMap (sayF x.aX.aD)).length->∃q∈c.aI,q.aA.name=((ns.filterMap (sayF x.aX.aD)).getD i aJ.zero).name/\za2 q.aA ((ns.filterMap (sayF x.aX.aD)).getD i aJ.zero).aM=true)↔
   ∀n,zg0 x.aX.aD n≠aC.zero->∃q∈c.aI,q.aA.name=n/\za2 q.aA (zg0 x.aX.aD n)=true:=by
  rw[zad0 (P:=λ a:aJ=>∃q∈c.aI,q.aA.name=a.name/\za2 q.aA a.aM=true)];constructor
  .intro h n hn;exact h ⟨n,zg0 x.aX.aD n⟩ (eJ.2 ⟨n,(n2 n).2 (zaM2 hn),by unfold sayF;rw[bV hn]⟩)
  .intro h a ha;obtain⟨n,hn,e⟩:=eJ.1 ha;unfold sayF at e;split at e
   .cases e
   .rename_i c;cases e;exact h n c
 rcases zcO9 c hl _ hv' hv.asc with⟨h1,h2⟩|⟨h1,h2⟩
 .exact⟨false,by rw[h1];rfl,(λ h=>nomatch h),λ h=>absurd (hheldiff.2 h.1.held) h2⟩
 have hheld:=hheldiff.1 h2;rw[h1,Option.bind_some];show∃b,zY5 c x _ ()=some b/\_;unfold zY5;have hlen2:(c.aI.filterMap (zav9 x.aK)).length<=1000:=by have:=eZ (zav9 x.aK) c.aI;omega
 cases hw:x.bF with
 |false=>
  simp only[dC,cC];obtain⟨b2,s2,s3⟩:=zct4 x.aR;rw[s2,Option.bind_some,zbD4 _ _ hl hs,zbO8 _ _ hl hs];have hsame:=zbu7 (p:=x.aK) hv n1 n2 λ n hn=>by obtain⟨q,hq,hqn,_⟩:=hheld n hn;exact⟨q,hq,hqn⟩
  have hend:ProcV c.now c.aI x/\zbp5 c.now c.aI x↔(x.aR=bH.zero/\x.since=0)/\ns.filterMap (sayF x.aX.aD)=c.aI.filterMap (zav9 x.aK)/\((c.aI.filterMap (zay5 x.aK)).length:Int)=0:=by
   rw[hsame,zbM7];constructor
   .rintro⟨h,_⟩;obtain⟨r1,r2,r3⟩:=h.run hw;exact⟨⟨r1,r2⟩,λ q hq=>(r3 q hq).1,λ q hq=>(r3 q hq).2⟩
   .rintro⟨⟨r1,r2⟩,r3,r4⟩;exact⟨⟨hp,by omega,by omega,led,hheld,(λ h=>by rw[hw]at h;cases h),λ _=>⟨r1,r2,λ q hq=>⟨r3 q hq,r4 q hq⟩⟩⟩,λ h=>by rw[hw]at h;cases h⟩
  rw[hend]
  by_cases c3:(b2&&decide (x.since=0))=true
  .have c3':=c3;rw[bU,s3,bY]at c3';simp only[c3,cC,Option.bind_some,zaU4 _ _ (show(ns.filterMap (sayF x.aX.aD)).length<=1000000 by omega),cK]
   by_cases c4:ns.filterMap (sayF x.aX.aD)=c.aI.filterMap (zav9 x.aK)
   .simp only[c4,cA,cC,Option.bind_some,cK];exact⟨_,rfl,λ h=>⟨c3',trivial,fY h⟩,λ h=>cG h.2.2⟩
   .simp only[c4,cJ,bT,cB,Option.bind_some,eN];exact⟨false,rfl,(λ h=>nomatch h),λ h=>h.2.1.elim⟩
  .have c3':¬(x.aR=bH.zero/\x.since=0):=λ h=>c3 (by rw[bU,s3,bY];exact h);simp only[c3,cB,Option.bind_some,bT,eN];exact⟨false,rfl,(λ h=>nomatch h),λ h=>absurd h.1 c3'⟩
 |true=>
  simp only[cO,bT,cB];rw[zaE7,Option.bind_some]
  by_cases hreq:vE x.aR.bN=true/\(0<=x.aR.aZ/\x.aR.aZ<=7)/\(0<=x.aR.limit/\x.aR.limit<=1000)
  .rw[show(vE x.aR.bN&&(decide (0<=x.aR.aZ)&&(decide (x.aR.aZ<=7)&&(decide (0<=x.aR.limit)&&decide (x.aR.limit<=1000)))))=true by
    simp only[hreq.1,hreq.2.1.1,hreq.2.1.2,hreq.2.2.1,hreq.2.2.2,cA,gF]]
   obtain⟨hvE,hpr,hli⟩:=hreq;obtain⟨l',a1,a2,a3⟩:=zai1 x.aR.bN;rw[hvE]at a3;have hdn:=zbp1 a3;obtain⟨v9,r1,r2⟩:=zbd4 (c.aI.map (·.aA)) hvE (zcP0 hv) a3;have r2':v9=0↔∀a∈l',∃q∈c.aI,q.aA.name=a.name/\za2 q.aA a.aM=true:=by
    rw[r2];refine kR λ a=>kR λ ha=>?_;constructor
    .rintro⟨r,hr,e⟩;obtain⟨q,hq,rfl⟩:=cI.1 hr;exact⟨q,hq,e⟩
    .rintro⟨q,hq,e⟩;exact⟨_,cI.2 ⟨q,hq,rfl⟩,e⟩
   simp only[cC,zbd2 _ hl,Option.bind_some,r1,cO,dM];obtain⟨bs,L,q1,q2,_⟩:=zaU5 c.aI x.aK x.aR.bN hl hs;obtain⟨b11,q3,_⟩:=zaU3 hvE bs;rw[q1];obtain⟨B,hB,hB2⟩:∃B:Bool,((((!decide (v9=0))||(decide (x.since<0)))||(decide (c.now<x.since)))||((!decide (x.aR.limit=0))&&(decide ((IntKind.i64.wrap (x.since+x.aR.limit))<=c.now))))=B/\(B=false↔v9=0/\(0<=x.since/\x.since<=c.now)/\(x.aR.limit=0\/c.now<x.since+x.aR.limit)):=by
    refine⟨_,rfl,?_⟩;simp only[fU,iD,kH,bY,cL];constructor
    .rintro⟨⟨⟨k1,k2⟩,k3⟩,k4⟩;rw[zj1 (by omega) (by omega)]at k4;exact⟨k1,by omega,by omega⟩
    .rintro⟨k1,k2,k3⟩;rw[zj1 (by omega) (by omega)];exact⟨⟨⟨k1,by omega⟩,by omega⟩,by omega⟩
   have hq:∀hh:zw0 x.aR.bN bs=some b11,(∀bs',zx1 c.aI x.aK x.aR.bN=some bs'->zw0 x.aR.bN bs'=some false)↔b11=false:=λ hh=>by
    rw[q1];constructor
    .intro h;have:=h bs rfl;rw[hh]at this;exact dS this
    .intro h bs' e;cases e;rw[hh,h]
   simp only[hB];cases B with
   |true=>refine⟨false,rfl,(λ h=>nomatch h),λ h=>?_⟩;have w:=h.1.wait hw;exact(hB2.2 ⟨r2'.2 (w.res _ _ a3),w.since,(h.2 hw).1⟩).symm
   |false=>
    obtain⟨k1,k2,k3⟩:=hB2.1 rfl;simp only[dC,cC,Option.bind_some,q3,dM];cases b11 with
    |true=>refine⟨false,rfl,(λ h=>nomatch h),λ h=>?_⟩;have:=(hq q3).1 (h.2 hw).2;cases this
    |false=>
     simp only[bT,cB];rw[a1,Option.bind_some];rcases zcF4 c x l' a2 hdn (by omega) hl hs with⟨h5,h6⟩|⟨h5,h6⟩
     .exact⟨false,by rw[h5];rfl,(λ h=>nomatch h),λ h=>absurd ((h.1.wait hw).part _ _ a3) h6⟩
     .refine⟨true,by rw[h5];rfl,λ _=>⟨⟨hp,by omega,by omega,led,hheld,λ _=>⟨hvE,hpr,hli,k2,λ L b hL=>?_,λ L b hL=>?_⟩,(λ h=>by rw[hw]at h;cases h)⟩,λ _=>⟨k3,(hq q3).2 rfl⟩⟩,λ _=>rfl⟩
      .rw[a3]at hL;cases hL;exact r2'.1 k1
      .rw[a3]at hL;cases hL;exact h6
  .obtain⟨B,hB⟩:∃B:Bool,(vE x.aR.bN&&(decide (0<=x.aR.aZ)&&(decide (x.aR.aZ<=7)&&(decide (0<=x.aR.limit)&&decide (x.aR.limit<=1000)))))=B:=⟨_,rfl⟩;have hBf:B=false:=by
    rw[<-hB,dP];intro h;simp only[bU,bY]at h;exact hreq ⟨h.1,⟨h.2.1,h.2.2.1⟩,h.2.2.2.1,h.2.2.2.2⟩
   rw[hB,hBf];exact⟨false,rfl,(λ h=>nomatch h),λ h=>absurd ⟨(h.1.wait hw).ve,(h.1.wait hw).pr,(h.1.wait hw).li⟩ hreq⟩
theorem zcF5(c:aV)(hl:c.aG.length<=8)(v:List aL)(hv:v.length<=1000):
  zc2 (zQ6 c v) 0=some (.inr false)/\(¬∀p∈v,∃x∈c.aG,x.aK=p)\/zc2 (zQ6 c v) 0=some (.inl ())/\∀p∈v,∃x∈c.aG,x.aK=p:=by
 have key:=zV2 (body:=zQ6 c v) v.length (λ i=>∃x∈c.aG,x.aK=v.getD i aL.zero) (λ i hi=>by
  unfold zQ6;have h3:0<=(i:Int)/\(i:Int)<(v.length:Int):=by omega
  obtain⟨k,h1,h2⟩:=zaE6 c.aG (v.getD i aL.zero) (by omega);simp only[h3.1,h3.2,cS,eD,zg9,cA,cC,Int.toNat_natCast,zc4 i (show i<4611686018427387904 by omega),h1,Option.bind_some];rcases h2 with⟨rfl,hn⟩|⟨k,rfl,hk,e⟩
  .exact⟨false,rfl,(λ h=>nomatch h),λ⟨x,hx,e⟩=>absurd e (hn x hx)⟩
  .exact⟨true,by rw[bV (by simp),bX rfl],(λ _=>⟨_,zd5 hk,e⟩),λ _=>rfl⟩) (by unfold zQ6;simp)
 have hm:=zad0 (P:=λ p:aL=>∃x∈c.aG,x.aK=p) (l:=v) (z:=aL.zero);rcases key with⟨h1,h2⟩|⟨h1,h2⟩
 .exact .inl ⟨h1,λ h=>h2 (hm.2 h)⟩
 .exact .inr ⟨h1,hm.1 h2⟩
theorem zcP2(c:aV)(hl:c.aG.length<=8)(ht:ValidT c.aI)(hnow:0<=c.now/\c.now<=1073741824):
  zc2 (zX7 c) 0=some (.inr false)/\(¬∀i,i<c.aG.length->(ProcV c.now c.aI (c.aG.getD i aF.zero)/\zbp5 c.now c.aI (c.aG.getD i aF.zero))/\(0<i->ltP (c.aG.getD (i-1) aF.zero).aK (c.aG.getD i aF.zero).aK))\/
  zc2 (zX7 c) 0=some (.inl ())/\∀i,i<c.aG.length->(ProcV c.now c.aI (c.aG.getD i aF.zero)/\zbp5 c.now c.aI (c.aG.getD i aF.zero))/\(0<i->ltP (c.aG.getD (i-1) aF.zero).aK (c.aG.getD i aF.zero).aK):=
 zV2 c.aG.length _ (λ i hi=>by
  unfold zX7;have h3:0<=(i:Int)/\(i:Int)<(c.aG.length:Int):=by omega
  obtain⟨b,h1,h2⟩:=zcP1 c (c.aG.getD i aF.zero) ht hnow;simp only[h3.1,h3.2,cS,eD,zg9,cA,cC,Int.toNat_natCast,zc4 i (show i<4611686018427387904 by omega),h1,Option.bind_some];rw[gdp (by
   intro h;simp only[bU,bY]at h;rw[zj1 (by omega) (by omega)];try omega)]
  cases b with
  |false=>exact⟨false,rfl,(λ h=>nomatch h),λ h=>h2.2 h.1⟩
  |true=>
   simp only[cO,dM]
   by_cases c0:i=0
   .subst c0;exact⟨true,rfl,(λ _=>⟨h2.1 rfl,λ h=>absurd h (by omega)⟩),λ _=>rfl⟩
   .rw[zah8 i (by omega) (by omega)];simp only[show(0:Int)<(i:Int)by omega,cA,cK,Int.toNat_natCast]
    by_cases c1:ltP (c.aG.getD (i-1) aF.zero).aK (c.aG.getD i aF.zero).aK
    .refine⟨true,?_,(λ _=>⟨h2.1 rfl,λ _=>c1⟩),λ _=>rfl⟩;rw[bV (by simp only[bY];exactλ h=>(zaz5 _ _).1 h c1),bX rfl]
    .refine⟨false,?_,(λ h=>nomatch h),λ h=>absurd (h.2 (by omega)) c1⟩;rw[bX (by simp only[bY];exact(zaz5 _ _).2 c1)];rfl) (by unfold zX7;simp)
theorem zbI4{l:List aF}(h:∀i,i<l.length->0<i->ltP (l.getD (i-1) aF.zero).aK (l.getD i aF.zero).aK):l.Pairwise λ a b=>ltP a.aK b.aK:=by
 rw[dU];have g:∀k,(hk:k<l.length)->l.getD k aF.zero=l[k]:=λ k hk=>by rw[bW,bZ hk];rfl
 have key:∀d i,(hj:i+d+1<l.length)->ltP (l.getD i aF.zero).aK (l.getD (i+d+1) aF.zero).aK:=by
  intro d;induction d with
  |zero=>intro i hj;exact h (i+1) hj (by omega)
  |succ d ih=>intro i hj;exact zat0 (ih i (by omega)) (h (i+(d+1)+1) hj (by omega))
 intro i j hi hj hij;have:=key (j-i-1) i (by omega);rw[show i+(j-i-1)+1=j by omega,g i hi,g j hj]at this;exact this
theorem zbz1{l:List aF}(h:l.Pairwise λ a b=>ltP a.aK b.aK){i j:Nat}(hj:j<l.length)(hij:i<j):ltP (l.getD i aF.zero).aK (l.getD j aF.zero).aK:=by have:=dU.1 h i j (by omega) hj hij;rw[bW,bW,bZ (by omega),bZ hj];exact this
theorem zcd4(c:aV):∃b,zL7 c=some b/\(b=true↔CenV c):=by
 unfold zL7
 by_cases c0:c.now<0\/1073741824<c.now
 .refine⟨false,?_,(λ h=>nomatch h),λ h=>by have:=h.now;omega⟩;rcases c0 with h|h<;>simp[h]
 have c1:¬c.now<0:=λ h=>c0 (.inl h);have c2:¬1073741824<c.now:=λ h=>c0 (.inr h);simp only[c1,c2,cJ,eU,dC,cC,zaq0,Option.bind_some,dM];cases hv:zay2 c.aI with
 |false=>exact⟨false,rfl,(λ h=>nomatch h),λ h=>by have:=(zR3 _).2 h.t;rw[hv]at this;cases this⟩
 |true=>
 have ht:=(zR3 _).1 hv
 by_cases c3:(8:Int)<(c.aG.length:Int)
 .exact⟨false,by simp[c3],(λ h=>nomatch h),λ h=>by have:=h.len;omega⟩
 simp only[c3,cJ,cO,eU,bT,cB];have hl:c.aG.length<=8:=by omega
 rw[zaT5 ht.len ht.each,Option.bind_some];rcases zcF5 c hl (zB8 c.aI) (by have:=ht.aG;omega)with⟨h1,h2⟩|⟨h1,h2⟩
 .exact⟨false,by rw[h1];rfl,(λ h=>nomatch h),λ h=>absurd h.aG h2⟩
 rw[h1,Option.bind_some];show∃b,zah6 c ()=some b/\_;unfold zah6;rcases zcP2 c hl ht (by omega)with⟨h3,h4⟩|⟨h3,h4⟩
 .exact⟨false,by rw[h3];rfl,(λ h=>nomatch h),λ h=>absurd (λ i hi=>⟨⟨h.each _ (zd5 hi),h.quiet _ (zd5 hi)⟩,λ h0=>zbz1 h.asc hi (by omega)⟩) h4⟩
 refine⟨true,by rw[h3];rfl,λ _=>⟨by omega,ht,hl,λ x hx=>?_,zbI4 λ i hi h0=>(h4 i hi).2 h0,h2,λ x hx=>?_⟩,λ _=>rfl⟩
 .obtain⟨i,hi,rfl⟩:=zt8 (z:=aF.zero) hx;exact(h4 i hi).1.1
 .obtain⟨i,hi,rfl⟩:=zt8 (z:=aF.zero) hx;exact(h4 i hi).1.2
theorem zbp6{c:aV}(h:CenV c):zL7 c=some true:=by obtain⟨b,h1,h2⟩:=zcd4 c;rw[h1,h2.2 h]
end Ab
end Go.Proofs.YtenebhlnfjcffaaGreatDoor
