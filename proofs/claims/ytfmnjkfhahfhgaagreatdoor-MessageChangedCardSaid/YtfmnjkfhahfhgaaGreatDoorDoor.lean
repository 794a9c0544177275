import Derived.Test.YtfmnjkfhahfhgaaGreatDoorAuto
import Derived.Test.YtfmnjkfhahfhgaaGreatDoorRows
import Derived.ProofKit
import Derived.OpenShut
import Derived.Carry
import Derived.WideKeyArgs
import Derived.Deep.Slices
import Derived.Lib.LaidTab
namespace Go.Proofs.YtfmnjkfhahfhgaaGreatDoor
namespace Ab
set_option linter.all false
open Go.ChangeShapes Go.WideShapes Go.ChangeAt Go.RowKit
def RCs(w:World):List Value->List A->Prop
 |[],[]=>True
 |v::vs,a::es=>RepC w (λ _=>False) v a/\RCs w vs es
 |_,_=>False
def RCs.len{w:World}:∀{vs:List Value} {es:List A},RCs w vs es->vs.length=es.length
 |[],[],_=>rfl
 |_::_,_::_,h=>by simp[RCs.len h.2]
 |[],_::_,h=>h.elim
 |_::_,[],h=>h.elim
def RCs.at{w:World}:∀{vs:List Value} {es:List A},RCs w vs es->∀(i:Nat) (u:Value) (a:A),vs[i]? =some u->es[i]? =some a->RepC w (λ _=>False) u a
 |v::vs,a::es,h,i,u,b,hu,hb=>by
  cases i with
  |zero=>simp at hu hb;subst hu;subst hb;exact h.1
  |succ i=>exact RCs.at h.2 i u b (by simpa using hu) (by simpa using hb)
 |[],[],_,i,u,b,hu,_=>by simp at hu
 |[],_::_,h,_,_,_,_,_=>h.elim
 |_::_,[],h,_,_,_,_,_=>h.elim
def RCs.append{w:World}{H:List Value}{O:List A}(k:RCs w H O):∀{vs:List Value} {es:List A},RCs w vs es->RCs w (vs++H) (es++O)
 |[],[],_=>k
 |_::_,_::_,h=>⟨h.1,RCs.append k h.2⟩
 |[],_::_,h=>h.elim
 |_::_,[],h=>h.elim
def wQ(P:Program)(T:TypeId){α:Type}(f:α->List A)(ok:α->Prop):Prop:=
 ∀{H:Type} (enc:TypeId×Value->H) (w:World) (U:Nat) (O:Nat->Bool) (Y:Bool) (B:Nat) (F:List Value) (x:DataW H×List MemPlace),
  DataW.trod enc P w U O Y B T F=some x->∃a:α,ok a/\RCs w F (f a)
section
variable {P:Program} {t e:TypeId}
def Yu{k:IntKind}(ht:P.underlying t=some (.int k)):wQ P t (eI k) (λ n=>k.min<=n/\n<=k.max):=by intro H enc w U O Y B F x h;obtain⟨n,rfl,_,hw⟩:=DataW.trod_int ht h;exact⟨n,by simpa [Lit.wf]using hw,.int k n,trivial⟩
def cUa(ht:P.underlying t=some .bool):wQ P t eB (λ _=>True):=by intro H enc w U O Y B F x h;obtain⟨b,rfl,_⟩:=DataW.trod_bool ht h;exact⟨b,trivial,.bool b,trivial⟩
def cUb(ht:P.underlying t=some .string):wQ P t eS (λ s=>s.size<=maxLen):=by intro H enc w U O Y B M x h;obtain⟨s,rfl,_,F⟩:=DataW.trod_string ht h;exact⟨s,F,.str s,trivial⟩
def M4{α:Type}{p:Nat->α->Prop}:∀n:Nat,(∀i,i<n->∃a,p i a)->∃l:List α,l.length=n/\∀i a,l[i]? =some a->p i a
 |0,_=>⟨[],rfl,λ i a h=>by simp at h⟩
 |n+1,h=>by
  obtain⟨l,H,O⟩:=M4 n λ i hi=>h i om;obtain⟨a,ha⟩:=h n om;refine⟨l++[a],by simp[H],λ i b hb=>?_⟩;rw[fZ]at hb;split at hb
  .exact O i b hb
  .rename_i hi;have:i=n:=by
    have:=(cJ.1 hb).1;simp at this;omega
   subst this;simp[H]at hb;subst hb;exact ha
def GH(k:Nat)(P:Program)(T:TypeId){α:Type}(f:α->List A)(ok:α->Prop):Prop:=
 ∀{H:Type} (enc:TypeId×Value->H) (w:World) (U:Nat) (O:Nat->Bool) (Y:Bool) (B:List Value) (x:DataW H×List MemPlace),
  DataW.trod enc P w U O Y k T B=some x->∃a:α,ok a/\RCs w B (f a)
def cUe{H:Type}{enc:TypeId×Value->H}{w:World}{base:Nat}{O:Nat->Bool}{Y:Bool}{B:Nat}{M:List Value}{x:DataW H×List MemPlace}(ht:P.underlying t=some (.slice e))(h:DataW.trod enc P w base O Y B t M=some x):
  M=[.slice none 0 0]\/∃(a:Addr) (len cap n:Nat),B=n+1/\M=[.slice (some a) len cap]/\len<=cap/\cap<=maxLen/\
   ∀i,i<len->∃U y,w.cells? base (a.add (i*P.cellsOf e)) (P.cellsOf e)=some U/\DataW.trod enc P w base O Y n e U=some y:=by
 rcases DataW.trod_slice ht h with⟨h0,_⟩|⟨a,len,cap,sT,z0,n,hf,x0,_,_,hl,hm,hlen,y0,_,_⟩
 .exact .inl h0
 .refine .inr ⟨a,len,cap,n,hf,x0,hl,hm,λ i hi=>?_⟩;have F:=y0 i hi;rw[cF om]at F;cases hc:w.cells? base (a.add (i*P.cellsOf e)) (P.cellsOf e)with
  |none=>rw[hc]at F;cases F
  |some U=>rw[hc]at F;exact⟨U,_,rfl,F⟩
def cUf{k sz:Nat}{α:Type}{f:α->List A}{ok:α->Prop}(ht:P.underlying t=some (.slice e))(hc:P.cellsOf e=sz)(B:0<sz)(x0:∀x,(f x).length=sz)(he:∀n,n<k->GH n P e f ok):
  GH k P t (eL f) (λ l=>l.length<=maxLen/\∀a∈l,ok a):=by
 intro H enc w z0 u0 r0 cs x h;rcases cUe ht h with rfl|⟨a,len,t0,n,hk,rfl,hl,hm,hx⟩
 .exact⟨[],⟨fS _,by simp⟩,.sl0 _ _,trivial⟩
 .obtain⟨l,p0,q0⟩:=M4 (p:=λ i z=>ok z/\∃O,w.cells? z0 (a.add (i*sz)) sz=some O/\RCs w O (f z)) len (λ i hi=>by
   obtain⟨O,y,h1,h2⟩:=hx i hi;obtain⟨z,hz,hr⟩:=he n om enc w z0 u0 r0 O _ h2;rw[hc]at h1;exact⟨z,hz,O,h1,hr⟩)
  refine⟨l,⟨by omega,λ z hz=>?_⟩,?_⟩
  .obtain⟨i,hi⟩:=List.mem_iff_getElem?.1 hz;exact(q0 i z hi).1
  .refine⟨?_,trivial⟩
   by_cases h0:len=0
   .subst h0;have:l=[]:=dA p0;subst this;exact .sl0 _ _
   .have F:∀(i:Nat) (z:α),l[i]? =some z->∀(j:Nat) (b:A),(f z)[j]? =some b->∃u,w.cell? ⟨a.block,a.off+(i*sz+j),none⟩=some u/\RepC w (λ _=>False) u b:=λ i z hz j b hb=>by
     obtain⟨_,O,h1,h2⟩:=q0 i z hz;obtain⟨_,h4,h5⟩:=World.cells?_some h1;have hj:j<sz:=by rw[<-x0 z];exact(cJ.1 hb).1
     have Y:=h5 j hj;have s0:j<O.length:=om
     rw[cF s0]at Y;refine⟨O[j],?_,h2.at j _ b (by simp[s0]) hb⟩;have U:(a.add (i*sz)).add j=⟨a.block,a.off+(i*sz+j),none⟩\/(i*sz=0/\j=0/\(a.add (i*sz)).add j=a):=by
      unfold Addr.add
      by_cases h7:i*sz=0<;>by_cases h8:j=0
      .right;simp[h7,h8]
      .left;simp[h7,h8]
      .left;simp[h7,h8]
      .left;simp[h7,h8,fX]
     rcases U with h7|⟨h7,h8,h9⟩
     .rw[<-h7];exact Y
     .rw[h9]at Y;have e9:(⟨a.block,a.off+(i*sz+j),none⟩:Addr)=⟨a.block,a.off,none⟩:=by rw[h7,h8];rfl
      rw[e9];unfold World.cell? at Y⊢;split at Y
      .rename_i hb;simp only[hb];split at Y
       .cases Y
       .simpa using Y
      .cases Y
    obtain⟨us,hul,y0⟩:=M4 (p:=λ q u=>w.cell? ⟨a.block,a.off+q,none⟩=some u/\∀i z j b,l[i]? =some z->(f z)[j]? =some b->q=i*sz+j->RepC w (λ _=>False) u b) (len*sz) (λ q hq=>by
     have hi:q/sz<len:=(iG B).2 hq;have c0:q/sz<l.length:=om
     have hj:q% sz<(f l[q/sz]).length:=by rw[x0];exact lC _ B
     obtain⟨u,h1,h2⟩:=F (q/sz) l[q/sz] (by simp[c0]) (q% sz) (f l[q/sz])[q% sz] (by simp[hj]);have e:q/sz*sz+q% sz=q:=by rw[jN];exact Nat.div_add_mod q sz
     rw[e]at h1;refine⟨u,h1,λ i z j b hz hb d0=>?_⟩;obtain⟨u',h3,h4⟩:=F i z hz j b hb;rw[<-d0,h1]at h3;cases h3;exact h4)
    have hlt:a.block<w.heap.size:=by
     have e0:0<us.length:=by rw[hul];exact Nat.mul_pos om B
     have:=(y0 0 us[0] (by simp[e0])).1;unfold World.cell? at this;split at this
     .rename_i hb;exact(cS.1 hb).1
     .cases this
    have U:a.spot=none:=by
     obtain⟨_,O,h1,h2⟩:=q0 0 l[0] (by simp);obtain⟨_,h4,h5⟩:=World.cells?_some h1;have Y:=h5 0 B;have h7:(a.add (0*sz)).add 0=a:=by simp[Addr.add]
     rw[h7,cF om]at Y;unfold World.cell? at Y;split at Y
     .split at Y
      .cases Y
      .rename_i hs;simpa using hs
     .cases Y
    obtain⟨ab,ao,f0⟩:=a;simp only at U;subst U;simp only at hlt y0;rw[<-p0];rw[show l.length=(l.map f).length by simp];refine RepC.sl (W:=λ _=>False) ab ao t0 sz (l.map f) us (λ h=>h) hlt (by simp;omega) (by simp;omega) (λ i c M=>?_) (by simp[hul,p0]) (λ q u hq=>(y0 q u hq).1) (λ i c j b M hb=>?_)
    .simp only[cV,cN]at M;obtain⟨z,_,rfl⟩:=M;exact x0 z
    .simp only[cV,cN]at M;obtain⟨z,hz,rfl⟩:=M;have hj:j<sz:=by rw[<-x0 z];exact(cJ.1 hb).1
     have hi:i<l.length:=(cJ.1 hz).1;have hq:i*sz+j<us.length:=by rw[hul];have:(i+1)*sz<=len*sz:=dR _ om;rw[eD]at this;omega
     have:=(y0 (i*sz+j) us[i*sz+j] (by simp[hq])).2 i z j b hz hb rfl;have e:us.getD (i*sz+j) undef=us[i*sz+j]:=by rw[cD,cF hq];rfl
     rw[e];exact this
def cUg{sz:Nat}{α:Type}{f:α->List A}{ok:α->Prop}(ht:P.underlying t=some (.slice e))(hc:P.cellsOf e=sz)(B:0<sz)(F:∀x,(f x).length=sz)(he:wQ P e f ok):
  wQ P t (eL f) (λ l=>l.length<=maxLen/\∀a∈l,ok a):=by
 intro H enc w U O Y h0 M x h;exact cUf ht hc B F (λ n _=>λ enc w U O Y M x h=>he enc w U O Y n M x h) enc w U O Y M x h
def fld{H:Type}{enc:TypeId×Value->H}{w:World}{base:Nat}{O:Nat->Bool}{U:Bool}{n:Nat}{B:List Value}{Y:Array Field}{xs:List (DataW H×List MemPlace)}{α:Type}{f:α->List A}{ok:α->Prop}{sz:Nat}
  (M:∀(i:Nat) (g:Field),Y[i]? =some g->DataW.trod enc P w base O U n g.type ((B.drop g.offset).take (P.cellsOf g.type))=xs[i]?) (hl:xs.length=Y.size)
  (i:Nat) (g:Field) (hg:Y[i]? =some g) (hc:P.cellsOf g.type=sz) (hr:wQ P g.type f ok):∃a:α,ok a/\RCs w ((B.drop g.offset).take sz) (f a):=by
 have F:=M i g hg;have h2:i<xs.length:=by rw[hl];exact(cS.1 hg).1
 rw[cF h2,hc]at F;exact hr enc w base O U n _ _ F
def cUh{H:Type}{enc:TypeId×Value->H}{w:World}{base:Nat}{O:Nat->Bool}{U:Bool}{n:Nat}{B:List Value}{Y:Array Field}{xs:List (DataW H×List MemPlace)}{α:Type}{f:α->List A}{ok:α->Prop}{sz:Nat}
  (M:∀(i:Nat) (g:Field),Y[i]? =some g->DataW.trod enc P w base O U n g.type ((B.drop g.offset).take (P.cellsOf g.type))=xs[i]?) (hl:xs.length=Y.size)
  (i:Nat) (g:Field) (hg:Y[i]? =some g) (hc:P.cellsOf g.type=sz) (hr:GH n P g.type f ok):∃a:α,ok a/\RCs w ((B.drop g.offset).take sz) (f a):=by
 have F:=M i g hg;have h2:i<xs.length:=by rw[hl];exact(cS.1 hg).1
 rw[cF h2,hc]at F;exact hr enc w base O U _ _ F
def cUi{T:TypeId}{α:Type}{f:α->List A}{ok:α->Prop}(h:∀k,(∀n,n<k->GH n P T f ok)->GH k P T f ok):wQ P T f ok:=by
 have:∀k,GH k P T f ok:=λ k=>by
  induction k using Nat.strongRecOn with
  |_ k F=>exact h k F
 intro H enc w U O Y B M x hx;exact this B enc w U O Y M x hx
end
def cUj{w w':World}(h:Keeps (λ _=>False) w w')(H:MemPlace->Prop):w.keptBut w' H:=by
 have hb:∀i,i<w.heap.size->w'.heap[i]? =w.heap[i]? :=λ i hi=>h.block i hi (λ h=>h);refine⟨h.os,h.output,λ i hi=>?_⟩;rw[hb i hi];cases hq:w.heap[i]? with
 |none=>trivial
 |some o=>
  cases o with
  |cells c t fr=>exact⟨rfl,rfl,rfl,λ j _=>rfl⟩
  |map es cl=>exact .inr ⟨rfl,rfl⟩
  |_=>rfl
def cUk{w w':World}(h:Keeps (λ _=>False) w w'){p:MemPlace}(H:p.block<w.heap.size):w.sameAt w' p:=by
 cases p with
 |cell b O=>have hb:b<w.heap.size:=H;show w'.cell? _=w.cell? _;exact World.cell?_of_block (w:=w) (h.block b hb (λ h=>h))
 |map b=>exact h.block b H (λ h=>h)
def Yv{H:Type}{enc:TypeId×Value->H}{P:Program}(hl:laidOutB P=true){w w':World}(B:Keeps (λ _=>False) w w'){O:Nat->Bool}:
  ∀{U:List TypeId} {vs:List Value} {ds:List (DataW H)} {ps:List MemPlace},(∀t∈U,P.readableRec t=true/\t<P.types.size)->DataW.TrodAll enc P w 0 (λ _=>true) true U vs ds ps->
   (∀p∈ps,p.block<w.heap.size/\O p.block=true)->DataW.TrodAll enc P w' 0 O true U vs ds ps
 |[],[],[],ps,_,h,_=>h
 |t::U,v::vs,d::ds,ps,ht,⟨p,q,h1,h2,h3⟩,hp=>by
  subst h3;exact⟨p,q,Go.WideElems.Trod_stays hl (ht t (.head _)).1 (ht t (.head _)).2 h1 (λ x hx=>cUk B (hp x (dW _ hx)).1) (λ x hx=>(hp x (dW _ hx)).2),
   Yv hl B (λ F Y=>ht F (.tail _ Y)) h2 (λ x hx=>hp x (dJ _ hx)),rfl⟩
 |[],_::_,_,_,_,h,_=>h.elim
 |[],[],_::_,_,_,h,_=>h.elim
 |_::_,[],_,_,_,h,_=>h.elim
 |_::_,_::_,[],_,_,h,_=>h.elim
def cUm{H:Type}{enc:TypeId×Value->H}{P:Program}{f:FuncId}{fn:Func}{s:ChangeSpec}{W:World}{args:Array Value}{ds gs:List (DataW H)}{before:List MemPlace}{tb:TypeId}{U M Y:Bool}
  (hl:laidOutB P=true) (x0:∀t∈fn.params.toList,P.readableRec t=true/\t<P.types.size) (B:s.vars=[]) (z0:fn.resultTypes=#[tb]) (u0:P.underlying tb=some .bool)
  (hW:DataW.Whole enc P fn.params.toList s.vars U W args.toList ds gs before) (O:s.fn H (ds++gs)={results:=[.lit (.bool true)],args:=ds,vars:=[]})
  (h0:Calls P f args W λ e w'=>∃v,e=.returned v/\Keeps (λ _=>False) W w'/\v=.bool true):
  Calls P f args W λ e W'=>∃v,e=.returned v/\s.post enc P fn U M Y false W args v W':=by
 refine h0.mono λ e W' ⟨v,he,hk,hv⟩=>?_;subst hv;refine⟨_,he,?_⟩;have F:∀p∈before,p.block<W.heap.size:=λ p hp=>hW.lt p hp;have p0:=hW;obtain⟨pa,pv,hA,hV,y0,hz,hn⟩:=hW;rw[B]at hV;obtain⟨rfl,rfl⟩:gs=[]/\pv=[]:=by
  cases gs with
  |nil=>exact⟨rfl,hV⟩
  |cons _ _=>exact hV.elim
 rw[dY]at y0;subst y0;refine⟨ds,[],before,[],before,[],p0,?_,?_,?_,World.keptBut_mono (λ p hp=>⟨hp,.inr (.inl hp)⟩) (cUj hk (·∈before)),λ h=>by cases h⟩
 .rw[O,z0];exact trodAll_cons_mk (shut_bool u0 _) trodAll_mk0
 .rw[O];exact Yv hl hk x0 hA (λ p hp=>⟨F p hp,by simpa using F p hp⟩)
 .rw[O,B];rfl
def cUn{P:Program}{T:Nat}{α:Type}{f:α->List A}{ok:α->Prop}{M:Array Field}(hr:wQ P T f ok)(ht:P.underlying T=some (.struct M)){w:World}{v:Value}
  {base:Nat} (U:Value.okWide P w .any base T v) {H:Type} {enc:TypeId×Value->H} {O:Nat->Bool} {Y:Bool} {b:Nat} {d:DataW H} {ps:List MemPlace} (h:DataW.Trod enc P w b O Y T v d ps):
  ∃x:α,ok x/\RepV w (λ _=>False) rE v (.agg (f x)):=by
 obtain⟨B,hf⟩:=h;obtain⟨x,hx,F⟩:=hr enc w b O Y B _ _ hf;simp only[Value.okWide,ht]at U;obtain⟨cs,rfl,_,_⟩:=U;refine⟨x,hx,cs.toList,by simp,?_,λ i u a hu ha=>nV (RCs.at F i u a hu ha)⟩;exact RCs.len F
def QX(v:Value):Prop:=v.cells.toList=[v]
def Yw{P:Program}{t:TypeId}{k:IntKind}{w:World}{r:Reach}{b:Nat}{v:Value}(ht:P.underlying t=some (.int k))(h:Value.okWide P w r b t v):QX v:=by obtain⟨n,rfl⟩:=okWide_int ht h;rfl
def Yx{P:Program}{t e:TypeId}{w:World}{r:Reach}{b:Nat}{v:Value}(ht:P.underlying t=some (.slice e))(h:Value.okWide P w r b t v):QX v:=by obtain⟨a,l,c,rfl⟩:=okWide_slice ht h;rfl
def M5{P:Program}{T:Nat}{α:Type}{g:α->List A}{f:α->A}{ok:α->Prop}(F:wQ P T g ok)(hg:∀x,g x=[f x]){w:World}{v:Value}(M:QX v)
  {H:Type} {enc:TypeId×Value->H} {O:Nat->Bool} {U:Bool} {b:Nat} {d:DataW H} {ps:List MemPlace} (h:DataW.Trod enc P w b O U T v d ps):
  ∃x:α,ok x/\RepV w (λ _=>False) rE v (f x):=by
 obtain⟨Y,hf⟩:=h;obtain⟨x,hx,B⟩:=F enc w b O U Y _ _ hf;rw[M,hg]at B;exact⟨x,hx,nT (nV B.1)⟩
mutual
def lits{H:Type}:DataW H->Option (List A)
 | .lit (.bool b)=>some [.bool b]
 | .lit (.int k n)=>some [.int k n]
 | .lit (.string l)=>some [.str ⟨l.toArray⟩]
 | .agg O=>M6 O
 |_=>none
def M6{H:Type}:List (DataW H)->Option (List A)
 |[]=>some []
 |d::ds=>(lits d).bind λ a=>(M6 ds).bind λ b=>some (a++b)
end
def Lits(P:Program)(T:TypeId):Prop:=
 ∀{H:Type} (enc:TypeId×Value->H) (w:World) (U:Nat) (O:Nat->Bool) (Y:Bool) (B:Nat) (F:List Value) (x:DataW H×List MemPlace),
  DataW.trod enc P w U O Y B T F=some x->∃es,lits x.1=some es/\RCs w F es
section
variable {P:Program} {t e:TypeId}
def cUt(ht:P.underlying t=some .bool):Lits P t:=by intro H enc w U O Y B F x h;obtain⟨b,rfl,hx⟩:=DataW.trod_bool ht h;rw[hx];exact⟨[A.bool b],by simp[lits],.bool b,trivial⟩
def cUu(ht:P.underlying t=some .string):Lits P t:=by intro H enc w U O Y B F x h;obtain⟨s,rfl,hx,_⟩:=DataW.trod_string ht h;rw[hx];exact⟨[A.str s],by simp[lits],.str s,trivial⟩
def Yy{H:Type}:∀{ds:List (DataW H)} {aas:List (List A)},ds.length=aas.length->(∀(i:Nat) d es,ds[i]? =some d->aas[i]? =some es->lits d=some es)->M6 ds=some aas.flatten
 |[],[],_,_=>rfl
 |d::ds,es::aas,hl,h=>by have U:=h 0 d es rfl rfl;have Y:=Yy (ds:=ds) (aas:=aas) (by simpa using hl) λ i B O F ha=>h (i+1) B O (by simpa using F) (by simpa using ha);simp[M6,U,Y]
 |[],_::_,hl,_=>by simp at hl
 |_::_,[],hl,_=>by simp at hl
def RCs.rows{w:World}{sz:Nat}:∀(n:Nat) {H:List Value} {aas:List (List A)},H.length=n*sz->aas.length=n->(∀(i:Nat) es,aas[i]? =some es->RCs w ((H.drop (i*sz)).take sz) es)->RCs w H aas.flatten
 |0,H,aas,h1,h2,_=>by
  have:H=[]:=dA (by simpa using h1);have:aas=[]:=dA h2
  subst_vars;trivial
 |n+1,H,es::aas,h1,h2,h=>by have e:H=H.take sz++H.drop sz:=(eO sz H).symm;rw[e,List.flatten_cons];refine RCs.append (RCs.rows (sz:=sz) n (by simp[h1,eD]) (by simpa using h2) λ i O ha=>?_) (by simpa using h 0 es rfl);have:=h (i+1) O (by simpa using ha);rw[eV];rwa [show sz+i*sz=(i+1)*sz by rw[eD];omega]
 |n+1,H,[],h1,h2,_=>by simp at h2
def QY{n sz:Nat}(ht:P.underlying t=some (.array n e))(M:P.cellsOf e=sz)(h0:P.cellsOf t=n*sz)(he:Lits P e):Lits P t:=by
 intro H enc w Y U B O cs x h;cases O with
 |zero=>simp[DataW.trod]at h
 |succ O=>
  simp only[DataW.trod,ht,M,h0]at h;split at h
  .rename_i hl;obtain⟨xs,hm,hx⟩:=cN.1 h;have x0:xs.length=n:=by simpa using Lib.mapM_length hm
   obtain⟨y0,F,ha⟩:=M4 (p:=λ i es=>(∀y,xs[i]? =some y->lits y.1=some es)/\RCs w ((cs.drop (i*sz)).take sz) es) n (λ i hi=>by
    obtain⟨b,hb,hf⟩:=Lib.mapM_at hm i i (by simp[hi]);obtain⟨es,h1,h2⟩:=he enc w Y U B O _ b hf;exact⟨es,λ y hy=>by rw[hb]at hy;cases hy;exact h1,h2⟩)
   refine⟨y0.flatten,?_,RCs.rows n (by simpa using hl) F λ i es hi=>(ha i es hi).2⟩;rw[<-hx];simp only[lits];refine Yy (by simp[x0,F]) λ i d es hd has=>?_;simp only[cV,cN]at hd;obtain⟨y,hy,rfl⟩:=hd;exact(ha i es has).1 y hy
  .cases h
def Yz{name:String}{d:DataW Unit}{rest:List (String×DataW Unit)}{ps:List MemPlace}{W:World}{g:Nat}{es:List A}(hg:P.globalNamed name=some g)(O:(P.globals[g]?).map (·.type)=some t)(hl:Lits P t)(hd:lits d=some es)
  (h:DataW.LaidVars P W ((name,d)::rest) ps):zX W (λ _=>False) [(g,es)]/\∃q,DataW.LaidVars P W rest q:=by
 obtain⟨g',t',U,B,p,q,F,M,h3,h4,Y,_⟩:=h;refine⟨?_,q,Y⟩;rw[hg]at F;cases F;rw[O]at M;cases M;obtain⟨h0,h5,h6⟩:=hl _ _ _ _ _ _ _ _ h4;rw[hd]at h5;cases h5;intro g2 x0 hmem;simp only[dQ,hY]at hmem;obtain⟨rfl,rfl⟩:=hmem;refine⟨λ h=>h,?_,λ j a hj=>?_⟩
 .have H:=h3;unfold World.var? at H;rw[hg,eF]at H;split at H
  .rename_i hb;exact(cS.1 hb).1
  .cases H
 .have hlen:=RCs.len h6;have y0:=(cJ.1 hj).1;have hc:=World.var?_cell hg h3 j;have hu:U.toList[j]? =some (U.toList[j]'(by omega)):=cF om;refine⟨U.toList[j]'(by omega),?_,RCs.at h6 j _ a hu hj⟩;rw[hc,<-jA];exact hu
def cUy{t2:TypeId}{name H:String}{d d2:DataW Unit}{rest:List (String×DataW Unit)}{W:World}{g Y:Nat}{es O:List A}(hg:P.globalNamed name=some g)(B:(P.globals[g]?).map (·.type)=some t)(hl:Lits P t)(hd:lits d=some es)
  (F:P.globalNamed H=some Y) (U:(P.globals[Y]?).map (·.type)=some t2) (M:Lits P t2) (h0:lits d2=some O)
  (h:laidMet P ((name,d)::(H,d2)::rest) W):zX W (λ _=>False) [(Y,O),(g,es)]:=by
 obtain⟨h1,q,h2⟩:=Yz hg B hl hd h.choose_spec.1;have h3:=(Yz F U M h0 h2).1;intro a cs hm;rcases cK.1 hm with e|hm
 .exact h3 a cs (dQ.2 e)
 .exact h1 a cs hm
end
end Ab
end Go.Proofs.YtfmnjkfhahfhgaaGreatDoor
