import Derived.Test.YtamndckemppjdaaGreatDoorAuto
import Derived.Test.YtamndckemppjdaaGreatDoorRows
import Derived.ProofKit
import Derived.OpenShut
import Derived.Carry
import Derived.WideKeyArgs
import Derived.Deep.Slices
import Derived.Lib.LaidTab
namespace Go.Proofs.YtamndckemppjdaaGreatDoor
namespace Ab
set_option linter.unusedSimpArgs false
open Go.ChangeShapes Go.WideShapes Go.ChangeAt Go.RowKit
set_option linter.unusedVariables false
def RCs(w:World):List Value->List A->Prop
 |[],[]=>True
 |v::vs,a::es=>RepC w (λ _=>False) v a/\RCs w vs es
 |_,_=>False
theorem RCs.len{w:World}:∀{vs:List Value} {es:List A},RCs w vs es->vs.length=es.length
 |[],[],_=>rfl
 |_::_,_::_,h=>by simp[RCs.len h.2]
 |[],_::_,h=>h.elim
 |_::_,[],h=>h.elim
theorem RCs.at{w:World}:∀{vs:List Value} {es:List A},RCs w vs es->∀(i:Nat) (u:Value) (a:A),vs[i]? =some u->es[i]? =some a->RepC w (λ _=>False) u a
 |v::vs,a::es,h,i,u,b,hu,hb=>by
  cases i with
  |zero=>simp at hu hb;subst hu;subst hb;exact h.1
  |succ i=>exact RCs.at h.2 i u b (by simpa using hu) (by simpa using hb)
 |[],[],_,i,u,b,hu,_=>by simp at hu
 |[],_::_,h,_,_,_,_,_=>h.elim
 |_::_,[],h,_,_,_,_,_=>h.elim
theorem RCs.append{w:World}{ys:List Value}{bs:List A}(k:RCs w ys bs):∀{vs:List Value} {es:List A},RCs w vs es->RCs w (vs++ys) (es++bs)
 |[],[],_=>k
 |_::_,_::_,h=>⟨h.1,RCs.append k h.2⟩
 |[],_::_,h=>h.elim
 |_::_,[],h=>h.elim
def zbc9(P:Program)(T:TypeId){α:Type}(f:α->List A)(ok:α->Prop):Prop:=
 ∀{H:Type} (enc:TypeId×Value->H) (w:World) (base:Nat) (spare:Nat->Bool) (held:Bool) (fuel:Nat) (cs:List Value) (x:DataW H×List MemPlace),
  DataW.trod enc P w base spare held fuel T cs=some x->∃a:α,ok a/\RCs w cs (f a)
section
variable {P:Program} {t e:TypeId}
theorem zbr7{k:IntKind}(ht:P.underlying t=some (.int k)):zbc9 P t (eI k) (λ n=>k.min<=n/\n<=k.max):=by intro H enc w base spare held fuel cs x h;obtain⟨n,rfl,_,hw⟩:=DataW.trod_int ht h;exact⟨n,by simpa [Lit.wf]using hw,.int k n,trivial⟩
theorem zax9{α:Type}{p:Nat->α->Prop}:∀n:Nat,(∀i,i<n->∃a,p i a)->∃l:List α,l.length=n/\∀i a,l[i]? =some a->p i a
 |0,_=>⟨[],rfl,λ i a h=>by simp at h⟩
 |n+1,h=>by
  obtain⟨l,h1,h2⟩:=zax9 n λ i hi=>h i (by omega);obtain⟨a,ha⟩:=h n (by omega);refine⟨l++[a],by simp[h1],λ i b hb=>?_⟩;rw[eO]at hb;split at hb
  .exact h2 i b hb
  .rename_i hi;have:i=n:=by
    have:=(cH.1 hb).1;simp at this;omega
   subst this;simp[h1]at hb;subst hb;exact ha
def zbN7(k:Nat)(P:Program)(T:TypeId){α:Type}(f:α->List A)(ok:α->Prop):Prop:=
 ∀{H:Type} (enc:TypeId×Value->H) (w:World) (base:Nat) (spare:Nat->Bool) (held:Bool) (cs:List Value) (x:DataW H×List MemPlace),
  DataW.trod enc P w base spare held k T cs=some x->∃a:α,ok a/\RCs w cs (f a)
theorem zck8{H:Type}{enc:TypeId×Value->H}{w:World}{base:Nat}{spare:Nat->Bool}{held:Bool}{fuel:Nat}{cs:List Value}{x:DataW H×List MemPlace}(ht:P.underlying t=some (.slice e))(h:DataW.trod enc P w base spare held fuel t cs=some x):
  cs=[.slice none 0 0]\/∃(a:Addr) (len cap n:Nat),fuel=n+1/\cs=[.slice (some a) len cap]/\len<=cap/\cap<=maxLen/\
   ∀i,i<len->∃cs' y,w.cells? base (a.add (i*P.cellsOf e)) (P.cellsOf e)=some cs'/\DataW.trod enc P w base spare held n e cs'=some y:=by
 rcases DataW.trod_slice ht h with⟨h0,_⟩|⟨a,len,cap,zao0,rest,n,hf,hcs,_,_,hl,hm,hlen,hel,_,_⟩
 .exact .inl h0
 .refine .inr ⟨a,len,cap,n,hf,hcs,hl,hm,λ i hi=>?_⟩;have h1:=hel i hi;rw[cJ (by omega)]at h1;cases hc:w.cells? base (a.add (i*P.cellsOf e)) (P.cellsOf e)with
  |none=>rw[hc]at h1;cases h1
  |some cs'=>rw[hc]at h1;exact⟨cs',_,rfl,h1⟩
theorem zbm5{k sz:Nat}{α:Type}{f:α->List A}{ok:α->Prop}(ht:P.underlying t=some (.slice e))(hc:P.cellsOf e=sz)(hpos:0<sz)(hsz:∀x,(f x).length=sz)(he:∀n,n<k->zbN7 n P e f ok):
  zbN7 k P t (eL f) (λ l=>l.length<=maxLen/\∀a∈l,ok a):=by
 intro H enc w base spare held cs x h;rcases zck8 ht h with rfl|⟨a,len,cap,n,hk,rfl,hl,hm,hx⟩
 .exact⟨[],⟨eQ _,by simp⟩,.sl0 _ _,trivial⟩
 .obtain⟨l,hll,hl2⟩:=zax9 (p:=λ i z=>ok z/\∃cs',w.cells? base (a.add (i*sz)) sz=some cs'/\RCs w cs' (f z)) len (λ i hi=>by
   obtain⟨cs',y,h1,h2⟩:=hx i hi;obtain⟨z,hz,hr⟩:=he n (by omega) enc w base spare held cs' _ h2;rw[hc]at h1;exact⟨z,hz,cs',h1,hr⟩)
  refine⟨l,⟨by omega,λ z hz=>?_⟩,?_⟩
  .obtain⟨i,hi⟩:=List.mem_iff_getElem?.1 hz;exact(hl2 i z hi).1
  .refine⟨?_,trivial⟩
   by_cases h0:len=0
   .subst h0;have:l=[]:=cW hll;subst this;exact .sl0 _ _
   .have hcell:∀(i:Nat) (z:α),l[i]? =some z->∀(j:Nat) (b:A),(f z)[j]? =some b->∃u,w.cell? ⟨a.block,a.off+(i*sz+j),none⟩=some u/\RepC w (λ _=>False) u b:=λ i z hz j b hb=>by
     obtain⟨_,cs',h1,h2⟩:=hl2 i z hz;obtain⟨_,h4,h5⟩:=World.cells?_some h1;have hj:j<sz:=by rw[<-hsz z];exact(cH.1 hb).1
     have h6:=h5 j hj;have hj2:j<cs'.length:=by omega
     rw[cJ hj2]at h6;refine⟨cs'[j],?_,h2.at j _ b (by simp[hj2]) hb⟩;have hspot:(a.add (i*sz)).add j=⟨a.block,a.off+(i*sz+j),none⟩\/(i*sz=0/\j=0/\(a.add (i*sz)).add j=a):=by
      unfold Addr.add
      by_cases h7:i*sz=0<;>by_cases h8:j=0
      .right;simp[h7,h8]
      .left;simp[h7,h8]
      .left;simp[h7,h8]
      .left;simp[h7,h8,eT]
     rcases hspot with h7|⟨h7,h8,h9⟩
     .rw[<-h7];exact h6
     .rw[h9]at h6;have e9:(⟨a.block,a.off+(i*sz+j),none⟩:Addr)=⟨a.block,a.off,none⟩:=by rw[h7,h8];rfl
      rw[e9];unfold World.cell? at h6⊢;split at h6
      .rename_i hb;simp only[hb];split at h6
       .cases h6
       .simpa using h6
      .cases h6
    obtain⟨us,hul,hu2⟩:=zax9 (p:=λ q u=>w.cell? ⟨a.block,a.off+q,none⟩=some u/\∀i z j b,l[i]? =some z->(f z)[j]? =some b->q=i*sz+j->RepC w (λ _=>False) u b) (len*sz) (λ q hq=>by
     have hi:q/sz<len:=(fF hpos).2 hq;have hi2:q/sz<l.length:=by omega
     have hj:q% sz<(f l[q/sz]).length:=by rw[hsz];exact gU _ hpos
     obtain⟨u,h1,h2⟩:=hcell (q/sz) l[q/sz] (by simp[hi2]) (q% sz) (f l[q/sz])[q% sz] (by simp[hj]);have e:q/sz*sz+q% sz=q:=by rw[iT];exact Nat.div_add_mod q sz
     rw[e]at h1;refine⟨u,h1,λ i z j b hz hb hq2=>?_⟩;obtain⟨u',h3,h4⟩:=hcell i z hz j b hb;rw[<-hq2,h1]at h3;cases h3;exact h4)
    have hlt:a.block<w.heap.size:=by
     have h0u:0<us.length:=by rw[hul];exact Nat.mul_pos (by omega) hpos
     have:=(hu2 0 us[0] (by simp[h0u])).1;unfold World.cell? at this;split at this
     .rename_i hb;exact(cO.1 hb).1
     .cases this
    have hspot:a.spot=none:=by
     obtain⟨_,cs',h1,h2⟩:=hl2 0 l[0] (by simp);obtain⟨_,h4,h5⟩:=World.cells?_some h1;have h6:=h5 0 hpos;have h7:(a.add (0*sz)).add 0=a:=by simp[Addr.add]
     rw[h7,cJ (by omega)]at h6;unfold World.cell? at h6;split at h6
     .split at h6
      .cases h6
      .rename_i hs;simpa using hs
     .cases h6
    obtain⟨ab,ao,as0⟩:=a;simp only at hspot;subst hspot;simp only at hlt hu2;rw[<-hll];rw[show l.length=(l.map f).length by simp];refine RepC.sl (W:=λ _=>False) ab ao cap sz (l.map f) us (λ h=>h) hlt (by simp;omega) (by simp;omega) (λ i c hci=>?_) (by simp[hul,hll]) (λ q u hq=>(hu2 q u hq).1) (λ i c j b hci hb=>?_)
    .simp only[cP,cI]at hci;obtain⟨z,_,rfl⟩:=hci;exact hsz z
    .simp only[cP,cI]at hci;obtain⟨z,hz,rfl⟩:=hci;have hj:j<sz:=by rw[<-hsz z];exact(cH.1 hb).1
     have hi:i<l.length:=(cH.1 hz).1;have hq:i*sz+j<us.length:=by rw[hul];have:(i+1)*sz<=len*sz:=dC _ (by omega);rw[dK]at this;omega
     have:=(hu2 (i*sz+j) us[i*sz+j] (by simp[hq])).2 i z j b hz hb rfl;have e:us.getD (i*sz+j) undef=us[i*sz+j]:=by rw[cK,cJ hq];rfl
     rw[e];exact this
theorem zbd0{sz:Nat}{α:Type}{f:α->List A}{ok:α->Prop}(ht:P.underlying t=some (.slice e))(hc:P.cellsOf e=sz)(hpos:0<sz)(hsz:∀x,(f x).length=sz)(he:zbc9 P e f ok):
  zbc9 P t (eL f) (λ l=>l.length<=maxLen/\∀a∈l,ok a):=by
 intro H enc w base spare held fuel cs x h;exact zbm5 ht hc hpos hsz (λ n _=>λ enc w base spare held cs x h=>he enc w base spare held n cs x h) enc w base spare held cs x h
end
theorem zbT0{w w':World}(h:Keeps (λ _=>False) w w')(may:MemPlace->Prop):w.keptBut w' may:=by
 have hb:∀i,i<w.heap.size->w'.heap[i]? =w.heap[i]? :=λ i hi=>h.block i hi (λ h=>h);refine⟨h.os,h.output,λ i hi=>?_⟩;rw[hb i hi];cases hq:w.heap[i]? with
 |none=>trivial
 |some o=>
  cases o with
  |cells c t fr=>exact⟨rfl,rfl,rfl,λ j _=>rfl⟩
  |map es cl=>exact .inr ⟨rfl,rfl⟩
  |_=>rfl
theorem zbJ1{w w':World}(h:Keeps (λ _=>False) w w'){p:MemPlace}(hp:p.block<w.heap.size):w.sameAt w' p:=by
 cases p with
 |cell b off=>have hb:b<w.heap.size:=hp;show w'.cell? _=w.cell? _;exact World.cell?_of_block (w:=w) (h.block b hb (λ h=>h))
 |map b=>exact h.block b hp (λ h=>h)
theorem zaQ1{H:Type}{enc:TypeId×Value->H}{P:Program}(hl:laidOutB P=true){w w':World}(hk:Keeps (λ _=>False) w w'){sp':Nat->Bool}:
  ∀{ts:List TypeId} {vs:List Value} {ds:List (DataW H)} {ps:List MemPlace},(∀t∈ts,P.readableRec t=true/\t<P.types.size)->DataW.TrodAll enc P w 0 (λ _=>true) true ts vs ds ps->
   (∀p∈ps,p.block<w.heap.size/\sp' p.block=true)->DataW.TrodAll enc P w' 0 sp' true ts vs ds ps
 |[],[],[],ps,_,h,_=>h
 |t::ts,v::vs,d::ds,ps,ht,⟨p,q,h1,h2,h3⟩,hp=>by
  subst h3;exact⟨p,q,Go.WideElems.Trod_stays hl (ht t (.head _)).1 (ht t (.head _)).2 h1 (λ x hx=>zbJ1 hk (hp x (dN _ hx)).1) (λ x hx=>(hp x (dN _ hx)).2),
   zaQ1 hl hk (λ t' ht'=>ht t' (.tail _ ht')) h2 (λ x hx=>hp x (dL _ hx)),rfl⟩
 |[],_::_,_,_,_,h,_=>h.elim
 |[],[],_::_,_,_,h,_=>h.elim
 |_::_,[],_,_,_,h,_=>h.elim
 |_::_,_::_,[],_,_,h,_=>h.elim
theorem zbD3{H:Type}{enc:TypeId×Value->H}{P:Program}{f:FuncId}{fn:Func}{s:ChangeSpec}{W:World}{args:Array Value}{ds gs:List (DataW H)}{before:List MemPlace}{tb:TypeId}{apart fresh handsOn:Bool}
  (hl:laidOutB P=true) (hpar:∀t∈fn.params.toList,P.readableRec t=true/\t<P.types.size) (hvars:s.vars=[]) (hrt:fn.resultTypes=#[tb]) (htb:P.underlying tb=some .bool)
  (hW:DataW.Whole enc P fn.params.toList s.vars apart W args.toList ds gs before) (hspec:s.fn H (ds++gs)={results:=[.lit (.bool true)],args:=ds,vars:=[]})
  (hcall:Calls P f args W λ e w'=>∃v,e=.returned v/\Keeps (λ _=>False) W w'/\v=.bool true):
  Calls P f args W λ e W'=>∃v,e=.returned v/\s.post enc P fn apart fresh handsOn false W args v W':=by
 refine hcall.mono λ e W' ⟨v,he,hk,hv⟩=>?_;subst hv;refine⟨_,he,?_⟩;have hold:∀p∈before,p.block<W.heap.size:=λ p hp=>hW.lt p hp;have hW':=hW;obtain⟨pa,pv,hA,hV,hps,hz,hn⟩:=hW;rw[hvars]at hV;obtain⟨rfl,rfl⟩:gs=[]/\pv=[]:=by
  cases gs with
  |nil=>exact⟨rfl,hV⟩
  |cons _ _=>exact hV.elim
 rw[eN]at hps;subst hps;refine⟨ds,[],before,[],before,[],hW',?_,?_,?_,World.keptBut_mono (λ p hp=>⟨hp,.inr (.inl hp)⟩) (zbT0 hk (·∈before)),λ h=>by cases h⟩
 .rw[hspec,hrt];exact trodAll_cons_mk (shut_bool htb _) trodAll_mk0
 .rw[hspec];exact zaQ1 hl hk hpar hA (λ p hp=>⟨hold p hp,by simpa using hold p hp⟩)
 .rw[hspec,hvars];rfl
def zbw5(v:Value):Prop:=v.cells.toList=[v]
theorem zbN8{P:Program}{t:TypeId}{k:IntKind}{w:World}{r:Reach}{b:Nat}{v:Value}(ht:P.underlying t=some (.int k))(h:Value.okWide P w r b t v):zbw5 v:=by obtain⟨n,rfl⟩:=okWide_int ht h;rfl
theorem zbr8{P:Program}{t e:TypeId}{w:World}{r:Reach}{b:Nat}{v:Value}(ht:P.underlying t=some (.slice e))(h:Value.okWide P w r b t v):zbw5 v:=by obtain⟨a,l,c,rfl⟩:=okWide_slice ht h;rfl
theorem zbf6{P:Program}{T:Nat}{α:Type}{g:α->List A}{f:α->A}{ok:α->Prop}(hr:zbc9 P T g ok)(hg:∀x,g x=[f x]){w:World}{v:Value}(h1:zbw5 v)
  {H:Type} {enc:TypeId×Value->H} {spare:Nat->Bool} {held:Bool} {b:Nat} {d:DataW H} {ps:List MemPlace} (h:DataW.Trod enc P w b spare held T v d ps):
  ∃x:α,ok x/\RepV w (λ _=>False) zN6 v (f x):=by
 obtain⟨fuel,hf⟩:=h;obtain⟨x,hx,hc⟩:=hr enc w b spare held fuel _ _ hf;rw[h1,hg]at hc;exact⟨x,hx,zo5 (zp5 hc.1)⟩
mutual
def lits{H:Type}:DataW H->Option (List A)
 | .lit (.bool b)=>some [.bool b]
 | .lit (.int k n)=>some [.int k n]
 | .lit (.string l)=>some [.str ⟨l.toArray⟩]
 | .agg ds=>zbN9 ds
 |_=>none
def zbN9{H:Type}:List (DataW H)->Option (List A)
 |[]=>some []
 |d::ds=>(lits d).bind λ a=>(zbN9 ds).bind λ b=>some (a++b)
end
def Lits(P:Program)(T:TypeId):Prop:=
 ∀{H:Type} (enc:TypeId×Value->H) (w:World) (base:Nat) (spare:Nat->Bool) (held:Bool) (fuel:Nat) (cs:List Value) (x:DataW H×List MemPlace),
  DataW.trod enc P w base spare held fuel T cs=some x->∃es,lits x.1=some es/\RCs w cs es
section
variable {P:Program} {t e:TypeId}
theorem zbD4{k:IntKind}(ht:P.underlying t=some (.int k)):Lits P t:=by intro H enc w base spare held fuel cs x h;obtain⟨n,rfl,hx,hw⟩:=DataW.trod_int ht h;rw[hx];exact⟨[A.int k n],by simp[lits],.int k n,trivial⟩
theorem zbr9(ht:P.underlying t=some .bool):Lits P t:=by intro H enc w base spare held fuel cs x h;obtain⟨b,rfl,hx⟩:=DataW.trod_bool ht h;rw[hx];exact⟨[A.bool b],by simp[lits],.bool b,trivial⟩
theorem zbm6{H:Type}:∀{ds:List (DataW H)} {aas:List (List A)},ds.length=aas.length->(∀(i:Nat) d es,ds[i]? =some d->aas[i]? =some es->lits d=some es)->zbN9 ds=some aas.flatten
 |[],[],_,_=>rfl
 |d::ds,es::aas,hl,h=>by have h0:=h 0 d es rfl rfl;have h1:=zbm6 (ds:=ds) (aas:=aas) (by simpa using hl) λ i d' es' hd ha=>h (i+1) d' es' (by simpa using hd) (by simpa using ha);simp[zbN9,h0,h1]
 |[],_::_,hl,_=>by simp at hl
 |_::_,[],hl,_=>by simp at hl
theorem RCs.rows{w:World}{sz:Nat}:∀(n:Nat) {cs:List Value} {aas:List (List A)},cs.length=n*sz->aas.length=n->(∀(i:Nat) es,aas[i]? =some es->RCs w ((cs.drop (i*sz)).take sz) es)->RCs w cs aas.flatten
 |0,cs,aas,h1,h2,_=>by
  have:cs=[]:=cW (by simpa using h1);have:aas=[]:=cW h2
  subst_vars;trivial
 |n+1,cs,es::aas,h1,h2,h=>by have e:cs=cs.take sz++cs.drop sz:=(dY sz cs).symm;rw[e,List.flatten_cons];refine RCs.append (RCs.rows (sz:=sz) n (by simp[h1,dK]) (by simpa using h2) λ i es' ha=>?_) (by simpa using h 0 es rfl);have:=h (i+1) es' (by simpa using ha);rw[fD];rwa [show sz+i*sz=(i+1)*sz by rw[dK];omega]
 |n+1,cs,[],h1,h2,_=>by simp at h2
theorem zak3{n sz:Nat}(ht:P.underlying t=some (.array n e))(hce:P.cellsOf e=sz)(hct:P.cellsOf t=n*sz)(he:Lits P e):Lits P t:=by
 intro H enc w base spare held fuel cs x h;cases fuel with
 |zero=>simp[DataW.trod]at h
 |succ fuel=>
  simp only[DataW.trod,ht,hce,hct]at h;split at h
  .rename_i hl;obtain⟨xs,hm,hx⟩:=cI.1 h;have hxl:xs.length=n:=by simpa using Lib.mapM_length hm
   obtain⟨aas,hal,ha⟩:=zax9 (p:=λ i es=>(∀y,xs[i]? =some y->lits y.1=some es)/\RCs w ((cs.drop (i*sz)).take sz) es) n (λ i hi=>by
    obtain⟨b,hb,hf⟩:=Lib.mapM_at hm i i (by simp[hi]);obtain⟨es,h1,h2⟩:=he enc w base spare held fuel _ b hf;exact⟨es,λ y hy=>by rw[hb]at hy;cases hy;exact h1,h2⟩)
   refine⟨aas.flatten,?_,RCs.rows n (by simpa using hl) hal λ i es hi=>(ha i es hi).2⟩;rw[<-hx];simp only[lits];refine zbm6 (by simp[hxl,hal]) λ i d es hd has=>?_;simp only[cP,cI]at hd;obtain⟨y,hy,rfl⟩:=hd;exact(ha i es has).1 y hy
  .cases h
theorem zaX2{name:String}{d:DataW Unit}{rest:List (String×DataW Unit)}{ps:List MemPlace}{W:World}{g:Nat}{es:List A}(hg:P.globalNamed name=some g)(hty:(P.globals[g]?).map (·.type)=some t)(hl:Lits P t)(hd:lits d=some es)
  (h:DataW.LaidVars P W ((name,d)::rest) ps):zaq7 W (λ _=>False) [(g,es)]/\∃q,DataW.LaidVars P W rest q:=by
 obtain⟨g',t',cs,fuel,p,q,h1,h2,h3,h4,h5',_⟩:=h;refine⟨?_,q,h5'⟩;rw[hg]at h1;cases h1;rw[hty]at h2;cases h2;obtain⟨es',h5,h6⟩:=hl _ _ _ _ _ _ _ _ h4;rw[hd]at h5;cases h5;intro g2 cs2 hmem;simp only[fE,fT]at hmem;obtain⟨rfl,rfl⟩:=hmem;refine⟨λ h=>h,?_,λ j a hj=>?_⟩
 .have h8:=h3;unfold World.var? at h8;rw[hg,Option.bind_some]at h8;split at h8
  .rename_i hb;exact(cO.1 hb).1
  .cases h8
 .have hlen:=RCs.len h6;have hjl:=(cH.1 hj).1;have hc:=World.var?_cell hg h3 j;have hu:cs.toList[j]? =some (cs.toList[j]'(by omega)):=cJ (by omega);refine⟨cs.toList[j]'(by omega),?_,RCs.at h6 j _ a hu hj⟩;rw[hc,<-fV];exact hu
theorem zbd1{t2:TypeId}{name name2:String}{d d2:DataW Unit}{rest:List (String×DataW Unit)}{W:World}{g g2:Nat}{es es2:List A}(hg:P.globalNamed name=some g)(hty:(P.globals[g]?).map (·.type)=some t)(hl:Lits P t)(hd:lits d=some es)
  (hg2:P.globalNamed name2=some g2) (hty2:(P.globals[g2]?).map (·.type)=some t2) (hl2:Lits P t2) (hd2:lits d2=some es2)
  (h:laidMet P ((name,d)::(name2,d2)::rest) W):zaq7 W (λ _=>False) [(g2,es2),(g,es)]:=by
 obtain⟨h1,q,h2⟩:=zaX2 hg hty hl hd h.choose_spec.1;have h3:=(zaX2 hg2 hty2 hl2 hd2 h2).1;intro a cs hm;rcases dB.1 hm with e|hm
 .exact h3 a cs (fE.2 e)
 .exact h1 a cs hm
end
end Ab
end Go.Proofs.YtamndckemppjdaaGreatDoor
