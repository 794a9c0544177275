import Derived.Test.YtfmnjkfhahfhgaaGreatDoorAb5
namespace Go.Proofs.YtfmnjkfhahfhgaaGreatDoor
namespace Ab
set_option linter.defProp false
set_option linter.unusedSimpArgs false
set_option linter.unusedVariables false
section
variable {P:Program} {o:Oper} {a:Act} {E:Env} {s:S} {w:World} {W:Nat→Prop} {μ:Nat→Loc}
def szIs(P:Program)(e:TypeId)(sz:Nat):Bool:=match P.info? e with|some i=>i.size==sz|none=>false
def zD{e:TypeId}{sz:Nat}(h:szIs P e sz=true)(w:World):(sizeOf e).run P w=.ok sz w:=by
 unfold szIs at h;split at h
 .rename_i i H;simp at h;subst h;exact vZ H w
 .cases h
def Iz(P:Program)(T:TypeId)(n sz:Nat):Bool:=match P.underlying T with|some (.array m e)=>m==n&&szIs P e sz|_=>false
def CS(P:Program)(T:TypeId)(sz:Nat):Bool:=match P.underlying T with|some (.slice e)=>szIs P e sz|_=>false
def XU{T:TypeId}{n sz:Nat}(h:Iz P T n sz=true):∃e,P.underlying T=some (.array n e)/\szIs P e sz=true:=by
 unfold Iz at h;split at h
 .rename_i m e H;simp at h;obtain⟨rfl,h⟩:=h;exact⟨e,H,h⟩
 .cases h
def PZ{T:TypeId}{sz:Nat}(h:CS P T sz=true):∃e,P.underlying T=some (.slice e)/\szIs P e sz=true:=by
 unfold CS at h;split at h
 .rename_i e H;exact⟨e,H,h⟩
 .cases h
def XV{id:Nat}(V:SatW E s a w W μ){x i:Operand}{T:TypeId}{n sz:Nat}{M ai:A}{B:Ef}(ho:o.op=.indexAddr T x i)(hT:Iz P T n sz=true)(Z:Rep w W μ (a.eval x) M)(hi:Rep w W μ (a.eval i) ai)
  (U:ev id s.mem (.iaA n sz) [M,ai]=some B) (H:B.obl):mN P o a w W μ s.mem B.v s.mem:=by
 obtain⟨e,hu,hz⟩:=XU hT;cases ai<;>try(simp only[ev]at U;cases U;done)
 rename_i k q;have O:∀(b p:Nat),a.eval x=.pointer (some ⟨b,p,none⟩)->0<=q->q<n->Rep w W μ (.pointer (some ⟨b,p+q.toNat*sz,none⟩)) B.v->mN P o a w W μ s.mem B.v s.mem:=λ b p h1 h2 K h4=>
  V.still (v:=.pointer (some ⟨b,p+q.toNat*sz,none⟩)) (by simp[execOp,ho,h1,hi.int,Instr.indexAt,asIntOf,run_underlying hu,Instr.sureAddr,h2,K,zD hz,Addr.add_lit]) h4
 cases M<;>simp only[ev]at U<;>try(cases U;done)
 .rename_i y i j;split at U
  .rename_i r hr;cases U;have Y:oV q.toNat n=q.toNat:=by unfold oV;rw[cB (by have:=H.1;have:=H.2;omega)]
   simp only[Y]at O⊢;obtain⟨k',K,hk,F⟩:=V.ptr Z hr;exact O _ _ hk H.1 H.2 (by rw[gF];exact FC K F.pos i _)
  .cases U
 .rename_i cs p;cases U;have Y:oV q.toNat n=q.toNat:=by unfold oV;rw[cB (by have:=H.1;have:=H.2;omega)]
  simp only[Y]at O⊢;obtain⟨b,q',hv,hb,L,hc⟩:RepK w W μ (a.eval x) (.rd cs p):=Z;exact O _ _ hv H.1 H.2 (show RepK w W μ _ (.rd cs _)from⟨b,q',by rw[gF],hb,L,hc⟩)
def XW{id:Nat}(hs:SatW E s a w W μ){x i:Operand}{T:TypeId}{sz:Nat}{z:List A}{ax ai:A}{F:Ef}(ho:o.op=.indexAddr T x i)(hT:CS P T sz=true)(hx:Rep w W μ (a.eval x) ax)(hi:Rep w W μ (a.eval i) ai)
  (U:ev id s.mem (.iaS sz z) [ax,ai]=some F) (H:F.obl):mN P o a w W μ s.mem F.v s.mem:=by
 obtain⟨e,hu,hz⟩:=PZ hT;cases ai<;>try(simp only[ev]at U;cases U;done)
 rename_i k q;have h0:∀(b p n c:Nat),a.eval x=.slice (some ⟨b,p,none⟩) n c->0<=q->q<n->Rep w W μ (.pointer (some ⟨b,p+q.toNat*sz,none⟩)) F.v->mN P o a w W μ s.mem F.v s.mem:=λ b p n c K M L V=>
  hs.still (v:=.pointer (some ⟨b,p+q.toNat*sz,none⟩)) (by simp[execOp,ho,K,hi.int,Instr.indexAt,asIntOf,run_underlying hu,M,L,zD hz,Addr.add_lit]) V
 have O:∀es,RepC w W (a.eval x) (.sl es)->(0<=q/\q<es.length/\(es.getD q.toNat z).length=sz)->F.v=.rd (es.getD q.toNat z) 0->mN P o a w W μ s.mem F.v s.mem:=λ es K M L=>by
  obtain⟨V,Z,h6⟩:=M;rcases K.open_sl with⟨rfl,_⟩|⟨b,x0,u0,y0,us,hv,hb,hlt,hn,q0,hf,hc⟩
  .simp at Z;omega
  .have v0:q.toNat<es.length:=om
   have z0:es[q.toNat]? =some (es.getD q.toNat z):=by simp[v0]
   have Y:y0=sz:=by rw[<-hf.hs _ _ z0,h6]
   subst Y;refine h0 b x0 _ _ hv V Z ?_;rw[L];refine(show RepK w W μ _ (.rd _ 0)from⟨b,x0+q.toNat*y0,by simp,hb,hlt,λ j c hj=>?_⟩);obtain⟨u,p0,hr⟩:=hf.ha _ _ _ _ z0 hj;exact⟨u,by rw[gF];exact hc _ _ p0,hr⟩
 cases ax<;>simp only[ev]at U<;>try(cases U;done)
 .rename_i es;cases U;exact O es hx H rfl
 .rename_i es;cases U;exact O es (RepC.of_full hx).1 H rfl
 .rename_i y lo n;split at U
  .rename_i r hr;cases U;obtain⟨K,M,L⟩:=H;rcases hs.own hx hr with⟨rfl,_⟩|⟨k',u0,V,Z,h6,h7,h8,B⟩
   .simp at M;omega
   .have Y:k'.sz=sz:=B.2.1.trans L;refine h0 _ _ _ _ Z K M ?_;have:=FC (w:=w) (W:=W) V B.pos (lo+q.toNat) 0;rw[lO,eD,Y]at this;rw[Y];exact this
  .cases U
def L9{vs:List Value}{i:Nat}(h:i<vs.length):(vs.drop i).take 1=[vs[i]]:=by rw[gL h,lT,lR]
def XX{id:Nat}(hs:SatW E s a w W μ){x i:Operand}{T:TypeId}{n sz:Nat}{U:Bool}{M ai:A}{ef:Ef}(ho:o.op=.index T x i)(H:(match P.underlying T with|some (.array m e)=>m==n&&tyOk P e U sz|_=>false)=true)(hx:Rep w W μ (a.eval x) M)(hi:Rep w W μ (a.eval i) ai)
  (Z:ev id s.mem (.idxA n sz U) [M,ai]=some ef) (Y:ef.obl):mN P o a w W μ s.mem ef.v s.mem:=by
 cases M<;>cases ai<;>simp only[ev]at Z<;>try(cases Z;done)
 rename_i cs k q;cases Z;obtain⟨h1,h2,h3⟩:=Y;have B:oV q.toNat n=q.toNat:=by unfold oV;rw[cB om]
 simp only[B]
 clear B
 split at H
 .rename_i m e hu;simp only[bY,dN]at H;obtain⟨rfl,H⟩:=H;obtain⟨vs,hv,hl,hr⟩:RepV w W μ (a.eval x) (.agg cs):=hx;have hq:q.toNat<m:=om
  have h0:q.toNat*sz+sz<=cs.length:=by have:(q.toNat+1)*sz<=m*sz:=dU _ hq;rw[eD]at this;omega
  have O:(part e vs.toArray (q.toNat*sz)).run P w=.ok (if U then .agg ((vs.drop (q.toNat*sz)).take sz).toArray else((vs.drop (q.toNat*sz)).take sz).headD undef) w:=by
   have y0:=H;unfold tyOk at H;simp only[bY]at H;obtain⟨⟨F,h5⟩,h6⟩:=H;cases L:P.underlying e with
   |none=>simp[L]at F
   |some d=>
    cases K:P.info? e with
    |none=>simp[K]at h5
    |some i'=>
     simp[L]at F;simp[K]at h5;subst h5;cases U with
     |true=>simp[part,o9 L,F,vZ K]
     |false=>
      simp at h6;have V:q.toNat*i'.size<vs.length:=om
      simp only[part,qc,o9 L,F,Oc,bZ,cI];rw[h6]at V⊢;simp only[gC]at V⊢;have:=L9 V;simp[this,V]
  refine hs.still (v:=if U then .agg ((vs.drop (q.toNat*sz)).take sz).toArray else((vs.drop (q.toNat*sz)).take sz).headD undef) ?_
   (L7 (L8 H) (by simp;omega) (Ix h0) λ i u b hi hb=>?_)
  .have hz:(sizeOf e).run P w=.ok sz w:=by
    unfold tyOk at H;simp only[bY]at H;cases K:P.info? e with
    |none=>simp[K]at H
    |some i'=>simp[K]at H;rw[<-H.1.2];exact vZ K w
   simp[execOp,ho,hv,hi.int,Instr.index,asIntOf,run_underlying hu,h1,h2,hz,O]
  .rw[getElem?_sub]at hb;split at hb
   .rename_i x0;rw[eA,cB x0,eG]at hi;exact hr _ u b hi hb
   .cases hb
 .cases H
def XY{id:Nat}(hs:SatW E s a w W μ){x:Operand}{T:TypeId}{f off n:Nat}{U:Bool}{F:A}{M:Ef}(ho:o.op=.field T x f)
  (H:(match P.underlying T with|some (.struct fs)=>(match fs[f]? with|some g=>g.offset==off&&tyOk P g.type U n|none=>false)|_=>false)=true) (hx:Rep w W μ (a.eval x) F)
  (Z:ev id s.mem (.field off n U) [F]=some M) (Y:M.obl):mN P o a w W μ s.mem M.v s.mem:=by
 cases F<;>simp only[ev]at Z<;>try(cases Z;done)
 rename_i cs;cases Z;have h0:off+n<=cs.length:=Y;split at H
 .rename_i fs hu;split at H
  .rename_i g hg;simp only[bY,dN]at H;obtain⟨rfl,H⟩:=H;obtain⟨vs,hv,hl,hr⟩:RepV w W μ (a.eval x) (.agg cs):=hx;have O:(part g.type vs.toArray g.offset).run P w=.ok (if U then .agg ((vs.drop g.offset).take n).toArray else((vs.drop g.offset).take n).headD undef) w:=by
    have y0:=H;unfold tyOk at H;simp only[bY]at H;obtain⟨⟨B,h5⟩,h6⟩:=H;cases K:P.underlying g.type with
    |none=>simp[K]at B
    |some d=>
     cases L:P.info? g.type with
     |none=>simp[L]at h5
     |some i'=>
      simp[K]at B;simp[L]at h5;subst h5;cases U with
      |true=>simp[part,o9 K,B,vZ L]
      |false=>
       simp at h6;have V:g.offset<vs.length:=om
       simp only[part,qc,o9 K,B,Oc,bZ,cI];rw[h6];have:=L9 V;simp[this,V]
   refine hs.still (v:=if U then .agg ((vs.drop g.offset).take n).toArray else((vs.drop g.offset).take n).headD undef) ?_
    (L7 (L8 H) (by simp;omega) (Ix h0) λ i u b hi hb=>?_)
   .simp[execOp,ho,hv,Instr.field,run_underlying hu,hg,asAgg,O]
   .rw[getElem?_sub]at hb;split at hb
    .rename_i x0;rw[eA,cB x0,eG]at hi;exact hr _ u b hi hb
    .cases hb
  .cases H
 .cases H
def XZ(H:SatW E s a w W μ){x:Operand}{T T2:TypeId}{k O:IntKind}{n:Int}(ho:o.op=.convert T T2 x)(U:(∃d,P.underlying T=some d)/\P.underlying T2=some (.int k))(K:Rep w W μ (a.eval x) (.int O n)):
  mN P o a w W μ s.mem (.int k (k.wrap n)) s.mem:=by
 obtain⟨⟨d,Y⟩,B⟩:=U;refine H.still (v:=.int k (k.wrap n)) ?_ (qW (.int _ _));simp only[execOp,ho,K.int,convert,qc,run_underlying Y,run_underlying B,Oc];cases d<;>simp[Conv.intToInt]
def X0(O:SatW E s a w W μ){x y:Operand}{H:Array TypeId}{k:IntKind}{p q:Int}(ho:o.op=.call {callee:=.builtin .min,args:=#[x,y],argTypes:=H})(K:Rep w W μ (a.eval x) (.int k p))(L:Rep w W μ (a.eval y) (.int k q)):
  mN P o a w W μ s.mem (.int k (if q<p then q else p)) s.mem:=by
 refine O.still (v:=.int k (if q<p then q else p)) ?_ (qW (.int _ _));simp[execOp,ho,resolve,invoke,builtin,Builtin.min_,K.int,L.int,Builtin.min2]
def X1(O:SatW E s a w W μ){x y:Operand}{H:Array TypeId}{k:IntKind}{p q:Int}(ho:o.op=.call {callee:=.builtin .max,args:=#[x,y],argTypes:=H})(K:Rep w W μ (a.eval x) (.int k p))(L:Rep w W μ (a.eval y) (.int k q)):
  mN P o a w W μ s.mem (.int k (if p<q then q else p)) s.mem:=by
 refine O.still (v:=.int k (if p<q then q else p)) ?_ (qW (.int _ _));simp[execOp,ho,resolve,invoke,builtin,Builtin.max_,K.int,L.int,Builtin.max2]
def X2{id:Nat}(U:SatW E s a w W μ){x:Operand}{F:A}{M:Ef}(ho:o.op=.nilCheck x)(K:Rep w W μ (a.eval x) F)(O:ev id s.mem .nilck [F]=some M)(Y:M.obl):mN P o a w W μ s.mem M.v s.mem:=by
 cases F<;>simp only[ev]at O<;>try(cases O;done)
 .rename_i y i j;split at O
  .rename_i r V;cases O;obtain⟨k,_,Z,_⟩:=U.ptr K V;refine U.still (v:=a.eval x) ?_ K;simp[execOp,ho,Z]
  .cases O
 .rename_i B h0;cases O;have H:=K;obtain⟨b,q,L,_⟩:RepK w W μ (a.eval x) (.rd B h0):=H;refine U.still (v:=a.eval x) ?_ K;simp[execOp,ho,L]
 .rename_i f B;cases O;have H:=K;obtain⟨vs,L,_⟩:=cloK (show RepV w W μ (a.eval x) (.clo f B)from H) Y;refine U.still (v:=a.eval x) ?_ K;simp[execOp,ho,L]
 .rename_i f B;cases O;have H:RepC w W (a.eval x) (.bnd f B):=K;obtain⟨us,L,_⟩:=RepC.bnd_val H;refine U.still (v:=a.eval x) ?_ K;simp[execOp,ho,L]
def X3(U:SatW E s a w W μ){x y:Operand}{T T2:TypeId}{H p q:Bool}(ho:o.op=.binOp (if H then .neq else .eql) T x y T2)(Y:P.underlying T=some .bool)(K:Rep w W μ (a.eval x) (.bool p))(L:Rep w W μ (a.eval y) (.bool q)):
  mN P o a w W μ s.mem (.bool (if H then !decide (p=q)else decide (p=q))) s.mem:=by
 refine U.still (v:=.bool (if H then !decide (p=q)else decide (p=q))) ?_ (qW (.bool _));have h:=run_equalIn_bool' (P:=P) w 9999 T p q Y;cases H
 .have O:o.op=.binOp .eql T x y T2:=ho;simp[execOp,O,K.bool,L.bool,eqGuard,binOp,Op.equal,Op.maxDepth,h];cases p<;>cases q<;>rfl
 .have O:o.op=.binOp .neq T x y T2:=ho;simp[execOp,O,K.bool,L.bool,eqGuard,binOp,Op.equal,Op.maxDepth,h];cases p<;>cases q<;>rfl
end
section
variable {P:Program} {o:Oper} {a:Act} {E:Env} {s:S} {w:World} {W:Nat→Prop} {μ:Nat→Loc}
def AL(H:Bool)(len cap l h m:Nat)(lo hi mx:Option Value)(hm:mx=none/\m=cap\/∃k,mx=some (.int k m)/\hi≠none/\m<=cap)(B:hi=none/\h=len\/∃k,hi=some (.int k h)/\h<=m)
  (K:lo=none/\l=0\/∃k,lo=some (.int k l)/\l<=h):(Instr.sliceBounds H len cap lo hi mx).run P w=.ok (l,h,m) w:=by
 rcases hm with⟨rfl,rfl⟩|⟨km,rfl,O,F⟩
 .rcases B with⟨rfl,rfl⟩|⟨M,rfl,U⟩<;>rcases K with⟨rfl,rfl⟩|⟨kl,rfl,Y⟩<;>simp[Instr.sliceBounds,Instr.sliceBound,asIntOf, *]
 .rcases B with⟨rfl,rfl⟩|⟨M,rfl,U⟩
  .exact absurd rfl O
  .rcases K with⟨rfl,rfl⟩|⟨kl,rfl,Y⟩<;>simp[Instr.sliceBounds,Instr.sliceBound,asIntOf, *]
structure Bds (lo hi mx:Option Value) (l h m:Option Int):Prop where
 l:lo=none/\l=none\/∃k n,lo=some (.int k n)/\l=some n
 h:hi=none/\h=none\/∃k n,hi=some (.int k n)/\h=some n
 m:mx=none/\m=none\/∃k n,mx=some (.int k n)/\m=some n
def AM(P:Program)(T:TypeId)(sz:Nat):Bool:=match P.underlying T with|some (.slice e)=>szIs P e sz|some .string=>true|_=>false
def CT{T e:TypeId}{sz:Nat}(H:P.underlying T=some (.slice e))(O:szIs P e sz=true)(ad:Option Addr)(n c l h m:Nat)(lo hi mx:Option Value)
  (hb:(Instr.sliceBounds true n c lo hi mx).run P w=.ok (l,h,m) w):
  (Instr.sliceAt T (.slice ad n c) lo hi mx).run P w=.ok (.slice (if m=l then ad else ad.map (·.add (l*sz))) (h-l) (m-l)) w:=by
 simp[Instr.sliceAt,Instr.slice,run_underlying H,hb,zD O]
def X4{T:TypeId}(H:P.underlying T=some .string)(b:ByteArray)(l h m:Nat)(lo hi:Option Value)
  (hb:(Instr.sliceBounds false b.size b.size lo hi none).run P w=.ok (l,h,m) w):
  (Instr.sliceAt T (.string b) lo hi none).run P w=.ok (.string (b.extract l h)) w:=by
 simp[Instr.sliceAt,Instr.slice,run_underlying H,hb]
def X5{b off cap sz l h:Nat}{es:List (List A)}{us:List Value}{c:Nat}(hb:¬W b)(L:b<w.heap.size)(U:l<=h)(M:h<=es.length)(Y:h<=c)(B:Flat (RepC w W) sz us es)
  (F:∀(q:Nat) (u:Value),us[q]? =some u->w.cell? ⟨b,off+q,none⟩=some u) (_hcap:es.length<=cap):
  RepC w W (.slice (if c=l then some ⟨b,off,none⟩else(some (⟨b,off,none⟩:Addr)).map (·.add (l*sz))) (h-l) (c-l)) (.sl ((es.take h).drop l)):=by
 have K:((es.take h).drop l).length=h-l:=by simp;omega
 by_cases O:c=l
 .have:h-l=0:=om
  rw[cB O,this];have:(es.take h).drop l=[]:=dB om;rw[this];exact .sl0 _ _
 .rw[bX O];simp only[xm,Addr.add_lit];rw[<-K];refine RepC.mk_sl hb L om ((B.take h).drop l) λ q u H=>?_;rw[eG,eA]at H;split at H
  .rw[gF];exact F _ _ H
  .cases H
def P2(hs:SatW E s a w W μ){x:Operand}{lo hi mx:Option Operand}{T:TypeId}{sz:Nat}{ax av:A}{l h m:Option Int}{m0:Prop}(ho:o.op=.slice T x lo hi mx)(hT:AM P T sz=true)(hx:Rep w W μ (a.eval x) ax)
  (q0:(∃b,ax=.str b)↔P.underlying T=some .string)
  (hb:Bds (lo.map a.eval) (hi.map a.eval) (mx.map a.eval) l h m) (he:rU s.mem sz ax l h m=some (m0,av)) (B:m0):mN P o a w W μ s.mem av s.mem:=by
 have Y:∀v,(Instr.sliceAt T (a.eval x) (lo.map a.eval) (hi.map a.eval) (mx.map a.eval)).run P w=.ok v w->Rep w W μ v av->mN P o a w W μ s.mem av s.mem:=λ v F Z=>
  hs.still (v:=v) (by simp only[execOp,ho,qc,F,Oc,Qc]) Z
 generalize lo.map a.eval=lo' at hb Y;generalize hi.map a.eval=K at hb Y;generalize mx.map a.eval=mx' at hb Y;obtain⟨hl,hh,hm⟩:=hb;have x0:∀(es:List (List A)) (z0:Bool),RepC w W (a.eval x) (.sl es)->(∀b,ax≠.str b)->0<=l.getD 0->l.getD 0<=h.getD es.length->h.getD es.length<=es.length->pF sz es->
   (z0=false->m=none)->(z0=true->m=some (h.getD es.length)/\h≠none)->av=(if z0 then .full ((es.take (h.getD es.length).toNat).drop (l.getD 0).toNat)else .sl ((es.take (h.getD es.length).toNat).drop (l.getD 0).toNat))->mN P o a w W μ s.mem av s.mem:=by
  intro es z0 o0 b0 F Z h3 n0 hf0 a0 j0;have x1:∃e,P.underlying T=some (.slice e)/\szIs P e sz=true:=by
   unfold AM at hT;split at hT
   .rename_i e M;exact⟨e,M,hT⟩
   .rename_i M;obtain⟨b,hb⟩:=q0.2 M;exact absurd hb (b0 b)
   .cases hT
  obtain⟨e,M,hz⟩:=x1;obtain⟨ad,H,hv,r0,f0⟩:∃ad H,a.eval x=.slice ad es.length H/\es.length<=H/\∀l h c:Nat,l<=h->h<=es.length->h<=c->RepC w W (.slice (if c=l then ad else ad.map (·.add (l*sz))) (h-l) (c-l)) (.sl ((es.take h).drop l)):=by
   rcases o0.open_sl with⟨rfl,ad,H,hv⟩|⟨b,s1,H,y1,us,hv,hb,hlt,hn,r0,hf,hc⟩
   .refine⟨ad,H,hv,fS _,λ l h c F Z h3=>?_⟩;have:h=0:=by simpa using Z
    subst this;have:l=0:=om
    subst this;simp only[gY,List.take_nil,List.drop_nil];exact .sl0 _ _
   .have z1:y1=sz:=by
     have h0:es[0]? =some es[0]:=by simp
     rw[<-hf.hs _ _ h0];exact n0 _ (cV h0)
    subst z1;exact⟨_,H,hv,r0,λ l h c F Z h3=>X5 hb hlt F Z h3 hf hc r0⟩
  have V:lo'=none/\(l.getD 0).toNat=0\/∃k,lo'=some (.int k ((l.getD 0).toNat:Int))/\(l.getD 0).toNat<=(h.getD es.length).toNat:=by
   rcases hl with⟨h4,rfl⟩|⟨k,n,h4,rfl⟩
   .exact .inl ⟨h4,rfl⟩
   .refine .inr ⟨k,?_,by simp at*;omega⟩;simp at F;simp[h4];omega
  cases z0 with
  |false=>
   have e0:=hf0 rfl;have U:mx'=none:=by
    rcases hm with⟨h4,_⟩|⟨k,n,_,L⟩
    .exact h4
    .rw[e0]at L;cases L
   have v0:K=none/\(h.getD es.length).toNat=es.length\/∃k,K=some (.int k ((h.getD es.length).toNat:Int))/\(h.getD es.length).toNat<=H:=by
    rcases hh with⟨h4,rfl⟩|⟨k,n,h4,rfl⟩
    .exact .inl ⟨h4,by simp⟩
    .refine .inr ⟨k,?_,by simp at*;omega⟩;simp at Z F;have:0<=n:=om
     simp[h4];omega
   have O:=AL (P:=P) (w:=w) true es.length H (l.getD 0).toNat (h.getD es.length).toNat H lo' K mx' (.inl ⟨U,rfl⟩) v0 V;refine Y _ (by rw[hv];exact CT M hz ad _ _ _ _ _ _ _ _ O) ?_;rw[j0];exact qW (f0 _ _ _ om om om)
  |true=>
   obtain⟨e0,u1⟩:=a0 rfl;obtain⟨kh,nh,p0,p1⟩:∃k n,K=some (.int k n)/\h=some n:=by
    rcases hh with⟨_,L⟩|h4
    .exact absurd L u1
    .exact h4
   subst p1;simp only[Xm]at*;have g0:0<=nh:=om
   have U:∃k,mx'=some (.int k (nh.toNat:Int)):=by
    rcases hm with⟨_,L⟩|⟨k,n,h4,L⟩
    .rw[e0]at L;cases L
    .rw[e0]at L;cases L;exact⟨k,by simp[h4];omega⟩
   obtain⟨km,U⟩:=U;have O:=AL (P:=P) (w:=w) true es.length H (l.getD 0).toNat nh.toNat nh.toNat lo' K mx' (.inr ⟨km,U,by simp[p0],by omega⟩) (.inr ⟨kh,by simp[p0];omega,dG _⟩) V;refine Y _ (by rw[hv];exact CT M hz ad _ _ _ _ _ _ _ _ O) ?_;rw[j0];exact qW (.full _ _ _ (f0 _ _ _ om om (dG _)))
 unfold rU at he;split at he
 .cases he;obtain⟨F,Z,h3,h4⟩:=B;exact x0 _ false hx (by simp) F Z h3 h4 (λ _=>rfl) (by simp) rfl
 .cases he;obtain⟨F,Z,h3,h4⟩:=B;exact x0 _ false (RepC.of_full hx).1 (by simp) F Z h3 h4 (λ _=>rfl) (by simp) rfl
 .rename_i y q1 n;split at he
  .rename_i r hr;cases he;obtain⟨F,Z,h3,h4⟩:=B;have U:mx'=none:=by
    rcases hm with⟨L,_⟩|⟨k,q,_,h6⟩
    .exact L
    .cases h6
   obtain⟨e,M,hz⟩:∃e,P.underlying T=some (.slice e)/\szIs P e sz=true:=by
    unfold AM at hT;split at hT
    .rename_i e M;exact⟨e,M,hT⟩
    .rename_i M;obtain⟨b,hb⟩:=q0.2 M;cases hb
    .cases hT
   have V:∀hh:Nat,(l.getD 0).toNat<=hh->(lo'=none/\(l.getD 0).toNat=0\/∃k,lo'=some (.int k ((l.getD 0).toNat:Int))/\(l.getD 0).toNat<=hh):=by
    intro v0 r1;rcases hl with⟨h4,rfl⟩|⟨k,n,h4,rfl⟩
    .exact .inl ⟨h4,rfl⟩
    .refine .inr ⟨k,?_,r1⟩;simp at F;simp[h4];omega
   have v0:∀H,n<=H->(K=none/\(h.getD n).toNat=n\/∃k,K=some (.int k ((h.getD n).toNat:Int))/\(h.getD n).toNat<=H):=by
    intro H r0;rcases hh with⟨h4,rfl⟩|⟨k,q,h4,rfl⟩
    .exact .inl ⟨h4,by simp⟩
    .refine .inr ⟨k,?_,by simp at*;omega⟩;simp at Z F;have:0<=q:=om
     simp[h4];omega
   have s0:=hs.mem y;rw[hr]at s0;rcases hs.own hx hr with⟨rfl,ad,hv⟩|⟨k,H,L,h6,h7,h8,h9,u0⟩
   .have O:=AL (P:=P) (w:=w) true 0 0 (l.getD 0).toNat (h.getD (0:Nat)).toNat 0 lo' K mx' (.inl ⟨U,rfl⟩) (by simpa using v0 0 (dG _)) (V _ (by simp at*;omega));refine Y _ (by rw[hv];exact CT M hz ad _ _ _ _ _ _ _ _ O) ?_;have e1:(h.getD (0:Nat)).toNat-(l.getD 0).toNat=0:=by simp at*;omega
    have e2:0-(l.getD 0).toNat=0:=om
    rw[e1,e2];refine(show RepK w W μ _ (.own y _ 0)from⟨rfl,?_⟩);rcases s0 with⟨y0,_⟩|⟨k,y0,_⟩
    .rw[y0];exact⟨rfl,_,rfl⟩
    .have l0:0<k.sz:=by
      obtain⟨_,t0⟩:RepK w W μ _ (.own y _ _):=hx;rw[y0]at t0;exact t0.1
     rw[y0];exact⟨l0,.inl ⟨rfl,_,rfl⟩⟩
   .have O:=AL (P:=P) (w:=w) true n H (l.getD 0).toNat (h.getD n).toNat H lo' K mx' (.inl ⟨U,rfl⟩) (v0 H h8) (V _ om);refine Y _ (by rw[h6];exact CT M hz _ _ _ _ _ _ _ _ _ O) ?_;refine(show RepK w W μ _ (.own y _ _)from⟨rfl,?_⟩);rw[L];refine⟨u0.pos,?_⟩;have c0:k.sz=sz:=u0.2.1.trans h4
    by_cases d0:H=(l.getD 0).toNat
    .left;rw[cB d0];have e1:(h.getD n).toNat-(l.getD 0).toNat=0:=om
     have e2:H-(l.getD 0).toNat=0:=om
     rw[e1,e2];exact⟨rfl,_,rfl⟩
    .right;refine⟨H-(l.getD 0).toNat,?_,?_,by omega,by omega⟩
     .rw[bX d0];simp only[xm,Addr.add_lit,c0,eD]
     .refine dI (dU _ ?_) h7;omega
  .cases he
 .rename_i b;cases he;obtain⟨F,Z,h3⟩:=B;have M:P.underlying T=some .string:=q0.1 ⟨b,rfl⟩;have U:mx'=none:=by
   rcases hm with⟨L,_⟩|⟨k,q,_,h6⟩
   .exact L
   .cases h6
  have V:lo'=none/\(l.getD 0).toNat=0\/∃k,lo'=some (.int k ((l.getD 0).toNat:Int))/\(l.getD 0).toNat<=(h.getD b.size).toNat:=by
   rcases hl with⟨h4,rfl⟩|⟨k,n,h4,rfl⟩
   .exact .inl ⟨h4,rfl⟩
   .refine .inr ⟨k,?_,by simp at*;omega⟩;simp at F;simp[h4];omega
  have v0:K=none/\(h.getD b.size).toNat=b.size\/∃k,K=some (.int k ((h.getD b.size).toNat:Int))/\(h.getD b.size).toNat<=b.size:=by
   rcases hh with⟨h4,rfl⟩|⟨k,q,h4,rfl⟩
   .exact .inl ⟨h4,by simp⟩
   .refine .inr ⟨k,?_,by simp at*;omega⟩;simp at Z F;have:0<=q:=om
    simp[h4];omega
  have O:=AL (P:=P) (w:=w) false b.size b.size (l.getD 0).toNat (h.getD b.size).toNat b.size lo' K none (.inl ⟨rfl,rfl⟩) v0 V;rw[U]at Y;rw[hx.str]at Y;exact Y _ (X4 M b _ _ _ _ _ O) (qW (.str _))
 .rename_i es mm;split at he
  .rename_i hq;cases he;obtain⟨F,Z,h3,h4,L⟩:=B;exact x0 _ true hx (by simp) F Z h3 L (by simp) (λ _=>⟨by rw[<-h4];rfl,by simp⟩) rfl
  .cases he
 .rename_i es mm;split at he
  .rename_i hq;cases he;obtain⟨F,Z,h3,h4,L⟩:=B;exact x0 _ true (RepC.of_full hx).1 (by simp) F Z h3 L (by simp) (λ _=>⟨by rw[<-h4];rfl,by simp⟩) rfl
  .cases he
 .rename_i y q1 n mm;split at he
  .rename_i hq r hr;cases he;obtain⟨F,Z,h3,h4,L⟩:=B;obtain⟨e,M,hz⟩:∃e,P.underlying T=some (.slice e)/\szIs P e sz=true:=by
    unfold AM at hT;split at hT
    .rename_i e M;exact⟨e,M,hT⟩
    .rename_i M;obtain⟨b,hb⟩:=q0.2 M;cases hb
    .cases hT
   have g0:0<=hq:=om
   obtain⟨kh,p0⟩:∃k,K=some (.int k (hq.toNat:Int)):=by
    rcases hh with⟨_,h6⟩|⟨k,n',h6,h7⟩
    .cases h6
    .cases h7;exact⟨k,by rw[h6,iN g0]⟩
   obtain⟨km,U⟩:∃k,mx'=some (.int k (hq.toNat:Int)):=by
    rcases hm with⟨_,h6⟩|⟨k,n',h6,h7⟩
    .cases h6
    .cases h7;exact⟨k,by rw[h6,<-h4,iN g0]⟩
   have V:lo'=none/\(l.getD 0).toNat=0\/∃k,lo'=some (.int k ((l.getD 0).toNat:Int))/\(l.getD 0).toNat<=hq.toNat:=by
    rcases hl with⟨h6,rfl⟩|⟨k,n',h6,rfl⟩
    .exact .inl ⟨h6,by simp⟩
    .refine .inr ⟨k,?_,by simp at*;omega⟩;simp at F;simp[h6];omega
   have s0:=hs.mem y;rw[hr]at s0;rcases hs.own hx hr with⟨rfl,ad,hv⟩|⟨k,H,h6,h7,h8,h9,t1,u0⟩
   .have O:=AL (P:=P) (w:=w) true 0 0 (l.getD 0).toNat hq.toNat hq.toNat lo' K mx' (.inr ⟨km,U,by simp[p0],by omega⟩) (.inr ⟨kh,p0,dG _⟩) V;refine Y _ (by rw[hv];exact CT M hz ad _ _ _ _ _ _ _ _ O) ?_;have e2:hq.toNat-(l.getD 0).toNat=0:=om
    rw[e2];have e3:(l.getD 0).toNat=0:=om
    have e4:hq.toNat=0:=om
    rw[e3,e4];refine(show RepK w W μ _ (.own y _ 0)from⟨rfl,?_⟩);rcases s0 with⟨y0,_⟩|⟨k,y0,_⟩
    .rw[y0];exact⟨rfl,_,rfl⟩
    .have l0:0<k.sz:=by
      obtain⟨_,t0⟩:RepK w W μ _ (.own y _ _):=hx;rw[y0]at t0;exact t0.1
     rw[y0];exact⟨l0,.inl ⟨rfl,_,rfl⟩⟩
   .have O:=AL (P:=P) (w:=w) true n H (l.getD 0).toNat hq.toNat hq.toNat lo' K mx' (.inr ⟨km,U,by simp[p0],by omega⟩) (.inr ⟨kh,p0,dG _⟩) V;refine Y _ (by rw[h7];exact CT M hz _ _ _ _ _ _ _ _ _ O) ?_;refine(show RepK w W μ _ (.own y _ _)from⟨rfl,?_⟩);rw[h6];refine⟨u0.pos,?_⟩;have c0:k.sz=sz:=u0.2.1.trans L
    by_cases d0:hq.toNat=(l.getD 0).toNat
    .left;have e1:hq.toNat-(l.getD 0).toNat=0:=om
     rw[cB d0,e1];exact⟨rfl,_,rfl⟩
    .right;refine⟨hq.toNat-(l.getD 0).toNat,?_,?_,dG _,by omega⟩
     .rw[bX d0];simp only[xm,Addr.add_lit,c0,eD]
     .refine dI (dU _ ?_) h8;omega
  .cases he
 .cases he
end
section
variable {P:Program} {o:Oper} {a:Act} {E:Env} {s:S} {w:World} {W:Nat→Prop} {μ:Nat→Loc}
def AN(w:World)(H:Obj):Keeps (λ _=>False) w (w.alloc H):=
 ⟨rfl,rfl,rfl,dG _,by simp,λ b hb _=>heap_alloc_old w H hb⟩
def FD(w:World)(H:Obj):Keeps (λ _=>False) w (w.drew.alloc H):=
 ⟨rfl,rfl,rfl,kK _,by simp,λ b hb _=>heap_alloc_old w.drew H hb⟩
def Ma{v:Value}{x lo n:Nat}(h:RepK w W μ v (.own x lo n)):Rep w W μ v (.own x lo n):=h
def X6(H:SatW E s a w W μ){x:Operand}{sz:Nat}{z:List A}{id:Nat}(ho:o.op=.move x\/o.op=.assign x)(K:x=.const (.slice none 0 0))(O:s.mem id=.fresh)(U:0<sz):
  mN P o a w W μ s.mem (.own id 0 0) (setM s.mem [(id,.row ⟨false,sz,z,[]⟩)]):=by
 refine⟨_,.slice none 0 0,w,W,_,?_,.inl rfl,?_,Step.newEmpty H.mem H.inj H.wlt O U rfl (Keeps.refl _ w)⟩
 .rcases ho with ho|ho<;>simp[execOp,ho,K,Act.eval]
 .refine Ma ⟨rfl,?_⟩;simp
def X7(O:SatW E s a w W μ){x:Operand}{T:TypeId}{n:Nat}{H:A}{id:Nat}(ho:o.op=.box T x)(L:Rep w W μ (a.eval x) H)(U:s.mem id=.fresh)(V:H.isV=true)(B:0<n)(Z:H.cells.length=n):
  mN P o a w W μ s.mem (.ptr id 0 0) (setM s.mem [(id,.row ⟨false,n,H.cells,[H.cells]⟩)]):=by
 obtain⟨us,F,K,M⟩:=L.toCells V;subst Z;have Y:=Step.new (w':=w.alloc (.cells us.toArray T)) O.mem O.inj O.wlt U (r:=⟨false,H.cells.length,H.cells,[H.cells]⟩) (us:=us) (rest:=[]) (e:=T) B (AN _ _) (Flat.one K M) (by simpa using heap_alloc_new w _);refine⟨_,.pointer (some ⟨w.heap.size,0,none⟩),_,_,_,?_,.inl rfl,?_,Y⟩
 .simp[execOp,ho,Instr.box,newVar,newRow,newObj,Sem.run,F]
 .have:=FC (w:=w.alloc (.cells us.toArray T)) (W:=λ b=>W b\/b=w.heap.size) (μ:=λ x=>if x=id then Loc.at_ ⟨w.heap.size,H.cells.length,us.length+([]:List Value).length⟩else μ x) (y:=id) (k:=⟨w.heap.size,H.cells.length,us.length+([]:List Value).length⟩) (by simp) B 0 0
  simpa using this
def p5(P:Program)(T:TypeId)(z:List A):Bool:=match P.info? T with|some i=>(match i.zero with|some v=>zC v.cells.toList z|none=>false)|none=>false
def IA{T:TypeId}{z:List A}(h:p5 P T z=true):∃v,(∀w,(zeroValue T).run P w=.ok v w)/\(∃i,P.info? T=some i/\i.zero=some v)/\v.cells.toList.length=z.length/\∀(w:World) (W:Nat->Prop) (i:Nat) (u:Value) (b:A),v.cells.toList[i]? =some u->z[i]? =some b->RepC w W u b:=by
 unfold p5 at h;split at h
 .rename_i i K;split at h
  .rename_i v L;refine⟨v,λ w=>by simp[zeroValue,typeInfo,K,L],⟨i,K,L⟩,(CR (w:=default) (W:=λ _=>False) h).1,λ w W i u b H O=>(CR h).2 i u b H O⟩
  .cases h
 .cases h
def X8(H:SatW E s a w W μ){T:TypeId}{z:List A}{id:Nat}(ho:o.op=.alloc T)(B:p5 P T z=true)(O:s.mem id=.fresh)(Y:0<z.length):
  mN P o a w W μ s.mem (.ptr id 0 0) (setM s.mem [(id,.row ⟨false,z.length,z,[z]⟩)]):=by
 obtain⟨v,K,_,L,F⟩:=IA B;have U:=Step.new (w':=w.alloc (.cells v.cells T)) H.mem H.inj H.wlt O (r:=⟨false,z.length,z,[z]⟩) (us:=v.cells.toList) (rest:=[]) (e:=T) Y (AN _ _)
  (Flat.one L λ i u b M V=>nN (F w W i u b M V)) (by simpa using heap_alloc_new w _)
 refine⟨_,.pointer (some ⟨w.heap.size,0,none⟩),_,_,_,?_,.inl rfl,?_,U⟩
 .simp[execOp,ho,Instr.alloc,K,newVar,newRow,newObj,Sem.run]
 .have:=FC (w:=w.alloc (.cells v.cells T)) (W:=λ b=>W b\/b=w.heap.size) (μ:=λ x=>if x=id then Loc.at_ ⟨w.heap.size,z.length,v.cells.toList.length+([]:List Value).length⟩else μ x) (y:=id) (k:=⟨w.heap.size,z.length,v.cells.toList.length+([]:List Value).length⟩) (by simp) Y 0 0
  simpa using this
def X9{T:TypeId}{n:Nat}(Y:szIs P T n=true){g off:Nat}{us rest vs:List Value}{e:TypeId}{v:Value}(K:v.cells=vs.toArray)(B:vs.length=n)(hg:w.heap[g]? =some (.cells (us++rest).toArray e (0,0)))
  (U:off+vs.length<=us.length) (F:∀u∈vs,u.oneCell'=true):
  (Instr.storeAt T (.pointer (some ⟨g,off,none⟩)) v).run P w=.ok () (w.setRow g ((us.take off++vs++us.drop (off+vs.length))++rest).toArray):=by
 have H:=run_storeCells_at P g off e vs 0 (us++rest).toArray w hg (by simp;omega) F;simp only[Nat.add_zero]at H;have O:¬vs.toArray.size≠n:=by simpa using B
 simp only[Instr.storeAt,Instr.sureAddr,storeVar,qc,Qc,Oc,zD Y,K,O,cI,H];congr 2;have M:(us++rest).take off=us.take off:=eY om;have L:(us++rest).drop (off+vs.length)=us.drop (off+vs.length)++rest:=fW om;simp[M,L]
def IB(w:World)(g:Nat)(c:Array Value):Keeps (λ b=>b=g) w (w.setRow g c):=
 ⟨rfl,rfl,rfl,dG _,by simp[World.setRow],λ b _ hb=>setRow_other w g b c hb⟩
def Ya(us vs:List Value)(i j sz n:Nat)(hi:(i+1)*sz<=us.length)(F:j+n<=sz)(H:vs.length=n):
  us.take (i*sz)++(((us.drop (i*sz)).take sz).take j++vs++((us.drop (i*sz)).take sz).drop (j+vs.length))++us.drop ((i+1)*sz)=us.take (i*sz+j)++vs++us.drop (i*sz+j+vs.length):=by
 subst H;rw[eD,Nat.one_mul]at hi⊢;generalize i*sz=p at*;have O:us.take (p+j)=us.take p++((us.drop p).take sz).take j:=by rw[List.take_add,lB,gU om]
 have U:us.drop (p+j+vs.length)=((us.drop p).take sz).drop (j+vs.length)++us.drop (p+sz):=by
  have Y:us.drop p=(us.drop p).take sz++us.drop (p+sz):=by rw[<-fB,eO]
  have B:us.drop (p+j+vs.length)=(us.drop p).drop (j+vs.length):=by rw[fB,gF]
  rw[B]
  conv=>lhs;rw[Y]
  rw[fW];simp only[dE,dC];omega
 rw[O,U];simp only[cG]
def Yb{id:Nat}(V:SatW E s a w W μ){x y:Operand}{T:TypeId}{n:Nat}{ax ay:A}{ef:Ef}(ho:o.op=.store T x y)(hT:szIs P T n=true)(hx:Rep w W μ (a.eval x) ax)(hy:Rep w W μ (a.eval y) ay)
  (L:ev id s.mem (.store n) [ax,ay]=some ef) (h0:ef.obl):mN P o a w W μ s.mem ef.v (setM s.mem ef.mw):=by
 cases ax<;>simp only[ev]at L<;>try(cases L;done)
 rename_i p i j;split at L
 .rename_i r hr;cases L;obtain⟨p0,hv,hi,hj,hn⟩:=h0;obtain⟨k,hk,hp,x0⟩:=V.ptr hx hr;obtain⟨us,q0,K,U⟩:=hy.toCells hv;obtain⟨_,y0,t0,H,rest,e,O,htot,Z⟩:=x0;have hc:r.es[i]? =some (r.es.getD i r.z):=by simp[hi]
  have z0:=Z.hs i _ hc;have r0:=Z.split hc;have Y:(i+1)*r.sz<=H.length:=by rw[Z.hl];exact dU _ hi
  have u0:∀u∈us,u.oneCell'=true:=λ u hu=>by
   obtain⟨q,hq⟩:=iW hu;have s0:q<ay.cells.length:=by rw[<-K];exact(cK.1 hq).1
   exact(U q u _ hq (cE s0)).oneCell
  have B:=Flat.upd (R:=RepK w W μ) (c:=r.es.getD i r.z) (z0▸r0) K U j om;rw[z0]at B;have F:=Z.set i hi B;have M:i*r.sz+j+us.length<=H.length:=by rw[eD]at Y;omega
  have v0:=X9 (w:=w) hT (g:=k.b) (off:=i*r.sz+j) q0 om O M u0;rw[Ya H us i j r.sz us.length Y om rfl]at F;refine⟨.skip,undef,w.setRow k.b ((H.take (i*r.sz+j)++us++H.drop (i*r.sz+j+us.length))++rest).toArray,W,μ,?_,.inr ⟨rfl,rfl⟩,trivial,Step.write (rest:=rest) V.mem V.inj V.wlt hk hr p0 (r':=⟨r.ro,r.sz,r.z,r.es.set i (upd (r.es.getD i r.z) j ay.cells)⟩) rfl (IB _ _ _) F (setRow_heap w k.b _ _ e _ O) ?_⟩
  .simp only[execOp,ho,hp,y0,qc,v0,Oc,Qc]
  .simp only[cA,dE,dC];omega
 .cases L
end
section
variable {P:Program} {o:Oper} {a:Act} {E:Env} {s:S} {w:World} {W:Nat→Prop} {μ:Nat→Loc}
def xE(P:Program)(w:World)(sz m:Nat)(x:Value)(news:List Value):Prop:=
 ∀H:World,H.heap=w.heap->(Builtin.lenOf x).run P H=.ok m H/\(∀n,n<=m->(Builtin.firstCells sz n x).run P H=.ok (news.take (n*sz)).toArray H)
def AO{ad:Option Addr}{m c sz:Nat}{news:List Value}(K:news.length=m*sz)(U:∀b,ad=some b->∀(j:Nat) (u:Value),news[j]? =some u->w.cell? (b.add j)=some u)(Y:ad=none->news=[]):
  xE P w sz m (.slice ad m c) news:=by
 intro B L;refine⟨rfl,λ n O=>?_⟩;cases ad with
 |none=>simp[Builtin.firstCells,Y rfl]
 |some b=>
  refine run_firstCells_some B sz n b m c (news.take (n*sz)) ?_ λ j v H=>?_
  .rw[dE,K,gU (dU _ O)]
  .rw[eA]at H;split at H
   .have:=U b rfl j v H;rw[<-this];simp[World.cell?,L]
   .cases H
def FE(hs:SatW E s a w W μ){v:Value}{ax:A}{new:List (List A)}{sz:Nat}(hx:Rep w W μ v ax)(F:sL s.mem ax=some new)(s0:tW s.mem ax)(V:pF sz new):
  ∃O,xE P w sz new.length v O/\Flat (RepK w W μ) sz O new:=by
 have Y:∀es,RepC w W v (.sl es)->pF sz es->∃O,xE P w sz es.length v O/\Flat (RepK w W μ) sz O es:=λ es t0 v0=>by
  rcases t0.open_sl with⟨rfl,ad,p0,Z⟩|⟨b,l0,p0,c0,us,Z,hb,hlt,hn,e0,hf,M⟩
  .exact⟨[],by rw[Z];exact AO (by simp) (by simp) (by simp),Flat.nil _ _⟩
  .have hsz:c0=sz:=by
    have h0:es[0]? =some es[0]:=by simp
    rw[<-hf.hs _ _ h0];exact v0 _ (cV h0)
   subst hsz;refine⟨us,?_,hf.mono λ u a hr=>nN hr⟩;rw[Z];exact AO hf.hl (λ ad x0 j u L=>by cases x0;rw[Addr.add_lit];exact M j u L) (by simp)
 unfold sL at F;split at F
 .cases F;exact Y _ hx V
 .cases F;exact Y _ (RepC.of_full hx).1 V
 .rename_i y lo n;split at F
  .rename_i r hr;cases F;rcases hs.own hx hr with⟨rfl,ad,Z⟩|⟨k,p0,h5,h6,h7,h8,h9,q0⟩
   .have:(r.es.drop lo).take 0=[]:=by simp
    rw[this];exact⟨[],by rw[Z];exact AO (by simp) (by simp) (by simp),Flat.nil _ _⟩
   .obtain⟨_,r0,f0,m0,g0,e,y0,htot,hf⟩:=q0;have n0:lo+n<=r.es.length:=by simpa only[tW,hr]using s0
    have K:((r.es.drop lo).take n).length=n:=by simp;omega
    have z0:=(hf.drop lo).take n;have hsz:(r.es.drop lo).take n=[]\/r.sz=sz:=by
     by_cases U:(r.es.drop lo).take n=[]
     .exact .inl U
     .right;have h0:((r.es.drop lo).take n)[0]? =some (((r.es.drop lo).take n)[0]'(gW.2 U)):=cE _;rw[<-z0.hs _ _ h0];exact V _ (cV h0)
    rcases hsz with U|hsz
    .have d0:n=0:=by rw[U]at K;simpa using K.symm
     rw[U,h6,d0];exact⟨[],AO (by simp) (by simp) (by simp),Flat.nil _ _⟩
    .subst hsz;refine⟨_,?_,z0⟩;rw[h6,K];refine AO (by rw[z0.hl,K]) (λ ad x0 j u L=>?_) (by simp);cases x0;rw[Addr.add_lit];rw[eA]at L;split at L
     .rw[eG]at L;simp only[World.cell?,y0,r0,oc,bZ,cI,fO];rw[dX (cK.1 L).1,L]
     .cases L
  .cases F
 .rename_i b;cases F;have u0:b.toList=b.data.toList:=ByteArray.toList_eq b;have Z:=hx.str;subst Z;refine⟨b.toList.map λ c=>Value.int .u8 c.toNat,?_,?_⟩
  .intro w1 hw;refine⟨?_,λ n hn=>?_⟩
   .simp[Builtin.lenOf,u0]
   .simp only[Builtin.firstCells,Qc,dM]at hn⊢;congr 1;apply Array.ext'
    by_cases H:b.toList=[]
    .have:b.data=#[]:=by rw[u0]at H;exact Array.toList_eq_nil_iff.1 H
     simp[H,this]
    .have B:sz=1:=by
      have:[A.int .u8 (b.toList.head H).toNat]∈b.toList.map (λ c=>[A.int .u8 c.toNat]):=cS.2 ⟨_,List.head_mem H,rfl⟩;exact(V _ this).symm
     subst B;simp[u0]
  .refine⟨?_,λ i c M=>V c (cV M),λ i c j d M hd=>?_⟩
   .by_cases H:b.toList=[]
    .simp[H]
    .have B:sz=1:=by
      have:[A.int .u8 (b.toList.head H).toNat]∈b.toList.map (λ c=>[A.int .u8 c.toNat]):=cS.2 ⟨_,List.head_mem H,rfl⟩;exact(V _ this).symm
     simp[B]
   .rw[cW]at M;cases hb:b.toList[i]? with
    |none=>simp[hb]at M
    |some q=>
     simp[hb]at M;subst M;have B:sz=1:=(V _ (cS.2 ⟨q,cV hb,rfl⟩)).symm;subst B;cases j with
     |zero=>simp at hd;subst hd;exact⟨_,by simp[hb],show RepC w W _ _ from .int _ _⟩
     |succ j=>simp at hd
 .cases F
def p6(P:Program)(T U:TypeId)(sz H:Nat):Bool:=
 match P.underlying T with
 |some (.slice e)=>(match P.info? e with
  |some i=>i.size==sz&&i.bytes==H&&(match i.zero with|some z=>z.cells.size==sz|none=>false)
  |none=>false)&&(match P.underlying U with|some (.slice _)=>true|some .string=>true|_=>false)
 |_=>false
def Mc{T U:TypeId}{sz H:Nat}(h:p6 P T U sz H=true):∃e i z,P.underlying T=some (.slice e)/\P.info? e=some i/\i.size=sz/\i.bytes=H/\i.zero=some z/\z.cells.size=sz/\
  ((∃F,P.underlying U=some (.slice F))\/P.underlying U=some .string):=by
 unfold p6 at h;split at h
 .rename_i e M;simp only[bY]at h;obtain⟨B,K⟩:=h;split at B
  .rename_i i L;simp only[bY,dN]at B;obtain⟨⟨V,Z⟩,Y⟩:=B;split at Y
   .rename_i z hz;simp only[dN]at Y;split at K
    .rename_i F O;exact⟨e,i,z,M,L,V,Z,hz,Y,.inl ⟨F,O⟩⟩
    .rename_i O;exact⟨e,i,z,M,L,V,Z,hz,Y,.inr O⟩
    .cases K
   .cases Y
  .cases B
 .cases h
def Md{T U e:TypeId}{i:TypeInfo}(K:P.underlying T=some (.slice e))(hU:(∃Y,P.underlying U=some (.slice Y))\/P.underlying U=some .string)(hi:P.info? e=some i)
  {ty:TypeId} {base:Option Addr} {sLen sCap m:Nat} {x:Value} {news:List Value} (V:xE P w i.size m x news) (Z:news.length=m*i.size) (H:sLen+m<=sCap)
  {w':World} (B:∀O,base=some O->(storeCells (O.add (sLen*i.size)) news).run P w=.ok () w') (F:base=none->w'=w):
  (Builtin.append_ #[T,U] ty #[.slice base sLen sCap,x]).run P w=.ok (.slice base (sLen+m) sCap) w':=by
 obtain⟨L,h2⟩:=V w rfl;have M:=h2 m (dG _);rw[<-Z,eV]at M;cases base with
 |none=>cases F rfl;rcases hU with⟨Y,hU⟩|hU<;>simp[Builtin.append_,run_underlying K,run_underlying hU,vZ hi,L,H,M]
 |some O=>have:=B O rfl;rcases hU with⟨Y,hU⟩|hU<;>simp[Builtin.append_,run_underlying K,run_underlying hU,vZ hi,L,H,M,this]
def IC{T U e:TypeId}{i:TypeInfo}{z:Value}(Z:P.underlying T=some (.slice e))(hU:(∃K,P.underlying U=some (.slice K))\/P.underlying U=some .string)(hi:P.info? e=some i)(hz:i.zero=some z)
  {ty:TypeId} {base:Option Addr} {sLen sCap m:Nat} {x:Value} {news olds:List Value} (L:xE P w i.size m x news) (hl:news.length=m*i.size) (u0:olds.length=sLen*i.size)
  (O:∀M:World,M.heap=w.heap->(Builtin.firstCells i.size sLen (.slice base sLen sCap)).run P M=.ok olds.toArray M)
  (H:sCap<sLen+m) (Y:sLen+m<=maxLen) (h0:(sLen+m)*i.bytes<=140737488355328):
  ∃c,sLen+m<=c/\c<=maxLen/\(Builtin.append_ #[T,U] ty #[.slice base sLen sCap,x]).run P w=.ok (.slice (some ⟨w.heap.size,0,none⟩) (sLen+m) c)
   (w.drew.alloc (.cells ((olds++news)++(Builtin.zeroCells z.cells (c-(sLen+m))).toList).toArray e)):=by
 have x0:=grownCap_ge w (sLen+m) sCap e;have y0:=grownCap_le_maxLen w (sLen+m) sCap e Y;refine⟨grownCap w (sLen+m) sCap e,x0,y0,?_⟩;obtain⟨h1,_⟩:=L w rfl;obtain⟨_,h2⟩:=L w.drew rfl;have V:=h2 m (dG _);rw[<-hl,eV]at V;have h4:=O w.drew rfl;have hn:¬(sLen+m<=sCap):=om
 have B:¬(9223372036854775807<((sLen:Int)+(m:Int))):=by simp only[maxLen]at Y;omega
 have z0:=growslice_fits H h0;have F:¬(281474976710656<Builtin.nextslicecap (sLen+m) sCap*i.bytes):=om
 rcases hU with⟨K,hU⟩|hU<;>simp[Builtin.append_,run_underlying Z,run_underlying hU,sizeOf,typeInfo,zeroValue,hi,hz,h1,hn,B,F,Question.forced,V,h4,newRow,grownCap]
 all_goals(congr 2;apply Array.ext';simp)
def AP{x lo n:Nat}{k:Blk}{cap:Nat}(K:μ x=.at_ k)(L:(lo+cap)*k.sz<=k.tot)(O:n<=cap)(U:lo+cap<=maxLen)(H:0<k.sz:=by first|assumption|omega|(simp only;omega)):Rep w W μ (.slice (some ⟨k.b,lo*k.sz,none⟩) n cap) (.own x lo n):=by refine Ma ⟨rfl,?_⟩;rw[K];exact⟨H,.inr ⟨cap,rfl,L,O,U⟩⟩
def Me{x:Nat}{ad:Option Addr}(H:μ x=.empty)(lo:Nat):Rep w W μ (.slice ad 0 0) (.own x lo 0):=by refine Ma ⟨rfl,?_⟩;rw[H];exact⟨rfl,_,rfl⟩
def P3(hm:rI w W μ s.mem)(hi:∀x y k k',μ x=.at_ k->μ y=.at_ k'->k.b=k'.b->x=y)(K:∀b,W b->b<w.heap.size)
  {T U e:TypeId} {i:TypeInfo} {z:Value} {zz:List A} (V:P.underlying T=some (.slice e)) (Z:(∃e2,P.underlying U=some (.slice e2))\/P.underlying U=some .string) (H:P.info? e=some i) (hz:i.zero=some z) (x0:z.cells.size=i.size)
  (O:0<i.size) {id m:Nat} {ty:TypeId} {ad:Option Addr} {x:Value} {news:List Value} {new:List (List A)} (F:s.mem id=.fresh) (hx:xE P w i.size m x news) (y0:m=new.length) (L:Flat (RepK w W μ) i.size news new)
  (v0:m<=maxLen) (z0:m*i.bytes<=140737488355328):
  ∃v w' W' μ',(Builtin.append_ #[T,U] ty #[.slice ad 0 0,x]).run P w=.ok v w'/\Rep w' W' μ' v (.own id 0 m)/\Step s.mem (setM s.mem [(id,.row ⟨false,i.size,zz,new⟩)]) w w' W W' μ μ':=by
 subst y0
 by_cases h0:new.length=0
 .have hn:new=[]:=dB h0;subst hn;have B:news=[]:=dB (by simpa using L.hl);subst B;refine⟨.slice ad 0 0,w,W,_,?_,?_,Step.newEmpty hm hi K F O rfl (Keeps.refl _ w)⟩
  .exact Md V Z H (m:=0) (sLen:=0) (sCap:=0) hx (by simp) (dG _) (λ b _=>by simp[storeCells]) (λ _=>rfl)
  .exact Me (by simp) 0
 .obtain⟨c,M,p0,Y⟩:=IC (ty:=ty) (base:=ad) (sLen:=0) (sCap:=0) (olds:=[]) V Z H hz hx L.hl (by simp)
   (λ w1 hw=>by cases ad<;>simp[Builtin.firstCells,loadCells,loadCellsFrom]) om om (by simpa using z0)
  simp only[eC,jm]at Y M;have u0:=Step.new (w':=w.drew.alloc (.cells (news++(Builtin.zeroCells z.cells (c-new.length)).toList).toArray e)) hm hi K F (r:=⟨false,i.size,zz,new⟩) (us:=news) (rest:=(Builtin.zeroCells z.cells (c-new.length)).toList) (e:=e) O (FD _ _) L
   (by simpa using heap_alloc_new w.drew _)
  refine⟨_,_,_,_,Y,?_,u0⟩;have:=AP (w:=w.drew.alloc (.cells (news++(Builtin.zeroCells z.cells (c-new.length)).toList).toArray e)) (W:=λ b=>W b\/b=w.heap.size)
   (μ:=λ x=>if x=id then Loc.at_ ⟨w.heap.size,i.size,news.length+(Builtin.zeroCells z.cells (c-new.length)).toList.length⟩else μ x) (x:=id) (lo:=0) (n:=new.length) (cap:=c)
   (k:=⟨w.heap.size,i.size,news.length+(Builtin.zeroCells z.cells (c-new.length)).toList.length⟩) (by simp)
   (by simp only[Array.length_toList,size_zeroCells,x0,L.hl,eC];rw[<-eD];exact dU _ om) M om
  simpa using this
def Yc(hm:rI w W μ s.mem)(hi:∀x y k k',μ x=.at_ k->μ y=.at_ k'->k.b=k'.b->x=y)(V:∀b,W b->b<w.heap.size)
  {T U e:TypeId} {i:TypeInfo} {z:Value} {zz:List A} (hT:P.underlying T=some (.slice e)) (hU:(∃e2,P.underlying U=some (.slice e2))\/P.underlying U=some .string) (H:P.info? e=some i) (hz:i.zero=some z) (B:z.cells.size=i.size)
  (O:0<i.size) {id:Nat} {ty:TypeId} {ad:Option Addr} {x:Value} {olds news:List Value} {es new:List (List A)} (F:s.mem id=.fresh) (hx:xE P w i.size new.length x news) (Z:Flat (RepK w W μ) i.size news new)
  (hb:xE P w i.size es.length (.slice ad es.length es.length) olds) (L:Flat (RepK w W μ) i.size olds es) (M:new≠[])
  (h0:es.length+new.length<=maxLen) (x0:(es.length+new.length)*i.bytes<=140737488355328):
  ∃v w' W' μ',(Builtin.append_ #[T,U] ty #[.slice ad es.length es.length,x]).run P w=.ok v w'/\Rep w' W' μ' v (.own id 0 (es.length+new.length))/\Step s.mem (setM s.mem [(id,.row ⟨false,i.size,zz,es++new⟩)]) w w' W W' μ μ':=by
 have h1:0<new.length:=gW.2 M;have K:Flat (RepK w W μ) i.size (olds++news) (es++new):=L.append Z;obtain⟨c,y0,u0,Y⟩:=IC (ty:=ty) (base:=ad) (sLen:=es.length) (sCap:=es.length) (olds:=olds) hT hU H hz hx Z.hl L.hl
  (λ w1 hw=>by
   have:=(hb w1 hw).2 es.length (dG _);rwa [<-L.hl,eV]at this) om h0 x0
 have z0:=Step.new (w':=w.drew.alloc (.cells ((olds++news)++(Builtin.zeroCells z.cells (c-(es.length+new.length))).toList).toArray e)) hm hi V F (r:=⟨false,i.size,zz,es++new⟩) (us:=olds++news) (rest:=(Builtin.zeroCells z.cells (c-(es.length+new.length))).toList) (e:=e) O (FD _ _) K
  (by simpa using heap_alloc_new w.drew _)
 refine⟨_,_,_,_,Y,?_,z0⟩;have:=AP (w:=w.drew.alloc (.cells ((olds++news)++(Builtin.zeroCells z.cells (c-(es.length+new.length))).toList).toArray e)) (W:=λ b=>W b\/b=w.heap.size)
  (μ:=λ x=>if x=id then Loc.at_ ⟨w.heap.size,i.size,(olds++news).length+(Builtin.zeroCells z.cells (c-(es.length+new.length))).toList.length⟩else μ x) (x:=id) (lo:=0) (n:=es.length+new.length) (cap:=c)
  (k:=⟨w.heap.size,i.size,(olds++news).length+(Builtin.zeroCells z.cells (c-(es.length+new.length))).toList.length⟩) (by simp)
  (by simp only[Array.length_toList,size_zeroCells,B,K.hl,eC,cA];rw[<-eD];exact dU _ om) y0 om
 simpa using this
def P4(Z:SatW E s a w W μ){T U e:TypeId}{i:TypeInfo}{z:Value}(hu:P.underlying T=some (.slice e))(hU:(∃e2,P.underlying U=some (.slice e2))\/P.underlying U=some .string)(F:P.info? e=some i)(hz:i.zero=some z)(b0:z.cells.size=i.size)
  {id K n:Nat} {ty:TypeId} {r:Row} {vx x:Value} {news:List Value} {new:List (List A)} (hx:Rep w W μ vx (.own K 0 n)) (f0:s.mem id=.fresh) (hr:s.mem K=.row r) (p1:r.ro=false) (a0:n<=r.es.length) (u0:r.sz=i.size)
  (v0:xE P w i.size new.length x news) (hf:Flat (RepK w W μ) i.size news new) (q1:n+new.length<=maxLen) (x1:(n+new.length)*i.bytes<=140737488355328):
  ∃v w' W' μ',(Builtin.append_ #[T,U] ty #[vx,x]).run P w=.ok v w'/\Rep w' W' μ' v (.own id 0 (n+new.length))/\Step s.mem (setM s.mem [(K,.dead),(id,.row ⟨false,i.size,r.z,r.es.take n++new⟩)]) w w' W W' μ μ':=by
 have r1:id≠K:=λ e=>by subst e;rw[f0]at hr;cases hr
 have O:=Step.kill (x:=K) Z.mem Z.inj Z.wlt;have c0:setM s.mem [(K,.dead)] id=.fresh:=by simp[setM,r1,f0]
 rcases Z.own hx hr with⟨a0,ad,hv⟩|⟨k,cap,h5,h6,h7,h8,h9,d0⟩
 .subst a0;have Y:0<i.size:=u0▸Z.posO hx hr;have s1:Flat (RepK w W (λ y=>if y=K then .dead else μ y)) i.size news new:=hf.mono λ u b g0=>g0.step O;obtain⟨v,w',W',μ',h1,h2,h3⟩:=P3 (s:=⟨s.fr,setM s.mem [(K,.dead)]⟩) (zz:=r.z) (ty:=ty) (ad:=ad) O.mem O.inj O.wlt hu hU F hz b0 Y c0 v0 rfl s1 om (by simpa using x1);refine⟨v,w',W',μ',(by rw[hv];exact h1),(by simpa using h2),?_⟩;rw[lR,lJ];exact O.trans h3
 .have t1:=d0;obtain⟨_,x0,Y,l0,p0,e0,t0,m0,y1⟩:=d0;rw[u0]at x0 Y y1;obtain⟨H,hus⟩:∃H,H=l0.take (n*i.size):=⟨_,rfl⟩;obtain⟨rest,n0⟩:∃rest,rest=l0.drop (n*i.size)++p0:=⟨_,rfl⟩;have z0:l0++p0=H++rest:=by rw[hus,n0,<-cG,eO]
  have M:w.heap[k.b]? =some (.cells (H++rest).toArray e0 (0,0)):=z0▸t0;have htot:H.length+rest.length=k.tot:=by rw[<-cA,<-z0,cA];exact m0
  obtain⟨B,q0⟩:∃B,B=r.es.take n:=⟨_,rfl⟩;have L:Flat (RepK w W μ) i.size H B:=by rw[hus,q0];exact y1.take n
  have hn:n=B.length:=by rw[q0,dE];omega
  rw[<-q0];rw[x0]at h7;simp only[eC,kB,x0]at h6 h7 h9;have V:Flat (RepK w W μ) i.size (H++news) (B++new):=L.append hf
  by_cases h0:n+new.length<=cap
  .have m1:news.length<=rest.length:=by
    have e1:=L.hl;have e2:=hf.hl;have e3:(n+new.length)*i.size<=cap*i.size:=dU _ h0;rw[eD]at e3;rw[hn]at e3;omega
   have hul:H.length=n*i.size:=by rw[L.hl,hn]
   have z1:∀u∈news,u.oneCell'=true:=λ u c1=>by
    obtain⟨q,hq⟩:=iW c1;have u1:=(cK.1 hq).1;have d1:q/i.size<new.length:=by rw[hf.hl]at u1;exact(hZ Y).2 u1
    have hc:=cE d1;have f1:=hf.hs _ _ hc;have hj:q% i.size<(new[q/i.size]).length:=by rw[f1];exact kW _ Y
    obtain⟨u',j0,g1⟩:=hf.ha _ _ _ _ hc (cE hj);rw[jR]at j0;rw[hq]at j0;cases j0;exact g1.oneCell
   have r0:=run_storeCells_at P k.b (n*i.size) e0 news 0 (H++rest).toArray w M (by simp;omega) z1;simp only[Nat.add_zero]at r0;have e1:(H++rest).take (n*i.size)=H:=by rw[<-hul];exact List.take_left
   have e2:(H++rest).drop (n*i.size+news.length)=rest.drop news.length:=by rw[<-hul,jS];simp
   rw[e1,e2]at r0;have s0:=Md (ty:=ty) (base:=some ⟨k.b,0,none⟩) (sLen:=n) (sCap:=cap) hu hU F v0 hf.hl h0 (w':=w.setRow k.b ((H++news)++rest.drop news.length).toArray)
    (λ ad k1=>by cases k1;rw[Addr.add_lit,eC];exact r0) (by simp)
   refine⟨_,_,W,_,(by rw[h6];exact s0),?_,(Step.moved Z.mem Z.inj Z.wlt h5 hr p1 (id:=id) (r':=⟨false,i.size,r.z,B++new⟩) u0.symm f0 (IB _ _ _) V (setRow_heap w k.b _ _ e0 _ M) (by simp;omega))⟩;have:=AP (w:=w.setRow k.b ((H++news)++rest.drop news.length).toArray) (W:=W) (μ:=λ y=>if y=id then .at_ k else if y=K then .dead else μ y) (x:=id) (lo:=0) (n:=n+new.length) (k:=k) (cap:=cap) (by simp) (by rw[x0];simpa using h7) h0 om
   simpa using this
  .obtain⟨c,l1,n1,s0⟩:=IC (ty:=ty) (base:=some ⟨k.b,0,none⟩) (sLen:=n) (sCap:=cap) (olds:=H) hu hU F hz v0 hf.hl (by rw[L.hl,hn])
    (λ w1 hw=>run_firstCells_some w1 i.size n ⟨k.b,0,none⟩ n cap H (by rw[L.hl,hn]) λ j u hj=>by
     rw[Addr.add_lit,eC];simp only[World.cell?,hw,M,oc,bZ,cI,fO];rw[dX (cK.1 hj).1,hj]) om q1 x1
   have o0:Flat (RepK w W (λ y=>if y=K then .dead else μ y)) i.size (H++news) (B++new):=V.mono λ u b g0=>g0.step O;have r0:=Step.new (w':=w.drew.alloc (.cells ((H++news)++(Builtin.zeroCells z.cells (c-(n+new.length))).toList).toArray e)) O.mem O.inj O.wlt c0 (r:=⟨false,i.size,r.z,B++new⟩) (us:=H++news) (rest:=(Builtin.zeroCells z.cells (c-(n+new.length))).toList) (e:=e) Y (FD _ _) o0
    (by simpa using heap_alloc_new w.drew _)
   refine⟨_,_,_,_,(by rw[h6];exact s0),?_,(O.trans r0)⟩;have:=AP (w:=w.drew.alloc (.cells ((H++news)++(Builtin.zeroCells z.cells (c-(n+new.length))).toList).toArray e)) (W:=λ b=>W b\/b=w.heap.size)
    (μ:=λ x=>if x=id then Loc.at_ ⟨w.heap.size,i.size,(H++news).length+(Builtin.zeroCells z.cells (c-(n+new.length))).toList.length⟩else if x=K then .dead else μ x) (x:=id) (lo:=0) (n:=n+new.length) (cap:=c)
    (k:=⟨w.heap.size,i.size,(H++news).length+(Builtin.zeroCells z.cells (c-(n+new.length))).toList.length⟩) (by simp)
    (by simp only[Array.length_toList,size_zeroCells,b0,V.hl,eC,cA,<-hn];rw[<-eD];exact dU _ om) l1 om
   simpa using this
def Yd(F:SatW E s a w W μ){x y:Operand}{T U:TypeId}{sz bytes id:Nat}{zz:List A}{ax ay:A}{ef:Ef}(ho:o.op=.call {callee:=.builtin .append,args:=#[x,y],argTypes:=#[T,U]})(hT:p6 P T U sz bytes=true)
  (hx:Rep w W μ (a.eval x) ax) (hy:Rep w W μ (a.eval y) ay) (q0:s.mem id=.fresh) (M:ev id s.mem (.append sz bytes zz) [ax,ay]=some ef) (v0:ef.obl):mN P o a w W μ s.mem ef.v (setM s.mem ef.mw):=by
 obtain⟨e,i,z,hu,H,f0,x0,hz,r0,hU⟩:=Mc hT;subst f0;subst x0;have s0:∀v w' W' μ',(Builtin.append_ #[T,U] o.type #[a.eval x,a.eval y]).run P w=.ok v w'->Rep w' W' μ' v ef.v->Step s.mem (setM s.mem ef.mw) w w' W W' μ μ'->mN P o a w W μ s.mem ef.v (setM s.mem ef.mw):=λ v w' W' μ' V Z L=>
  ⟨.value v,v,w',W',μ',by simp[execOp,ho,resolve,invoke,builtin,V],.inl rfl,Z,L⟩
 simp only[ev]at M;cases K:sL s.mem ay with
 |none=>simp[K]at M
 |some new=>
  simp only[K,qm]at M;split at M
  .rename_i es;cases M;obtain⟨p0,g0,t0,c0,Y,z0,u0⟩:=v0;obtain⟨d0,O,hf⟩:=FE (P:=P) F hy K c0 Y;obtain⟨_,ad,hv⟩:=RepC.of_full (show RepC w W (a.eval x) (.full es)from hx)
   by_cases h0:es=[]
   .subst h0;obtain⟨v,w',W',μ',V,Z,L⟩:=P3 (zz:=zz) (ty:=o.type) (ad:=ad) F.mem F.inj F.wlt hu hU H hz r0 p0 q0 O rfl hf (by simpa using u0) (by simpa using z0);exact s0 v w' W' μ' (by rw[hv];exact V) (by simpa using Z) (by simpa using L)
   .obtain⟨m0,B,hf0⟩:=FE (P:=P) F hx (new:=es) rfl trivial t0;rw[hv]at B;obtain⟨v,w',W',μ',V,Z,L⟩:=Yc (zz:=zz) (ty:=o.type) (ad:=ad) F.mem F.inj F.wlt hu hU H hz r0 p0 q0 O hf B hf0 (g0.resolve_left h0) u0 z0;exact s0 v w' W' μ' (by rw[hv];exact V) Z L
  .rename_i y0 lo n;split at M
   .rename_i r hr;cases M;obtain⟨l0,rfl,hn,e0,c0,Y,z0,u0⟩:=v0;obtain⟨d0,O,hf⟩:=FE (P:=P) F hy K c0 Y;obtain⟨v,w',W',μ',V,Z,L⟩:=P4 (ty:=o.type) F hu hU H hz r0 hx q0 hr l0 (Nat.le_of_eq hn) e0 O hf u0 z0;have e:r.es.take n=r.es:=by rw[hn,eV]
    rw[e]at L;exact s0 v w' W' μ' V Z L
   .cases M
  .cases M
def Ye(L:SatW E s a w W μ){x y:Operand}{T U:TypeId}{sz bytes id:Nat}{ax ay:A}{ef:Ef}(ho:o.op=.call {callee:=.builtin .append,args:=#[x,y],argTypes:=#[T,U]})(V:p6 P T U sz bytes=true)
  (Z:Rep w W μ (a.eval x) ax) (hy:Rep w W μ (a.eval y) ay) (x0:s.mem id=.fresh) (O:ev id s.mem (.appc sz bytes) [ax,ay]=some ef) (B:ef.obl):mN P o a w W μ s.mem ef.v (setM s.mem ef.mw):=by
 obtain⟨e,i,z,hu,Y,z0,H,hz,u0,hU⟩:=Mc V;subst z0;subst H;simp only[ev]at O;cases K:sL s.mem ay with
 |none=>simp[K]at O
 |some new=>
  simp only[K,qm]at O;split at O
  .rename_i y0 lo n;split at O
   .rename_i r hr;cases O;obtain⟨v0,rfl,hn,F,p0,M,q0,r0⟩:=B;obtain⟨s0,h0,hf⟩:=FE (P:=P) L hy K p0 M;obtain⟨v,w',W',μ',h1,h2,h3⟩:=P4 (ty:=o.type) L hu hU Y hz u0 Z x0 hr v0 hn F h0 hf r0 q0;exact⟨.value v,v,w',W',μ',by simp[execOp,ho,resolve,invoke,builtin,h1],.inl rfl,h2,h3⟩
   .cases O
  .cases O
def Yf(L:SatW E s a w W μ){x y:Operand}{T U:TypeId}{sz H:Nat}{es:List (List A)}(ho:o.op=.call {callee:=.builtin .append,args:=#[x,y],argTypes:=#[T,U]})(hT:p6 P T U sz H=true)
  (hx:Rep w W μ (a.eval x) (.full [])) (hy:Rep w W μ (a.eval y) (.sl es)) (M:pF sz es) (u0:es.length*H<=140737488355328) (t0:es.length<=maxLen):mN P o a w W μ s.mem (.sl es) s.mem:=by
 obtain⟨e,i,z,Z,O,F,Y,hz,c0,hU⟩:=Mc hT;subst F;subst Y;obtain⟨_,ad,hv⟩:=RepC.of_full (show RepC w W (a.eval x) (.full [])from hx);have x0:∀v w',(Builtin.append_ #[T,U] o.type #[a.eval x,a.eval y]).run P w=.ok v w'->RepC w' W v (.sl es)->Keeps (λ _=>False) w w'->mN P o a w W μ s.mem (.sl es) s.mem:=λ v w' h1 h2 h3=>
  ⟨.value v,v,w',W,μ,by simp[execOp,ho,resolve,invoke,builtin,h1],.inl rfl,qW h2,Step.quiet h3 L.mem L.inj L.wlt⟩
 rcases(show RepC w W (a.eval y) (.sl es)from hy).open_sl with⟨rfl,d0,v0,K⟩|⟨b,off,v0,p0,us,K,hb,hlt,hn,s0,V,hc⟩
 .refine x0 (.slice ad 0 0) w ?_ (.sl0 _ _) (Keeps.refl _ w);rw[hv,K];exact Md Z hU O (m:=0) (sLen:=0) (sCap:=0) (news:=[]) (AO (by simp) (by simp) (by simp)) (by simp) (dG _) (λ b _=>by simp[storeCells]) (λ _=>rfl)
 .have F:p0=i.size:=by
   have h0:es[0]? =some es[0]:=by simp
   rw[<-V.hs _ _ h0];exact M _ (cV h0)
  subst F;have y0:xE P w i.size es.length (a.eval y) us:=by rw[K];exact AO V.hl (λ ad q0 j u hj=>by cases q0;rw[Addr.add_lit];exact hc j u hj) (by simp)
  obtain⟨c,z0,e0,B⟩:=IC (ty:=o.type) (base:=ad) (sLen:=0) (sCap:=0) (olds:=[]) Z hU O hz y0 V.hl (by simp)
   (λ w1 hw=>by cases ad<;>simp[Builtin.firstCells,loadCells,loadCellsFrom]) om om (by simpa using u0)
  simp only[eC,jm]at B z0;have hk:=FD w (.cells (us++(Builtin.zeroCells z.cells (c-es.length)).toList).toArray e);have r0:Flat (RepC (w.drew.alloc (.cells (us++(Builtin.zeroCells z.cells (c-es.length)).toList).toArray e)) W) i.size us es:=V.mono λ u b hr=>hr.keep hk (λ _ _ _ h=>h) (λ _ _ h=>h);refine x0 _ _ (by rw[hv];exact B) (RepC.mk_sl (b:=w.heap.size) (off:=0) (λ h=>absurd (L.wlt _ h) (kR _)) (by simp) z0 r0 λ q u hq=>?_) hk;rw[eC,show w.heap.size=w.drew.heap.size from rfl,World.cell?_alloc_new];rw[fO,dX (cK.1 hq).1,hq]
end
section
variable {P:Program} {o:Oper} {a:Act} {E:Env} {s:S} {w:World} {W:Nat→Prop} {μ:Nat→Loc}
def Cs(R:Value->A->Prop)(us:List Value)(H:List A):Prop:=us.length=H.length/\∀(i:Nat) (u:Value) (b:A),us[i]? =some u->H[i]? =some b->R u b
def Cs.upd{R:Value->A->Prop}{us vs:List Value}{c d:List A}(h:Cs R us c)(k:Cs R vs d)(j:Nat)(U:j+d.length<=c.length):Cs R (us.take j++vs++us.drop (j+vs.length)) (Ab.upd c j d):=by
 have O:=Flat.upd (R:=R) (c:=c) (Flat.one h.1 h.2) k.1 k.2 j U;have K:(Ab.upd c j d).length=c.length:=by simp[Ab.upd];omega
 refine⟨by rw[K];simpa using O.hl,λ i u b Y hb=>?_⟩;obtain⟨F,H,B⟩:=O.ha 0 _ i b rfl hb;simp only[kB,eC]at H;rw[Y]at H;cases H;exact B
def P5(us:List Value):∀(off k:Nat) (H:Array Value),off+k+us.length<=H.size->
  (((us.zipIdx k).foldl (λ O q=>O.setIfInBounds (off+q.2) q.1) H)).toList=H.toList.take (off+k)++us++H.toList.drop (off+k+us.length):=by
 induction us with
 |nil=>intro off k H h;simp
 |cons u us U=>intro off k H h;simp only[List.zipIdx_cons,List.foldl_cons,ym]at h⊢;rw[U off (k+1) _ (by simp;omega)];rw[Array.toList_setIfInBounds];have:=list_seg_step H.toList (off+k) u us (by simp;omega);rw[show off+(k+1)=off+k+1 by omega];exact this
def AQ(H:Nat->Option (Nat×Nat)):List (Nat×Operand)->List (Nat×Nat)->Bool
 |[],[]=>true
 |p::ps,q::qs=>H p.1==some q&&AQ H ps qs
 |_,_=>false
def Mf(ρ:Operand->Value)(U:Nat->Option (Nat×Nat)):∀(O:List (Nat×Operand)) (ps:List (Nat×Nat)) (xs:List A) (H:Array Value) (z:List A),AQ U O ps=true->O.length=xs.length->
  (∀(i:Nat) (p:Nat×Operand) (x:A),O[i]? =some p->xs[i]? =some x->Rep w W μ (ρ p.2) x)->Fz z.length ps xs->Cs (RepK w W μ) H.toList z->
  ∃us:List Value,Instr.fill U H (O.map λ p=>(p.1,ρ p.2))=some us.toArray/\Cs (RepK w W μ) us (laid z ps xs)
 |[],[],xs,H,z,_,L,_,_,hc=>by have:xs=[]:=dB L.symm;subst this;exact⟨H.toList,by simp[Instr.fill],by simpa [laid]using hc⟩
 |p::O,q::ps,x::xs,H,z,K,L,hr,hok,hc=>by
  simp only[AQ,bY,dN]at K;obtain⟨hv,V,z0,B⟩:=hok;obtain⟨us,hu,Z,M⟩:=(hr 0 p x rfl rfl).toCells hv;have u0:H.size=z.length:=by simpa using hc.1
  have hq:us.length=q.2:=by rw[Z,V]
  have Y:=P5 us q.1 0 H om;simp only[Nat.add_zero]at Y;have F:=hc.upd ⟨Z,M⟩ q.1 om;have h0:(Ab.upd z q.1 x.cells).length=z.length:=by simp[Ab.upd];omega
  obtain⟨x0,h1,h2⟩:=Mf ρ U O ps xs ((us.zipIdx).foldl (λ cs q'=>cs.setIfInBounds (q.1+q'.2) q'.1) H) (Ab.upd z q.1 x.cells) K.2 (by simpa using L) (λ i p' x' h3 h4=>hr (i+1) p' x' h3 h4)
   (h0▸B) (by rw[Y];exact F)
  refine⟨x0,?_,by simpa [laid]using h2⟩;simp only[dO,Instr.fill,K.1];have y0:(ρ p.2).cells.size=q.2:=by rw[hu];simpa using hq
  rw[bX (by simp[y0];omega)];rw[<-h1];congr 1;rw[hu];simp
 |[],_::_,_,_,_,K,_,_,_,_=>by simp[AQ]at K
 |_::_,[],_,_,_,K,_,_,_,_=>by simp[AQ]at K
 |_::_,_::_,[],_,_,_,L,_,_,_=>by simp at L
def P6{α β:Type}(f:α->Sem β)(g:α->β):∀(l:List α),(∀x∈l,(f x).run P w=.ok (g x) w)->(l.mapM f).run P w=.ok (l.map g) w
 |[],_=>by simp
 |x::l,h=>by have H:=P6 f g l (λ y K=>h y (List.mem_cons_of_mem _ K));simp[lC,h x (by simp),H]
def CU(P:Program)(f:Field):Nat×Nat:=(f.offset,match P.info? f.type with|some k=>k.size|none=>0)
def Mg(P:Program)(T:TypeId)(H:List (Nat×Operand))(ps:List (Nat×Nat)):Bool:=
 match P.underlying T with
 |some (.struct fs)=>fs.toList.all (λ(f:Field)=>match P.info? f.type with|some _=>true|none=>false)&&
   AQ (λ i=>(fs.toList[i]?).map (CU P)) H ps
 |some (.array _ e)=>match P.info? e with
  |some k=>AQ (λ i=>some (i*k.size,k.size)) H ps
  |none=>false
 |_=>false
def Yg(hs:SatW E s a w W μ){T:TypeId}{H:Array (Nat×Operand)}{z:List A}{ps:List (Nat×Nat)}{xs:List A}(ho:o.op=.build T H)(hz:p5 P T z=true)(O:Mg P T H.toList ps=true)
  (Z:H.toList.length=xs.length) (hx:∀(i:Nat) (p:Nat×Operand) (x:A),H.toList[i]? =some p->xs[i]? =some x->Rep w W μ (a.eval p.2) x) (U:Fz z.length ps xs):
  mN P o a w W μ s.mem (.agg (laid z ps xs)) s.mem:=by
 obtain⟨v,hv,_,y0,z0⟩:=IA hz;have hc:Cs (RepK w W μ) v.cells.toList z:=⟨y0,λ i u b B Y=>nN (z0 w W i u b B Y)⟩;have h0:∀us:List Value,(Instr.build T (H.map λ(i,x)=>(i,a.eval x))).run P w=.ok (.agg us.toArray) w->Cs (RepK w W μ) us (laid z ps xs)->mN P o a w W μ s.mem (.agg (laid z ps xs)) s.mem:=λ us B Y=>
  hs.still (v:=.agg us.toArray) (by simp only[execOp,ho,qc,B,Oc,Qc]) ⟨us,rfl,Y.1,Y.2⟩
 unfold Mg at O;split at O
 .rename_i F L;simp only[bY]at O;obtain⟨x0,M⟩:=O;obtain⟨us,B,Y⟩:=Mf (w:=w) (W:=W) (μ:=μ) a.eval _ H.toList ps xs v.cells z M Z hx U hc;refine h0 us ?_ Y;have u0:(F.mapM λ(f:Field)=>do pure (f.offset,<-sizeOf f.type):Sem (Array (Nat×Nat))).run P w=.ok ((F.toList.map (CU P)).toArray) w:=by
   have e:F=F.toList.toArray:=by simp
   rw[e,List.mapM_toArray];simp only[Sem.run_map];rw[P6 _ (CU P) F.toList (λ f hf=>by
    have:=dQ.1 x0 f hf;cases K:P.info? f.type with
    |none=>simp[K]at this
    |some k=>simp[vZ K,CU,K])]
   simp
  simp only[Instr.build,qc,hv,Oc,run_underlying L,u0];have e2:(λ i:Nat=>((F.toList.map (CU P)).toArray)[i]?)=(λ i:Nat=>(F.toList[i]?).map (CU P)):=by funext i;simp
  have V:(H.map λ(x:Nat×Operand)=>(x.1,a.eval x.2)).toList=H.toList.map λ p=>(p.1,a.eval p.2):=by simp
  rw[e2,V,B];rfl
 .rename_i n e L;cases K:P.info? e with
  |none=>simp[K]at O
  |some k=>
   simp only[K]at O;obtain⟨us,B,Y⟩:=Mf (w:=w) (W:=W) (μ:=μ) a.eval _ H.toList ps xs v.cells z O Z hx U hc;refine h0 us ?_ Y;have V:(H.map λ(x:Nat×Operand)=>(x.1,a.eval x.2)).toList=H.toList.map λ p=>(p.1,a.eval p.2):=by simp
   simp only[Instr.build,qc,hv,Oc,run_underlying L,vZ K];rw[V,B];rfl
 .cases O
def Mh(P:Program)(T:TypeId):Bool:=match P.info? T with|some i=>i.zero.isSome|none=>false
def Yh{P:Program}{T:TypeId}(h:Mh P T=true):∃v,∀w,(zeroValue T).run P w=.ok v w:=by
 unfold Mh at h;split at h
 .rename_i i H;obtain⟨v,K⟩:=iK.1 h;exact⟨v,λ w=>by simp[zeroValue,typeInfo,H,K]⟩
 .cases h
def bsTy(P:Program)(T:TypeId)(sz:Nat)(z:List A):Bool:=
 match P.underlying T with
 |some (.slice e)=>szIs P e sz&&Mh P e&&z.length==sz
 |_=>false
def p7:Nat->List (Nat×Operand)->Bool
 |_,[]=>true
 |n,p::ps=>p.1==n&&p7 (n+1) ps
def P7(ρ:Operand->Value)(sz:Nat):∀(U:List (Nat×Operand)) (n:Nat) (xs:List A) (O:List Value) (H:List Value) (es:List (List A)),p7 n U=true->U.length=xs.length->
  (∀(i:Nat) (p:Nat×Operand) (x:A),U[i]? =some p->xs[i]? =some x->Rep w W μ (ρ p.2) x)->allV xs=true->pF sz (pB xs)->Flat (RepK w W μ) sz O es->es.length=n->H.length=xs.length*sz->
  ∃us:List Value,Instr.fill (λ i=>some (i*sz,sz)) (O++H).toArray (U.map λ p=>(p.1,ρ p.2))=some us.toArray/\Flat (RepK w W μ) sz us (es++pB xs)
 |[],n,xs,O,H,es,_,K,_,_,_,V,_,Z=>by have:xs=[]:=dB K.symm;subst this;have:H=[]:=dB (by simpa using Z);subst this;exact⟨O,by simp[Instr.fill],by simpa [pB]using V⟩
 |p::U,n,x::xs,O,H,es,ho,K,hr,hv,ha,V,hn,Z=>by
  simp only[p7,bY,dN]at ho;simp only[allV,bY]at hv;obtain⟨us,hu,L,x0⟩:=(hr 0 p x rfl rfl).toCells hv.1;have h0:x.cells.length=sz:=ha _ (by simp[pB]);have Y:O.length=n*sz:=by rw[V.hl,hn]
  have F:H.length=sz+xs.length*sz:=by rw[Z,lH,eD];omega
  have h1:Flat (RepK w W μ) sz (O++us) (es++[x.cells]):=V.append (h0▸Flat.one L x0);obtain⟨y0,h2,h3⟩:=P7 ρ sz U (n+1) xs (O++us) (H.drop sz) (es++[x.cells]) ho.2 (by simpa using K) (λ i p' x' h4 h5=>hr (i+1) p' x' h4 h5) hv.2
   (λ c hc=>ha c (by simp[pB,hc])) h1 (by simp[hn]) (by simp[F])
  refine⟨y0,?_,by simpa [pB]using h3⟩;simp only[dO,Instr.fill,ho.1];have z0:(ρ p.2).cells.size=sz:=by rw[hu];simp;omega
  rw[bX (by simp[z0,Y,F])];rw[<-h2];congr 1;rw[hu];have B:=P5 us (n*sz) 0 (O++H).toArray (by simp[Y,F];omega);simp only[Nat.add_zero]at B;have e4:us.toArray.zipIdx.foldl (λ M x=>M.setIfInBounds (n*sz+x.2) x.1) (O++H).toArray=us.zipIdx.foldl (λ M x=>M.setIfInBounds (n*sz+x.2) x.1) (O++H).toArray:=by simp
  apply Array.ext';rw[show(us.toArray.zipIdx.foldl (λ M (x:Value×Nat)=>match x with|(c,j)=>M.setIfInBounds (n*sz+j) c) (O++H).toArray)=us.zipIdx.foldl (λ M x=>M.setIfInBounds (n*sz+x.2) x.1) (O++H).toArray from e4];rw[B];simp only[List.take_left' Y];have e2:(O++H).drop (n*sz+us.length)=H.drop sz:=by rw[<-Y,jS];simp[L,h0]
  simp[e2]
 |_::_,_,[],_,_,_,_,K,_,_,_,_,_,_=>by simp at K
def P8{T:TypeId}{H:Array (Nat×Operand)}{sz:Nat}{z:List A}{xs:List A}(Y:bsTy P T sz z=true)(B:p7 0 H.toList=true)(Z:H.toList.length=xs.length)(x0:xs.length*sz<=16777216)
  {ρ:Operand->Value} (hx:∀(i:Nat) (p:Nat×Operand) (x:A),H.toList[i]? =some p->xs[i]? =some x->Rep w W μ (ρ p.2) x) (hv:allV xs=true) (ha:pF sz (pB xs)):
  ∃us e,(Instr.buildSlice T xs.length (H.map λ(i,x)=>(i,ρ x))).run P w=.ok (.slice (some ⟨w.heap.size,0,none⟩) xs.length xs.length) (w.alloc (.cells us.toArray e))/\Flat (RepK w W μ) sz us (pB xs):=by
 unfold bsTy at Y;split at Y
 .rename_i e K;simp only[bY,dN]at Y;obtain⟨⟨L,h2⟩,h3⟩:=Y;obtain⟨v,y0⟩:=Yh h2;have e3:(H.map λ(x:Nat×Operand)=>(x.1,ρ x.2)).toList=H.toList.map λ p=>(p.1,ρ p.2):=by simp
  have O:∀F:Array Value,∃us:List Value,Instr.fill (λ i=>some (i*sz,sz)) ((Array.range (xs.length*sz)).map λ i=>F[i% F.size]!) (H.map λ(x:Nat×Operand)=>(x.1,ρ x.2)).toList=some us.toArray/\Flat (RepK w W μ) sz us (pB xs):=λ F=>by obtain⟨us,U,M⟩:=P7 (w:=w) (W:=W) (μ:=μ) ρ sz H.toList 0 xs [] ((Array.range (xs.length*sz)).map λ i=>F[i% F.size]!).toList [] B Z hx hv ha (Flat.nil _ _) rfl (by simp);refine⟨us,?_,by simpa using M⟩;rw[lJ,lK]at U;rw[e3,<-U]
  by_cases V:xs.length*sz=0
  .obtain⟨us,U,M⟩:=O #[];refine⟨us,e,?_,M⟩;simp only[Instr.buildSlice,qc,run_underlying K,Oc,zD L];rw[bX om,cB V];simp only[qc,Qc,Oc,U];simp[newRow,newObj,Sem.run]
  .obtain⟨us,U,M⟩:=O v.cells;refine⟨us,e,?_,M⟩;simp only[Instr.buildSlice,qc,run_underlying K,Oc,zD L];rw[bX om,bX V];simp only[qc,Qc,y0,Oc,U];simp[newRow,newObj,Sem.run]
 .cases Y
def Mi:∀H:List A,(pB H).length=H.length
 |[]=>rfl
 |_::H=>by simp[pB,Mi H]
def Yi(F:SatW E s a w W μ){T:TypeId}{H:Array (Nat×Operand)}{sz id n:Nat}{z:List A}{xs:List A}(ho:o.op=.buildSlice T n H)(L:n=xs.length)(V:bsTy P T sz z=true)(Y:p7 0 H.toList=true)(Z:H.toList.length=xs.length)(O:xs.length*sz<=16777216)
  (hx:∀(i:Nat) (p:Nat×Operand) (x:A),H.toList[i]? =some p->xs[i]? =some x->Rep w W μ (a.eval p.2) x) (M:s.mem id=.fresh) (U:0<sz) (hv:allV xs=true) (ha:pF sz (pB xs)):
  mN P o a w W μ s.mem (.own id 0 xs.length) (setM s.mem [(id,.row ⟨false,sz,z,pB xs⟩)]):=by
 subst L;obtain⟨us,e,B,K⟩:=P8 (w:=w) (W:=W) (μ:=μ) V Y Z O hx hv ha;have h0:=Step.new (w':=w.alloc (.cells us.toArray e)) F.mem F.inj F.wlt M (r:=⟨false,sz,z,pB xs⟩) (us:=us) (rest:=[]) (e:=e) U (AN _ _) K (by simpa using heap_alloc_new w _);refine⟨_,.slice (some ⟨w.heap.size,0,none⟩) xs.length xs.length,_,_,_,?_,.inl rfl,?_,h0⟩
 .simp only[execOp,ho,qc,B,Oc,Qc]
 .have hk:us.length=xs.length*sz:=by rw[K.hl,Mi]
  by_cases hb:xs.length<=maxLen
  .have:=AP (w:=w.alloc (.cells us.toArray e)) (W:=λ b=>W b\/b=w.heap.size) (μ:=λ x=>if x=id then Loc.at_ ⟨w.heap.size,sz,us.length+([]:List Value).length⟩else μ x) (x:=id) (lo:=0) (n:=xs.length) (cap:=xs.length)
    (k:=⟨w.heap.size,sz,us.length+([]:List Value).length⟩) (by simp) (by simp[hk]) (dG _) om
   simpa using this
  .exfalso;have:xs.length<=xs.length*sz:=Nat.le_mul_of_pos_right _ U;simp only[maxLen]at hb;omega
def Yj(F:SatW E s a w W μ){T:TypeId}{H:Array (Nat×Operand)}{sz n:Nat}{z:List A}{xs:List A}(ho:o.op=.buildSlice T n H)(Z:n=xs.length)(hT:bsTy P T sz z=true)(Y:p7 0 H.toList=true)(hl:H.toList.length=xs.length)(O:xs.length*sz<=16777216)
  (hx:∀(i:Nat) (p:Nat×Operand) (x:A),H.toList[i]? =some p->xs[i]? =some x->Rep w W μ (a.eval p.2) x) (hv:allV xs=true) (ha:pF sz (pB xs)) (U:tX (pB xs)):
  mN P o a w W μ s.mem (.full (pB xs)) s.mem:=by
 subst Z;obtain⟨us,e,B,M⟩:=P8 (w:=w) (W:=W) (μ:=μ) hT Y hl O hx hv ha;have L:=AN w (.cells us.toArray e);refine⟨_,.slice (some ⟨w.heap.size,0,none⟩) xs.length xs.length,_,W,μ,?_,.inl rfl,?_,Step.quiet L F.mem F.inj F.wlt⟩
 .simp only[execOp,ho,qc,B,Oc,Qc]
 .have h0:Flat (RepC (w.alloc (.cells us.toArray e)) W) sz us (pB xs):=by
   refine⟨M.hl,M.hs,λ i c j b V hb=>?_⟩;obtain⟨u,hu,hr⟩:=M.ha i c j b V hb;exact⟨u,hu,(hr.toC (U c (cV V) b (cV hb))).keep L (λ _ _ _ h=>h) (λ _ _ h=>h)⟩
  have K:=Mi xs;have:RepC (w.alloc (.cells us.toArray e)) W (.slice (some ⟨w.heap.size,0,none⟩) (pB xs).length (pB xs).length) (.sl (pB xs)):=
   RepC.mk_sl (λ h=>absurd (F.wlt _ h) (kR _)) (by simp) (dG _) h0 λ q u hq=>by
    rw[eC,World.cell?_alloc_new]
    simpa using hq
  rw[K]at this;exact qW (.full _ _ _ this)
def mkTy(P:Program)(T:TypeId)(sz H:Nat)(z:List A):Bool:=
 match P.underlying T with
 |some (.slice e)=>(match P.info? e with|some i=>i.size==sz&&i.bytes==H|none=>false)&&p5 P e z&&z.length==sz
 |_=>false
def P9{O:Array Value}{z:List A}(hz:Cs (RepK w W μ) O.toList z)(x0:0<z.length)(n c:Nat)(F:n<=c):
  ∃us U:List Value,((Array.range (c*z.length)).map λ i=>O[i% O.size]!)=(us++U).toArray/\us.length+U.length=c*z.length/\Flat (RepK w W μ) z.length us (List.replicate n z):=by
 have M:O.size=z.length:=by simpa using hz.1
 obtain⟨L,V⟩:∃L,L=((Array.range (c*z.length)).map λ i=>O[i% O.size]!).toList:=⟨_,rfl⟩;have K:L.length=c*z.length:=by simp[V]
 have h0:=dU z.length F;refine⟨L.take (n*z.length),L.drop (n*z.length),by rw[eO,V,lK],by rw[<-cA,eO,K],?_⟩;refine⟨by rw[dE,K,gU h0,iA],λ i c' H=>?_,λ i c' j b H hb=>?_⟩
 .rw[jJ]at H;split at H<;>simp_all
 .rw[jJ]at H;split at H
  .rename_i hi;cases H;have hj:j<z.length:=(cK.1 hb).1;have Z:i*z.length+j<n*z.length:=by
    have:(i+1)*z.length<=n*z.length:=dU _ hi;rw[eD]at this;omega
   have Y:j<O.size:=om
   refine⟨O[j],?_,hz.2 j _ b (by simp[Y]) hb⟩;rw[eA,cB Z,V];have:(i*z.length+j)% O.size=j:=by rw[M,kX,Nat.mul_add_mod,Nat.mod_eq_of_lt hj]
   have B:i*z.length+j<c*z.length:=om
   simp[B,this,Y]
  .cases H
def y_mk(L:SatW E s a w W μ){T:TypeId}{x y:Operand}{sz H id:Nat}{z:List A}{k k2:IntKind}{l c:Int}(ho:o.op=.makeSlice T x y)(F:mkTy P T sz H z=true)(hx:Rep w W μ (a.eval x) (.int k l))(hy:Rep w W μ (a.eval y) (.int k2 c))(x0:s.mem id=.fresh)
  (U:0<sz) (e0:0<=l) (f0:l<=c) (g0:c*H<=140737488355328) (y0:c<=maxLen):
  mN P o a w W μ s.mem (.own id 0 l.toNat) (setM s.mem [(id,.row ⟨false,sz,z,List.replicate l.toNat z⟩)]):=by
 unfold mkTy at F;split at F
 .rename_i e hu;simp only[bY,dN]at F;obtain⟨⟨O,V⟩,h3⟩:=F;subst h3;split at O
  .rename_i i hi;simp only[bY,dN]at O;obtain⟨O,z0⟩:=O;obtain⟨v,u0,_,v0,p0⟩:=IA V;have q0:Cs (RepK w W μ) v.cells.toList z:=⟨v0,λ q u b O V=>nN (p0 w W q u b O V)⟩;obtain⟨us,rest,Y,K,hf⟩:=P9 q0 U l.toNat c.toNat om;have r0:=Step.new (w':=w.alloc (.cells (us++rest).toArray e)) L.mem L.inj L.wlt x0 (r:=⟨false,z.length,z,List.replicate l.toNat z⟩) (us:=us) (rest:=rest) (e:=e) U (AN _ _) hf (by simpa using heap_alloc_new w _);refine⟨_,.slice (some ⟨w.heap.size,0,none⟩) l.toNat c.toNat,_,_,_,?_,.inl rfl,?_,r0⟩
   .have d0:c<=9223372036854775807:=by simp only[maxLen]at y0;omega
    have s0:IntKind.i64.wrap l=l:=IntWalk.i64_in _ om;have t0:IntKind.i64.wrap c=c:=IntWalk.i64_in _ om;have e1:¬c<0:=om
    have e2:¬281474976710656<(H:Int)*c:=by rw[Int.mul_comm];omega
    have e3:¬l<0:=om
    have e4:¬c<l:=om
    have c0:∀b:Nat,(askRoom b).run P w=.ok () w:=λ b=>by unfold askRoom;split<;>simp[mark,Sem.run]
    simp only[execOp,ho,hx.int,hy.int,Instr.makeSlice,qc,run_underlying hu,Oc,asInt,asIntOf,Qc,typeInfo,run_program,hi,s0,t0,z0];simp only[e1,e2,e3,e4,c0,Int.reducePow,gt_iff_lt,cP,bZ,cI,Qc,Oc,qc,vZ hi,fG,Sem.run_ite];have M:∀B:Array Value,B=(us++rest).toArray->(newRow e B).run P w=.ok ⟨w.heap.size,0,none⟩ (w.alloc (.cells (us++rest).toArray e)):=λ B h=>by subst h;simp[newRow,newObj,Sem.run]
    by_cases Z:c.toNat*i.size=0
    .rw[cB Z,M _ (by rw[<-Y,<-O,Z];simp)];rfl
    .rw[bX Z];simp only[u0,Oc];rw[M _ (by rw[O];exact Y)];rfl
   .have:=AP (w:=w.alloc (.cells (us++rest).toArray e)) (W:=λ b=>W b\/b=w.heap.size) (μ:=λ x=>if x=id then Loc.at_ ⟨w.heap.size,z.length,us.length+rest.length⟩else μ x) (x:=id) (lo:=0) (n:=l.toNat) (cap:=c.toNat)
     (k:=⟨w.heap.size,z.length,us.length+rest.length⟩) (by simp) (by simp[K]) om om
    simpa using this
  .cases O
 .cases F
def Yk{id:Nat}(hs:SatW E s a w W μ){x y:Operand}{T U:TypeId}{sz:Nat}{ax ay:A}{ef:Ef}(ho:o.op=.call {callee:=.builtin .copy,args:=#[x,y],argTypes:=#[T,U]})(hT:CS P T sz=true)
  (hx:Rep w W μ (a.eval x) ax) (hy:Rep w W μ (a.eval y) ay) (V:ev id s.mem (.copy sz) [ax,ay]=some ef) (p0:ef.obl):mN P o a w W μ s.mem ef.v (setM s.mem ef.mw):=by
 obtain⟨e,hu,hz⟩:=PZ hT;have q0:∀n w' μ' m',(Builtin.copy_ #[T,U] o.type #[a.eval x,a.eval y]).run P w=.ok (goInt n) w'->Step s.mem m' w w' W W μ μ'->mN P o a w W μ s.mem (.int .i64 n) m':=λ n w' μ' m' h1 h3=>
  ⟨.value (goInt n),goInt n,w',W,μ',by simp[execOp,ho,resolve,invoke,builtin,h1],.inl rfl,qW (.int _ _),h3⟩
 simp only[ev]at V;cases hel:sL s.mem ay with
 |none=>simp[hel]at V
 |some new=>
  simp only[hel,qm]at V;split at V
  .rename_i y0 lo n;split at V
   .rename_i r hr;cases V;obtain⟨x0,Y,z1,f0,r0⟩:=p0;obtain⟨O,s0,hf⟩:=FE (P:=P) hs hy hel f0 r0;obtain⟨h1,h2⟩:=s0 w rfl;have h3:=h2 (Nat.min new.length n) (Nat.min_le_left _ _);have u1:((Nat.min new.length n:Nat):Int)=Nat.min new.length n:=rfl;have g0:new.take n=new.take (Nat.min new.length n):=by
     rw[show Nat.min new.length n=min new.length n from rfl];rcases Nat.le_total new.length n with h|h
     .rw[gU h,eJ h,eV]
     .rw[jT h]
    rcases hs.own hx hr with⟨l0,ad,hv⟩|⟨k,p1,h5,h6,h7,h8,h9,t0⟩
    .subst l0;have K:Nat.min new.length 0=0:=by simp
     rw[K]at h3⊢;have B:(Builtin.copy_ #[T,U] o.type #[a.eval x,a.eval y]).run P w=.ok (goInt 0) w:=by rw[hv];cases ad<;>simp[Builtin.copy_,run_underlying hu,h1,zD hz,h3,storeCells]
     have m0:r.es.take lo++new.take 0++r.es.drop (lo+0)=r.es:=by simp
     refine q0 0 w μ _ B ?_;rw[m0,<-Y,<-x0];have:setM s.mem [(y0,MS.row ⟨r.ro,r.sz,r.z,r.es⟩)]=s.mem:=by
      funext q;simp only[setM];split
      .rename_i hq;rw[hq,hr]
      .rfl
     rw[x0]at this;rw[x0,this];exact hs.refl
    .obtain⟨_,z0,F,H,rest,e0,M,htot,L⟩:=t0;rw[Y]at z0 F L;rw[z0]at h6;generalize K:Nat.min new.length n=m at*;have q1:m<=n:=by rw[<-K];exact Nat.min_le_right _ _
     have n0:m<=new.length:=by rw[<-K];exact Nat.min_le_left _ _
     have h0:=hf.take m;have j0:(O.take (m*sz)).length=m*sz:=by rw[h0.hl];simp[gU n0]
     have o0:(lo+m)*sz<=H.length:=by rw[L.hl];exact dU _ om
     have c0:∀u∈O.take (m*sz),u.oneCell'=true:=λ u b0=>by
      obtain⟨q,hq⟩:=iW b0;have d0:=(cK.1 hq).1;have a0:q/sz<(new.take m).length:=by rw[h0.hl]at d0;exact(hZ F).2 d0
      have hc:=cE a0;have x1:=h0.hs _ _ hc;have hj:q% sz<((new.take m)[q/sz]).length:=by rw[x1];exact kW _ F
      obtain⟨u',u0,y1⟩:=h0.ha _ _ _ _ hc (cE hj);rw[jR]at u0;rw[hq]at u0;cases u0;exact y1.oneCell
     rw[eD]at o0;have v0:=run_storeCells_at P k.b (lo*sz) e0 (O.take (m*sz)) 0 (H++rest).toArray w M (by simp only[iG,cA];omega) c0;simp only[Nat.add_zero]at v0;have e1:(H++rest).take (lo*sz)=H.take (lo*sz):=eY om;have e2:(H++rest).drop (lo*sz+(O.take (m*sz)).length)=H.drop ((lo+m)*sz)++rest:=by rw[j0,<-eD];exact fW (by rw[eD];omega)
     rw[e1,e2,<-cG]at v0;have Z:Flat (RepK w W μ) sz (H.take (lo*sz)++O.take (m*sz)++H.drop ((lo+m)*sz)) (r.es.take lo++new.take n++r.es.drop (lo+m)):=by rw[g0];exact((L.take lo).append h0).append (L.drop (lo+m))
     have B:(Builtin.copy_ #[T,U] o.type #[a.eval x,a.eval y]).run P w=.ok (goInt m) (w.setRow k.b ((H.take (lo*sz)++O.take (m*sz)++H.drop ((lo+m)*sz))++rest).toArray):=by rw[h6];simp[Builtin.copy_,run_underlying hu,h1,K,zD hz,h3,v0]
     refine q0 m _ μ _ B ?_;exact Step.write (rest:=rest) hs.mem hs.inj hs.wlt h5 hr x0 (r':=⟨false,sz,r.z,r.es.take lo++new.take n++r.es.drop (lo+m)⟩) Y.symm (IB _ _ _) Z (setRow_heap w k.b _ _ e0 _ M) (by
      have hmeq:min n new.length=m:=by rw[<-K];exact Nat.min_comm _ _
      have:(r.es.take lo++new.take n++r.es.drop (lo+m)).length=r.es.length:=by rw[cA,cA,dE,dE,dC,hmeq,gU om];omega
      rw[Z.hl,<-htot,L.hl,this])
   .cases V
  .cases V
def Mj(P:Program)(T:TypeId)(sz:Nat)(z:List A):Bool:=
 match P.underlying T with
 |some (.slice e)=>p5 P e z&&z.length==sz
 |_=>false
def Yl{id:Nat}(V:SatW E s a w W μ){x:Operand}{T:TypeId}{sz:Nat}{z:List A}{ax:A}{ef:Ef}(ho:o.op=.call {callee:=.builtin .clear,args:=#[x],argTypes:=#[T]})(hT:Mj P T sz z=true)
  (hx:Rep w W μ (a.eval x) ax) (Z:ev id s.mem (.clear sz z) [ax]=some ef) (s0:ef.obl):mN P o a w W μ s.mem ef.v (setM s.mem ef.mw):=by
 unfold Mj at hT;split at hT
 .rename_i e hu;simp only[bY,dN]at hT;obtain⟨h2,h3⟩:=hT;subst h3;obtain⟨v,l0,_,t0,m0⟩:=IA h2;have c0:∀w' μ' m',(Builtin.clear_ #[T] o.type #[a.eval x]).run P w=.ok (.tuple #[]) w'->Step s.mem m' w w' W W μ μ'->mN P o a w W μ s.mem .any m':=λ w' μ' m' h1 h3=>
   ⟨.value (.tuple #[]),.tuple #[],w',W,μ',by simp[execOp,ho,resolve,invoke,builtin,h1],.inl rfl,trivial,h3⟩
  simp only[ev]at Z;split at Z
  .rename_i y0 lo n;split at Z
   .rename_i r hr;cases Z;obtain⟨h0,Y,n0⟩:=s0
    by_cases hn:n=0
    .have B:(Builtin.clear_ #[T] o.type #[a.eval x]).run P w=.ok (.tuple #[]) w:=by
      rcases V.own hx hr with⟨d0,ad,hv⟩|⟨k,j0,h5,h6,h7,h8,h9,x0⟩
      .rw[hv];cases ad<;>simp[Builtin.clear_,run_underlying hu]
      .rw[h6,hn];simp[Builtin.clear_,run_underlying hu]
     have o0:r.es.take lo++List.replicate n z++r.es.drop (lo+n)=r.es:=by simp[hn]
     refine c0 w μ _ B ?_;rw[o0,<-Y,<-h0];have:setM s.mem [(y0,MS.row ⟨r.ro,r.sz,r.z,r.es⟩)]=s.mem:=by
      funext q;simp only[setM];split
      .rename_i hq;rw[hq,hr]
      .rfl
     rw[h0]at this;rw[h0,this];exact V.refl
    rcases V.own hx hr with⟨d0,ad,hv⟩|⟨k,j0,h5,h6,h7,h8,h9,x0⟩
    .exact absurd d0 hn
    .obtain⟨_,z0,U,O,rest,e0,F,htot,K⟩:=x0;rw[Y]at z0 U K;rw[z0]at h6;have b0:Cs (RepK w W μ) v.cells.toList z:=⟨t0,λ q u b h1 h2=>nN (m0 w W q u b h1 h2)⟩;obtain⟨H,p0,u0,a0,M⟩:=P9 b0 U n n (dG _);have x1:H.length=n*z.length:=by rw[M.hl,iA]
     have y1:p0=[]:=gS.1 om;subst y1;have z1:(lo+n)*z.length<=O.length:=by rw[K.hl];exact dU _ n0
     have f0:∀u∈H,u.oneCell'=true:=λ u u1=>by
      obtain⟨q,hq⟩:=iW u1;have g0:=(cK.1 hq).1;have p1:q/z.length<(List.replicate n z).length:=by rw[M.hl]at g0;exact(hZ U).2 g0
      have hc:=cE p1;have q1:=M.hs _ _ hc;have hj:q% z.length<((List.replicate n z)[q/z.length]).length:=by rw[q1];exact kW _ U
      obtain⟨u',q0,r1⟩:=M.ha _ _ _ _ hc (cE hj);rw[jR]at q0;rw[hq]at q0;cases q0;exact r1.oneCell
     rw[eD]at z1;have r0:=run_storeCells_at P k.b (lo*z.length) e0 H 0 (O++rest).toArray w F (by simp only[iG,cA];omega) f0;simp only[Nat.add_zero]at r0;have e1:(O++rest).take (lo*z.length)=O.take (lo*z.length):=eY om;have e2:(O++rest).drop (lo*z.length+H.length)=O.drop ((lo+n)*z.length)++rest:=by rw[x1,<-eD];exact fW (by rw[eD];omega)
     rw[e1,e2,<-cG]at r0;have L:Flat (RepK w W μ) z.length (O.take (lo*z.length)++H++O.drop ((lo+n)*z.length)) (r.es.take lo++List.replicate n z++r.es.drop (lo+n)):=
      ((K.take lo).append M).append (K.drop (lo+n))
     have s1:Builtin.zeroCells v.cells n=H.toArray:=by
      have v0:v.cells.size=z.length:=by simpa using t0
      rw[Builtin.zeroCells,v0];rw[v0]at u0;rw[u0,eE]
     have B:(Builtin.clear_ #[T] o.type #[a.eval x]).run P w=.ok (.tuple #[]) (w.setRow k.b ((O.take (lo*z.length)++H++O.drop ((lo+n)*z.length))++rest).toArray):=by rw[h6];simp[Builtin.clear_,run_underlying hu,hn,l0,s1,r0]
     refine c0 _ μ _ B ?_;exact Step.write (rest:=rest) V.mem V.inj V.wlt h5 hr h0 (r':=⟨false,z.length,r.z,r.es.take lo++List.replicate n z++r.es.drop (lo+n)⟩) Y.symm (IB _ _ _) L (setRow_heap w k.b _ _ e0 _ F) (by
      have:(r.es.take lo++List.replicate n z++r.es.drop (lo+n)).length=r.es.length:=by rw[cA,cA,dE,iA,dC,gU om];omega
      rw[L.hl,<-htot,K.hl,this])
   .cases Z
  .cases Z
 .cases hT
end
def CV(f:TypeId->Option (List LK))(P:Program):Nat->List Field->Option (List LK)
 |_,[]=>some []
 |off,g::gs=>if g.offset==off&&g.name != "_" then
   match f g.type with
   |some H=>if szIs P g.type H.length&&!H.isEmpty then(match CV f P (off+H.length) gs with|some r=>some (H++r)|none=>none)else none
   |none=>none
  else none
def sW(P:Program):Nat->TypeId->Option (List LK)
 |0,_=>none
 |d+1,T=>match P.underlying T with
  |some .bool=>some [.b]
  |some (.int k)=>some [.i k]
  |some .string=>some [.s]
  |some (.struct fs)=>if P.stoodInHeld T then none else CV (sW P d) P 0 fs.toList
  |_=>none
section
variable {P:Program} {o:Oper} {a:Act} {E:Env} {s:S} {w:World} {W:Nat→Prop} {μ:Nat→Loc}
def rV(P:Program)(T:TypeId)(us:List Value):Value:=match P.underlying T with
 |some d=>if aggD d then .agg us.toArray else us.headD undef
 |none=>undef
def p8:∀{H:List LK} {O:List A},mU H O=true->O.length=H.length
 |[],[],_=>rfl
 |k::H,c::O,h=>by simp only[mU,bY]at h;simp[p8 h.2]
 |[],_::_,h=>by simp[mU]at h
 |_::_,[],h=>by simp[mU]at h
def Qa:∀{as H O ds:List A},as.length=H.length->eqA (as++O) (H++ds)=(eqA as H&&eqA O ds)
 |[],[],O,ds,_=>by simp[eqA]
 |a::as,b::H,O,ds,h=>by simp only[Jm,eqA];rw[Qa (by simpa using h),hJ]
 |[],_::_,_,_,h=>by simp at h
 |_::_,[],_,_,h=>by simp at h
def Ml:∀{H O:List LK} {U:List A},mU (H++O) U=true->mU H (U.take H.length)=true/\mU O (U.drop H.length)=true
 |[],O,U,h=>by simpa [mU]using h
 |k::H,O,c::U,h=>by simp only[Jm,mU,bY]at h;have:=Ml h.2;simp[mU,h.1,this.1,this.2]
 |k::H,O,[],h=>by simp[mU]at h
def Cs.take{R:Value->A->Prop}{us:List Value}{O:List A}(h:Cs R us O)(n:Nat):Cs R (us.take n) (O.take n):=
 ⟨by simp[h.1],λ i u b H hb=>by
  rw[eA]at H hb;split at H
  .rename_i K;rw[cB K]at hb;exact h.2 i u b H hb
  .cases H⟩
def Cs.drop{R:Value->A->Prop}{us:List Value}{H:List A}(h:Cs R us H)(n:Nat):Cs R (us.drop n) (H.drop n):=
 ⟨by simp[h.1],λ i u b O hb=>by
  rw[eG]at O hb;exact h.2 _ u b O hb⟩
def Mm{d:Nat}{T:TypeId}{O:List LK}(h:sW P d T=some O):∃t,P.underlying T=some t/\(aggD t=false->O.length=1):=by
 cases d with
 |zero=>simp[sW]at h
 |succ d=>
  unfold sW at h;split at h
  .rename_i H;cases h;exact⟨_,H,λ _=>rfl⟩
  .rename_i k H;cases h;exact⟨_,H,λ _=>rfl⟩
  .rename_i H;cases h;exact⟨_,H,λ _=>rfl⟩
  .rename_i U H;exact⟨_,H,λ h=>by simp[aggD]at h⟩
  .cases h
def Mn{T:TypeId}{t:TypeDesc}{n off:Nat}(H:P.underlying T=some t)(U:szIs P T n=true)(Y:aggD t=false->n=1)(us:List Value)(O:off+n<=us.length):
  (part T us.toArray off).run P w=.ok (rV P T ((us.drop off).take n)) w:=by
 unfold rV;simp only[H];cases L:aggD t with
 |true=>simp[part,o9 H,L,zD U]
 |false=>
  have:=Y L;subst this;have K:off<us.length:=om
  simp[part,o9 H,L,L9 K,K]
def Qb(d:Nat):∀(T:TypeId) (ks:List LK),sW P d T=some ks->∀(D:Nat),d<=D->∀(us vs:List Value) (U ds:List A),mU ks U=true->mU ks ds=true->Cs (RepK w W μ) us U->Cs (RepK w W μ) vs ds->
  (Op.equalIn D T (rV P T us) (rV P T vs)).run P w=.ok (eqA U ds) w:=by
 induction d with
 |zero=>intro T ks h;simp[sW]at h
 |succ d ih=>
  intro T ks h D hD us vs U ds hc hd hu hv;obtain⟨D',rfl⟩:∃D',D=D'+1:=⟨D-1,by omega⟩;have x0:∀(k:LK),ks=[k]->∃c e u v,U=[c]/\ds=[e]/\us=[u]/\vs=[v]/\k.fits c=true/\k.fits e=true/\RepK w W μ u c/\RepK w W μ v e:=λ k hk=>by
   subst hk;have K:=p8 hc;have L:=p8 hd;have l3:=hu.1;have l4:=hv.1
   match U,ds,us,vs,K,L,l3,l4 with
   |[c],[e],[u],[v],_,_,_,_=>simp only[mU,fI]at hc hd;exact⟨c,e,u,v,rfl,rfl,rfl,rfl,hc,hd,hu.2 0 u c rfl rfl,hv.2 0 v e rfl rfl⟩
  unfold sW at h;split at h
  .rename_i Y;cases h;obtain⟨c,e,u,v,rfl,rfl,rfl,rfl,H,B,M,V⟩:=x0 _ rfl;cases c<;>simp[LK.fits]at H;cases e<;>simp[LK.fits]at B;have Z:=Rep.bool (nG (nL M));have e2:=Rep.bool (nG (nL V));subst Z;subst e2;simp only[rV,Y,aggD,bZ,cI,List.headD_cons,run_equalIn_bool' w D' T _ _ Y,eqA,eq1,fI]
  .rename_i k Y;cases h;obtain⟨c,e,u,v,rfl,rfl,rfl,rfl,H,B,M,V⟩:=x0 _ rfl;cases c<;>simp[LK.fits]at H;cases e<;>simp[LK.fits]at B;have Z:=Rep.int (nG (nL M));have e2:=Rep.int (nG (nL V));subst Z;subst e2;subst H;subst B;simp only[rV,Y,aggD,bZ,cI,List.headD_cons,run_equalIn_int w D' T _ _ _ _ Y,eqA,eq1,fI]
  .rename_i Y;cases h;obtain⟨c,e,u,v,rfl,rfl,rfl,rfl,H,B,M,V⟩:=x0 _ rfl;cases c<;>simp[LK.fits]at H;cases e<;>simp[LK.fits]at B;have Z:=Rep.str (nG (nL M));have e2:=Rep.str (nG (nL V));subst Z;subst e2;simp only[rV,Y,aggD,bZ,cI,List.headD_cons,run_equalIn_string w D' T _ _ Y,eqA,eq1,fI]
  .rename_i fs Y;split at h
   .cases h
   .rename_i v0;have y0:P.fieldsOf T=fs:=by simp[Program.fieldsOf,Y]
    simp only[rV,Y,aggD,cH];rw[run_equalIn_agg w D' T us.toArray vs.toArray (by rw[y0];exact Y) (by simpa using v0),y0];have p0:∀(gs:List Field) (off:Nat) (kk:List LK),CV (sW P d) P off gs=some kk->mU kk (U.drop off)=true->mU kk (ds.drop off)=true->
      (Op.eqFields D' us.toArray vs.toArray gs).run P w=.ok (eqA (U.drop off) (ds.drop off)) w:=by
     intro gs;induction gs with
     |nil=>intro off kk H B M;simp only[CV,cJ]at H;subst H;have K:=p8 B;have L:=p8 M;rw[dB K,dB L];rfl
     |cons g gs q0=>
      intro off kk H B M;unfold CV at H;split at H
      .rename_i hg;simp only[bY,dN,bne_iff_ne]at hg;obtain⟨r0,s0⟩:=hg;split at H
       .rename_i O z0;split at H
        .rename_i F;split at H
         .rename_i r hr;cases H;obtain⟨a1,a2⟩:=Ml B;obtain⟨b1,b2⟩:=Ml M;obtain⟨t,ht,u0⟩:=Mm z0;have K:=p8 B;have L:=p8 M;simp only[dC,cA]at K L;simp only[bY,dA,kF]at F;obtain⟨F,t0⟩:=F;have c0:0<O.length:=gW.2 t0;have l3:=hu.1;have l4:=hv.1;have p1:=Mn (w:=w) ht F u0 us (off:=off) om;have p2:=Mn (w:=w) ht F u0 vs (off:=off) om;have q:=ih g.type O z0 D' om _ _ _ _ a1 b1 ((hu.drop off).take _) ((hv.drop off).take _);rw[fB]at a2 b2;have r2:=q0 (off+O.length) r hr a2 b2;have h0:eqA (U.drop off) (ds.drop off)=(eqA ((U.drop off).take O.length) ((ds.drop off).take O.length)&&eqA (U.drop (off+O.length)) (ds.drop (off+O.length))):=by
           rw[<-fB,<-fB,<-Qa (by simp;omega),eO,eO]
          rw[h0];simp only[Op.eqFields,ne_eq,s0,iH,cH,r0,qc,p1,p2,Oc,q];cases eqA ((U.drop off).take O.length) ((ds.drop off).take O.length)with
          |true=>simpa using r2
          |false=>simp
         .cases H
        .cases H
       .cases H
      .cases H
    exact p0 fs.toList 0 ks h (by simpa using hc) (by simpa using hd)
  .cases h
def Yn(V:SatW E s a w W μ){x y:Operand}{T T2:TypeId}{H:Bool}{ks:List LK}{O ds:List A}(ho:o.op=.binOp (if H then .neq else .eql) T x y T2)(L:sW P 20 T=some ks)(Y:(match P.underlying T with|some d=>aggD d|none=>false)=true)
  (hg:P.eqGuardType P.depth T=false) (Z:Rep w W μ (a.eval x) (.agg O)) (hy:Rep w W μ (a.eval y) (.agg ds)) (hc:mU ks O=true) (hd:mU ks ds=true):
  mN P o a w W μ s.mem (.bool (if H then !eqA O ds else eqA O ds)) s.mem:=by
 obtain⟨us,B,h0,x0⟩:RepV w W μ (a.eval x) (.agg O):=Z;obtain⟨vs,F,y0,K⟩:RepV w W μ (a.eval y) (.agg ds):=hy;have h:=Qb (P:=P) (w:=w) (W:=W) (μ:=μ) 20 T ks L 10000 om us vs O ds hc hd ⟨h0,x0⟩ ⟨y0,K⟩;obtain⟨d,M,_⟩:=Mm L;rw[M]at Y;simp only[rV,M,show aggD d=true from Y,cH]at h;refine V.still (v:=.bool (if H then !eqA O ds else eqA O ds)) ?_ (qW (.bool _));cases H
 .have U:o.op=.binOp .eql T x y T2:=ho;simp only[execOp,U,B,F,qc,run_eqGuard_agg w .eql T x y us.toArray vs.toArray hg,Oc,run_eql_struct,h,bZ,cI,Qc]
 .have U:o.op=.binOp .neq T x y T2:=ho;simp only[execOp,U,B,F,qc,run_eqGuard_agg w .neq T x y us.toArray vs.toArray hg,Oc,run_neq_struct,h,cH,Qc]
def Yo(B:SatW E s a w W μ){f:FuncId}{H:Array Operand}{xs:List A}(ho:o.op=.makeFunc (.func f) #[] H)(K:H.toList.length=xs.length)(L:∀(i:Nat) (p:Operand) (x:A),H.toList[i]? =some p->xs[i]? =some x->Rep w W μ (a.eval p) x)
  (V:∀x∈xs,x.isK=true):mN P o a w W μ s.mem (.clo f xs) s.mem:=by
 refine B.still (v:=.func (.func f) #[] (H.map a.eval)) (by simp[execOp,ho,Instr.makeFunc]) (nG ?_);refine .inl ⟨(H.map a.eval).toList,by rw[lK],by simpa using K,λ i u b O hb=>?_⟩;simp only[Array.toList_map,cW,cO]at O;obtain⟨p,F,rfl⟩:=O;have U:=L i p b F hb;have Y:=V b (cV hb);cases b<;>first|exact U|(simp[A.isK]at Y;done)|skip
 rename_i M cs;cases cs with
 |nil=>exact(RepK.toC (show RepK w W μ _ (.clo M [])from U) rfl)
 |cons=>simp[A.isK]at Y
def Mo:∀{H:List A},o8 H=true->∀c∈H,c.pure1=true
 |d::ds,h,c,hc=>by
  simp only[o8,bY]at h;rcases cL.1 hc with rfl|hc
  .exact h.1
  .exact Mo h.2 c hc
def Yp(U:SatW E s a w W μ){f:FuncId}{x:Operand}{H:List A}(ho:o.op=.makeFunc (.func f) #[x] #[])(K:Rep w W μ (a.eval x) (.agg H))(Y:o8 H=true):mN P o a w W μ s.mem (.bnd f H) s.mem:=by obtain⟨us,B,L,F⟩:RepV w W μ (a.eval x) (.agg H):=K;refine U.still (v:=.func (.func f) #[a.eval x] #[]) (by simp[execOp,ho,Instr.makeFunc]) (qW ?_);rw[B];exact .bnd f us H L λ i u c M O=>(F i u c M O).toC (Mo Y c (cV O))
def Yq(O:SatW E s a w W μ){x i:Operand}{T:TypeId}{b:ByteArray}{k:IntKind}{q:Int}(ho:o.op=.index T x i)(U:P.underlying T=some .string)(L:Rep w W μ (a.eval x) (.str b))(hi:Rep w W μ (a.eval i) (.int k q))(Y:0<=q)(B:q<b.size):
  mN P o a w W μ s.mem (.int .u8 (b.toList.getD q.toNat 0).toNat) s.mem:=by
 refine O.still (v:=.int .u8 (b.toList.getD q.toNat 0).toNat) ?_ (qW (.int _ _));have K:q.toNat<b.size:=om
 have H:b.toList=b.data.toList:=ByteArray.toList_eq b;have hb:b[q.toNat]? =some (b.toList.getD q.toNat 0):=by rw[H];simp[getElem?_def,K];rfl
 simp[execOp,ho,L.str,hi.int,Instr.index,asIntOf,run_underlying U,Y,hb]
end
end Ab
end Go.Proofs.YtfmnjkfhahfhgaaGreatDoor
