import Derived.Test.YtamndckemppjdaaGreatDoorAb5
namespace Go.Proofs.YtamndckemppjdaaGreatDoor
namespace Ab
set_option linter.unusedSimpArgs false
set_option linter.unusedVariables false
section
variable {P:Program} {o:Oper} {a:Act} {E:Env} {s:S} {w:World} {W:Nat→Prop} {μ:Nat→Loc}
def szIs(P:Program)(e:TypeId)(sz:Nat):Bool:=match P.info? e with|some i=>i.size==sz|none=>false
theorem zae4{e:TypeId}{sz:Nat}(h:szIs P e sz=true)(w:World):(sizeOf e).run P w=.ok sz w:=by
 unfold szIs at h;split at h
 .rename_i i hi;simp at h;subst h;exact zH8 hi w
 .cases h
def zbJ2(P:Program)(T:TypeId)(n sz:Nat):Bool:=match P.underlying T with|some (.array m e)=>m==n&&szIs P e sz|_=>false
def zbo2(P:Program)(T:TypeId)(sz:Nat):Bool:=match P.underlying T with|some (.slice e)=>szIs P e sz|_=>false
theorem zbF1{T:TypeId}{n sz:Nat}(h:zbJ2 P T n sz=true):∃e,P.underlying T=some (.array n e)/\szIs P e sz=true:=by
 unfold zbJ2 at h;split at h
 .rename_i m e hu;simp at h;obtain⟨rfl,h⟩:=h;exact⟨e,hu,h⟩
 .cases h
theorem zbg1{T:TypeId}{sz:Nat}(h:zbo2 P T sz=true):∃e,P.underlying T=some (.slice e)/\szIs P e sz=true:=by
 unfold zbo2 at h;split at h
 .rename_i e hu;exact⟨e,hu,h⟩
 .cases h
theorem zcN6{id:Nat}(hs:SatW E s a w W μ){x i:Operand}{T:TypeId}{n sz:Nat}{ax ai:A}{ef:Ef}(ho:o.op=.indexAddr T x i)(hT:zbJ2 P T n sz=true)(hx:Rep w W μ (a.eval x) ax)(hi:Rep w W μ (a.eval i) ai)
  (he:ev id s.mem (.iaA n sz) [ax,ai]=some ef) (hobl:ef.obl):zq3 P o a w W μ s.mem ef.v s.mem:=by
 obtain⟨e,hu,hz⟩:=zbF1 hT;cases ai<;>try(simp only[ev]at he;cases he;done)
 rename_i k q;have fin:∀(b p:Nat),a.eval x=.pointer (some ⟨b,p,none⟩)->0<=q->q<n->Rep w W μ (.pointer (some ⟨b,p+q.toNat*sz,none⟩)) ef.v->zq3 P o a w W μ s.mem ef.v s.mem:=λ b p h1 h2 h3 h4=>
  hs.still (v:=.pointer (some ⟨b,p+q.toNat*sz,none⟩)) (by simp[execOp,ho,h1,hi.int,Instr.indexAt,asIntOf,run_underlying hu,Instr.sureAddr,h2,h3,zae4 hz,Addr.add_lit]) h4
 cases ax<;>simp only[ev]at he<;>try(cases he;done)
 .rename_i y i j;split at he
  .rename_i r hr;cases he;have hcl:zF8 q.toNat n=q.toNat:=by unfold zF8;rw[cQ (by have:=hobl.1;have:=hobl.2;omega)]
   simp only[hcl]at fin⊢;obtain⟨k',h3,hk,hrow⟩:=hs.ptr hx hr;exact fin _ _ hk hobl.1 hobl.2 (by rw[eT];exact zaM6 h3 hrow.pos i _)
  .cases he
 .rename_i cs p;cases he;have hcl:zF8 q.toNat n=q.toNat:=by unfold zF8;rw[cQ (by have:=hobl.1;have:=hobl.2;omega)]
  simp only[hcl]at fin⊢;obtain⟨b,q',hv,hb,hlt,hc⟩:RepK w W μ (a.eval x) (.rd cs p):=hx;exact fin _ _ hv hobl.1 hobl.2 (show RepK w W μ _ (.rd cs _)from⟨b,q',by rw[eT],hb,hlt,hc⟩)
theorem zcN7{id:Nat}(hs:SatW E s a w W μ){x i:Operand}{T:TypeId}{sz:Nat}{z:List A}{ax ai:A}{ef:Ef}(ho:o.op=.indexAddr T x i)(hT:zbo2 P T sz=true)(hx:Rep w W μ (a.eval x) ax)(hi:Rep w W μ (a.eval i) ai)
  (he:ev id s.mem (.iaS sz z) [ax,ai]=some ef) (hobl:ef.obl):zq3 P o a w W μ s.mem ef.v s.mem:=by
 obtain⟨e,hu,hz⟩:=zbg1 hT;cases ai<;>try(simp only[ev]at he;cases he;done)
 rename_i k q;have fin:∀(b p n c:Nat),a.eval x=.slice (some ⟨b,p,none⟩) n c->0<=q->q<n->Rep w W μ (.pointer (some ⟨b,p+q.toNat*sz,none⟩)) ef.v->zq3 P o a w W μ s.mem ef.v s.mem:=λ b p n c h1 h2 h3 h4=>
  hs.still (v:=.pointer (some ⟨b,p+q.toNat*sz,none⟩)) (by simp[execOp,ho,h1,hi.int,Instr.indexAt,asIntOf,run_underlying hu,h2,h3,zae4 hz,Addr.add_lit]) h4
 have plain:∀es,RepC w W (a.eval x) (.sl es)->(0<=q/\q<es.length/\(es.getD q.toNat z).length=sz)->ef.v=.rd (es.getD q.toNat z) 0->zq3 P o a w W μ s.mem ef.v s.mem:=λ es h1 h2 h3=>by
  obtain⟨h4,h5,h6⟩:=h2;rcases h1.open_sl with⟨rfl,_⟩|⟨b,off,cap,sz',us,hv,hb,hlt,hn,hcap,hf,hc⟩
  .simp at h5;omega
  .have hqn:q.toNat<es.length:=by omega
   have hce:es[q.toNat]? =some (es.getD q.toNat z):=by simp[hqn]
   have hsz:sz'=sz:=by rw[<-hf.hs _ _ hce,h6]
   subst hsz;refine fin b off _ _ hv h4 h5 ?_;rw[h3];refine(show RepK w W μ _ (.rd _ 0)from⟨b,off+q.toNat*sz',by simp,hb,hlt,λ j c hj=>?_⟩);obtain⟨u,hu',hr⟩:=hf.ha _ _ _ _ hce hj;exact⟨u,by rw[eT];exact hc _ _ hu',hr⟩
 cases ax<;>simp only[ev]at he<;>try(cases he;done)
 .rename_i es;cases he;exact plain es hx hobl rfl
 .rename_i es;cases he;exact plain es (RepC.of_full hx).1 hobl rfl
 .rename_i y lo n;split at he
  .rename_i r hr;cases he;obtain⟨h1,h2,h3⟩:=hobl;rcases hs.own hx hr with⟨rfl,_⟩|⟨k',cap,h4,h5,h6,h7,h8,hrow⟩
   .simp at h2;omega
   .have hsz:k'.sz=sz:=hrow.2.1.trans h3;refine fin _ _ _ _ h5 h1 h2 ?_;have:=zaM6 (w:=w) (W:=W) h4 hrow.pos (lo+q.toNat) 0;rw[Nat.add_zero,dK,hsz]at this;rw[hsz];exact this
  .cases he
theorem zay0{vs:List Value}{i:Nat}(h:i<vs.length):(vs.drop i).take 1=[vs[i]]:=by rw[gF h,List.take_succ_cons,List.take_zero]
theorem zco6{id:Nat}(hs:SatW E s a w W μ){x i:Operand}{T:TypeId}{n sz:Nat}{ag:Bool}{ax ai:A}{ef:Ef}(ho:o.op=.index T x i)(hT:(match P.underlying T with|some (.array m e)=>m==n&&tyOk P e ag sz|_=>false)=true)(hx:Rep w W μ (a.eval x) ax)(hi:Rep w W μ (a.eval i) ai)
  (he:ev id s.mem (.idxA n sz ag) [ax,ai]=some ef) (hobl:ef.obl):zq3 P o a w W μ s.mem ef.v s.mem:=by
 cases ax<;>cases ai<;>simp only[ev]at he<;>try(cases he;done)
 rename_i cs k q;cases he;obtain⟨h1,h2,h3⟩:=hobl;have hcl:zF8 q.toNat n=q.toNat:=by unfold zF8;rw[cQ (by omega)]
 simp only[hcl]
 clear hcl
 split at hT
 .rename_i m e hu;simp only[cF,cY]at hT;obtain⟨rfl,hT⟩:=hT;obtain⟨vs,hv,hl,hr⟩:RepV w W μ (a.eval x) (.agg cs):=hx;have hq:q.toNat<m:=by omega
  have hle:q.toNat*sz+sz<=cs.length:=by have:(q.toNat+1)*sz<=m*sz:=dC _ hq;rw[dK]at this;omega
  have hpart:(part e vs.toArray (q.toNat*sz)).run P w=.ok (if ag then .agg ((vs.drop (q.toNat*sz)).take sz).toArray else((vs.drop (q.toNat*sz)).take sz).headD undef) w:=by
   have hT':=hT;unfold tyOk at hT;simp only[cF]at hT;obtain⟨⟨h4,h5⟩,h6⟩:=hT;cases hu':P.underlying e with
   |none=>simp[hu']at h4
   |some d=>
    cases hi':P.info? e with
    |none=>simp[hi']at h5
    |some i'=>
     simp[hu']at h4;simp[hi']at h5;subst h5;cases ag with
     |true=>simp[part,zac6 hu',h4,zH8 hi']
     |false=>
      simp at h6;have hlt:q.toNat*i'.size<vs.length:=by omega
      simp only[part,Sem.run_bind,zac6 hu',h4,Result.andThen_ok,cG,cV];rw[h6]at hlt⊢;simp only[eP]at hlt⊢;have:=zay0 hlt;simp[this,hlt]
  refine hs.still (v:=if ag then .agg ((vs.drop (q.toNat*sz)).take sz).toArray else((vs.drop (q.toNat*sz)).take sz).headD undef) ?_
   (zaI8 (zbf9 hT) (by simp;omega) (zaD4 hle) λ i u b hi hb=>?_)
  .have hz:(sizeOf e).run P w=.ok sz w:=by
    unfold tyOk at hT;simp only[cF]at hT;cases hi':P.info? e with
    |none=>simp[hi']at hT
    |some i'=>simp[hi']at hT;rw[<-hT.1.2];exact zH8 hi' w
   simp[execOp,ho,hv,hi.int,Instr.index,asIntOf,run_underlying hu,h1,h2,hz,hpart]
  .rw[getElem?_sub]at hb;split at hb
   .rename_i hin;rw[dG,cQ hin,dO]at hi;exact hr _ u b hi hb
   .cases hb
 .cases hT
theorem zcd9{id:Nat}(hs:SatW E s a w W μ){x:Operand}{T:TypeId}{f off n:Nat}{ag:Bool}{ax:A}{ef:Ef}(ho:o.op=.field T x f)
  (hT:(match P.underlying T with|some (.struct fs)=>(match fs[f]? with|some g=>g.offset==off&&tyOk P g.type ag n|none=>false)|_=>false)=true) (hx:Rep w W μ (a.eval x) ax)
  (he:ev id s.mem (.field off n ag) [ax]=some ef) (hobl:ef.obl):zq3 P o a w W μ s.mem ef.v s.mem:=by
 cases ax<;>simp only[ev]at he<;>try(cases he;done)
 rename_i cs;cases he;have hle:off+n<=cs.length:=hobl;split at hT
 .rename_i fs hu;split at hT
  .rename_i g hg;simp only[cF,cY]at hT;obtain⟨rfl,hT⟩:=hT;obtain⟨vs,hv,hl,hr⟩:RepV w W μ (a.eval x) (.agg cs):=hx;have hpart:(part g.type vs.toArray g.offset).run P w=.ok (if ag then .agg ((vs.drop g.offset).take n).toArray else((vs.drop g.offset).take n).headD undef) w:=by
    have hT':=hT;unfold tyOk at hT;simp only[cF]at hT;obtain⟨⟨h4,h5⟩,h6⟩:=hT;cases hu':P.underlying g.type with
    |none=>simp[hu']at h4
    |some d=>
     cases hi':P.info? g.type with
     |none=>simp[hi']at h5
     |some i'=>
      simp[hu']at h4;simp[hi']at h5;subst h5;cases ag with
      |true=>simp[part,zac6 hu',h4,zH8 hi']
      |false=>
       simp at h6;have hlt:g.offset<vs.length:=by omega
       simp only[part,Sem.run_bind,zac6 hu',h4,Result.andThen_ok,cG,cV];rw[h6];have:=zay0 hlt;simp[this,hlt]
   refine hs.still (v:=if ag then .agg ((vs.drop g.offset).take n).toArray else((vs.drop g.offset).take n).headD undef) ?_
    (zaI8 (zbf9 hT) (by simp;omega) (zaD4 hle) λ i u b hi hb=>?_)
   .simp[execOp,ho,hv,Instr.field,run_underlying hu,hg,asAgg,hpart]
   .rw[getElem?_sub]at hb;split at hb
    .rename_i hin;rw[dG,cQ hin,dO]at hi;exact hr _ u b hi hb
    .cases hb
  .cases hT
 .cases hT
theorem zco7(hs:SatW E s a w W μ){x:Operand}{T T2:TypeId}{k k2:IntKind}{n:Int}(ho:o.op=.convert T T2 x)(hT:(∃d,P.underlying T=some d)/\P.underlying T2=some (.int k))(hx:Rep w W μ (a.eval x) (.int k2 n)):
  zq3 P o a w W μ s.mem (.int k (k.wrap n)) s.mem:=by
 obtain⟨⟨d,hd⟩,h2⟩:=hT;refine hs.still (v:=.int k (k.wrap n)) ?_ (zB5 (.int _ _));simp only[execOp,ho,hx.int,convert,Sem.run_bind,run_underlying hd,run_underlying h2,Result.andThen_ok];cases d<;>simp[Conv.intToInt]
theorem zcN8(hs:SatW E s a w W μ){x y:Operand}{ats:Array TypeId}{k:IntKind}{p q:Int}(ho:o.op=.call {callee:=.builtin .min,args:=#[x,y],argTypes:=ats})(hx:Rep w W μ (a.eval x) (.int k p))(hy:Rep w W μ (a.eval y) (.int k q)):
  zq3 P o a w W μ s.mem (.int k (if q<p then q else p)) s.mem:=by
 refine hs.still (v:=.int k (if q<p then q else p)) ?_ (zB5 (.int _ _));simp[execOp,ho,resolve,invoke,builtin,Builtin.min_,hx.int,hy.int,Builtin.min2]
theorem zcN9(hs:SatW E s a w W μ){x y:Operand}{ats:Array TypeId}{k:IntKind}{p q:Int}(ho:o.op=.call {callee:=.builtin .max,args:=#[x,y],argTypes:=ats})(hx:Rep w W μ (a.eval x) (.int k p))(hy:Rep w W μ (a.eval y) (.int k q)):
  zq3 P o a w W μ s.mem (.int k (if p<q then q else p)) s.mem:=by
 refine hs.still (v:=.int k (if p<q then q else p)) ?_ (zB5 (.int _ _));simp[execOp,ho,resolve,invoke,builtin,Builtin.max_,hx.int,hy.int,Builtin.max2]
theorem zce0{id:Nat}(hs:SatW E s a w W μ){x:Operand}{ax:A}{ef:Ef}(ho:o.op=.nilCheck x)(hx:Rep w W μ (a.eval x) ax)(he:ev id s.mem .nilck [ax]=some ef)(hobl:ef.obl):zq3 P o a w W μ s.mem ef.v s.mem:=by
 cases ax<;>simp only[ev]at he<;>try(cases he;done)
 .rename_i y i j;split at he
  .rename_i r hr;cases he;obtain⟨k,_,hk,_⟩:=hs.ptr hx hr;refine hs.still (v:=a.eval x) ?_ hx;simp[execOp,ho,hk]
  .cases he
 .rename_i cs off;cases he;have hx':=hx;obtain⟨b,q,hv,_⟩:RepK w W μ (a.eval x) (.rd cs off):=hx';refine hs.still (v:=a.eval x) ?_ hx;simp[execOp,ho,hv]
 .rename_i f cs;cases he;have hx':=hx;obtain⟨vs,hv,_⟩:=cloK (show RepV w W μ (a.eval x) (.clo f cs)from hx') hobl;refine hs.still (v:=a.eval x) ?_ hx;simp[execOp,ho,hv]
 .rename_i f cs;cases he;have hx':RepC w W (a.eval x) (.bnd f cs):=hx;obtain⟨us,hv,_⟩:=RepC.bnd_val hx';refine hs.still (v:=a.eval x) ?_ hx;simp[execOp,ho,hv]
theorem zcO0(hs:SatW E s a w W μ){x y:Operand}{T T2:TypeId}{neg p q:Bool}(ho:o.op=.binOp (if neg then .neq else .eql) T x y T2)(hT:P.underlying T=some .bool)(hx:Rep w W μ (a.eval x) (.bool p))(hy:Rep w W μ (a.eval y) (.bool q)):
  zq3 P o a w W μ s.mem (.bool (if neg then !decide (p=q)else decide (p=q))) s.mem:=by
 refine hs.still (v:=.bool (if neg then !decide (p=q)else decide (p=q))) ?_ (zB5 (.bool _));have h:=run_equalIn_bool' (P:=P) w 9999 T p q hT;cases neg
 .have ho':o.op=.binOp .eql T x y T2:=ho;simp[execOp,ho',hx.bool,hy.bool,eqGuard,binOp,Op.equal,Op.maxDepth,h];cases p<;>cases q<;>rfl
 .have ho':o.op=.binOp .neq T x y T2:=ho;simp[execOp,ho',hx.bool,hy.bool,eqGuard,binOp,Op.equal,Op.maxDepth,h];cases p<;>cases q<;>rfl
end
section
variable {P:Program} {o:Oper} {a:Act} {E:Env} {s:S} {w:World} {W:Nat→Prop} {μ:Nat→Loc}
theorem zI9(isS:Bool)(len cap l h m:Nat)(lo hi mx:Option Value)(hm:mx=none/\m=cap\/∃k,mx=some (.int k m)/\hi≠none/\m<=cap)(hh:hi=none/\h=len\/∃k,hi=some (.int k h)/\h<=m)
  (hl:lo=none/\l=0\/∃k,lo=some (.int k l)/\l<=h):(Instr.sliceBounds isS len cap lo hi mx).run P w=.ok (l,h,m) w:=by
 rcases hm with⟨rfl,rfl⟩|⟨km,rfl,hhi,hmc⟩
 .rcases hh with⟨rfl,rfl⟩|⟨kh,rfl,hle⟩<;>rcases hl with⟨rfl,rfl⟩|⟨kl,rfl,hll⟩<;>simp[Instr.sliceBounds,Instr.sliceBound,asIntOf, *]
 .rcases hh with⟨rfl,rfl⟩|⟨kh,rfl,hle⟩
  .exact absurd rfl hhi
  .rcases hl with⟨rfl,rfl⟩|⟨kl,rfl,hll⟩<;>simp[Instr.sliceBounds,Instr.sliceBound,asIntOf, *]
structure Bds (lo hi mx:Option Value) (l h m:Option Int):Prop where
 l:lo=none/\l=none\/∃k n,lo=some (.int k n)/\l=some n
 h:hi=none/\h=none\/∃k n,hi=some (.int k n)/\h=some n
 m:mx=none/\m=none\/∃k n,mx=some (.int k n)/\m=some n
def zbg2(P:Program)(T:TypeId)(sz:Nat):Bool:=match P.underlying T with|some (.slice e)=>szIs P e sz|some .string=>true|_=>false
theorem zI2{T e:TypeId}{sz:Nat}(hu:P.underlying T=some (.slice e))(hz:szIs P e sz=true)(ad:Option Addr)(n c l h m:Nat)(lo hi mx:Option Value)
  (hb:(Instr.sliceBounds true n c lo hi mx).run P w=.ok (l,h,m) w):
  (Instr.sliceAt T (.slice ad n c) lo hi mx).run P w=.ok (.slice (if m=l then ad else ad.map (·.add (l*sz))) (h-l) (m-l)) w:=by
 simp[Instr.sliceAt,Instr.slice,run_underlying hu,hb,zae4 hz]
theorem zaQ3{T:TypeId}(hu:P.underlying T=some .string)(b:ByteArray)(l h m:Nat)(lo hi:Option Value)
  (hb:(Instr.sliceBounds false b.size b.size lo hi none).run P w=.ok (l,h,m) w):
  (Instr.sliceAt T (.string b) lo hi none).run P w=.ok (.string (b.extract l h)) w:=by
 simp[Instr.sliceAt,Instr.slice,run_underlying hu,hb]
theorem zce1{b off cap sz l h:Nat}{es:List (List A)}{us:List Value}{c:Nat}(hb:¬W b)(hlt:b<w.heap.size)(hle:l<=h)(hh:h<=es.length)(hc1:h<=c)(hf:Flat (RepC w W) sz us es)
  (hc:∀(q:Nat) (u:Value),us[q]? =some u->w.cell? ⟨b,off+q,none⟩=some u) (_hcap:es.length<=cap):
  RepC w W (.slice (if c=l then some ⟨b,off,none⟩else(some (⟨b,off,none⟩:Addr)).map (·.add (l*sz))) (h-l) (c-l)) (.sl ((es.take h).drop l)):=by
 have hlen:((es.take h).drop l).length=h-l:=by simp;omega
 by_cases he:c=l
 .have:h-l=0:=by omega
  rw[cQ he,this];have:(es.take h).drop l=[]:=cW (by omega);rw[this];exact .sl0 _ _
 .rw[cL he];simp only[Option.map_some,Addr.add_lit];rw[<-hlen];refine RepC.mk_sl hb hlt (by omega) ((hf.take h).drop l) λ q u hq=>?_;rw[dO,dG]at hq;split at hq
  .rw[eT];exact hc _ _ hq
  .cases hq
theorem zcm5(hs:SatW E s a w W μ){x:Operand}{lo hi mx:Option Operand}{T:TypeId}{sz:Nat}{ax av:A}{l h m:Option Int}{obl:Prop}(ho:o.op=.slice T x lo hi mx)(hT:zbg2 P T sz=true)(hx:Rep w W μ (a.eval x) ax)
  (hstr:(∃b,ax=.str b)↔P.underlying T=some .string)
  (hb:Bds (lo.map a.eval) (hi.map a.eval) (mx.map a.eval) l h m) (he:zah8 s.mem sz ax l h m=some (obl,av)) (hobl:obl):zq3 P o a w W μ s.mem av s.mem:=by
 have fin:∀v,(Instr.sliceAt T (a.eval x) (lo.map a.eval) (hi.map a.eval) (mx.map a.eval)).run P w=.ok v w->Rep w W μ v av->zq3 P o a w W μ s.mem av s.mem:=λ v h1 h2=>
  hs.still (v:=v) (by simp only[execOp,ho,Sem.run_bind,h1,Result.andThen_ok,Sem.run_pure]) h2
 generalize lo.map a.eval=lo' at hb fin;generalize hi.map a.eval=hi' at hb fin;generalize mx.map a.eval=mx' at hb fin;obtain⟨hl,hh,hm⟩:=hb;have plain:∀(es:List (List A)) (full:Bool),RepC w W (a.eval x) (.sl es)->(∀b,ax≠.str b)->0<=l.getD 0->l.getD 0<=h.getD es.length->h.getD es.length<=es.length->zH7 sz es->
   (full=false->m=none)->(full=true->m=some (h.getD es.length)/\h≠none)->av=(if full then .full ((es.take (h.getD es.length).toNat).drop (l.getD 0).toNat)else .sl ((es.take (h.getD es.length).toNat).drop (l.getD 0).toNat))->zq3 P o a w W μ s.mem av s.mem:=by
  intro es full hes hns h1 h2 h3 hall hf0 hf1 hav;have hsl:∃e,P.underlying T=some (.slice e)/\szIs P e sz=true:=by
   unfold zbg2 at hT;split at hT
   .rename_i e hu;exact⟨e,hu,hT⟩
   .rename_i hu;obtain⟨b,hb⟩:=hstr.2 hu;exact absurd hb (hns b)
   .cases hT
  obtain⟨e,hu,hz⟩:=hsl;obtain⟨ad,cap,hv,hcap,hrep⟩:∃ad cap,a.eval x=.slice ad es.length cap/\es.length<=cap/\∀l h c:Nat,l<=h->h<=es.length->h<=c->RepC w W (.slice (if c=l then ad else ad.map (·.add (l*sz))) (h-l) (c-l)) (.sl ((es.take h).drop l)):=by
   rcases hes.open_sl with⟨rfl,ad,cap,hv⟩|⟨b,off,cap,sz',us,hv,hb,hlt,hn,hcap,hf,hc⟩
   .refine⟨ad,cap,hv,eQ _,λ l h c h1 h2 h3=>?_⟩;have:h=0:=by simpa using h2
    subst this;have:l=0:=by omega
    subst this;simp only[gQ,List.take_nil,List.drop_nil];exact .sl0 _ _
   .have hsz:sz'=sz:=by
     have h0:es[0]? =some es[0]:=by simp
     rw[<-hf.hs _ _ h0];exact hall _ (cN h0)
    subst hsz;exact⟨_,cap,hv,hcap,λ l h c h1 h2 h3=>zce1 hb hlt h1 h2 h3 hf hc hcap⟩
  have hl':lo'=none/\(l.getD 0).toNat=0\/∃k,lo'=some (.int k ((l.getD 0).toNat:Int))/\(l.getD 0).toNat<=(h.getD es.length).toNat:=by
   rcases hl with⟨h4,rfl⟩|⟨k,n,h4,rfl⟩
   .exact .inl ⟨h4,rfl⟩
   .refine .inr ⟨k,?_,by simp at*;omega⟩;simp at h1;simp[h4];omega
  cases full with
  |false=>
   have hm0:=hf0 rfl;have hmx:mx'=none:=by
    rcases hm with⟨h4,_⟩|⟨k,n,_,h5⟩
    .exact h4
    .rw[hm0]at h5;cases h5
   have hh':hi'=none/\(h.getD es.length).toNat=es.length\/∃k,hi'=some (.int k ((h.getD es.length).toNat:Int))/\(h.getD es.length).toNat<=cap:=by
    rcases hh with⟨h4,rfl⟩|⟨k,n,h4,rfl⟩
    .exact .inl ⟨h4,by simp⟩
    .refine .inr ⟨k,?_,by simp at*;omega⟩;simp at h2 h1;have:0<=n:=by omega
     simp[h4];omega
   have hbds:=zI9 (P:=P) (w:=w) true es.length cap (l.getD 0).toNat (h.getD es.length).toNat cap lo' hi' mx' (.inl ⟨hmx,rfl⟩) hh' hl';refine fin _ (by rw[hv];exact zI2 hu hz ad _ _ _ _ _ _ _ _ hbds) ?_;rw[hav];exact zB5 (hrep _ _ _ (by omega) (by omega) (by omega))
  |true=>
   obtain⟨hm0,hhn⟩:=hf1 rfl;obtain⟨kh,nh,hhi,hhe⟩:∃k n,hi'=some (.int k n)/\h=some n:=by
    rcases hh with⟨_,h5⟩|h4
    .exact absurd h5 hhn
    .exact h4
   subst hhe;simp only[Option.getD_some]at*;have hn0:0<=nh:=by omega
   have hmx:∃k,mx'=some (.int k (nh.toNat:Int)):=by
    rcases hm with⟨_,h5⟩|⟨k,n,h4,h5⟩
    .rw[hm0]at h5;cases h5
    .rw[hm0]at h5;cases h5;exact⟨k,by simp[h4];omega⟩
   obtain⟨km,hmx⟩:=hmx;have hbds:=zI9 (P:=P) (w:=w) true es.length cap (l.getD 0).toNat nh.toNat nh.toNat lo' hi' mx' (.inr ⟨km,hmx,by simp[hhi],by omega⟩) (.inr ⟨kh,by simp[hhi];omega,cU _⟩) hl';refine fin _ (by rw[hv];exact zI2 hu hz ad _ _ _ _ _ _ _ _ hbds) ?_;rw[hav];exact zB5 (.full _ _ _ (hrep _ _ _ (by omega) (by omega) (cU _)))
 unfold zah8 at he;split at he
 .cases he;obtain⟨h1,h2,h3,h4⟩:=hobl;exact plain _ false hx (by simp) h1 h2 h3 h4 (λ _=>rfl) (by simp) rfl
 .cases he;obtain⟨h1,h2,h3,h4⟩:=hobl;exact plain _ false (RepC.of_full hx).1 (by simp) h1 h2 h3 h4 (λ _=>rfl) (by simp) rfl
 .rename_i y lo0 n;split at he
  .rename_i r hr;cases he;obtain⟨h1,h2,h3,h4⟩:=hobl;have hmx:mx'=none:=by
    rcases hm with⟨h5,_⟩|⟨k,q,_,h6⟩
    .exact h5
    .cases h6
   obtain⟨e,hu,hz⟩:∃e,P.underlying T=some (.slice e)/\szIs P e sz=true:=by
    unfold zbg2 at hT;split at hT
    .rename_i e hu;exact⟨e,hu,hT⟩
    .rename_i hu;obtain⟨b,hb⟩:=hstr.2 hu;cases hb
    .cases hT
   have hl':∀hh:Nat,(l.getD 0).toNat<=hh->(lo'=none/\(l.getD 0).toNat=0\/∃k,lo'=some (.int k ((l.getD 0).toNat:Int))/\(l.getD 0).toNat<=hh):=by
    intro hh' hle;rcases hl with⟨h4,rfl⟩|⟨k,n,h4,rfl⟩
    .exact .inl ⟨h4,rfl⟩
    .refine .inr ⟨k,?_,hle⟩;simp at h1;simp[h4];omega
   have hh':∀cap,n<=cap->(hi'=none/\(h.getD n).toNat=n\/∃k,hi'=some (.int k ((h.getD n).toNat:Int))/\(h.getD n).toNat<=cap):=by
    intro cap hcap;rcases hh with⟨h4,rfl⟩|⟨k,q,h4,rfl⟩
    .exact .inl ⟨h4,by simp⟩
    .refine .inr ⟨k,?_,by simp at*;omega⟩;simp at h2 h1;have:0<=q:=by omega
     simp[h4];omega
   have hm':=hs.mem y;rw[hr]at hm';rcases hs.own hx hr with⟨rfl,ad,hv⟩|⟨k,cap,h5,h6,h7,h8,h9,hrow⟩
   .have hbds:=zI9 (P:=P) (w:=w) true 0 0 (l.getD 0).toNat (h.getD (0:Nat)).toNat 0 lo' hi' mx' (.inl ⟨hmx,rfl⟩) (by simpa using hh' 0 (cU _)) (hl' _ (by simp at*;omega));refine fin _ (by rw[hv];exact zI2 hu hz ad _ _ _ _ _ _ _ _ hbds) ?_;have e1:(h.getD (0:Nat)).toNat-(l.getD 0).toNat=0:=by simp at*;omega
    have e2:0-(l.getD 0).toNat=0:=by omega
    rw[e1,e2];refine(show RepK w W μ _ (.own y _ 0)from⟨rfl,?_⟩);rcases hm' with⟨hmy,_⟩|⟨k,hmy,_⟩
    .rw[hmy];exact⟨rfl,_,rfl⟩
    .have hpz:0<k.sz:=by
      obtain⟨_,hkk⟩:RepK w W μ _ (.own y _ _):=hx;rw[hmy]at hkk;exact hkk.1
     rw[hmy];exact⟨hpz,.inl ⟨rfl,_,rfl⟩⟩
   .have hbds:=zI9 (P:=P) (w:=w) true n cap (l.getD 0).toNat (h.getD n).toNat cap lo' hi' mx' (.inl ⟨hmx,rfl⟩) (hh' cap h8) (hl' _ (by omega));refine fin _ (by rw[h6];exact zI2 hu hz _ _ _ _ _ _ _ _ _ hbds) ?_;refine(show RepK w W μ _ (.own y _ _)from⟨rfl,?_⟩);rw[h5];refine⟨hrow.pos,?_⟩;have hksz:k.sz=sz:=hrow.2.1.trans h4
    by_cases hcl:cap=(l.getD 0).toNat
    .left;rw[cQ hcl];have e1:(h.getD n).toNat-(l.getD 0).toNat=0:=by omega
     have e2:cap-(l.getD 0).toNat=0:=by omega
     rw[e1,e2];exact⟨rfl,_,rfl⟩
    .right;refine⟨cap-(l.getD 0).toNat,?_,?_,by omega,by omega⟩
     .rw[cL hcl];simp only[Option.map_some,Addr.add_lit,hksz,dK]
     .refine fZ (dC _ ?_) h7;omega
  .cases he
 .rename_i b;cases he;obtain⟨h1,h2,h3⟩:=hobl;have hu:P.underlying T=some .string:=hstr.1 ⟨b,rfl⟩;have hmx:mx'=none:=by
   rcases hm with⟨h5,_⟩|⟨k,q,_,h6⟩
   .exact h5
   .cases h6
  have hl':lo'=none/\(l.getD 0).toNat=0\/∃k,lo'=some (.int k ((l.getD 0).toNat:Int))/\(l.getD 0).toNat<=(h.getD b.size).toNat:=by
   rcases hl with⟨h4,rfl⟩|⟨k,n,h4,rfl⟩
   .exact .inl ⟨h4,rfl⟩
   .refine .inr ⟨k,?_,by simp at*;omega⟩;simp at h1;simp[h4];omega
  have hh':hi'=none/\(h.getD b.size).toNat=b.size\/∃k,hi'=some (.int k ((h.getD b.size).toNat:Int))/\(h.getD b.size).toNat<=b.size:=by
   rcases hh with⟨h4,rfl⟩|⟨k,q,h4,rfl⟩
   .exact .inl ⟨h4,by simp⟩
   .refine .inr ⟨k,?_,by simp at*;omega⟩;simp at h2 h1;have:0<=q:=by omega
    simp[h4];omega
  have hbds:=zI9 (P:=P) (w:=w) false b.size b.size (l.getD 0).toNat (h.getD b.size).toNat b.size lo' hi' none (.inl ⟨rfl,rfl⟩) hh' hl';rw[hmx]at fin;rw[hx.str]at fin;exact fin _ (zaQ3 hu b _ _ _ _ _ hbds) (zB5 (.str _))
 .rename_i es mm;split at he
  .rename_i hq;cases he;obtain⟨h1,h2,h3,h4,h5⟩:=hobl;exact plain _ true hx (by simp) h1 h2 h3 h5 (by simp) (λ _=>⟨by rw[<-h4];rfl,by simp⟩) rfl
  .cases he
 .rename_i es mm;split at he
  .rename_i hq;cases he;obtain⟨h1,h2,h3,h4,h5⟩:=hobl;exact plain _ true (RepC.of_full hx).1 (by simp) h1 h2 h3 h5 (by simp) (λ _=>⟨by rw[<-h4];rfl,by simp⟩) rfl
  .cases he
 .rename_i y lo0 n mm;split at he
  .rename_i hq r hr;cases he;obtain⟨h1,h2,h3,h4,h5⟩:=hobl;obtain⟨e,hu,hz⟩:∃e,P.underlying T=some (.slice e)/\szIs P e sz=true:=by
    unfold zbg2 at hT;split at hT
    .rename_i e hu;exact⟨e,hu,hT⟩
    .rename_i hu;obtain⟨b,hb⟩:=hstr.2 hu;cases hb
    .cases hT
   have hn0:0<=hq:=by omega
   obtain⟨kh,hhi⟩:∃k,hi'=some (.int k (hq.toNat:Int)):=by
    rcases hh with⟨_,h6⟩|⟨k,n',h6,h7⟩
    .cases h6
    .cases h7;exact⟨k,by rw[h6,Int.toNat_of_nonneg hn0]⟩
   obtain⟨km,hmx⟩:∃k,mx'=some (.int k (hq.toNat:Int)):=by
    rcases hm with⟨_,h6⟩|⟨k,n',h6,h7⟩
    .cases h6
    .cases h7;exact⟨k,by rw[h6,<-h4,Int.toNat_of_nonneg hn0]⟩
   have hl':lo'=none/\(l.getD 0).toNat=0\/∃k,lo'=some (.int k ((l.getD 0).toNat:Int))/\(l.getD 0).toNat<=hq.toNat:=by
    rcases hl with⟨h6,rfl⟩|⟨k,n',h6,rfl⟩
    .exact .inl ⟨h6,by simp⟩
    .refine .inr ⟨k,?_,by simp at*;omega⟩;simp at h1;simp[h6];omega
   have hm':=hs.mem y;rw[hr]at hm';rcases hs.own hx hr with⟨rfl,ad,hv⟩|⟨k,cap,h6,h7,h8,h9,h10,hrow⟩
   .have hbds:=zI9 (P:=P) (w:=w) true 0 0 (l.getD 0).toNat hq.toNat hq.toNat lo' hi' mx' (.inr ⟨km,hmx,by simp[hhi],by omega⟩) (.inr ⟨kh,hhi,cU _⟩) hl';refine fin _ (by rw[hv];exact zI2 hu hz ad _ _ _ _ _ _ _ _ hbds) ?_;have e2:hq.toNat-(l.getD 0).toNat=0:=by omega
    rw[e2];have e3:(l.getD 0).toNat=0:=by omega
    have e4:hq.toNat=0:=by omega
    rw[e3,e4];refine(show RepK w W μ _ (.own y _ 0)from⟨rfl,?_⟩);rcases hm' with⟨hmy,_⟩|⟨k,hmy,_⟩
    .rw[hmy];exact⟨rfl,_,rfl⟩
    .have hpz:0<k.sz:=by
      obtain⟨_,hkk⟩:RepK w W μ _ (.own y _ _):=hx;rw[hmy]at hkk;exact hkk.1
     rw[hmy];exact⟨hpz,.inl ⟨rfl,_,rfl⟩⟩
   .have hbds:=zI9 (P:=P) (w:=w) true n cap (l.getD 0).toNat hq.toNat hq.toNat lo' hi' mx' (.inr ⟨km,hmx,by simp[hhi],by omega⟩) (.inr ⟨kh,hhi,cU _⟩) hl';refine fin _ (by rw[h7];exact zI2 hu hz _ _ _ _ _ _ _ _ _ hbds) ?_;refine(show RepK w W μ _ (.own y _ _)from⟨rfl,?_⟩);rw[h6];refine⟨hrow.pos,?_⟩;have hksz:k.sz=sz:=hrow.2.1.trans h5
    by_cases hcl:hq.toNat=(l.getD 0).toNat
    .left;have e1:hq.toNat-(l.getD 0).toNat=0:=by omega
     rw[cQ hcl,e1];exact⟨rfl,_,rfl⟩
    .right;refine⟨hq.toNat-(l.getD 0).toNat,?_,?_,cU _,by omega⟩
     .rw[cL hcl];simp only[Option.map_some,Addr.add_lit,hksz,dK]
     .refine fZ (dC _ ?_) h8;omega
  .cases he
 .cases he
end
section
variable {P:Program} {o:Oper} {a:Act} {E:Env} {s:S} {w:World} {W:Nat→Prop} {μ:Nat→Loc}
theorem zR5(w:World)(ob:Obj):Keeps (λ _=>False) w (w.alloc ob):=
 ⟨rfl,rfl,rfl,cU _,by simp,λ b hb _=>heap_alloc_old w ob hb⟩
theorem zQ5(w:World)(ob:Obj):Keeps (λ _=>False) w (w.drew.alloc ob):=
 ⟨rfl,rfl,rfl,hY _,by simp,λ b hb _=>heap_alloc_old w.drew ob hb⟩
theorem zbs2{v:Value}{x lo n:Nat}(h:RepK w W μ v (.own x lo n)):Rep w W μ v (.own x lo n):=h
theorem zbU6(hs:SatW E s a w W μ){x:Operand}{sz:Nat}{z:List A}{id:Nat}(ho:o.op=.move x\/o.op=.assign x)(hx:x=.const (.slice none 0 0))(hid:s.mem id=.fresh)(hsz:0<sz):
  zq3 P o a w W μ s.mem (.own id 0 0) (setM s.mem [(id,.row ⟨false,sz,z,[]⟩)]):=by
 refine⟨_,.slice none 0 0,w,W,_,?_,.inl rfl,?_,Step.newEmpty hs.mem hs.inj hs.wlt hid hsz rfl (Keeps.refl _ w)⟩
 .rcases ho with ho|ho<;>simp[execOp,ho,hx,Act.eval]
 .refine zbs2 ⟨rfl,?_⟩;simp
theorem zcO1(hs:SatW E s a w W μ){x:Operand}{T:TypeId}{n:Nat}{ax:A}{id:Nat}(ho:o.op=.box T x)(hx:Rep w W μ (a.eval x) ax)(hid:s.mem id=.fresh)(hv:ax.isV=true)(hn:0<n)(hl:ax.cells.length=n):
  zq3 P o a w W μ s.mem (.ptr id 0 0) (setM s.mem [(id,.row ⟨false,n,ax.cells,[ax.cells]⟩)]):=by
 obtain⟨us,hu,hlen,hr⟩:=hx.toCells hv;subst hl;have hst:=Step.new (w':=w.alloc (.cells us.toArray T)) hs.mem hs.inj hs.wlt hid (r:=⟨false,ax.cells.length,ax.cells,[ax.cells]⟩) (us:=us) (rest:=[]) (e:=T) hn (zR5 _ _) (Flat.one hlen hr) (by simpa using heap_alloc_new w _);refine⟨_,.pointer (some ⟨w.heap.size,0,none⟩),_,_,_,?_,.inl rfl,?_,hst⟩
 .simp[execOp,ho,Instr.box,newVar,newRow,newObj,Sem.run,hu]
 .have:=zaM6 (w:=w.alloc (.cells us.toArray T)) (W:=λ b=>W b\/b=w.heap.size) (μ:=λ x=>if x=id then Loc.at_ ⟨w.heap.size,ax.cells.length,us.length+([]:List Value).length⟩else μ x) (y:=id) (k:=⟨w.heap.size,ax.cells.length,us.length+([]:List Value).length⟩) (by simp) hn 0 0
  simpa using this
def zaI9(P:Program)(T:TypeId)(z:List A):Bool:=match P.info? T with|some i=>(match i.zero with|some v=>zS1 v.cells.toList z|none=>false)|none=>false
theorem zav3{T:TypeId}{z:List A}(h:zaI9 P T z=true):∃v,(∀w,(zeroValue T).run P w=.ok v w)/\(∃i,P.info? T=some i/\i.zero=some v)/\v.cells.toList.length=z.length/\∀(w:World) (W:Nat->Prop) (i:Nat) (u:Value) (b:A),v.cells.toList[i]? =some u->z[i]? =some b->RepC w W u b:=by
 unfold zaI9 at h;split at h
 .rename_i i hi;split at h
  .rename_i v hv;refine⟨v,λ w=>by simp[zeroValue,typeInfo,hi,hv],⟨i,hi,hv⟩,(zT7 (w:=default) (W:=λ _=>False) h).1,λ w W i u b h1 h2=>(zT7 h).2 i u b h1 h2⟩
  .cases h
 .cases h
theorem zce2(hs:SatW E s a w W μ){T:TypeId}{z:List A}{id:Nat}(ho:o.op=.alloc T)(hz:zaI9 P T z=true)(hid:s.mem id=.fresh)(hn:0<z.length):
  zq3 P o a w W μ s.mem (.ptr id 0 0) (setM s.mem [(id,.row ⟨false,z.length,z,[z]⟩)]):=by
 obtain⟨v,hv,_,hl,hr⟩:=zav3 hz;have hst:=Step.new (w':=w.alloc (.cells v.cells T)) hs.mem hs.inj hs.wlt hid (r:=⟨false,z.length,z,[z]⟩) (us:=v.cells.toList) (rest:=[]) (e:=T) hn (zR5 _ _)
  (Flat.one hl λ i u b h1 h2=>zp5 (hr w W i u b h1 h2)) (by simpa using heap_alloc_new w _)
 refine⟨_,.pointer (some ⟨w.heap.size,0,none⟩),_,_,_,?_,.inl rfl,?_,hst⟩
 .simp[execOp,ho,Instr.alloc,hv,newVar,newRow,newObj,Sem.run]
 .have:=zaM6 (w:=w.alloc (.cells v.cells T)) (W:=λ b=>W b\/b=w.heap.size) (μ:=λ x=>if x=id then Loc.at_ ⟨w.heap.size,z.length,v.cells.toList.length+([]:List Value).length⟩else μ x) (y:=id) (k:=⟨w.heap.size,z.length,v.cells.toList.length+([]:List Value).length⟩) (by simp) hn 0 0
  simpa using this
theorem zbs3{T:TypeId}{n:Nat}(hT:szIs P T n=true){g off:Nat}{us rest vs:List Value}{e:TypeId}{v:Value}(hv:v.cells=vs.toArray)(hn:vs.length=n)(hg:w.heap[g]? =some (.cells (us++rest).toArray e (0,0)))
  (hfit:off+vs.length<=us.length) (h1:∀u∈vs,u.oneCell'=true):
  (Instr.storeAt T (.pointer (some ⟨g,off,none⟩)) v).run P w=.ok () (w.setRow g ((us.take off++vs++us.drop (off+vs.length))++rest).toArray):=by
 have hst:=run_storeCells_at P g off e vs 0 (us++rest).toArray w hg (by simp;omega) h1;simp only[Nat.add_zero]at hst;have hsz2:¬vs.toArray.size≠n:=by simpa using hn
 simp only[Instr.storeAt,Instr.sureAddr,storeVar,Sem.run_bind,Sem.run_pure,Result.andThen_ok,zae4 hT,hv,hsz2,cV,hst];congr 2;have e1:(us++rest).take off=us.take off:=fR (by omega);have e2:(us++rest).drop (off+vs.length)=us.drop (off+vs.length)++rest:=fC (by omega);simp[e1,e2]
theorem zN5(w:World)(g:Nat)(c:Array Value):Keeps (λ b=>b=g) w (w.setRow g c):=
 ⟨rfl,rfl,rfl,cU _,by simp[World.setRow],λ b _ hb=>setRow_other w g b c hb⟩
theorem zbO3(us vs:List Value)(i j sz n:Nat)(hi:(i+1)*sz<=us.length)(hj:j+n<=sz)(hn:vs.length=n):
  us.take (i*sz)++(((us.drop (i*sz)).take sz).take j++vs++((us.drop (i*sz)).take sz).drop (j+vs.length))++us.drop ((i+1)*sz)=us.take (i*sz+j)++vs++us.drop (i*sz+j+vs.length):=by
 subst hn;rw[dK,Nat.one_mul]at hi⊢;generalize i*sz=p at*;have e1:us.take (p+j)=us.take p++((us.drop p).take sz).take j:=by rw[List.take_add,List.take_take,fJ (by omega)]
 have e2:us.drop (p+j+vs.length)=((us.drop p).take sz).drop (j+vs.length)++us.drop (p+sz):=by
  have h1:us.drop p=(us.drop p).take sz++us.drop (p+sz):=by rw[<-fD,dY]
  have h2:us.drop (p+j+vs.length)=(us.drop p).drop (j+vs.length):=by rw[fD,eT]
  rw[h2]
  conv=>lhs;rw[h1]
  rw[fC];simp only[dR,eG];omega
 rw[e1,e2];simp only[dW]
theorem zce3{id:Nat}(hs:SatW E s a w W μ){x y:Operand}{T:TypeId}{n:Nat}{ax ay:A}{ef:Ef}(ho:o.op=.store T x y)(hT:szIs P T n=true)(hx:Rep w W μ (a.eval x) ax)(hy:Rep w W μ (a.eval y) ay)
  (he:ev id s.mem (.store n) [ax,ay]=some ef) (hobl:ef.obl):zq3 P o a w W μ s.mem ef.v (setM s.mem ef.mw):=by
 cases ax<;>simp only[ev]at he<;>try(cases he;done)
 rename_i p i j;split at he
 .rename_i r hr;cases he;obtain⟨hro,hv,hi,hj,hn⟩:=hobl;obtain⟨k,hk,hp,hrow⟩:=hs.ptr hx hr;obtain⟨us,hcu,hlen,hrep⟩:=hy.toCells hv;obtain⟨_,hksz,hpos,us0,rest,e,hheap,htot,hf⟩:=hrow;have hc:r.es[i]? =some (r.es.getD i r.z):=by simp[hi]
  have hcl:=hf.hs i _ hc;have hsp:=hf.split hc;have hfit:(i+1)*r.sz<=us0.length:=by rw[hf.hl];exact dC _ hi
  have hone:∀u∈us,u.oneCell'=true:=λ u hu=>by
   obtain⟨q,hq⟩:=fK hu;have hq2:q<ay.cells.length:=by rw[<-hlen];exact(cH.1 hq).1
   exact(hrep q u _ hq (cJ hq2)).oneCell
  have hupd:=Flat.upd (R:=RepK w W μ) (c:=r.es.getD i r.z) (hcl▸hsp) hlen hrep j (by omega);rw[hcl]at hupd;have hset:=hf.set i hi hupd;have hfit2:i*r.sz+j+us.length<=us0.length:=by rw[dK]at hfit;omega
  have hrun:=zbs3 (w:=w) hT (g:=k.b) (off:=i*r.sz+j) hcu (by omega) hheap hfit2 hone;rw[zbO3 us0 us i j r.sz us.length hfit (by omega) rfl]at hset;refine⟨.skip,undef,w.setRow k.b ((us0.take (i*r.sz+j)++us++us0.drop (i*r.sz+j+us.length))++rest).toArray,W,μ,?_,.inr ⟨rfl,rfl⟩,trivial,Step.write (rest:=rest) hs.mem hs.inj hs.wlt hk hr hro (r':=⟨r.ro,r.sz,r.z,r.es.set i (upd (r.es.getD i r.z) j ay.cells)⟩) rfl (zN5 _ _ _) hset (setRow_heap w k.b _ _ e _ hheap) ?_⟩
  .simp only[execOp,ho,hp,hksz,Sem.run_bind,hrun,Result.andThen_ok,Sem.run_pure]
  .simp only[cX,dR,eG];omega
 .cases he
end
section
variable {P:Program} {o:Oper} {a:Act} {E:Env} {s:S} {w:World} {W:Nat→Prop} {μ:Nat→Loc}
def zaO6(P:Program)(w:World)(sz m:Nat)(x:Value)(news:List Value):Prop:=
 ∀w1:World,w1.heap=w.heap->(Builtin.lenOf x).run P w1=.ok m w1/\(∀n,n<=m->(Builtin.firstCells sz n x).run P w1=.ok (news.take (n*sz)).toArray w1)
theorem zaj1{ad:Option Addr}{m c sz:Nat}{news:List Value}(hl:news.length=m*sz)(hc:∀b,ad=some b->∀(j:Nat) (u:Value),news[j]? =some u->w.cell? (b.add j)=some u)(hn:ad=none->news=[]):
  zaO6 P w sz m (.slice ad m c) news:=by
 intro w1 hw;refine⟨rfl,λ n hnm=>?_⟩;cases ad with
 |none=>simp[Builtin.firstCells,hn rfl]
 |some b=>
  refine run_firstCells_some w1 sz n b m c (news.take (n*sz)) ?_ λ j v hj=>?_
  .rw[dR,hl,fJ (dC _ hnm)]
  .rw[dG]at hj;split at hj
   .have:=hc b rfl j v hj;rw[<-this];simp[World.cell?,hw]
   .cases hj
theorem zbg3(hs:SatW E s a w W μ){v:Value}{ax:A}{new:List (List A)}{sz:Nat}(hx:Rep w W μ v ax)(he:zao0 s.mem ax=some new)(hok:zY6 s.mem ax)(ha:zH7 sz new):
  ∃news,zaO6 P w sz new.length v news/\Flat (RepK w W μ) sz news new:=by
 have plain:∀es,RepC w W v (.sl es)->zH7 sz es->∃news,zaO6 P w sz es.length v news/\Flat (RepK w W μ) sz news es:=λ es hes hall=>by
  rcases hes.open_sl with⟨rfl,ad,cap,hv⟩|⟨b,off,cap,sz',us,hv,hb,hlt,hn,hcap,hf,hc⟩
  .exact⟨[],by rw[hv];exact zaj1 (by simp) (by simp) (by simp),Flat.nil _ _⟩
  .have hsz:sz'=sz:=by
    have h0:es[0]? =some es[0]:=by simp
    rw[<-hf.hs _ _ h0];exact hall _ (cN h0)
   subst hsz;refine⟨us,?_,hf.mono λ u a hr=>zp5 hr⟩;rw[hv];exact zaj1 hf.hl (λ ad had j u hj=>by cases had;rw[Addr.add_lit];exact hc j u hj) (by simp)
 unfold zao0 at he;split at he
 .cases he;exact plain _ hx ha
 .cases he;exact plain _ (RepC.of_full hx).1 ha
 .rename_i y lo n;split at he
  .rename_i r hr;cases he;rcases hs.own hx hr with⟨rfl,ad,hv⟩|⟨k,cap,h5,h6,h7,h8,h9,hrow⟩
   .have:(r.es.drop lo).take 0=[]:=by simp
    rw[this];exact⟨[],by rw[hv];exact zaj1 (by simp) (by simp) (by simp),Flat.nil _ _⟩
   .obtain⟨_,hksz,hpos,us0,rest,e,hheap,htot,hf⟩:=hrow;have hln:lo+n<=r.es.length:=by simpa only[zY6,hr]using hok
    have hlen:((r.es.drop lo).take n).length=n:=by simp;omega
    have hf2:=(hf.drop lo).take n;have hsz:(r.es.drop lo).take n=[]\/r.sz=sz:=by
     by_cases hnil:(r.es.drop lo).take n=[]
     .exact .inl hnil
     .right;have h0:((r.es.drop lo).take n)[0]? =some (((r.es.drop lo).take n)[0]'(gG.2 hnil)):=cJ _;rw[<-hf2.hs _ _ h0];exact ha _ (cN h0)
    rcases hsz with hnil|hsz
    .have hn0:n=0:=by rw[hnil]at hlen;simpa using hlen.symm
     rw[hnil,h6,hn0];exact⟨[],zaj1 (by simp) (by simp) (by simp),Flat.nil _ _⟩
    .subst hsz;refine⟨_,?_,hf2⟩;rw[h6,hlen];refine zaj1 (by rw[hf2.hl,hlen]) (λ ad had j u hj=>?_) (by simp);cases had;rw[Addr.add_lit];rw[dG]at hj;split at hj
     .rw[dO]at hj;simp only[World.cell?,hheap,hksz,Option.isSome_none,cG,cV,dX];rw[dF (cH.1 hj).1,hj]
     .cases hj
  .cases he
 .rename_i b;cases he;have hbl:b.toList=b.data.toList:=ByteArray.toList_eq b;have hv:=hx.str;subst hv;refine⟨b.toList.map λ c=>Value.int .u8 c.toNat,?_,?_⟩
  .intro w1 hw;refine⟨?_,λ n hn=>?_⟩
   .simp[Builtin.lenOf,hbl]
   .simp only[Builtin.firstCells,Sem.run_pure,eA]at hn⊢;congr 1;apply Array.ext'
    by_cases hb0:b.toList=[]
    .have:b.data=#[]:=by rw[hbl]at hb0;exact Array.toList_eq_nil_iff.1 hb0
     simp[hb0,this]
    .have hs1:sz=1:=by
      have:[A.int .u8 (b.toList.head hb0).toNat]∈b.toList.map (λ c=>[A.int .u8 c.toNat]):=cS.2 ⟨_,List.head_mem hb0,rfl⟩;exact(ha _ this).symm
     subst hs1;simp[hbl]
  .refine⟨?_,λ i c hc=>ha c (cN hc),λ i c j d hc hd=>?_⟩
   .by_cases hb0:b.toList=[]
    .simp[hb0]
    .have hs1:sz=1:=by
      have:[A.int .u8 (b.toList.head hb0).toNat]∈b.toList.map (λ c=>[A.int .u8 c.toNat]):=cS.2 ⟨_,List.head_mem hb0,rfl⟩;exact(ha _ this).symm
     simp[hs1]
   .rw[cP]at hc;cases hb:b.toList[i]? with
    |none=>simp[hb]at hc
    |some q=>
     simp[hb]at hc;subst hc;have hs1:sz=1:=(ha _ (cS.2 ⟨q,cN hb,rfl⟩)).symm;subst hs1;cases j with
     |zero=>simp at hd;subst hd;exact⟨_,by simp[hb],show RepC w W _ _ from .int _ _⟩
     |succ j=>simp at hd
 .cases he
def zba7(P:Program)(T U:TypeId)(sz bytes:Nat):Bool:=
 match P.underlying T with
 |some (.slice e)=>(match P.info? e with
  |some i=>i.size==sz&&i.bytes==bytes&&(match i.zero with|some z=>z.cells.size==sz|none=>false)
  |none=>false)&&(match P.underlying U with|some (.slice _)=>true|some .string=>true|_=>false)
 |_=>false
theorem zaQ4{T U:TypeId}{sz bytes:Nat}(h:zba7 P T U sz bytes=true):∃e i z,P.underlying T=some (.slice e)/\P.info? e=some i/\i.size=sz/\i.bytes=bytes/\i.zero=some z/\z.cells.size=sz/\
  ((∃e2,P.underlying U=some (.slice e2))\/P.underlying U=some .string):=by
 unfold zba7 at h;split at h
 .rename_i e hu;simp only[cF]at h;obtain⟨h1,h2⟩:=h;split at h1
  .rename_i i hi;simp only[cF,cY]at h1;obtain⟨⟨h3,h4⟩,h5⟩:=h1;split at h5
   .rename_i z hz;simp only[cY]at h5;split at h2
    .rename_i e2 hu2;exact⟨e,i,z,hu,hi,h3,h4,hz,h5,.inl ⟨e2,hu2⟩⟩
    .rename_i hu2;exact⟨e,i,z,hu,hi,h3,h4,hz,h5,.inr hu2⟩
    .cases h2
   .cases h5
  .cases h1
 .cases h
theorem zay1{T U e:TypeId}{i:TypeInfo}(hT:P.underlying T=some (.slice e))(hU:(∃e2,P.underlying U=some (.slice e2))\/P.underlying U=some .string)(hi:P.info? e=some i)
  {ty:TypeId} {base:Option Addr} {sLen sCap m:Nat} {x:Value} {news:List Value} (hx:zaO6 P w i.size m x news) (hl:news.length=m*i.size) (hroom:sLen+m<=sCap)
  {w':World} (hst:∀ad,base=some ad->(storeCells (ad.add (sLen*i.size)) news).run P w=.ok () w') (hno:base=none->w'=w):
  (Builtin.append_ #[T,U] ty #[.slice base sLen sCap,x]).run P w=.ok (.slice base (sLen+m) sCap) w':=by
 obtain⟨h1,h2⟩:=hx w rfl;have h3:=h2 m (cU _);rw[<-hl,fN]at h3;cases base with
 |none=>cases hno rfl;rcases hU with⟨e2,hU⟩|hU<;>simp[Builtin.append_,run_underlying hT,run_underlying hU,zH8 hi,h1,hroom,h3]
 |some ad=>have:=hst ad rfl;rcases hU with⟨e2,hU⟩|hU<;>simp[Builtin.append_,run_underlying hT,run_underlying hU,zH8 hi,h1,hroom,h3,this]
theorem zae5{T U e:TypeId}{i:TypeInfo}{z:Value}(hT:P.underlying T=some (.slice e))(hU:(∃e2,P.underlying U=some (.slice e2))\/P.underlying U=some .string)(hi:P.info? e=some i)(hz:i.zero=some z)
  {ty:TypeId} {base:Option Addr} {sLen sCap m:Nat} {x:Value} {news olds:List Value} (hx:zaO6 P w i.size m x news) (hl:news.length=m*i.size) (hol:olds.length=sLen*i.size)
  (hold:∀w1:World,w1.heap=w.heap->(Builtin.firstCells i.size sLen (.slice base sLen sCap)).run P w1=.ok olds.toArray w1)
  (hgrow:sCap<sLen+m) (h63:sLen+m<=maxLen) (hby:(sLen+m)*i.bytes<=140737488355328):
  ∃c,sLen+m<=c/\c<=maxLen/\(Builtin.append_ #[T,U] ty #[.slice base sLen sCap,x]).run P w=.ok (.slice (some ⟨w.heap.size,0,none⟩) (sLen+m) c)
   (w.drew.alloc (.cells ((olds++news)++(Builtin.zeroCells z.cells (c-(sLen+m))).toList).toArray e)):=by
 have hge:=grownCap_ge w (sLen+m) sCap e;have hcm:=grownCap_le_maxLen w (sLen+m) sCap e h63;refine⟨grownCap w (sLen+m) sCap e,hge,hcm,?_⟩;obtain⟨h1,_⟩:=hx w rfl;obtain⟨_,h2⟩:=hx w.drew rfl;have h3:=h2 m (cU _);rw[<-hl,fN]at h3;have h4:=hold w.drew rfl;have hn:¬(sLen+m<=sCap):=by omega
 have h63':¬(9223372036854775807<((sLen:Int)+(m:Int))):=by simp only[maxLen]at h63;omega
 have hfit:=growslice_fits hgrow hby;have h48':¬(281474976710656<Builtin.nextslicecap (sLen+m) sCap*i.bytes):=by omega
 rcases hU with⟨e2,hU⟩|hU<;>simp[Builtin.append_,run_underlying hT,run_underlying hU,sizeOf,typeInfo,zeroValue,hi,hz,h1,hn,h63',h48',Question.forced,h3,h4,newRow,grownCap]
 all_goals(congr 2;apply Array.ext';simp)
theorem zS2{x lo n:Nat}{k:Blk}{cap:Nat}(hx:μ x=.at_ k)(ht:(lo+cap)*k.sz<=k.tot)(hn:n<=cap)(hc:lo+cap<=maxLen)(hpz:0<k.sz:=by first|assumption|omega|(simp only;omega)):Rep w W μ (.slice (some ⟨k.b,lo*k.sz,none⟩) n cap) (.own x lo n):=by refine zbs2 ⟨rfl,?_⟩;rw[hx];exact⟨hpz,.inr ⟨cap,rfl,ht,hn,hc⟩⟩
theorem zay2{x:Nat}{ad:Option Addr}(hx:μ x=.empty)(lo:Nat):Rep w W μ (.slice ad 0 0) (.own x lo 0):=by refine zbs2 ⟨rfl,?_⟩;rw[hx];exact⟨rfl,_,rfl⟩
theorem zby0(hm:zac5 w W μ s.mem)(hi:∀x y k k',μ x=.at_ k->μ y=.at_ k'->k.b=k'.b->x=y)(hlt:∀b,W b->b<w.heap.size)
  {T U e:TypeId} {i:TypeInfo} {z:Value} {zz:List A} (hT:P.underlying T=some (.slice e)) (hU:(∃e2,P.underlying U=some (.slice e2))\/P.underlying U=some .string) (hinfo:P.info? e=some i) (hz:i.zero=some z) (hzs:z.cells.size=i.size)
  (hpos:0<i.size) {id m:Nat} {ty:TypeId} {ad:Option Addr} {x:Value} {news:List Value} {new:List (List A)} (hid:s.mem id=.fresh) (hx:zaO6 P w i.size m x news) (hm':m=new.length) (hf:Flat (RepK w W μ) i.size news new)
  (h63:m<=maxLen) (hby:m*i.bytes<=140737488355328):
  ∃v w' W' μ',(Builtin.append_ #[T,U] ty #[.slice ad 0 0,x]).run P w=.ok v w'/\Rep w' W' μ' v (.own id 0 m)/\Step s.mem (setM s.mem [(id,.row ⟨false,i.size,zz,new⟩)]) w w' W W' μ μ':=by
 subst hm'
 by_cases h0:new.length=0
 .have hn:new=[]:=cW h0;subst hn;have hnews:news=[]:=cW (by simpa using hf.hl);subst hnews;refine⟨.slice ad 0 0,w,W,_,?_,?_,Step.newEmpty hm hi hlt hid hpos rfl (Keeps.refl _ w)⟩
  .exact zay1 hT hU hinfo (m:=0) (sLen:=0) (sCap:=0) hx (by simp) (cU _) (λ b _=>by simp[storeCells]) (λ _=>rfl)
  .exact zay2 (by simp) 0
 .obtain⟨c,hc1,hc2,hrun⟩:=zae5 (ty:=ty) (base:=ad) (sLen:=0) (sCap:=0) (olds:=[]) hT hU hinfo hz hx hf.hl (by simp)
   (λ w1 hw=>by cases ad<;>simp[Builtin.firstCells,loadCells,loadCellsFrom]) (by omega) (by omega) (by simpa using hby)
  simp only[dJ,List.nil_append]at hrun hc1;have hst:=Step.new (w':=w.drew.alloc (.cells (news++(Builtin.zeroCells z.cells (c-new.length)).toList).toArray e)) hm hi hlt hid (r:=⟨false,i.size,zz,new⟩) (us:=news) (rest:=(Builtin.zeroCells z.cells (c-new.length)).toList) (e:=e) hpos (zQ5 _ _) hf
   (by simpa using heap_alloc_new w.drew _)
  refine⟨_,_,_,_,hrun,?_,hst⟩;have:=zS2 (w:=w.drew.alloc (.cells (news++(Builtin.zeroCells z.cells (c-new.length)).toList).toArray e)) (W:=λ b=>W b\/b=w.heap.size)
   (μ:=λ x=>if x=id then Loc.at_ ⟨w.heap.size,i.size,news.length+(Builtin.zeroCells z.cells (c-new.length)).toList.length⟩else μ x) (x:=id) (lo:=0) (n:=new.length) (cap:=c)
   (k:=⟨w.heap.size,i.size,news.length+(Builtin.zeroCells z.cells (c-new.length)).toList.length⟩) (by simp)
   (by simp only[Array.length_toList,size_zeroCells,hzs,hf.hl,dJ];rw[<-dK];exact dC _ (by omega)) hc1 (by omega)
  simpa using this
theorem zbU7(hm:zac5 w W μ s.mem)(hi:∀x y k k',μ x=.at_ k->μ y=.at_ k'->k.b=k'.b->x=y)(hlt:∀b,W b->b<w.heap.size)
  {T U e:TypeId} {i:TypeInfo} {z:Value} {zz:List A} (hT:P.underlying T=some (.slice e)) (hU:(∃e2,P.underlying U=some (.slice e2))\/P.underlying U=some .string) (hinfo:P.info? e=some i) (hz:i.zero=some z) (hzs:z.cells.size=i.size)
  (hpos:0<i.size) {id:Nat} {ty:TypeId} {ad:Option Addr} {x:Value} {olds news:List Value} {es new:List (List A)} (hid:s.mem id=.fresh) (hx:zaO6 P w i.size new.length x news) (hf:Flat (RepK w W μ) i.size news new)
  (hb:zaO6 P w i.size es.length (.slice ad es.length es.length) olds) (hf0:Flat (RepK w W μ) i.size olds es) (hne:new≠[])
  (h63:es.length+new.length<=maxLen) (hby:(es.length+new.length)*i.bytes<=140737488355328):
  ∃v w' W' μ',(Builtin.append_ #[T,U] ty #[.slice ad es.length es.length,x]).run P w=.ok v w'/\Rep w' W' μ' v (.own id 0 (es.length+new.length))/\Step s.mem (setM s.mem [(id,.row ⟨false,i.size,zz,es++new⟩)]) w w' W W' μ μ':=by
 have h1:0<new.length:=gG.2 hne;have hcat:Flat (RepK w W μ) i.size (olds++news) (es++new):=hf0.append hf;obtain⟨c,hc1,hc2,hrun⟩:=zae5 (ty:=ty) (base:=ad) (sLen:=es.length) (sCap:=es.length) (olds:=olds) hT hU hinfo hz hx hf.hl hf0.hl
  (λ w1 hw=>by
   have:=(hb w1 hw).2 es.length (cU _);rwa [<-hf0.hl,fN]at this) (by omega) h63 hby
 have hst:=Step.new (w':=w.drew.alloc (.cells ((olds++news)++(Builtin.zeroCells z.cells (c-(es.length+new.length))).toList).toArray e)) hm hi hlt hid (r:=⟨false,i.size,zz,es++new⟩) (us:=olds++news) (rest:=(Builtin.zeroCells z.cells (c-(es.length+new.length))).toList) (e:=e) hpos (zQ5 _ _) hcat
  (by simpa using heap_alloc_new w.drew _)
 refine⟨_,_,_,_,hrun,?_,hst⟩;have:=zS2 (w:=w.drew.alloc (.cells ((olds++news)++(Builtin.zeroCells z.cells (c-(es.length+new.length))).toList).toArray e)) (W:=λ b=>W b\/b=w.heap.size)
  (μ:=λ x=>if x=id then Loc.at_ ⟨w.heap.size,i.size,(olds++news).length+(Builtin.zeroCells z.cells (c-(es.length+new.length))).toList.length⟩else μ x) (x:=id) (lo:=0) (n:=es.length+new.length) (cap:=c)
  (k:=⟨w.heap.size,i.size,(olds++news).length+(Builtin.zeroCells z.cells (c-(es.length+new.length))).toList.length⟩) (by simp)
  (by simp only[Array.length_toList,size_zeroCells,hzs,hcat.hl,dJ,cX];rw[<-dK];exact dC _ (by omega)) hc1 (by omega)
 simpa using this
theorem zbJ3(hs:SatW E s a w W μ){T U e:TypeId}{i:TypeInfo}{z:Value}(hu:P.underlying T=some (.slice e))(hU:(∃e2,P.underlying U=some (.slice e2))\/P.underlying U=some .string)(hinfo:P.info? e=some i)(hz:i.zero=some z)(hzs:z.cells.size=i.size)
  {id y0 n:Nat} {ty:TypeId} {r:Row} {vx x:Value} {news:List Value} {new:List (List A)} (hx:Rep w W μ vx (.own y0 0 n)) (hid:s.mem id=.fresh) (hr:s.mem y0=.row r) (hro:r.ro=false) (hn0:n<=r.es.length) (hrsz:r.sz=i.size)
  (hsrc:zaO6 P w i.size new.length x news) (hf:Flat (RepK w W μ) i.size news new) (h63:n+new.length<=maxLen) (hby:(n+new.length)*i.bytes<=140737488355328):
  ∃v w' W' μ',(Builtin.append_ #[T,U] ty #[vx,x]).run P w=.ok v w'/\Rep w' W' μ' v (.own id 0 (n+new.length))/\Step s.mem (setM s.mem [(y0,.dead),(id,.row ⟨false,i.size,r.z,r.es.take n++new⟩)]) w w' W W' μ μ':=by
 have hne:id≠y0:=λ e=>by subst e;rw[hid]at hr;cases hr
 have hkill:=Step.kill (x:=y0) hs.mem hs.inj hs.wlt;have hid':setM s.mem [(y0,.dead)] id=.fresh:=by simp[setM,hne,hid]
 rcases hs.own hx hr with⟨hn0,ad,hv⟩|⟨k,cap,h5,h6,h7,h8,h9,hrow⟩
 .subst hn0;have hpos:0<i.size:=hrsz▸hs.posO hx hr;have hf':Flat (RepK w W (λ y=>if y=y0 then .dead else μ y)) i.size news new:=hf.mono λ u b hub=>hub.step hkill;obtain⟨v,w',W',μ',h1,h2,h3⟩:=zby0 (s:=⟨s.fr,setM s.mem [(y0,.dead)]⟩) (zz:=r.z) (ty:=ty) (ad:=ad) hkill.mem hkill.inj hkill.wlt hu hU hinfo hz hzs hpos hid' hsrc rfl hf' (by omega) (by simpa using hby);refine⟨v,w',W',μ',(by rw[hv];exact h1),(by simpa using h2),?_⟩;rw[List.take_zero,List.nil_append];exact hkill.trans h3
 .have hrow':=hrow;obtain⟨_,hksz,hpos,us1,rest1,e0,hheap1,htot1,hf1⟩:=hrow;rw[hrsz]at hksz hpos hf1;obtain⟨us0,hus⟩:∃us0,us0=us1.take (n*i.size):=⟨_,rfl⟩;obtain⟨rest,hrest⟩:∃rest,rest=us1.drop (n*i.size)++rest1:=⟨_,rfl⟩;have hsplit:us1++rest1=us0++rest:=by rw[hus,hrest,<-dW,dY]
  have hheap:w.heap[k.b]? =some (.cells (us0++rest).toArray e0 (0,0)):=hsplit▸hheap1;have htot:us0.length+rest.length=k.tot:=by rw[<-cX,<-hsplit,cX];exact htot1
  obtain⟨esN,hesN⟩:∃esN,esN=r.es.take n:=⟨_,rfl⟩;have hf0:Flat (RepK w W μ) i.size us0 esN:=by rw[hus,hesN];exact hf1.take n
  have hn:n=esN.length:=by rw[hesN,dR];omega
  rw[<-hesN];rw[hksz]at h7;simp only[dJ,gP,hksz]at h6 h7 h9;have hcat:Flat (RepK w W μ) i.size (us0++news) (esN++new):=hf0.append hf
  by_cases hroom:n+new.length<=cap
  .have hlr:news.length<=rest.length:=by
    have e1:=hf0.hl;have e2:=hf.hl;have e3:(n+new.length)*i.size<=cap*i.size:=dC _ hroom;rw[dK]at e3;rw[hn]at e3;omega
   have hul:us0.length=n*i.size:=by rw[hf0.hl,hn]
   have hone:∀u∈news,u.oneCell'=true:=λ u hu'=>by
    obtain⟨q,hq⟩:=fK hu';have hq1:=(cH.1 hq).1;have hql:q/i.size<new.length:=by rw[hf.hl]at hq1;exact(fF hpos).2 hq1
    have hc:=cJ hql;have hcl:=hf.hs _ _ hc;have hj:q% i.size<(new[q/i.size]).length:=by rw[hcl];exact gU _ hpos
    obtain⟨u',hu2,hr2⟩:=hf.ha _ _ _ _ hc (cJ hj);rw[gB]at hu2;rw[hq]at hu2;cases hu2;exact hr2.oneCell
   have hst:=run_storeCells_at P k.b (n*i.size) e0 news 0 (us0++rest).toArray w hheap (by simp;omega) hone;simp only[Nat.add_zero]at hst;have e1:(us0++rest).take (n*i.size)=us0:=by rw[<-hul];exact List.take_left
   have e2:(us0++rest).drop (n*i.size+news.length)=rest.drop news.length:=by rw[<-hul,iR];simp
   rw[e1,e2]at hst;have hrun:=zay1 (ty:=ty) (base:=some ⟨k.b,0,none⟩) (sLen:=n) (sCap:=cap) hu hU hinfo hsrc hf.hl hroom (w':=w.setRow k.b ((us0++news)++rest.drop news.length).toArray)
    (λ ad had=>by cases had;rw[Addr.add_lit,dJ];exact hst) (by simp)
   refine⟨_,_,W,_,(by rw[h6];exact hrun),?_,(Step.moved hs.mem hs.inj hs.wlt h5 hr hro (id:=id) (r':=⟨false,i.size,r.z,esN++new⟩) hrsz.symm hid (zN5 _ _ _) hcat (setRow_heap w k.b _ _ e0 _ hheap) (by simp;omega))⟩;have:=zS2 (w:=w.setRow k.b ((us0++news)++rest.drop news.length).toArray) (W:=W) (μ:=λ y=>if y=id then .at_ k else if y=y0 then .dead else μ y) (x:=id) (lo:=0) (n:=n+new.length) (k:=k) (cap:=cap) (by simp) (by rw[hksz];simpa using h7) hroom (by omega)
   simpa using this
  .obtain⟨c,hc1,hc2,hrun⟩:=zae5 (ty:=ty) (base:=some ⟨k.b,0,none⟩) (sLen:=n) (sCap:=cap) (olds:=us0) hu hU hinfo hz hsrc hf.hl (by rw[hf0.hl,hn])
    (λ w1 hw=>run_firstCells_some w1 i.size n ⟨k.b,0,none⟩ n cap us0 (by rw[hf0.hl,hn]) λ j u hj=>by
     rw[Addr.add_lit,dJ];simp only[World.cell?,hw,hheap,Option.isSome_none,cG,cV,dX];rw[dF (cH.1 hj).1,hj]) (by omega) h63 hby
   have hcat':Flat (RepK w W (λ y=>if y=y0 then .dead else μ y)) i.size (us0++news) (esN++new):=hcat.mono λ u b hub=>hub.step hkill;have hst:=Step.new (w':=w.drew.alloc (.cells ((us0++news)++(Builtin.zeroCells z.cells (c-(n+new.length))).toList).toArray e)) hkill.mem hkill.inj hkill.wlt hid' (r:=⟨false,i.size,r.z,esN++new⟩) (us:=us0++news) (rest:=(Builtin.zeroCells z.cells (c-(n+new.length))).toList) (e:=e) hpos (zQ5 _ _) hcat'
    (by simpa using heap_alloc_new w.drew _)
   refine⟨_,_,_,_,(by rw[h6];exact hrun),?_,(hkill.trans hst)⟩;have:=zS2 (w:=w.drew.alloc (.cells ((us0++news)++(Builtin.zeroCells z.cells (c-(n+new.length))).toList).toArray e)) (W:=λ b=>W b\/b=w.heap.size)
    (μ:=λ x=>if x=id then Loc.at_ ⟨w.heap.size,i.size,(us0++news).length+(Builtin.zeroCells z.cells (c-(n+new.length))).toList.length⟩else if x=y0 then .dead else μ x) (x:=id) (lo:=0) (n:=n+new.length) (cap:=c)
    (k:=⟨w.heap.size,i.size,(us0++news).length+(Builtin.zeroCells z.cells (c-(n+new.length))).toList.length⟩) (by simp)
    (by simp only[Array.length_toList,size_zeroCells,hzs,hcat.hl,dJ,cX,<-hn];rw[<-dK];exact dC _ (by omega)) hc1 (by omega)
   simpa using this
theorem zbU8(hs:SatW E s a w W μ){x y:Operand}{T U:TypeId}{sz bytes id:Nat}{zz:List A}{ax ay:A}{ef:Ef}(ho:o.op=.call {callee:=.builtin .append,args:=#[x,y],argTypes:=#[T,U]})(hT:zba7 P T U sz bytes=true)
  (hx:Rep w W μ (a.eval x) ax) (hy:Rep w W μ (a.eval y) ay) (hid:s.mem id=.fresh) (he:ev id s.mem (.append sz bytes zz) [ax,ay]=some ef) (hobl:ef.obl):zq3 P o a w W μ s.mem ef.v (setM s.mem ef.mw):=by
 obtain⟨e,i,z,hu,hinfo,hsz,hbytes,hz,hzs,hU⟩:=zaQ4 hT;subst hsz;subst hbytes;have fin:∀v w' W' μ',(Builtin.append_ #[T,U] o.type #[a.eval x,a.eval y]).run P w=.ok v w'->Rep w' W' μ' v ef.v->Step s.mem (setM s.mem ef.mw) w w' W W' μ μ'->zq3 P o a w W μ s.mem ef.v (setM s.mem ef.mw):=λ v w' W' μ' h1 h2 h3=>
  ⟨.value v,v,w',W',μ',by simp[execOp,ho,resolve,invoke,builtin,h1],.inl rfl,h2,h3⟩
 simp only[ev]at he;cases hel:zao0 s.mem ay with
 |none=>simp[hel]at he
 |some new=>
  simp only[hel,Option.bind_some]at he;split at he
  .rename_i es;cases he;obtain⟨hpos,hes,hall0,hok,hall,hby,h63⟩:=hobl;obtain⟨news,hsrc,hf⟩:=zbg3 (P:=P) hs hy hel hok hall;obtain⟨_,ad,hv⟩:=RepC.of_full (show RepC w W (a.eval x) (.full es)from hx)
   by_cases h0:es=[]
   .subst h0;obtain⟨v,w',W',μ',h1,h2,h3⟩:=zby0 (zz:=zz) (ty:=o.type) (ad:=ad) hs.mem hs.inj hs.wlt hu hU hinfo hz hzs hpos hid hsrc rfl hf (by simpa using h63) (by simpa using hby);exact fin v w' W' μ' (by rw[hv];exact h1) (by simpa using h2) (by simpa using h3)
   .obtain⟨olds,hsrc0,hf0⟩:=zbg3 (P:=P) hs hx (new:=es) rfl trivial hall0;rw[hv]at hsrc0;obtain⟨v,w',W',μ',h1,h2,h3⟩:=zbU7 (zz:=zz) (ty:=o.type) (ad:=ad) hs.mem hs.inj hs.wlt hu hU hinfo hz hzs hpos hid hsrc hf hsrc0 hf0 (hes.resolve_left h0) h63 hby;exact fin v w' W' μ' (by rw[hv];exact h1) h2 h3
  .rename_i y0 lo n;split at he
   .rename_i r hr;cases he;obtain⟨hro,rfl,hn,hrsz,hok,hall,hby,h63⟩:=hobl;obtain⟨news,hsrc,hf⟩:=zbg3 (P:=P) hs hy hel hok hall;obtain⟨v,w',W',μ',h1,h2,h3⟩:=zbJ3 (ty:=o.type) hs hu hU hinfo hz hzs hx hid hr hro (Nat.le_of_eq hn) hrsz hsrc hf h63 hby;have e:r.es.take n=r.es:=by rw[hn,fN]
    rw[e]at h3;exact fin v w' W' μ' h1 h2 h3
   .cases he
  .cases he
theorem zco8(hs:SatW E s a w W μ){x y:Operand}{T U:TypeId}{sz bytes id:Nat}{ax ay:A}{ef:Ef}(ho:o.op=.call {callee:=.builtin .append,args:=#[x,y],argTypes:=#[T,U]})(hT:zba7 P T U sz bytes=true)
  (hx:Rep w W μ (a.eval x) ax) (hy:Rep w W μ (a.eval y) ay) (hid:s.mem id=.fresh) (he:ev id s.mem (.appc sz bytes) [ax,ay]=some ef) (hobl:ef.obl):zq3 P o a w W μ s.mem ef.v (setM s.mem ef.mw):=by
 obtain⟨e,i,z,hu,hinfo,hsz,hbytes,hz,hzs,hU⟩:=zaQ4 hT;subst hsz;subst hbytes;simp only[ev]at he;cases hel:zao0 s.mem ay with
 |none=>simp[hel]at he
 |some new=>
  simp only[hel,Option.bind_some]at he;split at he
  .rename_i y0 lo n;split at he
   .rename_i r hr;cases he;obtain⟨hro,rfl,hn,hrsz,hok,hall,hby,h63⟩:=hobl;obtain⟨news,hsrc,hf⟩:=zbg3 (P:=P) hs hy hel hok hall;obtain⟨v,w',W',μ',h1,h2,h3⟩:=zbJ3 (ty:=o.type) hs hu hU hinfo hz hzs hx hid hr hro hn hrsz hsrc hf h63 hby;exact⟨.value v,v,w',W',μ',by simp[execOp,ho,resolve,invoke,builtin,h1],.inl rfl,h2,h3⟩
   .cases he
  .cases he
theorem zcO2(hs:SatW E s a w W μ){x y:Operand}{T U:TypeId}{sz bytes:Nat}{es:List (List A)}(ho:o.op=.call {callee:=.builtin .append,args:=#[x,y],argTypes:=#[T,U]})(hT:zba7 P T U sz bytes=true)
  (hx:Rep w W μ (a.eval x) (.full [])) (hy:Rep w W μ (a.eval y) (.sl es)) (hall:zH7 sz es) (hby:es.length*bytes<=140737488355328) (h63:es.length<=maxLen):zq3 P o a w W μ s.mem (.sl es) s.mem:=by
 obtain⟨e,i,z,hu,hinfo,hsz,hbytes,hz,hzs,hU⟩:=zaQ4 hT;subst hsz;subst hbytes;obtain⟨_,ad,hv⟩:=RepC.of_full (show RepC w W (a.eval x) (.full [])from hx);have fin:∀v w',(Builtin.append_ #[T,U] o.type #[a.eval x,a.eval y]).run P w=.ok v w'->RepC w' W v (.sl es)->Keeps (λ _=>False) w w'->zq3 P o a w W μ s.mem (.sl es) s.mem:=λ v w' h1 h2 h3=>
  ⟨.value v,v,w',W,μ,by simp[execOp,ho,resolve,invoke,builtin,h1],.inl rfl,zB5 h2,Step.quiet h3 hs.mem hs.inj hs.wlt⟩
 rcases(show RepC w W (a.eval y) (.sl es)from hy).open_sl with⟨rfl,ad2,cap,hv2⟩|⟨b,off,cap,sz',us,hv2,hb,hlt,hn,hcap,hf,hc⟩
 .refine fin (.slice ad 0 0) w ?_ (.sl0 _ _) (Keeps.refl _ w);rw[hv,hv2];exact zay1 hu hU hinfo (m:=0) (sLen:=0) (sCap:=0) (news:=[]) (zaj1 (by simp) (by simp) (by simp)) (by simp) (cU _) (λ b _=>by simp[storeCells]) (λ _=>rfl)
 .have hsz:sz'=i.size:=by
   have h0:es[0]? =some es[0]:=by simp
   rw[<-hf.hs _ _ h0];exact hall _ (cN h0)
  subst hsz;have hsrc:zaO6 P w i.size es.length (a.eval y) us:=by rw[hv2];exact zaj1 hf.hl (λ ad had j u hj=>by cases had;rw[Addr.add_lit];exact hc j u hj) (by simp)
  obtain⟨c,hc1,hc2,hrun⟩:=zae5 (ty:=o.type) (base:=ad) (sLen:=0) (sCap:=0) (olds:=[]) hu hU hinfo hz hsrc hf.hl (by simp)
   (λ w1 hw=>by cases ad<;>simp[Builtin.firstCells,loadCells,loadCellsFrom]) (by omega) (by omega) (by simpa using hby)
  simp only[dJ,List.nil_append]at hrun hc1;have hk:=zQ5 w (.cells (us++(Builtin.zeroCells z.cells (c-es.length)).toList).toArray e);have hfc:Flat (RepC (w.drew.alloc (.cells (us++(Builtin.zeroCells z.cells (c-es.length)).toList).toArray e)) W) i.size us es:=hf.mono λ u b hr=>hr.keep hk (λ _ _ _ h=>h) (λ _ _ h=>h);refine fin _ _ (by rw[hv];exact hrun) (RepC.mk_sl (b:=w.heap.size) (off:=0) (λ h=>absurd (hs.wlt _ h) (hJ _)) (by simp) hc1 hfc λ q u hq=>?_) hk;rw[dJ,show w.heap.size=w.drew.heap.size from rfl,World.cell?_alloc_new];rw[dX,dF (cH.1 hq).1,hq]
end
section
variable {P:Program} {o:Oper} {a:Act} {E:Env} {s:S} {w:World} {W:Nat→Prop} {μ:Nat→Loc}
def Cs(R:Value->A->Prop)(us:List Value)(cs:List A):Prop:=us.length=cs.length/\∀(i:Nat) (u:Value) (b:A),us[i]? =some u->cs[i]? =some b->R u b
theorem Cs.upd{R:Value->A->Prop}{us vs:List Value}{c d:List A}(h:Cs R us c)(k:Cs R vs d)(j:Nat)(hj:j+d.length<=c.length):Cs R (us.take j++vs++us.drop (j+vs.length)) (Ab.upd c j d):=by
 have h1:=Flat.upd (R:=R) (c:=c) (Flat.one h.1 h.2) k.1 k.2 j hj;have hlen:(Ab.upd c j d).length=c.length:=by simp[Ab.upd];omega
 refine⟨by rw[hlen];simpa using h1.hl,λ i u b hu hb=>?_⟩;obtain⟨u',hu',hr⟩:=h1.ha 0 _ i b rfl hb;simp only[gP,dJ]at hu';rw[hu]at hu';cases hu';exact hr
theorem zbo3(us:List Value):∀(off k:Nat) (cells:Array Value),off+k+us.length<=cells.size->
  (((us.zipIdx k).foldl (λ cs q=>cs.setIfInBounds (off+q.2) q.1) cells)).toList=cells.toList.take (off+k)++us++cells.toList.drop (off+k+us.length):=by
 induction us with
 |nil=>intro off k cells h;simp
 |cons u us ih=>intro off k cells h;simp only[List.zipIdx_cons,List.foldl_cons,List.length_cons]at h⊢;rw[ih off (k+1) _ (by simp;omega)];rw[Array.toList_setIfInBounds];have:=list_seg_step cells.toList (off+k) u us (by simp;omega);rw[show off+(k+1)=off+k+1 by omega];exact this
def zaQ5(place:Nat->Option (Nat×Nat)):List (Nat×Operand)->List (Nat×Nat)->Bool
 |[],[]=>true
 |p::ps,q::qs=>place p.1==some q&&zaQ5 place ps qs
 |_,_=>false
theorem zbg4(ρ:Operand->Value)(place:Nat->Option (Nat×Nat)):∀(parts:List (Nat×Operand)) (ps:List (Nat×Nat)) (xs:List A) (cells:Array Value) (z:List A),zaQ5 place parts ps=true->parts.length=xs.length->
  (∀(i:Nat) (p:Nat×Operand) (x:A),parts[i]? =some p->xs[i]? =some x->Rep w W μ (ρ p.2) x)->zbf7 z.length ps xs->Cs (RepK w W μ) cells.toList z->
  ∃us:List Value,Instr.fill place cells (parts.map λ p=>(p.1,ρ p.2))=some us.toArray/\Cs (RepK w W μ) us (laid z ps xs)
 |[],[],xs,cells,z,_,hl,_,_,hc=>by have:xs=[]:=cW hl.symm;subst this;exact⟨cells.toList,by simp[Instr.fill],by simpa [laid]using hc⟩
 |p::parts,q::ps,x::xs,cells,z,hf,hl,hr,hok,hc=>by
  simp only[zaQ5,cF,cY]at hf;obtain⟨hv,hlen,hfit,hok'⟩:=hok;obtain⟨us,hu,hul,hur⟩:=(hr 0 p x rfl rfl).toCells hv;have hcl:cells.size=z.length:=by simpa using hc.1
  have hq:us.length=q.2:=by rw[hul,hlen]
  have hset:=zbo3 us q.1 0 cells (by omega);simp only[Nat.add_zero]at hset;have hupd:=hc.upd ⟨hul,hur⟩ q.1 (by omega);have hzl:(Ab.upd z q.1 x.cells).length=z.length:=by simp[Ab.upd];omega
  obtain⟨us',h1,h2⟩:=zbg4 ρ place parts ps xs ((us.zipIdx).foldl (λ cs q'=>cs.setIfInBounds (q.1+q'.2) q'.1) cells) (Ab.upd z q.1 x.cells) hf.2 (by simpa using hl) (λ i p' x' h3 h4=>hr (i+1) p' x' h3 h4)
   (hzl▸hok') (by rw[hset];exact hupd)
  refine⟨us',?_,by simpa [laid]using h2⟩;simp only[dI,Instr.fill,hf.1];have hs1:(ρ p.2).cells.size=q.2:=by rw[hu];simpa using hq
  rw[cL (by simp[hs1];omega)];rw[<-h1];congr 1;rw[hu];simp
 |[],_::_,_,_,_,hf,_,_,_,_=>by simp[zaQ5]at hf
 |_::_,[],_,_,_,hf,_,_,_,_=>by simp[zaQ5]at hf
 |_::_,_::_,[],_,_,_,hl,_,_,_=>by simp at hl
theorem zaT8{α β:Type}(f:α->Sem β)(g:α->β):∀(l:List α),(∀x∈l,(f x).run P w=.ok (g x) w)->(l.mapM f).run P w=.ok (l.map g) w
 |[],_=>by simp
 |x::l,h=>by have ih:=zaT8 f g l (λ y hy=>h y (fB _ hy));simp[iZ,h x (by simp),ih]
def zbo4(P:Program)(f:Field):Nat×Nat:=(f.offset,match P.info? f.type with|some k=>k.size|none=>0)
def zbs4(P:Program)(T:TypeId)(parts:List (Nat×Operand))(ps:List (Nat×Nat)):Bool:=
 match P.underlying T with
 |some (.struct fs)=>fs.toList.all (λ(f:Field)=>match P.info? f.type with|some _=>true|none=>false)&&
   zaQ5 (λ i=>(fs.toList[i]?).map (zbo4 P)) parts ps
 |some (.array _ e)=>match P.info? e with
  |some k=>zaQ5 (λ i=>some (i*k.size,k.size)) parts ps
  |none=>false
 |_=>false
theorem zce4(hs:SatW E s a w W μ){T:TypeId}{parts:Array (Nat×Operand)}{z:List A}{ps:List (Nat×Nat)}{xs:List A}(ho:o.op=.build T parts)(hz:zaI9 P T z=true)(hT:zbs4 P T parts.toList ps=true)
  (hl:parts.toList.length=xs.length) (hx:∀(i:Nat) (p:Nat×Operand) (x:A),parts.toList[i]? =some p->xs[i]? =some x->Rep w W μ (a.eval p.2) x) (hobl:zbf7 z.length ps xs):
  zq3 P o a w W μ s.mem (.agg (laid z ps xs)) s.mem:=by
 obtain⟨v,hv,_,hzl,hzr⟩:=zav3 hz;have hc:Cs (RepK w W μ) v.cells.toList z:=⟨hzl,λ i u b h1 h2=>zp5 (hzr w W i u b h1 h2)⟩;have fin:∀us:List Value,(Instr.build T (parts.map λ(i,x)=>(i,a.eval x))).run P w=.ok (.agg us.toArray) w->Cs (RepK w W μ) us (laid z ps xs)->zq3 P o a w W μ s.mem (.agg (laid z ps xs)) s.mem:=λ us h1 h2=>
  hs.still (v:=.agg us.toArray) (by simp only[execOp,ho,Sem.run_bind,h1,Result.andThen_ok,Sem.run_pure]) ⟨us,rfl,h2.1,h2.2⟩
 unfold zbs4 at hT;split at hT
 .rename_i fs hu;simp only[cF]at hT;obtain⟨hall,hfill⟩:=hT;obtain⟨us,h1,h2⟩:=zbg4 (w:=w) (W:=W) (μ:=μ) a.eval _ parts.toList ps xs v.cells z hfill hl hx hobl hc;refine fin us ?_ h2;have hpl:(fs.mapM λ(f:Field)=>do pure (f.offset,<-sizeOf f.type):Sem (Array (Nat×Nat))).run P w=.ok ((fs.toList.map (zbo4 P)).toArray) w:=by
   have e:fs=fs.toList.toArray:=by simp
   rw[e,List.mapM_toArray];simp only[Sem.run_map];rw[zaT8 _ (zbo4 P) fs.toList (λ f hf=>by
    have:=gV.1 hall f hf;cases hi:P.info? f.type with
    |none=>simp[hi]at this
    |some k=>simp[zH8 hi,zbo4,hi])]
   simp
  simp only[Instr.build,Sem.run_bind,hv,Result.andThen_ok,run_underlying hu,hpl];have e2:(λ i:Nat=>((fs.toList.map (zbo4 P)).toArray)[i]?)=(λ i:Nat=>(fs.toList[i]?).map (zbo4 P)):=by funext i;simp
  have e3:(parts.map λ(x:Nat×Operand)=>(x.1,a.eval x.2)).toList=parts.toList.map λ p=>(p.1,a.eval p.2):=by simp
  rw[e2,e3,h1];rfl
 .rename_i n e hu;cases hi:P.info? e with
  |none=>simp[hi]at hT
  |some k=>
   simp only[hi]at hT;obtain⟨us,h1,h2⟩:=zbg4 (w:=w) (W:=W) (μ:=μ) a.eval _ parts.toList ps xs v.cells z hT hl hx hobl hc;refine fin us ?_ h2;have e3:(parts.map λ(x:Nat×Operand)=>(x.1,a.eval x.2)).toList=parts.toList.map λ p=>(p.1,a.eval p.2):=by simp
   simp only[Instr.build,Sem.run_bind,hv,Result.andThen_ok,run_underlying hu,zH8 hi];rw[e3,h1];rfl
 .cases hT
def zbs5(P:Program)(T:TypeId):Bool:=match P.info? T with|some i=>i.zero.isSome|none=>false
theorem zbs6{P:Program}{T:TypeId}(h:zbs5 P T=true):∃v,∀w,(zeroValue T).run P w=.ok v w:=by
 unfold zbs5 at h;split at h
 .rename_i i hi;obtain⟨v,hv⟩:=Option.isSome_iff_exists.1 h;exact⟨v,λ w=>by simp[zeroValue,typeInfo,hi,hv]⟩
 .cases h
def bsTy(P:Program)(T:TypeId)(sz:Nat)(z:List A):Bool:=
 match P.underlying T with
 |some (.slice e)=>szIs P e sz&&zbs5 P e&&z.length==sz
 |_=>false
def zav4:Nat->List (Nat×Operand)->Bool
 |_,[]=>true
 |n,p::ps=>p.1==n&&zav4 (n+1) ps
theorem zbo5(ρ:Operand->Value)(sz:Nat):∀(parts:List (Nat×Operand)) (n:Nat) (xs:List A) (pre:List Value) (post:List Value) (es:List (List A)),zav4 n parts=true->parts.length=xs.length->
  (∀(i:Nat) (p:Nat×Operand) (x:A),parts[i]? =some p->xs[i]? =some x->Rep w W μ (ρ p.2) x)->allV xs=true->zH7 sz (zx0 xs)->Flat (RepK w W μ) sz pre es->es.length=n->post.length=xs.length*sz->
  ∃us:List Value,Instr.fill (λ i=>some (i*sz,sz)) (pre++post).toArray (parts.map λ p=>(p.1,ρ p.2))=some us.toArray/\Flat (RepK w W μ) sz us (es++zx0 xs)
 |[],n,xs,pre,post,es,_,hl,_,_,_,hf,_,hp=>by have:xs=[]:=cW hl.symm;subst this;have:post=[]:=cW (by simpa using hp);subst this;exact⟨pre,by simp[Instr.fill],by simpa [zx0]using hf⟩
 |p::parts,n,x::xs,pre,post,es,ho,hl,hr,hv,ha,hf,hn,hp=>by
  simp only[zav4,cF,cY]at ho;simp only[allV,cF]at hv;obtain⟨us,hu,hul,hur⟩:=(hr 0 p x rfl rfl).toCells hv.1;have hxl:x.cells.length=sz:=ha _ (by simp[zx0]);have hpl:pre.length=n*sz:=by rw[hf.hl,hn]
  have hpo:post.length=sz+xs.length*sz:=by rw[hp,List.length_cons,dK];omega
  have h1:Flat (RepK w W μ) sz (pre++us) (es++[x.cells]):=hf.append (hxl▸Flat.one hul hur);obtain⟨us',h2,h3⟩:=zbo5 ρ sz parts (n+1) xs (pre++us) (post.drop sz) (es++[x.cells]) ho.2 (by simpa using hl) (λ i p' x' h4 h5=>hr (i+1) p' x' h4 h5) hv.2
   (λ c hc=>ha c (by simp[zx0,hc])) h1 (by simp[hn]) (by simp[hpo])
  refine⟨us',?_,by simpa [zx0]using h3⟩;simp only[dI,Instr.fill,ho.1];have hs1:(ρ p.2).cells.size=sz:=by rw[hu];simp;omega
  rw[cL (by simp[hs1,hpl,hpo])];rw[<-h2];congr 1;rw[hu];have hset:=zbo3 us (n*sz) 0 (pre++post).toArray (by simp[hpl,hpo];omega);simp only[Nat.add_zero]at hset;have e4:us.toArray.zipIdx.foldl (λ cs x=>cs.setIfInBounds (n*sz+x.2) x.1) (pre++post).toArray=us.zipIdx.foldl (λ cs x=>cs.setIfInBounds (n*sz+x.2) x.1) (pre++post).toArray:=by simp
  apply Array.ext';rw[show(us.toArray.zipIdx.foldl (λ cs (x:Value×Nat)=>match x with|(c,j)=>cs.setIfInBounds (n*sz+j) c) (pre++post).toArray)=us.zipIdx.foldl (λ cs x=>cs.setIfInBounds (n*sz+x.2) x.1) (pre++post).toArray from e4];rw[hset];simp only[List.take_left' hpl];have e2:(pre++post).drop (n*sz+us.length)=post.drop sz:=by rw[<-hpl,iR];simp[hul,hxl]
  simp[e2]
 |_::_,_,[],_,_,_,_,hl,_,_,_,_,_,_=>by simp at hl
theorem zaJ0{T:TypeId}{parts:Array (Nat×Operand)}{sz:Nat}{z:List A}{xs:List A}(hT:bsTy P T sz z=true)(hord:zav4 0 parts.toList=true)(hl:parts.toList.length=xs.length)(hsmall:xs.length*sz<=16777216)
  {ρ:Operand->Value} (hx:∀(i:Nat) (p:Nat×Operand) (x:A),parts.toList[i]? =some p->xs[i]? =some x->Rep w W μ (ρ p.2) x) (hv:allV xs=true) (ha:zH7 sz (zx0 xs)):
  ∃us e,(Instr.buildSlice T xs.length (parts.map λ(i,x)=>(i,ρ x))).run P w=.ok (.slice (some ⟨w.heap.size,0,none⟩) xs.length xs.length) (w.alloc (.cells us.toArray e))/\Flat (RepK w W μ) sz us (zx0 xs):=by
 unfold bsTy at hT;split at hT
 .rename_i e hu;simp only[cF,cY]at hT;obtain⟨⟨h1,h2⟩,h3⟩:=hT;obtain⟨v,hzv⟩:=zbs6 h2;have e3:(parts.map λ(x:Nat×Operand)=>(x.1,ρ x.2)).toList=parts.toList.map λ p=>(p.1,ρ p.2):=by simp
  have main:∀za:Array Value,∃us:List Value,Instr.fill (λ i=>some (i*sz,sz)) ((Array.range (xs.length*sz)).map λ i=>za[i% za.size]!) (parts.map λ(x:Nat×Operand)=>(x.1,ρ x.2)).toList=some us.toArray/\Flat (RepK w W μ) sz us (zx0 xs):=λ za=>by obtain⟨us,h4,h5⟩:=zbo5 (w:=w) (W:=W) (μ:=μ) ρ sz parts.toList 0 xs [] ((Array.range (xs.length*sz)).map λ i=>za[i% za.size]!).toList [] hord hl hx hv ha (Flat.nil _ _) rfl (by simp);refine⟨us,?_,by simpa using h5⟩;rw[List.nil_append,Array.toArray_toList]at h4;rw[e3,<-h4]
  by_cases h0:xs.length*sz=0
  .obtain⟨us,h4,h5⟩:=main #[];refine⟨us,e,?_,h5⟩;simp only[Instr.buildSlice,Sem.run_bind,run_underlying hu,Result.andThen_ok,zae4 h1];rw[cL (by omega),cQ h0];simp only[Sem.run_bind,Sem.run_pure,Result.andThen_ok,h4];simp[newRow,newObj,Sem.run]
  .obtain⟨us,h4,h5⟩:=main v.cells;refine⟨us,e,?_,h5⟩;simp only[Instr.buildSlice,Sem.run_bind,run_underlying hu,Result.andThen_ok,zae4 h1];rw[cL (by omega),cL h0];simp only[Sem.run_bind,Sem.run_pure,hzv,Result.andThen_ok,h4];simp[newRow,newObj,Sem.run]
 .cases hT
theorem zan6:∀xs:List A,(zx0 xs).length=xs.length
 |[]=>rfl
 |_::xs=>by simp[zx0,zan6 xs]
theorem zco9(hs:SatW E s a w W μ){T:TypeId}{parts:Array (Nat×Operand)}{sz id n:Nat}{z:List A}{xs:List A}(ho:o.op=.buildSlice T n parts)(hn:n=xs.length)(hT:bsTy P T sz z=true)(hord:zav4 0 parts.toList=true)(hl:parts.toList.length=xs.length)(hsmall:xs.length*sz<=16777216)
  (hx:∀(i:Nat) (p:Nat×Operand) (x:A),parts.toList[i]? =some p->xs[i]? =some x->Rep w W μ (a.eval p.2) x) (hid:s.mem id=.fresh) (hpos:0<sz) (hv:allV xs=true) (ha:zH7 sz (zx0 xs)):
  zq3 P o a w W μ s.mem (.own id 0 xs.length) (setM s.mem [(id,.row ⟨false,sz,z,zx0 xs⟩)]):=by
 subst hn;obtain⟨us,e,hrun,hf⟩:=zaJ0 (w:=w) (W:=W) (μ:=μ) hT hord hl hsmall hx hv ha;have hst:=Step.new (w':=w.alloc (.cells us.toArray e)) hs.mem hs.inj hs.wlt hid (r:=⟨false,sz,z,zx0 xs⟩) (us:=us) (rest:=[]) (e:=e) hpos (zR5 _ _) hf (by simpa using heap_alloc_new w _);refine⟨_,.slice (some ⟨w.heap.size,0,none⟩) xs.length xs.length,_,_,_,?_,.inl rfl,?_,hst⟩
 .simp only[execOp,ho,Sem.run_bind,hrun,Result.andThen_ok,Sem.run_pure]
 .have hk:us.length=xs.length*sz:=by rw[hf.hl,zan6]
  by_cases hb:xs.length<=maxLen
  .have:=zS2 (w:=w.alloc (.cells us.toArray e)) (W:=λ b=>W b\/b=w.heap.size) (μ:=λ x=>if x=id then Loc.at_ ⟨w.heap.size,sz,us.length+([]:List Value).length⟩else μ x) (x:=id) (lo:=0) (n:=xs.length) (cap:=xs.length)
    (k:=⟨w.heap.size,sz,us.length+([]:List Value).length⟩) (by simp) (by simp[hk]) (cU _) (by omega)
   simpa using this
  .exfalso;have:xs.length<=xs.length*sz:=Nat.le_mul_of_pos_right _ hpos;simp only[maxLen]at hb;omega
theorem zbU9(hs:SatW E s a w W μ){T:TypeId}{parts:Array (Nat×Operand)}{sz n:Nat}{z:List A}{xs:List A}(ho:o.op=.buildSlice T n parts)(hn:n=xs.length)(hT:bsTy P T sz z=true)(hord:zav4 0 parts.toList=true)(hl:parts.toList.length=xs.length)(hsmall:xs.length*sz<=16777216)
  (hx:∀(i:Nat) (p:Nat×Operand) (x:A),parts.toList[i]? =some p->xs[i]? =some x->Rep w W μ (a.eval p.2) x) (hv:allV xs=true) (ha:zH7 sz (zx0 xs)) (hpure:zN4 (zx0 xs)):
  zq3 P o a w W μ s.mem (.full (zx0 xs)) s.mem:=by
 subst hn;obtain⟨us,e,hrun,hf⟩:=zaJ0 (w:=w) (W:=W) (μ:=μ) hT hord hl hsmall hx hv ha;have hk:=zR5 w (.cells us.toArray e);refine⟨_,.slice (some ⟨w.heap.size,0,none⟩) xs.length xs.length,_,W,μ,?_,.inl rfl,?_,Step.quiet hk hs.mem hs.inj hs.wlt⟩
 .simp only[execOp,ho,Sem.run_bind,hrun,Result.andThen_ok,Sem.run_pure]
 .have hfc:Flat (RepC (w.alloc (.cells us.toArray e)) W) sz us (zx0 xs):=by
   refine⟨hf.hl,hf.hs,λ i c j b hc hb=>?_⟩;obtain⟨u,hu,hr⟩:=hf.ha i c j b hc hb;exact⟨u,hu,(hr.toC (hpure c (cN hc) b (cN hb))).keep hk (λ _ _ _ h=>h) (λ _ _ h=>h)⟩
  have hlen:=zan6 xs;have:RepC (w.alloc (.cells us.toArray e)) W (.slice (some ⟨w.heap.size,0,none⟩) (zx0 xs).length (zx0 xs).length) (.sl (zx0 xs)):=
   RepC.mk_sl (λ h=>absurd (hs.wlt _ h) (hJ _)) (by simp) (cU _) hfc λ q u hq=>by
    rw[dJ,World.cell?_alloc_new]
    simpa using hq
  rw[hlen]at this;exact zB5 (.full _ _ _ this)
def mkTy(P:Program)(T:TypeId)(sz bytes:Nat)(z:List A):Bool:=
 match P.underlying T with
 |some (.slice e)=>(match P.info? e with|some i=>i.size==sz&&i.bytes==bytes|none=>false)&&zaI9 P e z&&z.length==sz
 |_=>false
theorem zbg5{za:Array Value}{z:List A}(hz:Cs (RepK w W μ) za.toList z)(hpos:0<z.length)(n c:Nat)(hnc:n<=c):
  ∃us rest:List Value,((Array.range (c*z.length)).map λ i=>za[i% za.size]!)=(us++rest).toArray/\us.length+rest.length=c*z.length/\Flat (RepK w W μ) z.length us (List.replicate n z):=by
 have hsz:za.size=z.length:=by simpa using hz.1
 obtain⟨L,hL⟩:∃L,L=((Array.range (c*z.length)).map λ i=>za[i% za.size]!).toList:=⟨_,rfl⟩;have hlen:L.length=c*z.length:=by simp[hL]
 have hle:=dC z.length hnc;refine⟨L.take (n*z.length),L.drop (n*z.length),by rw[dY,hL,Array.toArray_toList],by rw[<-cX,dY,hlen],?_⟩;refine⟨by rw[dR,hlen,fJ hle,fG],λ i c' hc'=>?_,λ i c' j b hc' hb=>?_⟩
 .rw[List.getElem?_replicate]at hc';split at hc'<;>simp_all
 .rw[List.getElem?_replicate]at hc';split at hc'
  .rename_i hi;cases hc';have hj:j<z.length:=(cH.1 hb).1;have hlt:i*z.length+j<n*z.length:=by
    have:(i+1)*z.length<=n*z.length:=dC _ hi;rw[dK]at this;omega
   have hja:j<za.size:=by omega
   refine⟨za[j],?_,hz.2 j _ b (by simp[hja]) hb⟩;rw[dG,cQ hlt,hL];have:(i*z.length+j)% za.size=j:=by rw[hsz,iT,Nat.mul_add_mod,Nat.mod_eq_of_lt hj]
   have hlt2:i*z.length+j<c*z.length:=by omega
   simp[hlt2,this,hja]
  .cases hc'
theorem y_mk(hs:SatW E s a w W μ){T:TypeId}{x y:Operand}{sz bytes id:Nat}{z:List A}{k k2:IntKind}{l c:Int}(ho:o.op=.makeSlice T x y)(hT:mkTy P T sz bytes z=true)(hx:Rep w W μ (a.eval x) (.int k l))(hy:Rep w W μ (a.eval y) (.int k2 c))(hid:s.mem id=.fresh)
  (hpos:0<sz) (hl0:0<=l) (hlc:l<=c) (hby:c*bytes<=140737488355328) (hcm:c<=maxLen):
  zq3 P o a w W μ s.mem (.own id 0 l.toNat) (setM s.mem [(id,.row ⟨false,sz,z,List.replicate l.toNat z⟩)]):=by
 unfold mkTy at hT;split at hT
 .rename_i e hu;simp only[cF,cY]at hT;obtain⟨⟨h1,h2⟩,h3⟩:=hT;subst h3;split at h1
  .rename_i i hi;simp only[cF,cY]at h1;obtain⟨h1,h1b⟩:=h1;obtain⟨v,hzv,_,hzl,hzr⟩:=zav3 h2;have hcs:Cs (RepK w W μ) v.cells.toList z:=⟨hzl,λ q u b h1 h2=>zp5 (hzr w W q u b h1 h2)⟩;obtain⟨us,rest,harr,htot,hf⟩:=zbg5 hcs hpos l.toNat c.toNat (by omega);have hst:=Step.new (w':=w.alloc (.cells (us++rest).toArray e)) hs.mem hs.inj hs.wlt hid (r:=⟨false,z.length,z,List.replicate l.toNat z⟩) (us:=us) (rest:=rest) (e:=e) hpos (zR5 _ _) hf (by simpa using heap_alloc_new w _);refine⟨_,.slice (some ⟨w.heap.size,0,none⟩) l.toNat c.toNat,_,_,_,?_,.inl rfl,?_,hst⟩
   .have hc64:c<=9223372036854775807:=by simp only[maxLen]at hcm;omega
    have hwl:IntKind.i64.wrap l=l:=IntWalk.i64_in _ (by omega);have hwc:IntKind.i64.wrap c=c:=IntWalk.i64_in _ (by omega);have e1:¬c<0:=by omega
    have e2:¬281474976710656<(bytes:Int)*c:=by rw[Int.mul_comm];omega
    have e3:¬l<0:=by omega
    have e4:¬c<l:=by omega
    have ask:∀b:Nat,(askRoom b).run P w=.ok () w:=λ b=>by unfold askRoom;split<;>simp[mark,Sem.run]
    simp only[execOp,ho,hx.int,hy.int,Instr.makeSlice,Sem.run_bind,run_underlying hu,Result.andThen_ok,asInt,asIntOf,Sem.run_pure,typeInfo,run_program,hi,hwl,hwc,h1b];simp only[e1,e2,e3,e4,ask,Int.reducePow,gt_iff_lt,decide_false,cG,cV,Sem.run_pure,Result.andThen_ok,Sem.run_bind,zH8 hi,iH,Sem.run_ite];have hnr:∀arr:Array Value,arr=(us++rest).toArray->(newRow e arr).run P w=.ok ⟨w.heap.size,0,none⟩ (w.alloc (.cells (us++rest).toArray e)):=λ arr h=>by subst h;simp[newRow,newObj,Sem.run]
    by_cases h0:c.toNat*i.size=0
    .rw[cQ h0,hnr _ (by rw[<-harr,<-h1,h0];simp)];rfl
    .rw[cL h0];simp only[hzv,Result.andThen_ok];rw[hnr _ (by rw[h1];exact harr)];rfl
   .have:=zS2 (w:=w.alloc (.cells (us++rest).toArray e)) (W:=λ b=>W b\/b=w.heap.size) (μ:=λ x=>if x=id then Loc.at_ ⟨w.heap.size,z.length,us.length+rest.length⟩else μ x) (x:=id) (lo:=0) (n:=l.toNat) (cap:=c.toNat)
     (k:=⟨w.heap.size,z.length,us.length+rest.length⟩) (by simp) (by simp[htot]) (by omega) (by omega)
    simpa using this
  .cases h1
 .cases hT
theorem zcp0{id:Nat}(hs:SatW E s a w W μ){x y:Operand}{T U:TypeId}{sz:Nat}{ax ay:A}{ef:Ef}(ho:o.op=.call {callee:=.builtin .copy,args:=#[x,y],argTypes:=#[T,U]})(hT:zbo2 P T sz=true)
  (hx:Rep w W μ (a.eval x) ax) (hy:Rep w W μ (a.eval y) ay) (he:ev id s.mem (.copy sz) [ax,ay]=some ef) (hobl:ef.obl):zq3 P o a w W μ s.mem ef.v (setM s.mem ef.mw):=by
 obtain⟨e,hu,hz⟩:=zbg1 hT;have fin:∀n w' μ' m',(Builtin.copy_ #[T,U] o.type #[a.eval x,a.eval y]).run P w=.ok (goInt n) w'->Step s.mem m' w w' W W μ μ'->zq3 P o a w W μ s.mem (.int .i64 n) m':=λ n w' μ' m' h1 h3=>
  ⟨.value (goInt n),goInt n,w',W,μ',by simp[execOp,ho,resolve,invoke,builtin,h1],.inl rfl,zB5 (.int _ _),h3⟩
 simp only[ev]at he;cases hel:zao0 s.mem ay with
 |none=>simp[hel]at he
 |some new=>
  simp only[hel,Option.bind_some]at he;split at he
  .rename_i y0 lo n;split at he
   .rename_i r hr;cases he;obtain⟨hro,hrsz,hln,hok,hall⟩:=hobl;obtain⟨news,hsrc,hf⟩:=zbg3 (P:=P) hs hy hel hok hall;obtain⟨h1,h2⟩:=hsrc w rfl;have h3:=h2 (Nat.min new.length n) (Nat.min_le_left _ _);have hmv:((Nat.min new.length n:Nat):Int)=Nat.min new.length n:=rfl;have htk:new.take n=new.take (Nat.min new.length n):=by
     rw[show Nat.min new.length n=min new.length n from rfl];rcases Nat.le_total new.length n with h|h
     .rw[fJ h,eK h,fN]
     .rw[gW h]
    rcases hs.own hx hr with⟨hn0,ad,hv⟩|⟨k,cap,h5,h6,h7,h8,h9,hrow⟩
    .subst hn0;have hmin:Nat.min new.length 0=0:=by simp
     rw[hmin]at h3⊢;have hrun:(Builtin.copy_ #[T,U] o.type #[a.eval x,a.eval y]).run P w=.ok (goInt 0) w:=by rw[hv];cases ad<;>simp[Builtin.copy_,run_underlying hu,h1,zae4 hz,h3,storeCells]
     have hes:r.es.take lo++new.take 0++r.es.drop (lo+0)=r.es:=by simp
     refine fin 0 w μ _ hrun ?_;rw[hes,<-hrsz,<-hro];have:setM s.mem [(y0,MS.row ⟨r.ro,r.sz,r.z,r.es⟩)]=s.mem:=by
      funext q;simp only[setM];split
      .rename_i hq;rw[hq,hr]
      .rfl
     rw[hro]at this;rw[hro,this];exact hs.refl
    .obtain⟨_,hksz,hpos,us0,rest,e0,hheap,htot,hf0⟩:=hrow;rw[hrsz]at hksz hpos hf0;rw[hksz]at h6;generalize hmin:Nat.min new.length n=m at*;have hmn:m<=n:=by rw[<-hmin];exact Nat.min_le_right _ _
     have hml:m<=new.length:=by rw[<-hmin];exact Nat.min_le_left _ _
     have hf1:=hf.take m;have hnl:(news.take (m*sz)).length=m*sz:=by rw[hf1.hl];simp[fJ hml]
     have hlo:(lo+m)*sz<=us0.length:=by rw[hf0.hl];exact dC _ (by omega)
     have hone:∀u∈news.take (m*sz),u.oneCell'=true:=λ u hu'=>by
      obtain⟨q,hq⟩:=fK hu';have hq1:=(cH.1 hq).1;have hql:q/sz<(new.take m).length:=by rw[hf1.hl]at hq1;exact(fF hpos).2 hq1
      have hc:=cJ hql;have hcl:=hf1.hs _ _ hc;have hj:q% sz<((new.take m)[q/sz]).length:=by rw[hcl];exact gU _ hpos
      obtain⟨u',hu2,hr2⟩:=hf1.ha _ _ _ _ hc (cJ hj);rw[gB]at hu2;rw[hq]at hu2;cases hu2;exact hr2.oneCell
     rw[dK]at hlo;have hst:=run_storeCells_at P k.b (lo*sz) e0 (news.take (m*sz)) 0 (us0++rest).toArray w hheap (by simp only[fL,cX];omega) hone;simp only[Nat.add_zero]at hst;have e1:(us0++rest).take (lo*sz)=us0.take (lo*sz):=fR (by omega);have e2:(us0++rest).drop (lo*sz+(news.take (m*sz)).length)=us0.drop ((lo+m)*sz)++rest:=by rw[hnl,<-dK];exact fC (by rw[dK];omega)
     rw[e1,e2,<-dW]at hst;have hcat:Flat (RepK w W μ) sz (us0.take (lo*sz)++news.take (m*sz)++us0.drop ((lo+m)*sz)) (r.es.take lo++new.take n++r.es.drop (lo+m)):=by rw[htk];exact((hf0.take lo).append hf1).append (hf0.drop (lo+m))
     have hrun:(Builtin.copy_ #[T,U] o.type #[a.eval x,a.eval y]).run P w=.ok (goInt m) (w.setRow k.b ((us0.take (lo*sz)++news.take (m*sz)++us0.drop ((lo+m)*sz))++rest).toArray):=by rw[h6];simp[Builtin.copy_,run_underlying hu,h1,hmin,zae4 hz,h3,hst]
     refine fin m _ μ _ hrun ?_;exact Step.write (rest:=rest) hs.mem hs.inj hs.wlt h5 hr hro (r':=⟨false,sz,r.z,r.es.take lo++new.take n++r.es.drop (lo+m)⟩) hrsz.symm (zN5 _ _ _) hcat (setRow_heap w k.b _ _ e0 _ hheap) (by
      have hmeq:min n new.length=m:=by rw[<-hmin];exact Nat.min_comm _ _
      have:(r.es.take lo++new.take n++r.es.drop (lo+m)).length=r.es.length:=by rw[cX,cX,dR,dR,eG,hmeq,fJ (by omega)];omega
      rw[hcat.hl,<-htot,hf0.hl,this])
   .cases he
  .cases he
def zbV0(P:Program)(T:TypeId)(sz:Nat)(z:List A):Bool:=
 match P.underlying T with
 |some (.slice e)=>zaI9 P e z&&z.length==sz
 |_=>false
theorem zce5{id:Nat}(hs:SatW E s a w W μ){x:Operand}{T:TypeId}{sz:Nat}{z:List A}{ax:A}{ef:Ef}(ho:o.op=.call {callee:=.builtin .clear,args:=#[x],argTypes:=#[T]})(hT:zbV0 P T sz z=true)
  (hx:Rep w W μ (a.eval x) ax) (he:ev id s.mem (.clear sz z) [ax]=some ef) (hobl:ef.obl):zq3 P o a w W μ s.mem ef.v (setM s.mem ef.mw):=by
 unfold zbV0 at hT;split at hT
 .rename_i e hu;simp only[cF,cY]at hT;obtain⟨h2,h3⟩:=hT;subst h3;obtain⟨v,hzv,_,hzl,hzr⟩:=zav3 h2;have fin:∀w' μ' m',(Builtin.clear_ #[T] o.type #[a.eval x]).run P w=.ok (.tuple #[]) w'->Step s.mem m' w w' W W μ μ'->zq3 P o a w W μ s.mem .any m':=λ w' μ' m' h1 h3=>
   ⟨.value (.tuple #[]),.tuple #[],w',W,μ',by simp[execOp,ho,resolve,invoke,builtin,h1],.inl rfl,trivial,h3⟩
  simp only[ev]at he;split at he
  .rename_i y0 lo n;split at he
   .rename_i r hr;cases he;obtain⟨hro,hrsz,hln⟩:=hobl
    by_cases hn:n=0
    .have hrun:(Builtin.clear_ #[T] o.type #[a.eval x]).run P w=.ok (.tuple #[]) w:=by
      rcases hs.own hx hr with⟨hn0,ad,hv⟩|⟨k,cap,h5,h6,h7,h8,h9,hrow⟩
      .rw[hv];cases ad<;>simp[Builtin.clear_,run_underlying hu]
      .rw[h6,hn];simp[Builtin.clear_,run_underlying hu]
     have hes:r.es.take lo++List.replicate n z++r.es.drop (lo+n)=r.es:=by simp[hn]
     refine fin w μ _ hrun ?_;rw[hes,<-hrsz,<-hro];have:setM s.mem [(y0,MS.row ⟨r.ro,r.sz,r.z,r.es⟩)]=s.mem:=by
      funext q;simp only[setM];split
      .rename_i hq;rw[hq,hr]
      .rfl
     rw[hro]at this;rw[hro,this];exact hs.refl
    rcases hs.own hx hr with⟨hn0,ad,hv⟩|⟨k,cap,h5,h6,h7,h8,h9,hrow⟩
    .exact absurd hn0 hn
    .obtain⟨_,hksz,hpos,us0,rest,e0,hheap,htot,hf0⟩:=hrow;rw[hrsz]at hksz hpos hf0;rw[hksz]at h6;have hcs:Cs (RepK w W μ) v.cells.toList z:=⟨hzl,λ q u b h1 h2=>zp5 (hzr w W q u b h1 h2)⟩;obtain⟨news,rest0,harr,htot0,hf1⟩:=zbg5 hcs hpos n n (cU _);have hnl:news.length=n*z.length:=by rw[hf1.hl,fG]
     have hr0:rest0=[]:=fO.1 (by omega);subst hr0;have hlo:(lo+n)*z.length<=us0.length:=by rw[hf0.hl];exact dC _ hln
     have hone:∀u∈news,u.oneCell'=true:=λ u hu'=>by
      obtain⟨q,hq⟩:=fK hu';have hq1:=(cH.1 hq).1;have hql:q/z.length<(List.replicate n z).length:=by rw[hf1.hl]at hq1;exact(fF hpos).2 hq1
      have hc:=cJ hql;have hcl:=hf1.hs _ _ hc;have hj:q% z.length<((List.replicate n z)[q/z.length]).length:=by rw[hcl];exact gU _ hpos
      obtain⟨u',hu2,hr2⟩:=hf1.ha _ _ _ _ hc (cJ hj);rw[gB]at hu2;rw[hq]at hu2;cases hu2;exact hr2.oneCell
     rw[dK]at hlo;have hst:=run_storeCells_at P k.b (lo*z.length) e0 news 0 (us0++rest).toArray w hheap (by simp only[fL,cX];omega) hone;simp only[Nat.add_zero]at hst;have e1:(us0++rest).take (lo*z.length)=us0.take (lo*z.length):=fR (by omega);have e2:(us0++rest).drop (lo*z.length+news.length)=us0.drop ((lo+n)*z.length)++rest:=by rw[hnl,<-dK];exact fC (by rw[dK];omega)
     rw[e1,e2,<-dW]at hst;have hcat:Flat (RepK w W μ) z.length (us0.take (lo*z.length)++news++us0.drop ((lo+n)*z.length)) (r.es.take lo++List.replicate n z++r.es.drop (lo+n)):=
      ((hf0.take lo).append hf1).append (hf0.drop (lo+n))
     have hzc:Builtin.zeroCells v.cells n=news.toArray:=by
      have hsz2:v.cells.size=z.length:=by simpa using hzl
      rw[Builtin.zeroCells,hsz2];rw[hsz2]at harr;rw[harr,eN]
     have hrun:(Builtin.clear_ #[T] o.type #[a.eval x]).run P w=.ok (.tuple #[]) (w.setRow k.b ((us0.take (lo*z.length)++news++us0.drop ((lo+n)*z.length))++rest).toArray):=by rw[h6];simp[Builtin.clear_,run_underlying hu,hn,hzv,hzc,hst]
     refine fin _ μ _ hrun ?_;exact Step.write (rest:=rest) hs.mem hs.inj hs.wlt h5 hr hro (r':=⟨false,z.length,r.z,r.es.take lo++List.replicate n z++r.es.drop (lo+n)⟩) hrsz.symm (zN5 _ _ _) hcat (setRow_heap w k.b _ _ e0 _ hheap) (by
      have:(r.es.take lo++List.replicate n z++r.es.drop (lo+n)).length=r.es.length:=by rw[cX,cX,dR,fG,eG,fJ (by omega)];omega
      rw[hcat.hl,<-htot,hf0.hl,this])
   .cases he
  .cases he
 .cases hT
end
end Ab
end Go.Proofs.YtamndckemppjdaaGreatDoor
