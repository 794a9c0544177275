import Derived.Test.YtamndckemppjdaaGreatDoorAb14
import Derived.Lib.SliceRun
namespace Go.Proofs.YtamndckemppjdaaGreatDoor
namespace Ab
set_option linter.unusedSimpArgs false
set_option linter.unusedVariables false
theorem St.m_row{st:St}{x:Nat}{r:Row}(h:st.m x=.row r):x<st.nx:=by
  unfold St.m at h;split at h
  .cases h
  .omega
theorem St.m_nx(st:St):st.m st.nx=.fresh:=by simp[St.m]
theorem zbh2(nx:Nat)(r:Row):mwOk nx [(nx,.row r)]:=⟨cU _,by simp,trivial⟩
theorem zaJ3{nx y:Nat}{q:MS}{r:List (Nat×MS)}(h:y<nx)(hq:q≠.fresh)(hr:mwOk nx r):mwOk nx ((y,q)::r):=
  ⟨gE h,hq,by rw[cL (by simp only;omega)];exact hr⟩
theorem zav7{nx:Nat}:∀{x y:List (Nat×MS)},(∀q∈x,q.1<nx/\q.2≠.fresh)->mwOk nx y->mwOk nx (x++y)
  |[],_,_,h=>h
  |q::x,y,hx,h=>zaJ3 (hx q (.head _)).1 (hx q (.head _)).2 (zav7 (λ p hp=>hx p (.tail _ hp)) h)
theorem zbJ8{st:St}{po:PO}{vals:List A}{ef:Ef}(he:ev st.nx st.m po vals=some ef):mwOk st.nx ef.mw:=by
  unfold ev at he
  (repeat' split at he)
  all_goals first
    |(cases he;done)
    |(cases he;first
        |trivial
        |exact zbh2 _ _
        |exact zaJ3 (St.m_row (by assumption)) (by simp) trivial)
    |(simp only[cI]at he;obtain⟨q,_,rfl⟩:=he;trivial)
    |(simp only[dD]at he;obtain⟨new,hnew,l,hl,he⟩:=he;cases he;trivial)
    | (simp only[dD]at he;obtain⟨new,hnew,he⟩:=he
       (repeat' split at he)<;>cases he<;>first
         |trivial
         |exact zbh2 _ _
         |exact zaJ3 (St.m_row (by assumption)) (by simp) trivial
         |exact zaJ3 (St.m_row (by assumption)) (by simp) (zbh2 _ _))
theorem zav8{m:Nat->MS}:∀{xs:List Nat},∀q∈zG1 m xs,(∃r,m q.1=.row r)/\q.2≠.fresh
  |x::xs,q,h=>by
    unfold zG1 at h;split at h
    · rename_i r hr
      rcases dB.1 h with rfl|h
      .exact⟨⟨r,hr⟩,by simp⟩
      .exact zav8 q h
    .exact zav8 q h
theorem zcf1(st:St)(xs:List Nat):mwOk st.nx (zG1 st.m xs):=by have:=zav7 (nx:=st.nx) (x:=zG1 st.m xs) (y:=[]) (λ q hq=>let⟨⟨r,hr⟩,h2⟩:=zav8 q hq;⟨St.m_row hr,h2⟩) trivial;rwa [eN]at this
theorem zaq2(st:St)(vals:List A)(r:A):mwOk st.nx (zx3 st.m vals r):=by
  unfold zx3;split
  .trivial
  .exact zcf1 st _
theorem zaU3(st:St)(d:Option Nat)(v:A)(mw:List (Nat×MS))(h:mwOk st.nx mw):(st.app d v mw).toS=⟨setF st.slot d v,setM st.m mw⟩:=by simp only[St.toS,zby7];congr 1;exact zbF5 mw st.fr st.mem st.nx h _
section
variable {C:Cx} {o:Oper} {a:Act} {E:Env} {st:St} {w:World} {W:Nat→Prop} {μ:Nat→Loc}
theorem zN2.ro{r:Row}{k:Blk}(h:zN2 w W μ r k):zN2 w W μ ⟨true,r.sz,r.z,r.es⟩ k:=by
  rcases h with h|h|h
  .exact .inl ⟨by simp,h.2⟩
  .exact .inr (.inl ⟨by simp,h.2⟩)
  .exact .inr (.inr ⟨by simp,h.2⟩)
theorem zaJ4:∀ps:List PX,zs1 C st ps=zA3 C st.slot ps
  |[]=>rfl
  |p::ps=>by simp only[zs1,zA3,zaJ4 ps]
theorem zbe4:∀ps:List PX,zP7 C st ps=gdsF C st.slot ps
  |[]=>rfl
  |p::ps=>by simp only[zP7,gdsF,zbe4 ps]
theorem zbO6(g:Option (Nat×Bool)):zB0 st g=zB6 st.slot g:=by cases g<;>rfl
theorem zae9{s:S}(hs:SatW E s a w W μ)(hG:E.G=C.G):∀(ps:List PX) (ops:List Operand),zw3 ops ps=true->gdsF C s.fr ps->Vals w W μ a ops (zA3 C s.fr ps)
  |[],[],_,_=>⟨rfl,by simp⟩
  |p::ps,x::xs,h,hg=>by
    simp only[zw3,cF]at h;obtain⟨h1,h2⟩:=zae9 hs hG ps xs h.2 hg.2;refine⟨by simp[zA3,h1],λ i y v hy hv=>?_⟩;cases i with
    |zero=>simp[zA3]at hy hv;subst hy;subst hv;have:=zaX6 hs h.1;rw[hG]at this;exact zbs1 this hg.1
    |succ i=>simp[zA3]at hy hv;exact h2 i y v hy hv
  |[],_::_,h,_=>by simp[zw3]at h
  |_::_,[],h,_=>by simp[zw3]at h
theorem zaU4(fr:Nat->A):∀ps:List PX,(zA3 C fr ps).length=ps.length
  |[]=>rfl
  |_::ps=>by simp[zA3,zaU4 fr ps]
def zal0(W:Nat->Prop)(μ:Nat->Loc)(ids:List Nat):Nat->Prop:=λ b=>W b/\¬∃x k,x∈ids/\μ x=.at_ k/\k.b=b
theorem RepC.less{v:Value}{x:A}{ids:List Nat}(h:RepC w W v x):RepC w (zal0 W μ ids) v x:=
  h.keep (Keeps.refl (λ _=>False) w) (λ _ _ _ h=>h) (λ _ _ h h2=>h h2.1)
theorem zbh3{s:S}(hs:SatW E s a w W μ){v:Value}{x:A}{ids:List Nat}(h:RepK w W μ v x)(hok:zV8 s.mem x)(hid:∀y∈zI3 x,y∈ids):RepC w (zal0 W μ ids) v (frz1 s.mem x):=by
  cases x with
  |own y lo n=>
    simp only[zV8]at hok;cases hr:s.mem y with
    |fresh=>simp[hr]at hok
    |dead=>simp[hr]at hok
    |row r=>
      simp only[hr]at hok;obtain⟨hln,hpure⟩:=hok;simp only[frz1,hr];have hlen:((r.es.drop lo).take n).length=n:=by simp;omega
      rcases hs.own (zp6 (zo5 h)) hr with⟨rfl,ad,rfl⟩|⟨k,cap,h5,h6,h7,h8,h9,hrow⟩
      .rw[show(r.es.drop lo).take 0=[]by simp];exact .sl0 _ _
      · obtain⟨_,hksz,hpos,us0,rest,e,hheap,htot,hf⟩:=hrow
        rw[h6];have hf2:=(hf.drop lo).take n
        conv=>arg 3;rw[show n=((r.es.drop lo).take n).length from hlen.symm]
        refine RepC.mk_sl (sz:=r.sz) (us:=(us0.drop (lo*r.sz)).take (n*r.sz)) (λ hW=>hW.2 ⟨y,k,hid y (by simp[zI3]),h5,rfl⟩) (cO.1 hheap).1 (by omega) ?_ ?_
        · refine⟨hf2.hl,hf2.hs,λ i c j b hc hb=>?_⟩
          obtain⟨u,hu,hrk⟩:=hf2.ha i c j b hc hb;exact⟨u,hu,(hrk.toC (hpure c (cN hc) b (cN hb))).less⟩
        · intro q u hq
          rw[dG]at hq;split at hq
          · rw[dO]at hq
            simp only[World.cell?,hheap,hksz,Option.isSome_none,cG,cV,dX];rw[dF (cH.1 hq).1,hq]
          .cases hq
  |_=>exact(h.toC hok).less
theorem zY7:∀{cs:List A},zk0 cs=true->∀c∈cs,c.pure1=true
  |c::cs,h,d,hd=>by
    simp only[zk0,cF]at h;rcases dB.1 hd with rfl|hd
    .exact h.1
    .exact zY7 h.2 d hd
theorem zbs9{s:S}(hs:SatW E s a w W μ){v:Value}{x:A}{ids:List Nat}(h:Rep w W μ v x)(hok:zac7 s.mem x)(hid:∀y∈zae8 x,y∈ids):RepV w (zal0 W μ ids) zN6 v (frz s.mem x):=by
  cases x with
  |agg cs=>
    obtain⟨vs,rfl,hl,hr⟩:RepV w W μ v (.agg cs):=h
    by_cases hp:zk0 cs=true
    · simp only[frz,hp,dM]
      exact⟨vs,rfl,hl,λ i u b hu hb=>zp5 ((hr i u b hu hb).toC (zY7 hp b (cN hb))).less⟩
    · simp only[frz,zac7,zae8,hp]at hok hid|-
      refine⟨vs,rfl,by simp[hl],λ i u b hu hb=>?_⟩;simp only[cP,cI]at hb;obtain⟨c,hc,rfl⟩:=hb;have hcm:=cN hc;exact zp5 (zbh3 hs (hr i u c hu hc) (hok c hcm) (λ y hy=>hid y (fA.2 ⟨c,hcm,hy⟩)))
  |clo f cs=>have:cs=[]:=hok;subst this;exact(show RepV w W μ v (.clo f [])from h).imp (λ⟨vs,hv,hl,hr⟩=>⟨vs,hv,hl,by simp⟩) id
  |any=>simp[zac7,zV8,A.pure1]at hok
  |tup cs=>simp[zac7,zV8,A.pure1]at hok
  |cnd g b=>simp[zac7,zV8,A.pure1]at hok
  |ptr y i j=>simp[zac7,zV8,A.pure1]at hok
  |ipt t y i j=>simp[zac7,zV8,A.pure1]at hok
  |mp y=>simp[zac7,zV8,A.pure1]at hok
  |it y=>simp[zac7,zV8,A.pure1]at hok
  |rd cs off=>simp[zac7,zV8,A.pure1]at hok
  |own y lo n=>exact zo5 (zp5 (zbh3 hs (show RepK w W μ v (.own y lo n)from h) hok hid))
  |bnd f cs=>exact zo5 (zp5 (RepC.less (show RepC w W v (.bnd f cs)from h)))
  |ival f cs=>exact zo5 (zp5 (RepC.less (show RepC w W v (.ival f cs)from h)))
  |bool b=>exact zo5 (zp5 (RepC.less (show RepC w W v (.bool b)from h)))
  |int k n=>exact zo5 (zp5 (RepC.less (show RepC w W v (.int k n)from h)))
  |str b=>exact zo5 (zp5 (RepC.less (show RepC w W v (.str b)from h)))
  |sl es=>exact zo5 (zp5 (RepC.less (show RepC w W v (.sl es)from h)))
  |full es=>exact zo5 (zp5 (RepC.less (show RepC w W v (.full es)from h)))
theorem zbp1(m:Nat->MS):∀{vals:List A} (i:Nat) (b:A),(zC0 m vals)[i]? =some b->∃x,vals[i]? =some x/\b=frz m x
  |[],i,b,h=>by simp[zC0]at h
  |x::xs,i,b,h=>by
    cases i with
    |zero=>simp[zC0]at h;exact⟨x,rfl,h.symm⟩
    |succ i=>simp[zC0]at h;exact zbp1 m i b h
theorem zba9{m:Nat->MS}:∀{vals:List A},zx2 m vals->∀x∈vals,zac7 m x
  |x::xs,h,y,hy=>by
    rcases dB.1 hy with rfl|hy
    .exact h.1
    .exact zba9 h.2 y hy
theorem zaU5:∀{vals:List A} {x:A},x∈vals->∀y∈zae8 x,y∈zz2 vals
  |z::zs,x,hx,y,hy=>by
    simp only[zz2,dV];rcases dB.1 hx with rfl|hx
    .exact .inl hy
    .exact .inr (zaU5 hx y hy)
theorem zaO8(m:Nat->MS):∀vals:List A,(zC0 m vals).length=vals.length
  |[]=>rfl
  |_::xs=>by simp[zC0,zaO8 m xs]
theorem zbe5(m:Nat->MS):∀(ids:List Nat) (m0:Nat->MS) (x:Nat),setM m0 (zG1 m ids) x=if x∈ids then(match m x with|.row r=>.row ⟨true,r.sz,r.z,r.es⟩|_=>m0 x)else m0 x
  |[],m0,x=>by simp[zG1,setM]
  |y::ys,m0,x=>by
    unfold zG1;split
    · rename_i r hr
      simp only[setM];rw[zbe5 m ys]
      by_cases h1:x∈ys
      · simp only[h1,dM,dB,or_true]
        by_cases hxy:x=y
        .subst hxy;simp[hr]
        .cases m x<;>simp[hxy]
      · simp only[h1,cV,dB,or_false]
        by_cases hxy:x=y
        .subst hxy;simp[hr]
        .simp[hxy]
    · rename_i hr
      rw[zbe5 m ys]
      by_cases h1:x∈ys
      .simp[h1]
      · simp only[h1,cV,dB,or_false]
        split
        · rename_i hxy
          subst hxy;split
          .rename_i r hr2;exact absurd hr2 (hr r)
          .rfl
        .rfl
theorem zcf2{s:S}(hs:SatW E s a w W μ){w':World}(hk:Keeps (λ _=>False) w w')(ids:List Nat):Step s.mem (setM s.mem (zG1 s.mem ids)) w w' W (zal0 W μ ids) μ μ where
  keeps:=hk.mono λ _ _ h=>h.elim
  hW:=λ _ _ h=>h.1
  wsup:=λ b hb=>by
    by_cases h:∃x k,x∈ids/\μ x=.at_ k/\k.b=b
    .obtain⟨x,k,_,h2,h3⟩:=h;exact .inr ⟨x,k,h2,h3⟩
    .exact .inl ⟨hb,h⟩
  wlt0:=hs.wlt
  wlt:=λ b h=>cR (hs.wlt b h.1) hk.size
  old:=Old.refl μ
  mem:=λ x=>by
    rw[zbe5];have hm:=hs.mem x;have hgo:∀(r:Row) (k:Blk),zN2 w W μ r k->(r.ro=false->¬x∈ids)->μ x=.at_ k->zN2 w' (zal0 W μ ids) μ r k:=λ r k hrow hx hk'=>by
      rcases hrow with⟨h1,h2,h3,us,rest,e,h4,h5,h6⟩|⟨h1,h2,h3,es,h4,h5,h6⟩|⟨h1,h2,h3,hz,y,b,c,seen,h5,h6,h4⟩
      rotate_left
      · refine .inr (.inl ⟨λ hr=>⟨h1 hr,λ⟨y,ky,hy,hy2,hy3⟩=>hx hr (hs.inj y x ky k hy2 hk' hy3▸hy)⟩,h2,h3,es,?_,h5,λ i e c p q=>(h6 i e c p q).keep hk (λ _ _ _ h=>h) (λ _ _ h h2=>h h2.1)⟩)
        rw[hk.block k.b (cO.1 h4).1 (λ h=>h)];exact h4
      · refine .inr (.inr ⟨λ hr=>⟨h1 hr,λ⟨y,ky,hy,hy2,hy3⟩=>hx hr (hs.inj y x ky k hy2 hk' hy3▸hy)⟩,h2,h3,hz,y,b,c,seen,h5,h6.goes hk (λ _ _ _ h=>h) (λ _ _ h h2=>h h2.1) (Old.refl μ),?_⟩)
        rw[hk.block k.b (cO.1 h4).1 (λ h=>h)];exact h4
      refine .inl ⟨λ hr=>⟨h1 hr,λ⟨y,ky,hy,hy2,hy3⟩=>hx hr (hs.inj y x ky k hy2 hk' hy3▸hy)⟩,h2,h3,us,rest,e,?_,h5,h6.mono λ u b hr=>hr.goes hk (λ _ _ _ h=>h) (λ _ _ h h2=>h h2.1) (Old.refl μ)⟩;rw[hk.block k.b (cO.1 h4).1 (λ h=>h)];exact h4
    split
    · rename_i hx
      cases hr:s.mem x with
      |fresh=>rw[hr]at hm;exact hm
      |dead=>rw[hr]at hm;exact hm
      |row r=>
        rw[hr]at hm;rcases hm with h1|⟨k,h1,h2⟩
        .exact .inl h1
        .exact .inr ⟨k,h1,hgo ⟨true,r.sz,r.z,r.es⟩ k h2.ro (by simp) h1⟩
    · rename_i hx
      cases hr:s.mem x with
      |fresh=>rw[hr]at hm;exact hm
      |dead=>rw[hr]at hm;exact hm
      |row r=>
        rw[hr]at hm;rcases hm with h1|⟨k,h1,h2⟩
        .exact .inl h1
        .exact .inr ⟨k,h1,hgo r k h2 (λ _=>hx) h1⟩
  inj:=hs.inj
  live:=λ x k h=>.inl ⟨x,k,h,rfl⟩
theorem zbp2:Old zN6 μ:=λ x h=>absurd rfl h
theorem zbV6{W':Nat->Prop}{v:Value}{r:A}(h:Rep w W zN6 v r)(hr:r.scal=true):Rep w W' μ v r:=by
  have c1:∀{u:Value} {b:A},b.scal1=true->RepK w W zN6 u b->RepK w W' μ u b:=λ{u b} hb hu=>by
    cases b<;>simp[A.scal1]at hb
    · have:RepC w W u _:=hu
      cases this;exact zp5 (.bool _)
    · have:RepC w W u _:=hu
      cases this;exact zp5 (.int _ _)
    · have:RepC w W u _:=hu
      cases this;exact zp5 (.str _)
  have ccs:∀{cs:List A},zs0 cs=true->∀c∈cs,c.scal1=true:=λ{cs}=>by
    induction cs with
    |nil=>simp
    |cons d ds ih=>
      intro h c hc;simp only[zs0,cF]at h;rcases dB.1 hc with rfl|hc
      .exact h.1
      .exact ih h.2 c hc
  have c2:∀{u:Value} {b:A},b.scal2=true->RepV w W zN6 u b->RepV w W' μ u b:=λ{u b} hb hu=>by
    cases b with
    |agg cs=>obtain⟨vs,hv,hl,hr⟩:=hu;exact⟨vs,hv,hl,λ i u c h1 h2=>c1 (ccs hb c (cN h2)) (hr i u c h1 h2)⟩
    |bool b=>exact zo5 (c1 hb hu)
    |int k n=>exact zo5 (c1 hb hu)
    |str b=>exact zo5 (c1 hb hu)
    |_=>simp[A.scal2,A.scal1]at hb
  have cvs:∀{cs:List A},zbh1 cs=true->∀c∈cs,c.scal2=true:=λ{cs}=>by
    induction cs with
    |nil=>simp
    |cons d ds ih=>
      intro h c hc;simp only[zbh1,cF]at h;rcases dB.1 hc with rfl|hc
      .exact h.1
      .exact ih h.2 c hc
  cases r with
  |tup as=>obtain⟨vs,hv,hl,hr'⟩:=h;exact⟨vs,hv,hl,λ i u c h1 h2=>c2 (cvs hr c (cN h2)) (hr' i u c h1 h2)⟩
  |any=>trivial
  |cnd g b=>simp[A.scal,A.scal2,A.scal1]at hr
  |agg cs=>exact zp6 (c2 hr h)
  |bool b=>exact zp6 (c2 hr h)
  |int k n=>exact zp6 (c2 hr h)
  |str b=>exact zp6 (c2 hr h)
  |_=>simp[A.scal,A.scal2,A.scal1]at hr
theorem zbh4{f:FuncId}{s:S}(hs:SatW E s a w W μ)(hG:E.G=C.G){vs:List Value}{vals:List A}(hl:vs.length=vals.length)(hV:∀(i:Nat) (v:Value) (x:A),vs[i]? =some v->vals[i]? =some x->Rep w W μ v x)
    (hok:zx2 s.mem vals) {r:A} (hf:PFn C f (zC0 s.mem vals) r):
    Calls C.P f vs.toArray w λ e w'=>∃v W',e=.returned v/\Rep w' W' μ v r/\Step s.mem (setM s.mem (zx3 s.mem vals r)) w w' W W' μ μ:=by
  have hgl:zaq7 w (zal0 W μ (zz2 vals)) C.G:=λ g cs hg=>by obtain⟨h1,h2,h3⟩:=hs.glob g cs (hG▸hg);exact⟨λ h=>h1 h.1,h2,λ j b hj=>let⟨u,hu,hr⟩:=h3 j b hj;⟨u,hu,hr.less⟩⟩
  have:=hf w (zal0 W μ (zz2 vals)) vs hgl (λ b h=>hs.wlt b h.1) (by rw[zaO8];exact hl) (λ i v b hv hb=>by
    obtain⟨x,hx,rfl⟩:=zbp1 _ i b hb;have hxm:=cN hx;exact zbs9 hs (hV i v x hv hx) (zba9 hok x hxm) (zaU5 hxm))
  refine this.mono λ e w' ⟨v,he,hk,hr⟩=>?_;have hr2:Rep w' (zal0 W μ (zz2 vals)) μ v r:=hr.goes (Keeps.refl (λ _=>False) w') (λ _ _ _ h=>h) (λ _ _ h=>h) zbp2;unfold zx3;split
  · rename_i hsc
    exact⟨v,W,he,zbV6 hr hsc,Step.quiet hk hs.mem hs.inj hs.wlt⟩
  .exact⟨v,_,he,hr2,zcf2 hs hk _⟩
theorem zby8{s:S}(hs:SatW E s a w W μ){ops:Array Oper}{o:Oper}{g:Option (Nat×Bool)}{b:Bool}
    (hg:match g,o.guard with|none,none=>True|some q,some p=>p.2=q.2/\(ops[p.1]?).bind (·.dst)=some q.1|_,_=>False) (h:zB6 s.fr g=some b):Region.wanted o (yielded ops a.tmps)=b:=by
  cases g with
  |none=>
    cases ho:o.guard with
    |none=>simp[zB6]at h;subst h;simp[Region.wanted,ho]
    |some p=>simp[ho]at hg
  |some q=>
    cases ho:o.guard with
    |none=>simp[ho]at hg
    |some p=>
      simp only[ho]at hg;obtain⟨h1,h2⟩:=hg;obtain⟨j,want⟩:=p;obtain⟨t,want'⟩:=q;simp only at h1 h2;subst h1;have hfr:=hs.fr t;simp only[Region.wanted,ho,yielded,h2,Option.bind_some];simp only[zB6]at h;have hgd:∀v,a.tmps.getD t undef=.bool v->a.tmps[t]? =some (.bool v):=λ v hv=>by
        rw[eR]at hv;cases hq:a.tmps[t]? with
        |none=>rw[hq]at hv;simp[undef]at hv
        |some u=>rw[hq]at hv;simp at hv;rw[hv]
      split at h
      · rename_i v hv
        simp only[eJ]at h;subst h;have hfr':Rep w W μ (a.tmps.getD t undef) (.bool v):=by rw[hv]at hfr;exact hfr
        rw[hgd v hfr'.bool];cases v<;>cases want<;>rfl
      · rename_i g' v hv
        simp only[eJ]at h;subst h;have hfr':Rep w W μ (a.tmps.getD t undef) (.cnd g' (.bool v)):=by rw[hv]at hfr;exact hfr
        cases g' with
        |true=>rw[hgd v (Rep.bool (zp6 (hfr'.1 rfl)))];cases v<;>cases want<;>rfl
        |false=>
          have hu:=hfr'.2 rfl;rw[eR]at hu;cases hq:a.tmps[t]? with
          |none=>rfl
          |some u=>rw[hq]at hu;simp at hu;subst hu;rfl
      .cases h
theorem Oper.wp_of_yields{m':Nat->MS}{av:A}{Q:Exit->Act->World->Prop}{k:Act->World->Prop}{s:S}(_hs:SatW E s a w W μ)(h:zq3 C.P o a w W μ s.mem av m')
    (hk:∀v w' W' μ',Rep w' W' μ' v av->Step s.mem m' w w' W W' μ μ'->k (a.put o.dst v) w'):o.wp C.P a w k Q:=by
  obtain⟨r,v,w',W',μ',hrun,hr,hrep,hst⟩:=h;unfold Oper.wp;rw[hrun];rcases hr with rfl|⟨rfl,rfl⟩
  .exact hk v w' W' μ' hrep hst
  .exact hk undef w' W' μ' hrep hst
structure POk (C:Cx) (N:Nat) (ops:Array Oper) (o:Oper) (p:POp):Prop where
  dst:o.dst=p.dst
  lt:∀d,p.dst=some d->d<N
  g:match p.g,o.guard with|none,none=>True|some q,some r=>r.2=q.2/\(ops[r.1]?).bind (·.dst)=some q.1|_,_=>False
  op:zav6 C.P o.op p.po p.xs=true
theorem Rep.toVV{v:Value}{x:A}(h:Rep w W μ v x)(hx:x.isVV=true):RepV w W μ v x:=by cases x<;>first|exact h|(simp[A.isVV]at hx)
theorem zR6{α:Type}:∀(l m:List (Nat×α)) (x:Nat),look (l++m) x=(look l x).or (look m x)
  |[],m,x=>by simp[look]
  |q::l,m,x=>by
    simp only[List.cons_append,look];split
    .rfl
    .exact zR6 l m x
theorem zaz3{α:Type}:∀{l:List (Nat×α)} {x:Nat},(∀q∈l,q.1≠x)->look l x=none
  |[],_,_=>rfl
  |q::l,x,h=>by simp only[look];rw[cL (h q (.head _))];exact zaz3 λ p hp=>h p (.tail _ hp)
theorem zac8:∀(n k nx x:Nat),look (newL k nx n) x=if k<=x/\x<k+n then some (nx+(x-k))else none
  |0,k,nx,x=>by simp only[newL,look];rw[cL (by omega)]
  |n+1,k,nx,x=>by
    simp only[newL,look]
    by_cases h:k=x
    .subst h;rw[cQ rfl,cQ (by omega)];simp
    · rw[cL h,zac8 n (k+1) (nx+1) x]
      by_cases h2:k+1<=x/\x<k+1+n
      .rw[cQ h2,cQ (by omega)];congr 1;omega
      .rw[cL h2,cL (by omega)]
theorem zaQ8{α:Type}{ms:List (Nat×α)}:∀{k:Nat},zaJ2 ms k=true->∀x,x<k->∃r,look ms x=some r
  |k+1,h,x,hx=>by
    simp only[zaJ2,cF]at h
    by_cases hk:x=k
    .subst hk;exact Option.isSome_iff_exists.1 h.1
    .exact zaQ8 h.2 x (by omega)
theorem zaz4{α:Type}:∀{l:List (Nat×α)} {x:Nat} {v:α},look l x=some v->(x,v)∈l
  |q::r,x,v,h=>by
    simp only[look]at h;split at h
    .rename_i hq;cases h;subst hq;exact .head _
    .exact .tail _ (zaz4 h)
theorem zaD7{α:Type}:∀{l:List (Nat×α)} {f:Nat->Nat},zar0 (l.map λ q=>f q.1)=true->∀x y r r',look l x=some r->look l y=some r'->f x=f y->x=y
  |q::rest,f,h,x,y,r,r',hx,hy,he=>by
    simp only[dI,zar0,cF,dQ,iB,eD]at h;simp only[look]at hx hy;split at hx<;>split at hy
    .omega
    · rename_i h1 h2
      exact absurd (cS.2 ⟨(y,r'),zaz4 hy,by rw[h1];exact he.symm⟩) h.1
    · rename_i h1 h2
      exact absurd (cS.2 ⟨(x,r),zaz4 hx,by rw[h2];exact he⟩) h.1
    .exact zaD7 h.2 x y r r' hx hy he
theorem zaz5{m:Nat->MS}{l:List (Nat×Nat)}{k:Nat}{fz:List Nat}:∀{ms:List (Nat×Row)},zbo9 m l k fz ms->∀x r,(x,r)∈ms->
    (∃r',m (rho l x)=.row r'/\r'.ro=false/\r'.sz=r.sz/\r'.es=zU5 l r.es)/\r.ro=false/\x<k/\idEs k r.es/\rho l x∉fz/\szM (m (rho l x)) r
  |q::rest,h,x,r,hx=>by
    obtain⟨h1,h2,h3,h4,h5,h7,h6⟩:=h;rcases dB.1 hx with rfl|hx
    · refine⟨?_,h2,h3,h4,by simpa using h5,h7⟩
      split at h1
      .rename_i r' hr';exact⟨r',hr',h1⟩
      .exact h1.elim
    .exact zaz5 h6 x r hx
theorem zby9{nx:Nat}:∀{cs:List A},zbJ7 nx cs->∀c∈cs,zaO7 nx c
  |_::_,h,_,.head _=>h.1
  |_::_,h,c,.tail _ hc=>zby9 h.2 c hc
theorem zbF6{cs:List A}(h:(A.agg cs).hands=true):zk0 cs=false:=by simpa [A.hands]using h
theorem zbz0{m:Nat->MS}{l:List (Nat×Nat)}{k:Nat}:∀{vals as:List A},zaU1 m l k vals as->∀(i:Nat) (a:A),as[i]? =some a->∃v,vals[i]? =some v/\argM m l k v a/\(a.hands=false->∀y∈zae8 v,y∈fzM vals as)
  |v::vs,a::as,h,i,b,hb=>by
    cases i with
    |zero=>simp at hb;subst hb;refine⟨v,rfl,h.1,λ hh y hy=>?_⟩;simp only[fzM,hh,cG,cV];exact dN _ hy
    |succ i=>obtain⟨u,h1,h2,h3⟩:=zbz0 h.2 i b (by simpa using hb);exact⟨u,by simpa using h1,h2,λ hh y hy=>by simp only[fzM];exact dL _ (h3 hh y hy)⟩
  |[],[],_,i,b,hb=>by simp at hb
  |_::_,[],h,_,_,_=>h.elim
  |[],_::_,h,_,_,_=>h.elim
theorem zbp3{m:Nat->MS}{l:List (Nat×Nat)}{k:Nat}:∀{vals as:List A},zaU1 m l k vals as->vals.length=as.length
  |v::vs,a::as,h=>by simp[zbp3 h.2]
  |[],[],_=>rfl
  |_::_,[],h=>h.elim
  |[],_::_,h=>h.elim
theorem zbb0(m:Nat->MS):∀(x y:List (Nat×MS)),setM m (x++y)=setM (setM m x) y
  |[],_=>rfl
  |q::x,y=>by simp only[List.cons_append,setM];exact zbb0 _ x y
theorem zay3{L:List (Nat×Nat)}{ms':List (Nat×Row)}{y:Nat}:∀{ids:List Nat} {m:Nat->MS},(∀x∈ids,rho L x≠y)->setM m (zQ6 L ms' ids) y=m y
  |[],m,_=>rfl
  |x::ids,m,h=>by simp only[zQ6,setM];rw[zay3 λ z hz=>h z (.tail _ hz)];exact cL λ e=>h x (.head _) e.symm
theorem zbh5{L:List (Nat×Nat)}{ms':List (Nat×Row)}{x:Nat}:∀{ids:List Nat} {m:Nat->MS},x∈ids->(∀z∈ids,rho L z=rho L x->z=x)->
    setM m (zQ6 L ms' ids) (rho L x)=entM L (look ms' x)
  |y::ids,m,hx,hi=>by
    simp only[zQ6,setM]
    by_cases h:x∈ids
    .exact zbh5 h λ z hz=>hi z (.tail _ hz)
    · rcases dB.1 hx with rfl|hx
      .rw[zay3 λ z hz e=>h (hi z (.tail _ hz) e▸hz),cQ rfl]
      .exact absurd hx h
theorem zaY1:∀{es:List (List A)},pureEs es=true->∀c∈es,zk0 c=true
  |d::ds,h,c,hc=>by
    simp only[pureEs,cF]at h;rcases dB.1 hc with rfl|hc
    .exact h.1
    .exact zaY1 h.2 c hc
theorem RepC.pure{v:Value}{a:A}(h:RepC w W v a):a.pure1=true:=by cases h<;>rfl
theorem RepY.pure{v:Value}{a:A}(h:RepY w W v a):a.pure1=true:=by
  cases a with
  |agg cs=>rfl
  |_=>exact RepC.pure h
theorem zbp4:∀{cs:List A},(∀(i:Nat) (a:A),cs[i]? =some a->a.pure1=true)->zk0 cs=true
  |[],_=>rfl
  |a::cs,h=>by simp only[zk0,cF];exact⟨h 0 a rfl,zbp4 λ i b hb=>h (i+1) b (by simpa using hb)⟩
theorem zbp5:∀{es:List (List A)},(∀(i:Nat) (c:List A),es[i]? =some c->zk0 c=true)->pureEs es=true
  |[],_=>rfl
  |a::cs,h=>by simp only[pureEs,cF];exact⟨h 0 a rfl,zbp5 λ i b hb=>h (i+1) b (by simpa using hb)⟩
theorem zaT6.pure{r:Row}{k:Blk}(h:zaT6 w W r k):pureEs r.es=true:=by
  obtain⟨_,_,_,es,h4,h5,h6⟩:=h;refine zbp5 λ i c hc=>?_;have hi:i<es.size:=by rw[h5];exact(cH.1 hc).1
  obtain⟨_,kk,cs,ag,rfl,_,_,e7,e8⟩:=h6 i es[i] c (eE hi) hc;simp only[zk0,cF];refine⟨e7.pure,zbp4 λ j a ha=>?_⟩;unfold RepX at e8;split at e8
  · obtain⟨vs,_,g2,g3⟩:=e8
    have hj:j<vs.length:=by rw[g2];exact(cH.1 ha).1
    exact(g3 j vs[j] a (cJ hj) ha).pure
  · obtain⟨b,rfl,g2⟩:=e8
    cases j with
    |zero=>simp at ha;subst ha;exact g2.pure
    |succ n=>simp at ha
theorem zbJ9{R R':Value->A->Prop}{l:List (Nat×Nat)}{k sz:Nat}{us:List Value}{es:List (List A)}(h:Flat R sz us (zU5 l es))(hid:idEs k es)
    (h1:∀u a,zaO7 k a->R u (ren1 l a)->R' u a) (h2:∀u a,a.pure1=true->R u a->R' u a):Flat R' sz us es:=by
  unfold zU5 at h;unfold idEs at hid;split at h
  · rename_i hp
    exact⟨h.hl,h.hs,λ i c j b hc hb=>let⟨u,hu,hr⟩:=h.ha i c j b hc hb;⟨u,hu,h2 u b (zY7 (zaY1 hp c (cN hc)) b (cN hb)) hr⟩⟩
  · rename_i hp
    rw[cL hp]at hid;refine⟨by simpa using h.hl,λ i c hc=>by simpa using h.hs i (c.map (ren1 l)) (by simp[hc]),λ i c j b hc hb=>?_⟩;obtain⟨u,hu,hr⟩:=h.ha i (c.map (ren1 l)) j (ren1 l b) (by simp[hc]) (by simp[hb]);exact⟨u,hu,h1 u b (hid c (cN hc) b (cN hb)) hr⟩
theorem zbV7{R R':Value->A->Prop}{l:List (Nat×Nat)}{sz:Nat}{us:List Value}{es:List (List A)}(h:Flat R sz us es)
    (h1:∀u a,R u a->R' u (ren1 l a)) (h2:∀u a,a.pure1=true->R u a->R' u a):Flat R' sz us (zU5 l es):=by
  unfold zU5;split
  · rename_i hp
    exact⟨h.hl,h.hs,λ i c j b hc hb=>let⟨u,hu,hr⟩:=h.ha i c j b hc hb;⟨u,hu,h2 u b (zY7 (zaY1 hp c (cN hc)) b (cN hb)) hr⟩⟩
  · refine⟨by simpa using h.hl,λ i c hc=>?_,λ i c j b hc hb=>?_⟩
    · simp only[cP,cI]at hc
      obtain⟨d,hd,rfl⟩:=hc
      simpa using h.hs i d hd
    · simp only[cP,cI]at hc
      obtain⟨d,hd,rfl⟩:=hc;simp only[cP,cI]at hb;obtain⟨c,hc,rfl⟩:=hb;obtain⟨u,hu,hr⟩:=h.ha i d j c hd hc;exact⟨u,hu,h1 u c hr⟩
theorem zbO7(l:List (Nat×Nat))(a:A):(ren1 l a).pure1=a.pure1:=by
  cases a with
  |clo f cs=>cases cs<;>rfl
  |_=>rfl
theorem zbh6(l:List (Nat×Nat)):∀cs:List A,zk0 (cs.map (ren1 l))=zk0 cs
  |[]=>rfl
  |a::cs=>by simp only[dI,zk0,zbO7,zbh6 l cs]
theorem zbh7(l:List (Nat×Nat)):∀es:List (List A),pureEs (es.map (·.map (ren1 l)))=pureEs es
  |[]=>rfl
  |a::cs=>by simp only[dI,pureEs,zbh6,zbh7 l cs]
theorem zbh8{l:List (Nat×Nat)}{es:List (List A)}(h:pureEs (zU5 l es)=true):zU5 l es=es:=by
  unfold zU5 at*;split at h
  .rename_i hp;rw[cQ hp]
  .rename_i hp;rw[zbh7]at h;exact absurd h hp
section
variable {w':World} {W':Nat→Prop} {μ':Nat→Loc}
theorem zy4{l:List (Nat×Nat)}{k:Nat}(hC:∀u a,RepC w W u a->RepC w W' u a)(hW:∀b,b<w.heap.size->¬W b->¬W' b)(hμ:∀x,x<k->μ' x=μ (rho l x)){u:Value}{b:A}(hid:zby6 k b)(h:RepP w W μ u (ren0 l b)):RepP w W' μ' u b:=by
  cases b with
  |own x lo n=>refine⟨h.1,?_⟩;rw[hμ x hid];exact h.2
  |ptr x i j=>refine⟨h.1,?_⟩;rw[hμ x hid];exact h.2
  |ipt t x i j=>refine⟨h.1,?_⟩;rw[hμ x hid];exact h.2
  |mp x=>refine⟨h.1,?_⟩;rw[hμ x hid];exact h.2
  |it x=>refine⟨h.1,?_⟩;rw[hμ x hid];exact h.2
  |rd cs off=>obtain⟨b,o,hv,hb,hlt,hc⟩:=h;exact⟨b,o,hv,hW b hlt hb,hlt,λ j a hj=>let⟨u,hu,hr⟩:=hc j a hj;⟨u,hu,hC u a hr⟩⟩
  |bool b=>exact hC _ _ h
  |int k n=>exact hC _ _ h
  |str s=>exact hC _ _ h
  |sl es=>exact hC _ _ h
  |full es=>exact hC _ _ h
  |clo f cs=>exact hC _ _ h
  |bnd f cs=>exact hC _ _ h
  |ival f cs=>exact hC _ _ h
  |agg cs=>exact(by cases(show RepC w W u (.agg cs)from h))
  |tup cs=>exact(by cases(show RepC w W u (.tup cs)from h))
  |cnd g a=>exact(by cases(show RepC w W u (.cnd g a)from h))
  |any=>exact(by cases(show RepC w W u .any from h))
theorem zaQ9{l:List (Nat×Nat)}{k:Nat}(hC:∀u a,RepC w W u a->RepC w W' u a)(hW:∀b,b<w.heap.size->¬W b->¬W' b)(hμ:∀x,x<k->μ' x=μ (rho l x)){u:Value}{b:A}(hid:zaO7 k b)(h:RepK w W μ u (ren1 l b)):RepK w W' μ' u b:=by
  cases b with
  |clo f cs=>refine h.imp (λ⟨vs,hv,hl,hr⟩=>?_) (λ⟨h1,h2,h3⟩=>⟨h1,h2,by simpa using h3⟩);exact⟨vs,hv,by simpa using hl,λ i u c hu hc=>zy4 hC hW hμ (hid c (cN hc)) (hr i u (ren0 l c) hu (by simp[hc]))⟩
  |own x lo n=>exact(zy4 (b:=.own x lo n) hC hW hμ hid (h.toP rfl)).toK
  |ptr x i j=>exact(zy4 (b:=.ptr x i j) hC hW hμ hid (h.toP rfl)).toK
  |ipt t x i j=>exact(zy4 (b:=.ipt t x i j) hC hW hμ hid (h.toP rfl)).toK
  |mp x=>exact(zy4 (b:=.mp x) hC hW hμ hid (h.toP rfl)).toK
  |it x=>exact(zy4 (b:=.it x) hC hW hμ hid (h.toP rfl)).toK
  |rd cs off=>exact(zy4 (b:=.rd cs off) hC hW hμ hid (h.toP rfl)).toK
  |bool b=>exact(zy4 (b:=.bool b) hC hW hμ hid (h.toP rfl)).toK
  |int k n=>exact(zy4 (b:=.int k n) hC hW hμ hid (h.toP rfl)).toK
  |str s=>exact(zy4 (b:=.str s) hC hW hμ hid (h.toP rfl)).toK
  |sl es=>exact(zy4 (b:=.sl es) hC hW hμ hid (h.toP rfl)).toK
  |full es=>exact(zy4 (b:=.full es) hC hW hμ hid (h.toP rfl)).toK
  |bnd f cs=>exact(zy4 (b:=.bnd f cs) hC hW hμ hid (h.toP rfl)).toK
  |ival f cs=>exact(zy4 (b:=.ival f cs) hC hW hμ hid (h.toP rfl)).toK
  |agg cs=>exact(zy4 (b:=.agg cs) hC hW hμ hid (h.toP rfl)).toK
  |tup cs=>exact(zy4 (b:=.tup cs) hC hW hμ hid (h.toP rfl)).toK
  |cnd g a=>exact(zy4 (b:=.cnd g a) hC hW hμ hid (h.toP rfl)).toK
  |any=>exact(zy4 (b:=.any) hC hW hμ hid (h.toP rfl)).toK
theorem zaj2{L:List (Nat×Nat)}(hμ:∀x,μ x=.fresh\/μ' (rho L x)=μ x){u:Value}{b:A}(h:RepP w W μ u b):RepP w W μ' u (ren0 L b):=by
  cases b with
  |own x lo n=>
    refine⟨h.1,?_⟩;have h2:=h.2;rcases hμ x with e|e
    .rw[e]at h2;exact h2.elim
    .rw[e];exact h2
  |ptr x i j=>
    refine⟨h.1,?_⟩;have h2:=h.2;rcases hμ x with e|e
    .rw[e]at h2;exact h2.elim
    .rw[e];exact h2
  |ipt t x i j=>
    refine⟨h.1,?_⟩;have h2:=h.2;rcases hμ x with e|e
    .rw[e]at h2;exact h2.elim
    .rw[e];exact h2
  |mp x=>
    refine⟨h.1,?_⟩;have h2:=h.2;rcases hμ x with e|e
    .rw[e]at h2;exact h2.elim
    .rw[e];exact h2
  |it x=>
    refine⟨h.1,?_⟩;have h2:=h.2;rcases hμ x with e|e
    .rw[e]at h2;exact h2.elim
    .rw[e];exact h2
  |_=>exact h
@[go_sem] theorem zcq0(L:List (Nat×Nat))(s:List Nat):(s.map iE).map (List.map (ren1 L))=s.map iE:=by simp[iE,ren1,ren0]
theorem zbV8{L:List (Nat×Nat)}{y c:Nat}{seen:List Nat}:zU5 L ([.mp y,.int .i64 c]::seen.map iE)=[.mp (rho L y),.int .i64 c]::seen.map iE:=by unfold zU5;rw[cL (by simp[pureEs,zk0,A.pure1]),dI,zcq0];rfl
theorem ItOk.ren{L:List (Nat×Nat)}(hμ:∀x,μ x=.fresh\/μ' (rho L x)=μ x){r:Row}{k:Blk}(h:ItOk w W μ r k):ItOk w W μ' ⟨r.ro,r.sz,r.z,zU5 L r.es⟩ k:=by obtain⟨h1,h2,h3,h4,y,b,c,seen,h5,h6,h7⟩:=h;exact⟨h1,h2,h3,h4,rho L y,b,c,seen,by simp only[h5];exact zbV8,zaj2 (b:=.mp y) hμ h6,h7⟩
theorem zac9{L:List (Nat×Nat)}(hμ:∀x,μ x=.fresh\/μ' (rho L x)=μ x){u:Value}{b:A}(h:RepK w W μ u b):RepK w W μ' u (ren1 L b):=by
  cases b with
  |clo f cs=>refine h.imp (λ⟨vs,hv,hl,hr⟩=>?_) (λ⟨h1,h2,h3⟩=>⟨h1,h2,by simpa using h3⟩);refine⟨vs,hv,by simpa using hl,λ i u c hu hc=>?_⟩;simp only[cP,cI]at hc;obtain⟨d,hd,rfl⟩:=hc;exact zaj2 hμ (hr i u d hu hd)
  |own x lo n=>exact(zaj2 (b:=.own x lo n) hμ (h.toP rfl)).toK
  |ptr x i j=>exact(zaj2 (b:=.ptr x i j) hμ (h.toP rfl)).toK
  |ipt t x i j=>exact(zaj2 (b:=.ipt t x i j) hμ (h.toP rfl)).toK
  |mp x=>exact(zaj2 (b:=.mp x) hμ (h.toP rfl)).toK
  |it x=>exact(zaj2 (b:=.it x) hμ (h.toP rfl)).toK
  |_=>exact h
theorem zad0{L:List (Nat×Nat)}(hμ:∀x,μ x=.fresh\/μ' (rho L x)=μ x){u:Value}{b:A}(h:RepV w W μ u b):RepV w W μ' u (ren L b):=by
  cases b with
  |agg cs=>
    obtain⟨vs,hv,hl,hr⟩:=h;simp only[ren];split
    · rename_i hp
      exact⟨vs,hv,hl,λ i u c hu hc=>zp5 ((hr i u c hu hc).toC (zY7 hp c (cN hc)))⟩
    · refine⟨vs,hv,by simpa using hl,λ i u c hu hc=>?_⟩
      simp only[cP,cI]at hc;obtain⟨d,hd,rfl⟩:=hc;exact zac9 hμ (hr i u d hu hd)
  |clo f cs=>exact zac9 (w:=w) (W:=W) (b:=.clo f cs) hμ h
  |own x lo n=>exact zac9 (w:=w) (W:=W) (b:=.own x lo n) hμ h
  |ptr x i j=>exact zac9 (w:=w) (W:=W) (b:=.ptr x i j) hμ h
  |ipt t x i j=>exact zac9 (w:=w) (W:=W) (b:=.ipt t x i j) hμ h
  |mp x=>exact zac9 (w:=w) (W:=W) (b:=.mp x) hμ h
  |it x=>exact zac9 (w:=w) (W:=W) (b:=.it x) hμ h
  |_=>exact h
theorem zbV9{L:List (Nat×Nat)}(hμ:∀x,μ x=.fresh\/μ' (rho L x)=μ x){u:Value}{b:A}(h:Rep w W μ u b)(hb:∀g c,b≠.cnd g c):Rep w W μ' u (renR L b):=by
  cases b with
  |tup cs=>obtain⟨vs,hv,hl,hr⟩:=h;refine⟨vs,hv,by simpa using hl,λ i u c hu hc=>?_⟩;simp only[cP,cI]at hc;obtain⟨d,hd,rfl⟩:=hc;exact zad0 hμ (hr i u d hu hd)
  |any=>trivial
  |cnd g c=>exact absurd rfl (hb g c)
  |agg cs=>exact zp6 (zad0 (b:=.agg cs) hμ h)
  |clo f cs=>exact zp6 (zad0 (b:=.clo f cs) hμ h)
  |own x lo n=>exact zp6 (zad0 (b:=.own x lo n) hμ h)
  |ptr x i j=>exact zp6 (zad0 (b:=.ptr x i j) hμ h)
  |ipt t x i j=>exact zp6 (zad0 (b:=.ipt t x i j) hμ h)
  |mp x=>exact zp6 (zad0 (b:=.mp x) hμ h)
  |it x=>exact zp6 (zad0 (b:=.it x) hμ h)
  |bool b=>exact h
  |int k n=>exact h
  |str s=>exact h
  |sl es=>exact h
  |full es=>exact h
  |bnd f cs=>exact h
  |ival f cs=>exact h
  |rd cs off=>exact h
end
theorem zbp6{f:FuncId}{s:S}(hs:SatW E s a w W μ)(hG:E.G=C.G){vs:List Value}{vals as:List A}{l:List (Nat×Nat)}{ms ms':List (Nat×Row)}{k k' nx:Nat}{r:A}(hl:vs.length=vals.length)
    (hV:∀(i:Nat) (v:Value) (x:A),vs[i]? =some v->vals[i]? =some x->Rep w W μ v x) (hfresh:∀x,nx<=x->x<nx+(k'-k)->s.mem x=.fresh)
    {pre:List Value} (hf:MPre C pre f as ms k r ms' k') (hok:okM s.mem nx l vals as ms k k') (hr0:∀g c,r≠.cnd g c):
    Calls C.P f (pre++vs).toArray w λ e w'=>∃v W' μ',e=.returned v/\Rep w' W' μ' v (renR (l++newL k nx (k'-k)) r)/\
      Step s.mem (setM s.mem (mwM s.mem (l++newL k nx (k'-k)) vals as ms ms' k k')) w w' W W' μ μ':=by
  obtain⟨hargs,hrows,hd1,hd2,hall,hkk,hlt,hlk⟩:=hok;have hkk:k<=k':=dZ hkk;have hat:=zaQ8 hall;have rhoOld:∀x,x<k->rho (l++newL k nx (k'-k)) x=rho l x:=λ x hx=>by simp only[rho,zR6,zac8];rw[cL (by omega),jA]
  have rhoNew:∀i,i<k'-k->rho (l++newL k nx (k'-k)) (k+i)=nx+i:=λ i hi=>by simp only[rho,zR6,zac8];rw[zaz3 λ q hq=>by have:=hlk q hq;omega,cQ (by omega)];simp
  have rowAt:∀x,x<k->∃r r',look ms x=some r/\s.mem (rho l x)=.row r'/\r'.ro=false/\r'.sz=r.sz/\r'.es=zU5 l r.es/\r.ro=false/\idEs k r.es/\rho l x∉fzM vals as/\rho l x<nx/\szM (s.mem (rho l x)) r:=λ x hx=>by obtain⟨r,hr⟩:=hat x hx;obtain⟨⟨r',h1,h2,h3,h4⟩,h5,h6,h7,h8,h9⟩:=zaz5 hrows x r (zaz4 hr);exact⟨r,r',hr,h1,h2,h3,h4,h5,h7,h8,hlt _ (zaz4 hr),h9⟩
  have inj0:∀x y,x<k->y<k->rho l x=rho l y->x=y:=λ x y hx hy he=>by obtain⟨r1,h1⟩:=hat x hx;obtain⟨r2,h2⟩:=hat y hy;exact zaD7 hd1 x y r1 r2 h1 h2 he
  have injL:∀x y,x<k'->y<k'->rho (l++newL k nx (k'-k)) x=rho (l++newL k nx (k'-k)) y->x=y:=λ x y hx hy he=>by
    by_cases h1:x<k<;>by_cases h2:y<k
    .rw[rhoOld x h1,rhoOld y h2]at he;exact inj0 x y h1 h2 he
    · rw[rhoOld x h1,show y=k+(y-k)by omega,rhoNew _ (by omega)]at he
      obtain⟨_,_,_,_,_,_,_,_,_,_,h3,_⟩:=rowAt x h1;omega
    · rw[rhoOld y h2,show x=k+(x-k)by omega,rhoNew _ (by omega)]at he
      obtain⟨_,_,_,_,_,_,_,_,_,_,h3,_⟩:=rowAt y h2;omega
    · rw[show x=k+(x-k)by omega,show y=k+(y-k)by omega,rhoNew _ (by omega),rhoNew _ (by omega)]at he
      omega
  let fz:=fzM vals as
  let Wc:=zal0 W μ fz
  let μc:Nat->Loc:=λ x=>if x<k then μ (rho l x)else .fresh
  have hμc:∀x,x<k->μc x=μ (rho l x):=λ x hx=>cQ hx;have hμc2:∀x,¬x<k->μc x=.fresh:=λ x hx=>cL hx;have hC:∀u b,RepC w W u b->RepC w Wc u b:=λ u b h=>h.less;have hWW:∀b,b<w.heap.size->¬W b->¬Wc b:=λ b _ h h2=>h h2.1;have hgl:zaq7 w Wc C.G:=λ g cs hg=>by obtain⟨h1,h2,h3⟩:=hs.glob g cs (hG▸hg);exact⟨λ h=>h1 h.1,h2,λ j b hj=>let⟨u,hu,hr⟩:=h3 j b hj;⟨u,hu,hr.less⟩⟩
  have hmem:zac5 w Wc μc (⟨[],ms,k⟩:St).m:=λ x=>by
    by_cases hx:x<k
    · obtain⟨r,r',h1,h2,h3,h4,h5,h6,h7,h8,h9,hpz⟩:=rowAt x hx
      have e:(⟨[],ms,k⟩:St).m x=.row r:=by simp only[St.m,h1];rw[cL (by omega)]
      rw[e];have hm:=hs.mem (rho l x);rw[h2]at hm;rcases hm with⟨g1,g2,g3⟩|⟨kb,g1,gA⟩
      · refine .inl ⟨(hμc x hx).trans g1,?_,by omega⟩
        rw[h5]at g2;unfold zU5 at g2;split at g2
        .exact g2
        .exact eX.1 g2
      · by_cases hz0:r.sz=0
        · have hpz2:=hpz
          unfold szM at hpz2;rw[cL (by rw[hz0];exact Bool.false_ne_true),h2]at hpz2;obtain⟨hz1,hz2⟩:=hpz2;rcases gA.any (by have:=gA.wr.2;omega)with gM|gI
          · have hp:=gM.pure
            have e9:r'.es=r.es:=by rw[h5];exact zbh8 (h5▸hp)
            obtain⟨g2,g3,g4,es,g5,g6,g7⟩:=gM;rw[e9]at g6 g7;rw[hz1]at g7;exact .inr ⟨kb,(hμc x hx).trans g1,.inr (.inl ⟨λ _=>⟨g2 h3,λ⟨y,ky,hy,hy2,hy3⟩=>h8 (hs.inj y (rho l x) ky kb hy2 g1 hy3▸hy)⟩,g3.trans h4,hz0,es,g5,g6,λ i e c x1 x2=>(g7 i e c x1 x2).keep (Keeps.refl (λ _=>False) w) (λ _ _ _ h=>h) hWW⟩)⟩
          .exact absurd (hz1▸gI.2.2.2.1) hz2
        obtain⟨g2,g3,g4,us,rest,e',g5,g6,g7⟩:=gA.ok (by have:=gA.wr.2;omega);refine .inr ⟨kb,(hμc x hx).trans g1,.inl ⟨λ _=>⟨g2 h3,λ⟨y,ky,hy,hy2,hy3⟩=>h8 (hs.inj y (rho l x) ky kb hy2 g1 hy3▸hy)⟩,g3.trans h4,by omega,us,rest,e',g5,g6,?_⟩⟩;rw[h5,h4]at g7;exact zbJ9 g7 h7 (λ u b hid hr=>zaQ9 hC hWW (λ z hz=>hμc z hz) hid hr) (λ u b hp hr=>zp5 (hr.toC hp).less)
    · have e:(⟨[],ms,k⟩:St).m x=.fresh:=by simp only[St.m];rw[cQ (by omega)]
      rw[e];exact hμc2 x hx
  have hinj:∀x y b b',μc x=.at_ b->μc y=.at_ b'->b.b=b'.b->x=y:=λ x y b b' hx hy he=>by
    by_cases h1:x<k
    · by_cases h2:y<k
      · rw[hμc x h1]at hx;rw[hμc y h2]at hy
        exact inj0 x y h1 h2 (hs.inj _ _ b b' hx hy he)
      .rw[hμc2 y h2]at hy;cases hy
    .rw[hμc2 x h1]at hx;cases hx
  have hargs':∀(i:Nat) (v:Value) (b:A),vs[i]? =some v->as[i]? =some b->RepV w Wc μc v b:=λ i v b hv hb=>by
    obtain⟨x,hx,hm,hz⟩:=zbz0 hargs i b hb;have hr:=hV i v x hv hx;unfold argM at hm;split at hm
    · rename_i hh
      obtain⟨rfl,hid⟩:=hm
      by_cases ha:∃cs,b=.agg cs
      · obtain⟨cs,rfl⟩:=ha
        have hp:=zbF6 hh;simp only[ren,hp,cG,cV]at hr;obtain⟨us,hu,hl2,hr2⟩:=hr;exact⟨us,hu,by simpa using hl2,λ i u c h1 h2=>zaQ9 (W':=Wc) (μ':=μc) hC hWW (λ z hz=>hμc z hz) (zby9 hid c (cN h2)) (hr2 i u (ren1 l c) h1 (by simp[h2]))⟩
      · have hk:RepK w W μ v (ren1 l b):=by cases b<;>first|exact hr|exact absurd ⟨_,rfl⟩ ha|(simp[A.hands]at hh)
        have hk2:=zaQ9 (W':=Wc) (μ':=μc) hC hWW (λ z hz=>hμc z hz) (by cases b<;>first|exact hid|exact absurd ⟨_,rfl⟩ ha) hk;exact zo5 hk2
    · rename_i hh
      obtain⟨hfo,rfl⟩:=hm;exact(zbs9 hs hr hfo (λ y hy=>hz (by simpa using hh) y hy)).goes (Keeps.refl (λ _=>False) w) (λ _ _ _ h=>h) (λ _ _ h=>h) zbp2
  have hlen:vs.length=as.length:=hl.trans (zbp3 hargs);refine(hf w Wc μc vs hgl (λ b h=>hs.wlt b h.1) hlen hargs' hmem hinj).mono λ e w' ⟨v,Wc',μc',he,hst,hr⟩=>?_
  clear hgl hmem hargs' hV
  have hm'fresh:∀x,k'<=x->μc' x=.fresh:=λ x hx=>by have:=hst.mem x;rw[show(⟨[],ms',k'⟩:St).m x=.fresh by simp only[St.m];rw[cQ hx]]at this;exact this
  generalize hL:l++newL k nx (k'-k)=L at*
  let μ':Nat->Loc:=λ y=>open Classical in if h:∃z,z<k'/\rho L z=y then μc' (Classical.choose h)else μ y
  have hμ1:∀z,z<k'->μ' (rho L z)=μc' z:=λ z hz=>by have h:∃z',z'<k'/\rho L z'=rho L z:=⟨z,hz,rfl⟩;show(if h:∃z',z'<k'/\rho L z'=rho L z then μc' (Classical.choose h)else μ (rho L z))=_;rw[iU h];rw[injL _ _ (eH h).1 hz (eH h).2]
  have hμ2:∀y,(¬∃z,z<k'/\rho L z=y)->μ' y=μ y:=λ y hy=>dif_neg hy;have hback:∀x,μc' x=.fresh\/μ' (rho L x)=μc' x:=λ x=>by
    by_cases hx:x<k'
    .exact .inr (hμ1 x hx)
    .exact .inl (hm'fresh x (by omega))
  have sub:∀b,(Wc b/\∃y kb,μc y=.at_ kb/\kb.b=b)->W b/\∃y kb,μ y=.at_ kb/\kb.b=b:=λ b ⟨h1,y,kb,h2,h3⟩=>by
    by_cases hy:y<k
    .rw[hμc y hy]at h2;exact⟨h1.1,_,kb,h2,h3⟩
    .rw[hμc2 y hy]at h2;cases h2
  have handed:∀y kb,μ y=.at_ kb->(∃z kz,μc z=.at_ kz/\kz.b=kb.b)->∃z,z<k'/\rho L z=y:=λ y kb hy ⟨z,kz,h1,h2⟩=>by
    by_cases hz:z<k
    · rw[hμc z hz]at h1
      refine⟨z,by omega,?_⟩;rw[rhoOld z hz];exact hs.inj _ _ kz kb h1 hy h2
    .rw[hμc2 z hz]at h1;cases h1
  have hold:Old μ μ':=λ y hy=>by
    by_cases h:∃z,z<k'/\rho L z=y
    · obtain⟨z,hz,rfl⟩:=h
      rw[hμ1 z hz]
      by_cases hzk:z<k
      · rw[rhoOld z hzk]at hy|-
        rcases hst.old z (by rw[hμc z hzk];exact hy)with e|e
        .exact .inl (e.trans (hμc z hzk))
        .exact .inr e
      · exfalso
        apply hy;have hf:=hfresh (nx+(z-k)) (by omega) (by omega);rw[show z=k+(z-k)by omega,rhoNew _ (by omega)];have:=hs.mem (nx+(z-k));rw[hf]at this;exact this
    .exact .inl (hμ2 y h)
  have hkeep:Keeps (λ b=>W b/\∃y kb,μ y=.at_ kb/\kb.b=b) w w':=hst.keeps.mono λ b _ h=>sub b h;have hWb:∀b,b<w.heap.size->Wc' b->W b:=λ b hb h=>(hst.hW b hb h).1;refine⟨v,Wc',μ',he,zbV9 hback hr hr0,⟨hkeep,hWb,λ b hb=>?_,hs.wlt,hst.wlt,hold,λ y=>?_,λ x y b b' hx hy hb=>?_,λ y b hy=>?_⟩⟩
  ·
    by_cases hz:∃x kb,x∈fz/\μ x=.at_ kb/\kb.b=b
    .obtain⟨x,kb,_,h2,h3⟩:=hz;exact .inr ⟨x,kb,h2,h3⟩
    · rcases hst.wsup b ⟨hb,hz⟩with h|⟨x,kb,h1,h2⟩
      .exact .inl h
      · by_cases hx:x<k
        .rw[hμc x hx]at h1;exact .inr ⟨_,kb,h1,h2⟩
        .rw[hμc2 x hx]at h1;cases h1
  ·
    rw[mwM,zbb0]
    by_cases h:∃z,z<k'/\rho L z=y
    · obtain⟨z,hz,rfl⟩:=h
      have hzin:z∈ms.map (·.1)++(List.range (k'-k)).map (k+·):=by
        by_cases hzk:z<k
        · obtain⟨r,hr⟩:=hat z hzk
          exact dN _ (cS.2 ⟨(z,r),zaz4 hr,rfl⟩)
        .exact dL _ (cS.2 ⟨z-k,dT.2 (by omega),by omega⟩)
      rw[zbh5 hzin λ x hx he=>by
        refine injL x z ?_ hz he;rcases dV.1 hx with hx|hx
        · obtain⟨q,hq,rfl⟩:=cS.1 hx
          have:=(zaz5 hrows q.1 q.2 hq).2.2.1;omega
        · obtain⟨i,hi,rfl⟩:=cS.1 hx
          have:=dT.1 hi;omega]
      have hm:=hst.mem z;have e:(⟨[],ms',k'⟩:St).m z=(match look ms' z with|some r=>.row r|none=>.dead:MS):=by simp only[St.m];rw[cL (by omega)];cases look ms' z<;>rfl
      rw[e]at hm;cases hlk':look ms' z with
      |none=>rw[hlk']at hm;exact(hμ1 z hz).trans hm
      |some r1=>
        rw[hlk']at hm;rcases hm with⟨g1,g2,g3⟩|⟨kb,g1,⟨g2,g3,g4,us,rest,e',g5,g6,g7⟩|gM|gI⟩
        · refine .inl ⟨(hμ1 z hz).trans g1,?_,g3⟩
          show zU5 L r1.es=[];rw[g2];rfl
        .exact .inr ⟨kb,(hμ1 z hz).trans g1,.inl ⟨g2,g3,g4,us,rest,e',g5,g6,zbV7 g7 (λ u b hb=>zac9 hback hb) (λ u b hp hb=>zp5 (hb.toC hp))⟩⟩
        · refine .inr ⟨kb,(hμ1 z hz).trans g1,.inr (.inl ?_)⟩
          have e3:zU5 L r1.es=r1.es:=by unfold zU5;rw[cQ gM.pure]
          rw[e3];exact gM
        .exact .inr ⟨kb,(hμ1 z hz).trans g1,.inr (.inr (gI.ren hback))⟩
    · rw[zay3 λ x hx he=>h ⟨x,by
        rcases dV.1 hx with hx|hx
        · obtain⟨q,hq,rfl⟩:=cS.1 hx
          have:=(zaz5 hrows q.1 q.2 hq).2.2.1;omega
        · obtain⟨i,hi,rfl⟩:=cS.1 hx
          have:=dT.1 hi;omega,he⟩,zbe5]
      have hm:=hs.mem y;have hgo:∀(r:Row) (kb:Blk),zN2 w W μ r kb->μ y=.at_ kb->(r.ro=false->y∉fz)->zN2 w' Wc' μ' r kb:=λ r kb hrow hy hnz=>by
        have hlt:=hrow.lt;have hnh:¬∃z kz,μc z=.at_ kz/\kz.b=kb.b:=λ hh=>h (handed y kb hy hh);have hro':(r.ro=false->W kb.b)->r.ro=false->Wc' kb.b:=λ g1 hro=>by
          rcases hst.wsup kb.b ⟨g1 hro,λ⟨x,kx,hx,hx2,hx3⟩=>hnz hro (hs.inj x y kx kb hx2 hy hx3▸hx)⟩with h1|h1
          .exact h1
          .exact absurd h1 hnh
        rcases hrow with⟨g1,g2,g3,us,rest,e',g4,g5,g6⟩|⟨g1,g2,g3,es,g4,g5,g6⟩|⟨g1,g2,g3,hz,y',b',c,seen,g5,g6,g4⟩
        · refine .inl ⟨hro' g1,g2,g3,us,rest,e',?_,g5,g6.mono λ u b hb=>hb.goes hkeep (λ _ _ h h2=>h h2.1) (λ b hb h h2=>h (hWb b hb h2)) hold⟩
          rw[hst.keeps.block kb.b hlt (λ hh=>hnh hh.2)];exact g4
        · refine .inr (.inl ⟨hro' g1,g2,g3,es,?_,g5,λ i e c p q=>(g6 i e c p q).keep hkeep (λ _ _ h h2=>h h2.1) (λ b hb h h2=>h (hWb b hb h2))⟩)
          rw[hst.keeps.block kb.b hlt (λ hh=>hnh hh.2)];exact g4
        · refine .inr (.inr ⟨hro' g1,g2,g3,hz,y',b',c,seen,g5,g6.goes hkeep (λ _ _ h h2=>h h2.1) (λ b hb h h2=>h (hWb b hb h2)) hold,?_⟩)
          rw[hst.keeps.block kb.b hlt (λ hh=>hnh hh.2)];exact g4
      have hsame:zV7 w' Wc' μ' y (s.mem y)\/(y∈fz/\∃r,s.mem y=.row r/\zV7 w' Wc' μ' y (.row ⟨true,r.sz,r.z,r.es⟩)):=by
        cases hr1:s.mem y with
        |fresh=>rw[hr1]at hm;exact .inl ((hμ2 y h).trans hm)
        |dead=>rw[hr1]at hm;exact .inl ((hμ2 y h).trans hm)
        |row r1=>
          rw[hr1]at hm
          by_cases hz:y∈fz
          · refine .inr ⟨hz,r1,rfl,?_⟩
            rcases hm with⟨g1,g2,g3⟩|⟨kb,g1,g2⟩
            .exact .inl ⟨(hμ2 y h).trans g1,g2,g3⟩
            .exact .inr ⟨kb,(hμ2 y h).trans g1,hgo ⟨true,r1.sz,r1.z,r1.es⟩ kb g2.ro g1 (by simp)⟩
          · refine .inl ?_
            rcases hm with⟨g1,g2,g3⟩|⟨kb,g1,g2⟩
            .exact .inl ⟨(hμ2 y h).trans g1,g2,g3⟩
            .exact .inr ⟨kb,(hμ2 y h).trans g1,hgo r1 kb g2 g1 (λ _=>hz)⟩
      split
      · rename_i hz
        rcases hsame with h1|⟨_,r1,h1,h2⟩
        · cases hr1:s.mem y with
          |fresh=>rw[hr1]at h1;exact h1
          |dead=>rw[hr1]at h1;exact h1
          |row r1=>
            rw[hr1]at h1;rcases h1 with⟨g1,g2,g3⟩|⟨kb,g1,g2⟩
            .exact .inl ⟨g1,g2,g3⟩
            .exact .inr ⟨kb,g1,g2.ro⟩
        .rw[h1];exact h2
      · rename_i hz
        rcases hsame with h1|⟨h1,_⟩
        .exact h1
        .exact absurd h1 hz
  ·
    have big:∀x b,μ x=.at_ b->b.b<w.heap.size:=λ x b hx=>by obtain⟨_,_,h⟩:=hs.mem.at_ hx;exact h.lt
    have cross:∀z y b b',z<k'->μc' z=.at_ b->μ y=.at_ b'->b.b=b'.b->∃z,z<k'/\rho L z=y:=λ z y b b' _ h1 h2 h3=>by
      rcases hst.live z b h1 with⟨z0,k0,h4,h5⟩|h4
      .exact handed y b' h2 ⟨z0,k0,h4,h5.trans h3⟩
      .have:=big y b' h2;omega
    by_cases h1:∃z,z<k'/\rho L z=x<;>by_cases h2:∃z,z<k'/\rho L z=y
    · obtain⟨z,hz,rfl⟩:=h1
      obtain⟨z',hz',rfl⟩:=h2;rw[hμ1 z hz]at hx;rw[hμ1 z' hz']at hy;rw[hst.inj z z' b b' hx hy hb]
    · obtain⟨z,hz,rfl⟩:=h1
      rw[hμ1 z hz]at hx;rw[hμ2 y h2]at hy;exact absurd (cross z y b b' hz hx hy hb) h2
    · obtain⟨z,hz,rfl⟩:=h2
      rw[hμ1 z hz]at hy;rw[hμ2 x h1]at hx;exact absurd (cross z x b' b hz hy hx hb.symm) h1
    · rw[hμ2 x h1]at hx;rw[hμ2 y h2]at hy
      exact hs.inj x y b b' hx hy hb
  ·
    by_cases h:∃z,z<k'/\rho L z=y
    · obtain⟨z,hz,rfl⟩:=h
      rw[hμ1 z hz]at hy;rcases hst.live z b hy with⟨z0,k0,h4,h5⟩|h4
      · by_cases hz0:z0<k
        .rw[hμc z0 hz0]at h4;exact .inl ⟨_,k0,h4,h5⟩
        .rw[hμc2 z0 hz0]at h4;cases h4
      .exact .inr h4
    .rw[hμ2 y h]at hy;exact .inl ⟨y,b,hy,rfl⟩
theorem zbb1{f:FuncId}{s:S}(hs:SatW E s a w W μ)(hG:E.G=C.G){vs:List Value}{vals as:List A}{l:List (Nat×Nat)}{ms ms':List (Nat×Row)}{k k' nx:Nat}{r:A}(hl:vs.length=vals.length)
    (hV:∀(i:Nat) (v:Value) (x:A),vs[i]? =some v->vals[i]? =some x->Rep w W μ v x) (hfresh:∀x,nx<=x->x<nx+(k'-k)->s.mem x=.fresh)
    (hf:MFn C f as ms k r ms' k') (hok:okM s.mem nx l vals as ms k k') (hr0:∀g c,r≠.cnd g c):
    Calls C.P f vs.toArray w λ e w'=>∃v W' μ',e=.returned v/\Rep w' W' μ' v (renR (l++newL k nx (k'-k)) r)/\
      Step s.mem (setM s.mem (mwM s.mem (l++newL k nx (k'-k)) vals as ms ms' k k')) w w' W W' μ μ':=
  zbp6 (pre:=[]) hs hG hl hV hfresh hf hok hr0
theorem zbh9{st:St}{l:List (Nat×Nat)}{vals as:List A}{ms ms':List (Nat×Row)}{k k':Nat}(hok:okM st.m st.nx l vals as ms k k'):mwOk st.nx (mwM st.m (l++newL k st.nx (k'-k)) vals as ms ms' k k'):=by
  obtain⟨hargs,hrows,hd1,hd2,hall,hkk,hlt,hlk⟩:=hok;have hkk:k<=k':=dZ hkk;have ent:∀{L:List (Nat×Nat)} {ids:List Nat},∀q∈zQ6 L ms' ids,(∃x∈ids,q.1=rho L x)/\q.2≠.fresh:=λ{L} {ids}=>by
    induction ids with
    |nil=>intro q hq;cases hq
    |cons x ids ih=>
      intro q hq;rcases dB.1 hq with rfl|hq
      .exact⟨⟨x,.head _,rfl⟩,by simp only;cases look ms' _<;>simp[entM]⟩
      .obtain⟨⟨y,hy,h1⟩,h2⟩:=ih q hq;exact⟨⟨y,.tail _ hy,h1⟩,h2⟩
  have app:∀(L:List (Nat×Nat)) (x y:List Nat),zQ6 L ms' (x++y)=zQ6 L ms' x++zQ6 L ms' y:=λ L x y=>by
    induction x with
    |nil=>rfl
    |cons z x ih=>simp only[List.cons_append,zQ6,ih]
  unfold mwM;refine zav7 (λ q hq=>let⟨⟨r,hr⟩,h2⟩:=zav8 q hq;⟨St.m_row hr,h2⟩) ?_;rw[app];refine zav7 (λ q hq=>?_) ?_
  · obtain⟨⟨x,hx,h1⟩,h2⟩:=ent q hq
    obtain⟨p,hp,rfl⟩:=cS.1 hx;have h3:=(zaz5 hrows p.1 p.2 hp).2.2.1;refine⟨?_,h2⟩;rw[h1];have:rho (l++newL k st.nx (k'-k)) p.1=rho l p.1:=by simp only[rho,zR6,zac8];rw[cL (by omega),jA]
    rw[this];exact hlt p hp
  · have key:∀(n j:Nat),j+n<=k'-k->mwOk (st.nx+j) (zQ6 (l++newL k st.nx (k'-k)) ms' ((List.range' j n).map (k+·))):=λ n=>by
      induction n with
      |zero=>intro j _;trivial
      |succ n ih=>
        intro j hj;have hrho:rho (l++newL k st.nx (k'-k)) (k+j)=st.nx+j:=by simp only[rho,zR6,zac8];rw[zaz3 λ q hq=>by have:=hlk q hq;omega,cQ (by omega)];simp
        rw[fP,dI,zQ6];refine⟨by rw[hrho];exact cU _,by simp only;cases look ms' _<;>simp[entM],?_⟩;simp only[hrho,dM];exact ih (j+1) (by omega)
    have:=key (k'-k) 0 (by omega);rwa [<-List.range_eq_range']at this
theorem zbp7{st:St}:∀{mw:List (Nat×MS)},zaU2 st.m mw->mwOk st.nx mw
  |[],_=>trivial
  |q::r,⟨h1,h3⟩=>zaJ3 (by
      by_cases h:q.1<st.nx
      .exact h
      .exact absurd (by simp only[St.m];rw[cQ (by omega)]) (MS.like_ne h1).1) (MS.like_ne h1).2 (zbp7 h3)
theorem zaR0{P:Program}{f:FuncId}(h:zx1 P f=true):(f==zF2)=false:=by
  unfold zx1 at h;split at h
  .simp only[cF,dQ]at h;exact h.2
  .cases h
theorem zbp8{t:Operand}{args:Array Operand}{ats:Array TypeId}{f:FuncId}{vs caps:List Value}(ho:o.op=.call {callee:=.value t,args:=args,argTypes:=ats})(ht:a.eval t=.func (.func f) #[] caps.toArray)
    (hfn:zx1 C.P f=true) (hvs:vs=args.toList.map a.eval++caps):(execOp a.eval o).run C.P w=.ok (.enter f vs.toArray) w:=by
  unfold zx1 at hfn;have e1:vs.toArray=args.map a.eval++caps.toArray:=by rw[hvs];simp[<-Array.toList_map]
  split at hfn
  · rename_i fn hfn'
    simp only[cF,dQ]at hfn;have hb:fn.body.isNone=false:=by cases hb:fn.body<;>simp[hb]at hfn|-
    have hc2:(callFunc f (args.map a.eval++caps.toArray)).run C.P w=.ok (.enter f (args.map a.eval++caps.toArray)) w:=by simp only[callFunc,Sem.run_bind,run_program,Result.andThen_ok,hfn'];rw[cL (by simp[hfn.1.2]),cL (by simp[hb])];rfl
    rw[e1];simp[execOp,ho,resolve,ht,Deferred.ofValue,invoke,hc2]
  .cases hfn
theorem zbF7{t:Operand}{args:Array Operand}{ats:Array TypeId}{f:FuncId}{u:Value}{vs:List Value}(ho:o.op=.call {callee:=.value t,args:=args,argTypes:=ats})(ht:a.eval t=.func (.func f) #[u] #[])
    (hfn:zx1 C.P f=true) (hvs:vs=u::args.toList.map a.eval):(execOp a.eval o).run C.P w=.ok (.enter f vs.toArray) w:=by
  unfold zx1 at hfn;have e1:vs.toArray=#[u]++args.map a.eval:=by rw[hvs];simp[<-Array.toList_map]
  split at hfn
  · rename_i fn hfn'
    simp only[cF,dQ]at hfn;have hb:fn.body.isNone=false:=by cases hb:fn.body<;>simp[hb]at hfn|-
    have hc2:(callFunc f (#[u]++args.map a.eval)).run C.P w=.ok (.enter f (#[u]++args.map a.eval)) w:=by simp only[callFunc,Sem.run_bind,run_program,Result.andThen_ok,hfn'];rw[cL (by simp[hfn.1.2]),cL (by simp[hb])];rfl
    rw[e1];simp[execOp,ho,resolve,ht,Deferred.ofValue,invoke,hc2]
  .cases hfn
theorem zbW0(P:Program)(w:World)(xt:TypeId)(p:Addr)(nm:String):(Builtin.ssaWrapNilChk_ #[xt] xt #[.pointer (some p),strVal "",strVal nm]).run P w=.ok (.pointer (some p)) w:=rfl
theorem zbW1{s:S}(hs:SatW E s a w W μ){P:Program}{v:Value}{t f x i j:Nat}{nm:String}{pr:Bool}(hme:zbF4 P t nm f pr=true)(hx:Rep w W μ v (.ipt t x i j))(hrc:zaQ7 s.mem pr x i j):
    ∃p u,v=.iface t (.pointer (some p))/\(method (P.types.size+Made.depth) t (.pointer (some p)) nm).run P w=.ok (f,u) w/\Rep w W μ u (ircv s.mem pr x i j):=by
  unfold zaQ7 at hrc;cases hr:s.mem x with
  |fresh=>rw[hr]at hrc;exact hrc.elim
  |dead=>rw[hr]at hrc;exact hrc.elim
  |row r=>
    rw[hr]at hrc;simp only at hrc;obtain⟨k,hk,hv,hrow⟩:=hs.ipt hx hr;have hp:=zaM6 (w:=w) (W:=W) hk hrow.pos i j;unfold zbF4 at hme;simp only[cF]at hme;obtain⟨hm1,hm2⟩:=hme;split at hm1
    rotate_left
    .cases hm1
    rename_i ti hti;split at hm1
    rotate_left
    .cases hm1
    rename_i m hm;simp only[cF,cY,List.isEmpty_iff]at hm1;obtain⟨hpa,hfu⟩:=hm1;split at hm2
    rotate_left
    .cases hm2
    rename_i e he;obtain⟨n,hn⟩:∃n,P.types.size+Made.depth=n+1:=⟨P.types.size+Made.depth-1,by simp[Made.depth]⟩;have hti':(typeInfo t).run P w=.ok ti w:=by simp[typeInfo,hti]
    have hpe:m.path=#[]:=by simpa using hpa
    refine⟨⟨k.b,i*k.sz+j,none⟩,?_⟩;cases pr with
    |true=>refine⟨_,hv,?_,hp⟩;rw[hn];simp[method,hti',hm,hpa,hfu,follow,receiverAt,run_underlying he,Place.get]
    |false=>
      have hb:i<r.es.length/\j+1<=r.sz:=by rcases hrc with h|h;cases h;exact h
      obtain⟨b,q,u,h1,h2,h3⟩:=zbg0 (id:=0) (T:=e) (ag:=false) (n:=1) (ef:=⟨i<r.es.length/\j+1<=r.sz,zP9 false (sub (r.es.getD i r.z) j 1),[]⟩) hs hm2 hp (by simp only[ev,hr]) hb;have h1':=h1;simp only[Value.pointer.injEq,eJ,Addr.mk.injEq,iA]at h1';obtain⟨rfl,rfl⟩:=h1';refine⟨u,hv,?_,by unfold ircv;rw[hr];exact h3⟩;rw[hn];simp[method,hti',hm,hpe,hfu,follow,receiverAt,run_underlying he,Place.get,zbW0,asAddr,h2]
theorem zcf3{y:Operand}{args:Array Operand}{ats:Array TypeId}{nm:String}{t f:Nat}{pp:Addr}{u:Value}(ho:o.op=.call {callee:=.invoke y nm,args:=args,argTypes:=ats})(hv:a.eval y=.iface t (.pointer (some pp)))
    (hrun:(method (C.P.types.size+Made.depth) t (.pointer (some pp)) nm).run C.P w=.ok (f,u) w) (hfn:zx1 C.P f=true):(execOp a.eval o).run C.P w=.ok (.enter f (u::args.toList.map a.eval).toArray) w:=by
  unfold zx1 at hfn;have e1:(u::args.toList.map a.eval).toArray=#[u]++args.map a.eval:=by simp[<-Array.toList_map]
  split at hfn
  · rename_i fn hfn'
    simp only[cF,dQ]at hfn;have hb:fn.body.isNone=false:=by cases hb:fn.body<;>simp[hb]at hfn|-
    have hc2:(callFunc f (#[u]++args.map a.eval)).run C.P w=.ok (.enter f (#[u]++args.map a.eval)) w:=by simp only[callFunc,Sem.run_bind,run_program,Result.andThen_ok,hfn'];rw[cL (by simp[hfn.1.2]),cL (by simp[hb])];rfl
    have h0:(#[Value.iface t (.pointer (some pp))]++args.map a.eval)[0]? =some (.iface t (.pointer (some pp))):=by rw[eU (by simp)];rfl
    rw[e1];simp[execOp,ho,resolve,hv,invoke,h0,callMethod,hrun,<-Array.map_extract];exact hc2
  .cases hfn
theorem zbi0{ops:Array Oper}{p:POp}{s:S}{id:Nat}(hs:SatW E s a w W μ)(hG:E.G=C.G)(hid:s.mem id=.fresh)(hp:POk C E.N ops o p){K:A->List (Nat×MS)->Prop}(h:aopS C p s id K){Q:Exit->Act->World->Prop}{k:Act->World->Prop}
    (hk:∀v mw a' w',K v mw->Sat E ⟨setF s.fr p.dst v,setM s.mem mw⟩ a' w'->k a' w'):if Region.wanted o (yielded ops a.tmps)then o.wp C.P a w k Q else k (a.put o.dst undef) w:=by
  unfold aopS at h;cases hgo:zB6 s.fr p.g with
  |none=>simp[hgo]at h
  |some g=>
    simp only[hgo]at h;have hwant:=zby8 hs hp.g hgo;rw[hwant,hp.dst];have skip:∀(v:A),g=false->K (zH1 p.g g v) []->k (a.put p.dst undef) w:=λ v hg hK=>by
      refine hk _ _ _ _ hK ⟨W,μ,?_⟩;refine hs.step (m':=s.mem) hs.refl hp.lt ?_;cases hpg:p.g with
      |none=>rw[hpg]at hgo;simp[zB6]at hgo;rw[hg]at hgo;cases hgo
      |some q=>exact⟨λ h=>(by rw[hg]at h;cases h),λ _=>rfl⟩
    have fin:∀(v:A) (mw:List (Nat×MS)) (u:Value) (w':World) (W':Nat->Prop) (μ':Nat->Loc),g=true->(p.g=none\/v.isVV=true)->K (zH1 p.g g v) mw->Rep w' W' μ' u v->Step s.mem (setM s.mem mw) w w' W W' μ μ'->k (a.put p.dst u) w':=λ v mw u w' W' μ' hg hgv hK hr hst=>by
      refine hk _ _ _ _ hK ⟨W',μ',?_⟩;refine hs.step hst hp.lt ?_;cases hpg:p.g with
      |none=>exact hr
      |some q=>
        refine⟨λ _=>?_,λ h=>(by rw[hg]at h;cases h)⟩;rcases hgv with h1|h1
        .rw[hpg]at h1;cases h1
        .exact hr.toVV h1
    have go:∀(v:A) (mw:List (Nat×MS)),g=true->zq3 C.P o a w W μ s.mem v (setM s.mem mw)->(p.g=none\/v.isVV=true)->K (zH1 p.g g v) mw->o.wp C.P a w k Q:=λ v mw hg hy hgv hK=>by refine Oper.wp_of_yields hs hy λ u w' W' μ' hr hst=>?_;rw[hp.dst];exact fin v mw u w' W' μ' hg hgv hK hr hst
    have sk:∀(v:A) (mw:List (Nat×MS)),g=false->(p.g=none\/mw=[]/\v.isVV=true)->K (zH1 p.g g v) mw->k (a.put p.dst undef) w:=λ v mw hg hgv hK=>by
      rcases hgv with h1|⟨h1,_⟩
      .rw[h1]at hgo;simp[zB6]at hgo;rw[hg]at hgo;cases hgo
      .subst h1;exact skip v hg hK
    have call:∀(t:Operand) (args:Array Operand) (ats:Array TypeId) (f:FuncId) (vs caps:List Value) (vals:List A) (r:A),o.op=.call {callee:=.value t,args:=args,argTypes:=ats}->a.eval t=.func (.func f) #[] caps.toArray->zx1 C.P f=true->
        vs=args.toList.map a.eval++caps->vs.length=vals.length->(∀(i:Nat) (v:Value) (x:A),vs[i]? =some v->vals[i]? =some x->Rep w W μ v x)->zx2 s.mem vals->PFn C f (zC0 s.mem vals) r->
        g=true->(p.g=none\/zx3 s.mem vals r=[]/\r.isVV=true)->K (zH1 p.g g r) (zx3 s.mem vals r)->o.wp C.P a w k Q:=λ t args ats f vs caps vals r ho ht hb hvs hl hV hfz hpf hg hgv hK=>by
      have hc:=zbh4 hs hG hl hV hfz hpf;unfold Oper.wp;rw[zbp8 ho ht hb hvs];refine hc.mono λ e w' ⟨v,W',he,hrep,hst⟩=>?_;subst he;show k (a.put o.dst v) w';rw[hp.dst];exact fin r _ v w' W' μ hg (hgv.imp (λ h=>h) And.right) hK hrep hst
    have callb:∀(t:Operand) (args:Array Operand) (ats:Array TypeId) (f:FuncId) (u:Value) (vs:List Value) (vals:List A) (r:A),o.op=.call {callee:=.value t,args:=args,argTypes:=ats}->a.eval t=.func (.func f) #[u] #[]->zx1 C.P f=true->
        vs=u::args.toList.map a.eval->vs.length=vals.length->(∀(i:Nat) (v:Value) (x:A),vs[i]? =some v->vals[i]? =some x->Rep w W μ v x)->zx2 s.mem vals->PFn C f (zC0 s.mem vals) r->
        g=true->(p.g=none\/zx3 s.mem vals r=[]/\r.isVV=true)->K (zH1 p.g g r) (zx3 s.mem vals r)->o.wp C.P a w k Q:=λ t args ats f u vs vals r ho ht hb hvs hl hV hfz hpf hg hgv hK=>by
      have hc:=zbh4 hs hG hl hV hfz hpf;unfold Oper.wp;rw[zbF7 ho ht hb hvs];refine hc.mono λ e w' ⟨v,W',he,hrep,hst⟩=>?_;subst he;show k (a.put o.dst v) w';rw[hp.dst];exact fin r _ v w' W' μ hg (hgv.imp (λ h=>h) And.right) hK hrep hst
    have callm:∀(t:Operand) (args:Array Operand) (ats:Array TypeId) (f:FuncId) (vs caps:List Value) (vals:List A) (ob:Prop),o.op=.call {callee:=.value t,args:=args,argTypes:=ats}->a.eval t=.func (.func f) #[] caps.toArray->zx1 C.P f=true->
        vs=args.toList.map a.eval++caps->vs.length=vals.length->(∀(i:Nat) (v:Value) (x:A),vs[i]? =some v->vals[i]? =some x->Rep w W μ v x)->g=true->
        zao1 C s.mem id f vals p.g g ob (λ n=>∀x,id<=x->x<id+n->s.mem x=.fresh) K->o.wp C.P a w k Q:=λ t args ats f vs caps vals ob ho ht hb hvs hl hV hgt hcm=>by
      obtain⟨l,as,ms,kk,r,ms',kk',ht0,_,hvv,hcnd,hK⟩:=hcm;obtain⟨_,hmf,hok,hfr⟩:=ht0 hgt;have hc:=zbb1 hs hG hl hV hfr hmf hok hcnd;unfold Oper.wp;rw[zbp8 ho ht hb hvs];refine hc.mono λ e w' ⟨v,W',μ',he,hrep,hst⟩=>?_;subst he;show k (a.put o.dst v) w';rw[hp.dst];exact fin _ _ v w' W' μ' hgt hvv hK hrep hst
    have skipM:∀{f:FuncId} {vals:List A} {ob:Prop} {F:Nat->Prop},g=false->zao1 C s.mem id f vals p.g g ob F K->k (a.put p.dst undef) w:=λ hg h=>by
      obtain⟨l,as,ms,kk,r,ms',kk',_,hf,_,_,hK⟩:=h;obtain⟨_,hsame⟩:=hf hg;refine hk _ _ _ _ hK ⟨W,μ,?_⟩;refine{(hs.step (m':=s.mem) (d:=p.dst) (v:=undef) (av:=zH1 p.g g (renR _ _)) hs.refl hp.lt ?_)with mem:=λ x=>?_}
      case refine_2=>
        rcases zbp0 x s.mem hsame with e|e
        · show zV7 w W μ x (setM s.mem _ x)
          rw[e];exact hs.mem x
        .exact(hs.mem x).like e
      cases hpg:p.g with
      |none=>rw[hpg]at hgo;simp[zB6]at hgo;rw[hg]at hgo;cases hgo
      |some q=>exact⟨λ h=>(by rw[hg]at h;cases h),λ _=>rfl⟩
    split at h
    · rename_i hpo
      split at h
      · rename_i c x y hxs
        split at h
        · rename_i b u v hc hx hy
          obtain⟨hgd,hK⟩:=h;cases g with
          |false=>exact skip _ rfl hK
          |true=>
            obtain⟨g1,g2,g3⟩:=hgd rfl;have hop:=hp.op;rw[hpo,hxs]at hop;simp only[zav6]at hop;split at hop
            · rename_i c' x' y' ho
              simp only[zw3,cF,gJ]at hop;obtain⟨k1,k2,k3⟩:=hop;have r1:=zaX6 hs k1;have r2:=zaX6 hs k2;have r3:=zaX6 hs k3;rw[hG]at r1 r2 r3;simp only[dM];refine go _ [] rfl (zco3 hs ho (b:=b) (p:=u) (q:=v) ?_ ?_ ?_) (.inr rfl) hK
              .rw[<-hc];exact zbs1 r1 g1
              .intro hb;rw[<-hx];exact zbs1 r2 (g2 hb)
              .intro hb;rw[<-hy];exact zbs1 r3 (g3 hb)
            .cases hop
        .exact h.elim
      .exact h.elim
    · rename_i f hpo
      obtain⟨r,h1,h2,hK⟩:=h;cases g with
      |false=>exact sk _ _ rfl h2 hK
      |true=>
        obtain⟨hgd,hfz,hpf⟩:=h1 rfl;have hop:=hp.op;rw[hpo]at hop;simp only[zav6]at hop;split at hop
        · rename_i f' args ats ho
          simp only[cF,cY]at hop;obtain⟨⟨rfl,hxs⟩,hfn⟩:=hop;have hV:=zae9 hs hG p.xs args.toList hxs hgd;simp only[dM];exact call _ args ats f (args.toList.map a.eval) [] (zA3 C s.fr p.xs) r ho rfl hfn (by simp) (by simpa using hV.1) (λ i v x hv hx=>by
            simp only[cP,cI]at hv;obtain⟨q,hq,rfl⟩:=hv;exact hV.2 i q x hq hx) hfz hpf rfl h2 hK
        .cases hop
    · rename_i hpo
      split at h
      · rename_i f caps vals hvals
        obtain⟨r,h1,h2,hK⟩:=h;cases g with
        |false=>exact sk _ _ rfl h2 hK
        |true=>
          obtain⟨hgd,hfn,hfz,hpf⟩:=h1 rfl;have hop:=hp.op;rw[hpo]at hop;simp only[zav6]at hop;split at hop
          · rename_i t args ats ho
            have hV:=zae9 hs hG p.xs (.tmp t::args.toList) hop hgd;rw[hvals]at hV;obtain⟨vs,hv1,hv2,hv3⟩:=cloK (show RepK w W μ (a.eval (.tmp t)) (.clo f caps)from hV.2 0 (.tmp t) _ rfl rfl) (zaR0 hfn);simp only[dM];have hl0:args.toList.length=vals.length:=by simpa using hV.1
            exact call _ args ats f (args.toList.map a.eval++vs) vs (vals++caps) r ho hv1 hfn rfl (by simp only[cX,eA];omega) (λ i v x hv hx=>by
              rw[eO]at hv hx;simp only[eA]at hv;split at hv
              · rename_i hi
                rw[cQ (by omega)]at hx;simp only[cP,cI]at hv;obtain⟨q,hq,rfl⟩:=hv;exact hV.2 (i+1) q x (by simpa using hq) (by simpa using hx)
              · rename_i hi
                rw[cL (by omega),<-hl0]at hx;exact zp6 (zo5 (hv3 _ v x hv hx).toK)) hfz hpf rfl h2 hK
          .cases hop
      .exact h.elim
    · rename_i hpo
      split at h
      · rename_i f cs vals hvals
        obtain⟨r,h1,h2,hK⟩:=h;cases g with
        |false=>exact sk _ _ rfl h2 hK
        |true=>
          obtain⟨hgd,hfn,hfz,hpf⟩:=h1 rfl;have hop:=hp.op;rw[hpo]at hop;simp only[zav6]at hop;split at hop
          · rename_i t args ats ho
            have hV:=zae9 hs hG p.xs (.tmp t::args.toList) hop hgd;rw[hvals]at hV;obtain⟨us,hv1,hv2,hv3⟩:=RepC.bnd_val (show RepC w W (a.eval (.tmp t)) (.bnd f cs)from hV.2 0 (.tmp t) _ rfl rfl);simp only[dM];have hl0:args.toList.length=vals.length:=by simpa using hV.1
            refine callb _ args ats f _ (.agg us.toArray::args.toList.map a.eval) (.agg cs::vals) r ho hv1 hfn rfl (by simp only[List.length_cons,eA];omega) (λ i v x hv hx=>?_) hfz hpf rfl h2 hK;cases i with
            |zero=>simp only[List.getElem?_cons_zero,eJ]at hv hx;subst hv;subst hx;exact show RepV w W μ (.agg us.toArray) (.agg cs)from⟨us,rfl,hv2,λ i u c h1 h2=>zp5 (hv3 i u c h1 h2)⟩
            |succ i=>simp only[List.getElem?_cons_succ,cP,cI]at hv hx;obtain⟨q,hq,rfl⟩:=hv;exact hV.2 (i+1) q x (by simpa using hq) (by simpa using hx)
          .cases hop
      .exact h.elim
    · rename_i f hpo
      cases g with
      |false=>exact skipM rfl h
      |true=>
        have hgd:gdsF C s.fr p.xs:=by obtain⟨_,_,_,_,_,_,_,ht0,_⟩:=h;exact(ht0 rfl).1
        have hop:=hp.op;rw[hpo]at hop;simp only[zav6]at hop;split at hop
        · rename_i f' args ats ho
          simp only[cF,cY]at hop;obtain⟨⟨rfl,hxs⟩,hfn⟩:=hop;have hV:=zae9 hs hG p.xs args.toList hxs hgd;simp only[dM];exact callm _ args ats f (args.toList.map a.eval) [] (zA3 C s.fr p.xs) _ ho rfl hfn (by simp) (by simpa using hV.1) (λ i v x hv hx=>by
            simp only[cP,cI]at hv;obtain⟨q,hq,rfl⟩:=hv;exact hV.2 i q x hq hx) rfl h
        .cases hop
    · rename_i hpo
      split at h
      · rename_i f caps vals hvals
        cases g with
        |false=>exact skipM rfl h
        |true=>
          have hgd:gdsF C s.fr p.xs/\zx1 C.P f=true:=by obtain⟨_,_,_,_,_,_,_,ht0,_⟩:=h;exact(ht0 rfl).1
          obtain⟨hgd,hfn⟩:=hgd;have hop:=hp.op;rw[hpo]at hop;simp only[zav6]at hop;split at hop
          · rename_i t args ats ho
            have hV:=zae9 hs hG p.xs (.tmp t::args.toList) hop hgd;rw[hvals]at hV;obtain⟨vs,hv1,hv2,hv3⟩:=cloK (show RepK w W μ (a.eval (.tmp t)) (.clo f caps)from hV.2 0 (.tmp t) _ rfl rfl) (zaR0 hfn);simp only[dM];have hl0:args.toList.length=vals.length:=by simpa using hV.1
            exact callm _ args ats f (args.toList.map a.eval++vs) vs (vals++caps) _ ho hv1 hfn rfl (by simp only[cX,eA];omega) (λ i v x hv hx=>by
              rw[eO]at hv hx;simp only[eA]at hv;split at hv
              · rename_i hi
                rw[cQ (by omega)]at hx;simp only[cP,cI]at hv;obtain⟨q,hq,rfl⟩:=hv;exact hV.2 (i+1) q x (by simpa using hq) (by simpa using hx)
              · rename_i hi
                rw[cL (by omega),<-hl0]at hx;exact zp6 (zo5 (hv3 _ v x hv hx).toK)) rfl h
          .cases hop
      .exact h.elim
    · rename_i t nm f pr hpo
      split at h
      · rename_i t' x i j vals hvals
        cases g with
        |false=>exact skipM rfl h
        |true=>
          have hgd:gdsF C s.fr p.xs/\t'=t/\zaQ7 s.mem pr x i j:=by obtain⟨_,_,_,_,_,_,_,ht0,_⟩:=h;exact(ht0 rfl).1
          obtain⟨hgd,rfl,hrc⟩:=hgd;have hop:=hp.op;rw[hpo]at hop;simp only[zav6]at hop;split at hop
          · rename_i y nm' args ats ho
            simp only[cF,cY]at hop;obtain⟨⟨⟨rfl,hxs⟩,hme⟩,hfn⟩:=hop;have hV:=zae9 hs hG p.xs (y::args.toList) hxs hgd;rw[hvals]at hV;obtain⟨pp,u,hpv,hrun,hu⟩:=zbW1 hs hme (hV.2 0 y _ rfl rfl) hrc;simp only[dM];obtain⟨l,as,ms,kk,r,ms',kk',ht0,_,hvv,hcnd,hK⟩:=h;obtain⟨_,hmf,hok,hfr⟩:=ht0 rfl;have hc:=zbb1 hs hG (vs:=u::args.toList.map a.eval) (by have:=hV.1;simp at this⊢;omega) (λ i v b hv hb=>by
              cases i with
              |zero=>simp at hv hb;subst hv;subst hb;exact hu
              |succ i=>
                simp only[List.getElem?_cons_succ,cP,cI]at hv hb;obtain⟨q,hq,rfl⟩:=hv;exact hV.2 (i+1) q b (by simpa using hq) (by simpa using hb)) hfr hmf hok hcnd
            unfold Oper.wp;rw[zcf3 ho hpv hrun hfn];refine hc.mono λ e w' ⟨v,W',μ',he,hrep,hst⟩=>?_;subst he;show k (a.put o.dst v) w';rw[hp.dst];exact fin _ _ v w' W' μ' rfl hvv hK hrep hst
          .cases hop
      .exact h.elim
    · rename_i hnp hnc hnv hnb hnm hnvm hninv
      split at h
      · rename_i ef hev
        obtain⟨h1,h2,hK⟩:=h;cases g with
        |false=>exact sk _ _ rfl h2 hK
        |true=>obtain⟨hgd,hobl⟩:=h1 rfl;simp only[dM];refine go ef.v ef.mw rfl (zbV5 hs hid p.po p.xs _ (λ ops hops=>zae9 hs hG p.xs ops hops hgd) (zaU4 _ p.xs).symm hp.op hev hobl hnp) (h2.imp (λ h=>h) And.right) hK
      · obtain⟨hg,_,hK⟩:=h
        subst hg;exact skip _ rfl hK
theorem zbe6(st:St)(x:Nat)(h:st.nx<=x):st.m x=.fresh:=cQ h
theorem zaM8{f:FuncId}{vals:List A}{og:Option (Nat×Bool)}{g:Bool}{ob:Prop}{F:Nat->Prop}{K:A->List (Nat×MS)->Prop}(h:zao1 C st.m st.nx f vals og g ob F K):
    zao1 C st.m st.nx f vals og g ob (λ n=>∀x,st.nx<=x->x<st.nx+n->st.m x=.fresh) (λ v mw=>mwOk st.nx mw/\K v mw):=by
  obtain⟨l,as,ms,k,r,ms',k',h1,h2,h3,h4,h5⟩:=h;refine⟨l,as,ms,k,r,ms',k',λ hg=>let⟨a1,a2,a3,_⟩:=h1 hg;⟨a1,a2,a3,λ x hx _=>zbe6 st x hx⟩,h2,h3,h4,?_,h5⟩;cases g with
  |true=>exact zbh9 (h1 rfl).2.2.1
  |false=>exact zbp7 (h2 rfl).2
theorem zcP6{p:POp}{K:St->Prop}(h:aop C p st K):aopS C p st.toS st.nx (λ v mw=>mwOk st.nx mw/\K (st.app p.dst v mw)):=by
  unfold aop at h;unfold aopS;simp only[St.toS];rw[zbO6]at h;simp only[zbe4,zaJ4]at h;cases hg:zB6 st.slot p.g with
  |none=>simp[hg]at h
  |some g=>
    simp only[hg]at h⊢;cases hp:p.po<;>simp only[hp]at h|-
    case pick=>
      split at h
      · split at h
        .exact⟨h.1,trivial,h.2⟩
        .exact h.elim
      .exact h.elim
    case call f=>obtain⟨r,h1,h2,h3⟩:=h;exact⟨r,h1,h2,zaq2 st _ _,h3⟩
    case callv=>
      split at h
      · obtain⟨r,h1,h2,h3⟩:=h
        exact⟨r,h1,h2,zaq2 st _ _,h3⟩
      .exact h.elim
    case callb=>
      split at h
      · obtain⟨r,h1,h2,h3⟩:=h
        exact⟨r,h1,h2,zaq2 st _ _,h3⟩
      .exact h.elim
    case callm f=>exact zaM8 h
    case callvm=>
      split at h
      .exact zaM8 h
      .exact h.elim
    case inv t nm f pr=>
      split at h
      .exact zaM8 h
      .exact h.elim
    all_goals
      split at h
      · rename_i ef hev
        obtain⟨h1,h2,h3⟩:=h;exact⟨h1,h2,zbJ8 hev,h3⟩
      .exact⟨h.1,h.2.1,trivial,h.2.2⟩
theorem zbp9{ops:Array Oper}{p:POp}(hs:SatW E st.toS a w W μ)(hG:E.G=C.G)(hp:POk C E.N ops o p){K:St->Prop}(h:aop C p st K){Q:Exit->Act->World->Prop}{k:Act->World->Prop}
    (hk:∀st' a' w',K st'->Sat E st'.toS a' w'->k a' w'):if Region.wanted o (yielded ops a.tmps)then o.wp C.P a w k Q else k (a.put o.dst undef) w:=
  zbi0 hs hG st.m_nx hp (zcP6 h) λ v mw a' w' ⟨hmw,hK⟩ hsat=>hk _ a' w' hK (by rw[zaU3 st _ _ _ hmw];exact hsat)
def ROk(C:Cx)(N:Nat)(ops:Array Oper):Nat->List POp->Prop
  |n,[]=>n=ops.size
  |n,p::ps=>(∃o,ops[n]? =some o/\POk C N ops o p)/\ROk C N ops (n+1) ps
theorem zbq0{st:St}:∀(mw:List (Nat×MS)),(∀q∈mw,∃r,q.2=.row r/\∃r',st.m q.1=.row r')->mwOk st.nx mw
  |[],_=>trivial
  |q::mw,h=>by obtain⟨r,h1,r',h2⟩:=h q (.head _);have hlt:=St.m_row h2;exact⟨gE hlt,(by rw[h1];exact(λ h=>nomatch h)),(by rw[cL (by omega)];exact zbq0 mw λ p hp=>h p (.tail _ hp))⟩
theorem zaD8{ops:Array Oper}(hG:E.G=C.G){Q:Exit->Act->World->Prop}:∀(ps:List POp) (n:Nat) (st:St) (a:Act) (w:World),ROk C E.N ops n ps->Sat E st.toS a w->∀(K:St->Prop),arun C ps st K->
    (∀st' a' w',K st'->Sat E st'.toS a' w'->Q .normal a' w')->wpOps C.P ops Q (List.range' n ps.length) a w
  |[],n,st,a,w,_,hs,K,h,hk=>hk st a w h hs
  |p::ps,n,st,a,w,hr,⟨W,μ,hs⟩,K,h,hk=>by
    obtain⟨⟨o,ho,hp⟩,hr2⟩:=hr;unfold arun at h;split at h
    · rename_i hq
      have hpo:p.po=.eqNil:=by cases hpo:p.po<;>rw[hpo]at hq<;>first|rfl|cases hq
      obtain⟨hg,hgd,h⟩:=h;have hop:=hp.op;rw[hpo]at hop;simp only[zav6]at hop;split at hop
      · rename_i b T x y T2 ho2
        simp only[cF,cY]at hop;obtain⟨⟨⟨rfl,hT⟩,hy⟩,hx⟩:=hop;obtain⟨d,hd,hd2⟩:=zA5 hT;obtain⟨e,rfl⟩:∃e,d=.slice e:=by cases d<;>simp[zaM7]at hd2;exact⟨_,rfl⟩
        have hy:=zba8 hy;subst hy;rw[zbe4]at hgd;rw[zaJ4]at h;have hV:=zae9 hs hG p.xs [x] hx hgd;obtain⟨av,hav,hrep⟩:=hV.one;have hav':zA3 C st.slot p.xs=[av]:=hav;rw[hav']at h;have go:∀(b:Bool),(binOp .eql T (a.eval x) (.slice none 0 0)).run C.P w=.ok (.bool b) w->arun C ps (st.app p.dst (.bool b) []) K->wpOps C.P ops Q (List.range' n (p::ps).length) a w:=λ b hrun hK=>by
          have hgo:o.guard=none:=by
            have:=hp.g;rw[hg]at this;cases hog:o.guard with
            |none=>rfl
            |some r=>simp[hog]at this
          simp only[List.length_cons,fP,wpOps,ho];rw[cQ (by simp[Region.wanted,hgo])];refine .inl ?_;have hrun':(binOp .eql T (a.eval x) (a.eval (.const (.slice none 0 0)))).run C.P w=.ok (.bool b) w:=hrun;have hguard:∀i j,eqGuard .eql T i j (a.eval x) (a.eval (.const (.slice none 0 0)))=pure ():=by intro i j;show eqGuard .eql T i j (a.eval x) (Value.slice none 0 0)=_;cases a.eval x<;>rfl
          have hy2:zq3 C.P o a w W μ st.m (.bool b) st.m:=⟨.value (.bool b),.bool b,w,W,μ,by simp[execOp,ho2,hguard,hrun'],.inl rfl,zp6 (zo5 (zp5 (.bool b))),hs.refl⟩;refine Oper.wp_of_yields hs hy2 λ v w' W' μ' hrv hst=>?_;rw[hp.dst];refine zaD8 hG ps (n+1) (st.app p.dst (.bool b) []) (a.put p.dst v) w' hr2 ⟨W',μ',?_⟩ K hK hk;rw[zaU3 st _ _ _ (by trivial)];exact hs.step hst hp.lt hrv
        have fin:∀es,RepC w W (a.eval x) (.sl es)->(∀b:Bool,(b=true->es=[])->arun C ps (st.app p.dst (.bool b) []) K)->wpOps C.P ops Q (List.range' n (p::ps).length) a w:=λ es hes hK=>by
          rcases hes.open_sl with⟨h0,ad,cap,hv⟩|⟨bb,off,cap,sz,us,hv,_⟩
          .refine go ad.isNone (by rw[hv];exact Lib.run_eql_slice_nil w T e ad 0 cap 0 0 hd) (hK _ λ _=>h0)
          .refine go false (by rw[hv];exact Lib.run_eql_slice_nil w T e _ _ cap 0 0 hd) (hK _ λ h=>nomatch h)
        unfold nilQ at h;split at h
        .rename_i es heq;cases heq;exact fin es hrep h
        .rename_i es heq;cases heq;exact fin es (RepC.of_full hrep).1 h
        .exact h.elim
      .cases hop
    split at h
    · rename_i hq
      obtain⟨hg,hgd,h⟩:=h;have hop:=hp.op;have hgo:o.guard=none:=by
        have:=hp.g;rw[hg]at this;cases hog:o.guard with
        |none=>rfl
        |some r=>simp[hog]at this
      rw[zbe4]at hgd;rw[zaJ4]at h;have fin:∀(v:A) (mw:List (Nat×MS)),arun C ps (st.app p.dst v mw) K->(∀q∈mw,∃r,q.2=.row r/\∃r',st.m q.1=.row r')->zq3 C.P o a w W μ st.m v (setM st.m mw)->wpOps C.P ops Q (List.range' n (p::ps).length) a w:=λ v mw hK hmw hy=>by simp only[List.length_cons,fP,wpOps,ho];rw[cQ (by simp[Region.wanted,hgo])];refine .inl ?_;refine Oper.wp_of_yields hs hy λ u w' W' μ' hrv hst=>?_;rw[hp.dst];refine zaD8 hG ps (n+1) (st.app p.dst v mw) (a.put p.dst u) w' hr2 ⟨W',μ',?_⟩ K hK hk;rw[zaU3 st _ _ _ (zbq0 mw hmw)];exact hs.step hst hp.lt hrv
      cases hpo:p.po<;>rw[hpo]at hq<;>first|(cases hq;done)|skip
      · rw[hpo]at hop h
        simp only[zav6]at hop;split at hop
        · rename_i x ho2
          have hV:=zae9 hs hG p.xs [x] hop hgd;obtain⟨av,hav,hrep⟩:=hV.one;have hav':zA3 C st.slot p.xs=[av]:=hav;rw[hav']at h;obtain⟨v,mw,hK,hmw,hy⟩:=zcp7 hs ho2 hrep (show nxtQ _ st.toS.mem (λ v mw=>arun C ps (st.app p.dst v mw) K) [av]from h);exact fin v mw hK hmw hy
        .cases hop
      · rw[hpo]at hop h
        simp only[zav6]at hop;split at hop
        · rename_i x ho2
          have hV:=zae9 hs hG p.xs [x] hop hgd;obtain⟨av,hav,hrep⟩:=hV.one;have hav':zA3 C st.slot p.xs=[av]:=hav;rw[hav']at h;obtain⟨v,mw,hK,hmw,hy⟩:=zcp8 hs ho2 hrep (show entQ _ st.toS.mem (λ v mw=>arun C ps (st.app p.dst v mw) K) [av]from h);exact fin v mw hK hmw hy
        .cases hop
    have:=zbp9 hs hG hp h (Q:=Q) (k:=wpOps C.P ops Q (List.range' (n+1) ps.length)) (λ st' a' w' hK hs'=>zaD8 hG ps (n+1) st' a' w' hr2 hs' K hK hk);simp only[List.length_cons,fP,wpOps,ho];split at this
    .rename_i hw;rw[cQ hw];exact .inl this
    .rename_i hw;rw[cL hw];exact this
theorem ROk.size{ops:Array Oper}:∀{ps:List POp} {n N:Nat},ROk C N ops n ps->n+ps.length=ops.size
  |[],n,_,h=>h
  |_::ps,n,_,h=>by have:=h.2.size;simp;omega
theorem zbt0{ops:Array Oper}{id:Nat}(hG:E.G=C.G){ps:List POp}(hr:ROk C E.N ops 0 ps){st:St}{a:Act}{w:World}(hs:Sat E st.toS a w){K:St->Prop}(h:arun C ps st K){Q:Exit->Act->World->Prop}
    (hk:∀st' a' w',K st'->Sat E st'.toS a' w'->Q .normal a' w'):(Code.region id ops false).wp C.P Q a w:=by
  refine wp_region ?_;have:=zaD8 hG ps 0 st a w hr hs K h (Q:=Q) hk;rw[List.range_eq_range'];have e:=hr.size;rw[dJ]at e;rw[<-e];exact this
end
end Ab
end Go.Proofs.YtamndckemppjdaaGreatDoor
