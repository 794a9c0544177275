import Derived.Test.YtdlfhmkmnjbihaaGreatDoorAb14
import Derived.Lib.SliceRun
import Derived.Scope
namespace Go.Proofs.YtdlfhmkmnjbihaaGreatDoor
namespace Ab
set_option linter.unusedSimpArgs false
set_option linter.unusedVariables false
theorem St.m_row{st:St}{x:Nat}{r:Row}(h:st.m x=.row r):x<st.nx:=by
  unfold St.m at h;split at h
  .cases h
  .omega
theorem St.m_nx(st:St):st.m st.nx=.fresh:=by simp[St.m]
theorem zbZ7(nx:Nat)(r:Row):mwOk nx [(nx,.row r)]:=⟨cU _,by simp,trivial⟩
theorem zbl0{nx y:Nat}{q:MS}{r:List (Nat×MS)}(h:y<nx)(hq:q≠.fresh)(hr:mwOk nx r):mwOk nx ((y,q)::r):=
  ⟨iL h,hq,by rw[bN (by simp only;omega)];exact hr⟩
theorem zaT8{nx:Nat}:∀{x y:List (Nat×MS)},(∀q∈x,q.1<nx/\q.2≠.fresh)->mwOk nx y->mwOk nx (x++y)
  |[],_,_,h=>h
  |q::x,y,hx,h=>zbl0 (hx q (.head _)).1 (hx q (.head _)).2 (zaT8 (λ p hp=>hx p (.tail _ hp)) h)
theorem zcZ6{st:St}{po:PO}{vals:List A}{ef:Ef}(he:ev st.nx st.m po vals=some ef):mwOk st.nx ef.mw:=by
  unfold ev at he
  (repeat' split at he)
  all_goals first
    |(cases he;done)
    |(cases he;first
        |trivial
        |exact zbZ7 _ _
        |exact zbl0 (St.m_row (by assumption)) (by simp) trivial)
    |(simp only[cC]at he;obtain⟨q,_,rfl⟩:=he;trivial)
    |(simp only[gE]at he;obtain⟨new,hnew,l,hl,he⟩:=he;cases he;trivial)
    | (simp only[gE]at he;obtain⟨new,hnew,he⟩:=he
       (repeat' split at he)<;>cases he<;>first
         |trivial
         |exact zbZ7 _ _
         |exact zbl0 (St.m_row (by assumption)) (by simp) trivial
         |exact zbl0 (St.m_row (by assumption)) (by simp) (zbZ7 _ _))
theorem zaT9{m:Nat->MS}:∀{xs:List Nat},∀q∈zP9 m xs,(∃r,m q.1=.row r)/\q.2≠.fresh
  |x::xs,q,h=>by
    unfold zP9 at h;split at h
    · rename_i r hr
      rcases bX.1 h with rfl|h
      .exact⟨⟨r,hr⟩,by simp⟩
      .exact zaT9 q h
    .exact zaT9 q h
theorem zdJ8(st:St)(xs:List Nat):mwOk st.nx (zP9 st.m xs):=by have:=zaT8 (nx:=st.nx) (x:=zP9 st.m xs) (y:=[]) (λ q hq=>let⟨⟨r,hr⟩,h2⟩:=zaT9 q hq;⟨St.m_row hr,h2⟩) trivial;rwa [eR]at this
theorem zaO3(st:St)(vals:List A)(r:A):mwOk st.nx (zA3 st.m vals r):=by
  unfold zA3;split
  .trivial
  .exact zdJ8 st _
theorem zbW1(st:St)(d:Option Nat)(v:A)(mw:List (Nat×MS))(h:mwOk st.nx mw):(st.app d v mw).toS=⟨setF st.slot d v,setM st.m mw⟩:=by simp only[St.toS,zcE2];congr 1;exact zcR7 mw st.fr st.mem st.nx h _
section
variable {C:Cx} {o:Oper} {a:Act} {E:Env} {st:St} {w:World} {W:Nat→Prop} {μ:Nat→Loc}
theorem zW5.ro{r:Row}{k:Blk}(h:zW5 w W μ r k):zW5 w W μ ⟨true,r.sz,r.z,r.es⟩ k:=by
  rcases h with h|h|h
  .exact .inl ⟨by simp,h.2⟩
  .exact .inr (.inl ⟨by simp,h.2⟩)
  .exact .inr (.inr ⟨by simp,h.2⟩)
theorem zbl1:∀ps:List PX,zs5 C st ps=zF2 C st.slot ps
  |[]=>rfl
  |p::ps=>by simp only[zs5,zF2,zbl1 ps]
theorem zbW2:∀ps:List PX,zaf4 C st ps=gdsF C st.slot ps
  |[]=>rfl
  |p::ps=>by simp only[zaf4,gdsF,zbW2 ps]
theorem zdf7(g:Option (Nat×Bool)):zI2 st g=zG1 st.slot g:=by cases g<;>rfl
theorem zaH7{s:S}(hs:SatW E s a w W μ)(hG:E.G=C.G):∀(ps:List PX) (ops:List Operand),zx7 ops ps=true->gdsF C s.fr ps->Vals w W μ a ops (zF2 C s.fr ps)
  |[],[],_,_=>⟨rfl,by simp⟩
  |p::ps,x::xs,h,hg=>by
    simp only[zx7,bM]at h;obtain⟨h1,h2⟩:=zaH7 hs hG ps xs h.2 hg.2;refine⟨by simp[zF2,h1],λ i y v hy hv=>?_⟩;cases i with
    |zero=>simp[zF2]at hy hv;subst hy;subst hv;have:=zbY2 hs h.1;rw[hG]at this;exact zcv6 this hg.1
    |succ i=>simp[zF2]at hy hv;exact h2 i y v hy hv
  |[],_::_,h,_=>by simp[zx7]at h
  |_::_,[],h,_=>by simp[zx7]at h
theorem zbE5(fr:Nat->A):∀ps:List PX,(zF2 C fr ps).length=ps.length
  |[]=>rfl
  |_::ps=>by simp[zF2,zbE5 fr ps]
def zaI7(W:Nat->Prop)(μ:Nat->Loc)(ids:List Nat):Nat->Prop:=λ b=>W b/\¬∃x k,x∈ids/\μ x=.at_ k/\k.b=b
theorem RepC.less{v:Value}{x:A}{ids:List Nat}(h:RepC w W v x):RepC w (zaI7 W μ ids) v x:=
  h.keep (Keeps.refl (λ _=>False) w) (λ _ _ _ h=>h) (λ _ _ h h2=>h h2.1)
theorem zbZ8{s:S}(hs:SatW E s a w W μ){v:Value}{x:A}{ids:List Nat}(h:RepK w W μ v x)(hok:zat3 s.mem x)(hid:∀y∈zP8 x,y∈ids):RepC w (zaI7 W μ ids) v (frz1 s.mem x):=by
  cases x with
  |own y lo n=>
    simp only[zat3]at hok;cases hr:s.mem y with
    |fresh=>simp[hr]at hok
    |dead=>simp[hr]at hok
    |row r=>
      simp only[hr]at hok;obtain⟨hln,hpure⟩:=hok;simp only[frz1,hr];have hlen:((r.es.drop lo).take n).length=n:=by simp;omega
      rcases hs.own (zp2 (zo1 h)) hr with⟨rfl,ad,rfl⟩|⟨k,cap,h5,h6,h7,h8,h9,hrow⟩
      .rw[show(r.es.drop lo).take 0=[]by simp];exact .sl0 _ _
      · obtain⟨_,hksz,hpos,us0,rest,e,hheap,htot,hf⟩:=hrow
        rw[h6];have hf2:=(hf.drop lo).take n
        conv=>arg 3;rw[show n=((r.es.drop lo).take n).length from hlen.symm]
        refine RepC.mk_sl (sz:=r.sz) (us:=(us0.drop (lo*r.sz)).take (n*r.sz)) (λ hW=>hW.2 ⟨y,k,hid y (by simp[zP8]),h5,rfl⟩) (cE.1 hheap).1 (by omega) ?_ ?_
        · refine⟨hf2.hl,hf2.hs,λ i c j b hc hb=>?_⟩
          obtain⟨u,hu,hrk⟩:=hf2.ha i c j b hc hb;exact⟨u,hu,(hrk.toC (hpure c (cF hc) b (cF hb))).less⟩
        · intro q u hq
          rw[dJ]at hq;split at hq
          · rw[dR]at hq
            simp only[World.cell?,hheap,hksz,Option.isSome_none,bP,bV,eY];rw[dF (bY.1 hq).1,hq]
          .cases hq
  |_=>exact(h.toC hok).less
theorem zap8:∀{cs:List A},zn6 cs=true->∀c∈cs,c.pure1=true
  |c::cs,h,d,hd=>by
    simp only[zn6,bM]at h;rcases bX.1 hd with rfl|hd
    .exact h.1
    .exact zap8 h.2 d hd
theorem zcw4{s:S}(hs:SatW E s a w W μ){v:Value}{x:A}{ids:List Nat}(h:Rep w W μ v x)(hok:zaz5 s.mem x)(hid:∀y∈zaz6 x,y∈ids):RepV w (zaI7 W μ ids) zay3 v (frz s.mem x):=by
  cases x with
  |agg cs=>
    obtain⟨vs,rfl,hl,hr⟩:RepV w W μ v (.agg cs):=h
    by_cases hp:zn6 cs=true
    · simp only[frz,hp,bT]
      exact⟨vs,rfl,hl,λ i u b hu hb=>zp1 ((hr i u b hu hb).toC (zap8 hp b (cF hb))).less⟩
    · simp only[frz,zaz5,zaz6,hp]at hok hid|-
      refine⟨vs,rfl,by simp[hl],λ i u b hu hb=>?_⟩;simp only[cH,cC]at hb;obtain⟨c,hc,rfl⟩:=hb;have hcm:=cF hc;exact zp1 (zbZ8 hs (hr i u c hu hc) (hok c hcm) (λ y hy=>hid y (fI.2 ⟨c,hcm,hy⟩)))
  |clo f cs=>have:cs=[]:=hok;subst this;exact(show RepV w W μ v (.clo f [])from h).imp (λ⟨vs,hv,hl,hr⟩=>⟨vs,hv,hl,by simp⟩) id
  |any=>simp[zaz5,zat3,A.pure1]at hok
  |tup cs=>simp[zaz5,zat3,A.pure1]at hok
  |cnd g b=>simp[zaz5,zat3,A.pure1]at hok
  |ptr y i j=>simp[zaz5,zat3,A.pure1]at hok
  |mp y=>simp[zaz5,zat3,A.pure1]at hok
  |it y=>simp[zaz5,zat3,A.pure1]at hok
  |rd cs off=>simp[zaz5,zat3,A.pure1]at hok
  |own y lo n=>exact zo1 (zp1 (zbZ8 hs (show RepK w W μ v (.own y lo n)from h) hok hid))
  |bnd f cs=>exact zo1 (zp1 (RepC.less (show RepC w W v (.bnd f cs)from h)))
  |bool b=>exact zo1 (zp1 (RepC.less (show RepC w W v (.bool b)from h)))
  |int k n=>exact zo1 (zp1 (RepC.less (show RepC w W v (.int k n)from h)))
  |str b=>exact zo1 (zp1 (RepC.less (show RepC w W v (.str b)from h)))
  |sl es=>exact zo1 (zp1 (RepC.less (show RepC w W v (.sl es)from h)))
  |full es=>exact zo1 (zp1 (RepC.less (show RepC w W v (.full es)from h)))
theorem zcr0(m:Nat->MS):∀{vals:List A} (i:Nat) (b:A),(zG8 m vals)[i]? =some b->∃x,vals[i]? =some x/\b=frz m x
  |[],i,b,h=>by simp[zG8]at h
  |x::xs,i,b,h=>by
    cases i with
    |zero=>simp[zG8]at h;exact⟨x,rfl,h.symm⟩
    |succ i=>simp[zG8]at h;exact zcr0 m i b h
theorem zbQ0{m:Nat->MS}:∀{vals:List A},zA1 m vals->∀x∈vals,zaz5 m x
  |x::xs,h,y,hy=>by
    rcases bX.1 hy with rfl|hy
    .exact h.1
    .exact zbQ0 h.2 y hy
theorem zbE6:∀{vals:List A} {x:A},x∈vals->∀y∈zaz6 x,y∈zC3 vals
  |z::zs,x,hx,y,hy=>by
    simp only[zC3,cP];rcases bX.1 hx with rfl|hx
    .exact .inl hy
    .exact .inr (zbE6 hx y hy)
theorem zbw4(m:Nat->MS):∀vals:List A,(zG8 m vals).length=vals.length
  |[]=>rfl
  |_::xs=>by simp[zG8,zbw4 m xs]
theorem zbW3(m:Nat->MS):∀(ids:List Nat) (m0:Nat->MS) (x:Nat),setM m0 (zP9 m ids) x=if x∈ids then(match m x with|.row r=>.row ⟨true,r.sz,r.z,r.es⟩|_=>m0 x)else m0 x
  |[],m0,x=>by simp[zP9,setM]
  |y::ys,m0,x=>by
    unfold zP9;split
    · rename_i r hr
      simp only[setM];rw[zbW3 m ys]
      by_cases h1:x∈ys
      · simp only[h1,bT,bX,or_true]
        by_cases hxy:x=y
        .subst hxy;simp[hr]
        .cases m x<;>simp[hxy]
      · simp only[h1,bV,bX,gF]
        by_cases hxy:x=y
        .subst hxy;simp[hr]
        .simp[hxy]
    · rename_i hr
      rw[zbW3 m ys]
      by_cases h1:x∈ys
      .simp[h1]
      · simp only[h1,bV,bX,gF]
        split
        · rename_i hxy
          subst hxy;split
          .rename_i r hr2;exact absurd hr2 (hr r)
          .rfl
        .rfl
theorem zdJ9{s:S}(hs:SatW E s a w W μ){w':World}(hk:Keeps (λ _=>False) w w')(ids:List Nat):Step s.mem (setM s.mem (zP9 s.mem ids)) w w' W (zaI7 W μ ids) μ μ where
  keeps:=hk.mono λ _ _ h=>h.elim
  hW:=λ _ _ h=>h.1
  wsup:=λ b hb=>by
    by_cases h:∃x k,x∈ids/\μ x=.at_ k/\k.b=b
    .obtain⟨x,k,_,h2,h3⟩:=h;exact .inr ⟨x,k,h2,h3⟩
    .exact .inl ⟨hb,h⟩
  wlt0:=hs.wlt
  wlt:=λ b h=>dQ (hs.wlt b h.1) hk.size
  old:=Old.refl μ
  mem:=λ x=>by
    rw[zbW3];have hm:=hs.mem x;have hgo:∀(r:Row) (k:Blk),zW5 w W μ r k->(r.ro=false->¬x∈ids)->μ x=.at_ k->zW5 w' (zaI7 W μ ids) μ r k:=λ r k hrow hx hk'=>by
      rcases hrow with⟨h1,h2,h3,us,rest,e,h4,h5,h6⟩|⟨h1,h2,h3,es,h4,h5,h6⟩|⟨h1,h2,h3,hz,y,b,c,seen,h5,h6,h4⟩
      rotate_left
      · refine .inr (.inl ⟨λ hr=>⟨h1 hr,λ⟨y,ky,hy,hy2,hy3⟩=>hx hr (hs.inj y x ky k hy2 hk' hy3▸hy)⟩,h2,h3,es,?_,h5,λ i e c p q=>(h6 i e c p q).keep hk (λ _ _ _ h=>h) (λ _ _ h h2=>h h2.1)⟩)
        rw[hk.block k.b (cE.1 h4).1 (λ h=>h)];exact h4
      · refine .inr (.inr ⟨λ hr=>⟨h1 hr,λ⟨y,ky,hy,hy2,hy3⟩=>hx hr (hs.inj y x ky k hy2 hk' hy3▸hy)⟩,h2,h3,hz,y,b,c,seen,h5,h6.goes hk (λ _ _ _ h=>h) (λ _ _ h h2=>h h2.1) (Old.refl μ),?_⟩)
        rw[hk.block k.b (cE.1 h4).1 (λ h=>h)];exact h4
      refine .inl ⟨λ hr=>⟨h1 hr,λ⟨y,ky,hy,hy2,hy3⟩=>hx hr (hs.inj y x ky k hy2 hk' hy3▸hy)⟩,h2,h3,us,rest,e,?_,h5,h6.mono λ u b hr=>hr.goes hk (λ _ _ _ h=>h) (λ _ _ h h2=>h h2.1) (Old.refl μ)⟩;rw[hk.block k.b (cE.1 h4).1 (λ h=>h)];exact h4
    split
    · rename_i hx
      cases hr:s.mem x with
      |fresh=>rw[hr]at hm;exact hm
      |dead=>rw[hr]at hm;exact hm
      |row r=>
        rw[hr]at hm;rcases hm with h1|⟨k,h1,h2⟩
        .exact .inl h1
        .exact .inr ⟨k,h1,hgo ⟨true,r.sz,r.z,r.es⟩ k h2.ro (by simp) h1⟩
    · rename_i hx
      cases hr:s.mem x with
      |fresh=>rw[hr]at hm;exact hm
      |dead=>rw[hr]at hm;exact hm
      |row r=>
        rw[hr]at hm;rcases hm with h1|⟨k,h1,h2⟩
        .exact .inl h1
        .exact .inr ⟨k,h1,hgo r k h2 (λ _=>hx) h1⟩
  inj:=hs.inj
  live:=λ x k h=>.inl ⟨x,k,h,rfl⟩
theorem zcr1:Old zay3 μ:=λ x h=>absurd rfl h
theorem zdt0{W':Nat->Prop}{v:Value}{r:A}(h:Rep w W zay3 v r)(hr:r.scal=true):Rep w W' μ v r:=by
  have c1:∀{u:Value} {b:A},b.scal1=true->RepK w W zay3 u b->RepK w W' μ u b:=λ{u b} hb hu=>by
    cases b<;>simp[A.scal1]at hb
    · have:RepC w W u _:=hu
      cases this;exact zp1 (.bool _)
    · have:RepC w W u _:=hu
      cases this;exact zp1 (.int _ _)
    · have:RepC w W u _:=hu
      cases this;exact zp1 (.str _)
  have ccs:∀{cs:List A},zz9 cs=true->∀c∈cs,c.scal1=true:=λ{cs}=>by
    induction cs with
    |nil=>simp
    |cons d ds ih=>
      intro h c hc;simp only[zz9,bM]at h;rcases bX.1 hc with rfl|hc
      .exact h.1
      .exact ih h.2 c hc
  have c2:∀{u:Value} {b:A},b.scal2=true->RepV w W zay3 u b->RepV w W' μ u b:=λ{u b} hb hu=>by
    cases b with
    |agg cs=>obtain⟨vs,hv,hl,hr⟩:=hu;exact⟨vs,hv,hl,λ i u c h1 h2=>c1 (ccs hb c (cF h2)) (hr i u c h1 h2)⟩
    |bool b=>exact zo1 (c1 hb hu)
    |int k n=>exact zo1 (c1 hb hu)
    |str b=>exact zo1 (c1 hb hu)
    |_=>simp[A.scal2,A.scal1]at hb
  have cvs:∀{cs:List A},zbZ5 cs=true->∀c∈cs,c.scal2=true:=λ{cs}=>by
    induction cs with
    |nil=>simp
    |cons d ds ih=>
      intro h c hc;simp only[zbZ5,bM]at h;rcases bX.1 hc with rfl|hc
      .exact h.1
      .exact ih h.2 c hc
  cases r with
  |tup as=>obtain⟨vs,hv,hl,hr'⟩:=h;exact⟨vs,hv,hl,λ i u c h1 h2=>c2 (cvs hr c (cF h2)) (hr' i u c h1 h2)⟩
  |any=>trivial
  |cnd g b=>simp[A.scal,A.scal2,A.scal1]at hr
  |agg cs=>exact zp2 (c2 hr h)
  |bool b=>exact zp2 (c2 hr h)
  |int k n=>exact zp2 (c2 hr h)
  |str b=>exact zp2 (c2 hr h)
  |_=>simp[A.scal,A.scal2,A.scal1]at hr
theorem zbZ9{f:FuncId}{s:S}(hs:SatW E s a w W μ)(hG:E.G=C.G){vs:List Value}{vals:List A}(hl:vs.length=vals.length)(hV:∀(i:Nat) (v:Value) (x:A),vs[i]? =some v->vals[i]? =some x->Rep w W μ v x)
    (hok:zA1 s.mem vals) {r:A} (hf:PFn C f (zG8 s.mem vals) r):
    Calls C.P f vs.toArray w λ e w'=>∃v W',e=.returned v/\Rep w' W' μ v r/\Step s.mem (setM s.mem (zA3 s.mem vals r)) w w' W W' μ μ:=by
  have hgl:zbd4 w (zaI7 W μ (zC3 vals)) C.G:=λ g cs hg=>by obtain⟨h1,h2,h3⟩:=hs.glob g cs (hG▸hg);exact⟨λ h=>h1 h.1,h2,λ j b hj=>let⟨u,hu,hr⟩:=h3 j b hj;⟨u,hu,hr.less⟩⟩
  have:=hf w (zaI7 W μ (zC3 vals)) vs hgl (λ b h=>hs.wlt b h.1) (by rw[zbw4];exact hl) (λ i v b hv hb=>by
    obtain⟨x,hx,rfl⟩:=zcr0 _ i b hb;have hxm:=cF hx;exact zcw4 hs (hV i v x hv hx) (zbQ0 hok x hxm) (zbE6 hxm))
  refine this.mono λ e w' ⟨v,he,hk,hr⟩=>?_;have hr2:Rep w' (zaI7 W μ (zC3 vals)) μ v r:=hr.goes (Keeps.refl (λ _=>False) w') (λ _ _ _ h=>h) (λ _ _ h=>h) zcr1;unfold zA3;split
  · rename_i hsc
    exact⟨v,W,he,zdt0 hr hsc,Step.quiet hk hs.mem hs.inj hs.wlt⟩
  .exact⟨v,_,he,hr2,zdJ9 hs hk _⟩
theorem zcE3{s:S}(hs:SatW E s a w W μ){ops:Array Oper}{o:Oper}{g:Option (Nat×Bool)}{b:Bool}
    (hg:match g,o.guard with|none,none=>True|some q,some p=>p.2=q.2/\(ops[p.1]?).bind (·.dst)=some q.1|_,_=>False) (h:zG1 s.fr g=some b):Region.wanted o (yielded ops a.tmps)=b:=by
  cases g with
  |none=>
    cases ho:o.guard with
    |none=>simp[zG1]at h;subst h;simp[Region.wanted,ho]
    |some p=>simp[ho]at hg
  |some q=>
    cases ho:o.guard with
    |none=>simp[ho]at hg
    |some p=>
      simp only[ho]at hg;obtain⟨h1,h2⟩:=hg;obtain⟨j,want⟩:=p;obtain⟨t,want'⟩:=q;simp only at h1 h2;subst h1;have hfr:=hs.fr t;simp only[Region.wanted,ho,yielded,h2,Option.bind_some];simp only[zG1]at h;have hgd:∀v,a.tmps.getD t undef=.bool v->a.tmps[t]? =some (.bool v):=λ v hv=>by
        rw[fR]at hv;cases hq:a.tmps[t]? with
        |none=>rw[hq]at hv;simp[undef]at hv
        |some u=>rw[hq]at hv;simp at hv;rw[hv]
      split at h
      · rename_i v hv
        simp only[cK]at h;subst h;have hfr':Rep w W μ (a.tmps.getD t undef) (.bool v):=by rw[hv]at hfr;exact hfr
        rw[hgd v hfr'.bool];cases v<;>cases want<;>rfl
      · rename_i g' v hv
        simp only[cK]at h;subst h;have hfr':Rep w W μ (a.tmps.getD t undef) (.cnd g' (.bool v)):=by rw[hv]at hfr;exact hfr
        cases g' with
        |true=>rw[hgd v (Rep.bool (zp2 (hfr'.1 rfl)))];cases v<;>cases want<;>rfl
        |false=>
          have hu:=hfr'.2 rfl;rw[fR]at hu;cases hq:a.tmps[t]? with
          |none=>rfl
          |some u=>rw[hq]at hu;simp at hu;subst hu;rfl
      .cases h
theorem Oper.wp_of_yields{m':Nat->MS}{av:A}{Q:Exit->Act->World->Prop}{k:Act->World->Prop}{s:S}(_hs:SatW E s a w W μ)(h:zp0 C.P o a w W μ s.mem av m')
    (hk:∀v w' W' μ',Rep w' W' μ' v av->Step s.mem m' w w' W W' μ μ'->k (a.put o.dst v) w'):o.wp C.P a w k Q:=by
  obtain⟨r,v,w',W',μ',hrun,hr,hrep,hst⟩:=h;unfold Oper.wp;rw[hrun];rcases hr with rfl|⟨rfl,rfl⟩
  .exact hk v w' W' μ' hrep hst
  .exact hk undef w' W' μ' hrep hst
structure POk (C:Cx) (N:Nat) (ops:Array Oper) (o:Oper) (p:POp):Prop where
  dst:o.dst=p.dst
  lt:∀d,p.dst=some d->d<N
  g:match p.g,o.guard with|none,none=>True|some q,some r=>r.2=q.2/\(ops[r.1]?).bind (·.dst)=some q.1|_,_=>False
  op:zaY6 C.P o.op p.po p.xs=true
theorem Rep.toVV{v:Value}{x:A}(h:Rep w W μ v x)(hx:x.isVV=true):RepV w W μ v x:=by cases x<;>first|exact h|(simp[A.isVV]at hx)
theorem zaf5{α:Type}:∀(l m:List (Nat×α)) (x:Nat),look (l++m) x=(look l x).or (look m x)
  |[],m,x=>by simp[look]
  |q::l,m,x=>by
    simp only[List.cons_append,look];split
    .rfl
    .exact zaf5 l m x
theorem zaY7{α:Type}:∀{l:List (Nat×α)} {x:Nat},(∀q∈l,q.1≠x)->look l x=none
  |[],_,_=>rfl
  |q::l,x,h=>by simp only[look];rw[bN (h q (.head _))];exact zaY7 λ p hp=>h p (.tail _ hp)
theorem zay4:∀(n k nx x:Nat),look (newL k nx n) x=if k<=x/\x<k+n then some (nx+(x-k))else none
  |0,k,nx,x=>by simp only[newL,look];rw[bN (by omega)]
  |n+1,k,nx,x=>by
    simp only[newL,look]
    by_cases h:k=x
    .subst h;rw[bO rfl,bO (by omega)];simp
    · rw[bN h,zay4 n (k+1) (nx+1) x]
      by_cases h2:k+1<=x/\x<k+1+n
      .rw[bO h2,bO (by omega)];congr 1;omega
      .rw[bN h2,bN (by omega)]
theorem zby6{α:Type}{ms:List (Nat×α)}:∀{k:Nat},zbP9 ms k=true->∀x,x<k->∃r,look ms x=some r
  |k+1,h,x,hx=>by
    simp only[zbP9,bM]at h
    by_cases hk:x=k
    .subst hk;exact iP.1 h.1
    .exact zby6 h.2 x (by omega)
theorem zaY8{α:Type}:∀{l:List (Nat×α)} {x:Nat} {v:α},look l x=some v->(x,v)∈l
  |q::r,x,v,h=>by
    simp only[look]at h;split at h
    .rename_i hq;cases h;subst hq;exact .head _
    .exact .tail _ (zaY8 h)
theorem zbd8{α:Type}:∀{l:List (Nat×α)} {f:Nat->Nat},zaP3 (l.map λ q=>f q.1)=true->∀x y r r',look l x=some r->look l y=some r'->f x=f y->x=y
  |q::rest,f,h,x,y,r,r',hx,hy,he=>by
    simp only[cX,zaP3,bM,cQ,jB,dA]at h;simp only[look]at hx hy;split at hx<;>split at hy
    .omega
    · rename_i h1 h2
      exact absurd (cD.2 ⟨(y,r'),zaY8 hy,by rw[h1];exact he.symm⟩) h.1
    · rename_i h1 h2
      exact absurd (cD.2 ⟨(x,r),zaY8 hx,by rw[h2];exact he⟩) h.1
    .exact zbd8 h.2 x y r r' hx hy he
theorem zaY9{m:Nat->MS}{l:List (Nat×Nat)}{k:Nat}{fz:List Nat}:∀{ms:List (Nat×Row)},zcq8 m l k fz ms->∀x r,(x,r)∈ms->
    (∃r',m (rho l x)=.row r'/\r'.ro=false/\r'.sz=r.sz/\r'.es=zak6 l r.es)/\r.ro=false/\x<k/\idEs k r.es/\rho l x∉fz/\0<r.sz
  |q::rest,h,x,r,hx=>by
    obtain⟨h1,h2,h3,h4,h5,h7,h6⟩:=h;rcases bX.1 hx with rfl|hx
    · refine⟨?_,h2,h3,h4,by simpa using h5,eZ h7⟩
      split at h1
      .rename_i r' hr';exact⟨r',hr',h1⟩
      .exact h1.elim
    .exact zaY9 h6 x r hx
theorem zcE4{nx:Nat}:∀{cs:List A},zcZ5 nx cs->∀c∈cs,zbw3 nx c
  |_::_,h,_,.head _=>h.1
  |_::_,h,c,.tail _ hc=>zcE4 h.2 c hc
theorem zcR8{cs:List A}(h:(A.agg cs).hands=true):zn6 cs=false:=by simpa [A.hands]using h
theorem zcE5{m:Nat->MS}{l:List (Nat×Nat)}{k:Nat}:∀{vals as:List A},zbE4 m l k vals as->∀(i:Nat) (a:A),as[i]? =some a->∃v,vals[i]? =some v/\argM m l k v a/\(a.hands=false->∀y∈zaz6 v,y∈fzM vals as)
  |v::vs,a::as,h,i,b,hb=>by
    cases i with
    |zero=>simp at hb;subst hb;refine⟨v,rfl,h.1,λ hh y hy=>?_⟩;simp only[fzM,hh,bP,bV];exact cW _ hy
    |succ i=>obtain⟨u,h1,h2,h3⟩:=zcE5 h.2 i b (by simpa using hb);exact⟨u,by simpa using h1,h2,λ hh y hy=>by simp only[fzM];exact cG _ (h3 hh y hy)⟩
  |[],[],_,i,b,hb=>by simp at hb
  |_::_,[],h,_,_,_=>h.elim
  |[],_::_,h,_,_,_=>h.elim
theorem zcr2{m:Nat->MS}{l:List (Nat×Nat)}{k:Nat}:∀{vals as:List A},zbE4 m l k vals as->vals.length=as.length
  |v::vs,a::as,h=>by simp[zcr2 h.2]
  |[],[],_=>rfl
  |_::_,[],h=>h.elim
  |[],_::_,h=>h.elim
theorem zbQ1(m:Nat->MS):∀(x y:List (Nat×MS)),setM m (x++y)=setM (setM m x) y
  |[],_=>rfl
  |q::x,y=>by simp only[List.cons_append,setM];exact zbQ1 _ x y
theorem zaW9{L:List (Nat×Nat)}{ms':List (Nat×Row)}{y:Nat}:∀{ids:List Nat} {m:Nat->MS},(∀x∈ids,rho L x≠y)->setM m (zak7 L ms' ids) y=m y
  |[],m,_=>rfl
  |x::ids,m,h=>by simp only[zak7,setM];rw[zaW9 λ z hz=>h z (.tail _ hz)];exact bN λ e=>h x (.head _) e.symm
theorem zca0{L:List (Nat×Nat)}{ms':List (Nat×Row)}{x:Nat}:∀{ids:List Nat} {m:Nat->MS},x∈ids->(∀z∈ids,rho L z=rho L x->z=x)->
    setM m (zak7 L ms' ids) (rho L x)=entM L (look ms' x)
  |y::ids,m,hx,hi=>by
    simp only[zak7,setM]
    by_cases h:x∈ids
    .exact zca0 h λ z hz=>hi z (.tail _ hz)
    · rcases bX.1 hx with rfl|hx
      .rw[zaW9 λ z hz e=>h (hi z (.tail _ hz) e▸hz),bO rfl]
      .exact absurd hx h
theorem zbJ8:∀{es:List (List A)},pureEs es=true->∀c∈es,zn6 c=true
  |d::ds,h,c,hc=>by
    simp only[pureEs,bM]at h;rcases bX.1 hc with rfl|hc
    .exact h.1
    .exact zbJ8 h.2 c hc
theorem RepC.pure{v:Value}{a:A}(h:RepC w W v a):a.pure1=true:=by cases h<;>rfl
theorem RepY.pure{v:Value}{a:A}(h:RepY w W v a):a.pure1=true:=by
  cases a with
  |agg cs=>rfl
  |_=>exact RepC.pure h
theorem zcr3:∀{cs:List A},(∀(i:Nat) (a:A),cs[i]? =some a->a.pure1=true)->zn6 cs=true
  |[],_=>rfl
  |a::cs,h=>by simp only[zn6,bM];exact⟨h 0 a rfl,zcr3 λ i b hb=>h (i+1) b (by simpa using hb)⟩
theorem zcr4:∀{es:List (List A)},(∀(i:Nat) (c:List A),es[i]? =some c->zn6 c=true)->pureEs es=true
  |[],_=>rfl
  |a::cs,h=>by simp only[pureEs,bM];exact⟨h 0 a rfl,zcr4 λ i b hb=>h (i+1) b (by simpa using hb)⟩
theorem zbD9.pure{r:Row}{k:Blk}(h:zbD9 w W r k):pureEs r.es=true:=by
  obtain⟨_,_,_,es,h4,h5,h6⟩:=h;refine zcr4 λ i c hc=>?_;have hi:i<es.size:=by rw[h5];exact(bY.1 hc).1
  obtain⟨_,kk,cs,ag,rfl,_,_,e7,e8⟩:=h6 i es[i] c (eO hi) hc;simp only[zn6,bM];refine⟨e7.pure,zcr3 λ j a ha=>?_⟩;unfold RepX at e8;split at e8
  · obtain⟨vs,_,g2,g3⟩:=e8
    have hj:j<vs.length:=by rw[g2];exact(bY.1 ha).1
    exact(g3 j vs[j] a (bW hj) ha).pure
  · obtain⟨b,rfl,g2⟩:=e8
    cases j with
    |zero=>simp at ha;subst ha;exact g2.pure
    |succ n=>simp at ha
theorem zcZ7{R R':Value->A->Prop}{l:List (Nat×Nat)}{k sz:Nat}{us:List Value}{es:List (List A)}(h:Flat R sz us (zak6 l es))(hid:idEs k es)
    (h1:∀u a,zbw3 k a->R u (ren1 l a)->R' u a) (h2:∀u a,a.pure1=true->R u a->R' u a):Flat R' sz us es:=by
  unfold zak6 at h;unfold idEs at hid;split at h
  · rename_i hp
    exact⟨h.hl,h.hs,λ i c j b hc hb=>let⟨u,hu,hr⟩:=h.ha i c j b hc hb;⟨u,hu,h2 u b (zap8 (zbJ8 hp c (cF hc)) b (cF hb)) hr⟩⟩
  · rename_i hp
    rw[bN hp]at hid;refine⟨by simpa using h.hl,λ i c hc=>by simpa using h.hs i (c.map (ren1 l)) (by simp[hc]),λ i c j b hc hb=>?_⟩;obtain⟨u,hu,hr⟩:=h.ha i (c.map (ren1 l)) j (ren1 l b) (by simp[hc]) (by simp[hb]);exact⟨u,hu,h1 u b (hid c (cF hc) b (cF hb)) hr⟩
theorem zdt1{R R':Value->A->Prop}{l:List (Nat×Nat)}{sz:Nat}{us:List Value}{es:List (List A)}(h:Flat R sz us es)
    (h1:∀u a,R u a->R' u (ren1 l a)) (h2:∀u a,a.pure1=true->R u a->R' u a):Flat R' sz us (zak6 l es):=by
  unfold zak6;split
  · rename_i hp
    exact⟨h.hl,h.hs,λ i c j b hc hb=>let⟨u,hu,hr⟩:=h.ha i c j b hc hb;⟨u,hu,h2 u b (zap8 (zbJ8 hp c (cF hc)) b (cF hb)) hr⟩⟩
  · refine⟨by simpa using h.hl,λ i c hc=>?_,λ i c j b hc hb=>?_⟩
    · simp only[cH,cC]at hc
      obtain⟨d,hd,rfl⟩:=hc
      simpa using h.hs i d hd
    · simp only[cH,cC]at hc
      obtain⟨d,hd,rfl⟩:=hc;simp only[cH,cC]at hb;obtain⟨c,hc,rfl⟩:=hb;obtain⟨u,hu,hr⟩:=h.ha i d j c hd hc;exact⟨u,hu,h1 u c hr⟩
section
variable {w':World} {W':Nat→Prop} {μ':Nat→Loc}
theorem zE4{l:List (Nat×Nat)}{k:Nat}(hC:∀u a,RepC w W u a->RepC w W' u a)(hW:∀b,b<w.heap.size->¬W b->¬W' b)(hμ:∀x,x<k->μ' x=μ (rho l x)){u:Value}{b:A}(hid:zcE1 k b)(h:RepP w W μ u (ren0 l b)):RepP w W' μ' u b:=by
  cases b with
  |own x lo n=>refine⟨h.1,?_⟩;rw[hμ x hid];exact h.2
  |ptr x i j=>refine⟨h.1,?_⟩;rw[hμ x hid];exact h.2
  |mp x=>refine⟨h.1,?_⟩;rw[hμ x hid];exact h.2
  |it x=>refine⟨h.1,?_⟩;rw[hμ x hid];exact h.2
  |rd cs off=>obtain⟨b,o,hv,hb,hlt,hc⟩:=h;exact⟨b,o,hv,hW b hlt hb,hlt,λ j a hj=>let⟨u,hu,hr⟩:=hc j a hj;⟨u,hu,hC u a hr⟩⟩
  |bool b=>exact hC _ _ h
  |int k n=>exact hC _ _ h
  |str s=>exact hC _ _ h
  |sl es=>exact hC _ _ h
  |full es=>exact hC _ _ h
  |clo f cs=>exact hC _ _ h
  |bnd f cs=>exact hC _ _ h
  |agg cs=>exact(by cases(show RepC w W u (.agg cs)from h))
  |tup cs=>exact(by cases(show RepC w W u (.tup cs)from h))
  |cnd g a=>exact(by cases(show RepC w W u (.cnd g a)from h))
  |any=>exact(by cases(show RepC w W u .any from h))
theorem zby7{l:List (Nat×Nat)}{k:Nat}(hC:∀u a,RepC w W u a->RepC w W' u a)(hW:∀b,b<w.heap.size->¬W b->¬W' b)(hμ:∀x,x<k->μ' x=μ (rho l x)){u:Value}{b:A}(hid:zbw3 k b)(h:RepK w W μ u (ren1 l b)):RepK w W' μ' u b:=by
  cases b with
  |clo f cs=>refine h.imp (λ⟨vs,hv,hl,hr⟩=>?_) (λ⟨h1,h2,h3⟩=>⟨h1,h2,by simpa using h3⟩);exact⟨vs,hv,by simpa using hl,λ i u c hu hc=>zE4 hC hW hμ (hid c (cF hc)) (hr i u (ren0 l c) hu (by simp[hc]))⟩
  |own x lo n=>exact(zE4 (b:=.own x lo n) hC hW hμ hid (h.toP rfl)).toK
  |ptr x i j=>exact(zE4 (b:=.ptr x i j) hC hW hμ hid (h.toP rfl)).toK
  |mp x=>exact(zE4 (b:=.mp x) hC hW hμ hid (h.toP rfl)).toK
  |it x=>exact(zE4 (b:=.it x) hC hW hμ hid (h.toP rfl)).toK
  |rd cs off=>exact(zE4 (b:=.rd cs off) hC hW hμ hid (h.toP rfl)).toK
  |bool b=>exact(zE4 (b:=.bool b) hC hW hμ hid (h.toP rfl)).toK
  |int k n=>exact(zE4 (b:=.int k n) hC hW hμ hid (h.toP rfl)).toK
  |str s=>exact(zE4 (b:=.str s) hC hW hμ hid (h.toP rfl)).toK
  |sl es=>exact(zE4 (b:=.sl es) hC hW hμ hid (h.toP rfl)).toK
  |full es=>exact(zE4 (b:=.full es) hC hW hμ hid (h.toP rfl)).toK
  |bnd f cs=>exact(zE4 (b:=.bnd f cs) hC hW hμ hid (h.toP rfl)).toK
  |agg cs=>exact(zE4 (b:=.agg cs) hC hW hμ hid (h.toP rfl)).toK
  |tup cs=>exact(zE4 (b:=.tup cs) hC hW hμ hid (h.toP rfl)).toK
  |cnd g a=>exact(zE4 (b:=.cnd g a) hC hW hμ hid (h.toP rfl)).toK
  |any=>exact(zE4 (b:=.any) hC hW hμ hid (h.toP rfl)).toK
theorem zaO4{L:List (Nat×Nat)}(hμ:∀x,μ x=.fresh\/μ' (rho L x)=μ x){u:Value}{b:A}(h:RepP w W μ u b):RepP w W μ' u (ren0 L b):=by
  cases b with
  |own x lo n=>
    refine⟨h.1,?_⟩;have h2:=h.2;rcases hμ x with e|e
    .rw[e]at h2;exact h2.elim
    .rw[e];exact h2
  |ptr x i j=>
    refine⟨h.1,?_⟩;have h2:=h.2;rcases hμ x with e|e
    .rw[e]at h2;exact h2.elim
    .rw[e];exact h2
  |mp x=>
    refine⟨h.1,?_⟩;have h2:=h.2;rcases hμ x with e|e
    .rw[e]at h2;exact h2.elim
    .rw[e];exact h2
  |it x=>
    refine⟨h.1,?_⟩;have h2:=h.2;rcases hμ x with e|e
    .rw[e]at h2;exact h2.elim
    .rw[e];exact h2
  |_=>exact h
@[go_sem] theorem zdT7(L:List (Nat×Nat))(s:List Nat):(s.map iE).map (List.map (ren1 L))=s.map iE:=by simp[iE,ren1,ren0]
theorem zdt2{L:List (Nat×Nat)}{y c:Nat}{seen:List Nat}:zak6 L ([.mp y,.int .i64 c]::seen.map iE)=[.mp (rho L y),.int .i64 c]::seen.map iE:=by unfold zak6;rw[bN (by simp[pureEs,zn6,A.pure1]),cX,zdT7];rfl
theorem ItOk.ren{L:List (Nat×Nat)}(hμ:∀x,μ x=.fresh\/μ' (rho L x)=μ x){r:Row}{k:Blk}(h:ItOk w W μ r k):ItOk w W μ' ⟨r.ro,r.sz,r.z,zak6 L r.es⟩ k:=by obtain⟨h1,h2,h3,h4,y,b,c,seen,h5,h6,h7⟩:=h;exact⟨h1,h2,h3,h4,rho L y,b,c,seen,by simp only[h5];exact zdt2,zaO4 (b:=.mp y) hμ h6,h7⟩
theorem zaE1{L:List (Nat×Nat)}(hμ:∀x,μ x=.fresh\/μ' (rho L x)=μ x){u:Value}{b:A}(h:RepK w W μ u b):RepK w W μ' u (ren1 L b):=by
  cases b with
  |clo f cs=>refine h.imp (λ⟨vs,hv,hl,hr⟩=>?_) (λ⟨h1,h2,h3⟩=>⟨h1,h2,by simpa using h3⟩);refine⟨vs,hv,by simpa using hl,λ i u c hu hc=>?_⟩;simp only[cH,cC]at hc;obtain⟨d,hd,rfl⟩:=hc;exact zaO4 hμ (hr i u d hu hd)
  |own x lo n=>exact(zaO4 (b:=.own x lo n) hμ (h.toP rfl)).toK
  |ptr x i j=>exact(zaO4 (b:=.ptr x i j) hμ (h.toP rfl)).toK
  |mp x=>exact(zaO4 (b:=.mp x) hμ (h.toP rfl)).toK
  |it x=>exact(zaO4 (b:=.it x) hμ (h.toP rfl)).toK
  |_=>exact h
theorem zaE2{L:List (Nat×Nat)}(hμ:∀x,μ x=.fresh\/μ' (rho L x)=μ x){u:Value}{b:A}(h:RepV w W μ u b):RepV w W μ' u (ren L b):=by
  cases b with
  |agg cs=>
    obtain⟨vs,hv,hl,hr⟩:=h;simp only[ren];split
    · rename_i hp
      exact⟨vs,hv,hl,λ i u c hu hc=>zp1 ((hr i u c hu hc).toC (zap8 hp c (cF hc)))⟩
    · refine⟨vs,hv,by simpa using hl,λ i u c hu hc=>?_⟩
      simp only[cH,cC]at hc;obtain⟨d,hd,rfl⟩:=hc;exact zaE1 hμ (hr i u d hu hd)
  |clo f cs=>exact zaE1 (w:=w) (W:=W) (b:=.clo f cs) hμ h
  |own x lo n=>exact zaE1 (w:=w) (W:=W) (b:=.own x lo n) hμ h
  |ptr x i j=>exact zaE1 (w:=w) (W:=W) (b:=.ptr x i j) hμ h
  |mp x=>exact zaE1 (w:=w) (W:=W) (b:=.mp x) hμ h
  |it x=>exact zaE1 (w:=w) (W:=W) (b:=.it x) hμ h
  |_=>exact h
theorem zdt3{L:List (Nat×Nat)}(hμ:∀x,μ x=.fresh\/μ' (rho L x)=μ x){u:Value}{b:A}(h:Rep w W μ u b)(hb:∀g c,b≠.cnd g c):Rep w W μ' u (renR L b):=by
  cases b with
  |tup cs=>obtain⟨vs,hv,hl,hr⟩:=h;refine⟨vs,hv,by simpa using hl,λ i u c hu hc=>?_⟩;simp only[cH,cC]at hc;obtain⟨d,hd,rfl⟩:=hc;exact zaE2 hμ (hr i u d hu hd)
  |any=>trivial
  |cnd g c=>exact absurd rfl (hb g c)
  |agg cs=>exact zp2 (zaE2 (b:=.agg cs) hμ h)
  |clo f cs=>exact zp2 (zaE2 (b:=.clo f cs) hμ h)
  |own x lo n=>exact zp2 (zaE2 (b:=.own x lo n) hμ h)
  |ptr x i j=>exact zp2 (zaE2 (b:=.ptr x i j) hμ h)
  |mp x=>exact zp2 (zaE2 (b:=.mp x) hμ h)
  |it x=>exact zp2 (zaE2 (b:=.it x) hμ h)
  |bool b=>exact h
  |int k n=>exact h
  |str s=>exact h
  |sl es=>exact h
  |full es=>exact h
  |bnd f cs=>exact h
  |rd cs off=>exact h
end
theorem zcE6{f:FuncId}{s:S}(hs:SatW E s a w W μ)(hG:E.G=C.G){vs:List Value}{vals as:List A}{l:List (Nat×Nat)}{ms ms':List (Nat×Row)}{k k' nx:Nat}{r:A}(hl:vs.length=vals.length)
    (hV:∀(i:Nat) (v:Value) (x:A),vs[i]? =some v->vals[i]? =some x->Rep w W μ v x) (hfresh:∀x,nx<=x->x<nx+(k'-k)->s.mem x=.fresh)
    (hf:MFn C f as ms k r ms' k') (hok:okM s.mem nx l vals as ms k k') (hr0:∀g c,r≠.cnd g c):
    Calls C.P f vs.toArray w λ e w'=>∃v W' μ',e=.returned v/\Rep w' W' μ' v (renR (l++newL k nx (k'-k)) r)/\
      Step s.mem (setM s.mem (mwM s.mem (l++newL k nx (k'-k)) vals as ms ms' k k')) w w' W W' μ μ':=by
  obtain⟨hargs,hrows,hd1,hd2,hall,hkk,hlt,hlk⟩:=hok;have hkk:k<=k':=eZ hkk;have hat:=zby6 hall;have rhoOld:∀x,x<k->rho (l++newL k nx (k'-k)) x=rho l x:=λ x hx=>by simp only[rho,zaf5,zay4];rw[bN (by omega),kE]
  have rhoNew:∀i,i<k'-k->rho (l++newL k nx (k'-k)) (k+i)=nx+i:=λ i hi=>by simp only[rho,zaf5,zay4];rw[zaY7 λ q hq=>by have:=hlk q hq;omega,bO (by omega)];simp
  have rowAt:∀x,x<k->∃r r',look ms x=some r/\s.mem (rho l x)=.row r'/\r'.ro=false/\r'.sz=r.sz/\r'.es=zak6 l r.es/\r.ro=false/\idEs k r.es/\rho l x∉fzM vals as/\rho l x<nx/\0<r.sz:=λ x hx=>by obtain⟨r,hr⟩:=hat x hx;obtain⟨⟨r',h1,h2,h3,h4⟩,h5,h6,h7,h8,h9⟩:=zaY9 hrows x r (zaY8 hr);exact⟨r,r',hr,h1,h2,h3,h4,h5,h7,h8,hlt _ (zaY8 hr),h9⟩
  have inj0:∀x y,x<k->y<k->rho l x=rho l y->x=y:=λ x y hx hy he=>by obtain⟨r1,h1⟩:=hat x hx;obtain⟨r2,h2⟩:=hat y hy;exact zbd8 hd1 x y r1 r2 h1 h2 he
  have injL:∀x y,x<k'->y<k'->rho (l++newL k nx (k'-k)) x=rho (l++newL k nx (k'-k)) y->x=y:=λ x y hx hy he=>by
    by_cases h1:x<k<;>by_cases h2:y<k
    .rw[rhoOld x h1,rhoOld y h2]at he;exact inj0 x y h1 h2 he
    · rw[rhoOld x h1,show y=k+(y-k)by omega,rhoNew _ (by omega)]at he
      obtain⟨_,_,_,_,_,_,_,_,_,_,h3,_⟩:=rowAt x h1;omega
    · rw[rhoOld y h2,show x=k+(x-k)by omega,rhoNew _ (by omega)]at he
      obtain⟨_,_,_,_,_,_,_,_,_,_,h3,_⟩:=rowAt y h2;omega
    · rw[show x=k+(x-k)by omega,show y=k+(y-k)by omega,rhoNew _ (by omega),rhoNew _ (by omega)]at he
      omega
  let fz:=fzM vals as
  let Wc:=zaI7 W μ fz
  let μc:Nat->Loc:=λ x=>if x<k then μ (rho l x)else .fresh
  have hμc:∀x,x<k->μc x=μ (rho l x):=λ x hx=>bO hx;have hμc2:∀x,¬x<k->μc x=.fresh:=λ x hx=>bN hx;have hC:∀u b,RepC w W u b->RepC w Wc u b:=λ u b h=>h.less;have hWW:∀b,b<w.heap.size->¬W b->¬Wc b:=λ b _ h h2=>h h2.1;have hgl:zbd4 w Wc C.G:=λ g cs hg=>by obtain⟨h1,h2,h3⟩:=hs.glob g cs (hG▸hg);exact⟨λ h=>h1 h.1,h2,λ j b hj=>let⟨u,hu,hr⟩:=h3 j b hj;⟨u,hu,hr.less⟩⟩
  have hmem:zaz0 w Wc μc (⟨[],ms,k⟩:St).m:=λ x=>by
    by_cases hx:x<k
    · obtain⟨r,r',h1,h2,h3,h4,h5,h6,h7,h8,h9,hpz⟩:=rowAt x hx
      have e:(⟨[],ms,k⟩:St).m x=.row r:=by simp only[St.m,h1];rw[bN (by omega)]
      rw[e];have hm:=hs.mem (rho l x);rw[h2]at hm;rcases hm with⟨g1,g2,g3⟩|⟨kb,g1,gA⟩
      · refine .inl ⟨(hμc x hx).trans g1,?_,by omega⟩
        rw[h5]at g2;unfold zak6 at g2;split at g2
        .exact g2
        .exact gZ.1 g2
      · obtain⟨g2,g3,g4,us,rest,e',g5,g6,g7⟩:=gA.ok (by have:=gA.wr.2;omega)
        refine .inr ⟨kb,(hμc x hx).trans g1,.inl ⟨λ _=>⟨g2 h3,λ⟨y,ky,hy,hy2,hy3⟩=>h8 (hs.inj y (rho l x) ky kb hy2 g1 hy3▸hy)⟩,g3.trans h4,by omega,us,rest,e',g5,g6,?_⟩⟩;rw[h5,h4]at g7;exact zcZ7 g7 h7 (λ u b hid hr=>zby7 hC hWW (λ z hz=>hμc z hz) hid hr) (λ u b hp hr=>zp1 (hr.toC hp).less)
    · have e:(⟨[],ms,k⟩:St).m x=.fresh:=by simp only[St.m];rw[bO (by omega)]
      rw[e];exact hμc2 x hx
  have hinj:∀x y b b',μc x=.at_ b->μc y=.at_ b'->b.b=b'.b->x=y:=λ x y b b' hx hy he=>by
    by_cases h1:x<k
    · by_cases h2:y<k
      · rw[hμc x h1]at hx;rw[hμc y h2]at hy
        exact inj0 x y h1 h2 (hs.inj _ _ b b' hx hy he)
      .rw[hμc2 y h2]at hy;cases hy
    .rw[hμc2 x h1]at hx;cases hx
  have hargs':∀(i:Nat) (v:Value) (b:A),vs[i]? =some v->as[i]? =some b->RepV w Wc μc v b:=λ i v b hv hb=>by
    obtain⟨x,hx,hm,hz⟩:=zcE5 hargs i b hb;have hr:=hV i v x hv hx;unfold argM at hm;split at hm
    · rename_i hh
      obtain⟨rfl,hid⟩:=hm
      by_cases ha:∃cs,b=.agg cs
      · obtain⟨cs,rfl⟩:=ha
        have hp:=zcR8 hh;simp only[ren,hp,bP,bV]at hr;obtain⟨us,hu,hl2,hr2⟩:=hr;exact⟨us,hu,by simpa using hl2,λ i u c h1 h2=>zby7 (W':=Wc) (μ':=μc) hC hWW (λ z hz=>hμc z hz) (zcE4 hid c (cF h2)) (hr2 i u (ren1 l c) h1 (by simp[h2]))⟩
      · have hk:RepK w W μ v (ren1 l b):=by cases b<;>first|exact hr|exact absurd ⟨_,rfl⟩ ha|(simp[A.hands]at hh)
        have hk2:=zby7 (W':=Wc) (μ':=μc) hC hWW (λ z hz=>hμc z hz) (by cases b<;>first|exact hid|exact absurd ⟨_,rfl⟩ ha) hk;exact zo1 hk2
    · rename_i hh
      obtain⟨hfo,rfl⟩:=hm;exact(zcw4 hs hr hfo (λ y hy=>hz (by simpa using hh) y hy)).goes (Keeps.refl (λ _=>False) w) (λ _ _ _ h=>h) (λ _ _ h=>h) zcr1
  have hlen:vs.length=as.length:=hl.trans (zcr2 hargs);refine(hf w Wc μc vs hgl (λ b h=>hs.wlt b h.1) hlen hargs' hmem hinj).mono λ e w' ⟨v,Wc',μc',he,hst,hr⟩=>?_
  clear hgl hmem hargs' hV
  have hm'fresh:∀x,k'<=x->μc' x=.fresh:=λ x hx=>by have:=hst.mem x;rw[show(⟨[],ms',k'⟩:St).m x=.fresh by simp only[St.m];rw[bO hx]]at this;exact this
  generalize hL:l++newL k nx (k'-k)=L at*
  let μ':Nat->Loc:=λ y=>open Classical in if h:∃z,z<k'/\rho L z=y then μc' (Classical.choose h)else μ y
  have hμ1:∀z,z<k'->μ' (rho L z)=μc' z:=λ z hz=>by have h:∃z',z'<k'/\rho L z'=rho L z:=⟨z,hz,rfl⟩;show(if h:∃z',z'<k'/\rho L z'=rho L z then μc' (Classical.choose h)else μ (rho L z))=_;rw[jS h];rw[injL _ _ (eH h).1 hz (eH h).2]
  have hμ2:∀y,(¬∃z,z<k'/\rho L z=y)->μ' y=μ y:=λ y hy=>dif_neg hy;have hback:∀x,μc' x=.fresh\/μ' (rho L x)=μc' x:=λ x=>by
    by_cases hx:x<k'
    .exact .inr (hμ1 x hx)
    .exact .inl (hm'fresh x (by omega))
  have sub:∀b,(Wc b/\∃y kb,μc y=.at_ kb/\kb.b=b)->W b/\∃y kb,μ y=.at_ kb/\kb.b=b:=λ b ⟨h1,y,kb,h2,h3⟩=>by
    by_cases hy:y<k
    .rw[hμc y hy]at h2;exact⟨h1.1,_,kb,h2,h3⟩
    .rw[hμc2 y hy]at h2;cases h2
  have handed:∀y kb,μ y=.at_ kb->(∃z kz,μc z=.at_ kz/\kz.b=kb.b)->∃z,z<k'/\rho L z=y:=λ y kb hy ⟨z,kz,h1,h2⟩=>by
    by_cases hz:z<k
    · rw[hμc z hz]at h1
      refine⟨z,by omega,?_⟩;rw[rhoOld z hz];exact hs.inj _ _ kz kb h1 hy h2
    .rw[hμc2 z hz]at h1;cases h1
  have hold:Old μ μ':=λ y hy=>by
    by_cases h:∃z,z<k'/\rho L z=y
    · obtain⟨z,hz,rfl⟩:=h
      rw[hμ1 z hz]
      by_cases hzk:z<k
      · rw[rhoOld z hzk]at hy|-
        rcases hst.old z (by rw[hμc z hzk];exact hy)with e|e
        .exact .inl (e.trans (hμc z hzk))
        .exact .inr e
      · exfalso
        apply hy;have hf:=hfresh (nx+(z-k)) (by omega) (by omega);rw[show z=k+(z-k)by omega,rhoNew _ (by omega)];have:=hs.mem (nx+(z-k));rw[hf]at this;exact this
    .exact .inl (hμ2 y h)
  have hkeep:Keeps (λ b=>W b/\∃y kb,μ y=.at_ kb/\kb.b=b) w w':=hst.keeps.mono λ b _ h=>sub b h;have hWb:∀b,b<w.heap.size->Wc' b->W b:=λ b hb h=>(hst.hW b hb h).1;refine⟨v,Wc',μ',he,zdt3 hback hr hr0,⟨hkeep,hWb,λ b hb=>?_,hs.wlt,hst.wlt,hold,λ y=>?_,λ x y b b' hx hy hb=>?_,λ y b hy=>?_⟩⟩
  ·
    by_cases hz:∃x kb,x∈fz/\μ x=.at_ kb/\kb.b=b
    .obtain⟨x,kb,_,h2,h3⟩:=hz;exact .inr ⟨x,kb,h2,h3⟩
    · rcases hst.wsup b ⟨hb,hz⟩with h|⟨x,kb,h1,h2⟩
      .exact .inl h
      · by_cases hx:x<k
        .rw[hμc x hx]at h1;exact .inr ⟨_,kb,h1,h2⟩
        .rw[hμc2 x hx]at h1;cases h1
  ·
    rw[mwM,zbQ1]
    by_cases h:∃z,z<k'/\rho L z=y
    · obtain⟨z,hz,rfl⟩:=h
      have hzin:z∈ms.map (·.1)++(List.range (k'-k)).map (k+·):=by
        by_cases hzk:z<k
        · obtain⟨r,hr⟩:=hat z hzk
          exact cW _ (cD.2 ⟨(z,r),zaY8 hr,rfl⟩)
        .exact cG _ (cD.2 ⟨z-k,dH.2 (by omega),by omega⟩)
      rw[zca0 hzin λ x hx he=>by
        refine injL x z ?_ hz he;rcases cP.1 hx with hx|hx
        · obtain⟨q,hq,rfl⟩:=cD.1 hx
          have:=(zaY9 hrows q.1 q.2 hq).2.2.1;omega
        · obtain⟨i,hi,rfl⟩:=cD.1 hx
          have:=dH.1 hi;omega]
      have hm:=hst.mem z;have e:(⟨[],ms',k'⟩:St).m z=(match look ms' z with|some r=>.row r|none=>.dead:MS):=by simp only[St.m];rw[bN (by omega)];cases look ms' z<;>rfl
      rw[e]at hm;cases hlk':look ms' z with
      |none=>rw[hlk']at hm;exact(hμ1 z hz).trans hm
      |some r1=>
        rw[hlk']at hm;rcases hm with⟨g1,g2,g3⟩|⟨kb,g1,⟨g2,g3,g4,us,rest,e',g5,g6,g7⟩|gM|gI⟩
        · refine .inl ⟨(hμ1 z hz).trans g1,?_,g3⟩
          show zak6 L r1.es=[];rw[g2];rfl
        .exact .inr ⟨kb,(hμ1 z hz).trans g1,.inl ⟨g2,g3,g4,us,rest,e',g5,g6,zdt1 g7 (λ u b hb=>zaE1 hback hb) (λ u b hp hb=>zp1 (hb.toC hp))⟩⟩
        · refine .inr ⟨kb,(hμ1 z hz).trans g1,.inr (.inl ?_)⟩
          have e3:zak6 L r1.es=r1.es:=by unfold zak6;rw[bO gM.pure]
          rw[e3];exact gM
        .exact .inr ⟨kb,(hμ1 z hz).trans g1,.inr (.inr (gI.ren hback))⟩
    · rw[zaW9 λ x hx he=>h ⟨x,by
        rcases cP.1 hx with hx|hx
        · obtain⟨q,hq,rfl⟩:=cD.1 hx
          have:=(zaY9 hrows q.1 q.2 hq).2.2.1;omega
        · obtain⟨i,hi,rfl⟩:=cD.1 hx
          have:=dH.1 hi;omega,he⟩,zbW3]
      have hm:=hs.mem y;have hgo:∀(r:Row) (kb:Blk),zW5 w W μ r kb->μ y=.at_ kb->(r.ro=false->y∉fz)->zW5 w' Wc' μ' r kb:=λ r kb hrow hy hnz=>by
        have hlt:=hrow.lt;have hnh:¬∃z kz,μc z=.at_ kz/\kz.b=kb.b:=λ hh=>h (handed y kb hy hh);have hro':(r.ro=false->W kb.b)->r.ro=false->Wc' kb.b:=λ g1 hro=>by
          rcases hst.wsup kb.b ⟨g1 hro,λ⟨x,kx,hx,hx2,hx3⟩=>hnz hro (hs.inj x y kx kb hx2 hy hx3▸hx)⟩with h1|h1
          .exact h1
          .exact absurd h1 hnh
        rcases hrow with⟨g1,g2,g3,us,rest,e',g4,g5,g6⟩|⟨g1,g2,g3,es,g4,g5,g6⟩|⟨g1,g2,g3,hz,y',b',c,seen,g5,g6,g4⟩
        · refine .inl ⟨hro' g1,g2,g3,us,rest,e',?_,g5,g6.mono λ u b hb=>hb.goes hkeep (λ _ _ h h2=>h h2.1) (λ b hb h h2=>h (hWb b hb h2)) hold⟩
          rw[hst.keeps.block kb.b hlt (λ hh=>hnh hh.2)];exact g4
        · refine .inr (.inl ⟨hro' g1,g2,g3,es,?_,g5,λ i e c p q=>(g6 i e c p q).keep hkeep (λ _ _ h h2=>h h2.1) (λ b hb h h2=>h (hWb b hb h2))⟩)
          rw[hst.keeps.block kb.b hlt (λ hh=>hnh hh.2)];exact g4
        · refine .inr (.inr ⟨hro' g1,g2,g3,hz,y',b',c,seen,g5,g6.goes hkeep (λ _ _ h h2=>h h2.1) (λ b hb h h2=>h (hWb b hb h2)) hold,?_⟩)
          rw[hst.keeps.block kb.b hlt (λ hh=>hnh hh.2)];exact g4
      have hsame:zau0 w' Wc' μ' y (s.mem y)\/(y∈fz/\∃r,s.mem y=.row r/\zau0 w' Wc' μ' y (.row ⟨true,r.sz,r.z,r.es⟩)):=by
        cases hr1:s.mem y with
        |fresh=>rw[hr1]at hm;exact .inl ((hμ2 y h).trans hm)
        |dead=>rw[hr1]at hm;exact .inl ((hμ2 y h).trans hm)
        |row r1=>
          rw[hr1]at hm
          by_cases hz:y∈fz
          · refine .inr ⟨hz,r1,rfl,?_⟩
            rcases hm with⟨g1,g2,g3⟩|⟨kb,g1,g2⟩
            .exact .inl ⟨(hμ2 y h).trans g1,g2,g3⟩
            .exact .inr ⟨kb,(hμ2 y h).trans g1,hgo ⟨true,r1.sz,r1.z,r1.es⟩ kb g2.ro g1 (by simp)⟩
          · refine .inl ?_
            rcases hm with⟨g1,g2,g3⟩|⟨kb,g1,g2⟩
            .exact .inl ⟨(hμ2 y h).trans g1,g2,g3⟩
            .exact .inr ⟨kb,(hμ2 y h).trans g1,hgo r1 kb g2 g1 (λ _=>hz)⟩
      split
      · rename_i hz
        rcases hsame with h1|⟨_,r1,h1,h2⟩
        · cases hr1:s.mem y with
          |fresh=>rw[hr1]at h1;exact h1
          |dead=>rw[hr1]at h1;exact h1
          |row r1=>
            rw[hr1]at h1;rcases h1 with⟨g1,g2,g3⟩|⟨kb,g1,g2⟩
            .exact .inl ⟨g1,g2,g3⟩
            .exact .inr ⟨kb,g1,g2.ro⟩
        .rw[h1];exact h2
      · rename_i hz
        rcases hsame with h1|⟨h1,_⟩
        .exact h1
        .exact absurd h1 hz
  ·
    have big:∀x b,μ x=.at_ b->b.b<w.heap.size:=λ x b hx=>by obtain⟨_,_,h⟩:=hs.mem.at_ hx;exact h.lt
    have cross:∀z y b b',z<k'->μc' z=.at_ b->μ y=.at_ b'->b.b=b'.b->∃z,z<k'/\rho L z=y:=λ z y b b' _ h1 h2 h3=>by
      rcases hst.live z b h1 with⟨z0,k0,h4,h5⟩|h4
      .exact handed y b' h2 ⟨z0,k0,h4,h5.trans h3⟩
      .have:=big y b' h2;omega
    by_cases h1:∃z,z<k'/\rho L z=x<;>by_cases h2:∃z,z<k'/\rho L z=y
    · obtain⟨z,hz,rfl⟩:=h1
      obtain⟨z',hz',rfl⟩:=h2;rw[hμ1 z hz]at hx;rw[hμ1 z' hz']at hy;rw[hst.inj z z' b b' hx hy hb]
    · obtain⟨z,hz,rfl⟩:=h1
      rw[hμ1 z hz]at hx;rw[hμ2 y h2]at hy;exact absurd (cross z y b b' hz hx hy hb) h2
    · obtain⟨z,hz,rfl⟩:=h2
      rw[hμ1 z hz]at hy;rw[hμ2 x h1]at hx;exact absurd (cross z x b' b hz hy hx hb.symm) h1
    · rw[hμ2 x h1]at hx;rw[hμ2 y h2]at hy
      exact hs.inj x y b b' hx hy hb
  ·
    by_cases h:∃z,z<k'/\rho L z=y
    · obtain⟨z,hz,rfl⟩:=h
      rw[hμ1 z hz]at hy;rcases hst.live z b hy with⟨z0,k0,h4,h5⟩|h4
      · by_cases hz0:z0<k
        .rw[hμc z0 hz0]at h4;exact .inl ⟨_,k0,h4,h5⟩
        .rw[hμc2 z0 hz0]at h4;cases h4
      .exact .inr h4
    .rw[hμ2 y h]at hy;exact .inl ⟨y,b,hy,rfl⟩
theorem zcR9{st:St}{l:List (Nat×Nat)}{vals as:List A}{ms ms':List (Nat×Row)}{k k':Nat}(hok:okM st.m st.nx l vals as ms k k'):mwOk st.nx (mwM st.m (l++newL k st.nx (k'-k)) vals as ms ms' k k'):=by
  obtain⟨hargs,hrows,hd1,hd2,hall,hkk,hlt,hlk⟩:=hok;have hkk:k<=k':=eZ hkk;have ent:∀{L:List (Nat×Nat)} {ids:List Nat},∀q∈zak7 L ms' ids,(∃x∈ids,q.1=rho L x)/\q.2≠.fresh:=λ{L} {ids}=>by
    induction ids with
    |nil=>intro q hq;cases hq
    |cons x ids ih=>
      intro q hq;rcases bX.1 hq with rfl|hq
      .exact⟨⟨x,.head _,rfl⟩,by simp only;cases look ms' _<;>simp[entM]⟩
      .obtain⟨⟨y,hy,h1⟩,h2⟩:=ih q hq;exact⟨⟨y,.tail _ hy,h1⟩,h2⟩
  have app:∀(L:List (Nat×Nat)) (x y:List Nat),zak7 L ms' (x++y)=zak7 L ms' x++zak7 L ms' y:=λ L x y=>by
    induction x with
    |nil=>rfl
    |cons z x ih=>simp only[List.cons_append,zak7,ih]
  unfold mwM;refine zaT8 (λ q hq=>let⟨⟨r,hr⟩,h2⟩:=zaT9 q hq;⟨St.m_row hr,h2⟩) ?_;rw[app];refine zaT8 (λ q hq=>?_) ?_
  · obtain⟨⟨x,hx,h1⟩,h2⟩:=ent q hq
    obtain⟨p,hp,rfl⟩:=cD.1 hx;have h3:=(zaY9 hrows p.1 p.2 hp).2.2.1;refine⟨?_,h2⟩;rw[h1];have:rho (l++newL k st.nx (k'-k)) p.1=rho l p.1:=by simp only[rho,zaf5,zay4];rw[bN (by omega),kE]
    rw[this];exact hlt p hp
  · have key:∀(n j:Nat),j+n<=k'-k->mwOk (st.nx+j) (zak7 (l++newL k st.nx (k'-k)) ms' ((List.range' j n).map (k+·))):=λ n=>by
      induction n with
      |zero=>intro j _;trivial
      |succ n ih=>
        intro j hj;have hrho:rho (l++newL k st.nx (k'-k)) (k+j)=st.nx+j:=by simp only[rho,zaf5,zay4];rw[zaY7 λ q hq=>by have:=hlk q hq;omega,bO (by omega)];simp
        rw[gG,cX,zak7];refine⟨by rw[hrho];exact cU _,by simp only;cases look ms' _<;>simp[entM],?_⟩;simp only[hrho,bT];exact ih (j+1) (by omega)
    have:=key (k'-k) 0 (by omega);rwa [<-dZ]at this
theorem zcr5{st:St}:∀{mw:List (Nat×MS)},zbZ6 st.m mw->mwOk st.nx mw
  |[],_=>trivial
  |q::r,⟨h1,h3⟩=>zbl0 (by
      by_cases h:q.1<st.nx
      .exact h
      .exact absurd (by simp only[St.m];rw[bO (by omega)]) (MS.like_ne h1).1) (MS.like_ne h1).2 (zcr5 h3)
theorem zca1{P:Program}{f:FuncId}(h:zD6 P f=true):(f==zak5)=false:=by
  unfold zD6 at h;split at h
  .simp only[bM,cQ]at h;exact h.2
  .cases h
theorem zcr6{t:Operand}{args:Array Operand}{ats:Array TypeId}{f:FuncId}{vs caps:List Value}(ho:o.op=.call {callee:=.value t,args:=args,argTypes:=ats})(ht:a.eval t=.func (.func f) #[] caps.toArray)
    (hfn:zD6 C.P f=true) (hvs:vs=args.toList.map a.eval++caps):(execOp a.eval o).run C.P w=.ok (.enter f vs.toArray) w:=by
  unfold zD6 at hfn;have e1:vs.toArray=args.map a.eval++caps.toArray:=by rw[hvs];simp[<-Array.toList_map]
  split at hfn
  · rename_i fn hfn'
    simp only[bM,cQ]at hfn;have hb:fn.body.isNone=false:=by cases hb:fn.body<;>simp[hb]at hfn|-
    have hc2:(callFunc f (args.map a.eval++caps.toArray)).run C.P w=.ok (.enter f (args.map a.eval++caps.toArray)) w:=by simp only[callFunc,Sem.run_bind,run_program,Result.andThen_ok,hfn'];rw[bN (by simp[hfn.1.2]),bN (by simp[hb])];rfl
    rw[e1];simp[execOp,ho,resolve,ht,Deferred.ofValue,invoke,hc2]
  .cases hfn
theorem zcS0{t:Operand}{args:Array Operand}{ats:Array TypeId}{f:FuncId}{u:Value}{vs:List Value}(ho:o.op=.call {callee:=.value t,args:=args,argTypes:=ats})(ht:a.eval t=.func (.func f) #[u] #[])
    (hfn:zD6 C.P f=true) (hvs:vs=u::args.toList.map a.eval):(execOp a.eval o).run C.P w=.ok (.enter f vs.toArray) w:=by
  unfold zD6 at hfn;have e1:vs.toArray=#[u]++args.map a.eval:=by rw[hvs];simp[<-Array.toList_map]
  split at hfn
  · rename_i fn hfn'
    simp only[bM,cQ]at hfn;have hb:fn.body.isNone=false:=by cases hb:fn.body<;>simp[hb]at hfn|-
    have hc2:(callFunc f (#[u]++args.map a.eval)).run C.P w=.ok (.enter f (#[u]++args.map a.eval)) w:=by simp only[callFunc,Sem.run_bind,run_program,Result.andThen_ok,hfn'];rw[bN (by simp[hfn.1.2]),bN (by simp[hb])];rfl
    rw[e1];simp[execOp,ho,resolve,ht,Deferred.ofValue,invoke,hc2]
  .cases hfn
theorem zca2{ops:Array Oper}{p:POp}{s:S}{id:Nat}(hs:SatW E s a w W μ)(hG:E.G=C.G)(hid:s.mem id=.fresh)(hp:POk C E.N ops o p){K:A->List (Nat×MS)->Prop}(h:aopS C p s id K){Q:Exit->Act->World->Prop}{k:Act->World->Prop}
    (hk:∀v mw a' w',K v mw->Sat E ⟨setF s.fr p.dst v,setM s.mem mw⟩ a' w'->k a' w'):if Region.wanted o (yielded ops a.tmps)then o.wp C.P a w k Q else k (a.put o.dst undef) w:=by
  unfold aopS at h;cases hgo:zG1 s.fr p.g with
  |none=>simp[hgo]at h
  |some g=>
    simp only[hgo]at h;have hwant:=zcE3 hs hp.g hgo;rw[hwant,hp.dst];have skip:∀(v:A),g=false->K (zQ0 p.g g v) []->k (a.put p.dst undef) w:=λ v hg hK=>by
      refine hk _ _ _ _ hK ⟨W,μ,?_⟩;refine hs.step (m':=s.mem) hs.refl hp.lt ?_;cases hpg:p.g with
      |none=>rw[hpg]at hgo;simp[zG1]at hgo;rw[hg]at hgo;cases hgo
      |some q=>exact⟨λ h=>(by rw[hg]at h;cases h),λ _=>rfl⟩
    have fin:∀(v:A) (mw:List (Nat×MS)) (u:Value) (w':World) (W':Nat->Prop) (μ':Nat->Loc),g=true->(p.g=none\/v.isVV=true)->K (zQ0 p.g g v) mw->Rep w' W' μ' u v->Step s.mem (setM s.mem mw) w w' W W' μ μ'->k (a.put p.dst u) w':=λ v mw u w' W' μ' hg hgv hK hr hst=>by
      refine hk _ _ _ _ hK ⟨W',μ',?_⟩;refine hs.step hst hp.lt ?_;cases hpg:p.g with
      |none=>exact hr
      |some q=>
        refine⟨λ _=>?_,λ h=>(by rw[hg]at h;cases h)⟩;rcases hgv with h1|h1
        .rw[hpg]at h1;cases h1
        .exact hr.toVV h1
    have go:∀(v:A) (mw:List (Nat×MS)),g=true->zp0 C.P o a w W μ s.mem v (setM s.mem mw)->(p.g=none\/v.isVV=true)->K (zQ0 p.g g v) mw->o.wp C.P a w k Q:=λ v mw hg hy hgv hK=>by refine Oper.wp_of_yields hs hy λ u w' W' μ' hr hst=>?_;rw[hp.dst];exact fin v mw u w' W' μ' hg hgv hK hr hst
    have sk:∀(v:A) (mw:List (Nat×MS)),g=false->(p.g=none\/mw=[]/\v.isVV=true)->K (zQ0 p.g g v) mw->k (a.put p.dst undef) w:=λ v mw hg hgv hK=>by
      rcases hgv with h1|⟨h1,_⟩
      .rw[h1]at hgo;simp[zG1]at hgo;rw[hg]at hgo;cases hgo
      .subst h1;exact skip v hg hK
    have call:∀(t:Operand) (args:Array Operand) (ats:Array TypeId) (f:FuncId) (vs caps:List Value) (vals:List A) (r:A),o.op=.call {callee:=.value t,args:=args,argTypes:=ats}->a.eval t=.func (.func f) #[] caps.toArray->zD6 C.P f=true->
        vs=args.toList.map a.eval++caps->vs.length=vals.length->(∀(i:Nat) (v:Value) (x:A),vs[i]? =some v->vals[i]? =some x->Rep w W μ v x)->zA1 s.mem vals->PFn C f (zG8 s.mem vals) r->
        g=true->(p.g=none\/zA3 s.mem vals r=[]/\r.isVV=true)->K (zQ0 p.g g r) (zA3 s.mem vals r)->o.wp C.P a w k Q:=λ t args ats f vs caps vals r ho ht hb hvs hl hV hfz hpf hg hgv hK=>by
      have hc:=zbZ9 hs hG hl hV hfz hpf;unfold Oper.wp;rw[zcr6 ho ht hb hvs];refine hc.mono λ e w' ⟨v,W',he,hrep,hst⟩=>?_;subst he;show k (a.put o.dst v) w';rw[hp.dst];exact fin r _ v w' W' μ hg (hgv.imp (λ h=>h) And.right) hK hrep hst
    have callb:∀(t:Operand) (args:Array Operand) (ats:Array TypeId) (f:FuncId) (u:Value) (vs:List Value) (vals:List A) (r:A),o.op=.call {callee:=.value t,args:=args,argTypes:=ats}->a.eval t=.func (.func f) #[u] #[]->zD6 C.P f=true->
        vs=u::args.toList.map a.eval->vs.length=vals.length->(∀(i:Nat) (v:Value) (x:A),vs[i]? =some v->vals[i]? =some x->Rep w W μ v x)->zA1 s.mem vals->PFn C f (zG8 s.mem vals) r->
        g=true->(p.g=none\/zA3 s.mem vals r=[]/\r.isVV=true)->K (zQ0 p.g g r) (zA3 s.mem vals r)->o.wp C.P a w k Q:=λ t args ats f u vs vals r ho ht hb hvs hl hV hfz hpf hg hgv hK=>by
      have hc:=zbZ9 hs hG hl hV hfz hpf;unfold Oper.wp;rw[zcS0 ho ht hb hvs];refine hc.mono λ e w' ⟨v,W',he,hrep,hst⟩=>?_;subst he;show k (a.put o.dst v) w';rw[hp.dst];exact fin r _ v w' W' μ hg (hgv.imp (λ h=>h) And.right) hK hrep hst
    have callm:∀(t:Operand) (args:Array Operand) (ats:Array TypeId) (f:FuncId) (vs caps:List Value) (vals:List A) (ob:Prop),o.op=.call {callee:=.value t,args:=args,argTypes:=ats}->a.eval t=.func (.func f) #[] caps.toArray->zD6 C.P f=true->
        vs=args.toList.map a.eval++caps->vs.length=vals.length->(∀(i:Nat) (v:Value) (x:A),vs[i]? =some v->vals[i]? =some x->Rep w W μ v x)->g=true->
        zaT7 C s.mem id f vals p.g g ob (λ n=>∀x,id<=x->x<id+n->s.mem x=.fresh) K->o.wp C.P a w k Q:=λ t args ats f vs caps vals ob ho ht hb hvs hl hV hgt hcm=>by
      obtain⟨l,as,ms,kk,r,ms',kk',ht0,_,hvv,hcnd,hK⟩:=hcm;obtain⟨_,hmf,hok,hfr⟩:=ht0 hgt;have hc:=zcE6 hs hG hl hV hfr hmf hok hcnd;unfold Oper.wp;rw[zcr6 ho ht hb hvs];refine hc.mono λ e w' ⟨v,W',μ',he,hrep,hst⟩=>?_;subst he;show k (a.put o.dst v) w';rw[hp.dst];exact fin _ _ v w' W' μ' hgt hvv hK hrep hst
    have skipM:∀{f:FuncId} {vals:List A} {ob:Prop} {F:Nat->Prop},g=false->zaT7 C s.mem id f vals p.g g ob F K->k (a.put p.dst undef) w:=λ hg h=>by
      obtain⟨l,as,ms,kk,r,ms',kk',_,hf,_,_,hK⟩:=h;obtain⟨_,hsame⟩:=hf hg;refine hk _ _ _ _ hK ⟨W,μ,?_⟩;refine{(hs.step (m':=s.mem) (d:=p.dst) (v:=undef) (av:=zQ0 p.g g (renR _ _)) hs.refl hp.lt ?_)with mem:=λ x=>?_}
      case refine_2=>
        rcases zcq9 x s.mem hsame with e|e
        · show zau0 w W μ x (setM s.mem _ x)
          rw[e];exact hs.mem x
        .exact(hs.mem x).like e
      cases hpg:p.g with
      |none=>rw[hpg]at hgo;simp[zG1]at hgo;rw[hg]at hgo;cases hgo
      |some q=>exact⟨λ h=>(by rw[hg]at h;cases h),λ _=>rfl⟩
    split at h
    · rename_i hpo
      split at h
      · rename_i c x y hxs
        split at h
        · rename_i b u v hc hx hy
          obtain⟨hgd,hK⟩:=h;cases g with
          |false=>exact skip _ rfl hK
          |true=>
            obtain⟨g1,g2,g3⟩:=hgd rfl;have hop:=hp.op;rw[hpo,hxs]at hop;simp only[zaY6]at hop;split at hop
            · rename_i c' x' y' ho
              simp only[zx7,bM,eK]at hop;obtain⟨k1,k2,k3⟩:=hop;have r1:=zbY2 hs k1;have r2:=zbY2 hs k2;have r3:=zbY2 hs k3;rw[hG]at r1 r2 r3;simp only[bT];refine go _ [] rfl (zdS0 hs ho (b:=b) (p:=u) (q:=v) ?_ ?_ ?_) (.inr rfl) hK
              .rw[<-hc];exact zcv6 r1 g1
              .intro hb;rw[<-hx];exact zcv6 r2 (g2 hb)
              .intro hb;rw[<-hy];exact zcv6 r3 (g3 hb)
            .cases hop
        .exact h.elim
      .exact h.elim
    · rename_i f hpo
      obtain⟨r,h1,h2,hK⟩:=h;cases g with
      |false=>exact sk _ _ rfl h2 hK
      |true=>
        obtain⟨hgd,hfz,hpf⟩:=h1 rfl;have hop:=hp.op;rw[hpo]at hop;simp only[zaY6]at hop;split at hop
        · rename_i f' args ats ho
          simp only[bM,dB]at hop;obtain⟨⟨rfl,hxs⟩,hfn⟩:=hop;have hV:=zaH7 hs hG p.xs args.toList hxs hgd;simp only[bT];exact call _ args ats f (args.toList.map a.eval) [] (zF2 C s.fr p.xs) r ho rfl hfn (by simp) (by simpa using hV.1) (λ i v x hv hx=>by
            simp only[cH,cC]at hv;obtain⟨q,hq,rfl⟩:=hv;exact hV.2 i q x hq hx) hfz hpf rfl h2 hK
        .cases hop
    · rename_i hpo
      split at h
      · rename_i f caps vals hvals
        obtain⟨r,h1,h2,hK⟩:=h;cases g with
        |false=>exact sk _ _ rfl h2 hK
        |true=>
          obtain⟨hgd,hfn,hfz,hpf⟩:=h1 rfl;have hop:=hp.op;rw[hpo]at hop;simp only[zaY6]at hop;split at hop
          · rename_i t args ats ho
            have hV:=zaH7 hs hG p.xs (.tmp t::args.toList) hop hgd;rw[hvals]at hV;obtain⟨vs,hv1,hv2,hv3⟩:=cloK (show RepK w W μ (a.eval (.tmp t)) (.clo f caps)from hV.2 0 (.tmp t) _ rfl rfl) (zca1 hfn);simp only[bT];have hl0:args.toList.length=vals.length:=by simpa using hV.1
            exact call _ args ats f (args.toList.map a.eval++vs) vs (vals++caps) r ho hv1 hfn rfl (by simp only[bR,cO];omega) (λ i v x hv hx=>by
              rw[fP]at hv hx;simp only[cO]at hv;split at hv
              · rename_i hi
                rw[bO (by omega)]at hx;simp only[cH,cC]at hv;obtain⟨q,hq,rfl⟩:=hv;exact hV.2 (i+1) q x (by simpa using hq) (by simpa using hx)
              · rename_i hi
                rw[bN (by omega),<-hl0]at hx;exact zp2 (zo1 (hv3 _ v x hv hx).toK)) hfz hpf rfl h2 hK
          .cases hop
      .exact h.elim
    · rename_i hpo
      split at h
      · rename_i f cs vals hvals
        obtain⟨r,h1,h2,hK⟩:=h;cases g with
        |false=>exact sk _ _ rfl h2 hK
        |true=>
          obtain⟨hgd,hfn,hfz,hpf⟩:=h1 rfl;have hop:=hp.op;rw[hpo]at hop;simp only[zaY6]at hop;split at hop
          · rename_i t args ats ho
            have hV:=zaH7 hs hG p.xs (.tmp t::args.toList) hop hgd;rw[hvals]at hV;obtain⟨us,hv1,hv2,hv3⟩:=RepC.bnd_val (show RepC w W (a.eval (.tmp t)) (.bnd f cs)from hV.2 0 (.tmp t) _ rfl rfl);simp only[bT];have hl0:args.toList.length=vals.length:=by simpa using hV.1
            refine callb _ args ats f _ (.agg us.toArray::args.toList.map a.eval) (.agg cs::vals) r ho hv1 hfn rfl (by simp only[List.length_cons,cO];omega) (λ i v x hv hx=>?_) hfz hpf rfl h2 hK;cases i with
            |zero=>simp only[List.getElem?_cons_zero,cK]at hv hx;subst hv;subst hx;exact show RepV w W μ (.agg us.toArray) (.agg cs)from⟨us,rfl,hv2,λ i u c h1 h2=>zp1 (hv3 i u c h1 h2)⟩
            |succ i=>simp only[List.getElem?_cons_succ,cH,cC]at hv hx;obtain⟨q,hq,rfl⟩:=hv;exact hV.2 (i+1) q x (by simpa using hq) (by simpa using hx)
          .cases hop
      .exact h.elim
    · rename_i f hpo
      cases g with
      |false=>exact skipM rfl h
      |true=>
        have hgd:gdsF C s.fr p.xs:=by obtain⟨_,_,_,_,_,_,_,ht0,_⟩:=h;exact(ht0 rfl).1
        have hop:=hp.op;rw[hpo]at hop;simp only[zaY6]at hop;split at hop
        · rename_i f' args ats ho
          simp only[bM,dB]at hop;obtain⟨⟨rfl,hxs⟩,hfn⟩:=hop;have hV:=zaH7 hs hG p.xs args.toList hxs hgd;simp only[bT];exact callm _ args ats f (args.toList.map a.eval) [] (zF2 C s.fr p.xs) _ ho rfl hfn (by simp) (by simpa using hV.1) (λ i v x hv hx=>by
            simp only[cH,cC]at hv;obtain⟨q,hq,rfl⟩:=hv;exact hV.2 i q x hq hx) rfl h
        .cases hop
    · rename_i hpo
      split at h
      · rename_i f caps vals hvals
        cases g with
        |false=>exact skipM rfl h
        |true=>
          have hgd:gdsF C s.fr p.xs/\zD6 C.P f=true:=by obtain⟨_,_,_,_,_,_,_,ht0,_⟩:=h;exact(ht0 rfl).1
          obtain⟨hgd,hfn⟩:=hgd;have hop:=hp.op;rw[hpo]at hop;simp only[zaY6]at hop;split at hop
          · rename_i t args ats ho
            have hV:=zaH7 hs hG p.xs (.tmp t::args.toList) hop hgd;rw[hvals]at hV;obtain⟨vs,hv1,hv2,hv3⟩:=cloK (show RepK w W μ (a.eval (.tmp t)) (.clo f caps)from hV.2 0 (.tmp t) _ rfl rfl) (zca1 hfn);simp only[bT];have hl0:args.toList.length=vals.length:=by simpa using hV.1
            exact callm _ args ats f (args.toList.map a.eval++vs) vs (vals++caps) _ ho hv1 hfn rfl (by simp only[bR,cO];omega) (λ i v x hv hx=>by
              rw[fP]at hv hx;simp only[cO]at hv;split at hv
              · rename_i hi
                rw[bO (by omega)]at hx;simp only[cH,cC]at hv;obtain⟨q,hq,rfl⟩:=hv;exact hV.2 (i+1) q x (by simpa using hq) (by simpa using hx)
              · rename_i hi
                rw[bN (by omega),<-hl0]at hx;exact zp2 (zo1 (hv3 _ v x hv hx).toK)) rfl h
          .cases hop
      .exact h.elim
    · rename_i hnp hnc hnv hnb hnm hnvm
      split at h
      · rename_i ef hev
        obtain⟨h1,h2,hK⟩:=h;cases g with
        |false=>exact sk _ _ rfl h2 hK
        |true=>obtain⟨hgd,hobl⟩:=h1 rfl;simp only[bT];refine go ef.v ef.mw rfl (zds9 hs hid p.po p.xs _ (λ ops hops=>zaH7 hs hG p.xs ops hops hgd) (zbE5 _ p.xs).symm hp.op hev hobl hnp) (h2.imp (λ h=>h) And.right) hK
      · obtain⟨hg,_,hK⟩:=h
        subst hg;exact skip _ rfl hK
theorem zcw5(st:St)(x:Nat)(h:st.nx<=x):st.m x=.fresh:=bO h
theorem zbW4{f:FuncId}{vals:List A}{og:Option (Nat×Bool)}{g:Bool}{ob:Prop}{F:Nat->Prop}{K:A->List (Nat×MS)->Prop}(h:zaT7 C st.m st.nx f vals og g ob F K):
    zaT7 C st.m st.nx f vals og g ob (λ n=>∀x,st.nx<=x->x<st.nx+n->st.m x=.fresh) (λ v mw=>mwOk st.nx mw/\K v mw):=by
  obtain⟨l,as,ms,k,r,ms',k',h1,h2,h3,h4,h5⟩:=h;refine⟨l,as,ms,k,r,ms',k',λ hg=>let⟨a1,a2,a3,_⟩:=h1 hg;⟨a1,a2,a3,λ x hx _=>zcw5 st x hx⟩,h2,h3,h4,?_,h5⟩;cases g with
  |true=>exact zcR9 (h1 rfl).2.2.1
  |false=>exact zcr5 (h2 rfl).2
theorem zec9{p:POp}{K:St->Prop}(h:aop C p st K):aopS C p st.toS st.nx (λ v mw=>mwOk st.nx mw/\K (st.app p.dst v mw)):=by
  unfold aop at h;unfold aopS;simp only[St.toS];rw[zdf7]at h;simp only[zbW2,zbl1]at h;cases hg:zG1 st.slot p.g with
  |none=>simp[hg]at h
  |some g=>
    simp only[hg]at h⊢;cases hp:p.po<;>simp only[hp]at h|-
    case pick=>
      split at h
      · split at h
        .exact⟨h.1,trivial,h.2⟩
        .exact h.elim
      .exact h.elim
    case call f=>obtain⟨r,h1,h2,h3⟩:=h;exact⟨r,h1,h2,zaO3 st _ _,h3⟩
    case callv=>
      split at h
      · obtain⟨r,h1,h2,h3⟩:=h
        exact⟨r,h1,h2,zaO3 st _ _,h3⟩
      .exact h.elim
    case callb=>
      split at h
      · obtain⟨r,h1,h2,h3⟩:=h
        exact⟨r,h1,h2,zaO3 st _ _,h3⟩
      .exact h.elim
    case callm f=>exact zbW4 h
    case callvm=>
      split at h
      .exact zbW4 h
      .exact h.elim
    all_goals
      split at h
      · rename_i ef hev
        obtain⟨h1,h2,h3⟩:=h;exact⟨h1,h2,zcZ6 hev,h3⟩
      .exact⟨h.1,h.2.1,trivial,h.2.2⟩
theorem zcr7{ops:Array Oper}{p:POp}(hs:SatW E st.toS a w W μ)(hG:E.G=C.G)(hp:POk C E.N ops o p){K:St->Prop}(h:aop C p st K){Q:Exit->Act->World->Prop}{k:Act->World->Prop}
    (hk:∀st' a' w',K st'->Sat E st'.toS a' w'->k a' w'):if Region.wanted o (yielded ops a.tmps)then o.wp C.P a w k Q else k (a.put o.dst undef) w:=
  zca2 hs hG st.m_nx hp (zec9 h) λ v mw a' w' ⟨hmw,hK⟩ hsat=>hk _ a' w' hK (by rw[zbW1 st _ _ _ hmw];exact hsat)
def ROk(C:Cx)(N:Nat)(ops:Array Oper):Nat->List POp->Prop
  |n,[]=>n=ops.size
  |n,p::ps=>(∃o,ops[n]? =some o/\POk C N ops o p)/\ROk C N ops (n+1) ps
theorem zcr8{st:St}:∀(mw:List (Nat×MS)),(∀q∈mw,∃r,q.2=.row r/\∃r',st.m q.1=.row r')->mwOk st.nx mw
  |[],_=>trivial
  |q::mw,h=>by obtain⟨r,h1,r',h2⟩:=h q (.head _);have hlt:=St.m_row h2;exact⟨iL hlt,(by rw[h1];exact(λ h=>nomatch h)),(by rw[bN (by omega)];exact zcr8 mw λ p hp=>h p (.tail _ hp))⟩
theorem zbd9{ops:Array Oper}(hG:E.G=C.G){Q:Exit->Act->World->Prop}:∀(ps:List POp) (n:Nat) (st:St) (a:Act) (w:World),ROk C E.N ops n ps->Sat E st.toS a w->∀(K:St->Prop),arun C ps st K->
    (∀st' a' w',K st'->Sat E st'.toS a' w'->Q .normal a' w')->wpOps C.P ops Q (List.range' n ps.length) a w
  |[],n,st,a,w,_,hs,K,h,hk=>hk st a w h hs
  |p::ps,n,st,a,w,hr,⟨W,μ,hs⟩,K,h,hk=>by
    obtain⟨⟨o,ho,hp⟩,hr2⟩:=hr;unfold arun at h;split at h
    · rename_i hq
      have hpo:p.po=.eqNil:=by cases hpo:p.po<;>rw[hpo]at hq<;>first|rfl|cases hq
      obtain⟨hg,hgd,h⟩:=h;have hop:=hp.op;rw[hpo]at hop;simp only[zaY6]at hop;split at hop
      · rename_i b T x y T2 ho2
        simp only[bM,dB]at hop;obtain⟨⟨⟨rfl,hT⟩,hy⟩,hx⟩:=hop;obtain⟨d,hd,hd2⟩:=zI8 hT;obtain⟨e,rfl⟩:∃e,d=.slice e:=by cases d<;>simp[zbr9]at hd2;exact⟨_,rfl⟩
        have hy:=zbP8 hy;subst hy;rw[zbW2]at hgd;rw[zbl1]at h;have hV:=zaH7 hs hG p.xs [x] hx hgd;obtain⟨av,hav,hrep⟩:=hV.one;have hav':zF2 C st.slot p.xs=[av]:=hav;rw[hav']at h;have go:∀(b:Bool),(binOp .eql T (a.eval x) (.slice none 0 0)).run C.P w=.ok (.bool b) w->arun C ps (st.app p.dst (.bool b) []) K->wpOps C.P ops Q (List.range' n (p::ps).length) a w:=λ b hrun hK=>by
          have hgo:o.guard=none:=by
            have:=hp.g;rw[hg]at this;cases hog:o.guard with
            |none=>rfl
            |some r=>simp[hog]at this
          simp only[List.length_cons,gG,wpOps,ho];rw[bO (by simp[Region.wanted,hgo])];refine .inl ?_;have hrun':(binOp .eql T (a.eval x) (a.eval (.const (.slice none 0 0)))).run C.P w=.ok (.bool b) w:=hrun;have hguard:∀i j,eqGuard .eql T i j (a.eval x) (a.eval (.const (.slice none 0 0)))=pure ():=by intro i j;show eqGuard .eql T i j (a.eval x) (Value.slice none 0 0)=_;cases a.eval x<;>rfl
          have hy2:zp0 C.P o a w W μ st.m (.bool b) st.m:=⟨.value (.bool b),.bool b,w,W,μ,by simp[execOp,ho2,hguard,hrun'],.inl rfl,zp2 (zo1 (zp1 (.bool b))),hs.refl⟩;refine Oper.wp_of_yields hs hy2 λ v w' W' μ' hrv hst=>?_;rw[hp.dst];refine zbd9 hG ps (n+1) (st.app p.dst (.bool b) []) (a.put p.dst v) w' hr2 ⟨W',μ',?_⟩ K hK hk;rw[zbW1 st _ _ _ (by trivial)];exact hs.step hst hp.lt hrv
        have fin:∀es,RepC w W (a.eval x) (.sl es)->(∀b:Bool,(b=true->es=[])->arun C ps (st.app p.dst (.bool b) []) K)->wpOps C.P ops Q (List.range' n (p::ps).length) a w:=λ es hes hK=>by
          rcases hes.open_sl with⟨h0,ad,cap,hv⟩|⟨bb,off,cap,sz,us,hv,_⟩
          .refine go ad.isNone (by rw[hv];exact Lib.run_eql_slice_nil w T e ad 0 cap 0 0 hd) (hK _ λ _=>h0)
          .refine go false (by rw[hv];exact Lib.run_eql_slice_nil w T e _ _ cap 0 0 hd) (hK _ λ h=>nomatch h)
        unfold nilQ at h;split at h
        .rename_i es heq;cases heq;exact fin es hrep h
        .rename_i es heq;cases heq;exact fin es (RepC.of_full hrep).1 h
        .exact h.elim
      .cases hop
    split at h
    · rename_i hq
      obtain⟨hg,hgd,h⟩:=h;have hop:=hp.op;have hgo:o.guard=none:=by
        have:=hp.g;rw[hg]at this;cases hog:o.guard with
        |none=>rfl
        |some r=>simp[hog]at this
      rw[zbW2]at hgd;rw[zbl1]at h;have fin:∀(v:A) (mw:List (Nat×MS)),arun C ps (st.app p.dst v mw) K->(∀q∈mw,∃r,q.2=.row r/\∃r',st.m q.1=.row r')->zp0 C.P o a w W μ st.m v (setM st.m mw)->wpOps C.P ops Q (List.range' n (p::ps).length) a w:=λ v mw hK hmw hy=>by simp only[List.length_cons,gG,wpOps,ho];rw[bO (by simp[Region.wanted,hgo])];refine .inl ?_;refine Oper.wp_of_yields hs hy λ u w' W' μ' hrv hst=>?_;rw[hp.dst];refine zbd9 hG ps (n+1) (st.app p.dst v mw) (a.put p.dst u) w' hr2 ⟨W',μ',?_⟩ K hK hk;rw[zbW1 st _ _ _ (zcr8 mw hmw)];exact hs.step hst hp.lt hrv
      cases hpo:p.po<;>rw[hpo]at hq<;>first|(cases hq;done)|skip
      · rw[hpo]at hop h
        simp only[zaY6]at hop;split at hop
        · rename_i x ho2
          have hV:=zaH7 hs hG p.xs [x] hop hgd;obtain⟨av,hav,hrep⟩:=hV.one;have hav':zF2 C st.slot p.xs=[av]:=hav;rw[hav']at h;obtain⟨v,mw,hK,hmw,hy⟩:=zdT4 hs ho2 hrep (show nxtQ _ st.toS.mem (λ v mw=>arun C ps (st.app p.dst v mw) K) [av]from h);exact fin v mw hK hmw hy
        .cases hop
      · rw[hpo]at hop h
        simp only[zaY6]at hop;split at hop
        · rename_i x ho2
          have hV:=zaH7 hs hG p.xs [x] hop hgd;obtain⟨av,hav,hrep⟩:=hV.one;have hav':zF2 C st.slot p.xs=[av]:=hav;rw[hav']at h;obtain⟨v,mw,hK,hmw,hy⟩:=zdT5 hs ho2 hrep (show entQ _ st.toS.mem (λ v mw=>arun C ps (st.app p.dst v mw) K) [av]from h);exact fin v mw hK hmw hy
        .cases hop
    have:=zcr7 hs hG hp h (Q:=Q) (k:=wpOps C.P ops Q (List.range' (n+1) ps.length)) (λ st' a' w' hK hs'=>zbd9 hG ps (n+1) st' a' w' hr2 hs' K hK hk);simp only[List.length_cons,gG,wpOps,ho];split at this
    .rename_i hw;rw[bO hw];exact .inl this
    .rename_i hw;rw[bN hw];exact this
theorem ROk.size{ops:Array Oper}:∀{ps:List POp} {n N:Nat},ROk C N ops n ps->n+ps.length=ops.size
  |[],n,_,h=>h
  |_::ps,n,_,h=>by have:=h.2.size;simp;omega
theorem zcw6{ops:Array Oper}{id:Nat}(hG:E.G=C.G){ps:List POp}(hr:ROk C E.N ops 0 ps){st:St}{a:Act}{w:World}(hs:Sat E st.toS a w){K:St->Prop}(h:arun C ps st K){Q:Exit->Act->World->Prop}
    (hk:∀st' a' w',K st'->Sat E st'.toS a' w'->Q .normal a' w'):(Code.region id ops false).wp C.P Q a w:=by
  refine wp_region ?_;have:=zbd9 hG ps 0 st a w hr hs K h (Q:=Q) hk;rw[dZ];have e:=hr.size;rw[dG]at e;rw[<-e];exact this
end
inductive PC where
  |skip
  |reg (dr:List Nat) (ops:List POp)
  |regd (dr:List Nat) (ops:List POp)
  |regm (dr:List Nat) (an:List (List Nat)) (ops:List POp)
  |seq (a b:PC)
  |cond (x:PX) (a b:PC)
  |block (id:Nat) (c:PC)
  |loop (c:PC)
  |exit (id:Nat)
  |ret
  |scope (c:PC)
  |label
  |dead
def chkG(ops:Array Oper)(p:POp)(o:Oper):Bool:=
  match p.g,o.guard with
  |none,none=>true
  |some q,some r=>r.2==q.2&&(ops[r.1]?).bind (·.dst)==some q.1
  |_,_=>false
def chkD(N:Nat):Option Nat->Bool
  |none=>true
  |some d=>Nat.blt d N
def chkR(P:Program)(N:Nat)(ops:Array Oper):List Oper->List POp->Bool
  |[],[]=>true
  |o::os,p::ps=>o.dst==p.dst&&chkD N p.dst&&chkG ops p o&&zaY6 P o.op p.po p.xs&&chkR P N ops os ps
  |_,_=>false
def POp.sortOk:List Oper->Nat->Bool
  |[],_=>true
  |o::os,i=>o.after.all (λ e=>!Region.binds .any e||Nat.blt e.on i)&&POp.sortOk os (i+1)
def rdsX:List PX->List Nat
  |[]=>[]
  | .t n::ps=>n::rdsX ps
  |_::ps=>rdsX ps
def POp.rds(p:POp):List Nat:=(match p.g with|none=>[]|some q=>[q.1])++rdsX p.xs
def conf(p q:POp):Bool:=
  (match p.dst with|none=>false|some d=>q.dst==some d||q.rds.contains d)||(match q.dst with|none=>false|some d=>p.rds.contains d)
def zF3(o:Oper):List Nat:=(o.after.toList.filter λ e=>Region.binds .any e).map (·.on)
def ancs:List (List Nat)->List (List Nat)->List (List Nat)
  |acc,[]=>acc
  |acc,e::es=>ancs (acc++[e++e.flatMap λ i=>acc.getD i []]) es
def zbJ9(ps:List POp)(an:List (List Nat)):Bool:=
  (List.range ps.length).all λ j=>(List.range j).all λ i=>match ps[i]?,ps[j]? with
    |some p,some q=>!conf p q||(an.getD j []).contains i
    |_,_=>true
def zcZ8(ops:Array Oper)(ps:List POp):Bool:=POp.sortOk ops.toList 0&&zbJ9 ps (ancs [] (ops.toList.map zF3))
def chkC(P:Program)(N:Nat):Code->PC->Bool
  | .skip,.skip=>true
  | .region _ ops false,.reg _ ps=>chkR P N ops ops.toList ps
  | .region _ ops true,.regd _ ps=>chkR P N ops ops.toList ps&&zcZ8 ops ps
  | .region _ ops true,.regm _ an ps=>chkR P N ops ops.toList ps&&(POp.sortOk ops.toList 0&&(zbJ9 ps an&&an==ancs [] (ops.toList.map zF3)))
  | .seq a b,.seq c d=>chkC P N a c&&chkC P N b d
  | .cond x a b,.cond p c d=>chkX x p&&chkC P N a c&&chkC P N b d
  | .block i a,.block j c=>i==j&&chkC P N a c
  | .loop a,.loop c=>chkC P N a c
  | .exit i,.exit j=>i==j
  | .ret,.ret=>true
  | .scope a,.scope c=>chkC P N a c
  | .label _,.label=>true
  |_,.dead=>true
  |_,_=>false
def St.drop(st:St)(dr:List Nat):St:=⟨zcq7 dr st.fr,st.mem,st.nx⟩
def AW(C:Cx)(E:Env)(c:PC)(Q:Exit->St->Prop)(st:St):Prop:=
  ∀code,chkC C.P E.N code c=true->∀a w,Sat E st.toS a w->code.wp C.P (λ e a' w'=>∃st',Q e st'/\Sat E st'.toS a' w') a w
def St.le(E:Env)(st st':St):Prop:=∀a w,Sat E st.toS a w->Sat E st'.toS a w
def fixL(l:List (Nat×Nat)):Nat->Bool
  |0=>true
  |n+1=>Nat.beq (rho l n) n&&fixL l n
def zaz7(k:Nat)(l:List (Nat×Nat))(nx:Nat):Bool:=fixL l k&&Nat.ble k nx
theorem zcZ9{l:List (Nat×Nat)}:∀{k:Nat},fixL l k=true->∀x,x<k->rho l x=x
  |k+1,h,x,hx=>by
    simp only[fixL,bM]at h
    by_cases hk:x=k
    .subst hk;exact fA h.1
    .exact zcZ9 h.2 x (by omega)
section
variable {C:Cx} {E:Env} {Q:Exit→St→Prop} {st:St}
theorem AW.mono{c:PC}{Q':Exit->St->Prop}(h:AW C E c Q st)(hq:∀e s,Q e s->Q' e s):AW C E c Q' st:=
  λ code hc a w hs=>wp_mono (h code hc a w hs) λ e _ _ ⟨st',h1,h2⟩=>⟨st',hq e st' h1,h2⟩
theorem AW.weak{c:PC}{st':St}(hle:St.le E st st')(h:AW C E c Q st'):AW C E c Q st:=
  λ code hc a w hs=>h code hc a w (hle a w hs)
theorem zdK0(h:Q .normal st):AW C E .skip Q st:=λ code hc a w hs=>by cases code<;>simp[chkC]at hc;exact wp_skip ⟨st,h,hs⟩
theorem zdt4(h:Q .normal st):AW C E .label Q st:=λ code hc a w hs=>by cases code<;>simp[chkC]at hc;exact wp_label ⟨st,h,hs⟩
theorem zcE7{c:PC}(h:AW C E c (λ e s=>match e with|.goto _=>False|e=>Q e s) st):AW C E (.scope c) Q st:=λ code hc a w hs=>by
  cases code<;>simp[chkC]at hc;rename_i c1;refine wp_scope_straight (wp_mono (h c1 hc a w hs) λ e a' w' ⟨st',h1,h2⟩=>?_);cases e with
  |goto l=>exact h1
  |_=>exact⟨st',h1,h2⟩
theorem zdT8{x y:PC}(h:AW C E x (λ e s=>match e with|.normal=>AW C E y Q s|e=>Q e s) st):AW C E (.seq x y) Q st:=λ code hc a w hs=>by
  cases code<;>simp[chkC]at hc;rename_i c1 c2;refine wp_seq (wp_mono (h c1 hc.1 a w hs) λ e a' w' ⟨st',h1,h2⟩=>?_);cases e with
  |normal=>exact h1 c2 hc.2 a' w' h2
  |_=>exact⟨st',h1,h2⟩
theorem zbW5{x:PX}{p q:PC}{b:Bool}(hx:xv C.G st.slot x=.bool b)(hG:E.G=C.G)(ht:b=true->AW C E p Q st)(hf:b=false->AW C E q Q st):AW C E (.cond x p q) Q st:=λ code hc a w hs=>by
  cases code<;>simp[chkC]at hc;rename_i o c1 c2;obtain⟨W,μ,hs'⟩:=hs;have hr:=zbY2 hs' hc.1.1;rw[hG]at hr;have hv:Rep w W μ (a.eval o) (.bool b):=by rw[<-hx];exact hr
  exact wp_cond_split hv.bool (λ hb=>ht hb c1 hc.1.2 a w ⟨W,μ,hs'⟩) (λ hb=>hf hb c2 hc.2 a w ⟨W,μ,hs'⟩)
theorem zca3{id:Nat}{c:PC}(h:AW C E c (λ e s=>match e with|.exit i=>(if i=id then Q .normal s else Q (.exit i) s)|e=>Q e s) st):AW C E (.block id c) Q st:=λ code hc a w hs=>by
  cases code<;>simp[chkC]at hc;rename_i i c1;obtain⟨rfl,hc⟩:=hc;refine wp_block (wp_mono (h c1 hc a w hs) λ e a' w' ⟨st',h1,h2⟩=>?_);cases e with
  |exit j=>
    simp only[Exit.inBlock]at h1⊢;split at h1
    .rename_i hj;rw[bO hj];exact⟨st',h1,h2⟩
    .rename_i hj;rw[bN hj];exact⟨st',h1,h2⟩
  |_=>exact⟨st',h1,h2⟩
theorem zdK1{id:Nat}(h:Q (.exit id) st):AW C E (.exit id) Q st:=λ code hc a w hs=>by cases code<;>simp[chkC]at hc;subst hc;exact wp_exit ⟨st,h,hs⟩
theorem zdT9(h:Q .ret st):AW C E .ret Q st:=λ code hc a w hs=>by cases code<;>simp[chkC]at hc;exact wp_ret ⟨st,h,hs⟩
theorem zcw7{c:PC}{G:Type}(I:G->St)(inv:G->Prop)(μ:G->Nat)(g0:G)(h0:inv g0)(hle:St.le E st (I g0))
    (h:∀g,inv g->AW C E c (λ e s=>match e with|.normal=>∃g',inv g'/\St.le E s (I g')/\μ g'<μ g|e=>Q e s) (I g)):AW C E (.loop c) Q st:=λ code hc a w hs=>by
  cases code<;>simp[chkC]at hc;rename_i c1;refine wp_mono (c:=.loop c1) (Q:=λ e a' w'=>∃st',Q e st'/\Sat E st'.toS a' w') ?_ (λ _ _ _ h=>h);have key:∀n g,μ g=n->inv g->∀a w,Sat E (I g).toS a w->∀(b:Frame) (k:List Item) (cs:List Frame),
      ∃e a' w',(∃st',Q e st'/\Sat E st'.toS a' w')/\Arrives C.P (lone (b.at a (.code c1:: .inLoop c1::k)) cs w) b k cs e a' w':=by
    intro n;induction n using Nat.strongRecOn with
    |_ n ih=>
      intro g hn hg a w hs b k cs;obtain⟨e,a₁,w₁,⟨st',hq,hs'⟩,harr⟩:=h g hg c1 hc a w hs b (.inLoop c1::k) cs;cases e with
      |normal=>obtain⟨g',hg',hle',hlt⟩:=hq;obtain⟨e₂,a₂,w₂,hq₂,harr₂⟩:=ih (μ g') (hn▸hlt) g' rfl hg' a₁ w₁ (hle' a₁ w₁ hs') b k cs;exact⟨e₂,a₂,w₂,hq₂,.of_steps (Steps.trans harr (.one step_inLoop)) harr₂⟩
      |exit id=>exact⟨_,a₁,w₁,⟨st',hq,hs'⟩,.pass (x:=.inLoop c1) rfl (λ _ _=>.inl (by simp)) harr⟩
      |goto l=>exact⟨_,a₁,w₁,⟨st',hq,hs'⟩,.pass (x:=.inLoop c1) rfl (λ _ _=>.inl (by simp)) harr⟩
      |ret=>exact⟨_,a₁,w₁,⟨st',hq,hs'⟩,.pass (x:=.inLoop c1) rfl (λ _ _=>.inl (by simp)) harr⟩
      |panic ch=>exact⟨_,a₁,w₁,⟨st',hq,hs'⟩,.pass (x:=.inLoop c1) rfl (λ _ _=>.inl (by simp)) harr⟩
      |outgrown=>exact⟨_,a₁,w₁,⟨st',hq,hs'⟩,.pass (x:=.inLoop c1) rfl (λ _ _=>.inl (by simp)) harr⟩
  intro b k cs;obtain⟨e,a',w',hq,harr⟩:=key _ g0 rfl h0 a w (hle a w hs) b k cs;exact⟨e,a',w',hq,.of_steps (.one step_loop) harr⟩
theorem zdK2{c:PC}{G:Type}(I:G->St)(inv:G->Prop)(μ:G->Nat)
    (h:∀g,inv g->AW C E c (λ e s=>match e with|.normal=>∃g',inv g'/\St.le E s (I g')/\μ g'<μ g|e=>Q e s) (I g))
    (h1:AW C E c (λ e s=>match e with|.normal=>∃g',inv g'/\St.le E s (I g')|e=>Q e s) st):AW C E (.loop c) Q st:=λ code hc a w hs=>by
  have hc0:=hc;cases code<;>simp[chkC]at hc;rename_i c1;refine wp_mono (c:=.loop c1) (Q:=λ e a' w'=>∃st',Q e st'/\Sat E st'.toS a' w') ?_ (λ _ _ _ h=>h);have key:∀n g,μ g=n->inv g->∀a w,Sat E (I g).toS a w->∀(b:Frame) (k:List Item) (cs:List Frame),
      ∃e a' w',(∃st',Q e st'/\Sat E st'.toS a' w')/\Arrives C.P (lone (b.at a (.code c1:: .inLoop c1::k)) cs w) b k cs e a' w':=by
    intro n;induction n using Nat.strongRecOn with
    |_ n ih=>
      intro g hn hg a w hs b k cs;obtain⟨e,a₁,w₁,⟨st',hq,hs'⟩,harr⟩:=h g hg c1 hc a w hs b (.inLoop c1::k) cs;cases e with
      |normal=>obtain⟨g',hg',hle',hlt⟩:=hq;obtain⟨e₂,a₂,w₂,hq₂,harr₂⟩:=ih (μ g') (hn▸hlt) g' rfl hg' a₁ w₁ (hle' a₁ w₁ hs') b k cs;exact⟨e₂,a₂,w₂,hq₂,.of_steps (Steps.trans harr (.one step_inLoop)) harr₂⟩
      |exit id=>exact⟨_,a₁,w₁,⟨st',hq,hs'⟩,.pass (x:=.inLoop c1) rfl (λ _ _=>.inl (by simp)) harr⟩
      |goto l=>exact⟨_,a₁,w₁,⟨st',hq,hs'⟩,.pass (x:=.inLoop c1) rfl (λ _ _=>.inl (by simp)) harr⟩
      |ret=>exact⟨_,a₁,w₁,⟨st',hq,hs'⟩,.pass (x:=.inLoop c1) rfl (λ _ _=>.inl (by simp)) harr⟩
      |panic ch=>exact⟨_,a₁,w₁,⟨st',hq,hs'⟩,.pass (x:=.inLoop c1) rfl (λ _ _=>.inl (by simp)) harr⟩
      |outgrown=>exact⟨_,a₁,w₁,⟨st',hq,hs'⟩,.pass (x:=.inLoop c1) rfl (λ _ _=>.inl (by simp)) harr⟩
  intro b k cs;obtain⟨e,a₁,w₁,⟨st',hq,hs'⟩,harr⟩:=h1 c1 hc a w hs b (.inLoop c1::k) cs;cases e with
  |normal=>obtain⟨g',hg',hle'⟩:=hq;obtain⟨e₂,a₂,w₂,hq₂,harr₂⟩:=key _ g' rfl hg' a₁ w₁ (hle' a₁ w₁ hs') b k cs;exact⟨e₂,a₂,w₂,hq₂,.of_steps (Steps.trans (.one step_loop) (Steps.trans harr (.one step_inLoop))) harr₂⟩
  |exit id=>exact⟨_,a₁,w₁,⟨st',hq,hs'⟩,.of_steps (.one step_loop) (.pass (x:=.inLoop c1) rfl (λ _ _=>.inl (by simp)) harr)⟩
  |goto l=>exact⟨_,a₁,w₁,⟨st',hq,hs'⟩,.of_steps (.one step_loop) (.pass (x:=.inLoop c1) rfl (λ _ _=>.inl (by simp)) harr)⟩
  |ret=>exact⟨_,a₁,w₁,⟨st',hq,hs'⟩,.of_steps (.one step_loop) (.pass (x:=.inLoop c1) rfl (λ _ _=>.inl (by simp)) harr)⟩
  |panic ch=>exact⟨_,a₁,w₁,⟨st',hq,hs'⟩,.of_steps (.one step_loop) (.pass (x:=.inLoop c1) rfl (λ _ _=>.inl (by simp)) harr)⟩
  |outgrown=>exact⟨_,a₁,w₁,⟨st',hq,hs'⟩,.of_steps (.one step_loop) (.pass (x:=.inLoop c1) rfl (λ _ _=>.inl (by simp)) harr)⟩
theorem zdf8{ops:Array Oper}{p:POp}{o:Oper}(h:chkG ops p o=true):match p.g,o.guard with|none,none=>True|some q,some r=>r.2=q.2/\(ops[r.1]?).bind (·.dst)=some q.1|_,_=>False:=by unfold chkG at h;cases hp:p.g<;>cases ho:o.guard<;>simp only[hp,ho]at h⊢<;>first|trivial|(cases h;done)|(simp only[bM,dB]at h;exact h)
theorem zbs0{P:Program}{N:Nat}{ops:Array Oper}{G:zbP5}:∀(os:List Oper) (ps:List POp) (n:Nat),chkR P N ops os ps=true->(∀i,os[i]? =ops[n+i]?)->n+os.length=ops.size->ROk ⟨P,G⟩ N ops n ps
  |[],[],n,_,_,hl=>by
    show n=ops.size
    simpa using hl
  |o::os,p::ps,n,hc,h,hl=>by
    simp only[chkR,bM,dB]at hc;obtain⟨⟨⟨⟨h1,h2⟩,h3⟩,h4⟩,h5⟩:=hc;refine⟨⟨o,by have:=h 0;simpa using this.symm,h1,λ d hd=>?_,zdf8 h3,h4⟩,zbs0 os ps (n+1) h5 (λ i=>?_) (by simp at hl;omega)⟩
    .rw[hd]at h2;simpa [chkD]using h2
    · have:=h (i+1)
      simp only[List.getElem?_cons_succ]at this;rw[this];congr 1;omega
  |[],_::_,_,hc,_,_=>by simp[chkR]at hc
  |_::_,[],_,hc,_,_=>by simp[chkR]at hc
theorem zca4{α:Type}:∀(ns:List Nat) (l:List (Nat×α)) (t:Nat),look (zcq7 ns l) t=if t∈ns then none else look l t
  |[],l,t=>by simp[zcq7]
  |n::ns,l,t=>by
    simp only[zcq7];rw[zca4 ns,zaH6]
    by_cases h1:t∈ns
    .simp[h1]
    · by_cases h2:t=n
      .simp[h2]
      .simp[h1,h2]
theorem Sat.drop{a:Act}{w:World}{dr:List Nat}(h:Sat E st.toS a w):Sat E (st.drop dr).toS a w:=by
  obtain⟨W,μ,hs⟩:=h;refine⟨W,μ,{hs with fr:=λ t=>?_}⟩;show Rep w W μ _ ((st.drop dr).slot t);simp only[St.slot,St.drop,zca4];split
  .trivial
  .exact hs.fr t
theorem zdU0{dr:List Nat}{ops:List POp}(hG:E.G=C.G)(h:arun C ops st λ s=>Q .normal (s.drop dr)):AW C E (.reg dr ops) Q st:=λ code hc a w hs=>by
  cases code with
  |region id os d=>
   cases d with
   |true=>simp[chkC]at hc
   |false=>simp only[chkC]at hc;refine zcw6 hG (ps:=ops) ?_ hs h (λ st' a' w' hK hs'=>⟨_,hK,hs'.drop⟩);obtain⟨P,G⟩:=C;exact zbs0 os.toList ops 0 hc (by simp) (by simp)
  |_=>simp[chkC]at hc
def idOk(nx:Nat):A->Prop
  | .agg cs=>if zn6 cs then True else∀c∈cs,zbw3 nx c
  | .tup _=>False
  | .cnd _ _=>False
  |a=>zbw3 nx a
def leF(l:List (Nat×Nat))(st:St)(nx:Nat):List (Nat×A)->Prop
  |[]=>True
  |q::r=>st.slot q.1=ren l q.2/\idOk nx q.2/\leF l st nx r
def leM(l:List (Nat×Nat))(st:St)(nx:Nat):List (Nat×Row)->Prop
  |[]=>True
  |q::r=>(match look st.mem (rho l q.1)with
      |some r'=>(q.2.ro=true\/r'.ro=false)/\r'.sz=q.2.sz/\r'.es=zak6 l q.2.es/\(q.2.sz=0->r'.z=q.2.z)
      |none=>False)/\rho l q.1<st.nx/\q.1<nx/\idEs nx q.2.es/\leM l st nx r
def Le(l:List (Nat×Nat))(st st':St):Prop:=leF l st st'.nx st'.fr/\leM l st st'.nx st'.mem/\zaP3 (st'.mem.map λ q=>rho l q.1)=true
theorem zdt5{l:List (Nat×Nat)}{nx:Nat}:∀{fr:List (Nat×A)},leF l st nx fr->∀t v,look fr t=some v->st.slot t=ren l v/\idOk nx v
  |q::r,h,t,v,hv=>by
    simp only[look]at hv;split at hv
    .rename_i hq;cases hv;subst hq;exact⟨h.1,h.2.1⟩
    .exact zdt5 h.2.2 t v hv
theorem zdt6{l:List (Nat×Nat)}{nx:Nat}:∀{m:List (Nat×Row)},leM l st nx m->∀x r,look m x=some r->(∃r',look st.mem (rho l x)=some r'/\(r.ro=true\/r'.ro=false)/\r'.sz=r.sz/\r'.es=zak6 l r.es/\(r.sz=0->r'.z=r.z))/\rho l x<st.nx/\x<nx/\idEs nx r.es
  |q::r,h,t,v,hv=>by
    simp only[look]at hv;split at hv
    · rename_i hq;cases hv;subst hq
      obtain⟨h1,h2,h3,h4,_⟩:=h;refine⟨?_,h2,h3,h4⟩;split at h1
      .rename_i r' hr';exact⟨r',hr',h1⟩
      .exact h1.elim
    .exact zdt6 h.2.2.2.2 t v hv
theorem zdf9(l:List (Nat×Nat))(a:A):(ren1 l a).pure1=a.pure1:=by
  cases a with
  |clo f cs=>cases cs<;>rfl
  |_=>rfl
theorem zca5(l:List (Nat×Nat)):∀cs:List A,zn6 (cs.map (ren1 l))=zn6 cs
  |[]=>rfl
  |a::cs=>by simp only[cX,zn6,zdf9,zca5 l cs]
theorem zca6(l:List (Nat×Nat)):∀es:List (List A),pureEs (es.map (·.map (ren1 l)))=pureEs es
  |[]=>rfl
  |a::cs=>by simp only[cX,pureEs,zca5,zca6 l cs]
theorem zcS1{l:List (Nat×Nat)}{es:List (List A)}(h:pureEs (zak6 l es)=true):zak6 l es=es:=by
  unfold zak6 at*;split at h
  .rename_i hp;rw[bO hp]
  .rename_i hp;rw[zca6]at h;exact absurd h hp
theorem zcr9{l:List (Nat×Nat)}:∀{es:List (List A)} {seen:List Nat},es.map (·.map (ren1 l))=seen.map iE->es=seen.map iE
  |[],[],_=>rfl
  |[],_::_,h=>by simp at h
  |_::_,[],h=>by simp at h
  |c::es,i::seen,h=>by
    simp only[cX,fX]at h;obtain⟨h1,h2⟩:=h;rw[zcr9 h2,cX];congr 1
    match c,h1 with
    |[a],h1=>simp only[iE,cX,iS,fX,iA]at h1;cases a<;>simp_all[ren1,ren0,iE]
    |[],h1=>simp[iE]at h1
    |_::_::_,h1=>simp[iE]at h1
theorem zdt7{l:List (Nat×Nat)}{es:List (List A)}{y c:Nat}{seen:List Nat}(h:zak6 l es=[.mp y,.int .i64 c]::seen.map iE):∃y0,es=[.mp y0,.int .i64 c]::seen.map iE/\rho l y0=y:=by
  unfold zak6 at h;split at h
  .rename_i hp;rw[h]at hp;simp[pureEs,zn6,A.pure1]at hp
  · cases es with
    |nil=>simp at h
    |cons d es=>
      simp only[cX,fX]at h;obtain⟨h1,h2⟩:=h;rw[zcr9 h2]
      match d,h1 with
      |[a,b],h1=>
        simp only[cX,iS,fX,iA]at h1;obtain⟨h3,h4⟩:=h1;have hb:b=.int .i64 c:=by cases b<;>simp_all[ren1,ren0]
        cases a<;>simp[ren1,ren0]at h3;exact⟨_,by rw[hb],h3⟩
      |[],h1=>simp at h1
      |[_],h1=>simp at h1
      |_::_::_::_,h1=>simp at h1
theorem zaZ0{l:List (Nat×Nat)}{nx:Nat}{w:World}{W:Nat->Prop}{μ μ':Nat->Loc}(hμ:∀x,x<nx->(μ' x=μ (rho l x)\/μ' x=.dead)){v:Value}{b:A}(hid:zcE1 nx b)(h:RepP w W μ v (ren0 l b)):RepP w W μ' v b:=by
  cases b with
  |own x lo n=>
    refine⟨h.1,?_⟩;rcases hμ x hid with e|e
    .rw[e];exact h.2
    .rw[e];trivial
  |ptr x i j=>
    refine⟨h.1,?_⟩;rcases hμ x hid with e|e
    .rw[e];exact h.2
    .rw[e];trivial
  |mp x=>
    refine⟨h.1,?_⟩;rcases hμ x hid with e|e
    .rw[e];exact h.2
    .rw[e];trivial
  |it x=>
    refine⟨h.1,?_⟩;rcases hμ x hid with e|e
    .rw[e];exact h.2
    .rw[e];trivial
  |_=>exact h
theorem zak8{l:List (Nat×Nat)}{nx:Nat}{w:World}{W:Nat->Prop}{μ μ':Nat->Loc}(hμ:∀x,x<nx->(μ' x=μ (rho l x)\/μ' x=.dead)){v:Value}{b:A}(hid:zbw3 nx b)(h:RepK w W μ v (ren1 l b)):RepK w W μ' v b:=by
  cases b with
  |clo f cs=>refine h.imp (λ⟨vs,hv,hl,hr⟩=>?_) (λ⟨h1,h2,h3⟩=>⟨h1,h2,by simpa using h3⟩);exact⟨vs,hv,by simpa using hl,λ i u c hu hc=>zaZ0 hμ (hid c (cF hc)) (hr i u (ren0 l c) hu (by simp[hc]))⟩
  |own x lo n=>exact(zaZ0 (b:=.own x lo n) hμ hid (h.toP rfl)).toK
  |ptr x i j=>exact(zaZ0 (b:=.ptr x i j) hμ hid (h.toP rfl)).toK
  |mp x=>exact(zaZ0 (b:=.mp x) hμ hid (h.toP rfl)).toK
  |it x=>exact(zaZ0 (b:=.it x) hμ hid (h.toP rfl)).toK
  |_=>exact h
theorem St.le_of{E:Env}(l:List (Nat×Nat)){st st':St}(h:Le l st st')(hk:zaz7 E.k0 l st'.nx=true):St.le E st st':=by
  intro a w ⟨W,μ,hs⟩;obtain⟨hF,hM,hD⟩:=h;simp only[zaz7,bM]at hk;obtain⟨hk1,hk2⟩:=hk;have hk2:E.k0<=st'.nx:=eZ hk2
  let μ':Nat->Loc:=λ x=>if st'.nx<=x then .fresh else match look st'.mem x with|some _=>μ (rho l x)|none=>.dead
  have hμ:∀x,x<st'.nx->(μ' x=μ (rho l x)\/μ' x=.dead):=λ x hx=>by
    show(if st'.nx<=x then Loc.fresh else _)=_\/(if st'.nx<=x then Loc.fresh else _)=_;rw[bN (by omega)];cases look st'.mem x with
    |none=>exact .inr rfl
    |some r=>exact .inl rfl
  have hat:∀x k,μ' x=.at_ k->μ (rho l x)=.at_ k/\∃r,look st'.mem x=some r:=λ x k hx=>by
    have hx':(if st'.nx<=x then Loc.fresh else match look st'.mem x with|some _=>μ (rho l x)|none=>.dead)=.at_ k:=hx;split at hx'
    .cases hx'
    · split at hx'
      .rename_i r hr;exact⟨hx',r,hr⟩
      .cases hx'
  refine⟨W,μ',{hs with fr:=λ t=>?_,mem:=λ x=>?_,inj:=λ x y k k' hx hy he=>?_,live:=λ x k hx=>hs.live _ k (hat x k hx).1,fix:=λ x hx=>?_}⟩
  · show Rep w W μ' _ (st'.slot t)
    simp only[St.slot];cases hl:look st'.fr t with
    |none=>trivial
    |some v=>
      obtain⟨h1,h2⟩:=zdt5 hF t v hl;have hr:=hs.fr t;rw[show st.toS.fr t=st.slot t from rfl,h1]at hr;simp only[Option.getD_some];cases v with
      |agg cs=>
        simp only[ren,idOk]at hr h2;split at hr
        · rename_i hp
          obtain⟨vs,hv,hlen,hc⟩:=hr;exact⟨vs,hv,hlen,λ i u c hu hc'=>zp1 ((hc i u c hu hc').toC (zap8 hp c (cF hc')))⟩
        · rename_i hp
          rw[bN hp]at h2;obtain⟨vs,hv,hlen,hc⟩:=hr;exact⟨vs,hv,by simpa using hlen,λ i u c hu hc'=>zak8 hμ (h2 c (cF hc')) (hc i u _ hu (by simp[hc']))⟩
      |clo f cs=>exact zp2 (zo1 (zak8 (b:=.clo f cs) hμ h2 hr))
      |tup cs=>exact h2.elim
      |cnd g b=>exact h2.elim
      |any=>trivial
      |bool b=>exact zp2 (zo1 (zak8 (b:=.bool b) hμ h2 hr))
      |int k n=>exact zp2 (zo1 (zak8 (b:=.int k n) hμ h2 hr))
      |str b=>exact zp2 (zo1 (zak8 (b:=.str b) hμ h2 hr))
      |sl es=>exact zp2 (zo1 (zak8 (b:=.sl es) hμ h2 hr))
      |full es=>exact zp2 (zo1 (zak8 (b:=.full es) hμ h2 hr))
      |bnd f cs=>exact zp2 (zo1 (zak8 (b:=.bnd f cs) hμ h2 hr))
      |own x lo n=>exact zp2 (zo1 (zak8 (b:=.own x lo n) hμ h2 hr))
      |ptr x i j=>exact zp2 (zo1 (zak8 (b:=.ptr x i j) hμ h2 hr))
      |mp x=>exact zp2 (zo1 (zak8 (b:=.mp x) hμ h2 hr))
      |it x=>exact zp2 (zo1 (zak8 (b:=.it x) hμ h2 hr))
      |rd cs off=>exact zp2 (zo1 (zak8 (b:=.rd cs off) hμ h2 hr))
  · show zau0 w W μ' x (st'.m x)
    unfold St.m
    by_cases hx:st'.nx<=x
    · rw[bO hx]
      show(if st'.nx<=x then Loc.fresh else _)=_;rw[bO hx]
    · rw[bN hx]
      cases hl:look st'.mem x with
      |none=>show(if st'.nx<=x then Loc.fresh else match look st'.mem x with|some _=>μ (rho l x)|none=>.dead)=_;rw[bN hx,hl]
      |some r=>
        obtain⟨⟨r',h1,hro,hsz,hes,hzz⟩,h2,h3,h4⟩:=zdt6 hM x r hl;have hm:=hs.mem (rho l x);rw[show st.toS.mem (rho l x)=MS.row r' by show st.m _=_;unfold St.m;rw[bN (by omega),h1]]at hm;have hμx:μ' x=μ (rho l x):=by show(if st'.nx<=x then Loc.fresh else match look st'.mem x with|some _=>μ (rho l x)|none=>.dead)=_;rw[bN hx,hl]
        rcases hm with⟨e1,e2,e3⟩|⟨k,e1,⟨e2,e3,e4,us,rest,e,e5,e6,e7⟩|eM|eI⟩
        · refine .inl ⟨hμx.trans e1,?_,by omega⟩
          rw[hes]at e2;simp only[zak6]at e2;split at e2
          .exact e2
          .exact gZ.1 e2
        · refine .inr ⟨k,hμx.trans e1,.inl ⟨λ hr=>e2 (hro.elim (λ h=>by rw[hr]at h;cases h) (λ h=>h)),e3.trans hsz,by omega,us,rest,e,e5,e6,?_⟩⟩
          rw[hes,hsz]at e7;exact zcZ7 e7 h4 (λ u b hid hr=>zak8 hμ hid hr) (λ u b hp hr=>zp1 (hr.toC hp))
        · have hp:=eM.pure
          have e9:r'.es=r.es:=by rw[hes];exact zcS1 (hes▸hp)
          obtain⟨e2,e3,e4,es,e5,e6,e7⟩:=eM;rw[e9]at e6 e7;rw[hzz (hsz▸e4)]at e7;exact .inr ⟨k,hμx.trans e1,.inr (.inl ⟨λ hr=>e2 (hro.elim (λ h=>by rw[hr]at h;cases h) (λ h=>h)),e3.trans hsz,hsz▸e4,es,e5,e6,e7⟩)⟩
        · obtain⟨e2,e3,e4,ez,y,b,c,seen,e5,e6,e7⟩:=eI
          obtain⟨y0,g1,g2⟩:=zdt7 (hes.symm.trans e5);subst g2;have hid:y0<st'.nx:=by rw[g1]at h4;unfold idEs at h4;rw[bN (by simp[pureEs,zn6,A.pure1])]at h4;exact h4 _ (.head _) _ (.head _)
          exact .inr ⟨k,hμx.trans e1,.inr (.inr ⟨λ hr=>e2 (hro.elim (λ h=>by rw[hr]at h;cases h) (λ h=>h)),e3.trans hsz,hsz▸e4,by rw[<-hzz (hsz▸e4)];exact ez,y0,b,c,seen,g1,zaZ0 (b:=.mp y0) hμ hid e6,e7⟩)⟩
  · obtain⟨h1,r1,h2⟩:=hat x k hx
    obtain⟨h3,r2,h4⟩:=hat y k' hy;exact zbd8 hD x y r1 r2 h2 h4 (hs.inj _ _ k k' h1 h3 he)
  · have h1:=zcZ9 hk1 x hx
    rcases hμ x (by omega)with e|e
    .rw[e,h1];exact hs.fix x hx
    .exact .inr e
end
end Ab
end Go.Proofs.YtdlfhmkmnjbihaaGreatDoor
