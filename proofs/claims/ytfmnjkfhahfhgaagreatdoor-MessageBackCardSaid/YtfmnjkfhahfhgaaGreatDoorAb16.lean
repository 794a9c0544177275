import Derived.Test.YtfmnjkfhahfhgaaGreatDoorAb14
import Derived.Lib.SliceRun
import Derived.Scope
namespace Go.Proofs.YtfmnjkfhahfhgaaGreatDoor
namespace Ab
set_option linter.defProp false
set_option linter.unusedSimpArgs false
set_option linter.unusedVariables false
def St.m_row{st:St}{x:Nat}{r:Row}(h:st.m x=.row r):x<st.nx:=by
  unfold St.m at h;split at h
  .cases h
  .omega
def St.m_nx(st:St):st.m st.nx=.fresh:=by simp[St.m]
def Mw(nx:Nat)(r:Row):mwOk nx [(nx,.row r)]:=⟨dG _,by simp,trivial⟩
def FH{nx y:Nat}{q:MS}{r:List (Nat×MS)}(h:y<nx)(H:q≠.fresh)(O:mwOk nx r):mwOk nx ((y,q)::r):=
  ⟨jA h,H,by rw[bX (by simp only;omega)];exact O⟩
def IK{nx:Nat}:∀{x y:List (Nat×MS)},(∀q∈x,q.1<nx/\q.2≠.fresh)->mwOk nx y->mwOk nx (x++y)
  |[],_,_,h=>h
  |q::x,y,K,h=>FH (K q (.head _)).1 (K q (.head _)).2 (IK (λ p H=>K p (.tail _ H)) h)
def Qv{st:St}{B:PO}{O:List A}{Y:Ef}(H:ev st.nx st.m B O=some Y):mwOk st.nx Y.mw:=by
  unfold ev at H
  (repeat' split at H)
  all_goals first
    |(cases H;done)
    |(cases H;first
        |trivial
        |exact Mw _ _
        |exact FH (St.m_row (by assumption)) (by simp) trivial)
    |(simp only[cO]at H;obtain⟨q,_,rfl⟩:=H;trivial)
    |(simp only[gT]at H;obtain⟨new,U,l,K,H⟩:=H;cases H;trivial)
    | (simp only[gT]at H;obtain⟨new,U,H⟩:=H
       (repeat' split at H)<;>cases H<;>first
         |trivial
         |exact Mw _ _
         |exact FH (St.m_row (by assumption)) (by simp) trivial
         |exact FH (St.m_row (by assumption)) (by simp) (Mw _ _))
def IL{m:Nat->MS}:∀{xs:List Nat},∀q∈oE m xs,(∃r,m q.1=.row r)/\q.2≠.fresh
  |x::xs,q,h=>by
    unfold oE at h;split at h
    · rename_i r H
      rcases cL.1 h with rfl|h
      .exact⟨⟨r,H⟩,by simp⟩
      .exact IL q h
    .exact IL q h
def YS(st:St)(xs:List Nat):mwOk st.nx (oE st.m xs):=by have:=IK (nx:=st.nx) (x:=oE st.m xs) (y:=[]) (λ q H=>let⟨⟨r,O⟩,U⟩:=IL q H;⟨St.m_row O,U⟩) trivial;rwa [eE]at this
def C0(st:St)(H:List A)(r:A):mwOk st.nx (nW st.m H r):=by
  unfold nW;split
  .trivial
  .exact YS st _
def IM(st:St)(d:Option Nat)(v:A)(mw:List (Nat×MS))(h:mwOk st.nx mw):(st.app d v mw).toS=⟨setF st.slot d v,setM st.m mw⟩:=by simp only[St.toS,Qt];congr 1;exact Mv mw st.fr st.mem st.nx h _
section
variable {C:Cx} {o:Oper} {a:Act} {E:Env} {st:St} {w:World} {W:Nat→Prop} {μ:Nat→Loc}
def qG.ro{r:Row}{k:Blk}(h:qG w W μ r k):qG w W μ ⟨true,r.sz,r.z,r.es⟩ k:=by
  rcases h with h|h|h
  .exact .inl ⟨by simp,h.2⟩
  .exact .inr (.inl ⟨by simp,h.2⟩)
  .exact .inr (.inr ⟨by simp,h.2⟩)
def FI:∀H:List PX,mV C st H=nO C st.slot H
  |[]=>rfl
  |p::H=>by simp only[mV,nO,FI H]
def IN:∀H:List PX,pN C st H=gdsF C st.slot H
  |[]=>rfl
  |p::H=>by simp only[pN,gdsF,IN H]
def YT(g:Option (Nat×Bool)):pX st g=oP st.slot g:=by cases g<;>rfl
def xH{s:S}(O:SatW E s a w W μ)(hG:E.G=C.G):∀(ps:List PX) (H:List Operand),nA H ps=true->gdsF C s.fr ps->Vals w W μ a H (nO C s.fr ps)
  |[],[],_,_=>⟨rfl,by simp⟩
  |p::ps,x::xs,h,hg=>by
    simp only[nA,bY]at h;obtain⟨U,Y⟩:=xH O hG ps xs h.2 hg.2;refine⟨by simp[nO,U],λ i y v K L=>?_⟩;cases i with
    |zero=>simp[nO]at K L;subst K;subst L;have:=FB O h.1;rw[hG]at this;exact Iw this hg.1
    |succ i=>simp[nO]at K L;exact Y i y v K L
  |[],_::_,h,_=>by simp[nA]at h
  |_::_,[],h,_=>by simp[nA]at h
def Qw(fr:Nat->A):∀H:List PX,(nO C fr H).length=H.length
  |[]=>rfl
  |_::H=>by simp[nO,Qw fr H]
def sC(W:Nat->Prop)(μ:Nat->Loc)(ids:List Nat):Nat->Prop:=λ b=>W b/\¬∃x k,x∈ids/\μ x=.at_ k/\k.b=b
def RepC.less{v:Value}{x:A}{ids:List Nat}(h:RepC w W v x):RepC w (sC W μ ids) v x:=
  h.keep (Keeps.refl (λ _=>False) w) (λ _ _ _ h=>h) (λ _ _ h H=>h H.1)
def Mx{s:S}(hs:SatW E s a w W μ){v:Value}{x:A}{ids:List Nat}(h:RepK w W μ v x)(H:sM s.mem x)(h0:∀y∈qY x,y∈ids):RepC w (sC W μ ids) v (frz1 s.mem x):=by
  cases x with
  |own y lo n=>
    simp only[sM]at H;cases K:s.mem y with
    |fresh=>simp[K]at H
    |dead=>simp[K]at H
    |row r=>
      simp only[K]at H;obtain⟨v0,U⟩:=H;simp only[frz1,K];have L:((r.es.drop lo).take n).length=n:=by simp;omega
      rcases hs.own (nG (nL h)) K with⟨rfl,ad,rfl⟩|⟨k,p0,h5,h6,h7,h8,h9,F⟩
      .rw[show(r.es.drop lo).take 0=[]by simp];exact .sl0 _ _
      · obtain⟨_,M,z0,x0,u0,e,O,V,hf⟩:=F
        rw[h6];have Y:=(hf.drop lo).take n
        conv=>arg 3;rw[show n=((r.es.drop lo).take n).length from L.symm]
        refine RepC.mk_sl (sz:=r.sz) (us:=(x0.drop (lo*r.sz)).take (n*r.sz)) (λ hW=>hW.2 ⟨y,k,h0 y (by simp[qY]),h5,rfl⟩) (cU.1 O).1 om ?_ ?_
        · refine⟨Y.hl,Y.hs,λ i c j b Z hb=>?_⟩
          obtain⟨u,hu,y0⟩:=Y.ha i c j b Z hb;exact⟨u,hu,(y0.toC (U c (cV Z) b (cV hb))).less⟩
        · intro q u B
          rw[eA]at B;split at B
          · rw[eG]at B
            simp only[World.cell?,O,M,oc,bZ,cI,fO];rw[dX (cK.1 B).1,B]
          .cases B
  |_=>exact(h.toC H).less
def zJ:∀{H:List A},mK H=true->∀c∈H,c.pure1=true
  |c::H,h,d,hd=>by
    simp only[mK,bY]at h;rcases cL.1 hd with rfl|hd
    .exact h.1
    .exact zJ h.2 d hd
def My{s:S}(L:SatW E s a w W μ){v:Value}{x:A}{ids:List Nat}(h:Rep w W μ v x)(H:rK s.mem x)(U:∀y∈tH x,y∈ids):RepV w (sC W μ ids) qX v (frz s.mem x):=by
  cases x with
  |agg O=>
    obtain⟨vs,rfl,K,B⟩:RepV w W μ v (.agg O):=h
    by_cases F:mK O=true
    · simp only[frz,F,cH]
      exact⟨vs,rfl,K,λ i u b M hb=>nN ((B i u b M hb).toC (zJ F b (cV hb))).less⟩
    · simp only[frz,rK,tH,F]at H U|-
      refine⟨vs,rfl,by simp[K],λ i u b M hb=>?_⟩;simp only[cW,cO]at hb;obtain⟨c,V,rfl⟩:=hb;have Y:=cV V;exact nN (Mx L (B i u c M V) (H c Y) (λ y Z=>U y (fM.2 ⟨c,Y,Z⟩)))
  |clo f O=>have:O=[]:=H;subst this;exact(show RepV w W μ v (.clo f [])from h).imp (λ⟨vs,hv,K,B⟩=>⟨vs,hv,K,by simp⟩) id
  |any=>simp[rK,sM,A.pure1]at H
  |tup O=>simp[rK,sM,A.pure1]at H
  |cnd g b=>simp[rK,sM,A.pure1]at H
  |ptr y i j=>simp[rK,sM,A.pure1]at H
  |mp y=>simp[rK,sM,A.pure1]at H
  |it y=>simp[rK,sM,A.pure1]at H
  |rd O h0=>simp[rK,sM,A.pure1]at H
  |own y lo n=>exact nL (nN (Mx L (show RepK w W μ v (.own y lo n)from h) H U))
  |bnd f O=>exact nL (nN (RepC.less (show RepC w W v (.bnd f O)from h)))
  |bool b=>exact nL (nN (RepC.less (show RepC w W v (.bool b)from h)))
  |int k n=>exact nL (nN (RepC.less (show RepC w W v (.int k n)from h)))
  |str b=>exact nL (nN (RepC.less (show RepC w W v (.str b)from h)))
  |sl es=>exact nL (nN (RepC.less (show RepC w W v (.sl es)from h)))
  |full es=>exact nL (nN (RepC.less (show RepC w W v (.full es)from h)))
def Qx(m:Nat->MS):∀{H:List A} (i:Nat) (b:A),(oT m H)[i]? =some b->∃x,H[i]? =some x/\b=frz m x
  |[],i,b,h=>by simp[oT]at h
  |x::xs,i,b,h=>by
    cases i with
    |zero=>simp[oT]at h;exact⟨x,rfl,h.symm⟩
    |succ i=>simp[oT]at h;exact Qx m i b h
def Qy{m:Nat->MS}:∀{H:List A},pM m H->∀x∈H,rK m x
  |x::xs,h,y,hy=>by
    rcases cL.1 hy with rfl|hy
    .exact h.1
    .exact Qy h.2 y hy
def Qz:∀{H:List A} {x:A},x∈H->∀y∈tH x,y∈qZ H
  |z::zs,x,hx,y,K=>by
    simp only[qZ,cY];rcases cL.1 hx with rfl|hx
    .exact .inl K
    .exact .inr (Qz hx y K)
def QA(m:Nat->MS):∀H:List A,(oT m H).length=H.length
  |[]=>rfl
  |_::xs=>by simp[oT,QA m xs]
def IP(m:Nat->MS):∀(ids:List Nat) (O:Nat->MS) (x:Nat),setM O (oE m ids) x=if x∈ids then(match m x with|.row r=>.row ⟨true,r.sz,r.z,r.es⟩|_=>O x)else O x
  |[],O,x=>by simp[oE,setM]
  |y::ys,O,x=>by
    unfold oE;split
    · rename_i r Y
      simp only[setM];rw[IP m ys]
      by_cases U:x∈ys
      · simp only[U,cH,cL,or_true]
        by_cases H:x=y
        .subst H;simp[Y]
        .cases m x<;>simp[H]
      · simp only[U,cI,cL,iI]
        by_cases H:x=y
        .subst H;simp[Y]
        .simp[H]
    · rename_i Y
      rw[IP m ys]
      by_cases U:x∈ys
      .simp[U]
      · simp only[U,cI,cL,iI]
        split
        · rename_i H
          subst H;split
          .rename_i r B;exact absurd B (Y r)
          .rfl
        .rfl
def YU{s:S}(K:SatW E s a w W μ){w':World}(F:Keeps (λ _=>False) w w')(ids:List Nat):Step s.mem (setM s.mem (oE s.mem ids)) w w' W (sC W μ ids) μ μ where
  keeps:=F.mono λ _ _ h=>h.elim
  hW:=λ _ _ h=>h.1
  wsup:=λ b hb=>by
    by_cases h:∃x k,x∈ids/\μ x=.at_ k/\k.b=b
    .obtain⟨x,k,_,O,L⟩:=h;exact .inr ⟨x,k,O,L⟩
    .exact .inl ⟨hb,h⟩
  wlt0:=K.wlt
  wlt:=λ b h=>eK (K.wlt b h.1) F.size
  old:=Old.refl μ
  mem:=λ x=>by
    rw[IP];have hm:=K.mem x;have x0:∀(r:Row) (k:Blk),qG w W μ r k->(r.ro=false->¬x∈ids)->μ x=.at_ k->qG w' (sC W μ ids) μ r k:=λ r k y0 V h0=>by
      rcases y0 with⟨U,O,L,us,z0,e,M,Z,h6⟩|⟨U,O,L,es,M,Z,h6⟩|⟨U,O,L,hz,y,b,c,u0,Z,h6,M⟩
      rotate_left
      · refine .inr (.inl ⟨λ H=>⟨U H,λ⟨y,ky,hy,Y,B⟩=>V H (K.inj y x ky k Y h0 B▸hy)⟩,O,L,es,?_,Z,λ i e c p q=>(h6 i e c p q).keep F (λ _ _ _ h=>h) (λ _ _ h O=>h O.1)⟩)
        rw[F.block k.b (cU.1 M).1 (λ h=>h)];exact M
      · refine .inr (.inr ⟨λ H=>⟨U H,λ⟨y,ky,hy,Y,B⟩=>V H (K.inj y x ky k Y h0 B▸hy)⟩,O,L,hz,y,b,c,u0,Z,h6.goes F (λ _ _ _ h=>h) (λ _ _ h O=>h O.1) (Old.refl μ),?_⟩)
        rw[F.block k.b (cU.1 M).1 (λ h=>h)];exact M
      refine .inl ⟨λ H=>⟨U H,λ⟨y,ky,hy,Y,B⟩=>V H (K.inj y x ky k Y h0 B▸hy)⟩,O,L,us,z0,e,?_,Z,h6.mono λ u b H=>H.goes F (λ _ _ _ h=>h) (λ _ _ h O=>h O.1) (Old.refl μ)⟩;rw[F.block k.b (cU.1 M).1 (λ h=>h)];exact M
    split
    · rename_i V
      cases H:s.mem x with
      |fresh=>rw[H]at hm;exact hm
      |dead=>rw[H]at hm;exact hm
      |row r=>
        rw[H]at hm;rcases hm with U|⟨k,U,O⟩
        .exact .inl U
        .exact .inr ⟨k,U,x0 ⟨true,r.sz,r.z,r.es⟩ k O.ro (by simp) U⟩
    · rename_i V
      cases H:s.mem x with
      |fresh=>rw[H]at hm;exact hm
      |dead=>rw[H]at hm;exact hm
      |row r=>
        rw[H]at hm;rcases hm with U|⟨k,U,O⟩
        .exact .inl U
        .exact .inr ⟨k,U,x0 r k O (λ _=>V) U⟩
  inj:=K.inj
  live:=λ x k h=>.inl ⟨x,k,h,rfl⟩
def QB:Old qX μ:=λ x h=>absurd rfl h
def YV{W':Nat->Prop}{v:Value}{r:A}(h:Rep w W qX v r)(O:r.scal=true):Rep w W' μ v r:=by
  have Y:∀{u:Value} {b:A},b.scal1=true->RepK w W qX u b->RepK w W' μ u b:=λ{u b} hb K=>by
    cases b<;>simp[A.scal1]at hb
    · have:RepC w W u _:=K
      cases this;exact nN (.bool _)
    · have:RepC w W u _:=K
      cases this;exact nN (.int _ _)
    · have:RepC w W u _:=K
      cases this;exact nN (.str _)
  have B:∀{H:List A},nB H=true->∀c∈H,c.scal1=true:=λ{H}=>by
    induction H with
    |nil=>simp
    |cons d ds F=>
      intro h c hc;simp only[nB,bY]at h;rcases cL.1 hc with rfl|hc
      .exact h.1
      .exact F h.2 c hc
  have L:∀{u:Value} {b:A},b.scal2=true->RepV w W qX u b->RepV w W' μ u b:=λ{u b} hb K=>by
    cases b with
    |agg H=>obtain⟨vs,V,Z,O⟩:=K;exact⟨vs,V,Z,λ i u c M U=>Y (B hb c (cV U)) (O i u c M U)⟩
    |bool b=>exact nL (Y hb K)
    |int k n=>exact nL (Y hb K)
    |str b=>exact nL (Y hb K)
    |_=>simp[A.scal2,A.scal1]at hb
  have h0:∀{H:List A},FF H=true->∀c∈H,c.scal2=true:=λ{H}=>by
    induction H with
    |nil=>simp
    |cons d ds F=>
      intro h c hc;simp only[FF,bY]at h;rcases cL.1 hc with rfl|hc
      .exact h.1
      .exact F h.2 c hc
  cases r with
  |tup as=>obtain⟨vs,V,Z,x0⟩:=h;exact⟨vs,V,Z,λ i u c M U=>L (h0 O c (cV U)) (x0 i u c M U)⟩
  |any=>trivial
  |cnd g b=>simp[A.scal,A.scal2,A.scal1]at O
  |agg H=>exact nG (L O h)
  |bool b=>exact nG (L O h)
  |int k n=>exact nG (L O h)
  |str b=>exact nG (L O h)
  |_=>simp[A.scal,A.scal2,A.scal1]at O
def QC{f:FuncId}{s:S}(O:SatW E s a w W μ)(hG:E.G=C.G){vs:List Value}{H:List A}(hl:vs.length=H.length)(hV:∀(i:Nat) (v:Value) (x:A),vs[i]? =some v->H[i]? =some x->Rep w W μ v x)
    (B:pM s.mem H) {r:A} (hf:PFn C f (oT s.mem H) r):
    Calls C.P f vs.toArray w λ e w'=>∃v W',e=.returned v/\Rep w' W' μ v r/\Step s.mem (setM s.mem (nW s.mem H r)) w w' W W' μ μ:=by
  have K:zB w (sC W μ (qZ H)) C.G:=λ g cs hg=>by obtain⟨h1,h2,h3⟩:=O.glob g cs (hG▸hg);exact⟨λ h=>h1 h.1,h2,λ j b hj=>let⟨u,hu,Y⟩:=h3 j b hj;⟨u,hu,Y.less⟩⟩
  have:=hf w (sC W μ (qZ H)) vs K (λ b h=>O.wlt b h.1) (by rw[QA];exact hl) (λ i v b hv hb=>by
    obtain⟨x,L,rfl⟩:=Qx _ i b hb;have U:=cV L;exact My O (hV i v x hv L) (Qy B x U) (Qz U))
  refine this.mono λ e w' ⟨v,V,Z,Y⟩=>?_;have F:Rep w' (sC W μ (qZ H)) μ v r:=Y.goes (Keeps.refl (λ _=>False) w') (λ _ _ _ h=>h) (λ _ _ h=>h) QB;unfold nW;split
  · rename_i M
    exact⟨v,W,V,YV Y M,Step.quiet Z O.mem O.inj O.wlt⟩
  .exact⟨v,_,V,F,YU O Z _⟩
def YW{s:S}(hs:SatW E s a w W μ){Y:Array Oper}{o:Oper}{g:Option (Nat×Bool)}{b:Bool}
    (hg:match g,o.guard with|none,none=>True|some q,some p=>p.2=q.2/\(Y[p.1]?).bind (·.dst)=some q.1|_,_=>False) (h:oP s.fr g=some b):Region.wanted o (yielded Y a.tmps)=b:=by
  cases g with
  |none=>
    cases L:o.guard with
    |none=>simp[oP]at h;subst h;simp[Region.wanted,L]
    |some p=>simp[L]at hg
  |some q=>
    cases L:o.guard with
    |none=>simp[L]at hg
    |some p=>
      simp only[L]at hg;obtain⟨Z,h2⟩:=hg;obtain⟨j,U⟩:=p;obtain⟨t,M⟩:=q;simp only at Z h2;subst Z;have O:=hs.fr t;simp only[Region.wanted,L,yielded,h2,qm];simp only[oP]at h;have B:∀v,a.tmps.getD t undef=.bool v->a.tmps[t]? =some (.bool v):=λ v K=>by
        rw[gE]at K;cases V:a.tmps[t]? with
        |none=>rw[V]at K;simp[undef]at K
        |some u=>rw[V]at K;simp at K;rw[K]
      split at h
      · rename_i v K
        simp only[cJ]at h;subst h;have H:Rep w W μ (a.tmps.getD t undef) (.bool v):=by rw[K]at O;exact O
        rw[B v H.bool];cases v<;>cases U<;>rfl
      · rename_i g' v K
        simp only[cJ]at h;subst h;have H:Rep w W μ (a.tmps.getD t undef) (.cnd g' (.bool v)):=by rw[K]at O;exact O
        cases g' with
        |true=>rw[B v (Rep.bool (nG (H.1 rfl)))];cases v<;>cases U<;>rfl
        |false=>
          have F:=H.2 rfl;rw[gE]at F;cases V:a.tmps[t]? with
          |none=>rfl
          |some u=>rw[V]at F;simp at F;subst F;rfl
      .cases h
def Oper.wp_of_yields{m':Nat->MS}{av:A}{Q:Exit->Act->World->Prop}{k:Act->World->Prop}{s:S}(_hs:SatW E s a w W μ)(h:mN C.P o a w W μ s.mem av m')
    (Y:∀v w' W' μ',Rep w' W' μ' v av->Step s.mem m' w w' W W' μ μ'->k (a.put o.dst v) w'):o.wp C.P a w k Q:=by
  obtain⟨r,v,w',W',μ',O,B,H,U⟩:=h;unfold Oper.wp;rw[O];rcases B with rfl|⟨rfl,rfl⟩
  .exact Y v w' W' μ' H U
  .exact Y undef w' W' μ' H U
structure POk (C:Cx) (N:Nat) (ops:Array Oper) (o:Oper) (p:POp):Prop where
  dst:o.dst=p.dst
  lt:∀d,p.dst=some d->d<N
  g:match p.g,o.guard with|none,none=>True|some q,some r=>r.2=q.2/\(ops[r.1]?).bind (·.dst)=some q.1|_,_=>False
  op:tZ C.P o.op p.po p.xs=true
def Rep.toVV{v:Value}{x:A}(h:Rep w W μ v x)(H:x.isVV=true):RepV w W μ v x:=by cases x<;>first|exact h|(simp[A.isVV]at H)
def q5{α:Type}:∀(l m:List (Nat×α)) (x:Nat),look (l++m) x=(look l x).or (look m x)
  |[],m,x=>by simp[look]
  |q::l,m,x=>by
    simp only[Jm,look];split
    .rfl
    .exact q5 l m x
def FJ{α:Type}:∀{l:List (Nat×α)} {x:Nat},(∀q∈l,q.1≠x)->look l x=none
  |[],_,_=>rfl
  |q::l,x,h=>by simp only[look];rw[bX (h q (.head _))];exact FJ λ p H=>h p (.tail _ H)
def q6:∀(n k nx x:Nat),look (newL k nx n) x=if k<=x/\x<k+n then some (nx+(x-k))else none
  |0,k,nx,x=>by simp only[newL,look];rw[bX om]
  |n+1,k,nx,x=>by
    simp only[newL,look]
    by_cases h:k=x
    .subst h;rw[cB rfl,cB om];simp
    · rw[bX h,q6 n (k+1) (nx+1) x]
      by_cases H:k+1<=x/\x<k+1+n
      .rw[cB H,cB om];congr 1;omega
      .rw[bX H,bX om]
def Mz{α:Type}{ms:List (Nat×α)}:∀{k:Nat},p9 ms k=true->∀x,x<k->∃r,look ms x=some r
  |k+1,h,x,K=>by
    simp only[p9,bY]at h
    by_cases H:x=k
    .subst H;exact iK.1 h.1
    .exact Mz h.2 x om
def C1{α:Type}:∀{l:List (Nat×α)} {x:Nat} {v:α},look l x=some v->(x,v)∈l
  |q::r,x,v,h=>by
    simp only[look]at h;split at h
    .rename_i H;cases h;subst H;exact .head _
    .exact .tail _ (C1 h)
def MA{α:Type}:∀{l:List (Nat×α)} {f:Nat->Nat},AS (l.map λ q=>f q.1)=true->∀x y r H,look l x=some r->look l y=some H->f x=f y->x=y
  |q::rest,f,h,x,y,r,H,K,L,V=>by
    simp only[dO,AS,bY,dA,jY,dF]at h;simp only[look]at K L;split at K<;>split at L
    .omega
    · rename_i O U
      exact absurd (cS.2 ⟨(y,H),C1 L,by rw[O];exact V.symm⟩) h.1
    · rename_i O U
      exact absurd (cS.2 ⟨(x,r),C1 K,by rw[U];exact V⟩) h.1
    .exact MA h.2 x y r H K L V
def C2{m:Nat->MS}{l:List (Nat×Nat)}{k:Nat}{Y:List Nat}:∀{ms:List (Nat×Row)},CZ m l k Y ms->∀x r,(x,r)∈ms->
    (∃H,m (rho l x)=.row H/\H.ro=false/\H.sz=r.sz/\H.es=pY l r.es)/\r.ro=false/\x<k/\idEs k r.es/\rho l x∉Y/\0<r.sz
  |q::rest,h,x,r,hx=>by
    obtain⟨O,B,F,M,K,L,V⟩:=h;rcases cL.1 hx with rfl|hx
    · refine⟨?_,B,F,M,by simpa using K,fP L⟩
      split at O
      .rename_i H U;exact⟨H,U,O⟩
      .exact O.elim
    .exact C2 V x r hx
def QD{nx:Nat}:∀{H:List A},IJ nx H->∀c∈H,xF nx c
  |_::_,h,_,.head _=>h.1
  |_::_,h,c,.tail _ K=>QD h.2 c K
def YX{H:List A}(h:(A.agg H).hands=true):mK H=false:=by simpa [A.hands]using h
def QE{m:Nat->MS}{l:List (Nat×Nat)}{k:Nat}:∀{H as:List A},zH m l k H as->∀(i:Nat) (a:A),as[i]? =some a->∃v,H[i]? =some v/\argM m l k v a/\(a.hands=false->∀y∈tH v,y∈fzM H as)
  |v::vs,a::as,h,i,b,hb=>by
    cases i with
    |zero=>simp at hb;subst hb;refine⟨v,rfl,h.1,λ O y K=>?_⟩;simp only[fzM,O,bZ,cI];exact dV _ K
    |succ i=>obtain⟨u,U,Y,B⟩:=QE h.2 i b (by simpa using hb);exact⟨u,by simpa using U,Y,λ O y K=>by simp only[fzM];exact dK _ (B O y K)⟩
  |[],[],_,i,b,hb=>by simp at hb
  |_::_,[],h,_,_,_=>h.elim
  |[],_::_,h,_,_,_=>h.elim
def QF{m:Nat->MS}{l:List (Nat×Nat)}{k:Nat}:∀{H as:List A},zH m l k H as->H.length=as.length
  |v::vs,a::as,h=>by simp[QF h.2]
  |[],[],_=>rfl
  |_::_,[],h=>h.elim
  |[],_::_,h=>h.elim
def QG(m:Nat->MS):∀(x y:List (Nat×MS)),setM m (x++y)=setM (setM m x) y
  |[],_=>rfl
  |q::x,y=>by simp only[Jm,setM];exact QG _ x y
def MB{L:List (Nat×Nat)}{ms':List (Nat×Row)}{y:Nat}:∀{ids:List Nat} {m:Nat->MS},(∀x∈ids,rho L x≠y)->setM m (pO L ms' ids) y=m y
  |[],m,_=>rfl
  |x::ids,m,h=>by simp only[pO,setM];rw[MB λ z H=>h z (.tail _ H)];exact bX λ e=>h x (.head _) e.symm
def QH{L:List (Nat×Nat)}{ms':List (Nat×Row)}{x:Nat}:∀{ids:List Nat} {m:Nat->MS},x∈ids->(∀z∈ids,rho L z=rho L x->z=x)->
    setM m (pO L ms' ids) (rho L x)=entM L (look ms' x)
  |y::ids,m,hx,K=>by
    simp only[pO,setM]
    by_cases h:x∈ids
    .exact QH h λ z H=>K z (.tail _ H)
    · rcases cL.1 hx with rfl|hx
      .rw[MB λ z H e=>h (K z (.tail _ H) e▸H),cB rfl]
      .exact absurd hx h
def MC:∀{es:List (List A)},pureEs es=true->∀c∈es,mK c=true
  |d::ds,h,c,hc=>by
    simp only[pureEs,bY]at h;rcases cL.1 hc with rfl|hc
    .exact h.1
    .exact MC h.2 c hc
def RepC.pure{v:Value}{a:A}(h:RepC w W v a):a.pure1=true:=by cases h<;>rfl
def RepY.pure{v:Value}{a:A}(h:RepY w W v a):a.pure1=true:=by
  cases a with
  |agg H=>rfl
  |_=>exact RepC.pure h
def QI:∀{H:List A},(∀(i:Nat) (a:A),H[i]? =some a->a.pure1=true)->mK H=true
  |[],_=>rfl
  |a::H,h=>by simp only[mK,bY];exact⟨h 0 a rfl,QI λ i b hb=>h (i+1) b (by simpa using hb)⟩
def QJ:∀{es:List (List A)},(∀(i:Nat) (c:List A),es[i]? =some c->mK c=true)->pureEs es=true
  |[],_=>rfl
  |a::cs,h=>by simp only[pureEs,bY];exact⟨h 0 a rfl,QJ λ i b hb=>h (i+1) b (by simpa using hb)⟩
def zA.pure{r:Row}{k:Blk}(h:zA w W r k):pureEs r.es=true:=by
  obtain⟨_,_,_,es,Z,Y,B⟩:=h;refine QJ λ i c U=>?_;have L:i<es.size:=by rw[Y];exact(cK.1 U).1
  obtain⟨_,kk,cs,ag,rfl,_,_,F,H⟩:=B i es[i] c (fJ L) U;simp only[mK,bY];refine⟨F.pure,QI λ j a K=>?_⟩;unfold RepX at H;split at H
  · obtain⟨vs,_,O,M⟩:=H
    have V:j<vs.length:=by rw[O];exact(cK.1 K).1
    exact(M j vs[j] a (cE V) K).pure
  · obtain⟨b,rfl,O⟩:=H
    cases j with
    |zero=>simp at K;subst K;exact O.pure
    |succ n=>simp at K
def QK{R U:Value->A->Prop}{l:List (Nat×Nat)}{k sz:Nat}{us:List Value}{es:List (List A)}(h:Flat R sz us (pY l es))(H:idEs k es)
    (M:∀u a,xF k a->R u (ren1 l a)->U u a) (K:∀u a,a.pure1=true->R u a->U u a):Flat U sz us es:=by
  unfold pY at h;unfold idEs at H;split at h
  · rename_i Y
    exact⟨h.hl,h.hs,λ i c j b O hb=>let⟨u,B,F⟩:=h.ha i c j b O hb;⟨u,B,K u b (zJ (MC Y c (cV O)) b (cV hb)) F⟩⟩
  · rename_i Y
    rw[bX Y]at H;refine⟨by simpa using h.hl,λ i c O=>by simpa using h.hs i (c.map (ren1 l)) (by simp[O]),λ i c j b O hb=>?_⟩;obtain⟨u,B,F⟩:=h.ha i (c.map (ren1 l)) j (ren1 l b) (by simp[O]) (by simp[hb]);exact⟨u,B,M u b (H c (cV O) b (cV hb)) F⟩
def YY{R O:Value->A->Prop}{l:List (Nat×Nat)}{sz:Nat}{us:List Value}{es:List (List A)}(h:Flat R sz us es)
    (F:∀u a,R u a->O u (ren1 l a)) (M:∀u a,a.pure1=true->R u a->O u a):Flat O sz us (pY l es):=by
  unfold pY;split
  · rename_i K
    exact⟨h.hl,h.hs,λ i c j b H hb=>let⟨u,U,Y⟩:=h.ha i c j b H hb;⟨u,U,M u b (zJ (MC K c (cV H)) b (cV hb)) Y⟩⟩
  · refine⟨by simpa using h.hl,λ i c H=>?_,λ i c j b H hb=>?_⟩
    · simp only[cW,cO]at H
      obtain⟨d,B,rfl⟩:=H
      simpa using h.hs i d B
    · simp only[cW,cO]at H
      obtain⟨d,B,rfl⟩:=H;simp only[cW,cO]at hb;obtain⟨c,H,rfl⟩:=hb;obtain⟨u,U,Y⟩:=h.ha i d j c B H;exact⟨u,U,F u c Y⟩
section
variable {w':World} {W':Nat→Prop} {μ':Nat→Loc}
def sN{l:List (Nat×Nat)}{k:Nat}(O:∀u a,RepC w W u a->RepC w W' u a)(B:∀b,b<w.heap.size->¬W b->¬W' b)(Y:∀x,x<k->μ' x=μ (rho l x)){u:Value}{b:A}(H:FG k b)(h:RepP w W μ u (ren0 l b)):RepP w W' μ' u b:=by
  cases b with
  |own x lo n=>refine⟨h.1,?_⟩;rw[Y x H];exact h.2
  |ptr x i j=>refine⟨h.1,?_⟩;rw[Y x H];exact h.2
  |mp x=>refine⟨h.1,?_⟩;rw[Y x H];exact h.2
  |it x=>refine⟨h.1,?_⟩;rw[Y x H];exact h.2
  |rd U F=>obtain⟨b,o,L,hb,K,M⟩:=h;exact⟨b,o,L,B b K hb,K,λ j a V=>let⟨u,Z,hr⟩:=M j a V;⟨u,Z,O u a hr⟩⟩
  |bool b=>exact O _ _ h
  |int k n=>exact O _ _ h
  |str s=>exact O _ _ h
  |sl es=>exact O _ _ h
  |full es=>exact O _ _ h
  |clo f U=>exact O _ _ h
  |bnd f U=>exact O _ _ h
  |agg U=>exact(by cases(show RepC w W u (.agg U)from h))
  |tup U=>exact(by cases(show RepC w W u (.tup U)from h))
  |cnd g a=>exact(by cases(show RepC w W u (.cnd g a)from h))
  |any=>exact(by cases(show RepC w W u .any from h))
def MD{l:List (Nat×Nat)}{k:Nat}(O:∀u a,RepC w W u a->RepC w W' u a)(U:∀b,b<w.heap.size->¬W b->¬W' b)(Y:∀x,x<k->μ' x=μ (rho l x)){u:Value}{b:A}(H:xF k b)(h:RepK w W μ u (ren1 l b)):RepK w W' μ' u b:=by
  cases b with
  |clo f B=>refine h.imp (λ⟨vs,K,L,V⟩=>?_) (λ⟨Z,h2,h3⟩=>⟨Z,h2,by simpa using h3⟩);exact⟨vs,K,by simpa using L,λ i u c hu M=>sN O U Y (H c (cV M)) (V i u (ren0 l c) hu (by simp[M]))⟩
  |own x lo n=>exact(sN (b:=.own x lo n) O U Y H (h.toP rfl)).toK
  |ptr x i j=>exact(sN (b:=.ptr x i j) O U Y H (h.toP rfl)).toK
  |mp x=>exact(sN (b:=.mp x) O U Y H (h.toP rfl)).toK
  |it x=>exact(sN (b:=.it x) O U Y H (h.toP rfl)).toK
  |rd B F=>exact(sN (b:=.rd B F) O U Y H (h.toP rfl)).toK
  |bool b=>exact(sN (b:=.bool b) O U Y H (h.toP rfl)).toK
  |int k n=>exact(sN (b:=.int k n) O U Y H (h.toP rfl)).toK
  |str s=>exact(sN (b:=.str s) O U Y H (h.toP rfl)).toK
  |sl es=>exact(sN (b:=.sl es) O U Y H (h.toP rfl)).toK
  |full es=>exact(sN (b:=.full es) O U Y H (h.toP rfl)).toK
  |bnd f B=>exact(sN (b:=.bnd f B) O U Y H (h.toP rfl)).toK
  |agg B=>exact(sN (b:=.agg B) O U Y H (h.toP rfl)).toK
  |tup B=>exact(sN (b:=.tup B) O U Y H (h.toP rfl)).toK
  |cnd g a=>exact(sN (b:=.cnd g a) O U Y H (h.toP rfl)).toK
  |any=>exact(sN (b:=.any) O U Y H (h.toP rfl)).toK
def C3{L:List (Nat×Nat)}(O:∀x,μ x=.fresh\/μ' (rho L x)=μ x){u:Value}{b:A}(h:RepP w W μ u b):RepP w W μ' u (ren0 L b):=by
  cases b with
  |own x lo n=>
    refine⟨h.1,?_⟩;have H:=h.2;rcases O x with e|e
    .rw[e]at H;exact H.elim
    .rw[e];exact H
  |ptr x i j=>
    refine⟨h.1,?_⟩;have H:=h.2;rcases O x with e|e
    .rw[e]at H;exact H.elim
    .rw[e];exact H
  |mp x=>
    refine⟨h.1,?_⟩;have H:=h.2;rcases O x with e|e
    .rw[e]at H;exact H.elim
    .rw[e];exact H
  |it x=>
    refine⟨h.1,?_⟩;have H:=h.2;rcases O x with e|e
    .rw[e]at H;exact H.elim
    .rw[e];exact H
  |_=>exact h
@[go_sem] theorem YZ(L:List (Nat×Nat))(s:List Nat):(s.map iE).map (List.map (ren1 L))=s.map iE:=by simp[iE,ren1,ren0]
def Y0{L:List (Nat×Nat)}{y c:Nat}{H:List Nat}:pY L ([.mp y,.int .i64 c]::H.map iE)=[.mp (rho L y),.int .i64 c]::H.map iE:=by unfold pY;rw[bX (by simp[pureEs,mK,A.pure1]),dO,YZ];rfl
def ItOk.ren{L:List (Nat×Nat)}(O:∀x,μ x=.fresh\/μ' (rho L x)=μ x){r:Row}{k:Blk}(h:ItOk w W μ r k):ItOk w W μ' ⟨r.ro,r.sz,r.z,pY L r.es⟩ k:=by obtain⟨U,Y,B,F,y,b,c,H,M,K,V⟩:=h;exact⟨U,Y,B,F,rho L y,b,c,H,by simp only[M];exact Y0,C3 (b:=.mp y) O K,V⟩
def AT{L:List (Nat×Nat)}(H:∀x,μ x=.fresh\/μ' (rho L x)=μ x){u:Value}{b:A}(h:RepK w W μ u b):RepK w W μ' u (ren1 L b):=by
  cases b with
  |clo f cs=>refine h.imp (λ⟨vs,K,V,U⟩=>?_) (λ⟨Y,B,F⟩=>⟨Y,B,by simpa using F⟩);refine⟨vs,K,by simpa using V,λ i u c M O=>?_⟩;simp only[cW,cO]at O;obtain⟨d,Z,rfl⟩:=O;exact C3 H (U i u d M Z)
  |own x lo n=>exact(C3 (b:=.own x lo n) H (h.toP rfl)).toK
  |ptr x i j=>exact(C3 (b:=.ptr x i j) H (h.toP rfl)).toK
  |mp x=>exact(C3 (b:=.mp x) H (h.toP rfl)).toK
  |it x=>exact(C3 (b:=.it x) H (h.toP rfl)).toK
  |_=>exact h
def AU{L:List (Nat×Nat)}(H:∀x,μ x=.fresh\/μ' (rho L x)=μ x){u:Value}{b:A}(h:RepV w W μ u b):RepV w W μ' u (ren L b):=by
  cases b with
  |agg Y=>
    obtain⟨vs,K,V,B⟩:=h;simp only[ren];split
    · rename_i F
      exact⟨vs,K,V,λ i u c U O=>nN ((B i u c U O).toC (zJ F c (cV O)))⟩
    · refine⟨vs,K,by simpa using V,λ i u c U O=>?_⟩
      simp only[cW,cO]at O;obtain⟨d,M,rfl⟩:=O;exact AT H (B i u d U M)
  |clo f Y=>exact AT (w:=w) (W:=W) (b:=.clo f Y) H h
  |own x lo n=>exact AT (w:=w) (W:=W) (b:=.own x lo n) H h
  |ptr x i j=>exact AT (w:=w) (W:=W) (b:=.ptr x i j) H h
  |mp x=>exact AT (w:=w) (W:=W) (b:=.mp x) H h
  |it x=>exact AT (w:=w) (W:=W) (b:=.it x) H h
  |_=>exact h
def Y1{L:List (Nat×Nat)}(H:∀x,μ x=.fresh\/μ' (rho L x)=μ x){u:Value}{b:A}(h:Rep w W μ u b)(hb:∀g c,b≠.cnd g c):Rep w W μ' u (renR L b):=by
  cases b with
  |tup O=>obtain⟨vs,K,V,Y⟩:=h;refine⟨vs,K,by simpa using V,λ i u c B U=>?_⟩;simp only[cW,cO]at U;obtain⟨d,F,rfl⟩:=U;exact AU H (Y i u d B F)
  |any=>trivial
  |cnd g c=>exact absurd rfl (hb g c)
  |agg O=>exact nG (AU (b:=.agg O) H h)
  |clo f O=>exact nG (AU (b:=.clo f O) H h)
  |own x lo n=>exact nG (AU (b:=.own x lo n) H h)
  |ptr x i j=>exact nG (AU (b:=.ptr x i j) H h)
  |mp x=>exact nG (AU (b:=.mp x) H h)
  |it x=>exact nG (AU (b:=.it x) H h)
  |bool b=>exact h
  |int k n=>exact h
  |str s=>exact h
  |sl es=>exact h
  |full es=>exact h
  |bnd f O=>exact h
  |rd O M=>exact h
end
def Y2{f:FuncId}{s:S}(hs:SatW E s a w W μ)(hG:E.G=C.G){vs:List Value}{u0 as:List A}{l:List (Nat×Nat)}{ms ms':List (Nat×Row)}{k k' nx:Nat}{r:A}(hl:vs.length=u0.length)
    (hV:∀(i:Nat) (v:Value) (x:A),vs[i]? =some v->u0[i]? =some x->Rep w W μ v x) (n0:∀x,nx<=x->x<nx+(k'-k)->s.mem x=.fresh)
    (hf:MFn C f as ms k r ms' k') (f1:okM s.mem nx l u0 as ms k k') (k1:∀g c,r≠.cnd g c):
    Calls C.P f vs.toArray w λ e w'=>∃v W' μ',e=.returned v/\Rep w' W' μ' v (renR (l++newL k nx (k'-k)) r)/\
      Step s.mem (setM s.mem (mwM s.mem (l++newL k nx (k'-k)) u0 as ms ms' k k')) w w' W W' μ μ':=by
  obtain⟨hargs,q0,l1,q2,p1,q1,hlt,m1⟩:=f1;have q1:k<=k':=fP q1;have j0:=Mz p1;have U:∀x,x<k->rho (l++newL k nx (k'-k)) x=rho l x:=λ x hx=>by simp only[rho,q5,q6];rw[bX om,lD]
  have B:∀i,i<k'-k->rho (l++newL k nx (k'-k)) (k+i)=nx+i:=λ i hi=>by simp only[rho,q5,q6];rw[FJ λ q hq=>by have:=m1 q hq;omega,cB om];simp
  have r0:∀x,x<k->∃r r',look ms x=some r/\s.mem (rho l x)=.row r'/\r'.ro=false/\r'.sz=r.sz/\r'.es=pY l r.es/\r.ro=false/\idEs k r.es/\rho l x∉fzM u0 as/\rho l x<nx/\0<r.sz:=λ x hx=>by obtain⟨r,Z⟩:=j0 x hx;obtain⟨⟨r',h1,H,h3,h4⟩,h5,h6,h7,h8,h9⟩:=C2 q0 x r (C1 Z);exact⟨r,r',Z,h1,H,h3,h4,h5,h7,h8,hlt _ (C1 Z),h9⟩
  have x1:∀x y,x<k->y<k->rho l x=rho l y->x=y:=λ x y hx K he=>by obtain⟨r1,h1⟩:=j0 x hx;obtain⟨r2,H⟩:=j0 y K;exact MA l1 x y r1 r2 h1 H he
  have y1:∀x y,x<k'->y<k'->rho (l++newL k nx (k'-k)) x=rho (l++newL k nx (k'-k)) y->x=y:=λ x y hx K he=>by
    by_cases h1:x<k<;>by_cases H:y<k
    .rw[U x h1,U y H]at he;exact x1 x y h1 H he
    · rw[U x h1,show y=k+(y-k)by omega,B _ om]at he
      obtain⟨_,_,_,_,_,_,_,_,_,_,h3,_⟩:=r0 x h1;omega
    · rw[U y H,show x=k+(x-k)by omega,B _ om]at he
      obtain⟨_,_,_,_,_,_,_,_,_,_,h3,_⟩:=r0 y H;omega
    · rw[show x=k+(x-k)by omega,show y=k+(y-k)by omega,B _ om,B _ om]at he
      omega
  let fz:=fzM u0 as
  let Wc:=sC W μ fz
  let μc:Nat->Loc:=λ x=>if x<k then μ (rho l x)else .fresh
  have M:∀x,x<k->μc x=μ (rho l x):=λ x hx=>cB hx;have y0:∀x,¬x<k->μc x=.fresh:=λ x hx=>bX hx;have hC:∀u b,RepC w W u b->RepC w Wc u b:=λ u b h=>h.less;have u1:∀b,b<w.heap.size->¬W b->¬Wc b:=λ b _ h H=>h H.1;have hgl:zB w Wc C.G:=λ g cs hg=>by obtain⟨h1,H,h3⟩:=hs.glob g cs (hG▸hg);exact⟨λ h=>h1 h.1,H,λ j b hj=>let⟨u,hu,Z⟩:=h3 j b hj;⟨u,hu,Z.less⟩⟩
  have hmem:rI w Wc μc (⟨[],ms,k⟩:St).m:=λ x=>by
    by_cases hx:x<k
    · obtain⟨r,r',h1,H,h3,h4,h5,h6,h7,h8,h9,s2⟩:=r0 x hx
      have e:(⟨[],ms,k⟩:St).m x=.row r:=by simp only[St.m,h1];rw[bX om]
      rw[e];have hm:=hs.mem (rho l x);rw[H]at hm;rcases hm with⟨Y,F,g3⟩|⟨kb,Y,gA⟩
      · refine .inl ⟨(M x hx).trans Y,?_,by omega⟩
        rw[h5]at F;unfold pY at F;split at F
        .exact F
        .exact kA.1 F
      · obtain⟨F,g3,g4,us,p0,e',g5,g6,g7⟩:=gA.ok (by have:=gA.wr.2;omega)
        refine .inr ⟨kb,(M x hx).trans Y,.inl ⟨λ _=>⟨F h3,λ⟨y,ky,K,n1,i1⟩=>h8 (hs.inj y (rho l x) ky kb n1 Y i1▸K)⟩,g3.trans h4,by omega,us,p0,e',g5,g6,?_⟩⟩;rw[h5,h4]at g7;exact QK g7 h7 (λ u b o0 Z=>MD hC u1 (λ z O=>M z O) o0 Z) (λ u b hp Z=>nN (Z.toC hp).less)
    · have e:(⟨[],ms,k⟩:St).m x=.fresh:=by simp only[St.m];rw[cB om]
      rw[e];exact y0 x hx
  have hinj:∀x y b b',μc x=.at_ b->μc y=.at_ b'->b.b=b'.b->x=y:=λ x y b b' hx K he=>by
    by_cases h1:x<k
    · by_cases H:y<k
      · rw[M x h1]at hx;rw[M y H]at K
        exact x1 x y h1 H (hs.inj _ _ b b' hx K he)
      .rw[y0 y H]at K;cases K
    .rw[y0 x h1]at hx;cases hx
  have t0:∀(i:Nat) (v:Value) (b:A),vs[i]? =some v->as[i]? =some b->RepV w Wc μc v b:=λ i v b hv hb=>by
    obtain⟨x,hx,hm,O⟩:=QE hargs i b hb;have Z:=hV i v x hv hx;unfold argM at hm;split at hm
    · rename_i hh
      obtain⟨rfl,o0⟩:=hm
      by_cases ha:∃cs,b=.agg cs
      · obtain⟨cs,rfl⟩:=ha
        have hp:=YX hh;simp only[ren,hp,bZ,cI]at Z;obtain⟨us,hu,o1,b1⟩:=Z;exact⟨us,hu,by simpa using o1,λ i u c h1 H=>MD (W':=Wc) (μ':=μc) hC u1 (λ z O=>M z O) (QD o0 c (cV H)) (b1 i u (ren1 l c) h1 (by simp[H]))⟩
      · have hk:RepK w W μ v (ren1 l b):=by cases b<;>first|exact Z|exact absurd ⟨_,rfl⟩ ha|(simp[A.hands]at hh)
        have a1:=MD (W':=Wc) (μ':=μc) hC u1 (λ z O=>M z O) (by cases b<;>first|exact o0|exact absurd ⟨_,rfl⟩ ha) hk;exact nL a1
    · rename_i hh
      obtain⟨w1,rfl⟩:=hm;exact(My hs Z w1 (λ y K=>O (by simpa using hh) y K)).goes (Keeps.refl (λ _=>False) w) (λ _ _ _ h=>h) (λ _ _ h=>h) QB
  have hlen:vs.length=as.length:=hl.trans (QF hargs);refine(hf w Wc μc vs hgl (λ b h=>hs.wlt b h.1) hlen t0 hmem hinj).mono λ e w' ⟨v,Wc',μc',he,V,Z⟩=>?_
  clear hgl hmem t0 hV
  have d0:∀x,k'<=x->μc' x=.fresh:=λ x hx=>by have:=V.mem x;rw[show(⟨[],ms',k'⟩:St).m x=.fresh by simp only[St.m];rw[cB hx]]at this;exact this
  generalize hL:l++newL k nx (k'-k)=L at*
  let μ':Nat->Loc:=λ y=>open Classical in if h:∃z,z<k'/\rho L z=y then μc' (Classical.choose h)else μ y
  have h0:∀z,z<k'->μ' (rho L z)=μc' z:=λ z O=>by have h:∃z',z'<k'/\rho L z'=rho L z:=⟨z,O,rfl⟩;show(if h:∃z',z'<k'/\rho L z'=rho L z then μc' (Classical.choose h)else μ (rho L z))=_;rw[kL h];rw[y1 _ _ (fF h).1 O (fF h).2]
  have x0:∀y,(¬∃z,z<k'/\rho L z=y)->μ' y=μ y:=λ y K=>dif_neg K;have s0:∀x,μc' x=.fresh\/μ' (rho L x)=μc' x:=λ x=>by
    by_cases hx:x<k'
    .exact .inr (h0 x hx)
    .exact .inl (d0 x om)
  have sub:∀b,(Wc b/\∃y kb,μc y=.at_ kb/\kb.b=b)->W b/\∃y kb,μ y=.at_ kb/\kb.b=b:=λ b ⟨h1,y,kb,H,h3⟩=>by
    by_cases K:y<k
    .rw[M y K]at H;exact⟨h1.1,_,kb,H,h3⟩
    .rw[y0 y K]at H;cases H
  have c0:∀y kb,μ y=.at_ kb->(∃z kz,μc z=.at_ kz/\kz.b=kb.b)->∃z,z<k'/\rho L z=y:=λ y kb K ⟨z,kz,h1,H⟩=>by
    by_cases O:z<k
    · rw[M z O]at h1
      refine⟨z,by omega,?_⟩;rw[U z O];exact hs.inj _ _ kz kb h1 K H
    .rw[y0 z O]at h1;cases h1
  have e0:Old μ μ':=λ y K=>by
    by_cases h:∃z,z<k'/\rho L z=y
    · obtain⟨z,O,rfl⟩:=h
      rw[h0 z O]
      by_cases f0:z<k
      · rw[U z f0]at K|-
        rcases V.old z (by rw[M z f0];exact K)with e|e
        .exact .inl (e.trans (M z f0))
        .exact .inr e
      · exfalso
        apply K;have hf:=n0 (nx+(z-k)) om om;rw[show z=k+(z-k)by omega,B _ om];have:=hs.mem (nx+(z-k));rw[hf]at this;exact this
    .exact .inl (x0 y h)
  have v0:Keeps (λ b=>W b/\∃y kb,μ y=.at_ kb/\kb.b=b) w w':=V.keeps.mono λ b _ h=>sub b h;have b0:∀b,b<w.heap.size->Wc' b->W b:=λ b hb h=>(V.hW b hb h).1;refine⟨v,Wc',μ',he,Y1 s0 Z k1,⟨v0,b0,λ b hb=>?_,hs.wlt,V.wlt,e0,λ y=>?_,λ x y b b' hx K hb=>?_,λ y b K=>?_⟩⟩
  ·
    by_cases O:∃x kb,x∈fz/\μ x=.at_ kb/\kb.b=b
    .obtain⟨x,kb,_,H,h3⟩:=O;exact .inr ⟨x,kb,H,h3⟩
    · rcases V.wsup b ⟨hb,O⟩with h|⟨x,kb,h1,H⟩
      .exact .inl h
      · by_cases hx:x<k
        .rw[M x hx]at h1;exact .inr ⟨_,kb,h1,H⟩
        .rw[y0 x hx]at h1;cases h1
  ·
    rw[mwM,QG]
    by_cases h:∃z,z<k'/\rho L z=y
    · obtain⟨z,O,rfl⟩:=h
      have s1:z∈ms.map (·.1)++(List.range (k'-k)).map (k+·):=by
        by_cases f0:z<k
        · obtain⟨r,Z⟩:=j0 z f0
          exact dV _ (cS.2 ⟨(z,r),C1 Z,rfl⟩)
        .exact dK _ (cS.2 ⟨z-k,eH.2 om,by omega⟩)
      rw[QH s1 λ x hx he=>by
        refine y1 x z ?_ O he;rcases cY.1 hx with hx|hx
        · obtain⟨q,hq,rfl⟩:=cS.1 hx
          have:=(C2 q0 q.1 q.2 hq).2.2.1;omega
        · obtain⟨i,hi,rfl⟩:=cS.1 hx
          have:=eH.1 hi;omega]
      have hm:=V.mem z;have e:(⟨[],ms',k'⟩:St).m z=(match look ms' z with|some r=>.row r|none=>.dead:MS):=by simp only[St.m];rw[bX om];cases look ms' z<;>rfl
      rw[e]at hm;cases hlk':look ms' z with
      |none=>rw[hlk']at hm;exact(h0 z O).trans hm
      |some r1=>
        rw[hlk']at hm;rcases hm with⟨Y,F,g3⟩|⟨kb,Y,⟨F,g3,g4,us,p0,e',g5,g6,g7⟩|gM|gI⟩
        · refine .inl ⟨(h0 z O).trans Y,?_,g3⟩
          show pY L r1.es=[];rw[F];rfl
        .exact .inr ⟨kb,(h0 z O).trans Y,.inl ⟨F,g3,g4,us,p0,e',g5,g6,YY g7 (λ u b hb=>AT s0 hb) (λ u b hp hb=>nN (hb.toC hp))⟩⟩
        · refine .inr ⟨kb,(h0 z O).trans Y,.inr (.inl ?_)⟩
          have e3:pY L r1.es=r1.es:=by unfold pY;rw[cB gM.pure]
          rw[e3];exact gM
        .exact .inr ⟨kb,(h0 z O).trans Y,.inr (.inr (gI.ren s0))⟩
    · rw[MB λ x hx he=>h ⟨x,by
        rcases cY.1 hx with hx|hx
        · obtain⟨q,hq,rfl⟩:=cS.1 hx
          have:=(C2 q0 q.1 q.2 hq).2.2.1;omega
        · obtain⟨i,hi,rfl⟩:=cS.1 hx
          have:=eH.1 hi;omega,he⟩,IP]
      have hm:=hs.mem y;have t1:∀(r:Row) (kb:Blk),qG w W μ r kb->μ y=.at_ kb->(r.ro=false->y∉fz)->qG w' Wc' μ' r kb:=λ r kb z1 K x2=>by
        have hlt:=z1.lt;have a0:¬∃z kz,μc z=.at_ kz/\kz.b=kb.b:=λ hh=>h (c0 y kb K hh);have g0:(r.ro=false->W kb.b)->r.ro=false->Wc' kb.b:=λ Y c1=>by
          rcases V.wsup kb.b ⟨Y c1,λ⟨x,kx,hx,y2,z2⟩=>x2 c1 (hs.inj x y kx kb y2 K z2▸hx)⟩with h1|h1
          .exact h1
          .exact absurd h1 a0
        rcases z1 with⟨Y,F,g3,us,p0,e',g4,g5,g6⟩|⟨Y,F,g3,es,g4,g5,g6⟩|⟨Y,F,g3,O,y',b',c,d1,g5,g6,g4⟩
        · refine .inl ⟨g0 Y,F,g3,us,p0,e',?_,g5,g6.mono λ u b hb=>hb.goes v0 (λ _ _ h H=>h H.1) (λ b hb h H=>h (b0 b hb H)) e0⟩
          rw[V.keeps.block kb.b hlt (λ hh=>a0 hh.2)];exact g4
        · refine .inr (.inl ⟨g0 Y,F,g3,es,?_,g5,λ i e c p q=>(g6 i e c p q).keep v0 (λ _ _ h H=>h H.1) (λ b hb h H=>h (b0 b hb H))⟩)
          rw[V.keeps.block kb.b hlt (λ hh=>a0 hh.2)];exact g4
        · refine .inr (.inr ⟨g0 Y,F,g3,O,y',b',c,d1,g5,g6.goes v0 (λ _ _ h H=>h H.1) (λ b hb h H=>h (b0 b hb H)) e0,?_⟩)
          rw[V.keeps.block kb.b hlt (λ hh=>a0 hh.2)];exact g4
      have l0:qN w' Wc' μ' y (s.mem y)\/(y∈fz/\∃r,s.mem y=.row r/\qN w' Wc' μ' y (.row ⟨true,r.sz,r.z,r.es⟩)):=by
        cases hr1:s.mem y with
        |fresh=>rw[hr1]at hm;exact .inl ((x0 y h).trans hm)
        |dead=>rw[hr1]at hm;exact .inl ((x0 y h).trans hm)
        |row r1=>
          rw[hr1]at hm
          by_cases O:y∈fz
          · refine .inr ⟨O,r1,rfl,?_⟩
            rcases hm with⟨Y,F,g3⟩|⟨kb,Y,F⟩
            .exact .inl ⟨(x0 y h).trans Y,F,g3⟩
            .exact .inr ⟨kb,(x0 y h).trans Y,t1 ⟨true,r1.sz,r1.z,r1.es⟩ kb F.ro Y (by simp)⟩
          · refine .inl ?_
            rcases hm with⟨Y,F,g3⟩|⟨kb,Y,F⟩
            .exact .inl ⟨(x0 y h).trans Y,F,g3⟩
            .exact .inr ⟨kb,(x0 y h).trans Y,t1 r1 kb F Y (λ _=>O)⟩
      split
      · rename_i O
        rcases l0 with h1|⟨_,r1,h1,H⟩
        · cases hr1:s.mem y with
          |fresh=>rw[hr1]at h1;exact h1
          |dead=>rw[hr1]at h1;exact h1
          |row r1=>
            rw[hr1]at h1;rcases h1 with⟨Y,F,g3⟩|⟨kb,Y,F⟩
            .exact .inl ⟨Y,F,g3⟩
            .exact .inr ⟨kb,Y,F.ro⟩
        .rw[h1];exact H
      · rename_i O
        rcases l0 with h1|⟨h1,_⟩
        .exact h1
        .exact absurd h1 O
  ·
    have u2:∀x b,μ x=.at_ b->b.b<w.heap.size:=λ x b hx=>by obtain⟨_,_,h⟩:=hs.mem.at_ hx;exact h.lt
    have m0:∀z y b b',z<k'->μc' z=.at_ b->μ y=.at_ b'->b.b=b'.b->∃z,z<k'/\rho L z=y:=λ z y b b' _ h1 H h3=>by
      rcases V.live z b h1 with⟨z0,k0,h4,h5⟩|h4
      .exact c0 y b' H ⟨z0,k0,h4,h5.trans h3⟩
      .have:=u2 y b' H;omega
    by_cases h1:∃z,z<k'/\rho L z=x<;>by_cases H:∃z,z<k'/\rho L z=y
    · obtain⟨z,O,rfl⟩:=h1
      obtain⟨z',p2,rfl⟩:=H;rw[h0 z O]at hx;rw[h0 z' p2]at K;rw[V.inj z z' b b' hx K hb]
    · obtain⟨z,O,rfl⟩:=h1
      rw[h0 z O]at hx;rw[x0 y H]at K;exact absurd (m0 z y b b' O hx K hb) H
    · obtain⟨z,O,rfl⟩:=H
      rw[h0 z O]at K;rw[x0 x h1]at hx;exact absurd (m0 z x b' b O K hx hb.symm) h1
    · rw[x0 x h1]at hx;rw[x0 y H]at K
      exact hs.inj x y b b' hx K hb
  ·
    by_cases h:∃z,z<k'/\rho L z=y
    · obtain⟨z,O,rfl⟩:=h
      rw[h0 z O]at K;rcases V.live z b K with⟨z0,k0,h4,h5⟩|h4
      · by_cases e1:z0<k
        .rw[M z0 e1]at h4;exact .inl ⟨_,k0,h4,h5⟩
        .rw[y0 z0 e1]at h4;cases h4
      .exact .inr h4
    .rw[x0 y h]at K;exact .inl ⟨y,b,K,rfl⟩
def Y3{st:St}{l:List (Nat×Nat)}{O as:List A}{ms ms':List (Nat×Row)}{k k':Nat}(h0:okM st.m st.nx l O as ms k k'):mwOk st.nx (mwM st.m (l++newL k st.nx (k'-k)) O as ms ms' k k'):=by
  obtain⟨hargs,Y,p0,q0,v0,B,K,x0⟩:=h0;have B:k<=k':=fP B;have y0:∀{L:List (Nat×Nat)} {H:List Nat},∀q∈pO L ms' H,(∃x∈H,q.1=rho L x)/\q.2≠.fresh:=λ{L} {H}=>by
    induction H with
    |nil=>intro q hq;cases hq
    |cons x H F=>
      intro q hq;rcases cL.1 hq with rfl|hq
      .exact⟨⟨x,.head _,rfl⟩,by simp only;cases look ms' _<;>simp[entM]⟩
      .obtain⟨⟨y,hy,V⟩,M⟩:=F q hq;exact⟨⟨y,.tail _ hy,V⟩,M⟩
  have z0:∀(L:List (Nat×Nat)) (x y:List Nat),pO L ms' (x++y)=pO L ms' x++pO L ms' y:=λ L x y=>by
    induction x with
    |nil=>rfl
    |cons z x F=>simp only[Jm,pO,F]
  unfold mwM;refine IK (λ q hq=>let⟨⟨r,hr⟩,M⟩:=IL q hq;⟨St.m_row hr,M⟩) ?_;rw[z0];refine IK (λ q hq=>?_) ?_
  · obtain⟨⟨x,hx,V⟩,M⟩:=y0 q hq
    obtain⟨p,Z,rfl⟩:=cS.1 hx;have h3:=(C2 Y p.1 p.2 Z).2.2.1;refine⟨?_,M⟩;rw[V];have:rho (l++newL k st.nx (k'-k)) p.1=rho l p.1:=by simp only[rho,q5,q6];rw[bX om,lD]
    rw[this];exact K p Z
  · have u0:∀(n j:Nat),j+n<=k'-k->mwOk (st.nx+j) (pO (l++newL k st.nx (k'-k)) ms' ((List.range' j n).map (k+·))):=λ n=>by
      induction n with
      |zero=>intro j _;trivial
      |succ n F=>
        intro j hj;have U:rho (l++newL k st.nx (k'-k)) (k+j)=st.nx+j:=by simp only[rho,q5,q6];rw[FJ λ q hq=>by have:=x0 q hq;omega,cB om];simp
        rw[hI,dO,pO];refine⟨by rw[U];exact dG _,by simp only;cases look ms' _<;>simp[entM],?_⟩;simp only[U,cH];exact F (j+1) om
    have:=u0 (k'-k) 0 om;rwa [<-eZ]at this
def QL{st:St}:∀{mw:List (Nat×MS)},zI st.m mw->mwOk st.nx mw
  |[],_=>trivial
  |q::r,⟨H,K⟩=>FH (by
      by_cases h:q.1<st.nx
      .exact h
      .exact absurd (by simp only[St.m];rw[cB om]) (MS.like_ne H).1) (MS.like_ne H).2 (QL K)
def QM{P:Program}{f:FuncId}(h:pG P f=true):(f==yZ)=false:=by
  unfold pG at h;split at h
  .simp only[bY,dA]at h;exact h.2
  .cases h
def QN{t:Operand}{args:Array Operand}{Y:Array TypeId}{f:FuncId}{vs H:List Value}(ho:o.op=.call {callee:=.value t,args:=args,argTypes:=Y})(K:a.eval t=.func (.func f) #[] H.toArray)
    (O:pG C.P f=true) (B:vs=args.toList.map a.eval++H):(execOp a.eval o).run C.P w=.ok (.enter f vs.toArray) w:=by
  unfold pG at O;have M:vs.toArray=args.map a.eval++H.toArray:=by rw[B];simp[<-Array.toList_map]
  split at O
  · rename_i fn U
    simp only[bY,dA]at O;have hb:fn.body.isNone=false:=by cases hb:fn.body<;>simp[hb]at O|-
    have F:(callFunc f (args.map a.eval++H.toArray)).run C.P w=.ok (.enter f (args.map a.eval++H.toArray)) w:=by simp only[callFunc,qc,run_program,Oc,U];rw[bX (by simp[O.1.2]),bX (by simp[hb])];rfl
    rw[M];simp[execOp,ho,resolve,K,Deferred.ofValue,invoke,F]
  .cases O
def Y4{t:Operand}{args:Array Operand}{U:Array TypeId}{f:FuncId}{u:Value}{vs:List Value}(ho:o.op=.call {callee:=.value t,args:=args,argTypes:=U})(K:a.eval t=.func (.func f) #[u] #[])
    (H:pG C.P f=true) (Y:vs=u::args.toList.map a.eval):(execOp a.eval o).run C.P w=.ok (.enter f vs.toArray) w:=by
  unfold pG at H;have F:vs.toArray=#[u]++args.map a.eval:=by rw[Y];simp[<-Array.toList_map]
  split at H
  · rename_i fn O
    simp only[bY,dA]at H;have hb:fn.body.isNone=false:=by cases hb:fn.body<;>simp[hb]at H|-
    have B:(callFunc f (#[u]++args.map a.eval)).run C.P w=.ok (.enter f (#[u]++args.map a.eval)) w:=by simp only[callFunc,qc,run_program,Oc,O];rw[bX (by simp[H.1.2]),bX (by simp[hb])];rfl
    rw[F];simp[execOp,ho,resolve,K,Deferred.ofValue,invoke,B]
  .cases H
def QO{d0:Array Oper}{p:POp}{s:S}{id:Nat}(Z:SatW E s a w W μ)(hG:E.G=C.G)(x1:s.mem id=.fresh)(hp:POk C E.N d0 o p){K:A->List (Nat×MS)->Prop}(h:aopS C p s id K){Q:Exit->Act->World->Prop}{k:Act->World->Prop}
    (hk:∀v mw a' w',K v mw->Sat E ⟨setF s.fr p.dst v,setM s.mem mw⟩ a' w'->k a' w'):if Region.wanted o (yielded d0 a.tmps)then o.wp C.P a w k Q else k (a.put o.dst undef) w:=by
  unfold aopS at h;cases L:oP s.fr p.g with
  |none=>simp[L]at h
  |some g=>
    simp only[L]at h;have l0:=YW Z hp.g L;rw[l0,hp.dst];have skip:∀(v:A),g=false->K (oF p.g g v) []->k (a.put p.dst undef) w:=λ v hg hK=>by
      refine hk _ _ _ _ hK ⟨W,μ,?_⟩;refine Z.step (m':=s.mem) Z.refl hp.lt ?_;cases hpg:p.g with
      |none=>rw[hpg]at L;simp[oP]at L;rw[hg]at L;cases L
      |some q=>exact⟨λ h=>(by rw[hg]at h;cases h),λ _=>rfl⟩
    have e0:∀(v:A) (mw:List (Nat×MS)) (u:Value) (w':World) (W':Nat->Prop) (μ':Nat->Loc),g=true->(p.g=none\/v.isVV=true)->K (oF p.g g v) mw->Rep w' W' μ' u v->Step s.mem (setM s.mem mw) w w' W W' μ μ'->k (a.put p.dst u) w':=λ v mw u w' W' μ' hg z0 hK hr hst=>by
      refine hk _ _ _ _ hK ⟨W',μ',?_⟩;refine Z.step hst hp.lt ?_;cases hpg:p.g with
      |none=>exact hr
      |some q=>
        refine⟨λ _=>?_,λ h=>(by rw[hg]at h;cases h)⟩;rcases z0 with h1|h1
        .rw[hpg]at h1;cases h1
        .exact hr.toVV h1
    have go:∀(v:A) (mw:List (Nat×MS)),g=true->mN C.P o a w W μ s.mem v (setM s.mem mw)->(p.g=none\/v.isVV=true)->K (oF p.g g v) mw->o.wp C.P a w k Q:=λ v mw hg hy z0 hK=>by refine Oper.wp_of_yields Z hy λ u w' W' μ' hr hst=>?_;rw[hp.dst];exact e0 v mw u w' W' μ' hg z0 hK hr hst
    have sk:∀(v:A) (mw:List (Nat×MS)),g=false->(p.g=none\/mw=[]/\v.isVV=true)->K (oF p.g g v) mw->k (a.put p.dst undef) w:=λ v mw hg z0 hK=>by
      rcases z0 with h1|⟨h1,_⟩
      .rw[h1]at L;simp[oP]at L;rw[hg]at L;cases L
      .subst h1;exact skip v hg hK
    have g0:∀(t:Operand) (args:Array Operand) (Y:Array TypeId) (f:FuncId) (vs U:List Value) (H:List A) (r:A),o.op=.call {callee:=.value t,args:=args,argTypes:=Y}->a.eval t=.func (.func f) #[] U.toArray->pG C.P f=true->
        vs=args.toList.map a.eval++U->vs.length=H.length->(∀(i:Nat) (v:Value) (x:A),vs[i]? =some v->H[i]? =some x->Rep w W μ v x)->pM s.mem H->PFn C f (oT s.mem H) r->
        g=true->(p.g=none\/nW s.mem H r=[]/\r.isVV=true)->K (oF p.g g r) (nW s.mem H r)->o.wp C.P a w k Q:=λ t args Y f vs U H r ho ht hb p0 hl M u0 v0 hg z0 hK=>by
      have hc:=QC Z hG hl M u0 v0;unfold Oper.wp;rw[QN ho ht hb p0];refine hc.mono λ e w' ⟨v,W',he,hrep,hst⟩=>?_;subst he;show k (a.put o.dst v) w';rw[hp.dst];exact e0 r _ v w' W' μ hg (z0.imp (λ h=>h) And.right) hK hrep hst
    have m0:∀(t:Operand) (args:Array Operand) (Y:Array TypeId) (f:FuncId) (u:Value) (vs:List Value) (H:List A) (r:A),o.op=.call {callee:=.value t,args:=args,argTypes:=Y}->a.eval t=.func (.func f) #[u] #[]->pG C.P f=true->
        vs=u::args.toList.map a.eval->vs.length=H.length->(∀(i:Nat) (v:Value) (x:A),vs[i]? =some v->H[i]? =some x->Rep w W μ v x)->pM s.mem H->PFn C f (oT s.mem H) r->
        g=true->(p.g=none\/nW s.mem H r=[]/\r.isVV=true)->K (oF p.g g r) (nW s.mem H r)->o.wp C.P a w k Q:=λ t args Y f u vs H r ho ht hb p0 hl M u0 v0 hg z0 hK=>by
      have hc:=QC Z hG hl M u0 v0;unfold Oper.wp;rw[Y4 ho ht hb p0];refine hc.mono λ e w' ⟨v,W',he,hrep,hst⟩=>?_;subst he;show k (a.put o.dst v) w';rw[hp.dst];exact e0 r _ v w' W' μ hg (z0.imp (λ h=>h) And.right) hK hrep hst
    have q0:∀(t:Operand) (args:Array Operand) (Y:Array TypeId) (f:FuncId) (vs U:List Value) (H:List A) (ob:Prop),o.op=.call {callee:=.value t,args:=args,argTypes:=Y}->a.eval t=.func (.func f) #[] U.toArray->pG C.P f=true->
        vs=args.toList.map a.eval++U->vs.length=H.length->(∀(i:Nat) (v:Value) (x:A),vs[i]? =some v->H[i]? =some x->Rep w W μ v x)->g=true->
        tI C s.mem id f H p.g g ob (λ n=>∀x,id<=x->x<id+n->s.mem x=.fresh) K->o.wp C.P a w k Q:=λ t args Y f vs U H ob ho ht hb p0 hl M j0 y1=>by
      obtain⟨l,as,ms,kk,r,z1,u1,r0,_,p1,o0,hK⟩:=y1;obtain⟨_,q1,s1,t1⟩:=r0 j0;have hc:=Y2 Z hG hl M t1 q1 s1 o0;unfold Oper.wp;rw[QN ho ht hb p0];refine hc.mono λ e w' ⟨v,W',μ',he,hrep,hst⟩=>?_;subst he;show k (a.put o.dst v) w';rw[hp.dst];exact e0 _ _ v w' W' μ' j0 p1 hK hrep hst
    have s0:∀{f:FuncId} {H:List A} {ob:Prop} {F:Nat->Prop},g=false->tI C s.mem id f H p.g g ob F K->k (a.put p.dst undef) w:=λ hg h=>by
      obtain⟨l,as,ms,kk,r,z1,u1,_,hf,_,_,hK⟩:=h;obtain⟨_,n0⟩:=hf hg;refine hk _ _ _ _ hK ⟨W,μ,?_⟩;refine{(Z.step (m':=s.mem) (d:=p.dst) (v:=undef) (av:=oF p.g g (renR _ _)) Z.refl hp.lt ?_)with mem:=λ x=>?_}
      case refine_2=>
        rcases Qu x s.mem n0 with e|e
        · show qN w W μ x (setM s.mem _ x)
          rw[e];exact Z.mem x
        .exact(Z.mem x).like e
      cases hpg:p.g with
      |none=>rw[hpg]at L;simp[oP]at L;rw[hg]at L;cases L
      |some q=>exact⟨λ h=>(by rw[hg]at h;cases h),λ _=>rfl⟩
    split at h
    · rename_i h0
      split at h
      · rename_i c x y t0
        split at h
        · rename_i b u v hc hx hy
          obtain⟨B,hK⟩:=h;cases g with
          |false=>exact skip _ rfl hK
          |true=>
            obtain⟨g1,g2,g3⟩:=B rfl;have O:=hp.op;rw[h0,t0]at O;simp only[tZ]at O;split at O
            · rename_i c' x' y' ho
              simp only[nA,bY,fI]at O;obtain⟨k1,k2,k3⟩:=O;have r1:=FB Z k1;have r2:=FB Z k2;have r3:=FB Z k3;rw[hG]at r1 r2 r3;simp only[cH];refine go _ [] rfl (XJ Z ho (b:=b) (p:=u) (q:=v) ?_ ?_ ?_) (.inr rfl) hK
              .rw[<-hc];exact Iw r1 g1
              .intro hb;rw[<-hx];exact Iw r2 (g2 hb)
              .intro hb;rw[<-hy];exact Iw r3 (g3 hb)
            .cases O
        .exact h.elim
      .exact h.elim
    · rename_i f h0
      obtain⟨r,h1,h2,hK⟩:=h;cases g with
      |false=>exact sk _ _ rfl h2 hK
      |true=>
        obtain⟨B,u0,v0⟩:=h1 rfl;have O:=hp.op;rw[h0]at O;simp only[tZ]at O;split at O
        · rename_i f' args Y ho
          simp only[bY,dN]at O;obtain⟨⟨rfl,t0⟩,x0⟩:=O;have M:=xH Z hG p.xs args.toList t0 B;simp only[cH];exact g0 _ args Y f (args.toList.map a.eval) [] (nO C s.fr p.xs) r ho rfl x0 (by simp) (by simpa using M.1) (λ i v x V hx=>by
            simp only[cW,cO]at V;obtain⟨q,hq,rfl⟩:=V;exact M.2 i q x hq hx) u0 v0 rfl h2 hK
        .cases O
    · rename_i h0
      split at h
      · rename_i f U H y0
        obtain⟨r,h1,h2,hK⟩:=h;cases g with
        |false=>exact sk _ _ rfl h2 hK
        |true=>
          obtain⟨B,x0,u0,v0⟩:=h1 rfl;have O:=hp.op;rw[h0]at O;simp only[tZ]at O;split at O
          · rename_i t args Y ho
            have M:=xH Z hG p.xs (.tmp t::args.toList) O B;rw[y0]at M;obtain⟨vs,c0,hv2,hv3⟩:=cloK (show RepK w W μ (a.eval (.tmp t)) (.clo f U)from M.2 0 (.tmp t) _ rfl rfl) (QM x0);simp only[cH];have f0:args.toList.length=H.length:=by simpa using M.1
            exact g0 _ args Y f (args.toList.map a.eval++vs) vs (H++U) r ho c0 x0 rfl (by simp only[cA,dM];omega) (λ i v x V hx=>by
              rw[gB]at V hx;simp only[dM]at V;split at V
              · rename_i hi
                rw[cB om]at hx;simp only[cW,cO]at V;obtain⟨q,hq,rfl⟩:=V;exact M.2 (i+1) q x (by simpa using hq) (by simpa using hx)
              · rename_i hi
                rw[bX om,<-f0]at hx;exact nG (nL (hv3 _ v x V hx).toK)) u0 v0 rfl h2 hK
          .cases O
      .exact h.elim
    · rename_i h0
      split at h
      · rename_i f cs H y0
        obtain⟨r,h1,h2,hK⟩:=h;cases g with
        |false=>exact sk _ _ rfl h2 hK
        |true=>
          obtain⟨B,x0,u0,v0⟩:=h1 rfl;have O:=hp.op;rw[h0]at O;simp only[tZ]at O;split at O
          · rename_i t args Y ho
            have M:=xH Z hG p.xs (.tmp t::args.toList) O B;rw[y0]at M;obtain⟨us,c0,hv2,hv3⟩:=RepC.bnd_val (show RepC w W (a.eval (.tmp t)) (.bnd f cs)from M.2 0 (.tmp t) _ rfl rfl);simp only[cH];have f0:args.toList.length=H.length:=by simpa using M.1
            refine m0 _ args Y f _ (.agg us.toArray::args.toList.map a.eval) (.agg cs::H) r ho c0 x0 rfl (by simp only[ym,dM];omega) (λ i v x V hx=>?_) u0 v0 rfl h2 hK;cases i with
            |zero=>simp only[List.getElem?_cons_zero,cJ]at V hx;subst V;subst hx;exact show RepV w W μ (.agg us.toArray) (.agg cs)from⟨us,rfl,hv2,λ i u c h1 h2=>nN (hv3 i u c h1 h2)⟩
            |succ i=>simp only[List.getElem?_cons_succ,cW,cO]at V hx;obtain⟨q,hq,rfl⟩:=V;exact M.2 (i+1) q x (by simpa using hq) (by simpa using hx)
          .cases O
      .exact h.elim
    · rename_i f h0
      cases g with
      |false=>exact s0 rfl h
      |true=>
        have B:gdsF C s.fr p.xs:=by obtain⟨_,_,_,_,_,_,_,r0,_⟩:=h;exact(r0 rfl).1
        have O:=hp.op;rw[h0]at O;simp only[tZ]at O;split at O
        · rename_i f' args Y ho
          simp only[bY,dN]at O;obtain⟨⟨rfl,t0⟩,x0⟩:=O;have M:=xH Z hG p.xs args.toList t0 B;simp only[cH];exact q0 _ args Y f (args.toList.map a.eval) [] (nO C s.fr p.xs) _ ho rfl x0 (by simp) (by simpa using M.1) (λ i v x V hx=>by
            simp only[cW,cO]at V;obtain⟨q,hq,rfl⟩:=V;exact M.2 i q x hq hx) rfl h
        .cases O
    · rename_i h0
      split at h
      · rename_i f U H y0
        cases g with
        |false=>exact s0 rfl h
        |true=>
          have B:gdsF C s.fr p.xs/\pG C.P f=true:=by obtain⟨_,_,_,_,_,_,_,r0,_⟩:=h;exact(r0 rfl).1
          obtain⟨B,x0⟩:=B;have O:=hp.op;rw[h0]at O;simp only[tZ]at O;split at O
          · rename_i t args Y ho
            have M:=xH Z hG p.xs (.tmp t::args.toList) O B;rw[y0]at M;obtain⟨vs,c0,hv2,hv3⟩:=cloK (show RepK w W μ (a.eval (.tmp t)) (.clo f U)from M.2 0 (.tmp t) _ rfl rfl) (QM x0);simp only[cH];have f0:args.toList.length=H.length:=by simpa using M.1
            exact q0 _ args Y f (args.toList.map a.eval++vs) vs (H++U) _ ho c0 x0 rfl (by simp only[cA,dM];omega) (λ i v x V hx=>by
              rw[gB]at V hx;simp only[dM]at V;split at V
              · rename_i hi
                rw[cB om]at hx;simp only[cW,cO]at V;obtain⟨q,hq,rfl⟩:=V;exact M.2 (i+1) q x (by simpa using hq) (by simpa using hx)
              · rename_i hi
                rw[bX om,<-f0]at hx;exact nG (nL (hv3 _ v x V hx).toK)) rfl h
          .cases O
      .exact h.elim
    · rename_i c1 f1 l1 m1 n1 e1
      split at h
      · rename_i ef d1
        obtain⟨h1,h2,hK⟩:=h;cases g with
        |false=>exact sk _ _ rfl h2 hK
        |true=>obtain⟨B,b0⟩:=h1 rfl;simp only[cH];refine go ef.v ef.mw rfl (YP Z x1 p.po p.xs _ (λ d0 a0=>xH Z hG p.xs d0 a0 B) (Qw _ p.xs).symm hp.op d1 b0 c1) (h2.imp (λ h=>h) And.right) hK
      · obtain⟨hg,_,hK⟩:=h
        subst hg;exact skip _ rfl hK
def ME(st:St)(x:Nat)(h:st.nx<=x):st.m x=.fresh:=cB h
def IQ{f:FuncId}{H:List A}{U:Option (Nat×Bool)}{g:Bool}{Y:Prop}{F:Nat->Prop}{K:A->List (Nat×MS)->Prop}(h:tI C st.m st.nx f H U g Y F K):
    tI C st.m st.nx f H U g Y (λ n=>∀x,st.nx<=x->x<st.nx+n->st.m x=.fresh) (λ v B=>mwOk st.nx B/\K v B):=by
  obtain⟨l,as,ms,k,r,O,k',M,L,V,Z,h5⟩:=h;refine⟨l,as,ms,k,r,O,k',λ hg=>let⟨a1,a2,a3,_⟩:=M hg;⟨a1,a2,a3,λ x hx _=>ME st x hx⟩,L,V,Z,?_,h5⟩;cases g with
  |true=>exact Y3 (M rfl).2.2.1
  |false=>exact QL (L rfl).2
def Y5{p:POp}{K:St->Prop}(h:aop C p st K):aopS C p st.toS st.nx (λ v B=>mwOk st.nx B/\K (st.app p.dst v B)):=by
  unfold aop at h;unfold aopS;simp only[St.toS];rw[YT]at h;simp only[IN,FI]at h;cases hg:oP st.slot p.g with
  |none=>simp[hg]at h
  |some g=>
    simp only[hg]at h⊢;cases L:p.po<;>simp only[L]at h|-
    case pick=>
      split at h
      · split at h
        .exact⟨h.1,trivial,h.2⟩
        .exact h.elim
      .exact h.elim
    case call f=>obtain⟨r,H,O,U⟩:=h;exact⟨r,H,O,C0 st _ _,U⟩
    case callv=>
      split at h
      · obtain⟨r,H,O,U⟩:=h
        exact⟨r,H,O,C0 st _ _,U⟩
      .exact h.elim
    case callb=>
      split at h
      · obtain⟨r,H,O,U⟩:=h
        exact⟨r,H,O,C0 st _ _,U⟩
      .exact h.elim
    case callm f=>exact IQ h
    case callvm=>
      split at h
      .exact IQ h
      .exact h.elim
    all_goals
      split at h
      · rename_i F Y
        obtain⟨H,O,U⟩:=h;exact⟨H,O,Qv Y,U⟩
      .exact⟨h.1,h.2.1,trivial,h.2.2⟩
def QP{H:Array Oper}{p:POp}(U:SatW E st.toS a w W μ)(hG:E.G=C.G)(Y:POk C E.N H o p){K:St->Prop}(h:aop C p st K){Q:Exit->Act->World->Prop}{k:Act->World->Prop}
    (B:∀st' O w',K st'->Sat E st'.toS O w'->k O w'):if Region.wanted o (yielded H a.tmps)then o.wp C.P a w k Q else k (a.put o.dst undef) w:=
  QO U hG st.m_nx Y (Y5 h) λ v F O w' ⟨V,hK⟩ L=>B _ O w' hK (by rw[IM st _ _ _ V];exact L)
def ROk(C:Cx)(N:Nat)(H:Array Oper):Nat->List POp->Prop
  |n,[]=>n=H.size
  |n,p::ps=>(∃o,H[n]? =some o/\POk C N H o p)/\ROk C N H (n+1) ps
def QQ{st:St}:∀(mw:List (Nat×MS)),(∀q∈mw,∃r,q.2=.row r/\∃H,st.m q.1=.row H)->mwOk st.nx mw
  |[],_=>trivial
  |q::mw,h=>by obtain⟨r,O,H,U⟩:=h q (.head _);have K:=St.m_row U;exact⟨jA K,(by rw[O];exact(λ h=>nomatch h)),(by rw[bX om];exact QQ mw λ p Y=>h p (.tail _ Y))⟩
def IR{F:Array Oper}(hG:E.G=C.G){Q:Exit->Act->World->Prop}:∀(ps:List POp) (n:Nat) (st:St) (a:Act) (w:World),ROk C E.N F n ps->Sat E st.toS a w->∀(K:St->Prop),arun C ps st K->
    (∀st' a' w',K st'->Sat E st'.toS a' w'->Q .normal a' w')->wpOps C.P F Q (List.range' n ps.length) a w
  |[],n,st,a,w,_,L,K,h,hk=>hk st a w h L
  |p::ps,n,st,a,w,hr,⟨W,μ,L⟩,K,h,hk=>by
    obtain⟨⟨o,ho,V⟩,p0⟩:=hr;unfold arun at h;split at h
    · rename_i hq
      have Y:p.po=.eqNil:=by cases Y:p.po<;>rw[Y]at hq<;>first|rfl|cases hq
      obtain⟨hg,M,h⟩:=h;have H:=V.op;rw[Y]at H;simp only[tZ]at H;split at H
      · rename_i b T x y T2 x0
        simp only[bY,dN]at H;obtain⟨⟨⟨rfl,hT⟩,Z⟩,hx⟩:=H;obtain⟨d,hd,d0⟩:=tG hT;obtain⟨e,rfl⟩:∃e,d=.slice e:=by cases d<;>simp[CX]at d0;exact⟨_,rfl⟩
        have Z:=Qn Z;subst Z;rw[IN]at M;rw[FI]at h;have hV:=xH L hG p.xs [x] hx M;obtain⟨av,y0,O⟩:=hV.one;have U:nO C st.slot p.xs=[av]:=y0;rw[U]at h;have go:∀(b:Bool),(binOp .eql T (a.eval x) (.slice none 0 0)).run C.P w=.ok (.bool b) w->arun C ps (st.app p.dst (.bool b) []) K->wpOps C.P F Q (List.range' n (p::ps).length) a w:=λ b c0 hK=>by
          have q0:o.guard=none:=by
            have:=V.g;rw[hg]at this;cases hog:o.guard with
            |none=>rfl
            |some r=>simp[hog]at this
          simp only[ym,hI,wpOps,ho];rw[cB (by simp[Region.wanted,q0])];refine .inl ?_;have r0:(binOp .eql T (a.eval x) (a.eval (.const (.slice none 0 0)))).run C.P w=.ok (.bool b) w:=c0;have v0:∀i j,eqGuard .eql T i j (a.eval x) (a.eval (.const (.slice none 0 0)))=pure ():=by intro i j;show eqGuard .eql T i j (a.eval x) (Value.slice none 0 0)=_;cases a.eval x<;>rfl
          have e0:mN C.P o a w W μ st.m (.bool b) st.m:=⟨.value (.bool b),.bool b,w,W,μ,by simp[execOp,x0,v0,r0],.inl rfl,nG (nL (nN (.bool b))),L.refl⟩;refine Oper.wp_of_yields L e0 λ v w' W' μ' hrv hst=>?_;rw[V.dst];refine IR hG ps (n+1) (st.app p.dst (.bool b) []) (a.put p.dst v) w' p0 ⟨W',μ',?_⟩ K hK hk;rw[IM st _ _ _ (by trivial)];exact L.step hst V.lt hrv
        have z0:∀es,RepC w W (a.eval x) (.sl es)->(∀b:Bool,(b=true->es=[])->arun C ps (st.app p.dst (.bool b) []) K)->wpOps C.P F Q (List.range' n (p::ps).length) a w:=λ es f0 hK=>by
          rcases f0.open_sl with⟨h0,ad,s0,hv⟩|⟨bb,g0,s0,sz,us,hv,_⟩
          .refine go ad.isNone (by rw[hv];exact Lib.run_eql_slice_nil w T e ad 0 s0 0 0 hd) (hK _ λ _=>h0)
          .refine go false (by rw[hv];exact Lib.run_eql_slice_nil w T e _ _ s0 0 0 hd) (hK _ λ h=>nomatch h)
        unfold nilQ at h;split at h
        .rename_i es t0;cases t0;exact z0 es O h
        .rename_i es t0;cases t0;exact z0 es (RepC.of_full O).1 h
        .exact h.elim
      .cases H
    split at h
    · rename_i hq
      obtain⟨hg,M,h⟩:=h;have H:=V.op;have q0:o.guard=none:=by
        have:=V.g;rw[hg]at this;cases hog:o.guard with
        |none=>rfl
        |some r=>simp[hog]at this
      rw[IN]at M;rw[FI]at h;have z0:∀(v:A) (B:List (Nat×MS)),arun C ps (st.app p.dst v B) K->(∀q∈B,∃r,q.2=.row r/\∃r',st.m q.1=.row r')->mN C.P o a w W μ st.m v (setM st.m B)->wpOps C.P F Q (List.range' n (p::ps).length) a w:=λ v B hK u0 Z=>by simp only[ym,hI,wpOps,ho];rw[cB (by simp[Region.wanted,q0])];refine .inl ?_;refine Oper.wp_of_yields L Z λ u w' W' μ' hrv hst=>?_;rw[V.dst];refine IR hG ps (n+1) (st.app p.dst v B) (a.put p.dst u) w' p0 ⟨W',μ',?_⟩ K hK hk;rw[IM st _ _ _ (QQ B u0)];exact L.step hst V.lt hrv
      cases Y:p.po<;>rw[Y]at hq<;>first|(cases hq;done)|skip
      · rw[Y]at H h
        simp only[tZ]at H;split at H
        · rename_i x x0
          have hV:=xH L hG p.xs [x] H M;obtain⟨av,y0,O⟩:=hV.one;have U:nO C st.slot p.xs=[av]:=y0;rw[U]at h;obtain⟨v,B,hK,u0,Z⟩:=YJ L x0 O (show nxtQ _ st.toS.mem (λ v B=>arun C ps (st.app p.dst v B) K) [av]from h);exact z0 v B hK u0 Z
        .cases H
      · rw[Y]at H h
        simp only[tZ]at H;split at H
        · rename_i x x0
          have hV:=xH L hG p.xs [x] H M;obtain⟨av,y0,O⟩:=hV.one;have U:nO C st.slot p.xs=[av]:=y0;rw[U]at h;obtain⟨v,B,hK,u0,Z⟩:=YK L x0 O (show entQ _ st.toS.mem (λ v B=>arun C ps (st.app p.dst v B) K) [av]from h);exact z0 v B hK u0 Z
        .cases H
    have:=QP L hG V h (Q:=Q) (k:=wpOps C.P F Q (List.range' (n+1) ps.length)) (λ st' a' w' hK hs'=>IR hG ps (n+1) st' a' w' p0 hs' K hK hk);simp only[ym,hI,wpOps,ho];split at this
    .rename_i hw;rw[cB hw];exact .inl this
    .rename_i hw;rw[bX hw];exact this
def ROk.size{H:Array Oper}:∀{ps:List POp} {n N:Nat},ROk C N H n ps->n+ps.length=H.size
  |[],n,_,h=>h
  |_::ps,n,_,h=>by have:=h.2.size;simp;omega
def Y6{H:Array Oper}{id:Nat}(hG:E.G=C.G){ps:List POp}(O:ROk C E.N H 0 ps){st:St}{a:Act}{w:World}(Y:Sat E st.toS a w){K:St->Prop}(h:arun C ps st K){Q:Exit->Act->World->Prop}
    (B:∀st' U w',K st'->Sat E st'.toS U w'->Q .normal U w'):(Code.region id H false).wp C.P Q a w:=by
  refine wp_region ?_;have:=IR hG ps 0 st a w O Y K h (Q:=Q) B;rw[eZ];have e:=O.size;rw[eC]at e;rw[<-e];exact this
end
inductive PC where
  |skip
  |reg (dr:List Nat) (ops:List POp)
  |regd (dr:List Nat) (ops:List POp)
  |regm (dr:List Nat) (an:List (List Nat)) (ops:List POp)
  |seq (a b:PC)
  |cond (x:PX) (a b:PC)
  |block (id:Nat) (c:PC)
  |loop (c:PC)
  |exit (id:Nat)
  |ret
  |scope (c:PC)
  |label
  |dead
def chkG(H:Array Oper)(p:POp)(o:Oper):Bool:=
  match p.g,o.guard with
  |none,none=>true
  |some q,some r=>r.2==q.2&&(H[r.1]?).bind (·.dst)==some q.1
  |_,_=>false
def chkD(N:Nat):Option Nat->Bool
  |none=>true
  |some d=>Nat.blt d N
def chkR(P:Program)(N:Nat)(H:Array Oper):List Oper->List POp->Bool
  |[],[]=>true
  |o::os,p::ps=>o.dst==p.dst&&chkD N p.dst&&chkG H p o&&tZ P o.op p.po p.xs&&chkR P N H os ps
  |_,_=>false
def POp.sortOk:List Oper->Nat->Bool
  |[],_=>true
  |o::os,i=>o.after.all (λ e=>!Region.binds .any e||Nat.blt e.on i)&&POp.sortOk os (i+1)
def rdsX:List PX->List Nat
  |[]=>[]
  | .t n::ps=>n::rdsX ps
  |_::ps=>rdsX ps
def POp.rds(p:POp):List Nat:=(match p.g with|none=>[]|some q=>[q.1])++rdsX p.xs
def conf(p q:POp):Bool:=
  (match p.dst with|none=>false|some d=>q.dst==some d||q.rds.contains d)||(match q.dst with|none=>false|some d=>p.rds.contains d)
def pP(o:Oper):List Nat:=(o.after.toList.filter λ e=>Region.binds .any e).map (·.on)
def ancs:List (List Nat)->List (List Nat)->List (List Nat)
  |acc,[]=>acc
  |acc,e::es=>ancs (acc++[e++e.flatMap λ i=>acc.getD i []]) es
def C4(ps:List POp)(H:List (List Nat)):Bool:=
  (List.range ps.length).all λ j=>(List.range j).all λ i=>match ps[i]?,ps[j]? with
    |some p,some q=>!conf p q||(H.getD j []).contains i
    |_,_=>true
def QR(H:Array Oper)(ps:List POp):Bool:=POp.sortOk H.toList 0&&C4 ps (ancs [] (H.toList.map pP))
def chkC(P:Program)(N:Nat):Code->PC->Bool
  | .skip,.skip=>true
  | .region _ ops false,.reg _ ps=>chkR P N ops ops.toList ps
  | .region _ ops true,.regd _ ps=>chkR P N ops ops.toList ps&&QR ops ps
  | .region _ ops true,.regm _ an ps=>chkR P N ops ops.toList ps&&(POp.sortOk ops.toList 0&&(C4 ps an&&an==ancs [] (ops.toList.map pP)))
  | .seq a b,.seq c d=>chkC P N a c&&chkC P N b d
  | .cond x a b,.cond p c d=>chkX x p&&chkC P N a c&&chkC P N b d
  | .block i a,.block j c=>i==j&&chkC P N a c
  | .loop a,.loop c=>chkC P N a c
  | .exit i,.exit j=>i==j
  | .ret,.ret=>true
  | .scope a,.scope c=>chkC P N a c
  | .label _,.label=>true
  |_,.dead=>true
  |_,_=>false
def St.drop(st:St)(H:List Nat):St:=⟨CY H st.fr,st.mem,st.nx⟩
def AW(C:Cx)(E:Env)(c:PC)(Q:Exit->St->Prop)(st:St):Prop:=
  ∀H,chkC C.P E.N H c=true->∀a w,Sat E st.toS a w->H.wp C.P (λ e O w'=>∃st',Q e st'/\Sat E st'.toS O w') a w
def St.le(E:Env)(st st':St):Prop:=∀a w,Sat E st.toS a w->Sat E st'.toS a w
def fixL(l:List (Nat×Nat)):Nat->Bool
  |0=>true
  |n+1=>Nat.beq (rho l n) n&&fixL l n
def rL(k:Nat)(l:List (Nat×Nat))(nx:Nat):Bool:=fixL l k&&Nat.ble k nx
def QS{l:List (Nat×Nat)}:∀{k:Nat},fixL l k=true->∀x,x<k->rho l x=x
  |k+1,h,x,K=>by
    simp only[fixL,bY]at h
    by_cases H:x=k
    .subst H;exact fQ h.1
    .exact QS h.2 x om
section
variable {C:Cx} {E:Env} {Q:Exit→St→Prop} {st:St}
def AW.mono{c:PC}{O:Exit->St->Prop}(h:AW C E c Q st)(U:∀e s,Q e s->O e s):AW C E c O st:=
  λ H Y a w B=>wp_mono (h H Y a w B) λ e _ _ ⟨st',K,L⟩=>⟨st',U e st' K,L⟩
def AW.weak{c:PC}{st':St}(O:St.le E st st')(h:AW C E c Q st'):AW C E c Q st:=
  λ H U a w Y=>h H U a w (O a w Y)
def Y7(h:Q .normal st):AW C E .skip Q st:=λ H O a w U=>by cases H<;>simp[chkC]at O;exact wp_skip ⟨st,h,U⟩
def Y8(h:Q .normal st):AW C E .label Q st:=λ H O a w U=>by cases H<;>simp[chkC]at O;exact wp_label ⟨st,h,U⟩
def Y9{c:PC}(h:AW C E c (λ e s=>match e with|.goto _=>False|e=>Q e s) st):AW C E (.scope c) Q st:=λ H O a w U=>by
  cases H<;>simp[chkC]at O;rename_i Y;refine wp_scope_straight (wp_mono (h Y O a w U) λ e B w' ⟨st',K,L⟩=>?_);cases e with
  |goto l=>exact K
  |_=>exact⟨st',K,L⟩
def Za{x y:PC}(h:AW C E x (λ e s=>match e with|.normal=>AW C E y Q s|e=>Q e s) st):AW C E (.seq x y) Q st:=λ H O a w U=>by
  cases H<;>simp[chkC]at O;rename_i Y V;refine wp_seq (wp_mono (h Y O.1 a w U) λ e B w' ⟨st',K,L⟩=>?_);cases e with
  |normal=>exact K V O.2 B w' L
  |_=>exact⟨st',K,L⟩
def IS{x:PX}{p q:PC}{b:Bool}(L:xv C.G st.slot x=.bool b)(hG:E.G=C.G)(V:b=true->AW C E p Q st)(Y:b=false->AW C E q Q st):AW C E (.cond x p q) Q st:=λ H O a w B=>by
  cases H<;>simp[chkC]at O;rename_i o F Z;obtain⟨W,μ,K⟩:=B;have U:=FB K O.1.1;rw[hG]at U;have hv:Rep w W μ (a.eval o) (.bool b):=by rw[<-L];exact U
  exact wp_cond_split hv.bool (λ hb=>V hb F O.1.2 a w ⟨W,μ,K⟩) (λ hb=>Y hb Z O.2 a w ⟨W,μ,K⟩)
def MF{id:Nat}{c:PC}(h:AW C E c (λ e s=>match e with|.exit i=>(if i=id then Q .normal s else Q (.exit i) s)|e=>Q e s) st):AW C E (.block id c) Q st:=λ H O a w Y=>by
  cases H<;>simp[chkC]at O;rename_i i B;obtain⟨rfl,O⟩:=O;refine wp_block (wp_mono (h B O a w Y) λ e F w' ⟨st',K,L⟩=>?_);cases e with
  |exit j=>
    simp only[Exit.inBlock]at K⊢;split at K
    .rename_i U;rw[cB U];exact⟨st',K,L⟩
    .rename_i U;rw[bX U];exact⟨st',K,L⟩
  |_=>exact⟨st',K,L⟩
def Zb{id:Nat}(h:Q (.exit id) st):AW C E (.exit id) Q st:=λ H O a w U=>by cases H<;>simp[chkC]at O;subst O;exact wp_exit ⟨st,h,U⟩
def Zc(h:Q .ret st):AW C E .ret Q st:=λ H O a w U=>by cases H<;>simp[chkC]at O;exact wp_ret ⟨st,h,U⟩
def QT{c:PC}{G:Type}(I:G->St)(U:G->Prop)(μ:G->Nat)(L:G)(h0:U L)(u0:St.le E st (I L))
    (h:∀g,U g->AW C E c (λ e s=>match e with|.normal=>∃g',U g'/\St.le E s (I g')/\μ g'<μ g|e=>Q e s) (I g)):AW C E (.loop c) Q st:=λ y0 hc a w V=>by
  cases y0<;>simp[chkC]at hc;rename_i O;refine wp_mono (c:=.loop O) (Q:=λ e a' w'=>∃st',Q e st'/\Sat E st'.toS a' w') ?_ (λ _ _ _ h=>h);have v0:∀n g,μ g=n->U g->∀a w,Sat E (I g).toS a w->∀(b:Frame) (k:List Item) (B:List Frame),
      ∃e a' w',(∃st',Q e st'/\Sat E st'.toS a' w')/\Arrives C.P (lone (b.at a (.code O:: .inLoop O::k)) B w) b k B e a' w':=by
    intro n;induction n using Nat.strongRecOn with
    |_ n ih=>
      intro g hn hg a w V b k B;obtain⟨e,F,M,⟨st',Y,K⟩,H⟩:=h g hg O hc a w V b (.inLoop O::k) B;cases e with
      |normal=>obtain⟨g',p0,z0,Z⟩:=Y;obtain⟨e₂,a₂,w₂,q0,x0⟩:=ih (μ g') (hn▸Z) g' rfl p0 F M (z0 F M K) b k B;exact⟨e₂,a₂,w₂,q0,.of_steps (Steps.trans H (.one step_inLoop)) x0⟩
      |exit id=>exact⟨_,F,M,⟨st',Y,K⟩,.pass (x:=.inLoop O) rfl (λ _ _=>.inl (by simp)) H⟩
      |goto l=>exact⟨_,F,M,⟨st',Y,K⟩,.pass (x:=.inLoop O) rfl (λ _ _=>.inl (by simp)) H⟩
      |ret=>exact⟨_,F,M,⟨st',Y,K⟩,.pass (x:=.inLoop O) rfl (λ _ _=>.inl (by simp)) H⟩
      |panic ch=>exact⟨_,F,M,⟨st',Y,K⟩,.pass (x:=.inLoop O) rfl (λ _ _=>.inl (by simp)) H⟩
      |outgrown=>exact⟨_,F,M,⟨st',Y,K⟩,.pass (x:=.inLoop O) rfl (λ _ _=>.inl (by simp)) H⟩
  intro b k B;obtain⟨e,a',w',Y,H⟩:=v0 _ L rfl h0 a w (u0 a w V) b k B;exact⟨e,a',w',Y,.of_steps (.one step_loop) H⟩
def Zd{c:PC}{G:Type}(I:G->St)(L:G->Prop)(μ:G->Nat)
    (h:∀g,L g->AW C E c (λ e s=>match e with|.normal=>∃M,L M/\St.le E s (I M)/\μ M<μ g|e=>Q e s) (I g))
    (h1:AW C E c (λ e s=>match e with|.normal=>∃M,L M/\St.le E s (I M)|e=>Q e s) st):AW C E (.loop c) Q st:=λ u0 V a w Z=>by
  have p0:=V;cases u0<;>simp[chkC]at V;rename_i O;refine wp_mono (c:=.loop O) (Q:=λ e a' w'=>∃st',Q e st'/\Sat E st'.toS a' w') ?_ (λ _ _ _ h=>h);have v0:∀n g,μ g=n->L g->∀a w,Sat E (I g).toS a w->∀(b:Frame) (k:List Item) (cs:List Frame),
      ∃e a' w',(∃st',Q e st'/\Sat E st'.toS a' w')/\Arrives C.P (lone (b.at a (.code O:: .inLoop O::k)) cs w) b k cs e a' w':=by
    intro n;induction n using Nat.strongRecOn with
    |_ n ih=>
      intro g hn hg a w Z b k cs;obtain⟨e,U,Y,⟨st',F,K⟩,H⟩:=h g hg O V a w Z b (.inLoop O::k) cs;cases e with
      |normal=>obtain⟨M,y0,h0,hlt⟩:=F;obtain⟨e₂,a₂,w₂,z0,B⟩:=ih (μ M) (hn▸hlt) M rfl y0 U Y (h0 U Y K) b k cs;exact⟨e₂,a₂,w₂,z0,.of_steps (Steps.trans H (.one step_inLoop)) B⟩
      |exit id=>exact⟨_,U,Y,⟨st',F,K⟩,.pass (x:=.inLoop O) rfl (λ _ _=>.inl (by simp)) H⟩
      |goto l=>exact⟨_,U,Y,⟨st',F,K⟩,.pass (x:=.inLoop O) rfl (λ _ _=>.inl (by simp)) H⟩
      |ret=>exact⟨_,U,Y,⟨st',F,K⟩,.pass (x:=.inLoop O) rfl (λ _ _=>.inl (by simp)) H⟩
      |panic ch=>exact⟨_,U,Y,⟨st',F,K⟩,.pass (x:=.inLoop O) rfl (λ _ _=>.inl (by simp)) H⟩
      |outgrown=>exact⟨_,U,Y,⟨st',F,K⟩,.pass (x:=.inLoop O) rfl (λ _ _=>.inl (by simp)) H⟩
  intro b k cs;obtain⟨e,U,Y,⟨st',F,K⟩,H⟩:=h1 O V a w Z b (.inLoop O::k) cs;cases e with
  |normal=>obtain⟨M,y0,h0⟩:=F;obtain⟨e₂,a₂,w₂,z0,B⟩:=v0 _ M rfl y0 U Y (h0 U Y K) b k cs;exact⟨e₂,a₂,w₂,z0,.of_steps (Steps.trans (.one step_loop) (Steps.trans H (.one step_inLoop))) B⟩
  |exit id=>exact⟨_,U,Y,⟨st',F,K⟩,.of_steps (.one step_loop) (.pass (x:=.inLoop O) rfl (λ _ _=>.inl (by simp)) H)⟩
  |goto l=>exact⟨_,U,Y,⟨st',F,K⟩,.of_steps (.one step_loop) (.pass (x:=.inLoop O) rfl (λ _ _=>.inl (by simp)) H)⟩
  |ret=>exact⟨_,U,Y,⟨st',F,K⟩,.of_steps (.one step_loop) (.pass (x:=.inLoop O) rfl (λ _ _=>.inl (by simp)) H)⟩
  |panic ch=>exact⟨_,U,Y,⟨st',F,K⟩,.of_steps (.one step_loop) (.pass (x:=.inLoop O) rfl (λ _ _=>.inl (by simp)) H)⟩
  |outgrown=>exact⟨_,U,Y,⟨st',F,K⟩,.of_steps (.one step_loop) (.pass (x:=.inLoop O) rfl (λ _ _=>.inl (by simp)) H)⟩
def Ze{H:Array Oper}{p:POp}{o:Oper}(h:chkG H p o=true):match p.g,o.guard with|none,none=>True|some q,some r=>r.2=q.2/\(H[r.1]?).bind (·.dst)=some q.1|_,_=>False:=by unfold chkG at h;cases K:p.g<;>cases L:o.guard<;>simp only[K,L]at h⊢<;>first|trivial|(cases h;done)|(simp only[bY,dN]at h;exact h)
def IT{P:Program}{N:Nat}{H:Array Oper}{G:o5}:∀(O:List Oper) (ps:List POp) (n:Nat),chkR P N H O ps=true->(∀i,O[i]? =H[n+i]?)->n+O.length=H.size->ROk ⟨P,G⟩ N H n ps
  |[],[],n,_,_,L=>by
    show n=H.size
    simpa using L
  |o::O,p::ps,n,K,h,L=>by
    simp only[chkR,bY,dN]at K;obtain⟨⟨⟨⟨Y,U⟩,B⟩,F⟩,M⟩:=K;refine⟨⟨o,by have:=h 0;simpa using this.symm,Y,λ d V=>?_,Ze B,F⟩,IT O ps (n+1) M (λ i=>?_) (by simp at L;omega)⟩
    .rw[V]at U;simpa [chkD]using U
    · have:=h (i+1)
      simp only[List.getElem?_cons_succ]at this;rw[this];congr 1;omega
  |[],_::_,_,K,_,_=>by simp[chkR]at K
  |_::_,[],_,K,_,_=>by simp[chkR]at K
def QU{α:Type}:∀(H:List Nat) (l:List (Nat×α)) (t:Nat),look (CY H l) t=if t∈H then none else look l t
  |[],l,t=>by simp[CY]
  |n::H,l,t=>by
    simp only[CY];rw[QU H,xG]
    by_cases O:t∈H
    .simp[O]
    · by_cases U:t=n
      .simp[U]
      .simp[O,U]
def Sat.drop{a:Act}{w:World}{H:List Nat}(h:Sat E st.toS a w):Sat E (st.drop H).toS a w:=by
  obtain⟨W,μ,O⟩:=h;refine⟨W,μ,{O with fr:=λ t=>?_}⟩;show Rep w W μ _ ((st.drop H).slot t);simp only[St.slot,St.drop,QU];split
  .trivial
  .exact O.fr t
def Zf{Y:List Nat}{H:List POp}(hG:E.G=C.G)(h:arun C H st λ s=>Q .normal (s.drop Y)):AW C E (.reg Y H) Q st:=λ O U a w B=>by
  cases O with
  |region id F d=>
   cases d with
   |true=>simp[chkC]at U
   |false=>simp only[chkC]at U;refine Y6 hG (ps:=H) ?_ B h (λ st' M w' hK K=>⟨_,hK,K.drop⟩);obtain⟨P,G⟩:=C;exact IT F.toList H 0 U (by simp) (by simp)
  |_=>simp[chkC]at U
def idOk(nx:Nat):A->Prop
  | .agg H=>if mK H then True else∀c∈H,xF nx c
  | .tup _=>False
  | .cnd _ _=>False
  |a=>xF nx a
def leF(l:List (Nat×Nat))(st:St)(nx:Nat):List (Nat×A)->Prop
  |[]=>True
  |q::r=>st.slot q.1=ren l q.2/\idOk nx q.2/\leF l st nx r
def leM(l:List (Nat×Nat))(st:St)(nx:Nat):List (Nat×Row)->Prop
  |[]=>True
  |q::r=>(match look st.mem (rho l q.1)with
      |some H=>(q.2.ro=true\/H.ro=false)/\H.sz=q.2.sz/\H.es=pY l q.2.es/\(q.2.sz=0->H.z=q.2.z)
      |none=>False)/\rho l q.1<st.nx/\q.1<nx/\idEs nx q.2.es/\leM l st nx r
def Le(l:List (Nat×Nat))(st st':St):Prop:=leF l st st'.nx st'.fr/\leM l st st'.nx st'.mem/\AS (st'.mem.map λ q=>rho l q.1)=true
def QV{l:List (Nat×Nat)}{nx:Nat}:∀{fr:List (Nat×A)},leF l st nx fr->∀t v,look fr t=some v->st.slot t=ren l v/\idOk nx v
  |q::r,h,t,v,K=>by
    simp only[look]at K;split at K
    .rename_i H;cases K;subst H;exact⟨h.1,h.2.1⟩
    .exact QV h.2.2 t v K
def QW{l:List (Nat×Nat)}{nx:Nat}:∀{m:List (Nat×Row)},leM l st nx m->∀x r,look m x=some r->(∃H,look st.mem (rho l x)=some H/\(r.ro=true\/H.ro=false)/\H.sz=r.sz/\H.es=pY l r.es/\(r.sz=0->H.z=r.z))/\rho l x<st.nx/\x<nx/\idEs nx r.es
  |q::r,h,t,v,K=>by
    simp only[look]at K;split at K
    · rename_i Y;cases K;subst Y
      obtain⟨O,B,F,M,_⟩:=h;refine⟨?_,B,F,M⟩;split at O
      .rename_i H U;exact⟨H,U,O⟩
      .exact O.elim
    .exact QW h.2.2.2.2 t v K
def Zg(l:List (Nat×Nat))(a:A):(ren1 l a).pure1=a.pure1:=by
  cases a with
  |clo f H=>cases H<;>rfl
  |_=>rfl
def QX(l:List (Nat×Nat)):∀H:List A,mK (H.map (ren1 l))=mK H
  |[]=>rfl
  |a::H=>by simp only[dO,mK,Zg,QX l H]
def QY(l:List (Nat×Nat)):∀es:List (List A),pureEs (es.map (·.map (ren1 l)))=pureEs es
  |[]=>rfl
  |a::cs=>by simp only[dO,pureEs,QX,QY l cs]
def Zh{l:List (Nat×Nat)}{es:List (List A)}(h:pureEs (pY l es)=true):pY l es=es:=by
  unfold pY at*;split at h
  .rename_i H;rw[cB H]
  .rename_i H;rw[QY]at h;exact absurd h H
def QZ{l:List (Nat×Nat)}:∀{es:List (List A)} {H:List Nat},es.map (·.map (ren1 l))=H.map iE->es=H.map iE
  |[],[],_=>rfl
  |[],_::_,h=>by simp at h
  |_::_,[],h=>by simp at h
  |c::es,i::H,h=>by
    simp only[dO,gK]at h;obtain⟨O,U⟩:=h;rw[QZ U,dO];congr 1
    match c,O with
    |[a],O=>simp only[iE,dO,iQ,gK,jF]at O;cases a<;>simp_all[ren1,ren0,iE]
    |[],O=>simp[iE]at O
    |_::_::_,O=>simp[iE]at O
def Zi{l:List (Nat×Nat)}{es:List (List A)}{y c:Nat}{O:List Nat}(h:pY l es=[.mp y,.int .i64 c]::O.map iE):∃U,es=[.mp U,.int .i64 c]::O.map iE/\rho l U=y:=by
  unfold pY at h;split at h
  .rename_i Y;rw[h]at Y;simp[pureEs,mK,A.pure1]at Y
  · cases es with
    |nil=>simp at h
    |cons d es=>
      simp only[dO,gK]at h;obtain⟨H,F⟩:=h;rw[QZ F]
      match d,H with
      |[a,b],H=>
        simp only[dO,iQ,gK,jF]at H;obtain⟨B,M⟩:=H;have hb:b=.int .i64 c:=by cases b<;>simp_all[ren1,ren0]
        cases a<;>simp[ren1,ren0]at B;exact⟨_,by rw[hb],B⟩
      |[],H=>simp at H
      |[_],H=>simp at H
      |_::_::_::_,H=>simp at H
def C5{l:List (Nat×Nat)}{nx:Nat}{w:World}{W:Nat->Prop}{μ μ':Nat->Loc}(O:∀x,x<nx->(μ' x=μ (rho l x)\/μ' x=.dead)){v:Value}{b:A}(H:FG nx b)(h:RepP w W μ v (ren0 l b)):RepP w W μ' v b:=by
  cases b with
  |own x lo n=>
    refine⟨h.1,?_⟩;rcases O x H with e|e
    .rw[e];exact h.2
    .rw[e];trivial
  |ptr x i j=>
    refine⟨h.1,?_⟩;rcases O x H with e|e
    .rw[e];exact h.2
    .rw[e];trivial
  |mp x=>
    refine⟨h.1,?_⟩;rcases O x H with e|e
    .rw[e];exact h.2
    .rw[e];trivial
  |it x=>
    refine⟨h.1,?_⟩;rcases O x H with e|e
    .rw[e];exact h.2
    .rw[e];trivial
  |_=>exact h
def tJ{l:List (Nat×Nat)}{nx:Nat}{w:World}{W:Nat->Prop}{μ μ':Nat->Loc}(O:∀x,x<nx->(μ' x=μ (rho l x)\/μ' x=.dead)){v:Value}{b:A}(H:xF nx b)(h:RepK w W μ v (ren1 l b)):RepK w W μ' v b:=by
  cases b with
  |clo f cs=>refine h.imp (λ⟨vs,K,L,Y⟩=>?_) (λ⟨B,F,M⟩=>⟨B,F,by simpa using M⟩);exact⟨vs,K,by simpa using L,λ i u c V U=>C5 O (H c (cV U)) (Y i u (ren0 l c) V (by simp[U]))⟩
  |own x lo n=>exact(C5 (b:=.own x lo n) O H (h.toP rfl)).toK
  |ptr x i j=>exact(C5 (b:=.ptr x i j) O H (h.toP rfl)).toK
  |mp x=>exact(C5 (b:=.mp x) O H (h.toP rfl)).toK
  |it x=>exact(C5 (b:=.it x) O H (h.toP rfl)).toK
  |_=>exact h
def St.le_of{E:Env}(l:List (Nat×Nat)){st st':St}(h:Le l st st')(hk:rL E.k0 l st'.nx=true):St.le E st st':=by
  intro a w ⟨W,μ,hs⟩;obtain⟨hF,hM,hD⟩:=h;simp only[rL,bY]at hk;obtain⟨s0,v0⟩:=hk;have v0:E.k0<=st'.nx:=fP v0
  let μ':Nat->Loc:=λ x=>if st'.nx<=x then .fresh else match look st'.mem x with|some _=>μ (rho l x)|none=>.dead
  have Y:∀x,x<st'.nx->(μ' x=μ (rho l x)\/μ' x=.dead):=λ x K=>by
    show(if st'.nx<=x then Loc.fresh else _)=_\/(if st'.nx<=x then Loc.fresh else _)=_;rw[bX om];cases look st'.mem x with
    |none=>exact .inr rfl
    |some r=>exact .inl rfl
  have x0:∀x k,μ' x=.at_ k->μ (rho l x)=.at_ k/\∃r,look st'.mem x=some r:=λ x k K=>by
    have B:(if st'.nx<=x then Loc.fresh else match look st'.mem x with|some _=>μ (rho l x)|none=>.dead)=.at_ k:=K;split at B
    .cases B
    · split at B
      .rename_i r H;exact⟨B,r,H⟩
      .cases B
  refine⟨W,μ',{hs with fr:=λ t=>?_,mem:=λ x=>?_,inj:=λ x y k k' K hy he=>?_,live:=λ x k K=>hs.live _ k (x0 x k K).1,fix:=λ x K=>?_}⟩
  · show Rep w W μ' _ (st'.slot t)
    simp only[St.slot];cases hl:look st'.fr t with
    |none=>trivial
    |some v=>
      obtain⟨h1,O⟩:=QV hF t v hl;have H:=hs.fr t;rw[show st.toS.fr t=st.slot t from rfl,h1]at H;simp only[Xm];cases v with
      |agg cs=>
        simp only[ren,idOk]at H O;split at H
        · rename_i hp
          obtain⟨vs,hv,L,hc⟩:=H;exact⟨vs,hv,L,λ i u c hu F=>nN ((hc i u c hu F).toC (zJ hp c (cV F)))⟩
        · rename_i hp
          rw[bX hp]at O;obtain⟨vs,hv,L,hc⟩:=H;exact⟨vs,hv,by simpa using L,λ i u c hu F=>tJ Y (O c (cV F)) (hc i u _ hu (by simp[F]))⟩
      |clo f cs=>exact nG (nL (tJ (b:=.clo f cs) Y O H))
      |tup cs=>exact O.elim
      |cnd g b=>exact O.elim
      |any=>trivial
      |bool b=>exact nG (nL (tJ (b:=.bool b) Y O H))
      |int k n=>exact nG (nL (tJ (b:=.int k n) Y O H))
      |str b=>exact nG (nL (tJ (b:=.str b) Y O H))
      |sl es=>exact nG (nL (tJ (b:=.sl es) Y O H))
      |full es=>exact nG (nL (tJ (b:=.full es) Y O H))
      |bnd f cs=>exact nG (nL (tJ (b:=.bnd f cs) Y O H))
      |own x lo n=>exact nG (nL (tJ (b:=.own x lo n) Y O H))
      |ptr x i j=>exact nG (nL (tJ (b:=.ptr x i j) Y O H))
      |mp x=>exact nG (nL (tJ (b:=.mp x) Y O H))
      |it x=>exact nG (nL (tJ (b:=.it x) Y O H))
      |rd cs t0=>exact nG (nL (tJ (b:=.rd cs t0) Y O H))
  · show qN w W μ' x (st'.m x)
    unfold St.m
    by_cases K:st'.nx<=x
    · rw[cB K]
      show(if st'.nx<=x then Loc.fresh else _)=_;rw[cB K]
    · rw[bX K]
      cases hl:look st'.mem x with
      |none=>show(if st'.nx<=x then Loc.fresh else match look st'.mem x with|some _=>μ (rho l x)|none=>.dead)=_;rw[bX K,hl]
      |some r=>
        obtain⟨⟨r',h1,z0,U,M,p0⟩,O,h3,h4⟩:=QW hM x r hl;have hm:=hs.mem (rho l x);rw[show st.toS.mem (rho l x)=MS.row r' by show st.m _=_;unfold St.m;rw[bX om,h1]]at hm;have h0:μ' x=μ (rho l x):=by show(if st'.nx<=x then Loc.fresh else match look st'.mem x with|some _=>μ (rho l x)|none=>.dead)=_;rw[bX K,hl]
        rcases hm with⟨e1,V,e3⟩|⟨k,e1,⟨V,e3,e4,us,q0,e,e5,e6,Z⟩|eM|eI⟩
        · refine .inl ⟨h0.trans e1,?_,by omega⟩
          rw[M]at V;simp only[pY]at V;split at V
          .exact V
          .exact kA.1 V
        · refine .inr ⟨k,h0.trans e1,.inl ⟨λ H=>V (z0.elim (λ h=>by rw[H]at h;cases h) (λ h=>h)),e3.trans U,by omega,us,q0,e,e5,e6,?_⟩⟩
          rw[M,U]at Z;exact QK Z h4 (λ u b u0 H=>tJ Y u0 H) (λ u b hp H=>nN (H.toC hp))
        · have hp:=eM.pure
          have e9:r'.es=r.es:=by rw[M];exact Zh (M▸hp)
          obtain⟨V,e3,e4,es,e5,e6,Z⟩:=eM;rw[e9]at e6 Z;rw[p0 (U▸e4)]at Z;exact .inr ⟨k,h0.trans e1,.inr (.inl ⟨λ H=>V (z0.elim (λ h=>by rw[H]at h;cases h) (λ h=>h)),e3.trans U,U▸e4,es,e5,e6,Z⟩)⟩
        · obtain⟨V,e3,e4,ez,y,b,c,r0,e5,e6,Z⟩:=eI
          obtain⟨y0,g1,g2⟩:=Zi (M.symm.trans e5);subst g2;have u0:y0<st'.nx:=by rw[g1]at h4;unfold idEs at h4;rw[bX (by simp[pureEs,mK,A.pure1])]at h4;exact h4 _ (.head _) _ (.head _)
          exact .inr ⟨k,h0.trans e1,.inr (.inr ⟨λ H=>V (z0.elim (λ h=>by rw[H]at h;cases h) (λ h=>h)),e3.trans U,U▸e4,by rw[<-p0 (U▸e4)];exact ez,y0,b,c,r0,g1,C5 (b:=.mp y0) Y u0 e6,Z⟩)⟩
  · obtain⟨h1,r1,O⟩:=x0 x k K
    obtain⟨h3,r2,h4⟩:=x0 y k' hy;exact MA hD x y r1 r2 O h4 (hs.inj _ _ k k' h1 h3 he)
  · have h1:=QS s0 x K
    rcases Y x (by omega)with e|e
    .rw[e,h1];exact hs.fix x K
    .exact .inr e
end
end Ab
end Go.Proofs.YtfmnjkfhahfhgaaGreatDoor
