import Derived.Test.YtfkjffmjkbkmhaaGreatDoorAb14
import Derived.Lib.SliceRun
import Derived.Scope
namespace Go.Proofs.YtfkjffmjkbkmhaaGreatDoor
namespace Ab
set_option linter.unusedSimpArgs false
set_option linter.unusedVariables false
theorem St.m_row {st:St} {x:Nat} {r:Row} (h:st.m x=.row r):x < st.nx:=by
  unfold St.m at h
  split at h
  · cases h
  · omega
theorem St.m_nx (st:St):st.m st.nx=.fresh:=by simp [St.m]
theorem zbH4 (nx:Nat) (r:Row):mwOk nx [(nx,.row r)]:=⟨cY _,by simp,trivial⟩
theorem zbb7 {nx y:Nat} {q:MS} {r:List (Nat×MS)} (h:y < nx) (hq:q≠.fresh) (hr:mwOk nx r):mwOk nx ((y,q) :: r) :=
  ⟨jA h,hq,by rw [bT (by simp only; omega)]; exact hr⟩
theorem zaM7 {nx:Nat}:∀ {x y:List (Nat×MS)},(∀ q ∈ x,q.1 < nx∧q.2≠.fresh)→mwOk nx y→mwOk nx (x++y)
  | [],_,_,h=>h
  | q :: x,y,hx,h=>zbb7 (hx q (.head _)).1 (hx q (.head _)).2 (zaM7 (fun p hp=>hx p (.tail _ hp)) h)
theorem zcB8 {st:St} {po:PO} {vals:List A} {ef:Ef} (he:ev st.nx st.m po vals=some ef):mwOk st.nx ef.mw:=by
  unfold ev at he
  (repeat' split at he)
  all_goals first
    | (cases he; done)
    | (cases he; first
        | trivial
        | exact zbH4 _ _
        | exact zbb7 (St.m_row (by assumption)) (by simp) trivial)
    | (simp only [cG] at he; obtain ⟨q,_,rfl⟩:=he; trivial)
    | (simp only [gN] at he; obtain ⟨new,hnew,l,hl,he⟩:=he; cases he; trivial)
    | (simp only [gN] at he
       obtain ⟨new,hnew,he⟩:=he
       (repeat' split at he) <;> cases he <;> first
         | trivial
         | exact zbH4 _ _
         | exact zbb7 (St.m_row (by assumption)) (by simp) trivial
         | exact zbb7 (St.m_row (by assumption)) (by simp) (zbH4 _ _))
theorem zaM8 {m:Nat→MS}:∀ {xs:List Nat},∀ q ∈ zQ1 m xs,(∃ r,m q.1=.row r)∧q.2≠.fresh
  | x :: xs,q,h=>by
    unfold zQ1 at h
    split at h
    · rename_i r hr
      rcases cE.1 h with rfl|h
      · exact ⟨⟨r,hr⟩,by simp⟩
      · exact zaM8 q h
    · exact zaM8 q h
theorem zdi6 (st:St) (xs:List Nat):mwOk st.nx (zQ1 st.m xs):=by
  have:=zaM7 (nx:=st.nx) (x:=zQ1 st.m xs) (y:=[]) (fun q hq=>let ⟨⟨r,hr⟩,h2⟩:=zaM8 q hq; ⟨St.m_row hr,h2⟩) trivial
  rwa [dV] at this
theorem zbh1 (st:St) (vals:List A) (r:A):mwOk st.nx (zJ7 st.m vals r):=by
  unfold zJ7
  split
  · trivial
  · exact zdi6 st _
theorem zcb4 (st:St) (d:Option Nat) (v:A) (mw:List (Nat×MS)) (h:mwOk st.nx mw):(st.app d v mw).toS=⟨setF st.slot d v,setM st.m mw⟩:=by
  simp only [St.toS,zcj2]
  congr 1
  exact zcu1 mw st.fr st.mem st.nx h _
section
variable {C:Cx} {o:Oper} {a:Act} {E:Env} {st:St} {w:World} {W:Nat→Prop} {μ:Nat→Loc}
theorem zbr3:∀ ps:List PX,zs5 C st ps=zJ3 C st.slot ps
  | []=>rfl
  | p :: ps=>by simp only [zs5,zJ3,zbr3 ps]
theorem zcb5:∀ ps:List PX,zar2 C st ps=gdsF C st.slot ps
  | []=>rfl
  | p :: ps=>by simp only [zar2,gdsF,zcb5 ps]
theorem zcH2 (g:Option (Nat×Bool)):zO4 st g=zM9 st.slot g:=by cases g <;> rfl
theorem zaV1 {s:S} (hs:SatW E s a w W μ) (hG:E.G=C.G):∀ (ps:List PX) (ops:List Operand),zz6 ops ps=true→gdsF C s.fr ps→Vals w W μ a ops (zJ3 C s.fr ps)
  | [],[],_,_=>⟨rfl,by simp⟩
  | p :: ps,x :: xs,h,hg=>by
    simp only [zz6,bS] at h
    obtain ⟨h1,h2⟩:=zaV1 hs hG ps xs h.2 hg.2
    refine ⟨by simp [zJ3,h1],fun i y v hy hv=>?_⟩
    cases i with
    | zero =>
      simp [zJ3] at hy hv
      subst hy; subst hv
      have:=zbG4 hs h.1
      rw [hG] at this
      exact zca7 this hg.1
    | succ i =>
      simp [zJ3] at hy hv
      exact h2 i y v hy hv
  | [],_ :: _,h,_=>by simp [zz6] at h
  | _ :: _,[],h,_=>by simp [zz6] at h
theorem zbr4 (fr:Nat→A):∀ ps:List PX,(zJ3 C fr ps).length=ps.length
  | []=>rfl
  | _ :: ps=>by simp [zJ3,zbr4 fr ps]
def zaF8 (W:Nat→Prop) (μ:Nat→Loc) (ids:List Nat):Nat→Prop:=fun b=>W b∧¬ ∃ x k,x ∈ ids∧μ x=.at_ k∧k.b=b
theorem RepC.less {v:Value} {x:A} {ids:List Nat} (h:RepC w W v x):RepC w (zaF8 W μ ids) v x :=
  h.keep (Keeps.refl (fun _=>False) w) (fun _ _ _ h=>h) (fun _ _ h h2=>h h2.1)
theorem zbH5 {s:S} (hs:SatW E s a w W μ) {v:Value} {x:A} {ids:List Nat} (h:RepK w W μ v x) (hok:zat6 s.mem x) (hid:∀ y ∈ zO3 x,y ∈ ids):RepC w (zaF8 W μ ids) v (frz1 s.mem x):=by
  cases x with
  | own y lo n =>
    simp only [zat6] at hok
    cases hr:s.mem y with
    | fresh=>simp [hr] at hok
    | dead=>simp [hr] at hok
    | row r =>
      simp only [hr] at hok
      obtain ⟨hln,hpure⟩:=hok
      simp only [frz1,hr]
      have hlen:((r.es.drop lo).take n).length=n:=by simp; omega
      rcases hs.own (zp1 (zo5 h)) hr with ⟨rfl,ad,rfl⟩|⟨k,cap,h5,h6,h7,h8,h9,hrow⟩
      · rw [show (r.es.drop lo).take 0=[] by simp]; exact .sl0 _ _
      · obtain ⟨_,hksz,hpos,us0,rest,e,hheap,htot,hf⟩:=hrow
        rw [h6]
        have hf2:=(hf.drop lo).take n
        conv=>arg 3; rw [show n=((r.es.drop lo).take n).length from hlen.symm]
        refine RepC.mk_sl (sz:=r.sz) (us:=(us0.drop (lo * r.sz)).take (n * r.sz)) (fun hW=>hW.2 ⟨y,k,hid y (by simp [zO3]),h5,rfl⟩) (dJ.1 hheap).1 (by omega) ?_ ?_
        · refine ⟨hf2.hl,hf2.hs,fun i c j b hc hb=>?_⟩
          obtain ⟨u,hu,hrk⟩:=hf2.ha i c j b hc hb
          exact ⟨u,hu,(hrk.toC (hpure c (cN hc) b (cN hb))).less⟩
        · intro q u hq
          rw [dP] at hq
          split at hq
          · rw [dT] at hq
            simp only [World.cell?,hheap,hksz,Option.isSome_none,bU,cA,fG]
            rw [dN (cD.1 hq).1,hq]
          · cases hq
  | _=>exact (h.toC hok).less
theorem zaj4:∀ {cs:List A},zn2 cs=true→∀ c ∈ cs,c.pure1=true
  | c :: cs,h,d,hd=>by
    simp only [zn2,bS] at h
    rcases cE.1 hd with rfl|hd
    · exact h.1
    · exact zaj4 h.2 d hd
theorem zcb6 {s:S} (hs:SatW E s a w W μ) {v:Value} {x:A} {ids:List Nat} (h:Rep w W μ v x) (hok:zaC4 s.mem x) (hid:∀ y ∈ zat7 x,y ∈ ids):RepV w (zaF8 W μ ids) zat5 v (frz s.mem x):=by
  cases x with
  | agg cs =>
    obtain ⟨vs,rfl,hl,hr⟩:RepV w W μ v (.agg cs):=h
    by_cases hp:zn2 cs=true
    · simp only [frz,hp,cB]
      exact ⟨vs,rfl,hl,fun i u b hu hb=>zq1 ((hr i u b hu hb).toC (zaj4 hp b (cN hb))).less⟩
    · simp only [frz,zaC4,zat7,hp] at hok hid ⊢
      refine ⟨vs,rfl,by simp [hl],fun i u b hu hb=>?_⟩
      simp only [cL,cG] at hb
      obtain ⟨c,hc,rfl⟩:=hb
      have hcm:=cN hc
      exact zq1 (zbH5 hs (hr i u c hu hc) (hok c hcm) (fun y hy=>hid y (fM.2 ⟨c,hcm,hy⟩)))
  | clo f cs =>
    have:cs=[]:=hok
    subst this
    obtain ⟨vs,hv,hl,hr⟩:RepV w W μ v (.clo f []):=h
    exact ⟨vs,hv,hl,by simp⟩
  | any=>simp [zaC4,zat6,A.pure1] at hok
  | tup cs=>simp [zaC4,zat6,A.pure1] at hok
  | cnd g b=>simp [zaC4,zat6,A.pure1] at hok
  | ptr y i j=>simp [zaC4,zat6,A.pure1] at hok
  | rd cs off=>simp [zaC4,zat6,A.pure1] at hok
  | own y lo n=>exact zo5 (zq1 (zbH5 hs (show RepK w W μ v (.own y lo n) from h) hok hid))
  | bool b=>exact zo5 (zq1 (RepC.less (show RepC w W v (.bool b) from h)))
  | int k n=>exact zo5 (zq1 (RepC.less (show RepC w W v (.int k n) from h)))
  | str b=>exact zo5 (zq1 (RepC.less (show RepC w W v (.str b) from h)))
  | sl es=>exact zo5 (zq1 (RepC.less (show RepC w W v (.sl es) from h)))
  | full es=>exact zo5 (zq1 (RepC.less (show RepC w W v (.full es) from h)))
theorem zbV6 (m:Nat→MS):∀ {vals:List A} (i:Nat) (b:A),(zO8 m vals)[i]? = some b→∃ x,vals[i]? = some x∧b=frz m x
  | [],i,b,h=>by simp [zO8] at h
  | x :: xs,i,b,h=>by
    cases i with
    | zero=>simp [zO8] at h; exact ⟨x,rfl,h.symm⟩
    | succ i=>simp [zO8] at h; exact zbV6 m i b h
theorem zbz8 {m:Nat→MS}:∀ {vals:List A},zE9 m vals→∀ x ∈ vals,zaC4 m x
  | x :: xs,h,y,hy=>by
    rcases cE.1 hy with rfl|hy
    · exact h.1
    · exact zbz8 h.2 y hy
theorem zbr5:∀ {vals:List A} {x:A},x ∈ vals→∀ y ∈ zat7 x,y ∈ zF0 vals
  | z :: zs,x,hx,y,hy=>by
    simp only [zF0,cI]
    rcases cE.1 hx with rfl|hx
    · exact .inl hy
    · exact .inr (zbr5 hx y hy)
theorem zbk4 (m:Nat→MS):∀ vals:List A,(zO8 m vals).length=vals.length
  | []=>rfl
  | _ :: xs=>by simp [zO8,zbk4 m xs]
theorem zbE8 (m:Nat→MS):∀ (ids:List Nat) (m0:Nat→MS) (x:Nat),setM m0 (zQ1 m ids) x=if x ∈ ids then (match m x with|.row r=>.row ⟨true,r.sz,r.z,r.es⟩|_=>m0 x) else m0 x
  | [],m0,x=>by simp [zQ1,setM]
  | y :: ys,m0,x=>by
    unfold zQ1
    split
    · rename_i r hr
      simp only [setM]
      rw [zbE8 m ys]
      by_cases h1:x ∈ ys
      · simp only [h1,cB,cE,or_true]
        by_cases hxy:x=y
        · subst hxy; simp [hr]
        · cases m x <;> simp [hxy]
      · simp only [h1,cA,cE,kN]
        by_cases hxy:x=y
        · subst hxy; simp [hr]
        · simp [hxy]
    · rename_i hr
      rw [zbE8 m ys]
      by_cases h1:x ∈ ys
      · simp [h1]
      · simp only [h1,cA,cE,kN]
        split
        · rename_i hxy
          subst hxy
          split
          · rename_i r hr2; exact absurd hr2 (hr r)
          · rfl
        · rfl
theorem zdi7 {s:S} (hs:SatW E s a w W μ) {w':World} (hk:Keeps (fun _=>False) w w') (ids:List Nat):Step s.mem (setM s.mem (zQ1 s.mem ids)) w w' W (zaF8 W μ ids) μ μ where
  keeps:=hk.mono fun _ _ h=>h.elim
  hW:=fun _ _ h=>h.1
  wsup:=fun b hb=>by
    by_cases h:∃ x k,x ∈ ids∧μ x=.at_ k∧k.b=b
    · obtain ⟨x,k,_,h2,h3⟩:=h; exact .inr ⟨x,k,h2,h3⟩
    · exact .inl ⟨hb,h⟩
  wlt0:=hs.wlt
  wlt:=fun b h=>eK (hs.wlt b h.1) hk.size
  old:=Old.refl μ
  mem:=fun x=>by
    rw [zbE8]
    have hm:=hs.mem x
    have hgo:∀ (r:Row) (k:Blk),zaP9 w W μ r k→(r.ro=false→¬ x ∈ ids)→μ x=.at_ k→zaP9 w' (zaF8 W μ ids) μ r k:=fun r k hrow hx hk'=>by
      obtain ⟨h1,h2,h3,us,rest,e,h4,h5,h6⟩:=hrow
      refine ⟨fun hr=>⟨h1 hr,fun ⟨y,ky,hy,hy2,hy3⟩=>hx hr (hs.inj y x ky k hy2 hk' hy3 ▸ hy)⟩,h2,h3,us,rest,e,?_,h5,h6.mono fun u b hr=>hr.goes hk (fun _ _ _ h=>h) (fun _ _ h h2=>h h2.1) (Old.refl μ)⟩
      rw [hk.block k.b (dJ.1 h4).1 (fun h=>h)]
      exact h4
    split
    · rename_i hx
      cases hr:s.mem x with
      | fresh=>rw [hr] at hm; exact hm
      | dead=>rw [hr] at hm; exact hm
      | row r =>
        rw [hr] at hm
        rcases hm with h1|⟨k,h1,h2⟩
        · exact .inl h1
        · exact .inr ⟨k,h1,hgo ⟨true,r.sz,r.z,r.es⟩ k ⟨by simp,h2.2⟩ (by simp) h1⟩
    · rename_i hx
      cases hr:s.mem x with
      | fresh=>rw [hr] at hm; exact hm
      | dead=>rw [hr] at hm; exact hm
      | row r =>
        rw [hr] at hm
        rcases hm with h1|⟨k,h1,h2⟩
        · exact .inl h1
        · exact .inr ⟨k,h1,hgo r k h2 (fun _=>hx) h1⟩
  inj:=hs.inj
  live:=fun x k h=>.inl ⟨x,k,h,rfl⟩
theorem zbV7:Old zat5 μ:=fun x h=>absurd rfl h
theorem zcS9 {W':Nat→Prop} {v:Value} {r:A} (h:Rep w W zat5 v r) (hr:r.scal=true):Rep w W' μ v r:=by
  have c1:∀ {u:Value} {b:A},b.scal1=true→RepK w W zat5 u b→RepK w W' μ u b:=fun {u b} hb hu=>by
    cases b <;> simp [A.scal1] at hb
    · have:RepC w W u _:=hu
      cases this; exact zq1 (.bool _)
    · have:RepC w W u _:=hu
      cases this; exact zq1 (.int _ _)
    · have:RepC w W u _:=hu
      cases this; exact zq1 (.str _)
  have ccs:∀ {cs:List A},zu6 cs=true→∀ c ∈ cs,c.scal1=true:=fun {cs}=>by
    induction cs with
    | nil=>simp
    | cons d ds ih =>
      intro h c hc
      simp only [zu6,bS] at h
      rcases cE.1 hc with rfl|hc
      · exact h.1
      · exact ih h.2 c hc
  have c2:∀ {u:Value} {b:A},b.scal2=true→RepV w W zat5 u b→RepV w W' μ u b:=fun {u b} hb hu=>by
    cases b with
    | agg cs =>
      obtain ⟨vs,hv,hl,hr⟩:=hu
      exact ⟨vs,hv,hl,fun i u c h1 h2=>c1 (ccs hb c (cN h2)) (hr i u c h1 h2)⟩
    | bool b=>exact zo5 (c1 hb hu)
    | int k n=>exact zo5 (c1 hb hu)
    | str b=>exact zo5 (c1 hb hu)
    | _=>simp [A.scal2,A.scal1] at hb
  have cvs:∀ {cs:List A},zbH3 cs=true→∀ c ∈ cs,c.scal2=true:=fun {cs}=>by
    induction cs with
    | nil=>simp
    | cons d ds ih =>
      intro h c hc
      simp only [zbH3,bS] at h
      rcases cE.1 hc with rfl|hc
      · exact h.1
      · exact ih h.2 c hc
  cases r with
  | tup as =>
    obtain ⟨vs,hv,hl,hr'⟩:=h
    exact ⟨vs,hv,hl,fun i u c h1 h2=>c2 (cvs hr c (cN h2)) (hr' i u c h1 h2)⟩
  | any=>trivial
  | cnd g b=>simp [A.scal,A.scal2,A.scal1] at hr
  | agg cs=>exact zp1 (c2 hr h)
  | bool b=>exact zp1 (c2 hr h)
  | int k n=>exact zp1 (c2 hr h)
  | str b=>exact zp1 (c2 hr h)
  | _=>simp [A.scal,A.scal2,A.scal1] at hr
theorem zcu2 {f:FuncId} {s:S} (hs:SatW E s a w W μ) (hG:E.G=C.G) {vs:List Value} {vals:List A} (hl:vs.length=vals.length) (hV:∀ (i:Nat) (v:Value) (x:A),vs[i]? = some v→vals[i]? = some x→Rep w W μ v x)
    (hok:zE9 s.mem vals) {r:A} (hf:PFn C f (zO8 s.mem vals) r) :
    Calls C.P f vs.toArray w fun e w'=>∃ v W',e=.returned v∧Rep w' W' μ v r∧Step s.mem (setM s.mem (zJ7 s.mem vals r)) w w' W W' μ μ:=by
  have hgl:zbb3 w (zaF8 W μ (zF0 vals)) C.G:=fun g cs hg=>by
    obtain ⟨h1,h2,h3⟩:=hs.glob g cs (hG ▸ hg)
    exact ⟨fun h=>h1 h.1,h2,fun j b hj=>let ⟨u,hu,hr⟩:=h3 j b hj; ⟨u,hu,hr.less⟩⟩
  have:=hf w (zaF8 W μ (zF0 vals)) vs hgl (fun b h=>hs.wlt b h.1) (by rw [zbk4]; exact hl) (fun i v b hv hb=>by
    obtain ⟨x,hx,rfl⟩:=zbV6 _ i b hb
    have hxm:=cN hx
    exact zcb6 hs (hV i v x hv hx) (zbz8 hok x hxm) (zbr5 hxm))
  refine this.mono fun e w' ⟨v,he,hk,hr⟩=>?_
  have hr2:Rep w' (zaF8 W μ (zF0 vals)) μ v r:=hr.goes (Keeps.refl (fun _=>False) w') (fun _ _ _ h=>h) (fun _ _ h=>h) zbV7
  unfold zJ7
  split
  · rename_i hsc
    exact ⟨v,W,he,zcS9 hr hsc,Step.quiet hk hs.mem hs.inj hs.wlt⟩
  · exact ⟨v,_,he,hr2,zdi7 hs hk _⟩
theorem zcj3 {s:S} (hs:SatW E s a w W μ) {ops:Array Oper} {o:Oper} {g:Option (Nat×Bool)} {b:Bool}
    (hg:match g,o.guard with|none,none=>True|some q,some p=>p.2=q.2∧(ops[p.1]?).bind (·.dst)=some q.1|_,_=>False) (h:zM9 s.fr g=some b):Region.wanted o (yielded ops a.tmps)=b:=by
  cases g with
  | none =>
    cases ho:o.guard with
    | none=>simp [zM9] at h; subst h; simp [Region.wanted,ho]
    | some p=>simp [ho] at hg
  | some q =>
    cases ho:o.guard with
    | none=>simp [ho] at hg
    | some p =>
      simp only [ho] at hg
      obtain ⟨h1,h2⟩:=hg
      obtain ⟨j,want⟩:=p
      obtain ⟨t,want'⟩:=q
      simp only at h1 h2
      subst h1
      have hfr:=hs.fr t
      simp only [Region.wanted,ho,yielded,h2,Option.bind_some]
      simp only [zM9] at h
      have hgd:∀ v,a.tmps.getD t undef=.bool v→a.tmps[t]? = some (.bool v):=fun v hv=>by
        rw [fU] at hv
        cases hq:a.tmps[t]? with
        | none=>rw [hq] at hv; simp [undef] at hv
        | some u=>rw [hq] at hv; simp at hv; rw [hv]
      split at h
      · rename_i v hv
        simp only [dC] at h
        subst h
        have hfr':Rep w W μ (a.tmps.getD t undef) (.bool v):=by rw [hv] at hfr; exact hfr
        rw [hgd v hfr'.bool]
        cases v <;> cases want <;> rfl
      · rename_i g' v hv
        simp only [dC] at h
        subst h
        have hfr':Rep w W μ (a.tmps.getD t undef) (.cnd g' (.bool v)):=by rw [hv] at hfr; exact hfr
        cases g' with
        | true =>
          rw [hgd v (Rep.bool (zp1 (hfr'.1 rfl)))]
          cases v <;> cases want <;> rfl
        | false =>
          have hu:=hfr'.2 rfl
          rw [fU] at hu
          cases hq:a.tmps[t]? with
          | none=>rfl
          | some u=>rw [hq] at hu; simp at hu; subst hu; rfl
      · cases h
theorem Oper.wp_of_yields {m':Nat→MS} {av:A} {Q:Exit→Act→World→Prop} {k:Act→World→Prop} {s:S} (_hs:SatW E s a w W μ) (h:zo9 C.P o a w W μ s.mem av m')
    (hk:∀ v w' W' μ',Rep w' W' μ' v av→Step s.mem m' w w' W W' μ μ'→k (a.put o.dst v) w'):o.wp C.P a w k Q:=by
  obtain ⟨r,v,w',W',μ',hrun,hr,hrep,hst⟩:=h
  unfold Oper.wp
  rw [hrun]
  rcases hr with rfl|⟨rfl,rfl⟩
  · exact hk v w' W' μ' hrep hst
  · exact hk undef w' W' μ' hrep hst
structure POk (C:Cx) (N:Nat) (ops:Array Oper) (o:Oper) (p:POp):Prop where
  dst:o.dst=p.dst
  lt:∀ d,p.dst=some d→d < N
  g:match p.g,o.guard with|none,none=>True|some q,some r=>r.2=q.2∧(ops[r.1]?).bind (·.dst)=some q.1|_,_=>False
  op:zbk2 C.P o.op p.po p.xs=true
theorem Rep.toVV {v:Value} {x:A} (h:Rep w W μ v x) (hx:x.isVV=true):RepV w W μ v x:=by
  cases x <;> first|exact h|(simp [A.isVV] at hx)
theorem zac1 {α:Type}:∀ (l m:List (Nat×α)) (x:Nat),look (l++m) x=(look l x).or (look m x)
  | [],m,x=>by simp [look]
  | q :: l,m,x=>by
    simp only [List.cons_append,look]
    split
    · rfl
    · exact zac1 l m x
theorem zaQ0 {α:Type}:∀ {l:List (Nat×α)} {x:Nat},(∀ q ∈ l,q.1≠x)→look l x=none
  | [],_,_=>rfl
  | q :: l,x,h=>by
    simp only [look]
    rw [bT (h q (.head _))]
    exact zaQ0 fun p hp=>h p (.tail _ hp)
theorem zar3:∀ (n k nx x:Nat),look (newL k nx n) x=if k≤x∧x < k+n then some (nx+(x - k)) else none
  | 0,k,nx,x=>by simp only [newL,look]; rw [bT (by omega)]
  | n+1,k,nx,x=>by
    simp only [newL,look]
    by_cases h:k=x
    · subst h; rw [bW rfl,bW (by omega)]; simp
    · rw [bT h,zar3 n (k+1) (nx+1) x]
      by_cases h2:k+1≤x∧x < k+1+n
      · rw [bW h2,bW (by omega)]; congr 1; omega
      · rw [bT h2,bT (by omega)]
theorem zbm9 {α:Type} {ms:List (Nat×α)}:∀ {k:Nat},zbz7 ms k=true→∀ x,x < k→∃ r,look ms x=some r
  | k+1,h,x,hx=>by
    simp only [zbz7,bS] at h
    by_cases hk:x=k
    · subst hk; exact Option.isSome_iff_exists.1 h.1
    · exact zbm9 h.2 x (by omega)
theorem zaQ1 {α:Type}:∀ {l:List (Nat×α)} {x:Nat} {v:α},look l x=some v→(x,v) ∈ l
  | q :: r,x,v,h=>by
    simp only [look] at h
    split at h
    · rename_i hq; cases h; subst hq; exact .head _
    · exact .tail _ (zaQ1 h)
theorem zaV2 {α:Type}:∀ {l:List (Nat×α)} {f:Nat→Nat},zaI3 (l.map fun q=>f q.1)=true→∀ x y r r',look l x=some r→look l y=some r'→f x=f y→x=y
  | q :: rest,f,h,x,y,r,r',hx,hy,he=>by
    simp only [eD,zaI3,bS,cS,List.contains_eq_mem,cR] at h
    simp only [look] at hx hy
    split at hx <;> split at hy
    · omega
    · rename_i h1 h2
      exact absurd (cH.2 ⟨(y,r'),zaQ1 hy,by rw [h1]; exact he.symm⟩) h.1
    · rename_i h1 h2
      exact absurd (cH.2 ⟨(x,r),zaQ1 hx,by rw [h2]; exact he⟩) h.1
    · exact zaV2 h.2 x y r r' hx hy he
theorem zaQ2 {m:Nat→MS} {l:List (Nat×Nat)} {k:Nat} {fz:List Nat}:∀ {ms:List (Nat×Row)},zbV4 m l k fz ms→∀ x r,(x,r) ∈ ms →
    (∃ r',m (rho l x)=.row r'∧r'.ro=false∧r'.sz=r.sz∧r'.es=zaM5 l r.es)∧r.ro=false∧x < k∧idEs k r.es∧rho l x ∉ fz
  | q :: rest,h,x,r,hx=>by
    obtain ⟨h1,h2,h3,h4,h5,h6⟩:=h
    rcases cE.1 hx with rfl|hx
    · refine ⟨?_,h2,h3,h4,by simpa using h5⟩
      split at h1
      · rename_i r' hr'; exact ⟨r',hr',h1⟩
      · exact h1.elim
    · exact zaQ2 h6 x r hx
theorem zcj4 {nx:Nat}:∀ {cs:List A},zcB7 nx cs→∀ c ∈ cs,zbk3 nx c
  | _ :: _,h,_,.head _=>h.1
  | _ :: _,h,c,.tail _ hc=>zcj4 h.2 c hc
theorem zcu3 {cs:List A} (h:(A.agg cs).hands=true):zn2 cs=false:=by simpa [A.hands] using h
theorem zcj5 {m:Nat→MS} {l:List (Nat×Nat)} {k:Nat}:∀ {vals as:List A},zbr1 m l k vals as→∀ (i:Nat) (a:A),as[i]? = some a→∃ v,vals[i]? = some v∧argM m l k v a∧(a.hands=false→∀ y ∈ zat7 v,y ∈ fzM vals as)
  | v :: vs,a :: as,h,i,b,hb=>by
    cases i with
    | zero =>
      simp at hb; subst hb
      refine ⟨v,rfl,h.1,fun hh y hy=>?_⟩
      simp only [fzM,hh,bU,cA]
      exact dE _ hy
    | succ i =>
      obtain ⟨u,h1,h2,h3⟩:=zcj5 h.2 i b (by simpa using hb)
      exact ⟨u,by simpa using h1,h2,fun hh y hy=>by simp only [fzM]; exact cV _ (h3 hh y hy)⟩
  | [],[],_,i,b,hb=>by simp at hb
  | _ :: _,[],h,_,_,_=>h.elim
  | [],_ :: _,h,_,_,_=>h.elim
theorem zbV8 {m:Nat→MS} {l:List (Nat×Nat)} {k:Nat}:∀ {vals as:List A},zbr1 m l k vals as→vals.length=as.length
  | v :: vs,a :: as,h=>by simp [zbV8 h.2]
  | [],[],_=>rfl
  | _ :: _,[],h=>h.elim
  | [],_ :: _,h=>h.elim
theorem zbz9 (m:Nat→MS):∀ (x y:List (Nat×MS)),setM m (x++y)=setM (setM m x) y
  | [],_=>rfl
  | q :: x,y=>by simp only [List.cons_append,setM]; exact zbz9 _ x y
theorem zaP0 {L:List (Nat×Nat)} {ms':List (Nat×Row)} {y:Nat}:∀ {ids:List Nat} {m:Nat→MS},(∀ x ∈ ids,rho L x≠y)→setM m (zac0 L ms' ids) y=m y
  | [],m,_=>rfl
  | x :: ids,m,h=>by
    simp only [zac0,setM]
    rw [zaP0 fun z hz=>h z (.tail _ hz)]
    exact bT fun e=>h x (.head _) e.symm
theorem zbH6 {L:List (Nat×Nat)} {ms':List (Nat×Row)} {x:Nat}:∀ {ids:List Nat} {m:Nat→MS},x ∈ ids→(∀ z ∈ ids,rho L z=rho L x→z=x) →
    setM m (zac0 L ms' ids) (rho L x)=entM L (look ms' x)
  | y :: ids,m,hx,hi=>by
    simp only [zac0,setM]
    by_cases h:x ∈ ids
    · exact zbH6 h fun z hz=>hi z (.tail _ hz)
    · rcases cE.1 hx with rfl|hx
      · rw [zaP0 fun z hz e=>h (hi z (.tail _ hz) e ▸ hz),bW rfl]
      · exact absurd hx h
theorem zbu7:∀ {es:List (List A)},pureEs es=true→∀ c ∈ es,zn2 c=true
  | d :: ds,h,c,hc=>by
    simp only [pureEs,bS] at h
    rcases cE.1 hc with rfl|hc
    · exact h.1
    · exact zbu7 h.2 c hc
theorem zcB9 {R R':Value→A→Prop} {l:List (Nat×Nat)} {k sz:Nat} {us:List Value} {es:List (List A)} (h:Flat R sz us (zaM5 l es)) (hid:idEs k es)
    (h1:∀ u a,zbk3 k a→R u (ren1 l a)→R' u a) (h2:∀ u a,a.pure1=true→R u a→R' u a):Flat R' sz us es:=by
  unfold zaM5 at h; unfold idEs at hid
  split at h
  · rename_i hp
    exact ⟨h.hl,h.hs,fun i c j b hc hb=>let ⟨u,hu,hr⟩:=h.ha i c j b hc hb; ⟨u,hu,h2 u b (zaj4 (zbu7 hp c (cN hc)) b (cN hb)) hr⟩⟩
  · rename_i hp
    rw [bT hp] at hid
    refine ⟨by simpa using h.hl,fun i c hc=>by simpa using h.hs i (c.map (ren1 l)) (by simp [hc]),fun i c j b hc hb=>?_⟩
    obtain ⟨u,hu,hr⟩:=h.ha i (c.map (ren1 l)) j (ren1 l b) (by simp [hc]) (by simp [hb])
    exact ⟨u,hu,h1 u b (hid c (cN hc) b (cN hb)) hr⟩
theorem zcT0 {R R':Value→A→Prop} {l:List (Nat×Nat)} {sz:Nat} {us:List Value} {es:List (List A)} (h:Flat R sz us es)
    (h1:∀ u a,R u a→R' u (ren1 l a)) (h2:∀ u a,a.pure1=true→R u a→R' u a):Flat R' sz us (zaM5 l es):=by
  unfold zaM5
  split
  · rename_i hp
    exact ⟨h.hl,h.hs,fun i c j b hc hb=>let ⟨u,hu,hr⟩:=h.ha i c j b hc hb; ⟨u,hu,h2 u b (zaj4 (zbu7 hp c (cN hc)) b (cN hb)) hr⟩⟩
  · refine ⟨by simpa using h.hl,fun i c hc=>?_,fun i c j b hc hb=>?_⟩
    · simp only [cL,cG] at hc
      obtain ⟨d,hd,rfl⟩:=hc
      simpa using h.hs i d hd
    · simp only [cL,cG] at hc
      obtain ⟨d,hd,rfl⟩:=hc
      simp only [cL,cG] at hb
      obtain ⟨c,hc,rfl⟩:=hb
      obtain ⟨u,hu,hr⟩:=h.ha i d j c hd hc
      exact ⟨u,hu,h1 u c hr⟩
section
variable {w':World} {W':Nat→Prop} {μ':Nat→Loc}
theorem zJ8 {l:List (Nat×Nat)} {k:Nat} (hC:∀ u a,RepC w W u a→RepC w W' u a) (hW:∀ b,b < w.heap.size→¬ W b→¬ W' b) (hμ:∀ x,x < k→μ' x=μ (rho l x)) {u:Value} {b:A} (hid:zcj1 k b) (h:RepP w W μ u (ren0 l b)):RepP w W' μ' u b:=by
  cases b with
  | own x lo n=>refine ⟨h.1,?_⟩; rw [hμ x hid]; exact h.2
  | ptr x i j=>refine ⟨h.1,?_⟩; rw [hμ x hid]; exact h.2
  | rd cs off =>
    obtain ⟨b,o,hv,hb,hlt,hc⟩:=h
    exact ⟨b,o,hv,hW b hlt hb,hlt,fun j a hj=>let ⟨u,hu,hr⟩:=hc j a hj; ⟨u,hu,hC u a hr⟩⟩
  | bool b=>exact hC _ _ h
  | int k n=>exact hC _ _ h
  | str s=>exact hC _ _ h
  | sl es=>exact hC _ _ h
  | full es=>exact hC _ _ h
  | clo f cs=>exact hC _ _ h
  | agg cs=>exact (by cases (show RepC w W u (.agg cs) from h))
  | tup cs=>exact (by cases (show RepC w W u (.tup cs) from h))
  | cnd g a=>exact (by cases (show RepC w W u (.cnd g a) from h))
  | any=>exact (by cases (show RepC w W u .any from h))
theorem zbn0 {l:List (Nat×Nat)} {k:Nat} (hC:∀ u a,RepC w W u a→RepC w W' u a) (hW:∀ b,b < w.heap.size→¬ W b→¬ W' b) (hμ:∀ x,x < k→μ' x=μ (rho l x)) {u:Value} {b:A} (hid:zbk3 k b) (h:RepK w W μ u (ren1 l b)):RepK w W' μ' u b:=by
  cases b with
  | clo f cs =>
    obtain ⟨vs,hv,hl,hr⟩:=h
    exact ⟨vs,hv,by simpa using hl,fun i u c hu hc=>zJ8 hC hW hμ (hid c (cN hc)) (hr i u (ren0 l c) hu (by simp [hc]))⟩
  | own x lo n=>exact (zJ8 (b:=.own x lo n) hC hW hμ hid (h.toP rfl)).toK
  | ptr x i j=>exact (zJ8 (b:=.ptr x i j) hC hW hμ hid (h.toP rfl)).toK
  | rd cs off=>exact (zJ8 (b:=.rd cs off) hC hW hμ hid (h.toP rfl)).toK
  | bool b=>exact (zJ8 (b:=.bool b) hC hW hμ hid (h.toP rfl)).toK
  | int k n=>exact (zJ8 (b:=.int k n) hC hW hμ hid (h.toP rfl)).toK
  | str s=>exact (zJ8 (b:=.str s) hC hW hμ hid (h.toP rfl)).toK
  | sl es=>exact (zJ8 (b:=.sl es) hC hW hμ hid (h.toP rfl)).toK
  | full es=>exact (zJ8 (b:=.full es) hC hW hμ hid (h.toP rfl)).toK
  | agg cs=>exact (zJ8 (b:=.agg cs) hC hW hμ hid (h.toP rfl)).toK
  | tup cs=>exact (zJ8 (b:=.tup cs) hC hW hμ hid (h.toP rfl)).toK
  | cnd g a=>exact (zJ8 (b:=.cnd g a) hC hW hμ hid (h.toP rfl)).toK
  | any=>exact (zJ8 (b:=.any) hC hW hμ hid (h.toP rfl)).toK
theorem zbu8 {L:List (Nat×Nat)} (hμ:∀ x,μ x=.fresh∨μ' (rho L x)=μ x) {u:Value} {b:A} (h:RepP w W μ u b):RepP w W μ' u (ren0 L b):=by
  cases b with
  | own x lo n =>
    refine ⟨h.1,?_⟩
    have h2:=h.2
    rcases hμ x with e|e
    · rw [e] at h2; exact h2.elim
    · rw [e]; exact h2
  | ptr x i j =>
    refine ⟨h.1,?_⟩
    have h2:=h.2
    rcases hμ x with e|e
    · rw [e] at h2; exact h2.elim
    · rw [e]; exact h2
  | _=>exact h
theorem zaQ3 {L:List (Nat×Nat)} (hμ:∀ x,μ x=.fresh∨μ' (rho L x)=μ x) {u:Value} {b:A} (h:RepK w W μ u b):RepK w W μ' u (ren1 L b):=by
  cases b with
  | clo f cs =>
    obtain ⟨vs,hv,hl,hr⟩:=h
    refine ⟨vs,hv,by simpa using hl,fun i u c hu hc=>?_⟩
    simp only [cL,cG] at hc
    obtain ⟨d,hd,rfl⟩:=hc
    exact zbu8 hμ (hr i u d hu hd)
  | own x lo n=>exact (zbu8 (b:=.own x lo n) hμ (h.toP rfl)).toK
  | ptr x i j=>exact (zbu8 (b:=.ptr x i j) hμ (h.toP rfl)).toK
  | _=>exact h
theorem zaQ4 {L:List (Nat×Nat)} (hμ:∀ x,μ x=.fresh∨μ' (rho L x)=μ x) {u:Value} {b:A} (h:RepV w W μ u b):RepV w W μ' u (ren L b):=by
  cases b with
  | agg cs =>
    obtain ⟨vs,hv,hl,hr⟩:=h
    simp only [ren]
    split
    · rename_i hp
      exact ⟨vs,hv,hl,fun i u c hu hc=>zq1 ((hr i u c hu hc).toC (zaj4 hp c (cN hc)))⟩
    · refine ⟨vs,hv,by simpa using hl,fun i u c hu hc=>?_⟩
      simp only [cL,cG] at hc
      obtain ⟨d,hd,rfl⟩:=hc
      exact zaQ3 hμ (hr i u d hu hd)
  | clo f cs=>exact zaQ3 (w:=w) (W:=W) (b:=.clo f cs) hμ h
  | own x lo n=>exact zaQ3 (w:=w) (W:=W) (b:=.own x lo n) hμ h
  | ptr x i j=>exact zaQ3 (w:=w) (W:=W) (b:=.ptr x i j) hμ h
  | _=>exact h
theorem zcT1 {L:List (Nat×Nat)} (hμ:∀ x,μ x=.fresh∨μ' (rho L x)=μ x) {u:Value} {b:A} (h:Rep w W μ u b) (hb:∀ g c,b≠.cnd g c):Rep w W μ' u (renR L b):=by
  cases b with
  | tup cs =>
    obtain ⟨vs,hv,hl,hr⟩:=h
    refine ⟨vs,hv,by simpa using hl,fun i u c hu hc=>?_⟩
    simp only [cL,cG] at hc
    obtain ⟨d,hd,rfl⟩:=hc
    exact zaQ4 hμ (hr i u d hu hd)
  | any=>trivial
  | cnd g c=>exact absurd rfl (hb g c)
  | agg cs=>exact zp1 (zaQ4 (b:=.agg cs) hμ h)
  | clo f cs=>exact zp1 (zaQ4 (b:=.clo f cs) hμ h)
  | own x lo n=>exact zp1 (zaQ4 (b:=.own x lo n) hμ h)
  | ptr x i j=>exact zp1 (zaQ4 (b:=.ptr x i j) hμ h)
  | bool b=>exact h
  | int k n=>exact h
  | str s=>exact h
  | sl es=>exact h
  | full es=>exact h
  | rd cs off=>exact h
end
theorem zcj6 {f:FuncId} {s:S} (hs:SatW E s a w W μ) (hG:E.G=C.G) {vs:List Value} {vals as:List A} {l:List (Nat×Nat)} {ms ms':List (Nat×Row)} {k k' nx:Nat} {r:A} (hl:vs.length=vals.length)
    (hV:∀ (i:Nat) (v:Value) (x:A),vs[i]? = some v→vals[i]? = some x→Rep w W μ v x) (hfresh:∀ x,nx≤x→x < nx+(k' - k)→s.mem x=.fresh)
    (hf:MFn C f as ms k r ms' k') (hok:okM s.mem nx l vals as ms k k') (hr0:∀ g c,r≠.cnd g c) :
    Calls C.P f vs.toArray w fun e w'=>∃ v W' μ',e=.returned v∧Rep w' W' μ' v (renR (l++newL k nx (k' - k)) r) ∧
      Step s.mem (setM s.mem (mwM s.mem (l++newL k nx (k' - k)) vals as ms ms' k k')) w w' W W' μ μ':=by
  obtain ⟨hargs,hrows,hd1,hd2,hall,hkk,hlt,hlk⟩:=hok
  have hkk:k≤k':=fO hkk
  have hat:=zbm9 hall
  have rhoOld:∀ x,x < k→rho (l++newL k nx (k' - k)) x=rho l x:=fun x hx=>by
    simp only [rho,zac1,zar3]
    rw [bT (by omega),kO]
  have rhoNew:∀ i,i < k' - k→rho (l++newL k nx (k' - k)) (k+i)=nx+i:=fun i hi=>by
    simp only [rho,zac1,zar3]
    rw [zaQ0 fun q hq=>by have:=hlk q hq; omega,bW (by omega)]
    simp
  have rowAt:∀ x,x < k→∃ r r',look ms x=some r∧s.mem (rho l x)=.row r'∧r'.ro=false∧r'.sz=r.sz∧r'.es=zaM5 l r.es∧r.ro=false∧idEs k r.es∧rho l x ∉ fzM vals as∧rho l x < nx:=fun x hx=>by
    obtain ⟨r,hr⟩:=hat x hx
    obtain ⟨⟨r',h1,h2,h3,h4⟩,h5,h6,h7,h8⟩:=zaQ2 hrows x r (zaQ1 hr)
    exact ⟨r,r',hr,h1,h2,h3,h4,h5,h7,h8,hlt _ (zaQ1 hr)⟩
  have inj0:∀ x y,x < k→y < k→rho l x=rho l y→x=y:=fun x y hx hy he=>by
    obtain ⟨r1,h1⟩:=hat x hx
    obtain ⟨r2,h2⟩:=hat y hy
    exact zaV2 hd1 x y r1 r2 h1 h2 he
  have injL:∀ x y,x < k'→y < k'→rho (l++newL k nx (k' - k)) x=rho (l++newL k nx (k' - k)) y→x=y:=fun x y hx hy he=>by
    by_cases h1:x < k <;> by_cases h2:y < k
    · rw [rhoOld x h1,rhoOld y h2] at he; exact inj0 x y h1 h2 he
    · rw [rhoOld x h1,show y=k+(y - k) by omega,rhoNew _ (by omega)] at he
      obtain ⟨_,_,_,_,_,_,_,_,_,_,h3⟩:=rowAt x h1
      omega
    · rw [rhoOld y h2,show x=k+(x - k) by omega,rhoNew _ (by omega)] at he
      obtain ⟨_,_,_,_,_,_,_,_,_,_,h3⟩:=rowAt y h2
      omega
    · rw [show x=k+(x - k) by omega,show y=k+(y - k) by omega,rhoNew _ (by omega),rhoNew _ (by omega)] at he
      omega
  let fz:=fzM vals as
  let Wc:=zaF8 W μ fz
  let μc:Nat→Loc:=fun x=>if x < k then μ (rho l x) else .fresh
  have hμc:∀ x,x < k→μc x=μ (rho l x):=fun x hx=>bW hx
  have hμc2:∀ x,¬ x < k→μc x=.fresh:=fun x hx=>bT hx
  have hC:∀ u b,RepC w W u b→RepC w Wc u b:=fun u b h=>h.less
  have hWW:∀ b,b < w.heap.size→¬ W b→¬ Wc b:=fun b _ h h2=>h h2.1
  have hgl:zbb3 w Wc C.G:=fun g cs hg=>by
    obtain ⟨h1,h2,h3⟩:=hs.glob g cs (hG ▸ hg)
    exact ⟨fun h=>h1 h.1,h2,fun j b hj=>let ⟨u,hu,hr⟩:=h3 j b hj; ⟨u,hu,hr.less⟩⟩
  have hmem:zaI0 w Wc μc (⟨[],ms,k⟩:St).m:=fun x=>by
    by_cases hx:x < k
    · obtain ⟨r,r',h1,h2,h3,h4,h5,h6,h7,h8,h9⟩:=rowAt x hx
      have e:(⟨[],ms,k⟩:St).m x=.row r:=by simp only [St.m,h1]; rw [bT (by omega)]
      rw [e]
      have hm:=hs.mem (rho l x)
      rw [h2] at hm
      rcases hm with ⟨g1,g2,g3⟩|⟨kb,g1,g2,g3,g4,us,rest,e',g5,g6,g7⟩
      · refine .inl ⟨(hμc x hx).trans g1,?_,by omega⟩
        rw [h5] at g2
        unfold zaM5 at g2
        split at g2
        · exact g2
        · exact iS.1 g2
      · refine .inr ⟨kb,(hμc x hx).trans g1,fun _=>⟨g2 h3,fun ⟨y,ky,hy,hy2,hy3⟩=>h8 (hs.inj y (rho l x) ky kb hy2 g1 hy3 ▸ hy)⟩,g3.trans h4,by omega,us,rest,e',g5,g6,?_⟩
        rw [h5,h4] at g7
        exact zcB9 g7 h7 (fun u b hid hr=>zbn0 hC hWW (fun z hz=>hμc z hz) hid hr) (fun u b hp hr=>zq1 (hr.toC hp).less)
    · have e:(⟨[],ms,k⟩:St).m x=.fresh:=by simp only [St.m]; rw [bW (by omega)]
      rw [e]; exact hμc2 x hx
  have hinj:∀ x y b b',μc x=.at_ b→μc y=.at_ b'→b.b=b'.b→x=y:=fun x y b b' hx hy he=>by
    by_cases h1:x < k
    · by_cases h2:y < k
      · rw [hμc x h1] at hx; rw [hμc y h2] at hy
        exact inj0 x y h1 h2 (hs.inj _ _ b b' hx hy he)
      · rw [hμc2 y h2] at hy; cases hy
    · rw [hμc2 x h1] at hx; cases hx
  have hargs':∀ (i:Nat) (v:Value) (b:A),vs[i]? = some v→as[i]? = some b→RepV w Wc μc v b:=fun i v b hv hb=>by
    obtain ⟨x,hx,hm,hz⟩:=zcj5 hargs i b hb
    have hr:=hV i v x hv hx
    unfold argM at hm
    split at hm
    · rename_i hh
      obtain ⟨rfl,hid⟩:=hm
      by_cases ha:∃ cs,b=.agg cs
      · obtain ⟨cs,rfl⟩:=ha
        have hp:=zcu3 hh
        simp only [ren,hp,bU,cA] at hr
        obtain ⟨us,hu,hl2,hr2⟩:=hr
        exact ⟨us,hu,by simpa using hl2,fun i u c h1 h2=>zbn0 (W':=Wc) (μ':=μc) hC hWW (fun z hz=>hμc z hz) (zcj4 hid c (cN h2)) (hr2 i u (ren1 l c) h1 (by simp [h2]))⟩
      · have hk:RepK w W μ v (ren1 l b):=by cases b <;> first|exact hr|exact absurd ⟨_,rfl⟩ ha|(simp [A.hands] at hh)
        have hk2:=zbn0 (W':=Wc) (μ':=μc) hC hWW (fun z hz=>hμc z hz) (by cases b <;> first|exact hid|exact absurd ⟨_,rfl⟩ ha) hk
        exact zo5 hk2
    · rename_i hh
      obtain ⟨hfo,rfl⟩:=hm
      exact (zcb6 hs hr hfo (fun y hy=>hz (by simpa using hh) y hy)).goes (Keeps.refl (fun _=>False) w) (fun _ _ _ h=>h) (fun _ _ h=>h) zbV7
  have hlen:vs.length=as.length:=hl.trans (zbV8 hargs)
  refine (hf w Wc μc vs hgl (fun b h=>hs.wlt b h.1) hlen hargs' hmem hinj).mono fun e w' ⟨v,Wc',μc',he,hst,hr⟩=>?_
  clear hgl hmem hargs' hV
  have hm'fresh:∀ x,k'≤x→μc' x=.fresh:=fun x hx=>by
    have:=hst.mem x
    rw [show (⟨[],ms',k'⟩:St).m x=.fresh by simp only [St.m]; rw [bW hx]] at this
    exact this
  generalize hL:l++newL k nx (k' - k)=L at *
  let μ':Nat→Loc:=fun y=>open Classical in if h:∃ z,z < k'∧rho L z=y then μc' (Classical.choose h) else μ y
  have hμ1:∀ z,z < k'→μ' (rho L z)=μc' z:=fun z hz=>by
    have h:∃ z',z' < k'∧rho L z'=rho L z:=⟨z,hz,rfl⟩
    show (if h:∃ z',z' < k'∧rho L z'=rho L z then μc' (Classical.choose h) else μ (rho L z))=_
    rw [kG h]
    rw [injL _ _ (fP h).1 hz (fP h).2]
  have hμ2:∀ y,(¬ ∃ z,z < k'∧rho L z=y)→μ' y=μ y:=fun y hy=>dif_neg hy
  have hback:∀ x,μc' x=.fresh∨μ' (rho L x)=μc' x:=fun x=>by
    by_cases hx:x < k'
    · exact .inr (hμ1 x hx)
    · exact .inl (hm'fresh x (by omega))
  have sub:∀ b,(Wc b∧∃ y kb,μc y=.at_ kb∧kb.b=b)→W b∧∃ y kb,μ y=.at_ kb∧kb.b=b:=fun b ⟨h1,y,kb,h2,h3⟩=>by
    by_cases hy:y < k
    · rw [hμc y hy] at h2; exact ⟨h1.1,_,kb,h2,h3⟩
    · rw [hμc2 y hy] at h2; cases h2
  have handed:∀ y kb,μ y=.at_ kb→(∃ z kz,μc z=.at_ kz∧kz.b=kb.b)→∃ z,z < k'∧rho L z=y:=fun y kb hy ⟨z,kz,h1,h2⟩=>by
    by_cases hz:z < k
    · rw [hμc z hz] at h1
      refine ⟨z,by omega,?_⟩
      rw [rhoOld z hz]
      exact hs.inj _ _ kz kb h1 hy h2
    · rw [hμc2 z hz] at h1; cases h1
  have hold:Old μ μ':=fun y hy=>by
    by_cases h:∃ z,z < k'∧rho L z=y
    · obtain ⟨z,hz,rfl⟩:=h
      rw [hμ1 z hz]
      by_cases hzk:z < k
      · rw [rhoOld z hzk] at hy ⊢
        rcases hst.old z (by rw [hμc z hzk]; exact hy) with e|e
        · exact .inl (e.trans (hμc z hzk))
        · exact .inr e
      · exfalso
        apply hy
        have hf:=hfresh (nx+(z - k)) (by omega) (by omega)
        rw [show z=k+(z - k) by omega,rhoNew _ (by omega)]
        have:=hs.mem (nx+(z - k))
        rw [hf] at this
        exact this
    · exact .inl (hμ2 y h)
  have hkeep:Keeps (fun b=>W b∧∃ y kb,μ y=.at_ kb∧kb.b=b) w w':=hst.keeps.mono fun b _ h=>sub b h
  have hWb:∀ b,b < w.heap.size→Wc' b→W b:=fun b hb h=>(hst.hW b hb h).1
  refine ⟨v,Wc',μ',he,zcT1 hback hr hr0,⟨hkeep,hWb,fun b hb=>?_,hs.wlt,hst.wlt,hold,fun y=>?_,fun x y b b' hx hy hb=>?_,fun y b hy=>?_⟩⟩
  ·
    by_cases hz:∃ x kb,x ∈ fz∧μ x=.at_ kb∧kb.b=b
    · obtain ⟨x,kb,_,h2,h3⟩:=hz; exact .inr ⟨x,kb,h2,h3⟩
    · rcases hst.wsup b ⟨hb,hz⟩ with h|⟨x,kb,h1,h2⟩
      · exact .inl h
      · by_cases hx:x < k
        · rw [hμc x hx] at h1; exact .inr ⟨_,kb,h1,h2⟩
        · rw [hμc2 x hx] at h1; cases h1
  ·
    rw [mwM,zbz9]
    by_cases h:∃ z,z < k'∧rho L z=y
    · obtain ⟨z,hz,rfl⟩:=h
      have hzin:z ∈ ms.map (·.1)++(List.range (k' - k)).map (k+·):=by
        by_cases hzk:z < k
        · obtain ⟨r,hr⟩:=hat z hzk
          exact dE _ (cH.2 ⟨(z,r),zaQ1 hr,rfl⟩)
        · exact cV _ (cH.2 ⟨z - k,eO.2 (by omega),by omega⟩)
      rw [zbH6 hzin fun x hx he=>by
        refine injL x z ?_ hz he
        rcases cI.1 hx with hx|hx
        · obtain ⟨q,hq,rfl⟩:=cH.1 hx
          have:=(zaQ2 hrows q.1 q.2 hq).2.2.1
          omega
        · obtain ⟨i,hi,rfl⟩:=cH.1 hx
          have:=eO.1 hi
          omega]
      have hm:=hst.mem z
      have e:(⟨[],ms',k'⟩:St).m z=(match look ms' z with|some r=>.row r|none=>.dead:MS):=by simp only [St.m]; rw [bT (by omega)]; cases look ms' z <;> rfl
      rw [e] at hm
      cases hlk':look ms' z with
      | none=>rw [hlk'] at hm; exact (hμ1 z hz).trans hm
      | some r1 =>
        rw [hlk'] at hm
        rcases hm with ⟨g1,g2,g3⟩|⟨kb,g1,g2,g3,g4,us,rest,e',g5,g6,g7⟩
        · refine .inl ⟨(hμ1 z hz).trans g1,?_,g3⟩
          show zaM5 L r1.es=[]
          rw [g2]; rfl
        · exact .inr ⟨kb,(hμ1 z hz).trans g1,g2,g3,g4,us,rest,e',g5,g6,zcT0 g7 (fun u b hb=>zaQ3 hback hb) (fun u b hp hb=>zq1 (hb.toC hp))⟩
    · rw [zaP0 fun x hx he=>h ⟨x,by
        rcases cI.1 hx with hx|hx
        · obtain ⟨q,hq,rfl⟩:=cH.1 hx
          have:=(zaQ2 hrows q.1 q.2 hq).2.2.1
          omega
        · obtain ⟨i,hi,rfl⟩:=cH.1 hx
          have:=eO.1 hi
          omega,he⟩,zbE8]
      have hm:=hs.mem y
      have hgo:∀ (r:Row) (kb:Blk),zaP9 w W μ r kb→μ y=.at_ kb→(r.ro=false→y ∉ fz)→zaP9 w' Wc' μ' r kb:=fun r kb hrow hy hnz=>by
        have hlt:=hrow.lt
        obtain ⟨g1,g2,g3,us,rest,e',g4,g5,g6⟩:=hrow
        have hnh:¬ ∃ z kz,μc z=.at_ kz∧kz.b=kb.b:=fun hh=>h (handed y kb hy hh)
        refine ⟨fun hro=>?_,g2,g3,us,rest,e',?_,g5,g6.mono fun u b hb=>hb.goes hkeep (fun _ _ h h2=>h h2.1) (fun b hb h h2=>h (hWb b hb h2)) hold⟩
        · rcases hst.wsup kb.b ⟨g1 hro,fun ⟨x,kx,hx,hx2,hx3⟩=>hnz hro (hs.inj x y kx kb hx2 hy hx3 ▸ hx)⟩ with h1|h1
          · exact h1
          · exact absurd h1 hnh
        · rw [hst.keeps.block kb.b hlt (fun hh=>hnh hh.2)]; exact g4
      have hsame:zan1 w' Wc' μ' y (s.mem y)∨(y ∈ fz∧∃ r,s.mem y=.row r∧zan1 w' Wc' μ' y (.row ⟨true,r.sz,r.z,r.es⟩)):=by
        cases hr1:s.mem y with
        | fresh=>rw [hr1] at hm; exact .inl ((hμ2 y h).trans hm)
        | dead=>rw [hr1] at hm; exact .inl ((hμ2 y h).trans hm)
        | row r1 =>
          rw [hr1] at hm
          by_cases hz:y ∈ fz
          · refine .inr ⟨hz,r1,rfl,?_⟩
            rcases hm with ⟨g1,g2,g3⟩|⟨kb,g1,g2⟩
            · exact .inl ⟨(hμ2 y h).trans g1,g2,g3⟩
            · exact .inr ⟨kb,(hμ2 y h).trans g1,hgo ⟨true,r1.sz,r1.z,r1.es⟩ kb ⟨by simp,g2.2⟩ g1 (by simp)⟩
          · refine .inl ?_
            rcases hm with ⟨g1,g2,g3⟩|⟨kb,g1,g2⟩
            · exact .inl ⟨(hμ2 y h).trans g1,g2,g3⟩
            · exact .inr ⟨kb,(hμ2 y h).trans g1,hgo r1 kb g2 g1 (fun _=>hz)⟩
      split
      · rename_i hz
        rcases hsame with h1|⟨_,r1,h1,h2⟩
        · cases hr1:s.mem y with
          | fresh=>rw [hr1] at h1; exact h1
          | dead=>rw [hr1] at h1; exact h1
          | row r1 =>
            rw [hr1] at h1
            rcases h1 with ⟨g1,g2,g3⟩|⟨kb,g1,g2⟩
            · exact .inl ⟨g1,g2,g3⟩
            · exact .inr ⟨kb,g1,⟨by simp,g2.2⟩⟩
        · rw [h1]; exact h2
      · rename_i hz
        rcases hsame with h1|⟨h1,_⟩
        · exact h1
        · exact absurd h1 hz
  ·
    have big:∀ x b,μ x=.at_ b→b.b < w.heap.size:=fun x b hx=>by obtain ⟨_,_,h⟩:=hs.mem.at_ hx; exact h.lt
    have cross:∀ z y b b',z < k'→μc' z=.at_ b→μ y=.at_ b'→b.b=b'.b→∃ z,z < k'∧rho L z=y:=fun z y b b' _ h1 h2 h3=>by
      rcases hst.live z b h1 with ⟨z0,k0,h4,h5⟩|h4
      · exact handed y b' h2 ⟨z0,k0,h4,h5.trans h3⟩
      · have:=big y b' h2; omega
    by_cases h1:∃ z,z < k'∧rho L z=x <;> by_cases h2:∃ z,z < k'∧rho L z=y
    · obtain ⟨z,hz,rfl⟩:=h1
      obtain ⟨z',hz',rfl⟩:=h2
      rw [hμ1 z hz] at hx; rw [hμ1 z' hz'] at hy
      rw [hst.inj z z' b b' hx hy hb]
    · obtain ⟨z,hz,rfl⟩:=h1
      rw [hμ1 z hz] at hx; rw [hμ2 y h2] at hy
      exact absurd (cross z y b b' hz hx hy hb) h2
    · obtain ⟨z,hz,rfl⟩:=h2
      rw [hμ1 z hz] at hy; rw [hμ2 x h1] at hx
      exact absurd (cross z x b' b hz hy hx hb.symm) h1
    · rw [hμ2 x h1] at hx; rw [hμ2 y h2] at hy
      exact hs.inj x y b b' hx hy hb
  ·
    by_cases h:∃ z,z < k'∧rho L z=y
    · obtain ⟨z,hz,rfl⟩:=h
      rw [hμ1 z hz] at hy
      rcases hst.live z b hy with ⟨z0,k0,h4,h5⟩|h4
      · by_cases hz0:z0 < k
        · rw [hμc z0 hz0] at h4; exact .inl ⟨_,k0,h4,h5⟩
        · rw [hμc2 z0 hz0] at h4; cases h4
      · exact .inr h4
    · rw [hμ2 y h] at hy; exact .inl ⟨y,b,hy,rfl⟩
theorem zcu4 {st:St} {l:List (Nat×Nat)} {vals as:List A} {ms ms':List (Nat×Row)} {k k':Nat} (hok:okM st.m st.nx l vals as ms k k'):mwOk st.nx (mwM st.m (l++newL k st.nx (k' - k)) vals as ms ms' k k'):=by
  obtain ⟨hargs,hrows,hd1,hd2,hall,hkk,hlt,hlk⟩:=hok
  have hkk:k≤k':=fO hkk
  have ent:∀ {L:List (Nat×Nat)} {ids:List Nat},∀ q ∈ zac0 L ms' ids,(∃ x ∈ ids,q.1=rho L x)∧q.2≠.fresh:=fun {L} {ids}=>by
    induction ids with
    | nil=>intro q hq; cases hq
    | cons x ids ih =>
      intro q hq
      rcases cE.1 hq with rfl|hq
      · exact ⟨⟨x,.head _,rfl⟩,by simp only; cases look ms' _ <;> simp [entM]⟩
      · obtain ⟨⟨y,hy,h1⟩,h2⟩:=ih q hq; exact ⟨⟨y,.tail _ hy,h1⟩,h2⟩
  have app:∀ (L:List (Nat×Nat)) (x y:List Nat),zac0 L ms' (x++y)=zac0 L ms' x++zac0 L ms' y:=fun L x y=>by
    induction x with
    | nil=>rfl
    | cons z x ih=>simp only [List.cons_append,zac0,ih]
  unfold mwM
  refine zaM7 (fun q hq=>let ⟨⟨r,hr⟩,h2⟩:=zaM8 q hq; ⟨St.m_row hr,h2⟩) ?_
  rw [app]
  refine zaM7 (fun q hq=>?_) ?_
  · obtain ⟨⟨x,hx,h1⟩,h2⟩:=ent q hq
    obtain ⟨p,hp,rfl⟩:=cH.1 hx
    have h3:=(zaQ2 hrows p.1 p.2 hp).2.2.1
    refine ⟨?_,h2⟩
    rw [h1]
    have:rho (l++newL k st.nx (k' - k)) p.1=rho l p.1:=by
      simp only [rho,zac1,zar3]
      rw [bT (by omega),kO]
    rw [this]
    exact hlt p hp
  · have key:∀ (n j:Nat),j+n≤k' - k→mwOk (st.nx+j) (zac0 (l++newL k st.nx (k' - k)) ms' ((List.range' j n).map (k+·))):=fun n=>by
      induction n with
      | zero=>intro j _; trivial
      | succ n ih =>
        intro j hj
        have hrho:rho (l++newL k st.nx (k' - k)) (k+j)=st.nx+j:=by
          simp only [rho,zac1,zar3]
          rw [zaQ0 fun q hq=>by have:=hlk q hq; omega,bW (by omega)]
          simp
        rw [iC,eD,zac0]
        refine ⟨by rw [hrho]; exact cY _,by simp only; cases look ms' _ <;> simp [entM],?_⟩
        simp only [hrho,cB]
        exact ih (j+1) (by omega)
    have:=key (k' - k) 0 (by omega)
    rwa [← eY] at this
theorem zbV9 {st:St}:∀ {mw:List (Nat×MS)},zbr2 st.m mw→mwOk st.nx mw
  | [],_=>trivial
  | q :: r,⟨h1,h3⟩=>zbb7 (by
      by_cases h:q.1 < st.nx
      · exact h
      · exact absurd (by simp only [St.m]; rw [bW (by omega)]) (MS.like_ne h1).1) (MS.like_ne h1).2 (zbV9 h3)
theorem zbW0 {t:Operand} {args:Array Operand} {ats:Array TypeId} {f:FuncId} {vs caps:List Value} (ho:o.op=.call { callee:=.value t,args:=args,argTypes:=ats }) (ht:a.eval t=.func (.func f) #[] caps.toArray)
    (hfn:zY1 C.P f=true) (hvs:vs=args.toList.map a.eval++caps):(execOp a.eval o).run C.P w=.ok (.enter f vs.toArray) w:=by
  unfold zY1 at hfn
  have e1:vs.toArray=args.map a.eval++caps.toArray:=by rw [hvs]; simp [← Array.toList_map]
  split at hfn
  · rename_i fn hfn'
    simp only [bS,cS] at hfn
    have hb:fn.body.isNone=false:=by cases hb:fn.body <;> simp [hb] at hfn ⊢
    have hc2:(callFunc f (args.map a.eval++caps.toArray)).run C.P w=.ok (.enter f (args.map a.eval++caps.toArray)) w:=by
      simp only [callFunc,Sem.run_bind,run_program,Result.andThen_ok,hfn']
      rw [bT (by simp [hfn.2]),bT (by simp [hb])]
      rfl
    rw [e1]
    simp [execOp,ho,resolve,ht,Deferred.ofValue,invoke,hc2]
  · cases hfn
theorem zbH7 {ops:Array Oper} {p:POp} {s:S} {id:Nat} (hs:SatW E s a w W μ) (hG:E.G=C.G) (hid:s.mem id=.fresh) (hp:POk C E.N ops o p) {K:A→List (Nat×MS)→Prop} (h:aopS C p s id K) {Q:Exit→Act→World→Prop} {k:Act→World→Prop}
    (hk:∀ v mw a' w',K v mw→Sat E ⟨setF s.fr p.dst v,setM s.mem mw⟩ a' w'→k a' w'):if Region.wanted o (yielded ops a.tmps) then o.wp C.P a w k Q else k (a.put o.dst undef) w:=by
  unfold aopS at h
  cases hgo:zM9 s.fr p.g with
  | none=>simp [hgo] at h
  | some g =>
    simp only [hgo] at h
    have hwant:=zcj3 hs hp.g hgo
    rw [hwant,hp.dst]
    have skip:∀ (v:A),g=false→K (zQ2 p.g g v) []→k (a.put p.dst undef) w:=fun v hg hK=>by
      refine hk _ _ _ _ hK ⟨W,μ,?_⟩
      refine hs.step (m':=s.mem) hs.refl hp.lt ?_
      cases hpg:p.g with
      | none=>rw [hpg] at hgo; simp [zM9] at hgo; rw [hg] at hgo; cases hgo
      | some q=>exact ⟨fun h=>(by rw [hg] at h; cases h),fun _=>rfl⟩
    have fin:∀ (v:A) (mw:List (Nat×MS)) (u:Value) (w':World) (W':Nat→Prop) (μ':Nat→Loc),g=true→(p.g=none∨v.isVV=true)→K (zQ2 p.g g v) mw→Rep w' W' μ' u v→Step s.mem (setM s.mem mw) w w' W W' μ μ'→k (a.put p.dst u) w':=fun v mw u w' W' μ' hg hgv hK hr hst=>by
      refine hk _ _ _ _ hK ⟨W',μ',?_⟩
      refine hs.step hst hp.lt ?_
      cases hpg:p.g with
      | none=>exact hr
      | some q =>
        refine ⟨fun _=>?_,fun h=>(by rw [hg] at h; cases h)⟩
        rcases hgv with h1|h1
        · rw [hpg] at h1; cases h1
        · exact hr.toVV h1
    have go:∀ (v:A) (mw:List (Nat×MS)),g=true→zo9 C.P o a w W μ s.mem v (setM s.mem mw)→(p.g=none∨v.isVV=true)→K (zQ2 p.g g v) mw→o.wp C.P a w k Q:=fun v mw hg hy hgv hK=>by
      refine Oper.wp_of_yields hs hy fun u w' W' μ' hr hst=>?_
      rw [hp.dst]
      exact fin v mw u w' W' μ' hg hgv hK hr hst
    have sk:∀ (v:A) (mw:List (Nat×MS)),g=false→(p.g=none∨mw=[]∧v.isVV=true)→K (zQ2 p.g g v) mw→k (a.put p.dst undef) w:=fun v mw hg hgv hK=>by
      rcases hgv with h1|⟨h1,_⟩
      · rw [h1] at hgo; simp [zM9] at hgo; rw [hg] at hgo; cases hgo
      · subst h1; exact skip v hg hK
    have call:∀ (t:Operand) (args:Array Operand) (ats:Array TypeId) (f:FuncId) (vs caps:List Value) (vals:List A) (r:A),o.op=.call { callee:=.value t,args:=args,argTypes:=ats }→a.eval t=.func (.func f) #[] caps.toArray→zY1 C.P f=true →
        vs=args.toList.map a.eval++caps→vs.length=vals.length→(∀ (i:Nat) (v:Value) (x:A),vs[i]? = some v→vals[i]? = some x→Rep w W μ v x)→zE9 s.mem vals→PFn C f (zO8 s.mem vals) r →
        g=true→(p.g=none∨zJ7 s.mem vals r=[]∧r.isVV=true)→K (zQ2 p.g g r) (zJ7 s.mem vals r)→o.wp C.P a w k Q:=fun t args ats f vs caps vals r ho ht hb hvs hl hV hfz hpf hg hgv hK=>by
      have hc:=zcu2 hs hG hl hV hfz hpf
      unfold Oper.wp
      rw [zbW0 ho ht hb hvs]
      refine hc.mono fun e w' ⟨v,W',he,hrep,hst⟩=>?_
      subst he
      show k (a.put o.dst v) w'
      rw [hp.dst]
      exact fin r _ v w' W' μ hg (hgv.imp (fun h=>h) And.right) hK hrep hst
    have callm:∀ (t:Operand) (args:Array Operand) (ats:Array TypeId) (f:FuncId) (vs caps:List Value) (vals:List A) (ob:Prop),o.op=.call { callee:=.value t,args:=args,argTypes:=ats }→a.eval t=.func (.func f) #[] caps.toArray→zY1 C.P f=true →
        vs=args.toList.map a.eval++caps→vs.length=vals.length→(∀ (i:Nat) (v:Value) (x:A),vs[i]? = some v→vals[i]? = some x→Rep w W μ v x)→g=true →
        zaM6 C s.mem id f vals p.g g ob (fun n=>∀ x,id≤x→x < id+n→s.mem x=.fresh) K→o.wp C.P a w k Q:=fun t args ats f vs caps vals ob ho ht hb hvs hl hV hgt hcm=>by
      obtain ⟨l,as,ms,kk,r,ms',kk',ht0,_,hvv,hcnd,hK⟩:=hcm
      obtain ⟨_,hmf,hok,hfr⟩:=ht0 hgt
      have hc:=zcj6 hs hG hl hV hfr hmf hok hcnd
      unfold Oper.wp
      rw [zbW0 ho ht hb hvs]
      refine hc.mono fun e w' ⟨v,W',μ',he,hrep,hst⟩=>?_
      subst he
      show k (a.put o.dst v) w'
      rw [hp.dst]
      exact fin _ _ v w' W' μ' hgt hvv hK hrep hst
    have skipM:∀ {f:FuncId} {vals:List A} {ob:Prop} {F:Nat→Prop},g=false→zaM6 C s.mem id f vals p.g g ob F K→k (a.put p.dst undef) w:=fun hg h=>by
      obtain ⟨l,as,ms,kk,r,ms',kk',_,hf,_,_,hK⟩:=h
      obtain ⟨_,hsame⟩:=hf hg
      refine hk _ _ _ _ hK ⟨W,μ,?_⟩
      refine { (hs.step (m':=s.mem) (d:=p.dst) (v:=undef) (av:=zQ2 p.g g (renR _ _)) hs.refl hp.lt ?_) with mem:=fun x=>?_ }
      case refine_2 =>
        rcases zbV5 x s.mem hsame with e|e
        · show zan1 w W μ x (setM s.mem _ x)
          rw [e]; exact hs.mem x
        · exact (hs.mem x).like e
      cases hpg:p.g with
      | none=>rw [hpg] at hgo; simp [zM9] at hgo; rw [hg] at hgo; cases hgo
      | some q=>exact ⟨fun h=>(by rw [hg] at h; cases h),fun _=>rfl⟩
    split at h
    · rename_i hpo
      split at h
      · rename_i c x y hxs
        split at h
        · rename_i b u v hc hx hy
          obtain ⟨hgd,hK⟩:=h
          cases g with
          | false=>exact skip _ rfl hK
          | true =>
            obtain ⟨g1,g2,g3⟩:=hgd rfl
            have hop:=hp.op
            rw [hpo,hxs] at hop
            simp only [zbk2] at hop
            split at hop
            · rename_i c' x' y' ho
              simp only [zz6,bS,fE] at hop
              obtain ⟨k1,k2,k3⟩:=hop
              have r1:=zbG4 hs k1
              have r2:=zbG4 hs k2
              have r3:=zbG4 hs k3
              rw [hG] at r1 r2 r3
              simp only [cB]
              refine go _ [] rfl (zdp5 hs ho (b:=b) (p:=u) (q:=v) ?_ ?_ ?_) (.inr rfl) hK
              · rw [← hc]; exact zca7 r1 g1
              · intro hb; rw [← hx]; exact zca7 r2 (g2 hb)
              · intro hb; rw [← hy]; exact zca7 r3 (g3 hb)
            · cases hop
        · exact h.elim
      · exact h.elim
    · rename_i f hpo
      obtain ⟨r,h1,h2,hK⟩:=h
      cases g with
      | false=>exact sk _ _ rfl h2 hK
      | true =>
        obtain ⟨hgd,hfz,hpf⟩:=h1 rfl
        have hop:=hp.op
        rw [hpo] at hop
        simp only [zbk2] at hop
        split at hop
        · rename_i f' args ats ho
          simp only [bS,dI] at hop
          obtain ⟨⟨rfl,hxs⟩,hfn⟩:=hop
          have hV:=zaV1 hs hG p.xs args.toList hxs hgd
          simp only [cB]
          exact call _ args ats f (args.toList.map a.eval) [] (zJ3 C s.fr p.xs) r ho rfl hfn (by simp) (by simpa using hV.1) (fun i v x hv hx=>by
            simp only [cL,cG] at hv
            obtain ⟨q,hq,rfl⟩:=hv
            exact hV.2 i q x hq hx) hfz hpf rfl h2 hK
        · cases hop
    · rename_i hpo
      split at h
      · rename_i f caps vals hvals
        obtain ⟨r,h1,h2,hK⟩:=h
        cases g with
        | false=>exact sk _ _ rfl h2 hK
        | true =>
          obtain ⟨hgd,hfn,hfz,hpf⟩:=h1 rfl
          have hop:=hp.op
          rw [hpo] at hop
          simp only [zbk2] at hop
          split at hop
          · rename_i t args ats ho
            have hV:=zaV1 hs hG p.xs (.tmp t :: args.toList) hop hgd
            rw [hvals] at hV
            obtain ⟨vs,hv1,hv2,hv3⟩:RepK w W μ (a.eval (.tmp t)) (.clo f caps):=hV.2 0 (.tmp t) _ rfl rfl
            simp only [cB]
            have hl0:args.toList.length=vals.length:=by simpa using hV.1
            exact call _ args ats f (args.toList.map a.eval++vs) vs (vals++caps) r ho hv1 hfn rfl (by simp only [bZ,dD]; omega) (fun i v x hv hx=>by
              rw [fS] at hv hx
              simp only [dD] at hv
              split at hv
              · rename_i hi
                rw [bW (by omega)] at hx
                simp only [cL,cG] at hv
                obtain ⟨q,hq,rfl⟩:=hv
                exact hV.2 (i+1) q x (by simpa using hq) (by simpa using hx)
              · rename_i hi
                rw [bT (by omega),← hl0] at hx
                exact zp1 (zo5 (hv3 _ v x hv hx).toK)) hfz hpf rfl h2 hK
          · cases hop
      · exact h.elim
    · rename_i f hpo
      cases g with
      | false=>exact skipM rfl h
      | true =>
        have hgd:gdsF C s.fr p.xs:=by obtain ⟨_,_,_,_,_,_,_,ht0,_⟩:=h; exact (ht0 rfl).1
        have hop:=hp.op
        rw [hpo] at hop
        simp only [zbk2] at hop
        split at hop
        · rename_i f' args ats ho
          simp only [bS,dI] at hop
          obtain ⟨⟨rfl,hxs⟩,hfn⟩:=hop
          have hV:=zaV1 hs hG p.xs args.toList hxs hgd
          simp only [cB]
          exact callm _ args ats f (args.toList.map a.eval) [] (zJ3 C s.fr p.xs) _ ho rfl hfn (by simp) (by simpa using hV.1) (fun i v x hv hx=>by
            simp only [cL,cG] at hv
            obtain ⟨q,hq,rfl⟩:=hv
            exact hV.2 i q x hq hx) rfl h
        · cases hop
    · rename_i hpo
      split at h
      · rename_i f caps vals hvals
        cases g with
        | false=>exact skipM rfl h
        | true =>
          have hgd:gdsF C s.fr p.xs∧zY1 C.P f=true:=by obtain ⟨_,_,_,_,_,_,_,ht0,_⟩:=h; exact (ht0 rfl).1
          obtain ⟨hgd,hfn⟩:=hgd
          have hop:=hp.op
          rw [hpo] at hop
          simp only [zbk2] at hop
          split at hop
          · rename_i t args ats ho
            have hV:=zaV1 hs hG p.xs (.tmp t :: args.toList) hop hgd
            rw [hvals] at hV
            obtain ⟨vs,hv1,hv2,hv3⟩:RepK w W μ (a.eval (.tmp t)) (.clo f caps):=hV.2 0 (.tmp t) _ rfl rfl
            simp only [cB]
            have hl0:args.toList.length=vals.length:=by simpa using hV.1
            exact callm _ args ats f (args.toList.map a.eval++vs) vs (vals++caps) _ ho hv1 hfn rfl (by simp only [bZ,dD]; omega) (fun i v x hv hx=>by
              rw [fS] at hv hx
              simp only [dD] at hv
              split at hv
              · rename_i hi
                rw [bW (by omega)] at hx
                simp only [cL,cG] at hv
                obtain ⟨q,hq,rfl⟩:=hv
                exact hV.2 (i+1) q x (by simpa using hq) (by simpa using hx)
              · rename_i hi
                rw [bT (by omega),← hl0] at hx
                exact zp1 (zo5 (hv3 _ v x hv hx).toK)) rfl h
          · cases hop
      · exact h.elim
    · rename_i hnp hnc hnv hnm hnvm
      split at h
      · rename_i ef hev
        obtain ⟨h1,h2,hK⟩:=h
        cases g with
        | false=>exact sk _ _ rfl h2 hK
        | true =>
          obtain ⟨hgd,hobl⟩:=h1 rfl
          simp only [cB]
          refine go ef.v ef.mw rfl (zcS8 hs hid p.po p.xs _ (fun ops hops=>zaV1 hs hG p.xs ops hops hgd) (zbr4 _ p.xs).symm hp.op hev hobl hnp) (h2.imp (fun h=>h) And.right) hK
      · obtain ⟨hg,_,hK⟩:=h
        subst hg
        exact skip _ rfl hK
theorem zcb7 (st:St) (x:Nat) (h:st.nx≤x):st.m x=.fresh:=bW h
theorem zbE9 {f:FuncId} {vals:List A} {og:Option (Nat×Bool)} {g:Bool} {ob:Prop} {F:Nat→Prop} {K:A→List (Nat×MS)→Prop} (h:zaM6 C st.m st.nx f vals og g ob F K) :
    zaM6 C st.m st.nx f vals og g ob (fun n=>∀ x,st.nx≤x→x < st.nx+n→st.m x=.fresh) (fun v mw=>mwOk st.nx mw∧K v mw):=by
  obtain ⟨l,as,ms,k,r,ms',k',h1,h2,h3,h4,h5⟩:=h
  refine ⟨l,as,ms,k,r,ms',k',fun hg=>let ⟨a1,a2,a3,_⟩:=h1 hg; ⟨a1,a2,a3,fun x hx _=>zcb7 st x hx⟩,h2,h3,h4,?_,h5⟩
  cases g with
  | true=>exact zcu4 (h1 rfl).2.2.1
  | false=>exact zbV9 (h2 rfl).2
theorem zdx8 {p:POp} {K:St→Prop} (h:aop C p st K):aopS C p st.toS st.nx (fun v mw=>mwOk st.nx mw∧K (st.app p.dst v mw)):=by
  unfold aop at h
  unfold aopS
  simp only [St.toS]
  rw [zcH2] at h
  simp only [zcb5,zbr3] at h
  cases hg:zM9 st.slot p.g with
  | none=>simp [hg] at h
  | some g =>
    simp only [hg] at h ⊢
    cases hp:p.po <;> simp only [hp] at h ⊢
    case pick =>
      split at h
      · split at h
        · exact ⟨h.1,trivial,h.2⟩
        · exact h.elim
      · exact h.elim
    case call f =>
      obtain ⟨r,h1,h2,h3⟩:=h
      exact ⟨r,h1,h2,zbh1 st _ _,h3⟩
    case callv =>
      split at h
      · obtain ⟨r,h1,h2,h3⟩:=h
        exact ⟨r,h1,h2,zbh1 st _ _,h3⟩
      · exact h.elim
    case callm f=>exact zbE9 h
    case callvm =>
      split at h
      · exact zbE9 h
      · exact h.elim
    all_goals
      split at h
      · rename_i ef hev
        obtain ⟨h1,h2,h3⟩:=h
        exact ⟨h1,h2,zcB8 hev,h3⟩
      · exact ⟨h.1,h.2.1,trivial,h.2.2⟩
theorem zbW1 {ops:Array Oper} {p:POp} (hs:SatW E st.toS a w W μ) (hG:E.G=C.G) (hp:POk C E.N ops o p) {K:St→Prop} (h:aop C p st K) {Q:Exit→Act→World→Prop} {k:Act→World→Prop}
    (hk:∀ st' a' w',K st'→Sat E st'.toS a' w'→k a' w'):if Region.wanted o (yielded ops a.tmps) then o.wp C.P a w k Q else k (a.put o.dst undef) w :=
  zbH7 hs hG st.m_nx hp (zdx8 h) fun v mw a' w' ⟨hmw,hK⟩ hsat=>hk _ a' w' hK (by rw [zcb4 st _ _ _ hmw]; exact hsat)
def ROk (C:Cx) (N:Nat) (ops:Array Oper):Nat→List POp→Prop
  | n,[]=>n=ops.size
  | n,p :: ps=>(∃ o,ops[n]? = some o∧POk C N ops o p)∧ROk C N ops (n+1) ps
theorem zbn1 {ops:Array Oper} (hG:E.G=C.G) {Q:Exit→Act→World→Prop}:∀ (ps:List POp) (n:Nat) (st:St) (a:Act) (w:World),ROk C E.N ops n ps→Sat E st.toS a w→∀ (K:St→Prop),arun C ps st K →
    (∀ st' a' w',K st'→Sat E st'.toS a' w'→Q .normal a' w')→wpOps C.P ops Q (List.range' n ps.length) a w
  | [],n,st,a,w,_,hs,K,h,hk=>hk st a w h hs
  | p :: ps,n,st,a,w,hr,⟨W,μ,hs⟩,K,h,hk=>by
    obtain ⟨⟨o,ho,hp⟩,hr2⟩:=hr
    unfold arun at h
    split at h
    · rename_i hq
      have hpo:p.po=.eqNil:=by
        cases hpo:p.po <;> rw [hpo] at hq <;> first|rfl|cases hq
      obtain ⟨hg,hgd,h⟩:=h
      have hop:=hp.op
      rw [hpo] at hop
      simp only [zbk2] at hop
      split at hop
      · rename_i b T x y T2 ho2
        simp only [bS,dI] at hop
        obtain ⟨⟨⟨rfl,hT⟩,hy⟩,hx⟩:=hop
        obtain ⟨d,hd,hd2⟩:=zO7 hT
        obtain ⟨e,rfl⟩:∃ e,d=.slice e:=by cases d <;> simp [zbh0] at hd2; exact ⟨_,rfl⟩
        have hy:=zbz6 hy
        subst hy
        rw [zcb5] at hgd
        rw [zbr3] at h
        have hV:=zaV1 hs hG p.xs [x] hx hgd
        obtain ⟨av,hav,hrep⟩:=hV.one
        have hav':zJ3 C st.slot p.xs=[av]:=hav
        rw [hav'] at h
        have go:∀ (b:Bool),(binOp .eql T (a.eval x) (.slice none 0 0)).run C.P w=.ok (.bool b) w→arun C ps (st.app p.dst (.bool b) []) K→wpOps C.P ops Q (List.range' n (p :: ps).length) a w:=fun b hrun hK=>by
          have hgo:o.guard=none:=by
            have:=hp.g
            rw [hg] at this
            cases hog:o.guard with
            | none=>rfl
            | some r=>simp [hog] at this
          simp only [List.length_cons,iC,wpOps,ho]
          rw [bW (by simp [Region.wanted,hgo])]
          refine .inl ?_
          have hrun':(binOp .eql T (a.eval x) (a.eval (.const (.slice none 0 0)))).run C.P w=.ok (.bool b) w:=hrun
          have hguard:∀ i j,eqGuard .eql T i j (a.eval x) (a.eval (.const (.slice none 0 0)))=pure ():=by
            intro i j
            show eqGuard .eql T i j (a.eval x) (Value.slice none 0 0)=_
            cases a.eval x <;> rfl
          have hy2:zo9 C.P o a w W μ st.m (.bool b) st.m:=⟨.value (.bool b),.bool b,w,W,μ,by simp [execOp,ho2,hguard,hrun'],.inl rfl,zp1 (zo5 (zq1 (.bool b))),hs.refl⟩
          refine Oper.wp_of_yields hs hy2 fun v w' W' μ' hrv hst=>?_
          rw [hp.dst]
          refine zbn1 hG ps (n+1) (st.app p.dst (.bool b) []) (a.put p.dst v) w' hr2 ⟨W',μ',?_⟩ K hK hk
          rw [zcb4 st _ _ _ (by trivial)]
          exact hs.step hst hp.lt hrv
        have fin:∀ es,RepC w W (a.eval x) (.sl es)→(∀ b:Bool,(b=true→es=[])→arun C ps (st.app p.dst (.bool b) []) K)→wpOps C.P ops Q (List.range' n (p :: ps).length) a w:=fun es hes hK=>by
          rcases hes.open_sl with ⟨h0,ad,cap,hv⟩|⟨bb,off,cap,sz,us,hv,_⟩
          · refine go ad.isNone (by rw [hv]; exact Lib.run_eql_slice_nil w T e ad 0 cap 0 0 hd) (hK _ fun _=>h0)
          · refine go false (by rw [hv]; exact Lib.run_eql_slice_nil w T e _ _ cap 0 0 hd) (hK _ fun h=>nomatch h)
        unfold nilQ at h
        split at h
        · rename_i es heq; cases heq; exact fin es hrep h
        · rename_i es heq; cases heq; exact fin es (RepC.of_full hrep).1 h
        · exact h.elim
      · cases hop
    have:=zbW1 hs hG hp h (Q:=Q) (k:=wpOps C.P ops Q (List.range' (n+1) ps.length)) (fun st' a' w' hK hs'=>zbn1 hG ps (n+1) st' a' w' hr2 hs' K hK hk)
    simp only [List.length_cons,iC,wpOps,ho]
    split at this
    · rename_i hw; rw [bW hw]; exact .inl this
    · rename_i hw; rw [bT hw]; exact this
theorem ROk.size {ops:Array Oper}:∀ {ps:List POp} {n N:Nat},ROk C N ops n ps→n+ps.length=ops.size
  | [],n,_,h=>h
  | _ :: ps,n,_,h=>by have:=h.2.size; simp; omega
theorem zcb8 {ops:Array Oper} {id:Nat} (hG:E.G=C.G) {ps:List POp} (hr:ROk C E.N ops 0 ps) {st:St} {a:Act} {w:World} (hs:Sat E st.toS a w) {K:St→Prop} (h:arun C ps st K) {Q:Exit→Act→World→Prop}
    (hk:∀ st' a' w',K st'→Sat E st'.toS a' w'→Q .normal a' w'):(Code.region id ops false).wp C.P Q a w:=by
  refine wp_region ?_
  have:=zbn1 hG ps 0 st a w hr hs K h (Q:=Q) hk
  rw [eY]
  have e:=hr.size
  rw [dY] at e
  rw [← e]
  exact this
end
inductive PC where
  | skip
  | reg (dr:List Nat) (ops:List POp)
  | regd (dr:List Nat) (ops:List POp)
  | regm (dr:List Nat) (an:List (List Nat)) (ops:List POp)
  | seq (a b:PC)
  | cond (x:PX) (a b:PC)
  | block (id:Nat) (c:PC)
  | loop (c:PC)
  | exit (id:Nat)
  | ret
  | scope (c:PC)
  | label
  | dead
def chkG (ops:Array Oper) (p:POp) (o:Oper):Bool :=
  match p.g,o.guard with
  | none,none=>true
  | some q,some r=>r.2 == q.2&&(ops[r.1]?).bind (·.dst) == some q.1
  | _,_=>false
def chkD (N:Nat):Option Nat→Bool
  | none=>true
  | some d=>Nat.blt d N
def chkR (P:Program) (N:Nat) (ops:Array Oper):List Oper→List POp→Bool
  | [],[]=>true
  | o :: os,p :: ps=>o.dst == p.dst&&chkD N p.dst&&chkG ops p o&&zbk2 P o.op p.po p.xs&&chkR P N ops os ps
  | _,_=>false
def POp.sortOk:List Oper→Nat→Bool
  | [],_=>true
  | o :: os,i=>o.after.all (fun e=>!Region.binds .any e||Nat.blt e.on i)&&POp.sortOk os (i+1)
def rdsX:List PX→List Nat
  | []=>[]
  | .t n :: ps=>n :: rdsX ps
  | _ :: ps=>rdsX ps
def POp.rds (p:POp):List Nat:=(match p.g with|none=>[]|some q=>[q.1])++rdsX p.xs
def conf (p q:POp):Bool :=
  (match p.dst with|none=>false|some d=>q.dst == some d||q.rds.contains d)||(match q.dst with|none=>false|some d=>p.rds.contains d)
def zC2 (o:Oper):List Nat:=(o.after.toList.filter fun e=>Region.binds .any e).map (·.on)
def ancs:List (List Nat)→List (List Nat)→List (List Nat)
  | acc,[]=>acc
  | acc,e :: es=>ancs (acc++[e++e.flatMap fun i=>acc.getD i []]) es
def zbu9 (ps:List POp) (an:List (List Nat)):Bool :=
  (List.range ps.length).all fun j=>(List.range j).all fun i=>match ps[i]?,ps[j]? with
    | some p,some q=>!conf p q||(an.getD j []).contains i
    | _,_=>true
def zcC0 (ops:Array Oper) (ps:List POp):Bool:=POp.sortOk ops.toList 0&&zbu9 ps (ancs [] (ops.toList.map zC2))
def chkC (P:Program) (N:Nat):Code→PC→Bool
  | .skip,.skip=>true
  | .region _ ops false,.reg _ ps=>chkR P N ops ops.toList ps
  | .region _ ops true,.regd _ ps=>chkR P N ops ops.toList ps&&zcC0 ops ps
  | .region _ ops true,.regm _ an ps=>chkR P N ops ops.toList ps&&(POp.sortOk ops.toList 0&&(zbu9 ps an&&an == ancs [] (ops.toList.map zC2)))
  | .seq a b,.seq c d=>chkC P N a c&&chkC P N b d
  | .cond x a b,.cond p c d=>chkX x p&&chkC P N a c&&chkC P N b d
  | .block i a,.block j c=>i == j&&chkC P N a c
  | .loop a,.loop c=>chkC P N a c
  | .exit i,.exit j=>i == j
  | .ret,.ret=>true
  | .scope a,.scope c=>chkC P N a c
  | .label _,.label=>true
  | _,.dead=>true
  | _,_=>false
def St.drop (st:St) (dr:List Nat):St:=⟨zbV3 dr st.fr,st.mem,st.nx⟩
def AW (C:Cx) (E:Env) (c:PC) (Q:Exit→St→Prop) (st:St):Prop :=
  ∀ code,chkC C.P E.N code c=true→∀ a w,Sat E st.toS a w→code.wp C.P (fun e a' w'=>∃ st',Q e st'∧Sat E st'.toS a' w') a w
def St.le (E:Env) (st st':St):Prop:=∀ a w,Sat E st.toS a w→Sat E st'.toS a w
def fixL (l:List (Nat×Nat)):Nat→Bool
  | 0=>true
  | n+1=>Nat.beq (rho l n) n&&fixL l n
def zaC5 (k:Nat) (l:List (Nat×Nat)) (nx:Nat):Bool:=fixL l k&&Nat.ble k nx
theorem zcC1 {l:List (Nat×Nat)}:∀ {k:Nat},fixL l k=true→∀ x,x < k→rho l x=x
  | k+1,h,x,hx=>by
    simp only [fixL,bS] at h
    by_cases hk:x=k
    · subst hk; exact Nat.eq_of_beq_eq_true h.1
    · exact zcC1 h.2 x (by omega)
section
variable {C:Cx} {E:Env} {Q:Exit→St→Prop} {st:St}
theorem AW.mono {c:PC} {Q':Exit→St→Prop} (h:AW C E c Q st) (hq:∀ e s,Q e s→Q' e s):AW C E c Q' st :=
  fun code hc a w hs=>wp_mono (h code hc a w hs) fun e _ _ ⟨st',h1,h2⟩=>⟨st',hq e st' h1,h2⟩
theorem AW.weak {c:PC} {st':St} (hle:St.le E st st') (h:AW C E c Q st'):AW C E c Q st :=
  fun code hc a w hs=>h code hc a w (hle a w hs)
theorem zdi8 (h:Q .normal st):AW C E .skip Q st:=fun code hc a w hs=>by
  cases code <;> simp [chkC] at hc
  exact wp_skip ⟨st,h,hs⟩
theorem zcT2 (h:Q .normal st):AW C E .label Q st:=fun code hc a w hs=>by
  cases code <;> simp [chkC] at hc
  exact wp_label ⟨st,h,hs⟩
theorem zcT3 {c:PC} (h:AW C E c (fun e s=>match e with|.goto _=>False|e=>Q e s) st):AW C E (.scope c) Q st:=fun code hc a w hs=>by
  cases code <;> simp [chkC] at hc
  rename_i c1
  refine wp_scope_straight (wp_mono (h c1 hc a w hs) fun e a' w' ⟨st',h1,h2⟩=>?_)
  cases e with
  | goto l=>exact h1
  | _=>exact ⟨st',h1,h2⟩
theorem zdq5 {x y:PC} (h:AW C E x (fun e s=>match e with|.normal=>AW C E y Q s|e=>Q e s) st):AW C E (.seq x y) Q st:=fun code hc a w hs=>by
  cases code <;> simp [chkC] at hc
  rename_i c1 c2
  refine wp_seq (wp_mono (h c1 hc.1 a w hs) fun e a' w' ⟨st',h1,h2⟩=>?_)
  cases e with
  | normal=>exact h1 c2 hc.2 a' w' h2
  | _=>exact ⟨st',h1,h2⟩
theorem zbF0 {x:PX} {p q:PC} {b:Bool} (hx:xv C.G st.slot x=.bool b) (hG:E.G=C.G) (ht:b=true→AW C E p Q st) (hf:b=false→AW C E q Q st):AW C E (.cond x p q) Q st:=fun code hc a w hs=>by
  cases code <;> simp [chkC] at hc
  rename_i o c1 c2
  obtain ⟨W,μ,hs'⟩:=hs
  have hr:=zbG4 hs' hc.1.1
  rw [hG] at hr
  have hv:Rep w W μ (a.eval o) (.bool b):=by rw [← hx]; exact hr
  exact wp_cond_split hv.bool (fun hb=>ht hb c1 hc.1.2 a w ⟨W,μ,hs'⟩) (fun hb=>hf hb c2 hc.2 a w ⟨W,μ,hs'⟩)
theorem zbH8 {id:Nat} {c:PC} (h:AW C E c (fun e s=>match e with|.exit i=>(if i=id then Q .normal s else Q (.exit i) s)|e=>Q e s) st):AW C E (.block id c) Q st:=fun code hc a w hs=>by
  cases code <;> simp [chkC] at hc
  rename_i i c1
  obtain ⟨rfl,hc⟩:=hc
  refine wp_block (wp_mono (h c1 hc a w hs) fun e a' w' ⟨st',h1,h2⟩=>?_)
  cases e with
  | exit j =>
    simp only [Exit.inBlock] at h1 ⊢
    split at h1
    · rename_i hj; rw [bW hj]; exact ⟨st',h1,h2⟩
    · rename_i hj; rw [bT hj]; exact ⟨st',h1,h2⟩
  | _=>exact ⟨st',h1,h2⟩
theorem zdi9 {id:Nat} (h:Q (.exit id) st):AW C E (.exit id) Q st:=fun code hc a w hs=>by
  cases code <;> simp [chkC] at hc
  subst hc
  exact wp_exit ⟨st,h,hs⟩
theorem zdq6 (h:Q .ret st):AW C E .ret Q st:=fun code hc a w hs=>by
  cases code <;> simp [chkC] at hc
  exact wp_ret ⟨st,h,hs⟩
theorem zdj0 {c:PC} {G:Type} (I:G→St) (inv:G→Prop) (μ:G→Nat) (g0:G) (h0:inv g0) (hle:St.le E st (I g0))
    (h:∀ g,inv g→AW C E c (fun e s=>match e with|.normal=>∃ g',inv g'∧St.le E s (I g')∧μ g' < μ g|e=>Q e s) (I g)):AW C E (.loop c) Q st:=fun code hc a w hs=>by
  cases code <;> simp [chkC] at hc
  rename_i c1
  refine wp_mono (c:=.loop c1) (Q:=fun e a' w'=>∃ st',Q e st'∧Sat E st'.toS a' w') ?_ (fun _ _ _ h=>h)
  have key:∀ n g,μ g=n→inv g→∀ a w,Sat E (I g).toS a w→∀ (b:Frame) (k:List Item) (cs:List Frame),
      ∃ e a' w',(∃ st',Q e st'∧Sat E st'.toS a' w')∧Arrives C.P (lone (b.at a (.code c1 :: .inLoop c1 :: k)) cs w) b k cs e a' w':=by
    intro n
    induction n using Nat.strongRecOn with
    | _ n ih =>
      intro g hn hg a w hs b k cs
      obtain ⟨e,a₁,w₁,⟨st',hq,hs'⟩,harr⟩:=h g hg c1 hc a w hs b (.inLoop c1 :: k) cs
      cases e with
      | normal =>
        obtain ⟨g',hg',hle',hlt⟩:=hq
        obtain ⟨e₂,a₂,w₂,hq₂,harr₂⟩:=ih (μ g') (hn ▸ hlt) g' rfl hg' a₁ w₁ (hle' a₁ w₁ hs') b k cs
        exact ⟨e₂,a₂,w₂,hq₂,.of_steps (Steps.trans harr (.one step_inLoop)) harr₂⟩
      | exit id=>exact ⟨_,a₁,w₁,⟨st',hq,hs'⟩,.pass (x:=.inLoop c1) rfl (fun _ _=>.inl (by simp)) harr⟩
      | goto l=>exact ⟨_,a₁,w₁,⟨st',hq,hs'⟩,.pass (x:=.inLoop c1) rfl (fun _ _=>.inl (by simp)) harr⟩
      | ret=>exact ⟨_,a₁,w₁,⟨st',hq,hs'⟩,.pass (x:=.inLoop c1) rfl (fun _ _=>.inl (by simp)) harr⟩
      | panic ch=>exact ⟨_,a₁,w₁,⟨st',hq,hs'⟩,.pass (x:=.inLoop c1) rfl (fun _ _=>.inl (by simp)) harr⟩
      | outgrown=>exact ⟨_,a₁,w₁,⟨st',hq,hs'⟩,.pass (x:=.inLoop c1) rfl (fun _ _=>.inl (by simp)) harr⟩
  intro b k cs
  obtain ⟨e,a',w',hq,harr⟩:=key _ g0 rfl h0 a w (hle a w hs) b k cs
  exact ⟨e,a',w',hq,.of_steps (.one step_loop) harr⟩
theorem zdj1 {c:PC} {G:Type} (I:G→St) (inv:G→Prop) (μ:G→Nat)
    (h:∀ g,inv g→AW C E c (fun e s=>match e with|.normal=>∃ g',inv g'∧St.le E s (I g')∧μ g' < μ g|e=>Q e s) (I g))
    (h1:AW C E c (fun e s=>match e with|.normal=>∃ g',inv g'∧St.le E s (I g')|e=>Q e s) st):AW C E (.loop c) Q st:=fun code hc a w hs=>by
  have hc0:=hc
  cases code <;> simp [chkC] at hc
  rename_i c1
  refine wp_mono (c:=.loop c1) (Q:=fun e a' w'=>∃ st',Q e st'∧Sat E st'.toS a' w') ?_ (fun _ _ _ h=>h)
  have key:∀ n g,μ g=n→inv g→∀ a w,Sat E (I g).toS a w→∀ (b:Frame) (k:List Item) (cs:List Frame),
      ∃ e a' w',(∃ st',Q e st'∧Sat E st'.toS a' w')∧Arrives C.P (lone (b.at a (.code c1 :: .inLoop c1 :: k)) cs w) b k cs e a' w':=by
    intro n
    induction n using Nat.strongRecOn with
    | _ n ih =>
      intro g hn hg a w hs b k cs
      obtain ⟨e,a₁,w₁,⟨st',hq,hs'⟩,harr⟩:=h g hg c1 hc a w hs b (.inLoop c1 :: k) cs
      cases e with
      | normal =>
        obtain ⟨g',hg',hle',hlt⟩:=hq
        obtain ⟨e₂,a₂,w₂,hq₂,harr₂⟩:=ih (μ g') (hn ▸ hlt) g' rfl hg' a₁ w₁ (hle' a₁ w₁ hs') b k cs
        exact ⟨e₂,a₂,w₂,hq₂,.of_steps (Steps.trans harr (.one step_inLoop)) harr₂⟩
      | exit id=>exact ⟨_,a₁,w₁,⟨st',hq,hs'⟩,.pass (x:=.inLoop c1) rfl (fun _ _=>.inl (by simp)) harr⟩
      | goto l=>exact ⟨_,a₁,w₁,⟨st',hq,hs'⟩,.pass (x:=.inLoop c1) rfl (fun _ _=>.inl (by simp)) harr⟩
      | ret=>exact ⟨_,a₁,w₁,⟨st',hq,hs'⟩,.pass (x:=.inLoop c1) rfl (fun _ _=>.inl (by simp)) harr⟩
      | panic ch=>exact ⟨_,a₁,w₁,⟨st',hq,hs'⟩,.pass (x:=.inLoop c1) rfl (fun _ _=>.inl (by simp)) harr⟩
      | outgrown=>exact ⟨_,a₁,w₁,⟨st',hq,hs'⟩,.pass (x:=.inLoop c1) rfl (fun _ _=>.inl (by simp)) harr⟩
  intro b k cs
  obtain ⟨e,a₁,w₁,⟨st',hq,hs'⟩,harr⟩:=h1 c1 hc a w hs b (.inLoop c1 :: k) cs
  cases e with
  | normal =>
    obtain ⟨g',hg',hle'⟩:=hq
    obtain ⟨e₂,a₂,w₂,hq₂,harr₂⟩:=key _ g' rfl hg' a₁ w₁ (hle' a₁ w₁ hs') b k cs
    exact ⟨e₂,a₂,w₂,hq₂,.of_steps (Steps.trans (.one step_loop) (Steps.trans harr (.one step_inLoop))) harr₂⟩
  | exit id=>exact ⟨_,a₁,w₁,⟨st',hq,hs'⟩,.of_steps (.one step_loop) (.pass (x:=.inLoop c1) rfl (fun _ _=>.inl (by simp)) harr)⟩
  | goto l=>exact ⟨_,a₁,w₁,⟨st',hq,hs'⟩,.of_steps (.one step_loop) (.pass (x:=.inLoop c1) rfl (fun _ _=>.inl (by simp)) harr)⟩
  | ret=>exact ⟨_,a₁,w₁,⟨st',hq,hs'⟩,.of_steps (.one step_loop) (.pass (x:=.inLoop c1) rfl (fun _ _=>.inl (by simp)) harr)⟩
  | panic ch=>exact ⟨_,a₁,w₁,⟨st',hq,hs'⟩,.of_steps (.one step_loop) (.pass (x:=.inLoop c1) rfl (fun _ _=>.inl (by simp)) harr)⟩
  | outgrown=>exact ⟨_,a₁,w₁,⟨st',hq,hs'⟩,.of_steps (.one step_loop) (.pass (x:=.inLoop c1) rfl (fun _ _=>.inl (by simp)) harr)⟩
theorem zcH3 {ops:Array Oper} {p:POp} {o:Oper} (h:chkG ops p o=true):match p.g,o.guard with|none,none=>True|some q,some r=>r.2=q.2∧(ops[r.1]?).bind (·.dst)=some q.1|_,_=>False:=by
  unfold chkG at h
  cases hp:p.g <;> cases ho:o.guard <;> simp only [hp,ho] at h ⊢ <;> first|trivial|(cases h; done)|(simp only [bS,dI] at h; exact h)
theorem zbh2 {P:Program} {N:Nat} {ops:Array Oper} {G:zbz4}:∀ (os:List Oper) (ps:List POp) (n:Nat),chkR P N ops os ps=true→(∀ i,os[i]? = ops[n+i]?)→n+os.length=ops.size→ROk ⟨P,G⟩ N ops n ps
  | [],[],n,_,_,hl=>by
    show n=ops.size
    simpa using hl
  | o :: os,p :: ps,n,hc,h,hl=>by
    simp only [chkR,bS,dI] at hc
    obtain ⟨⟨⟨⟨h1,h2⟩,h3⟩,h4⟩,h5⟩:=hc
    refine ⟨⟨o,by have:=h 0; simpa using this.symm,h1,fun d hd=>?_,zcH3 h3,h4⟩,zbh2 os ps (n+1) h5 (fun i=>?_) (by simp at hl; omega)⟩
    · rw [hd] at h2; simpa [chkD] using h2
    · have:=h (i+1)
      simp only [List.getElem?_cons_succ] at this
      rw [this]; congr 1; omega
  | [],_ :: _,_,hc,_,_=>by simp [chkR] at hc
  | _ :: _,[],_,hc,_,_=>by simp [chkR] at hc
theorem zbH9 {α:Type}:∀ (ns:List Nat) (l:List (Nat×α)) (t:Nat),look (zbV3 ns l) t=if t ∈ ns then none else look l t
  | [],l,t=>by simp [zbV3]
  | n :: ns,l,t=>by
    simp only [zbV3]
    rw [zbH9 ns,zaB0]
    by_cases h1:t ∈ ns
    · simp [h1]
    · by_cases h2:t=n
      · simp [h2]
      · simp [h1,h2]
theorem Sat.drop {a:Act} {w:World} {dr:List Nat} (h:Sat E st.toS a w):Sat E (st.drop dr).toS a w:=by
  obtain ⟨W,μ,hs⟩:=h
  refine ⟨W,μ,{ hs with fr:=fun t=>?_ }⟩
  show Rep w W μ _ ((st.drop dr).slot t)
  simp only [St.slot,St.drop,zbH9]
  split
  · trivial
  · exact hs.fr t
theorem zdq7 {dr:List Nat} {ops:List POp} (hG:E.G=C.G) (h:arun C ops st fun s=>Q .normal (s.drop dr)):AW C E (.reg dr ops) Q st:=fun code hc a w hs=>by
  cases code with
  | region id os d =>
   cases d with
   | true=>simp [chkC] at hc
   | false =>
    simp only [chkC] at hc
    refine zcb8 hG (ps:=ops) ?_ hs h (fun st' a' w' hK hs'=>⟨_,hK,hs'.drop⟩)
    obtain ⟨P,G⟩:=C
    exact zbh2 os.toList ops 0 hc (by simp) (by simp)
  | _=>simp [chkC] at hc
def idOk (nx:Nat):A→Prop
  | .agg cs=>if zn2 cs then True else ∀ c ∈ cs,zbk3 nx c
  | .tup _=>False
  | .cnd _ _=>False
  | a=>zbk3 nx a
def leF (l:List (Nat×Nat)) (st:St) (nx:Nat):List (Nat×A)→Prop
  | []=>True
  | q :: r=>st.slot q.1=ren l q.2∧idOk nx q.2∧leF l st nx r
def leM (l:List (Nat×Nat)) (st:St) (nx:Nat):List (Nat×Row)→Prop
  | []=>True
  | q :: r=>(match look st.mem (rho l q.1) with
      | some r'=>(q.2.ro=true∨r'.ro=false)∧r'.sz=q.2.sz∧r'.es=zaM5 l q.2.es
      | none=>False)∧rho l q.1 < st.nx∧q.1 < nx∧idEs nx q.2.es∧leM l st nx r
def Le (l:List (Nat×Nat)) (st st':St):Prop:=leF l st st'.nx st'.fr∧leM l st st'.nx st'.mem∧zaI3 (st'.mem.map fun q=>rho l q.1)=true
theorem zcT4 {l:List (Nat×Nat)} {nx:Nat}:∀ {fr:List (Nat×A)},leF l st nx fr→∀ t v,look fr t=some v→st.slot t=ren l v∧idOk nx v
  | q :: r,h,t,v,hv=>by
    simp only [look] at hv
    split at hv
    · rename_i hq; cases hv; subst hq; exact ⟨h.1,h.2.1⟩
    · exact zcT4 h.2.2 t v hv
theorem zcT5 {l:List (Nat×Nat)} {nx:Nat}:∀ {m:List (Nat×Row)},leM l st nx m→∀ x r,look m x=some r→(∃ r',look st.mem (rho l x)=some r'∧(r.ro=true∨r'.ro=false)∧r'.sz=r.sz∧r'.es=zaM5 l r.es)∧rho l x < st.nx∧x < nx∧idEs nx r.es
  | q :: r,h,t,v,hv=>by
    simp only [look] at hv
    split at hv
    · rename_i hq; cases hv; subst hq
      obtain ⟨h1,h2,h3,h4,_⟩:=h
      refine ⟨?_,h2,h3,h4⟩
      split at h1
      · rename_i r' hr'; exact ⟨r',hr',h1⟩
      · exact h1.elim
    · exact zcT5 h.2.2.2.2 t v hv
theorem zbI0 {l:List (Nat×Nat)} {nx:Nat} {w:World} {W:Nat→Prop} {μ μ':Nat→Loc} (hμ:∀ x,x < nx→(μ' x=μ (rho l x)∨μ' x=.dead)) {v:Value} {b:A} (hid:zcj1 nx b) (h:RepP w W μ v (ren0 l b)):RepP w W μ' v b:=by
  cases b with
  | own x lo n =>
    refine ⟨h.1,?_⟩
    rcases hμ x hid with e|e
    · rw [e]; exact h.2
    · rw [e]; trivial
  | ptr x i j =>
    refine ⟨h.1,?_⟩
    rcases hμ x hid with e|e
    · rw [e]; exact h.2
    · rw [e]; trivial
  | _=>exact h
theorem zat8 {l:List (Nat×Nat)} {nx:Nat} {w:World} {W:Nat→Prop} {μ μ':Nat→Loc} (hμ:∀ x,x < nx→(μ' x=μ (rho l x)∨μ' x=.dead)) {v:Value} {b:A} (hid:zbk3 nx b) (h:RepK w W μ v (ren1 l b)):RepK w W μ' v b:=by
  cases b with
  | clo f cs =>
    obtain ⟨vs,hv,hl,hr⟩:=h
    exact ⟨vs,hv,by simpa using hl,fun i u c hu hc=>zbI0 hμ (hid c (cN hc)) (hr i u (ren0 l c) hu (by simp [hc]))⟩
  | own x lo n=>exact (zbI0 (b:=.own x lo n) hμ hid (h.toP rfl)).toK
  | ptr x i j=>exact (zbI0 (b:=.ptr x i j) hμ hid (h.toP rfl)).toK
  | _=>exact h
theorem St.le_of {E:Env} (l:List (Nat×Nat)) {st st':St} (h:Le l st st') (hk:zaC5 E.k0 l st'.nx=true):St.le E st st':=by
  intro a w ⟨W,μ,hs⟩
  obtain ⟨hF,hM,hD⟩:=h
  simp only [zaC5,bS] at hk
  obtain ⟨hk1,hk2⟩:=hk
  have hk2:E.k0≤st'.nx:=fO hk2
  let μ':Nat→Loc:=fun x=>if st'.nx≤x then .fresh else match look st'.mem x with|some _=>μ (rho l x)|none=>.dead
  have hμ:∀ x,x < st'.nx→(μ' x=μ (rho l x)∨μ' x=.dead):=fun x hx=>by
    show (if st'.nx≤x then Loc.fresh else _)=_∨(if st'.nx≤x then Loc.fresh else _)=_
    rw [bT (by omega)]
    cases look st'.mem x with
    | none=>exact .inr rfl
    | some r=>exact .inl rfl
  have hat:∀ x k,μ' x=.at_ k→μ (rho l x)=.at_ k∧∃ r,look st'.mem x=some r:=fun x k hx=>by
    have hx':(if st'.nx≤x then Loc.fresh else match look st'.mem x with|some _=>μ (rho l x)|none=>.dead)=.at_ k:=hx
    split at hx'
    · cases hx'
    · split at hx'
      · rename_i r hr; exact ⟨hx',r,hr⟩
      · cases hx'
  refine ⟨W,μ',{ hs with fr:=fun t=>?_,mem:=fun x=>?_,inj:=fun x y k k' hx hy he=>?_,live:=fun x k hx=>hs.live _ k (hat x k hx).1,fix:=fun x hx=>?_ }⟩
  · show Rep w W μ' _ (st'.slot t)
    simp only [St.slot]
    cases hl:look st'.fr t with
    | none=>trivial
    | some v =>
      obtain ⟨h1,h2⟩:=zcT4 hF t v hl
      have hr:=hs.fr t
      rw [show st.toS.fr t=st.slot t from rfl,h1] at hr
      simp only [Option.getD_some]
      cases v with
      | agg cs =>
        simp only [ren,idOk] at hr h2
        split at hr
        · rename_i hp
          obtain ⟨vs,hv,hlen,hc⟩:=hr
          exact ⟨vs,hv,hlen,fun i u c hu hc'=>zq1 ((hc i u c hu hc').toC (zaj4 hp c (cN hc')))⟩
        · rename_i hp
          rw [bT hp] at h2
          obtain ⟨vs,hv,hlen,hc⟩:=hr
          exact ⟨vs,hv,by simpa using hlen,fun i u c hu hc'=>zat8 hμ (h2 c (cN hc')) (hc i u _ hu (by simp [hc']))⟩
      | clo f cs=>exact zp1 (zo5 (zat8 (b:=.clo f cs) hμ h2 hr))
      | tup cs=>exact h2.elim
      | cnd g b=>exact h2.elim
      | any=>trivial
      | bool b=>exact zp1 (zo5 (zat8 (b:=.bool b) hμ h2 hr))
      | int k n=>exact zp1 (zo5 (zat8 (b:=.int k n) hμ h2 hr))
      | str b=>exact zp1 (zo5 (zat8 (b:=.str b) hμ h2 hr))
      | sl es=>exact zp1 (zo5 (zat8 (b:=.sl es) hμ h2 hr))
      | full es=>exact zp1 (zo5 (zat8 (b:=.full es) hμ h2 hr))
      | own x lo n=>exact zp1 (zo5 (zat8 (b:=.own x lo n) hμ h2 hr))
      | ptr x i j=>exact zp1 (zo5 (zat8 (b:=.ptr x i j) hμ h2 hr))
      | rd cs off=>exact zp1 (zo5 (zat8 (b:=.rd cs off) hμ h2 hr))
  · show zan1 w W μ' x (st'.m x)
    unfold St.m
    by_cases hx:st'.nx≤x
    · rw [bW hx]
      show (if st'.nx≤x then Loc.fresh else _)=_
      rw [bW hx]
    · rw [bT hx]
      cases hl:look st'.mem x with
      | none =>
        show (if st'.nx≤x then Loc.fresh else match look st'.mem x with|some _=>μ (rho l x)|none=>.dead)=_
        rw [bT hx,hl]
      | some r =>
        obtain ⟨⟨r',h1,hro,hsz,hes⟩,h2,h3,h4⟩:=zcT5 hM x r hl
        have hm:=hs.mem (rho l x)
        rw [show st.toS.mem (rho l x)=MS.row r' by show st.m _=_; unfold St.m; rw [bT (by omega),h1]] at hm
        have hμx:μ' x=μ (rho l x):=by
          show (if st'.nx≤x then Loc.fresh else match look st'.mem x with|some _=>μ (rho l x)|none=>.dead)=_
          rw [bT hx,hl]
        rcases hm with ⟨e1,e2,e3⟩|⟨k,e1,e2,e3,e4,us,rest,e,e5,e6,e7⟩
        · refine .inl ⟨hμx.trans e1,?_,by omega⟩
          rw [hes] at e2
          simp only [zaM5] at e2
          split at e2
          · exact e2
          · exact iS.1 e2
        · refine .inr ⟨k,hμx.trans e1,fun hr=>e2 (hro.elim (fun h=>by rw [hr] at h; cases h) (fun h=>h)),e3.trans hsz,by omega,us,rest,e,e5,e6,?_⟩
          rw [hes,hsz] at e7
          exact zcB9 e7 h4 (fun u b hid hr=>zat8 hμ hid hr) (fun u b hp hr=>zq1 (hr.toC hp))
  · obtain ⟨h1,r1,h2⟩:=hat x k hx
    obtain ⟨h3,r2,h4⟩:=hat y k' hy
    exact zaV2 hD x y r1 r2 h2 h4 (hs.inj _ _ k k' h1 h3 he)
  · have h1:=zcC1 hk1 x hx
    rcases hμ x (by omega) with e|e
    · rw [e,h1]; exact hs.fix x hx
    · exact .inr e
end
def zG3:Nat→List A→List (Nat×A)
 | _,[]=>[]
 | n,a :: as=>(n,a) :: zG3 (n+1) as
inductive RX where
 | t (n:Nat)
 | c (n sz:Nat) (ag:Bool)
def zaI4 (P:Program):List ResultVar→List RX→Bool
 | [],[]=>true
 | .tmp t :: rs,.t n :: ns=>t == n&&zaI4 P rs ns
 | .cell t T :: rs,.c n sz ag :: ns=>t == n&&tyOk P T ag sz&&zaI4 P rs ns
 | _,_=>false
def chkF (P:Program) (f:FuncId) (pc:PC) (N:Nat) (rs:List RX) (np:Nat):Bool :=
 match P.funcs[f]? with
 | some fn=>(match fn.body with
  | some c=>chkC P N c pc
  | none=>false)&&fn.ntmps == N&&zaI4 P fn.results.toList rs&&Nat.ble np N
 | none=>false
def resA (st:St):RX→A
 | .t n=>st.slot n
 | .c n sz ag=>match ev st.nx st.m (.load sz ag) [st.slot n] with
  | some ef=>ef.v
  | none=>.any
def resG (st:St):RX→Prop
 | .t _=>True
 | .c n sz ag=>match ev st.nx st.m (.load sz ag) [st.slot n] with
  | some ef=>ef.obl
  | none=>False
def allG (st:St):List RX→Prop
 | []=>True
 | x :: xs=>(resG st x∧zaC4 st.m (resA st x))∧allG st xs
def zaX8 (st:St):List RX→List A
 | []=>[]
 | x :: xs=>frz st.m (resA st x) :: zaX8 st xs
def zbW2:List A→A
 | [x]=>x
 | xs=>.tup xs
def zbW3 (st:St) (rs:List RX) (r:A):Prop:=allG st rs∧zbW2 (zaX8 st rs)=r
def resL (st:St):List RX→List A
 | []=>[]
 | x :: xs=>resA st x :: resL st xs
def zbA0 (st:St):List RX→Prop
 | []=>True
 | x :: xs=>resG st x∧zbA0 st xs
def zbI1:List A→Bool
 | []=>true
 | x :: xs=>x.isVV&&zbI1 xs
def zaV3 (k:Nat) (st:St) (rs:List RX) (rl:List A) (ms':List (Nat×Row)) (k':Nat):Prop :=
 zbA0 st rs∧zbI1 rl=true∧∃ l,Le l ⟨zG3 0 (resL st rs),st.mem,st.nx⟩ ⟨zG3 0 rl,ms',k'⟩∧zaC5 k l k'=true
def zcj7 (k:Nat) (rs:List RX) (rl:List A) (ms':List (Nat×Row)) (k':Nat):Exit→St→Prop
 | .ret,st=>zaV3 k st rs rl ms' k'
 | .normal,st=>zaV3 k st rs rl ms' k'
 | _,_=>False
def zbW4:List (Nat×Row)→Bool
 | []=>true
 | q :: r=>!q.2.ro&&zbW4 r
def Post (rs:List RX) (r:A):Exit→St→Prop
 | .ret,st=>zbW3 st rs r
 | .normal,st=>zbW3 st rs r
 | _,_=>False
section
variable {C:Cx}
theorem zaC6:∀ (as:List A) (n t:Nat),look (zG3 n as) t=if n≤t then as[t - n]? else none
 | [],n,t=>by simp [zG3,look]
 | a :: as,n,t=>by
  simp only [zG3,look]
  by_cases h:n=t
  ·subst h; simp
  ·rw [bT h,zaC6 as (n+1) t]
   by_cases h2:n+1≤t
   ·rw [bW h2,bW (by omega)]
    rw [show t - n=(t - (n+1))+1 by omega]
    simp
   ·rw [bT h2]
    by_cases h3:n≤t
    ·omega
    ·rw [bT h3]
def zbv0:List Value→Value
 | [v]=>v
 | us=>.tuple us.toArray
theorem zbb8 {E:Env} {st:St} {a:Act} {w:World} {W:Nat→Prop} {μ:Nat→Loc} (hs:SatW E st.toS a w W μ) {F:ResultVar→Sem Value} (hF:∀ t,F (.tmp t)=pure (a.tmps.getD t undef))
  (hC:∀ t T,F (.cell t T)=do loadVar T (← asAddr (a.tmps.getD t undef))):∀ (l:List ResultVar) (ns:List RX),zaI4 C.P l ns=true→zbA0 st ns →
  ∃ us,(l.mapM F).run C.P w=.ok us w∧us.length=ns.length∧∀ (i:Nat) (u:Value) (x:RX),us[i]? = some u→ns[i]? = some x→Rep w W μ u (resA st x)
 | [],[],_,_=>⟨[],rfl,rfl,fun i u x h=>by simp at h⟩
 | [],_ :: _,h,_=>by simp [zaI4] at h
 | x :: l,[],h,_=>by cases x <;> simp [zaI4] at h
 | .cell _ _ :: _,.t _ :: _,h,_=>by simp [zaI4] at h
 | .tmp _ :: _,.c _ _ _ :: _,h,_=>by simp [zaI4] at h
 | .tmp t :: l,.t n :: ns,h,hg=>by
  simp only [zaI4,bS,dI] at h
  obtain ⟨rfl,h2⟩:=h
  obtain ⟨us,e1,e2,e3⟩:=zbb8 hs hF hC l ns h2 hg.2
  refine ⟨a.tmps.getD t undef :: us,?_,by simp [e2],fun i u x hu hx=>?_⟩
  ·simp only [kM,Sem.run_bind,hF,Sem.run_pure,Result.andThen_ok,e1]
  ·cases i with
   | zero=>rw [List.getElem?_cons_zero] at hu hx; cases hu; cases hx; exact hs.fr t
   | succ i=>exact e3 i u x (by simpa using hu) (by simpa using hx)
 | .cell t T :: l,.c n sz ag :: ns,h,hg=>by
  simp only [zaI4,bS,dI] at h
  obtain ⟨⟨rfl,hT⟩,h2⟩:=h
  obtain ⟨us,e1,e2,e3⟩:=zbb8 hs hF hC l ns h2 hg.2
  have hg1:=hg.1
  have hl:∃ u,(F (.cell t T)).run C.P w=.ok u w∧Rep w W μ u (resA st (.c t sz ag)):=by
   simp only [resG] at hg1
   split at hg1
   ·rename_i ef he
    obtain ⟨b,q,u,h1,h3,h4⟩:=zci7 (P:=C.P) hs hT (hs.fr t) he hg1
    refine ⟨u,?_,?_⟩
    ·rw [hC]
     simp only [h1,Sem.run_bind]
     show (((loadVar T ⟨b,q,none⟩).run C.P w))=_
     exact h3
    ·simp only [resA,he]; exact h4
   ·exact hg1.elim
  obtain ⟨u0,h5,h6⟩:=hl
  refine ⟨u0 :: us,?_,by simp [e2],fun i u x hu hx=>?_⟩
  ·simp only [kM,Sem.run_bind,h5,Sem.run_pure,Result.andThen_ok,e1]
  ·cases i with
   | zero=>simp at hu hx; subst hu; subst hx; exact h6
   | succ i=>exact e3 i u x (by simpa using hu) (by simpa using hx)
theorem zbA1 (fn:Func) {E:Env} {st:St} {a:Act} {w:World} {W:Nat→Prop} {μ:Nat→Loc} (hs:SatW E st.toS a w W μ) {rs:List RX} (h:zaI4 C.P fn.results.toList rs=true) (hg:zbA0 st rs) :
  ∃ us,(results fn a.tmps).run C.P w=.ok (zbv0 us) w∧us.length=rs.length∧∀ (i:Nat) (u:Value) (x:RX),us[i]? = some u→rs[i]? = some x→Rep w W μ u (resA st x):=by
 have e:∀ F:ResultVar→Sem Value,fn.results.mapM F=Functor.map List.toArray (fn.results.toList.mapM F):=fun F=>by
  rw [← List.mapM_toArray,Array.toArray_toList]
 let F:ResultVar→Sem Value:=fun
  | .tmp t=>pure (a.tmps.getD t undef)
  | .cell x t=>do loadVar t (← asAddr (a.tmps.getD x undef))
 have eF:results fn a.tmps=(do
   let vs ← fn.results.mapM F
   pure (if h:vs.size=1 then vs[0] else .tuple vs)):=by
  unfold results
  congr 1
 obtain ⟨us,h1,h2,h3⟩:=zbb8 (C:=C) hs (F:=F) (fun t=>rfl) (fun t T=>rfl) _ _ h hg
 refine ⟨us,?_,h2,h3⟩
 rw [eF]
 simp only [Sem.run_bind]
 rw [e F,Sem.run_map,h1]
 simp only [Result.andThen_ok,Sem.run_pure,iI]
 match us with
 | [t]=>simp [zbv0]
 | []=>simp [zbv0]
 | _ :: _ :: _=>simp [zbv0]
theorem zcj8 {st:St}:∀ {rs:List RX},allG st rs→zbA0 st rs
 | [],_=>trivial
 | _ :: _,h=>⟨h.1.1,zcj8 h.2⟩
theorem zcC2 {st:St}:∀ {rs:List RX},allG st rs→∀ (i:Nat) (x:RX),rs[i]? = some x→zaC4 st.m (resA st x)
 | y :: ys,h,i,x,hx=>by
  cases i with
  | zero=>simp at hx; subst hx; exact h.1.2
  | succ i=>exact zcC2 h.2 i x (by simpa using hx)
 | [],_,i,x,hx=>by simp at hx
theorem zcj9 {st:St}:∀ (rs:List RX) (i:Nat),(zaX8 st rs)[i]? = (rs[i]?).map fun x=>frz st.m (resA st x)
 | [],i=>by simp [zaX8]
 | y :: ys,i=>by
  cases i with
  | zero=>simp [zaX8]
  | succ i=>simpa [zaX8] using zcj9 ys i
theorem zbv1 {f:FuncId} {pc:PC} {N np:Nat} {rs:List RX} (hchk:chkF C.P f pc N rs np=true) {as:List A} (hnp:as.length=np) {r:A}
  (h:∀ E:Env,E.G=C.G→E.N=N→E.k0=0→AW C E pc (Post rs r) ⟨zG3 0 as,[],0⟩):PFn C f as r:=by
 intro w W vs hgl hlt hlen hargs
 unfold chkF at hchk
 split at hchk
 ·rename_i fn hfn
  simp only [bS,dI] at hchk
  obtain ⟨⟨⟨hc,hN⟩,hres⟩,hle⟩:=hchk
  have hle:np≤N:=fO hle
  split at hc
  ·rename_i c hb
   let E:Env:=⟨w,W,fun _=>False,N,C.G,0,zat5⟩
   have hS:SatW E (⟨zG3 0 as,[],0⟩:St).toS { tmps:=vs.toArray++Array.replicate (fn.ntmps - vs.toArray.size) undef,defers:=[] } w W zat5:={
    defers:=rfl
    size:=by simp; show vs.length+(fn.ntmps - vs.length)=N; omega
    fr:=fun t=>by
     show Rep w W zat5 _ ((⟨zG3 0 as,[],0⟩:St).slot t)
     simp only [St.slot,zaC6,eZ,cB,Nat.sub_zero]
     cases ha:as[t]? with
     | none=>trivial
     | some b =>
      have ht:t < vs.length:=by rw [hlen]; exact (cD.1 ha).1
      have hv:vs[t]? = some vs[t]:=by simp [ht]
      have:(vs.toArray++Array.replicate (fn.ntmps - vs.toArray.size) undef).getD t undef=vs[t]:=by
       rw [fU,gU (by simpa using ht)]
       simp [ht]
      rw [this]
      exact zp1 (hargs t _ b hv ha)
    mem:=fun x=>by show zan1 w W zat5 x ((⟨zG3 0 as,[],0⟩:St).m x); simp [St.m,zan1,zat5]
    inj:=fun x y k k' hx=>by cases hx
    keeps:=Keeps.refl _ w
    winlt:=hlt
    wsub:=fun b h=>.inl h
    wsup:=fun b h=>.inl h
    wlt:=hlt
    live:=fun x k hx=>by cases hx
    glob:=hgl
    fix:=fun x hx=>absurd hx (kK x) }
   have hwp:=h E rfl rfl rfl c hc _ w ⟨W,zat5,hS⟩
   refine calls_of_wp hfn hb (wp_mono hwp fun e a' w' ⟨st',hq,W',μ',hs'⟩=>?_)
   have fin:zbW3 st' rs r→a'.defers=[]∧∃ v,(results fn a'.tmps).run C.P w'=.ok v w'∧∃ u,Ending.returned v=.returned u∧Keeps (fun _=>False) w w'∧Rep w' W zat5 u r:=fun hro=>by
    obtain ⟨hg,hr⟩:=hro
    obtain ⟨us,hrun,hul,hus⟩:=zbA1 fn hs' hres (zcj8 hg)
    refine ⟨hs'.defers,_,hrun,_,rfl,hs'.keeps,?_⟩
    have toW:∀ {v:Value} {b:A},RepV w' (zaF8 W' μ' (zat7 b)) zat5 v (frz st'.m b)→RepV w' W zat5 v (frz st'.m b):=fun {v b} hv =>
     hv.goes (Keeps.refl (fun _=>False) w') (fun _ _ _ h=>h) (fun q _ h1 h2=>h1 ⟨(hs'.wsup q h2).elim id (fun h=>h.elim),fun ⟨x,k,_,hk,hkb⟩=>by
      rcases hs'.live x k hk with h3|h3
      ·exact h3
      ·have:=hlt q h2
       have h4:w.heap.size≤k.b:=h3
       omega⟩) (Old.refl _)
    have one:∀ (i:Nat) (u:Value) (x:RX),us[i]? = some u→rs[i]? = some x→RepV w' W zat5 u (frz st'.m (resA st' x)):=fun i u x hu hx=>toW (zcb6 (s:=st'.toS) hs' (hus i u x hu hx) (zcC2 hg i x hx) (fun y hy=>hy))
    subst hr
    match rs,us,hul,one with
    | [x],[u],_,one=>exact zp1 (one 0 u x rfl rfl)
    | [],[],_,one=>exact ⟨[],by simp [zbv0],by simp [zaX8],by simp⟩
    | x1 :: x2 :: xs,u1 :: u2 :: us,hul,one =>
     refine ⟨u1 :: u2 :: us,rfl,?_,fun i u b hu hb=>?_⟩
     ·simp only [zaX8,List.length_cons] at hul ⊢
      have:∀ l,(zaX8 st' l).length=l.length:=fun l=>by induction l with
       | nil=>rfl
       | cons a l ih=>simp [zaX8,ih]
      rw [this]; omega
     ·have hb':(zaX8 st' (x1 :: x2 :: xs))[i]? = some b:=hb
      rw [zcj9,cG] at hb'
      obtain ⟨x,hx,rfl⟩:=hb'
      exact one i u x hu hx
   cases e with
   | normal=>exact fin hq
   | ret=>exact fin hq
   | _=>exact hq.elim
  ·cases hc
 ·cases hchk
theorem zck0:∀ {ms:List (Nat×Row)},zbW4 ms=true→∀ x r,look ms x=some r→r.ro=false
 | q :: ms,h,x,r,hr=>by
  simp only [zbW4,bS,cS] at h
  simp only [look] at hr
  split at hr
  ·cases hr; exact h.1
  ·exact zck0 h.2 x r hr
theorem zck1:∀ {l:List A},zbI1 l=true→∀ x ∈ l,x.isVV=true
 | y :: ys,h,x,hx=>by
  simp only [zbI1,bS] at h
  rcases cE.1 hx with rfl|hx
  ·exact h.1
  ·exact zck1 h.2 x hx
theorem zcC3 {st:St}:∀ (rs:List RX) (i:Nat),(resL st rs)[i]? = (rs[i]?).map fun x=>resA st x
 | [],i=>by simp [resL]
 | y :: ys,i=>by
  cases i with
  | zero=>simp [resL]
  | succ i=>simpa [resL] using zcC3 ys i
theorem zbW5 {f:FuncId} {pc:PC} {N np:Nat} {rs:List RX} (hchk:chkF C.P f pc N rs np=true) {as:List A} (hnp:as.length=np) {ms ms':List (Nat×Row)} {k k':Nat} {rl:List A} (hms:zbW4 ms=true) (hall:zbz7 ms k=true)
  (hrl:rl.length=rs.length) (h:∀ E:Env,E.G=C.G→E.N=N→E.k0=k→AW C E pc (zcj7 k rs rl ms' k') ⟨zG3 0 as,ms,k⟩):MFn C f as ms k (zbW2 rl) ms' k':=by
 intro w W μ vs hgl hlt hlen hargs hmem hinj
 unfold chkF at hchk
 split at hchk
 ·rename_i fn hfn
  simp only [bS,dI] at hchk
  obtain ⟨⟨⟨hc,hN⟩,hres⟩,hle⟩:=hchk
  have hle:np≤N:=fO hle
  have hrow:∀ x r,(⟨[],ms,k⟩:St).m x=.row r→r.ro=false:=fun x r hx=>by
   simp only [St.m] at hx
   split at hx
   ·cases hx
   ·cases hl:look ms x with
    | none=>rw [hl] at hx; cases hx
    | some r'=>rw [hl] at hx; cases hx; exact zck0 hms x r hl
  have hfr:∀ x,k≤x→μ x=.fresh:=fun x hx=>by
   have:=hmem x
   rw [show (⟨[],ms,k⟩:St).m x=.fresh by simp only [St.m]; rw [bW hx]] at this
   exact this
  have hnf:∀ x,x < k→μ x≠.fresh:=fun x hx hf=>by
   obtain ⟨r,hr⟩:=zbm9 hall x hx
   have:=hmem x
   rw [show (⟨[],ms,k⟩:St).m x=.row r by simp only [St.m,hr]; rw [bT (by omega)]] at this
   rcases this with ⟨h1,_⟩|⟨kb,h1,_⟩
   ·rw [hf] at h1; cases h1
   ·rw [hf] at h1; cases h1
  have hown:∀ x kb,μ x=.at_ kb→W kb.b:=fun x kb hx=>by
   obtain ⟨r,h1,h2⟩:=hmem.at_ hx
   exact h2.1 (hrow x r h1)
  split at hc
  ·rename_i c hb
   let E:Env:=⟨w,W,fun b=>W b∧∃ y kb,μ y=.at_ kb∧kb.b=b,N,C.G,k,μ⟩
   have hS:SatW E (⟨zG3 0 as,ms,k⟩:St).toS { tmps:=vs.toArray++Array.replicate (fn.ntmps - vs.toArray.size) undef,defers:=[] } w W μ:={
    defers:=rfl
    size:=by simp; show vs.length+(fn.ntmps - vs.length)=N; omega
    fr:=fun t=>by
     show Rep w W μ _ ((⟨zG3 0 as,ms,k⟩:St).slot t)
     simp only [St.slot,zaC6,eZ,cB,Nat.sub_zero]
     cases ha:as[t]? with
     | none=>trivial
     | some b =>
      have ht:t < vs.length:=by rw [hlen]; exact (cD.1 ha).1
      have hv:vs[t]? = some vs[t]:=by simp [ht]
      have:(vs.toArray++Array.replicate (fn.ntmps - vs.toArray.size) undef).getD t undef=vs[t]:=by
       rw [fU,gU (by simpa using ht)]
       simp [ht]
      rw [this]
      exact zp1 (hargs t _ b hv ha)
    mem:=hmem
    inj:=hinj
    keeps:=Keeps.refl _ w
    winlt:=hlt
    wsub:=fun b h=>.inl h
    wsup:=fun b h=>.inl h
    wlt:=hlt
    live:=fun x kb hx=>.inl ⟨hown x kb hx,x,kb,hx,rfl⟩
    glob:=hgl
    fix:=fun x hx=>.inl ⟨rfl,hnf x hx⟩ }
   have hwp:=h E rfl rfl rfl c hc _ w ⟨W,μ,hS⟩
   refine calls_of_wp hfn hb (wp_mono hwp fun e a' w' ⟨st',hq,W1,μ1,hs'⟩=>?_)
   have fin:zaV3 k st' rs rl ms' k'→a'.defers=[]∧∃ v,(results fn a'.tmps).run C.P w'=.ok v w'∧∃ u W' μ',Ending.returned v=.returned u∧Step (⟨[],ms,k⟩:St).m (⟨[],ms',k'⟩:St).m w w' W W' μ μ'∧Rep w' W' μ' u (zbW2 rl):=fun ⟨hg,hvv,l,hle',hfx⟩=>by
    obtain ⟨us,hrun,hul,hus⟩:=zbA1 fn hs' hres hg
    let E':Env:={ E with N:=us.length }
    have hs1:SatW E' (⟨zG3 0 (resL st' rs),st'.mem,st'.nx⟩:St).toS { tmps:=us.toArray,defers:=[] } w' W1 μ1:={
     defers:=rfl
     size:=by simp; rfl
     fr:=fun t=>by
      show Rep w' W1 μ1 _ ((⟨zG3 0 (resL st' rs),st'.mem,st'.nx⟩:St).slot t)
      simp only [St.slot,zaC6,eZ,cB,Nat.sub_zero,zcC3]
      cases hx:rs[t]? with
      | none=>trivial
      | some x =>
       have ht:t < us.length:=by rw [hul]; exact (cD.1 hx).1
       have:us.toArray.getD t undef=us[t]:=by simp [Array.getD,ht]
       show Rep w' W1 μ1 (us.toArray.getD t undef) (resA st' x)
       rw [this]
       exact hus t _ x (by simp [ht]) hx
     mem:=hs'.mem
     inj:=hs'.inj
     keeps:=hs'.keeps
     winlt:=hs'.winlt
     wsub:=hs'.wsub
     wsup:=hs'.wsup
     wlt:=hs'.wlt
     live:=hs'.live
     glob:=hs'.glob
     fix:=hs'.fix }
    obtain ⟨W2,μ2,hs2⟩:=St.le_of (E:=E') l hle' hfx _ w' ⟨W1,μ1,hs1⟩
    have hst:Step (⟨[],ms,k⟩:St).m (⟨[],ms',k'⟩:St).m w w' W W2 μ μ2:={
     keeps:=hs2.keeps
     hW:=fun b hb h=>by
      rcases hs2.wsub b h with h1|h1
      ·exact h1
      ·have h2:w.heap.size≤b:=h1; omega
     wsup:=fun b hb=>by
      rcases hs2.wsup b hb with h1|h1
      ·exact .inl h1
      ·exact .inr h1.2
     wlt0:=hlt
     wlt:=hs2.wlt
     old:=fun x hx=>by
      by_cases hxk:x < k
      ·rcases hs2.fix x hxk with h1|h1
       ·exact .inl h1.1
       ·exact .inr h1
      ·exact absurd (hfr x (by omega)) hx
     mem:=hs2.mem
     inj:=hs2.inj
     live:=fun x kb hx=>by
      rcases hs2.live x kb hx with h1|h1
      ·exact .inl h1.2
      ·exact .inr h1 }
    have one:∀ (i:Nat) (u:Value) (b:A),us[i]? = some u→rl[i]? = some b→RepV w' W2 μ2 u b:=fun i u b hu hb=>by
     have h1:=hs2.fr i
     have hi:i < us.length:=(cD.1 hu).1
     have h2:(⟨zG3 0 rl,ms',k'⟩:St).slot i=b:=by simp only [St.slot,zaC6,eZ,cB,Nat.sub_zero,hb,Option.getD_some]
     have h3:us.toArray.getD i undef=u:=by
      rw [bY hi] at hu; cases hu; simp [Array.getD,hi]
     have h4:Rep w' W2 μ2 (us.toArray.getD i undef) ((⟨zG3 0 rl,ms',k'⟩:St).slot i):=h1
     rw [h2,h3] at h4
     have hv:=zck1 hvv b (cN hb)
     exact h4.toVV hv
    refine ⟨hs'.defers,_,hrun,_,W2,μ2,rfl,hst,?_⟩
    match rl,us,(hul.trans hrl.symm),one with
    | [b],[u],_,one=>exact zp1 (one 0 u b rfl rfl)
    | [],[],_,_=>exact ⟨[],by simp [zbv0],by simp,by simp⟩
    | b1 :: b2 :: bs,u1 :: u2 :: us,hul,one=>exact ⟨u1 :: u2 :: us,rfl,hul,one⟩
   cases e with
   | normal=>exact fin hq
   | ret=>exact fin hq
   | _=>exact hq.elim
  ·cases hc
 ·cases hchk
end
end Ab
end Go.Proofs.YtfkjffmjkbkmhaaGreatDoor
