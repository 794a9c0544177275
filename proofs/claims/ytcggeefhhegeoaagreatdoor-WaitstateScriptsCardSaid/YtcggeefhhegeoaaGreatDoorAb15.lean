import Derived.Test.YtcggeefhhegeoaaGreatDoorAb14
import Derived.Lib.SliceRun
namespace Go.Proofs.YtcggeefhhegeoaaGreatDoor
namespace Ab
set_option linter.unusedSimpArgs false
set_option linter.unusedVariables false
theorem St.m_row {st:St} {x:Nat} {r:Row} (h:st.m x=.row r):x < st.nx:=by
  unfold St.m at h
  split at h
  · cases h
  · omega
theorem St.m_nx (st:St):st.m st.nx=.fresh:=by simp [St.m]
theorem zbJ1 (nx:Nat) (r:Row):mwOk nx [(nx,.row r)]:=⟨Nat.le_refl _,by simp,trivial⟩
theorem zbc0 {nx y:Nat} {q:MS} {r:List (Nat×MS)} (h:y < nx) (hq:q≠.fresh) (hr:mwOk nx r):mwOk nx ((y,q) :: r) :=
  ⟨Nat.le_of_lt h,hq,by rw [if_neg (by simp only; omega)]; exact hr⟩
theorem zaM8 {nx:Nat}:∀ {x y:List (Nat×MS)},(∀ q ∈ x,q.1 < nx∧q.2≠.fresh)→mwOk nx y→mwOk nx (x++y)
  | [],_,_,h=>h
  | q :: x,y,hx,h=>zbc0 (hx q (.head _)).1 (hx q (.head _)).2 (zaM8 (fun p hp=>hx p (.tail _ hp)) h)
theorem zcD2 {st:St} {po:PO} {vals:List A} {ef:Ef} (he:ev st.nx st.m po vals=some ef):mwOk st.nx ef.mw:=by
  unfold ev at he
  (repeat' split at he)
  all_goals first
    | (cases he; done)
    | (cases he; first
        | trivial
        | exact zbJ1 _ _
        | exact zbc0 (St.m_row (by assumption)) (by simp) trivial)
    | (simp only [Option.map_eq_some_iff] at he; obtain ⟨q,_,rfl⟩:=he; trivial)
    | (simp only [Option.bind_eq_some_iff] at he; obtain ⟨new,hnew,l,hl,he⟩:=he; cases he; trivial)
    | (simp only [Option.bind_eq_some_iff] at he
       obtain ⟨new,hnew,he⟩:=he
       (repeat' split at he) <;> cases he <;> first
         | trivial
         | exact zbJ1 _ _
         | exact zbc0 (St.m_row (by assumption)) (by simp) trivial
         | exact zbc0 (St.m_row (by assumption)) (by simp) (zbJ1 _ _))
theorem zaM9 {m:Nat→MS}:∀ {xs:List Nat},∀ q ∈ zS3 m xs,(∃ r,m q.1=.row r)∧q.2≠.fresh
  | x :: xs,q,h=>by
    unfold zS3 at h
    split at h
    · rename_i r hr
      rcases List.mem_cons.1 h with rfl|h
      · exact ⟨⟨r,hr⟩,by simp⟩
      · exact zaM9 q h
    · exact zaM9 q h
theorem zdi9 (st:St) (xs:List Nat):mwOk st.nx (zS3 st.m xs):=by
  have:=zaM8 (nx:=st.nx) (x:=zS3 st.m xs) (y:=[]) (fun q hq=>let ⟨⟨r,hr⟩,h2⟩:=zaM9 q hq; ⟨St.m_row hr,h2⟩) trivial
  rwa [List.append_nil] at this
theorem zbh0 (st:St) (vals:List A) (r:A):mwOk st.nx (zM7 st.m vals r):=by
  unfold zM7
  split
  · trivial
  · exact zdi9 st _
theorem zcd5 (st:St) (d:Option Nat) (v:A) (mw:List (Nat×MS)) (h:mwOk st.nx mw):(st.app d v mw).toS=⟨setF st.slot d v,setM st.m mw⟩:=by
  simp only [St.toS,zck7]
  congr 1
  exact zcv2 mw st.fr st.mem st.nx h _
section
variable {C:Cx} {o:Oper} {a:Act} {E:Env} {st:St} {w:World} {W:Nat→Prop} {μ:Nat→Loc}
theorem zbq7:∀ ps:List PX,zt5 C st ps=zM0 C st.slot ps
  | []=>rfl
  | p :: ps=>by simp only [zt5,zM0,zbq7 ps]
theorem zcd6:∀ ps:List PX,zas6 C st ps=gdsF C st.slot ps
  | []=>rfl
  | p :: ps=>by simp only [zas6,gdsF,zcd6 ps]
theorem zcI5 (g:Option (Nat×Bool)):zQ7 st g=zP4 st.slot g:=by cases g <;> rfl
theorem zaU5 {s:S} (hs:SatW E s a w W μ) (hG:E.G=C.G):∀ (ps:List PX) (ops:List Operand),zB5 ops ps=true→gdsF C s.fr ps→Vals w W μ a ops (zM0 C s.fr ps)
  | [],[],_,_=>⟨rfl,by simp⟩
  | p :: ps,x :: xs,h,hg=>by
    simp only [zB5,Bool.and_eq_true] at h
    obtain ⟨h1,h2⟩:=zaU5 hs hG ps xs h.2 hg.2
    refine ⟨by simp [zM0,h1],fun i y v hy hv=>?_⟩
    cases i with
    | zero =>
      simp [zM0] at hy hv
      subst hy; subst hv
      have:=zbI1 hs h.1
      rw [hG] at this
      exact zcc8 this hg.1
    | succ i =>
      simp [zM0] at hy hv
      exact h2 i y v hy hv
  | [],_ :: _,h,_=>by simp [zB5] at h
  | _ :: _,[],h,_=>by simp [zB5] at h
theorem zbq8 (fr:Nat→A):∀ ps:List PX,(zM0 C fr ps).length=ps.length
  | []=>rfl
  | _ :: ps=>by simp [zM0,zbq8 fr ps]
def zaG0 (W:Nat→Prop) (μ:Nat→Loc) (ids:List Nat):Nat→Prop:=fun b=>W b∧¬ ∃ x k,x ∈ ids∧μ x=.at_ k∧k.b=b
theorem RepC.less {v:Value} {x:A} {ids:List Nat} (h:RepC w W v x):RepC w (zaG0 W μ ids) v x :=
  h.keep (Keeps.refl (fun _=>False) w) (fun _ _ _ h=>h) (fun _ _ h h2=>h h2.1)
theorem zbJ2 {s:S} (hs:SatW E s a w W μ) {v:Value} {x:A} {ids:List Nat} (h:RepK w W μ v x) (hok:zau6 s.mem x) (hid:∀ y ∈ zQ6 x,y ∈ ids):RepC w (zaG0 W μ ids) v (frz1 s.mem x):=by
  cases x with
  | own y lo n =>
    simp only [zau6] at hok
    cases hr:s.mem y with
    | fresh=>simp [hr] at hok
    | dead=>simp [hr] at hok
    | row r =>
      simp only [hr] at hok
      obtain ⟨hln,hpure⟩:=hok
      simp only [frz1,hr]
      have hlen:((r.es.drop lo).take n).length=n:=by simp; omega
      rcases hs.own (zr1 (zq5 h)) hr with ⟨rfl,ad,rfl⟩|⟨k,cap,h5,h6,h7,h8,h9,hrow⟩
      · rw [show (r.es.drop lo).take 0=[] by simp]; exact .sl0 _ _
      · obtain ⟨_,hksz,hpos,us0,rest,e,hheap,htot,hf⟩:=hrow
        rw [h6]
        have hf2:=(hf.drop lo).take n
        conv=>arg 3; rw [show n=((r.es.drop lo).take n).length from hlen.symm]
        refine RepC.mk_sl (sz:=r.sz) (us:=(us0.drop (lo * r.sz)).take (n * r.sz)) (fun hW=>hW.2 ⟨y,k,hid y (by simp [zQ6]),h5,rfl⟩) (Array.getElem?_eq_some_iff.1 hheap).1 (by omega) ?_ ?_
        · refine ⟨hf2.hl,hf2.hs,fun i c j b hc hb=>?_⟩
          obtain ⟨u,hu,hrk⟩:=hf2.ha i c j b hc hb
          exact ⟨u,hu,(hrk.toC (hpure c (List.mem_of_getElem? hc) b (List.mem_of_getElem? hb))).less⟩
        · intro q u hq
          rw [List.getElem?_take] at hq
          split at hq
          · rw [List.getElem?_drop] at hq
            simp only [World.cell?,hheap,hksz,Option.isSome_none,Bool.false_eq_true,if_false,List.getElem?_toArray]
            rw [List.getElem?_append_left (List.getElem?_eq_some_iff.1 hq).1,hq]
          · cases hq
  | _=>exact (h.toC hok).less
theorem zas7:∀ {cs:List A},zo7 cs=true→∀ c ∈ cs,c.pure1=true
  | c :: cs,h,d,hd=>by
    simp only [zo7,Bool.and_eq_true] at h
    rcases List.mem_cons.1 hd with rfl|hd
    · exact h.1
    · exact zas7 h.2 d hd
theorem zcd7 {s:S} (hs:SatW E s a w W μ) {v:Value} {x:A} {ids:List Nat} (h:Rep w W μ v x) (hok:zaC0 s.mem x) (hid:∀ y ∈ zau7 x,y ∈ ids):RepV w (zaG0 W μ ids) zau5 v (frz s.mem x):=by
  cases x with
  | agg cs =>
    obtain ⟨vs,rfl,hl,hr⟩:RepV w W μ v (.agg cs):=h
    by_cases hp:zo7 cs=true
    · simp only [frz,hp,if_true]
      exact ⟨vs,rfl,hl,fun i u b hu hb=>zs2 ((hr i u b hu hb).toC (zas7 hp b (List.mem_of_getElem? hb))).less⟩
    · simp only [frz,zaC0,zau7,hp] at hok hid ⊢
      refine ⟨vs,rfl,by simp [hl],fun i u b hu hb=>?_⟩
      simp only [List.getElem?_map,Option.map_eq_some_iff] at hb
      obtain ⟨c,hc,rfl⟩:=hb
      have hcm:=List.mem_of_getElem? hc
      exact zs2 (zbJ2 hs (hr i u c hu hc) (hok c hcm) (fun y hy=>hid y (List.mem_flatMap.2 ⟨c,hcm,hy⟩)))
  | clo f cs =>
    have:cs=[]:=hok
    subst this
    obtain ⟨vs,hv,hl,hr⟩:RepV w W μ v (.clo f []):=h
    exact ⟨vs,hv,hl,by simp⟩
  | any=>simp [zaC0,zau6,A.pure1] at hok
  | tup cs=>simp [zaC0,zau6,A.pure1] at hok
  | cnd g b=>simp [zaC0,zau6,A.pure1] at hok
  | ptr y i j=>simp [zaC0,zau6,A.pure1] at hok
  | rd cs off=>simp [zaC0,zau6,A.pure1] at hok
  | own y lo n=>exact zq5 (zs2 (zbJ2 hs (show RepK w W μ v (.own y lo n) from h) hok hid))
  | bool b=>exact zq5 (zs2 (RepC.less (show RepC w W v (.bool b) from h)))
  | int k n=>exact zq5 (zs2 (RepC.less (show RepC w W v (.int k n) from h)))
  | str b=>exact zq5 (zs2 (RepC.less (show RepC w W v (.str b) from h)))
  | sl es=>exact zq5 (zs2 (RepC.less (show RepC w W v (.sl es) from h)))
  | full es=>exact zq5 (zs2 (RepC.less (show RepC w W v (.full es) from h)))
theorem zbY1 (m:Nat→MS):∀ {vals:List A} (i:Nat) (b:A),(zR5 m vals)[i]? = some b→∃ x,vals[i]? = some x∧b=frz m x
  | [],i,b,h=>by simp [zR5] at h
  | x :: xs,i,b,h=>by
    cases i with
    | zero=>simp [zR5] at h; exact ⟨x,rfl,h.symm⟩
    | succ i=>simp [zR5] at h; exact zbY1 m i b h
theorem zbA6 {m:Nat→MS}:∀ {vals:List A},zG8 m vals→∀ x ∈ vals,zaC0 m x
  | x :: xs,h,y,hy=>by
    rcases List.mem_cons.1 hy with rfl|hy
    · exact h.1
    · exact zbA6 h.2 y hy
theorem zbq9:∀ {vals:List A} {x:A},x ∈ vals→∀ y ∈ zau7 x,y ∈ zG9 vals
  | z :: zs,x,hx,y,hy=>by
    simp only [zG9,List.mem_append]
    rcases List.mem_cons.1 hx with rfl|hx
    · exact .inl hy
    · exact .inr (zbq9 hx y hy)
theorem zbk3 (m:Nat→MS):∀ vals:List A,(zR5 m vals).length=vals.length
  | []=>rfl
  | _ :: xs=>by simp [zR5,zbk3 m xs]
theorem zbG4 (m:Nat→MS):∀ (ids:List Nat) (m0:Nat→MS) (x:Nat),setM m0 (zS3 m ids) x=if x ∈ ids then (match m x with|.row r=>.row ⟨true,r.sz,r.z,r.es⟩|_=>m0 x) else m0 x
  | [],m0,x=>by simp [zS3,setM]
  | y :: ys,m0,x=>by
    unfold zS3
    split
    · rename_i r hr
      simp only [setM]
      rw [zbG4 m ys]
      by_cases h1:x ∈ ys
      · simp only [h1,if_true,List.mem_cons,or_true]
        by_cases hxy:x=y
        · subst hxy; simp [hr]
        · cases m x <;> simp [hxy]
      · simp only [h1,if_false,List.mem_cons,or_false]
        by_cases hxy:x=y
        · subst hxy; simp [hr]
        · simp [hxy]
    · rename_i hr
      rw [zbG4 m ys]
      by_cases h1:x ∈ ys
      · simp [h1]
      · simp only [h1,if_false,List.mem_cons,or_false]
        split
        · rename_i hxy
          subst hxy
          split
          · rename_i r hr2; exact absurd hr2 (hr r)
          · rfl
        · rfl
theorem zdj0 {s:S} (hs:SatW E s a w W μ) {w':World} (hk:Keeps (fun _=>False) w w') (ids:List Nat):Step s.mem (setM s.mem (zS3 s.mem ids)) w w' W (zaG0 W μ ids) μ μ where
  keeps:=hk.mono fun _ _ h=>h.elim
  hW:=fun _ _ h=>h.1
  wsup:=fun b hb=>by
    by_cases h:∃ x k,x ∈ ids∧μ x=.at_ k∧k.b=b
    · obtain ⟨x,k,_,h2,h3⟩:=h; exact .inr ⟨x,k,h2,h3⟩
    · exact .inl ⟨hb,h⟩
  wlt0:=hs.wlt
  wlt:=fun b h=>Nat.lt_of_lt_of_le (hs.wlt b h.1) hk.size
  old:=Old.refl μ
  mem:=fun x=>by
    rw [zbG4]
    have hm:=hs.mem x
    have hgo:∀ (r:Row) (k:Blk),zaP9 w W μ r k→(r.ro=false→¬ x ∈ ids)→μ x=.at_ k→zaP9 w' (zaG0 W μ ids) μ r k:=fun r k hrow hx hk'=>by
      obtain ⟨h1,h2,h3,us,rest,e,h4,h5,h6⟩:=hrow
      refine ⟨fun hr=>⟨h1 hr,fun ⟨y,ky,hy,hy2,hy3⟩=>hx hr (hs.inj y x ky k hy2 hk' hy3 ▸ hy)⟩,h2,h3,us,rest,e,?_,h5,h6.mono fun u b hr=>hr.goes hk (fun _ _ _ h=>h) (fun _ _ h h2=>h h2.1) (Old.refl μ)⟩
      rw [hk.block k.b (Array.getElem?_eq_some_iff.1 h4).1 (fun h=>h)]
      exact h4
    split
    · rename_i hx
      cases hr:s.mem x with
      | fresh=>rw [hr] at hm; exact hm
      | dead=>rw [hr] at hm; exact hm
      | row r =>
        rw [hr] at hm
        rcases hm with h1|⟨k,h1,h2⟩
        · exact .inl h1
        · exact .inr ⟨k,h1,hgo ⟨true,r.sz,r.z,r.es⟩ k ⟨by simp,h2.2⟩ (by simp) h1⟩
    · rename_i hx
      cases hr:s.mem x with
      | fresh=>rw [hr] at hm; exact hm
      | dead=>rw [hr] at hm; exact hm
      | row r =>
        rw [hr] at hm
        rcases hm with h1|⟨k,h1,h2⟩
        · exact .inl h1
        · exact .inr ⟨k,h1,hgo r k h2 (fun _=>hx) h1⟩
  inj:=hs.inj
  live:=fun x k h=>.inl ⟨x,k,h,rfl⟩
theorem zbY2:Old zau5 μ:=fun x h=>absurd rfl h
theorem zcT3 {W':Nat→Prop} {v:Value} {r:A} (h:Rep w W zau5 v r) (hr:r.scal=true):Rep w W' μ v r:=by
  have c1:∀ {u:Value} {b:A},b.scal1=true→RepK w W zau5 u b→RepK w W' μ u b:=fun {u b} hb hu=>by
    cases b <;> simp [A.scal1] at hb
    · have:RepC w W u _:=hu
      cases this; exact zs2 (.bool _)
    · have:RepC w W u _:=hu
      cases this; exact zs2 (.int _ _)
    · have:RepC w W u _:=hu
      cases this; exact zs2 (.str _)
  have ccs:∀ {cs:List A},zu1 cs=true→∀ c ∈ cs,c.scal1=true:=fun {cs}=>by
    induction cs with
    | nil=>simp
    | cons d ds ih =>
      intro h c hc
      simp only [zu1,Bool.and_eq_true] at h
      rcases List.mem_cons.1 hc with rfl|hc
      · exact h.1
      · exact ih h.2 c hc
  have c2:∀ {u:Value} {b:A},b.scal2=true→RepV w W zau5 u b→RepV w W' μ u b:=fun {u b} hb hu=>by
    cases b with
    | agg cs =>
      obtain ⟨vs,hv,hl,hr⟩:=hu
      exact ⟨vs,hv,hl,fun i u c h1 h2=>c1 (ccs hb c (List.mem_of_getElem? h2)) (hr i u c h1 h2)⟩
    | bool b=>exact zq5 (c1 hb hu)
    | int k n=>exact zq5 (c1 hb hu)
    | str b=>exact zq5 (c1 hb hu)
    | _=>simp [A.scal2,A.scal1] at hb
  have cvs:∀ {cs:List A},zbJ0 cs=true→∀ c ∈ cs,c.scal2=true:=fun {cs}=>by
    induction cs with
    | nil=>simp
    | cons d ds ih =>
      intro h c hc
      simp only [zbJ0,Bool.and_eq_true] at h
      rcases List.mem_cons.1 hc with rfl|hc
      · exact h.1
      · exact ih h.2 c hc
  cases r with
  | tup as =>
    obtain ⟨vs,hv,hl,hr'⟩:=h
    exact ⟨vs,hv,hl,fun i u c h1 h2=>c2 (cvs hr c (List.mem_of_getElem? h2)) (hr' i u c h1 h2)⟩
  | any=>trivial
  | cnd g b=>simp [A.scal,A.scal2,A.scal1] at hr
  | agg cs=>exact zr1 (c2 hr h)
  | bool b=>exact zr1 (c2 hr h)
  | int k n=>exact zr1 (c2 hr h)
  | str b=>exact zr1 (c2 hr h)
  | _=>simp [A.scal,A.scal2,A.scal1] at hr
theorem zcv3 {f:FuncId} {s:S} (hs:SatW E s a w W μ) (hG:E.G=C.G) {vs:List Value} {vals:List A} (hl:vs.length=vals.length) (hV:∀ (i:Nat) (v:Value) (x:A),vs[i]? = some v→vals[i]? = some x→Rep w W μ v x)
    (hok:zG8 s.mem vals) {r:A} (hf:PFn C f (zR5 s.mem vals) r) :
    Calls C.P f vs.toArray w fun e w'=>∃ v W',e=.returned v∧Rep w' W' μ v r∧Step s.mem (setM s.mem (zM7 s.mem vals r)) w w' W W' μ μ:=by
  have hgl:zbb6 w (zaG0 W μ (zG9 vals)) C.G:=fun g cs hg=>by
    obtain ⟨h1,h2,h3⟩:=hs.glob g cs (hG ▸ hg)
    exact ⟨fun h=>h1 h.1,h2,fun j b hj=>let ⟨u,hu,hr⟩:=h3 j b hj; ⟨u,hu,hr.less⟩⟩
  have:=hf w (zaG0 W μ (zG9 vals)) vs hgl (fun b h=>hs.wlt b h.1) (by rw [zbk3]; exact hl) (fun i v b hv hb=>by
    obtain ⟨x,hx,rfl⟩:=zbY1 _ i b hb
    have hxm:=List.mem_of_getElem? hx
    exact zcd7 hs (hV i v x hv hx) (zbA6 hok x hxm) (zbq9 hxm))
  refine this.mono fun e w' ⟨v,he,hk,hr⟩=>?_
  have hr2:Rep w' (zaG0 W μ (zG9 vals)) μ v r:=hr.goes (Keeps.refl (fun _=>False) w') (fun _ _ _ h=>h) (fun _ _ h=>h) zbY2
  unfold zM7
  split
  · rename_i hsc
    exact ⟨v,W,he,zcT3 hr hsc,Step.quiet hk hs.mem hs.inj hs.wlt⟩
  · exact ⟨v,_,he,hr2,zdj0 hs hk _⟩
theorem zck8 {s:S} (hs:SatW E s a w W μ) {ops:Array Oper} {o:Oper} {g:Option (Nat×Bool)} {b:Bool}
    (hg:match g,o.guard with|none,none=>True|some q,some p=>p.2=q.2∧(ops[p.1]?).bind (·.dst)=some q.1|_,_=>False) (h:zP4 s.fr g=some b):Region.wanted o (yielded ops a.tmps)=b:=by
  cases g with
  | none =>
    cases ho:o.guard with
    | none=>simp [zP4] at h; subst h; simp [Region.wanted,ho]
    | some p=>simp [ho] at hg
  | some q =>
    cases ho:o.guard with
    | none=>simp [ho] at hg
    | some p =>
      simp only [ho] at hg
      obtain ⟨h1,h2⟩:=hg
      obtain ⟨j,want⟩:=p
      obtain ⟨t,want'⟩:=q
      simp only at h1 h2
      subst h1
      have hfr:=hs.fr t
      simp only [Region.wanted,ho,yielded,h2,Option.bind_some]
      simp only [zP4] at h
      have hgd:∀ v,a.tmps.getD t undef=.bool v→a.tmps[t]? = some (.bool v):=fun v hv=>by
        rw [Array.getD_eq_getD_getElem?] at hv
        cases hq:a.tmps[t]? with
        | none=>rw [hq] at hv; simp [undef] at hv
        | some u=>rw [hq] at hv; simp at hv; rw [hv]
      split at h
      · rename_i v hv
        simp only [Option.some.injEq] at h
        subst h
        have hfr':Rep w W μ (a.tmps.getD t undef) (.bool v):=by rw [hv] at hfr; exact hfr
        rw [hgd v hfr'.bool]
        cases v <;> cases want <;> rfl
      · rename_i g' v hv
        simp only [Option.some.injEq] at h
        subst h
        have hfr':Rep w W μ (a.tmps.getD t undef) (.cnd g' (.bool v)):=by rw [hv] at hfr; exact hfr
        cases g' with
        | true =>
          rw [hgd v (Rep.bool (zr1 (hfr'.1 rfl)))]
          cases v <;> cases want <;> rfl
        | false =>
          have hu:=hfr'.2 rfl
          rw [Array.getD_eq_getD_getElem?] at hu
          cases hq:a.tmps[t]? with
          | none=>rfl
          | some u=>rw [hq] at hu; simp at hu; subst hu; rfl
      · cases h
theorem Oper.wp_of_yields {m':Nat→MS} {av:A} {Q:Exit→Act→World→Prop} {k:Act→World→Prop} {s:S} (_hs:SatW E s a w W μ) (h:zq9 C.P o a w W μ s.mem av m')
    (hk:∀ v w' W' μ',Rep w' W' μ' v av→Step s.mem m' w w' W W' μ μ'→k (a.put o.dst v) w'):o.wp C.P a w k Q:=by
  obtain ⟨r,v,w',W',μ',hrun,hr,hrep,hst⟩:=h
  unfold Oper.wp
  rw [hrun]
  rcases hr with rfl|⟨rfl,rfl⟩
  · exact hk v w' W' μ' hrep hst
  · exact hk undef w' W' μ' hrep hst
structure POk (C:Cx) (N:Nat) (ops:Array Oper) (o:Oper) (p:POp):Prop where
  dst:o.dst=p.dst
  lt:∀ d,p.dst=some d→d < N
  g:match p.g,o.guard with|none,none=>True|some q,some r=>r.2=q.2∧(ops[r.1]?).bind (·.dst)=some q.1|_,_=>False
  op:zbk2 C.P o.op p.po p.xs=true
theorem Rep.toVV {v:Value} {x:A} (h:Rep w W μ v x) (hx:x.isVV=true):RepV w W μ v x:=by
  cases x <;> first|exact h|(simp [A.isVV] at hx)
theorem zaf0 {α:Type}:∀ (l m:List (Nat×α)) (x:Nat),look (l++m) x=(look l x).or (look m x)
  | [],m,x=>by simp [look]
  | q :: l,m,x=>by
    simp only [List.cons_append,look]
    split
    · rfl
    · exact zaf0 l m x
theorem zaQ0 {α:Type}:∀ {l:List (Nat×α)} {x:Nat},(∀ q ∈ l,q.1≠x)→look l x=none
  | [],_,_=>rfl
  | q :: l,x,h=>by
    simp only [look]
    rw [if_neg (h q (.head _))]
    exact zaQ0 fun p hp=>h p (.tail _ hp)
theorem zas8:∀ (n k nx x:Nat),look (newL k nx n) x=if k≤x∧x < k+n then some (nx+(x - k)) else none
  | 0,k,nx,x=>by simp only [newL,look]; rw [if_neg (by omega)]
  | n+1,k,nx,x=>by
    simp only [newL,look]
    by_cases h:k=x
    · subst h; rw [if_pos rfl,if_pos (by omega)]; simp
    · rw [if_neg h,zas8 n (k+1) (nx+1) x]
      by_cases h2:k+1≤x∧x < k+1+n
      · rw [if_pos h2,if_pos (by omega)]; congr 1; omega
      · rw [if_neg h2,if_neg (by omega)]
theorem zbm5 {α:Type} {ms:List (Nat×α)}:∀ {k:Nat},zbA5 ms k=true→∀ x,x < k→∃ r,look ms x=some r
  | k+1,h,x,hx=>by
    simp only [zbA5,Bool.and_eq_true] at h
    by_cases hk:x=k
    · subst hk; exact Option.isSome_iff_exists.1 h.1
    · exact zbm5 h.2 x (by omega)
theorem zaQ1 {α:Type}:∀ {l:List (Nat×α)} {x:Nat} {v:α},look l x=some v→(x,v) ∈ l
  | q :: r,x,v,h=>by
    simp only [look] at h
    split at h
    · rename_i hq; cases h; subst hq; exact .head _
    · exact .tail _ (zaQ1 h)
theorem zaU6 {α:Type}:∀ {l:List (Nat×α)} {f:Nat→Nat},zaI4 (l.map fun q=>f q.1)=true→∀ x y r r',look l x=some r→look l y=some r'→f x=f y→x=y
  | q :: rest,f,h,x,y,r,r',hx,hy,he=>by
    simp only [List.map_cons,zaI4,Bool.and_eq_true,Bool.not_eq_true',List.contains_eq_mem,decide_eq_false_iff_not] at h
    simp only [look] at hx hy
    split at hx <;> split at hy
    · omega
    · rename_i h1 h2
      exact absurd (List.mem_map.2 ⟨(y,r'),zaQ1 hy,by rw [h1]; exact he.symm⟩) h.1
    · rename_i h1 h2
      exact absurd (List.mem_map.2 ⟨(x,r),zaQ1 hx,by rw [h2]; exact he⟩) h.1
    · exact zaU6 h.2 x y r r' hx hy he
theorem zaQ2 {m:Nat→MS} {l:List (Nat×Nat)} {k:Nat} {fz:List Nat}:∀ {ms:List (Nat×Row)},zbX9 m l k fz ms→∀ x r,(x,r) ∈ ms →
    (∃ r',m (rho l x)=.row r'∧r'.ro=false∧r'.sz=r.sz∧r'.es=zaM6 l r.es)∧r.ro=false∧x < k∧idEs k r.es∧rho l x ∉ fz
  | q :: rest,h,x,r,hx=>by
    obtain ⟨h1,h2,h3,h4,h5,h6⟩:=h
    rcases List.mem_cons.1 hx with rfl|hx
    · refine ⟨?_,h2,h3,h4,by simpa using h5⟩
      split at h1
      · rename_i r' hr'; exact ⟨r',hr',h1⟩
      · exact h1.elim
    · exact zaQ2 h6 x r hx
theorem zck9 {m:Nat→MS} {l:List (Nat×Nat)} {k:Nat}:∀ {vals as:List A},zbq5 m l k vals as→∀ (i:Nat) (a:A),as[i]? = some a→∃ v,vals[i]? = some v∧argM m l k v a∧(a.hands=false→∀ y ∈ zau7 v,y ∈ fzM vals as)
  | v :: vs,a :: as,h,i,b,hb=>by
    cases i with
    | zero =>
      simp at hb; subst hb
      refine ⟨v,rfl,h.1,fun hh y hy=>?_⟩
      simp only [fzM,hh,Bool.false_eq_true,if_false]
      exact List.mem_append_left _ hy
    | succ i =>
      obtain ⟨u,h1,h2,h3⟩:=zck9 h.2 i b (by simpa using hb)
      exact ⟨u,by simpa using h1,h2,fun hh y hy=>by simp only [fzM]; exact List.mem_append_right _ (h3 hh y hy)⟩
  | [],[],_,i,b,hb=>by simp at hb
  | _ :: _,[],h,_,_,_=>h.elim
  | [],_ :: _,h,_,_,_=>h.elim
theorem zbY3 {m:Nat→MS} {l:List (Nat×Nat)} {k:Nat}:∀ {vals as:List A},zbq5 m l k vals as→vals.length=as.length
  | v :: vs,a :: as,h=>by simp [zbY3 h.2]
  | [],[],_=>rfl
  | _ :: _,[],h=>h.elim
  | [],_ :: _,h=>h.elim
theorem zbA7 (m:Nat→MS):∀ (x y:List (Nat×MS)),setM m (x++y)=setM (setM m x) y
  | [],_=>rfl
  | q :: x,y=>by simp only [List.cons_append,setM]; exact zbA7 _ x y
theorem zaP2 {L:List (Nat×Nat)} {ms':List (Nat×Row)} {y:Nat}:∀ {ids:List Nat} {m:Nat→MS},(∀ x ∈ ids,rho L x≠y)→setM m (zae9 L ms' ids) y=m y
  | [],m,_=>rfl
  | x :: ids,m,h=>by
    simp only [zae9,setM]
    rw [zaP2 fun z hz=>h z (.tail _ hz)]
    exact if_neg fun e=>h x (.head _) e.symm
theorem zbJ3 {L:List (Nat×Nat)} {ms':List (Nat×Row)} {x:Nat}:∀ {ids:List Nat} {m:Nat→MS},x ∈ ids→(∀ z ∈ ids,rho L z=rho L x→z=x) →
    setM m (zae9 L ms' ids) (rho L x)=entM L (look ms' x)
  | y :: ids,m,hx,hi=>by
    simp only [zae9,setM]
    by_cases h:x ∈ ids
    · exact zbJ3 h fun z hz=>hi z (.tail _ hz)
    · rcases List.mem_cons.1 hx with rfl|hx
      · rw [zaP2 fun z hz e=>h (hi z (.tail _ hz) e ▸ hz),if_pos rfl]
      · exact absurd hx h
theorem zbv1:∀ {es:List (List A)},pureEs es=true→∀ c ∈ es,zo7 c=true
  | d :: ds,h,c,hc=>by
    simp only [pureEs,Bool.and_eq_true] at h
    rcases List.mem_cons.1 hc with rfl|hc
    · exact h.1
    · exact zbv1 h.2 c hc
theorem zcD3 {R R':Value→A→Prop} {l:List (Nat×Nat)} {k sz:Nat} {us:List Value} {es:List (List A)} (h:Flat R sz us (zaM6 l es)) (hid:idEs k es)
    (h1:∀ u a,zbA4 k a→R u (ren1 l a)→R' u a) (h2:∀ u a,a.pure1=true→R u a→R' u a):Flat R' sz us es:=by
  unfold zaM6 at h; unfold idEs at hid
  split at h
  · rename_i hp
    exact ⟨h.hl,h.hs,fun i c j b hc hb=>let ⟨u,hu,hr⟩:=h.ha i c j b hc hb; ⟨u,hu,h2 u b (zas7 (zbv1 hp c (List.mem_of_getElem? hc)) b (List.mem_of_getElem? hb)) hr⟩⟩
  · rename_i hp
    rw [if_neg hp] at hid
    refine ⟨by simpa using h.hl,fun i c hc=>by simpa using h.hs i (c.map (ren1 l)) (by simp [hc]),fun i c j b hc hb=>?_⟩
    obtain ⟨u,hu,hr⟩:=h.ha i (c.map (ren1 l)) j (ren1 l b) (by simp [hc]) (by simp [hb])
    exact ⟨u,hu,h1 u b (hid c (List.mem_of_getElem? hc) b (List.mem_of_getElem? hb)) hr⟩
theorem zcT4 {R R':Value→A→Prop} {l:List (Nat×Nat)} {sz:Nat} {us:List Value} {es:List (List A)} (h:Flat R sz us es)
    (h1:∀ u a,R u a→R' u (ren1 l a)) (h2:∀ u a,a.pure1=true→R u a→R' u a):Flat R' sz us (zaM6 l es):=by
  unfold zaM6
  split
  · rename_i hp
    exact ⟨h.hl,h.hs,fun i c j b hc hb=>let ⟨u,hu,hr⟩:=h.ha i c j b hc hb; ⟨u,hu,h2 u b (zas7 (zbv1 hp c (List.mem_of_getElem? hc)) b (List.mem_of_getElem? hb)) hr⟩⟩
  · refine ⟨by simpa using h.hl,fun i c hc=>?_,fun i c j b hc hb=>?_⟩
    · simp only [List.getElem?_map,Option.map_eq_some_iff] at hc
      obtain ⟨d,hd,rfl⟩:=hc
      simpa using h.hs i d hd
    · simp only [List.getElem?_map,Option.map_eq_some_iff] at hc
      obtain ⟨d,hd,rfl⟩:=hc
      simp only [List.getElem?_map,Option.map_eq_some_iff] at hb
      obtain ⟨c,hc,rfl⟩:=hb
      obtain ⟨u,hu,hr⟩:=h.ha i d j c hd hc
      exact ⟨u,hu,h1 u c hr⟩
section
variable {w':World} {W':Nat→Prop} {μ':Nat→Loc}
theorem zM8 {l:List (Nat×Nat)} {k:Nat} (hC:∀ u a,RepC w W u a→RepC w W' u a) (hW:∀ b,b < w.heap.size→¬ W b→¬ W' b) (hμ:∀ x,x < k→μ' x=μ (rho l x)) {u:Value} {b:A} (hid:zck6 k b) (h:RepP w W μ u (ren0 l b)):RepP w W' μ' u b:=by
  cases b with
  | own x lo n=>refine ⟨h.1,?_⟩; rw [hμ x hid]; exact h.2
  | ptr x i j=>refine ⟨h.1,?_⟩; rw [hμ x hid]; exact h.2
  | rd cs off =>
    obtain ⟨b,o,hv,hb,hlt,hc⟩:=h
    exact ⟨b,o,hv,hW b hlt hb,hlt,fun j a hj=>let ⟨u,hu,hr⟩:=hc j a hj; ⟨u,hu,hC u a hr⟩⟩
  | bool b=>exact hC _ _ h
  | int k n=>exact hC _ _ h
  | str s=>exact hC _ _ h
  | sl es=>exact hC _ _ h
  | full es=>exact hC _ _ h
  | clo f cs=>exact hC _ _ h
  | agg cs=>exact (by cases (show RepC w W u (.agg cs) from h))
  | tup cs=>exact (by cases (show RepC w W u (.tup cs) from h))
  | cnd g a=>exact (by cases (show RepC w W u (.cnd g a) from h))
  | any=>exact (by cases (show RepC w W u .any from h))
theorem zbJ4 {l:List (Nat×Nat)} {k:Nat} (hC:∀ u a,RepC w W u a→RepC w W' u a) (hW:∀ b,b < w.heap.size→¬ W b→¬ W' b) (hμ:∀ x,x < k→μ' x=μ (rho l x)) {u:Value} {b:A} (hid:zbA4 k b) (h:RepK w W μ u (ren1 l b)):RepK w W' μ' u b:=by
  cases b with
  | clo f cs =>
    obtain ⟨vs,hv,hl,hr⟩:=h
    exact ⟨vs,hv,by simpa using hl,fun i u c hu hc=>zM8 hC hW hμ (hid c (List.mem_of_getElem? hc)) (hr i u (ren0 l c) hu (by simp [hc]))⟩
  | own x lo n=>exact (zM8 (b:=.own x lo n) hC hW hμ hid (h.toP rfl)).toK
  | ptr x i j=>exact (zM8 (b:=.ptr x i j) hC hW hμ hid (h.toP rfl)).toK
  | rd cs off=>exact (zM8 (b:=.rd cs off) hC hW hμ hid (h.toP rfl)).toK
  | bool b=>exact (zM8 (b:=.bool b) hC hW hμ hid (h.toP rfl)).toK
  | int k n=>exact (zM8 (b:=.int k n) hC hW hμ hid (h.toP rfl)).toK
  | str s=>exact (zM8 (b:=.str s) hC hW hμ hid (h.toP rfl)).toK
  | sl es=>exact (zM8 (b:=.sl es) hC hW hμ hid (h.toP rfl)).toK
  | full es=>exact (zM8 (b:=.full es) hC hW hμ hid (h.toP rfl)).toK
  | agg cs=>exact (zM8 (b:=.agg cs) hC hW hμ hid (h.toP rfl)).toK
  | tup cs=>exact (zM8 (b:=.tup cs) hC hW hμ hid (h.toP rfl)).toK
  | cnd g a=>exact (zM8 (b:=.cnd g a) hC hW hμ hid (h.toP rfl)).toK
  | any=>exact (zM8 (b:=.any) hC hW hμ hid (h.toP rfl)).toK
theorem zbv2 {L:List (Nat×Nat)} (hμ:∀ x,μ x=.fresh∨μ' (rho L x)=μ x) {u:Value} {b:A} (h:RepP w W μ u b):RepP w W μ' u (ren0 L b):=by
  cases b with
  | own x lo n =>
    refine ⟨h.1,?_⟩
    have h2:=h.2
    rcases hμ x with e|e
    · rw [e] at h2; exact h2.elim
    · rw [e]; exact h2
  | ptr x i j =>
    refine ⟨h.1,?_⟩
    have h2:=h.2
    rcases hμ x with e|e
    · rw [e] at h2; exact h2.elim
    · rw [e]; exact h2
  | _=>exact h
theorem zaQ3 {L:List (Nat×Nat)} (hμ:∀ x,μ x=.fresh∨μ' (rho L x)=μ x) {u:Value} {b:A} (h:RepK w W μ u b):RepK w W μ' u (ren1 L b):=by
  cases b with
  | clo f cs =>
    obtain ⟨vs,hv,hl,hr⟩:=h
    refine ⟨vs,hv,by simpa using hl,fun i u c hu hc=>?_⟩
    simp only [List.getElem?_map,Option.map_eq_some_iff] at hc
    obtain ⟨d,hd,rfl⟩:=hc
    exact zbv2 hμ (hr i u d hu hd)
  | own x lo n=>exact (zbv2 (b:=.own x lo n) hμ (h.toP rfl)).toK
  | ptr x i j=>exact (zbv2 (b:=.ptr x i j) hμ (h.toP rfl)).toK
  | _=>exact h
theorem zaQ4 {L:List (Nat×Nat)} (hμ:∀ x,μ x=.fresh∨μ' (rho L x)=μ x) {u:Value} {b:A} (h:RepV w W μ u b):RepV w W μ' u (ren L b):=by
  cases b with
  | agg cs =>
    obtain ⟨vs,hv,hl,hr⟩:=h
    simp only [ren]
    split
    · rename_i hp
      exact ⟨vs,hv,hl,fun i u c hu hc=>zs2 ((hr i u c hu hc).toC (zas7 hp c (List.mem_of_getElem? hc)))⟩
    · refine ⟨vs,hv,by simpa using hl,fun i u c hu hc=>?_⟩
      simp only [List.getElem?_map,Option.map_eq_some_iff] at hc
      obtain ⟨d,hd,rfl⟩:=hc
      exact zaQ3 hμ (hr i u d hu hd)
  | clo f cs=>exact zaQ3 (w:=w) (W:=W) (b:=.clo f cs) hμ h
  | own x lo n=>exact zaQ3 (w:=w) (W:=W) (b:=.own x lo n) hμ h
  | ptr x i j=>exact zaQ3 (w:=w) (W:=W) (b:=.ptr x i j) hμ h
  | _=>exact h
theorem zcT5 {L:List (Nat×Nat)} (hμ:∀ x,μ x=.fresh∨μ' (rho L x)=μ x) {u:Value} {b:A} (h:Rep w W μ u b) (hb:∀ g c,b≠.cnd g c):Rep w W μ' u (renR L b):=by
  cases b with
  | tup cs =>
    obtain ⟨vs,hv,hl,hr⟩:=h
    refine ⟨vs,hv,by simpa using hl,fun i u c hu hc=>?_⟩
    simp only [List.getElem?_map,Option.map_eq_some_iff] at hc
    obtain ⟨d,hd,rfl⟩:=hc
    exact zaQ4 hμ (hr i u d hu hd)
  | any=>trivial
  | cnd g c=>exact absurd rfl (hb g c)
  | agg cs=>exact zr1 (zaQ4 (b:=.agg cs) hμ h)
  | clo f cs=>exact zr1 (zaQ4 (b:=.clo f cs) hμ h)
  | own x lo n=>exact zr1 (zaQ4 (b:=.own x lo n) hμ h)
  | ptr x i j=>exact zr1 (zaQ4 (b:=.ptr x i j) hμ h)
  | bool b=>exact h
  | int k n=>exact h
  | str s=>exact h
  | sl es=>exact h
  | full es=>exact h
  | rd cs off=>exact h
end
theorem zcl0 {f:FuncId} {s:S} (hs:SatW E s a w W μ) (hG:E.G=C.G) {vs:List Value} {vals as:List A} {l:List (Nat×Nat)} {ms ms':List (Nat×Row)} {k k' nx:Nat} {r:A} (hl:vs.length=vals.length)
    (hV:∀ (i:Nat) (v:Value) (x:A),vs[i]? = some v→vals[i]? = some x→Rep w W μ v x) (hfresh:∀ x,nx≤x→x < nx+(k' - k)→s.mem x=.fresh)
    (hf:MFn C f as ms k r ms' k') (hok:okM s.mem nx l vals as ms k k') (hr0:∀ g c,r≠.cnd g c) :
    Calls C.P f vs.toArray w fun e w'=>∃ v W' μ',e=.returned v∧Rep w' W' μ' v (renR (l++newL k nx (k' - k)) r) ∧
      Step s.mem (setM s.mem (mwM s.mem (l++newL k nx (k' - k)) vals as ms ms' k k')) w w' W W' μ μ':=by
  obtain ⟨hargs,hrows,hd1,hd2,hall,hkk,hlt,hlk⟩:=hok
  have hkk:k≤k':=Nat.le_of_ble_eq_true hkk
  have hat:=zbm5 hall
  have rhoOld:∀ x,x < k→rho (l++newL k nx (k' - k)) x=rho l x:=fun x hx=>by
    simp only [rho,zaf0,zas8]
    rw [if_neg (by omega),Option.or_none]
  have rhoNew:∀ i,i < k' - k→rho (l++newL k nx (k' - k)) (k+i)=nx+i:=fun i hi=>by
    simp only [rho,zaf0,zas8]
    rw [zaQ0 fun q hq=>by have:=hlk q hq; omega,if_pos (by omega)]
    simp
  have rowAt:∀ x,x < k→∃ r r',look ms x=some r∧s.mem (rho l x)=.row r'∧r'.ro=false∧r'.sz=r.sz∧r'.es=zaM6 l r.es∧r.ro=false∧idEs k r.es∧rho l x ∉ fzM vals as∧rho l x < nx:=fun x hx=>by
    obtain ⟨r,hr⟩:=hat x hx
    obtain ⟨⟨r',h1,h2,h3,h4⟩,h5,h6,h7,h8⟩:=zaQ2 hrows x r (zaQ1 hr)
    exact ⟨r,r',hr,h1,h2,h3,h4,h5,h7,h8,hlt _ (zaQ1 hr)⟩
  have inj0:∀ x y,x < k→y < k→rho l x=rho l y→x=y:=fun x y hx hy he=>by
    obtain ⟨r1,h1⟩:=hat x hx
    obtain ⟨r2,h2⟩:=hat y hy
    exact zaU6 hd1 x y r1 r2 h1 h2 he
  have injL:∀ x y,x < k'→y < k'→rho (l++newL k nx (k' - k)) x=rho (l++newL k nx (k' - k)) y→x=y:=fun x y hx hy he=>by
    by_cases h1:x < k <;> by_cases h2:y < k
    · rw [rhoOld x h1,rhoOld y h2] at he; exact inj0 x y h1 h2 he
    · rw [rhoOld x h1,show y=k+(y - k) by omega,rhoNew _ (by omega)] at he
      obtain ⟨_,_,_,_,_,_,_,_,_,_,h3⟩:=rowAt x h1
      omega
    · rw [rhoOld y h2,show x=k+(x - k) by omega,rhoNew _ (by omega)] at he
      obtain ⟨_,_,_,_,_,_,_,_,_,_,h3⟩:=rowAt y h2
      omega
    · rw [show x=k+(x - k) by omega,show y=k+(y - k) by omega,rhoNew _ (by omega),rhoNew _ (by omega)] at he
      omega
  let fz:=fzM vals as
  let Wc:=zaG0 W μ fz
  let μc:Nat→Loc:=fun x=>if x < k then μ (rho l x) else .fresh
  have hμc:∀ x,x < k→μc x=μ (rho l x):=fun x hx=>if_pos hx
  have hμc2:∀ x,¬ x < k→μc x=.fresh:=fun x hx=>if_neg hx
  have hC:∀ u b,RepC w W u b→RepC w Wc u b:=fun u b h=>h.less
  have hWW:∀ b,b < w.heap.size→¬ W b→¬ Wc b:=fun b _ h h2=>h h2.1
  have hgl:zbb6 w Wc C.G:=fun g cs hg=>by
    obtain ⟨h1,h2,h3⟩:=hs.glob g cs (hG ▸ hg)
    exact ⟨fun h=>h1 h.1,h2,fun j b hj=>let ⟨u,hu,hr⟩:=h3 j b hj; ⟨u,hu,hr.less⟩⟩
  have hmem:zaI1 w Wc μc (⟨[],ms,k⟩:St).m:=fun x=>by
    by_cases hx:x < k
    · obtain ⟨r,r',h1,h2,h3,h4,h5,h6,h7,h8,h9⟩:=rowAt x hx
      have e:(⟨[],ms,k⟩:St).m x=.row r:=by simp only [St.m,h1]; rw [if_neg (by omega)]
      rw [e]
      have hm:=hs.mem (rho l x)
      rw [h2] at hm
      rcases hm with ⟨g1,g2,g3⟩|⟨kb,g1,g2,g3,g4,us,rest,e',g5,g6,g7⟩
      · refine .inl ⟨(hμc x hx).trans g1,?_,by omega⟩
        rw [h5] at g2
        unfold zaM6 at g2
        split at g2
        · exact g2
        · exact List.map_eq_nil_iff.1 g2
      · refine .inr ⟨kb,(hμc x hx).trans g1,fun _=>⟨g2 h3,fun ⟨y,ky,hy,hy2,hy3⟩=>h8 (hs.inj y (rho l x) ky kb hy2 g1 hy3 ▸ hy)⟩,g3.trans h4,by omega,us,rest,e',g5,g6,?_⟩
        rw [h5,h4] at g7
        exact zcD3 g7 h7 (fun u b hid hr=>zbJ4 hC hWW (fun z hz=>hμc z hz) hid hr) (fun u b hp hr=>zs2 (hr.toC hp).less)
    · have e:(⟨[],ms,k⟩:St).m x=.fresh:=by simp only [St.m]; rw [if_pos (by omega)]
      rw [e]; exact hμc2 x hx
  have hinj:∀ x y b b',μc x=.at_ b→μc y=.at_ b'→b.b=b'.b→x=y:=fun x y b b' hx hy he=>by
    by_cases h1:x < k
    · by_cases h2:y < k
      · rw [hμc x h1] at hx; rw [hμc y h2] at hy
        exact inj0 x y h1 h2 (hs.inj _ _ b b' hx hy he)
      · rw [hμc2 y h2] at hy; cases hy
    · rw [hμc2 x h1] at hx; cases hx
  have hargs':∀ (i:Nat) (v:Value) (b:A),vs[i]? = some v→as[i]? = some b→RepV w Wc μc v b:=fun i v b hv hb=>by
    obtain ⟨x,hx,hm,hz⟩:=zck9 hargs i b hb
    have hr:=hV i v x hv hx
    unfold argM at hm
    split at hm
    · rename_i hh
      obtain ⟨rfl,hid⟩:=hm
      have hk:RepK w W μ v (ren1 l b):=by cases b <;> first|exact hr|(simp [A.hands] at hh)
      have hk2:=zbJ4 (W':=Wc) (μ':=μc) hC hWW (fun z hz=>hμc z hz) hid hk
      exact zq5 hk2
    · rename_i hh
      obtain ⟨hfo,rfl⟩:=hm
      exact (zcd7 hs hr hfo (fun y hy=>hz (by simpa using hh) y hy)).goes (Keeps.refl (fun _=>False) w) (fun _ _ _ h=>h) (fun _ _ h=>h) zbY2
  have hlen:vs.length=as.length:=hl.trans (zbY3 hargs)
  refine (hf w Wc μc vs hgl (fun b h=>hs.wlt b h.1) hlen hargs' hmem hinj).mono fun e w' ⟨v,Wc',μc',he,hst,hr⟩=>?_
  clear hgl hmem hargs' hV
  have hm'fresh:∀ x,k'≤x→μc' x=.fresh:=fun x hx=>by
    have:=hst.mem x
    rw [show (⟨[],ms',k'⟩:St).m x=.fresh by simp only [St.m]; rw [if_pos hx]] at this
    exact this
  generalize hL:l++newL k nx (k' - k)=L at *
  let μ':Nat→Loc:=fun y=>open Classical in if h:∃ z,z < k'∧rho L z=y then μc' (Classical.choose h) else μ y
  have hμ1:∀ z,z < k'→μ' (rho L z)=μc' z:=fun z hz=>by
    have h:∃ z',z' < k'∧rho L z'=rho L z:=⟨z,hz,rfl⟩
    show (if h:∃ z',z' < k'∧rho L z'=rho L z then μc' (Classical.choose h) else μ (rho L z))=_
    rw [dif_pos h]
    rw [injL _ _ (Classical.choose_spec h).1 hz (Classical.choose_spec h).2]
  have hμ2:∀ y,(¬ ∃ z,z < k'∧rho L z=y)→μ' y=μ y:=fun y hy=>dif_neg hy
  have hback:∀ x,μc' x=.fresh∨μ' (rho L x)=μc' x:=fun x=>by
    by_cases hx:x < k'
    · exact .inr (hμ1 x hx)
    · exact .inl (hm'fresh x (by omega))
  have sub:∀ b,(Wc b∧∃ y kb,μc y=.at_ kb∧kb.b=b)→W b∧∃ y kb,μ y=.at_ kb∧kb.b=b:=fun b ⟨h1,y,kb,h2,h3⟩=>by
    by_cases hy:y < k
    · rw [hμc y hy] at h2; exact ⟨h1.1,_,kb,h2,h3⟩
    · rw [hμc2 y hy] at h2; cases h2
  have handed:∀ y kb,μ y=.at_ kb→(∃ z kz,μc z=.at_ kz∧kz.b=kb.b)→∃ z,z < k'∧rho L z=y:=fun y kb hy ⟨z,kz,h1,h2⟩=>by
    by_cases hz:z < k
    · rw [hμc z hz] at h1
      refine ⟨z,by omega,?_⟩
      rw [rhoOld z hz]
      exact hs.inj _ _ kz kb h1 hy h2
    · rw [hμc2 z hz] at h1; cases h1
  have hold:Old μ μ':=fun y hy=>by
    by_cases h:∃ z,z < k'∧rho L z=y
    · obtain ⟨z,hz,rfl⟩:=h
      rw [hμ1 z hz]
      by_cases hzk:z < k
      · rw [rhoOld z hzk] at hy ⊢
        rcases hst.old z (by rw [hμc z hzk]; exact hy) with e|e
        · exact .inl (e.trans (hμc z hzk))
        · exact .inr e
      · exfalso
        apply hy
        have hf:=hfresh (nx+(z - k)) (by omega) (by omega)
        rw [show z=k+(z - k) by omega,rhoNew _ (by omega)]
        have:=hs.mem (nx+(z - k))
        rw [hf] at this
        exact this
    · exact .inl (hμ2 y h)
  have hkeep:Keeps (fun b=>W b∧∃ y kb,μ y=.at_ kb∧kb.b=b) w w':=hst.keeps.mono fun b _ h=>sub b h
  have hWb:∀ b,b < w.heap.size→Wc' b→W b:=fun b hb h=>(hst.hW b hb h).1
  refine ⟨v,Wc',μ',he,zcT5 hback hr hr0,⟨hkeep,hWb,fun b hb=>?_,hs.wlt,hst.wlt,hold,fun y=>?_,fun x y b b' hx hy hb=>?_,fun y b hy=>?_⟩⟩
  ·
    by_cases hz:∃ x kb,x ∈ fz∧μ x=.at_ kb∧kb.b=b
    · obtain ⟨x,kb,_,h2,h3⟩:=hz; exact .inr ⟨x,kb,h2,h3⟩
    · rcases hst.wsup b ⟨hb,hz⟩ with h|⟨x,kb,h1,h2⟩
      · exact .inl h
      · by_cases hx:x < k
        · rw [hμc x hx] at h1; exact .inr ⟨_,kb,h1,h2⟩
        · rw [hμc2 x hx] at h1; cases h1
  ·
    rw [mwM,zbA7]
    by_cases h:∃ z,z < k'∧rho L z=y
    · obtain ⟨z,hz,rfl⟩:=h
      have hzin:z ∈ ms.map (·.1)++(List.range (k' - k)).map (k+·):=by
        by_cases hzk:z < k
        · obtain ⟨r,hr⟩:=hat z hzk
          exact List.mem_append_left _ (List.mem_map.2 ⟨(z,r),zaQ1 hr,rfl⟩)
        · exact List.mem_append_right _ (List.mem_map.2 ⟨z - k,List.mem_range.2 (by omega),by omega⟩)
      rw [zbJ3 hzin fun x hx he=>by
        refine injL x z ?_ hz he
        rcases List.mem_append.1 hx with hx|hx
        · obtain ⟨q,hq,rfl⟩:=List.mem_map.1 hx
          have:=(zaQ2 hrows q.1 q.2 hq).2.2.1
          omega
        · obtain ⟨i,hi,rfl⟩:=List.mem_map.1 hx
          have:=List.mem_range.1 hi
          omega]
      have hm:=hst.mem z
      have e:(⟨[],ms',k'⟩:St).m z=(match look ms' z with|some r=>.row r|none=>.dead:MS):=by simp only [St.m]; rw [if_neg (by omega)]; cases look ms' z <;> rfl
      rw [e] at hm
      cases hlk':look ms' z with
      | none=>rw [hlk'] at hm; exact (hμ1 z hz).trans hm
      | some r1 =>
        rw [hlk'] at hm
        rcases hm with ⟨g1,g2,g3⟩|⟨kb,g1,g2,g3,g4,us,rest,e',g5,g6,g7⟩
        · refine .inl ⟨(hμ1 z hz).trans g1,?_,g3⟩
          show zaM6 L r1.es=[]
          rw [g2]; rfl
        · exact .inr ⟨kb,(hμ1 z hz).trans g1,g2,g3,g4,us,rest,e',g5,g6,zcT4 g7 (fun u b hb=>zaQ3 hback hb) (fun u b hp hb=>zs2 (hb.toC hp))⟩
    · rw [zaP2 fun x hx he=>h ⟨x,by
        rcases List.mem_append.1 hx with hx|hx
        · obtain ⟨q,hq,rfl⟩:=List.mem_map.1 hx
          have:=(zaQ2 hrows q.1 q.2 hq).2.2.1
          omega
        · obtain ⟨i,hi,rfl⟩:=List.mem_map.1 hx
          have:=List.mem_range.1 hi
          omega,he⟩,zbG4]
      have hm:=hs.mem y
      have hgo:∀ (r:Row) (kb:Blk),zaP9 w W μ r kb→μ y=.at_ kb→(r.ro=false→y ∉ fz)→zaP9 w' Wc' μ' r kb:=fun r kb hrow hy hnz=>by
        have hlt:=hrow.lt
        obtain ⟨g1,g2,g3,us,rest,e',g4,g5,g6⟩:=hrow
        have hnh:¬ ∃ z kz,μc z=.at_ kz∧kz.b=kb.b:=fun hh=>h (handed y kb hy hh)
        refine ⟨fun hro=>?_,g2,g3,us,rest,e',?_,g5,g6.mono fun u b hb=>hb.goes hkeep (fun _ _ h h2=>h h2.1) (fun b hb h h2=>h (hWb b hb h2)) hold⟩
        · rcases hst.wsup kb.b ⟨g1 hro,fun ⟨x,kx,hx,hx2,hx3⟩=>hnz hro (hs.inj x y kx kb hx2 hy hx3 ▸ hx)⟩ with h1|h1
          · exact h1
          · exact absurd h1 hnh
        · rw [hst.keeps.block kb.b hlt (fun hh=>hnh hh.2)]; exact g4
      have hsame:zao5 w' Wc' μ' y (s.mem y)∨(y ∈ fz∧∃ r,s.mem y=.row r∧zao5 w' Wc' μ' y (.row ⟨true,r.sz,r.z,r.es⟩)):=by
        cases hr1:s.mem y with
        | fresh=>rw [hr1] at hm; exact .inl ((hμ2 y h).trans hm)
        | dead=>rw [hr1] at hm; exact .inl ((hμ2 y h).trans hm)
        | row r1 =>
          rw [hr1] at hm
          by_cases hz:y ∈ fz
          · refine .inr ⟨hz,r1,rfl,?_⟩
            rcases hm with ⟨g1,g2,g3⟩|⟨kb,g1,g2⟩
            · exact .inl ⟨(hμ2 y h).trans g1,g2,g3⟩
            · exact .inr ⟨kb,(hμ2 y h).trans g1,hgo ⟨true,r1.sz,r1.z,r1.es⟩ kb ⟨by simp,g2.2⟩ g1 (by simp)⟩
          · refine .inl ?_
            rcases hm with ⟨g1,g2,g3⟩|⟨kb,g1,g2⟩
            · exact .inl ⟨(hμ2 y h).trans g1,g2,g3⟩
            · exact .inr ⟨kb,(hμ2 y h).trans g1,hgo r1 kb g2 g1 (fun _=>hz)⟩
      split
      · rename_i hz
        rcases hsame with h1|⟨_,r1,h1,h2⟩
        · cases hr1:s.mem y with
          | fresh=>rw [hr1] at h1; exact h1
          | dead=>rw [hr1] at h1; exact h1
          | row r1 =>
            rw [hr1] at h1
            rcases h1 with ⟨g1,g2,g3⟩|⟨kb,g1,g2⟩
            · exact .inl ⟨g1,g2,g3⟩
            · exact .inr ⟨kb,g1,⟨by simp,g2.2⟩⟩
        · rw [h1]; exact h2
      · rename_i hz
        rcases hsame with h1|⟨h1,_⟩
        · exact h1
        · exact absurd h1 hz
  ·
    have big:∀ x b,μ x=.at_ b→b.b < w.heap.size:=fun x b hx=>by obtain ⟨_,_,h⟩:=hs.mem.at_ hx; exact h.lt
    have cross:∀ z y b b',z < k'→μc' z=.at_ b→μ y=.at_ b'→b.b=b'.b→∃ z,z < k'∧rho L z=y:=fun z y b b' _ h1 h2 h3=>by
      rcases hst.live z b h1 with ⟨z0,k0,h4,h5⟩|h4
      · exact handed y b' h2 ⟨z0,k0,h4,h5.trans h3⟩
      · have:=big y b' h2; omega
    by_cases h1:∃ z,z < k'∧rho L z=x <;> by_cases h2:∃ z,z < k'∧rho L z=y
    · obtain ⟨z,hz,rfl⟩:=h1
      obtain ⟨z',hz',rfl⟩:=h2
      rw [hμ1 z hz] at hx; rw [hμ1 z' hz'] at hy
      rw [hst.inj z z' b b' hx hy hb]
    · obtain ⟨z,hz,rfl⟩:=h1
      rw [hμ1 z hz] at hx; rw [hμ2 y h2] at hy
      exact absurd (cross z y b b' hz hx hy hb) h2
    · obtain ⟨z,hz,rfl⟩:=h2
      rw [hμ1 z hz] at hy; rw [hμ2 x h1] at hx
      exact absurd (cross z x b' b hz hy hx hb.symm) h1
    · rw [hμ2 x h1] at hx; rw [hμ2 y h2] at hy
      exact hs.inj x y b b' hx hy hb
  ·
    by_cases h:∃ z,z < k'∧rho L z=y
    · obtain ⟨z,hz,rfl⟩:=h
      rw [hμ1 z hz] at hy
      rcases hst.live z b hy with ⟨z0,k0,h4,h5⟩|h4
      · by_cases hz0:z0 < k
        · rw [hμc z0 hz0] at h4; exact .inl ⟨_,k0,h4,h5⟩
        · rw [hμc2 z0 hz0] at h4; cases h4
      · exact .inr h4
    · rw [hμ2 y h] at hy; exact .inl ⟨y,b,hy,rfl⟩
theorem zcv4 {st:St} {l:List (Nat×Nat)} {vals as:List A} {ms ms':List (Nat×Row)} {k k':Nat} (hok:okM st.m st.nx l vals as ms k k'):mwOk st.nx (mwM st.m (l++newL k st.nx (k' - k)) vals as ms ms' k k'):=by
  obtain ⟨hargs,hrows,hd1,hd2,hall,hkk,hlt,hlk⟩:=hok
  have hkk:k≤k':=Nat.le_of_ble_eq_true hkk
  have ent:∀ {L:List (Nat×Nat)} {ids:List Nat},∀ q ∈ zae9 L ms' ids,(∃ x ∈ ids,q.1=rho L x)∧q.2≠.fresh:=fun {L} {ids}=>by
    induction ids with
    | nil=>intro q hq; cases hq
    | cons x ids ih =>
      intro q hq
      rcases List.mem_cons.1 hq with rfl|hq
      · exact ⟨⟨x,.head _,rfl⟩,by simp only; cases look ms' _ <;> simp [entM]⟩
      · obtain ⟨⟨y,hy,h1⟩,h2⟩:=ih q hq; exact ⟨⟨y,.tail _ hy,h1⟩,h2⟩
  have app:∀ (L:List (Nat×Nat)) (x y:List Nat),zae9 L ms' (x++y)=zae9 L ms' x++zae9 L ms' y:=fun L x y=>by
    induction x with
    | nil=>rfl
    | cons z x ih=>simp only [List.cons_append,zae9,ih]
  unfold mwM
  refine zaM8 (fun q hq=>let ⟨⟨r,hr⟩,h2⟩:=zaM9 q hq; ⟨St.m_row hr,h2⟩) ?_
  rw [app]
  refine zaM8 (fun q hq=>?_) ?_
  · obtain ⟨⟨x,hx,h1⟩,h2⟩:=ent q hq
    obtain ⟨p,hp,rfl⟩:=List.mem_map.1 hx
    have h3:=(zaQ2 hrows p.1 p.2 hp).2.2.1
    refine ⟨?_,h2⟩
    rw [h1]
    have:rho (l++newL k st.nx (k' - k)) p.1=rho l p.1:=by
      simp only [rho,zaf0,zas8]
      rw [if_neg (by omega),Option.or_none]
    rw [this]
    exact hlt p hp
  · have key:∀ (n j:Nat),j+n≤k' - k→mwOk (st.nx+j) (zae9 (l++newL k st.nx (k' - k)) ms' ((List.range' j n).map (k+·))):=fun n=>by
      induction n with
      | zero=>intro j _; trivial
      | succ n ih =>
        intro j hj
        have hrho:rho (l++newL k st.nx (k' - k)) (k+j)=st.nx+j:=by
          simp only [rho,zaf0,zas8]
          rw [zaQ0 fun q hq=>by have:=hlk q hq; omega,if_pos (by omega)]
          simp
        rw [List.range'_succ,List.map_cons,zae9]
        refine ⟨by rw [hrho]; exact Nat.le_refl _,by simp only; cases look ms' _ <;> simp [entM],?_⟩
        simp only [hrho,if_true]
        exact ih (j+1) (by omega)
    have:=key (k' - k) 0 (by omega)
    rwa [← List.range_eq_range'] at this
theorem zbY4 {st:St}:∀ {mw:List (Nat×MS)},zbq6 st.m mw→mwOk st.nx mw
  | [],_=>trivial
  | q :: r,⟨h1,h3⟩=>zbc0 (by
      by_cases h:q.1 < st.nx
      · exact h
      · exact absurd (by simp only [St.m]; rw [if_pos (by omega)]) (MS.like_ne h1).1) (MS.like_ne h1).2 (zbY4 h3)
theorem zbY5 {t:Operand} {args:Array Operand} {ats:Array TypeId} {f:FuncId} {vs caps:List Value} (ho:o.op=.call { callee:=.value t,args:=args,argTypes:=ats }) (ht:a.eval t=.func (.func f) #[] caps.toArray)
    (hfn:zab1 C.P f=true) (hvs:vs=args.toList.map a.eval++caps):(execOp a.eval o).run C.P w=.ok (.enter f vs.toArray) w:=by
  unfold zab1 at hfn
  have e1:vs.toArray=args.map a.eval++caps.toArray:=by rw [hvs]; simp [← Array.toList_map]
  split at hfn
  · rename_i fn hfn'
    simp only [Bool.and_eq_true,Bool.not_eq_true'] at hfn
    have hb:fn.body.isNone=false:=by cases hb:fn.body <;> simp [hb] at hfn ⊢
    have hc2:(callFunc f (args.map a.eval++caps.toArray)).run C.P w=.ok (.enter f (args.map a.eval++caps.toArray)) w:=by
      simp only [callFunc,Sem.run_bind,run_program,Result.andThen_ok,hfn']
      rw [if_neg (by simp [hfn.2]),if_neg (by simp [hb])]
      rfl
    rw [e1]
    simp [execOp,ho,resolve,ht,Deferred.ofValue,invoke,hc2]
  · cases hfn
theorem zbJ5 {ops:Array Oper} {p:POp} {s:S} {id:Nat} (hs:SatW E s a w W μ) (hG:E.G=C.G) (hid:s.mem id=.fresh) (hp:POk C E.N ops o p) {K:A→List (Nat×MS)→Prop} (h:aopS C p s id K) {Q:Exit→Act→World→Prop} {k:Act→World→Prop}
    (hk:∀ v mw a' w',K v mw→Sat E ⟨setF s.fr p.dst v,setM s.mem mw⟩ a' w'→k a' w'):if Region.wanted o (yielded ops a.tmps) then o.wp C.P a w k Q else k (a.put o.dst undef) w:=by
  unfold aopS at h
  cases hgo:zP4 s.fr p.g with
  | none=>simp [hgo] at h
  | some g =>
    simp only [hgo] at h
    have hwant:=zck8 hs hp.g hgo
    rw [hwant,hp.dst]
    have skip:∀ (v:A),g=false→K (zS4 p.g g v) []→k (a.put p.dst undef) w:=fun v hg hK=>by
      refine hk _ _ _ _ hK ⟨W,μ,?_⟩
      refine hs.step (m':=s.mem) hs.refl hp.lt ?_
      cases hpg:p.g with
      | none=>rw [hpg] at hgo; simp [zP4] at hgo; rw [hg] at hgo; cases hgo
      | some q=>exact ⟨fun h=>(by rw [hg] at h; cases h),fun _=>rfl⟩
    have fin:∀ (v:A) (mw:List (Nat×MS)) (u:Value) (w':World) (W':Nat→Prop) (μ':Nat→Loc),g=true→(p.g=none∨v.isVV=true)→K (zS4 p.g g v) mw→Rep w' W' μ' u v→Step s.mem (setM s.mem mw) w w' W W' μ μ'→k (a.put p.dst u) w':=fun v mw u w' W' μ' hg hgv hK hr hst=>by
      refine hk _ _ _ _ hK ⟨W',μ',?_⟩
      refine hs.step hst hp.lt ?_
      cases hpg:p.g with
      | none=>exact hr
      | some q =>
        refine ⟨fun _=>?_,fun h=>(by rw [hg] at h; cases h)⟩
        rcases hgv with h1|h1
        · rw [hpg] at h1; cases h1
        · exact hr.toVV h1
    have go:∀ (v:A) (mw:List (Nat×MS)),g=true→zq9 C.P o a w W μ s.mem v (setM s.mem mw)→(p.g=none∨v.isVV=true)→K (zS4 p.g g v) mw→o.wp C.P a w k Q:=fun v mw hg hy hgv hK=>by
      refine Oper.wp_of_yields hs hy fun u w' W' μ' hr hst=>?_
      rw [hp.dst]
      exact fin v mw u w' W' μ' hg hgv hK hr hst
    have sk:∀ (v:A) (mw:List (Nat×MS)),g=false→(p.g=none∨mw=[]∧v.isVV=true)→K (zS4 p.g g v) mw→k (a.put p.dst undef) w:=fun v mw hg hgv hK=>by
      rcases hgv with h1|⟨h1,_⟩
      · rw [h1] at hgo; simp [zP4] at hgo; rw [hg] at hgo; cases hgo
      · subst h1; exact skip v hg hK
    have call:∀ (t:Operand) (args:Array Operand) (ats:Array TypeId) (f:FuncId) (vs caps:List Value) (vals:List A) (r:A),o.op=.call { callee:=.value t,args:=args,argTypes:=ats }→a.eval t=.func (.func f) #[] caps.toArray→zab1 C.P f=true →
        vs=args.toList.map a.eval++caps→vs.length=vals.length→(∀ (i:Nat) (v:Value) (x:A),vs[i]? = some v→vals[i]? = some x→Rep w W μ v x)→zG8 s.mem vals→PFn C f (zR5 s.mem vals) r →
        g=true→(p.g=none∨zM7 s.mem vals r=[]∧r.isVV=true)→K (zS4 p.g g r) (zM7 s.mem vals r)→o.wp C.P a w k Q:=fun t args ats f vs caps vals r ho ht hb hvs hl hV hfz hpf hg hgv hK=>by
      have hc:=zcv3 hs hG hl hV hfz hpf
      unfold Oper.wp
      rw [zbY5 ho ht hb hvs]
      refine hc.mono fun e w' ⟨v,W',he,hrep,hst⟩=>?_
      subst he
      show k (a.put o.dst v) w'
      rw [hp.dst]
      exact fin r _ v w' W' μ hg (hgv.imp (fun h=>h) And.right) hK hrep hst
    have callm:∀ (t:Operand) (args:Array Operand) (ats:Array TypeId) (f:FuncId) (vs caps:List Value) (vals:List A) (ob:Prop),o.op=.call { callee:=.value t,args:=args,argTypes:=ats }→a.eval t=.func (.func f) #[] caps.toArray→zab1 C.P f=true →
        vs=args.toList.map a.eval++caps→vs.length=vals.length→(∀ (i:Nat) (v:Value) (x:A),vs[i]? = some v→vals[i]? = some x→Rep w W μ v x)→g=true →
        zaM7 C s.mem id f vals p.g g ob (fun n=>∀ x,id≤x→x < id+n→s.mem x=.fresh) K→o.wp C.P a w k Q:=fun t args ats f vs caps vals ob ho ht hb hvs hl hV hgt hcm=>by
      obtain ⟨l,as,ms,kk,r,ms',kk',ht0,_,hvv,hcnd,hK⟩:=hcm
      obtain ⟨_,hmf,hok,hfr⟩:=ht0 hgt
      have hc:=zcl0 hs hG hl hV hfr hmf hok hcnd
      unfold Oper.wp
      rw [zbY5 ho ht hb hvs]
      refine hc.mono fun e w' ⟨v,W',μ',he,hrep,hst⟩=>?_
      subst he
      show k (a.put o.dst v) w'
      rw [hp.dst]
      exact fin _ _ v w' W' μ' hgt hvv hK hrep hst
    have skipM:∀ {f:FuncId} {vals:List A} {ob:Prop} {F:Nat→Prop},g=false→zaM7 C s.mem id f vals p.g g ob F K→k (a.put p.dst undef) w:=fun hg h=>by
      obtain ⟨l,as,ms,kk,r,ms',kk',_,hf,_,_,hK⟩:=h
      obtain ⟨_,hsame⟩:=hf hg
      refine hk _ _ _ _ hK ⟨W,μ,?_⟩
      refine { (hs.step (m':=s.mem) (d:=p.dst) (v:=undef) (av:=zS4 p.g g (renR _ _)) hs.refl hp.lt ?_) with mem:=fun x=>?_ }
      case refine_2 =>
        rcases zbY0 x s.mem hsame with e|e
        · show zao5 w W μ x (setM s.mem _ x)
          rw [e]; exact hs.mem x
        · exact (hs.mem x).like e
      cases hpg:p.g with
      | none=>rw [hpg] at hgo; simp [zP4] at hgo; rw [hg] at hgo; cases hgo
      | some q=>exact ⟨fun h=>(by rw [hg] at h; cases h),fun _=>rfl⟩
    split at h
    · rename_i hpo
      split at h
      · rename_i c x y hxs
        split at h
        · rename_i b u v hc hx hy
          obtain ⟨hgd,hK⟩:=h
          cases g with
          | false=>exact skip _ rfl hK
          | true =>
            obtain ⟨g1,g2,g3⟩:=hgd rfl
            have hop:=hp.op
            rw [hpo,hxs] at hop
            simp only [zbk2] at hop
            split at hop
            · rename_i c' x' y' ho
              simp only [zB5,Bool.and_eq_true,Bool.and_true] at hop
              obtain ⟨k1,k2,k3⟩:=hop
              have r1:=zbI1 hs k1
              have r2:=zbI1 hs k2
              have r3:=zbI1 hs k3
              rw [hG] at r1 r2 r3
              simp only [if_true]
              refine go _ [] rfl (zdp0 hs ho (b:=b) (p:=u) (q:=v) ?_ ?_ ?_) (.inr rfl) hK
              · rw [← hc]; exact zcc8 r1 g1
              · intro hb; rw [← hx]; exact zcc8 r2 (g2 hb)
              · intro hb; rw [← hy]; exact zcc8 r3 (g3 hb)
            · cases hop
        · exact h.elim
      · exact h.elim
    · rename_i f hpo
      obtain ⟨r,h1,h2,hK⟩:=h
      cases g with
      | false=>exact sk _ _ rfl h2 hK
      | true =>
        obtain ⟨hgd,hfz,hpf⟩:=h1 rfl
        have hop:=hp.op
        rw [hpo] at hop
        simp only [zbk2] at hop
        split at hop
        · rename_i f' args ats ho
          simp only [Bool.and_eq_true,beq_iff_eq] at hop
          obtain ⟨⟨rfl,hxs⟩,hfn⟩:=hop
          have hV:=zaU5 hs hG p.xs args.toList hxs hgd
          simp only [if_true]
          exact call _ args ats f (args.toList.map a.eval) [] (zM0 C s.fr p.xs) r ho rfl hfn (by simp) (by simpa using hV.1) (fun i v x hv hx=>by
            simp only [List.getElem?_map,Option.map_eq_some_iff] at hv
            obtain ⟨q,hq,rfl⟩:=hv
            exact hV.2 i q x hq hx) hfz hpf rfl h2 hK
        · cases hop
    · rename_i hpo
      split at h
      · rename_i f caps vals hvals
        obtain ⟨r,h1,h2,hK⟩:=h
        cases g with
        | false=>exact sk _ _ rfl h2 hK
        | true =>
          obtain ⟨hgd,hfn,hfz,hpf⟩:=h1 rfl
          have hop:=hp.op
          rw [hpo] at hop
          simp only [zbk2] at hop
          split at hop
          · rename_i t args ats ho
            have hV:=zaU5 hs hG p.xs (.tmp t :: args.toList) hop hgd
            rw [hvals] at hV
            obtain ⟨vs,hv1,hv2,hv3⟩:RepK w W μ (a.eval (.tmp t)) (.clo f caps):=hV.2 0 (.tmp t) _ rfl rfl
            simp only [if_true]
            have hl0:args.toList.length=vals.length:=by simpa using hV.1
            exact call _ args ats f (args.toList.map a.eval++vs) vs (vals++caps) r ho hv1 hfn rfl (by simp only [List.length_append,List.length_map]; omega) (fun i v x hv hx=>by
              rw [List.getElem?_append] at hv hx
              simp only [List.length_map] at hv
              split at hv
              · rename_i hi
                rw [if_pos (by omega)] at hx
                simp only [List.getElem?_map,Option.map_eq_some_iff] at hv
                obtain ⟨q,hq,rfl⟩:=hv
                exact hV.2 (i+1) q x (by simpa using hq) (by simpa using hx)
              · rename_i hi
                rw [if_neg (by omega),← hl0] at hx
                exact zr1 (zq5 (hv3 _ v x hv hx).toK)) hfz hpf rfl h2 hK
          · cases hop
      · exact h.elim
    · rename_i f hpo
      cases g with
      | false=>exact skipM rfl h
      | true =>
        have hgd:gdsF C s.fr p.xs:=by obtain ⟨_,_,_,_,_,_,_,ht0,_⟩:=h; exact (ht0 rfl).1
        have hop:=hp.op
        rw [hpo] at hop
        simp only [zbk2] at hop
        split at hop
        · rename_i f' args ats ho
          simp only [Bool.and_eq_true,beq_iff_eq] at hop
          obtain ⟨⟨rfl,hxs⟩,hfn⟩:=hop
          have hV:=zaU5 hs hG p.xs args.toList hxs hgd
          simp only [if_true]
          exact callm _ args ats f (args.toList.map a.eval) [] (zM0 C s.fr p.xs) _ ho rfl hfn (by simp) (by simpa using hV.1) (fun i v x hv hx=>by
            simp only [List.getElem?_map,Option.map_eq_some_iff] at hv
            obtain ⟨q,hq,rfl⟩:=hv
            exact hV.2 i q x hq hx) rfl h
        · cases hop
    · rename_i hpo
      split at h
      · rename_i f caps vals hvals
        cases g with
        | false=>exact skipM rfl h
        | true =>
          have hgd:gdsF C s.fr p.xs∧zab1 C.P f=true:=by obtain ⟨_,_,_,_,_,_,_,ht0,_⟩:=h; exact (ht0 rfl).1
          obtain ⟨hgd,hfn⟩:=hgd
          have hop:=hp.op
          rw [hpo] at hop
          simp only [zbk2] at hop
          split at hop
          · rename_i t args ats ho
            have hV:=zaU5 hs hG p.xs (.tmp t :: args.toList) hop hgd
            rw [hvals] at hV
            obtain ⟨vs,hv1,hv2,hv3⟩:RepK w W μ (a.eval (.tmp t)) (.clo f caps):=hV.2 0 (.tmp t) _ rfl rfl
            simp only [if_true]
            have hl0:args.toList.length=vals.length:=by simpa using hV.1
            exact callm _ args ats f (args.toList.map a.eval++vs) vs (vals++caps) _ ho hv1 hfn rfl (by simp only [List.length_append,List.length_map]; omega) (fun i v x hv hx=>by
              rw [List.getElem?_append] at hv hx
              simp only [List.length_map] at hv
              split at hv
              · rename_i hi
                rw [if_pos (by omega)] at hx
                simp only [List.getElem?_map,Option.map_eq_some_iff] at hv
                obtain ⟨q,hq,rfl⟩:=hv
                exact hV.2 (i+1) q x (by simpa using hq) (by simpa using hx)
              · rename_i hi
                rw [if_neg (by omega),← hl0] at hx
                exact zr1 (zq5 (hv3 _ v x hv hx).toK)) rfl h
          · cases hop
      · exact h.elim
    · rename_i hnp hnc hnv hnm hnvm
      split at h
      · rename_i ef hev
        obtain ⟨h1,h2,hK⟩:=h
        cases g with
        | false=>exact sk _ _ rfl h2 hK
        | true =>
          obtain ⟨hgd,hobl⟩:=h1 rfl
          simp only [if_true]
          refine go ef.v ef.mw rfl (zcT2 hs hid p.po p.xs _ (fun ops hops=>zaU5 hs hG p.xs ops hops hgd) (zbq8 _ p.xs).symm hp.op hev hobl hnp) (h2.imp (fun h=>h) And.right) hK
      · obtain ⟨hg,_,hK⟩:=h
        subst hg
        exact skip _ rfl hK
theorem zcd8 (st:St) (x:Nat) (h:st.nx≤x):st.m x=.fresh:=if_pos h
theorem zbG5 {f:FuncId} {vals:List A} {og:Option (Nat×Bool)} {g:Bool} {ob:Prop} {F:Nat→Prop} {K:A→List (Nat×MS)→Prop} (h:zaM7 C st.m st.nx f vals og g ob F K) :
    zaM7 C st.m st.nx f vals og g ob (fun n=>∀ x,st.nx≤x→x < st.nx+n→st.m x=.fresh) (fun v mw=>mwOk st.nx mw∧K v mw):=by
  obtain ⟨l,as,ms,k,r,ms',k',h1,h2,h3,h4,h5⟩:=h
  refine ⟨l,as,ms,k,r,ms',k',fun hg=>let ⟨a1,a2,a3,_⟩:=h1 hg; ⟨a1,a2,a3,fun x hx _=>zcd8 st x hx⟩,h2,h3,h4,?_,h5⟩
  cases g with
  | true=>exact zcv4 (h1 rfl).2.2.1
  | false=>exact zbY4 (h2 rfl).2
theorem zdw4 {p:POp} {K:St→Prop} (h:aop C p st K):aopS C p st.toS st.nx (fun v mw=>mwOk st.nx mw∧K (st.app p.dst v mw)):=by
  unfold aop at h
  unfold aopS
  simp only [St.toS]
  rw [zcI5] at h
  simp only [zcd6,zbq7] at h
  cases hg:zP4 st.slot p.g with
  | none=>simp [hg] at h
  | some g =>
    simp only [hg] at h ⊢
    cases hp:p.po <;> simp only [hp] at h ⊢
    case pick =>
      split at h
      · split at h
        · exact ⟨h.1,trivial,h.2⟩
        · exact h.elim
      · exact h.elim
    case call f =>
      obtain ⟨r,h1,h2,h3⟩:=h
      exact ⟨r,h1,h2,zbh0 st _ _,h3⟩
    case callv =>
      split at h
      · obtain ⟨r,h1,h2,h3⟩:=h
        exact ⟨r,h1,h2,zbh0 st _ _,h3⟩
      · exact h.elim
    case callm f=>exact zbG5 h
    case callvm =>
      split at h
      · exact zbG5 h
      · exact h.elim
    all_goals
      split at h
      · rename_i ef hev
        obtain ⟨h1,h2,h3⟩:=h
        exact ⟨h1,h2,zcD2 hev,h3⟩
      · exact ⟨h.1,h.2.1,trivial,h.2.2⟩
theorem zbY6 {ops:Array Oper} {p:POp} (hs:SatW E st.toS a w W μ) (hG:E.G=C.G) (hp:POk C E.N ops o p) {K:St→Prop} (h:aop C p st K) {Q:Exit→Act→World→Prop} {k:Act→World→Prop}
    (hk:∀ st' a' w',K st'→Sat E st'.toS a' w'→k a' w'):if Region.wanted o (yielded ops a.tmps) then o.wp C.P a w k Q else k (a.put o.dst undef) w :=
  zbJ5 hs hG st.m_nx hp (zdw4 h) fun v mw a' w' ⟨hmw,hK⟩ hsat=>hk _ a' w' hK (by rw [zcd5 st _ _ _ hmw]; exact hsat)
def ROk (C:Cx) (N:Nat) (ops:Array Oper):Nat→List POp→Prop
  | n,[]=>n=ops.size
  | n,p :: ps=>(∃ o,ops[n]? = some o∧POk C N ops o p)∧ROk C N ops (n+1) ps
theorem zbm6 {ops:Array Oper} (hG:E.G=C.G) {Q:Exit→Act→World→Prop}:∀ (ps:List POp) (n:Nat) (st:St) (a:Act) (w:World),ROk C E.N ops n ps→Sat E st.toS a w→∀ (K:St→Prop),arun C ps st K →
    (∀ st' a' w',K st'→Sat E st'.toS a' w'→Q .normal a' w')→wpOps C.P ops Q (List.range' n ps.length) a w
  | [],n,st,a,w,_,hs,K,h,hk=>hk st a w h hs
  | p :: ps,n,st,a,w,hr,⟨W,μ,hs⟩,K,h,hk=>by
    obtain ⟨⟨o,ho,hp⟩,hr2⟩:=hr
    unfold arun at h
    split at h
    · rename_i hq
      have hpo:p.po=.eqNil:=by
        cases hpo:p.po <;> rw [hpo] at hq <;> first|rfl|cases hq
      obtain ⟨hg,hgd,h⟩:=h
      have hop:=hp.op
      rw [hpo] at hop
      simp only [zbk2] at hop
      split at hop
      · rename_i b T x y T2 ho2
        simp only [Bool.and_eq_true,beq_iff_eq] at hop
        obtain ⟨⟨⟨rfl,hT⟩,hy⟩,hx⟩:=hop
        obtain ⟨d,hd,hd2⟩:=zR4 hT
        obtain ⟨e,rfl⟩:∃ e,d=.slice e:=by cases d <;> simp [zbg9] at hd2; exact ⟨_,rfl⟩
        have hy:=zbA3 hy
        subst hy
        rw [zcd6] at hgd
        rw [zbq7] at h
        have hV:=zaU5 hs hG p.xs [x] hx hgd
        obtain ⟨av,hav,hrep⟩:=hV.one
        have hav':zM0 C st.slot p.xs=[av]:=hav
        rw [hav'] at h
        have go:∀ (b:Bool),(binOp .eql T (a.eval x) (.slice none 0 0)).run C.P w=.ok (.bool b) w→arun C ps (st.app p.dst (.bool b) []) K→wpOps C.P ops Q (List.range' n (p :: ps).length) a w:=fun b hrun hK=>by
          have hgo:o.guard=none:=by
            have:=hp.g
            rw [hg] at this
            cases hog:o.guard with
            | none=>rfl
            | some r=>simp [hog] at this
          simp only [List.length_cons,List.range'_succ,wpOps,ho]
          rw [if_pos (by simp [Region.wanted,hgo])]
          refine .inl ?_
          have hrun':(binOp .eql T (a.eval x) (a.eval (.const (.slice none 0 0)))).run C.P w=.ok (.bool b) w:=hrun
          have hguard:∀ i j,eqGuard .eql T i j (a.eval x) (a.eval (.const (.slice none 0 0)))=pure ():=by
            intro i j
            show eqGuard .eql T i j (a.eval x) (Value.slice none 0 0)=_
            cases a.eval x <;> rfl
          have hy2:zq9 C.P o a w W μ st.m (.bool b) st.m:=⟨.value (.bool b),.bool b,w,W,μ,by simp [execOp,ho2,hguard,hrun'],.inl rfl,zr1 (zq5 (zs2 (.bool b))),hs.refl⟩
          refine Oper.wp_of_yields hs hy2 fun v w' W' μ' hrv hst=>?_
          rw [hp.dst]
          refine zbm6 hG ps (n+1) (st.app p.dst (.bool b) []) (a.put p.dst v) w' hr2 ⟨W',μ',?_⟩ K hK hk
          rw [zcd5 st _ _ _ (by trivial)]
          exact hs.step hst hp.lt hrv
        have fin:∀ es,RepC w W (a.eval x) (.sl es)→(∀ b:Bool,(b=true→es=[])→arun C ps (st.app p.dst (.bool b) []) K)→wpOps C.P ops Q (List.range' n (p :: ps).length) a w:=fun es hes hK=>by
          rcases hes.open_sl with ⟨h0,ad,cap,hv⟩|⟨bb,off,cap,sz,us,hv,_⟩
          · refine go ad.isNone (by rw [hv]; exact Lib.run_eql_slice_nil w T e ad 0 cap 0 0 hd) (hK _ fun _=>h0)
          · refine go false (by rw [hv]; exact Lib.run_eql_slice_nil w T e _ _ cap 0 0 hd) (hK _ fun h=>nomatch h)
        unfold nilQ at h
        split at h
        · rename_i es heq; cases heq; exact fin es hrep h
        · rename_i es heq; cases heq; exact fin es (RepC.of_full hrep).1 h
        · exact h.elim
      · cases hop
    have:=zbY6 hs hG hp h (Q:=Q) (k:=wpOps C.P ops Q (List.range' (n+1) ps.length)) (fun st' a' w' hK hs'=>zbm6 hG ps (n+1) st' a' w' hr2 hs' K hK hk)
    simp only [List.length_cons,List.range'_succ,wpOps,ho]
    split at this
    · rename_i hw; rw [if_pos hw]; exact .inl this
    · rename_i hw; rw [if_neg hw]; exact this
theorem ROk.size {ops:Array Oper}:∀ {ps:List POp} {n N:Nat},ROk C N ops n ps→n+ps.length=ops.size
  | [],n,_,h=>h
  | _ :: ps,n,_,h=>by have:=h.2.size; simp; omega
theorem zcd9 {ops:Array Oper} {id:Nat} (hG:E.G=C.G) {ps:List POp} (hr:ROk C E.N ops 0 ps) {st:St} {a:Act} {w:World} (hs:Sat E st.toS a w) {K:St→Prop} (h:arun C ps st K) {Q:Exit→Act→World→Prop}
    (hk:∀ st' a' w',K st'→Sat E st'.toS a' w'→Q .normal a' w'):(Code.region id ops false).wp C.P Q a w:=by
  refine wp_region ?_
  have:=zbm6 hG ps 0 st a w hr hs K h (Q:=Q) hk
  rw [List.range_eq_range']
  have e:=hr.size
  rw [Nat.zero_add] at e
  rw [← e]
  exact this
end
end Ab
end Go.Proofs.YtcggeefhhegeoaaGreatDoor
