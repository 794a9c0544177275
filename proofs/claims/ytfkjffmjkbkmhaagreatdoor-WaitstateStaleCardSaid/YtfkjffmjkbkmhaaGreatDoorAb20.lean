import Derived.Test.YtfkjffmjkbkmhaaGreatDoorAb17
import Derived.Orders
namespace Go.Proofs.YtfkjffmjkbkmhaaGreatDoor
namespace Ab
set_option linter.unusedSimpArgs false
set_option linter.unusedVariables false
def zaX9 (C:Cx):List POp→St→(St→Prop)→Prop
 | [],st,K=>K st
 | p :: ps,st,K=>aop C p st fun st'=>(st'.mem=st.mem∧st'.nx=st.nx)∧zaX9 C ps st' K
section
variable {C:Cx} {E:Env}
theorem zdj2 {p:POp} {st:St} {K:St→Prop} (h:aop C p st K):∃ v mw,K (st.app p.dst v mw)∧aop C p st (fun s=>s=st.app p.dst v mw):=by
 unfold aop at h ⊢
 cases hg:zO4 st p.g with
 | none=>simp [hg] at h
 | some g =>
  simp only [hg] at h ⊢
  cases hp:p.po <;> simp only [hp] at h ⊢
  case pick =>
   split at h
   ·split at h
    ·exact ⟨_,_,h.2,h.1,rfl⟩
    ·exact h.elim
   ·exact h.elim
  case call f =>
   obtain ⟨r,h1,h2,h3⟩:=h
   exact ⟨_,_,h3,r,h1,h2,rfl⟩
  case callv =>
   split at h
   ·obtain ⟨r,h1,h2,h3⟩:=h
    exact ⟨_,_,h3,r,h1,h2,rfl⟩
   ·exact h.elim
  case callm f =>
   obtain ⟨l,as,ms,k,r,ms',k',h1,h2,h3,h4,h5⟩:=h
   exact ⟨_,_,h5,l,as,ms,k,r,ms',k',h1,h2,h3,h4,rfl⟩
  case callvm =>
   split at h
   ·obtain ⟨l,as,ms,k,r,ms',k',h1,h2,h3,h4,h5⟩:=h
    exact ⟨_,_,h5,l,as,ms,k,r,ms',k',h1,h2,h3,h4,rfl⟩
   ·exact h.elim
  all_goals
   split at h
   ·exact ⟨_,_,h.2.2,h.1,h.2.1,rfl⟩
   ·exact ⟨_,_,h.2.2,h.1,h.2.1,rfl⟩
theorem zaC7 {x:PX} {f g:Nat→A} (G:zbz4) (h:∀ t ∈ rdsX [x],f t=g t):xv G f x=xv G g x:=by
 cases x <;> first|rfl|exact h _ (by simp [rdsX])
theorem zO5 (x:PX) (xs:List PX) (t:Nat):t ∈ rdsX (x :: xs) ↔ t ∈ rdsX [x]∨t ∈ rdsX xs:=by
 cases x <;> simp [rdsX]
theorem zbr6 {st st2:St}:∀ (xs:List PX),(∀ t ∈ rdsX xs,st.slot t=st2.slot t)→zs5 C st xs=zs5 C st2 xs∧(zar2 C st xs ↔ zar2 C st2 xs)
 | [],_=>⟨rfl,kH⟩
 | x :: xs,h=>by
  have h1:=zaC7 (x:=x) C.G (f:=st.slot) (g:=st2.slot) fun t ht=>h t ((zO5 x xs t).2 (.inl ht))
  obtain ⟨h2,h3⟩:=zbr6 xs fun t ht=>h t ((zO5 x xs t).2 (.inr ht))
  simp only [zs5,zar2,h1,h2,h3,cX]
theorem zcC4 {st st2:St} (hm:st2.mem=st.mem) (hn:st2.nx=st.nx):st2.m=st.m:=by
 funext x; simp only [St.m,hm,hn]
theorem zaV4 {st:St} {d:Option Nat} {v u:A} {mw:List (Nat×MS)} {st2:St} (h:st.app d u mw=st.app d v []) (hm:st2.mem=st.mem) (hn:st2.nx=st.nx):st2.app d u mw=st2.app d v []:=by
 simp only [St.app,St.mk.injEq,putM,nxt] at h ⊢
 obtain ⟨h1,h2,h3⟩:=h
 refine ⟨?_,by rw [hm]; exact h2,by rw [hn]; exact h3⟩
 cases d with
 | none=>rfl
 | some d =>
  simp only [putF,List.cons.injEq,Prod.mk.injEq,gC,jZ] at h1 ⊢
  exact h1
theorem zcH4 {p:POp} {st st2:St} {v:A} (hm:st2.mem=st.mem) (hn:st2.nx=st.nx) (hr:∀ t ∈ p.rds,st.slot t=st2.slot t)
  (h:aop C p st (fun s=>s=st.app p.dst v [])):aop C p st2 (fun s=>s=st2.app p.dst v []):=by
 have hx:∀ t ∈ rdsX p.xs,st.slot t=st2.slot t:=fun t ht=>hr t (cV _ ht)
 obtain ⟨hv,hgd⟩:=zbr6 (C:=C) p.xs hx
 have hgo:zO4 st2 p.g=zO4 st p.g:=by
  cases hg:p.g with
  | none=>rfl
  | some q=>simp only [zO4]; rw [hr q.1 (dE _ (by simp [hg]))]
 unfold aop at h ⊢
 rw [hgo,← hv,hn,zcC4 hm hn,← hgd]
 cases hg:zO4 st p.g with
 | none=>simp [hg] at h
 | some g =>
  simp only [hg] at h ⊢
  cases hp:p.po <;> simp only [hp] at h ⊢
  case pick =>
   split at h
   ·rename_i c x y hxs
    simp only [hxs] at hx ⊢
    have e1:=zaC7 (x:=c) C.G (f:=st.slot) (g:=st2.slot) fun t ht=>hx t ((zO5 _ _ _).2 (.inl ht))
    have e2:=zaC7 (x:=x) C.G (f:=st.slot) (g:=st2.slot) fun t ht=>hx t ((zO5 _ _ _).2 (.inr ((zO5 _ _ _).2 (.inl ht))))
    have e3:=zaC7 (x:=y) C.G (f:=st.slot) (g:=st2.slot) fun t ht=>hx t ((zO5 _ _ _).2 (.inr ((zO5 _ _ _).2 (.inr ht))))
    rw [← e1,← e2,← e3]
    split at h
    ·exact ⟨h.1,zaV4 h.2 hm hn⟩
    ·exact h.elim
   ·exact h.elim
  case call f =>
   obtain ⟨r,h1,h2,h3⟩:=h
   exact ⟨r,h1,h2,zaV4 h3 hm hn⟩
  case callv =>
   split at h
   ·obtain ⟨r,h1,h2,h3⟩:=h
    exact ⟨r,h1,h2,zaV4 h3 hm hn⟩
   ·exact h.elim
  case callm f =>
   obtain ⟨l,as,ms,k,r,ms',k',h1,h2,h3,h4,h5⟩:=h
   exact ⟨l,as,ms,k,r,ms',k',h1,h2,h3,h4,zaV4 h5 hm hn⟩
  case callvm =>
   split at h
   ·obtain ⟨l,as,ms,k,r,ms',k',h1,h2,h3,h4,h5⟩:=h
    exact ⟨l,as,ms,k,r,ms',k',h1,h2,h3,h4,zaV4 h5 hm hn⟩
   ·exact h.elim
  all_goals
   split at h
   ·exact ⟨h.1,h.2.1,zaV4 h.2.2 hm hn⟩
   ·exact ⟨h.1,h.2.1,zaV4 h.2.2 hm hn⟩
def SL (ps:List POp) (vs:Nat→A) (st:St) (f:Nat→Bool):Nat→St
 | 0=>st
 | n+1=>match ps[n]? with
  | some p=>if f n then (SL ps vs st f n).app p.dst (vs n) [] else SL ps vs st f n
  | none=>SL ps vs st f n
theorem zcb9 (ps:List POp) (vs:Nat→A) (st:St) (f:Nat→Bool):∀ n,(SL ps vs st f n).mem=st.mem∧(SL ps vs st f n).nx=st.nx
 | 0=>⟨rfl,rfl⟩
 | n+1=>by
  have:=zcb9 ps vs st f n
  simp only [SL]
  split
  ·split
   ·exact this
   ·exact this
  ·exact this
theorem zaC8 (st:St) (d:Option Nat) (v:A) (t:Nat):(st.app d v []).slot t=if d=some t then v else st.slot t:=by
 rw [zcj2]
 cases d with
 | none=>simp [setF]
 | some d =>
  by_cases h:t=d
  ·subst h; simp [setF]
  ·simp [setF,h,kQ h,show ¬ d=t from fun e=>h e.symm]
theorem zcT6 {ps:List POp} {vs:Nat→A} {st:St} {f:Nat→Bool} {j:Nat} {p:POp} (hp:ps[j]? = some p) (hf:f j=false) (f':Nat→Bool) (hj:f' j=true) (hf':∀ i,i≠j→f' i=f i)
  (hc:∀ i q,j < i→ps[i]? = some q→f i=true→conf p q=false):∀ n t,(SL ps vs st f' n).slot t=if j < n∧p.dst=some t then vs j else (SL ps vs st f n).slot t
 | 0,t=>by simp [SL]
 | n+1,t=>by
  have ih:=zcT6 (vs:=vs) (st:=st) hp hf f' hj hf' hc n
  by_cases hn:n=j
  ·subst hn
   simp only [SL,hp,hj,hf,cB,bU,cA,zaC8]
   by_cases hd:p.dst=some t
   ·simp [hd]
   ·simp only [hd,cA,and_false]
    have:=ih t
    simpa [hd] using this
  ·have hlt:j < n+1 ↔ j < n:=by omega
   simp only [SL,hf' n hn,hlt]
   cases hq:ps[n]? with
   | none=>simpa using ih t
   | some q =>
    simp only []
    split
    ·rename_i hfn
     rw [zaC8,zaC8,ih t]
     by_cases hd:q.dst=some t
     ·simp only [hd,cB]
      by_cases hjn:j < n
      ·have:=hc n q hjn hq hfn
       unfold conf at this
       by_cases hpd:p.dst=some t
       ·simp [hpd,hd] at this
       ·simp [hpd]
      ·simp [hjn]
     ·simp [hd]
    ·exact ih t
theorem zcC5 {ps:List POp} {vs:Nat→A} {st:St} {f:Nat→Bool} {j t:Nat} (h1:∀ i q,i < j→ps[i]? = some q→q.dst=some t→f i=true) (h2:∀ i q,j≤i→ps[i]? = some q→q.dst=some t→f i=false) :
  ∀ n,(SL ps vs st f n).slot t=(SL ps vs st (fun _=>true) (min n j)).slot t
 | 0=>by simp [SL]
 | n+1=>by
  have ih:=zcC5 (vs:=vs) (st:=st) h1 h2 n
  by_cases hn:n < j
  ·rw [show min (n+1) j=n+1 by omega]
   rw [show min n j=n by omega] at ih
   simp only [SL]
   cases hq:ps[n]? with
   | none=>exact ih
   | some q =>
    simp only [cB]
    by_cases hd:q.dst=some t
    ·rw [h1 n q hn hq hd]; simp [zaC8,hd]
    ·rw [zaC8,bT hd]
     split
     ·rw [zaC8,bT hd]; exact ih
     ·exact ih
  ·rw [show min (n+1) j=j by omega]
   rw [show min n j=j by omega] at ih
   simp only [SL]
   cases hq:ps[n]? with
   | none=>exact ih
   | some q =>
    simp only []
    by_cases hd:q.dst=some t
    ·rw [h2 n q (by omega) hq hd]; simpa using ih
    ·split
     ·rw [zaC8,bT hd]; exact ih
     ·exact ih
theorem zbI2 {K:St→Prop}:∀ (ps:List POp) (st:St),zaX9 C ps st K→∃ vs:Nat→A,K (SL ps vs st (fun _=>true) ps.length) ∧
  ∀ j p,ps[j]? = some p→aop C p (SL ps vs st (fun _=>true) j) (fun s=>s=(SL ps vs st (fun _=>true) j).app p.dst (vs j) [])
 | [],st,h=>⟨fun _=>.any,h,fun j p hp=>by simp at hp⟩
 | p :: ps,st,h=>by
  obtain ⟨v,mw,⟨⟨h1,h2⟩,h3⟩,h4⟩:=zdj2 h
  have e:st.app p.dst v mw=st.app p.dst v []:=by
   simp only [St.app,St.mk.injEq] at h1 h2 ⊢
   exact ⟨trivial,h1,h2⟩
  rw [e] at h3 h4
  obtain ⟨vs,h5,h6⟩:=zbI2 ps _ h3
  have sh:∀ n,SL (p :: ps) (fun i=>match i with|0=>v|i+1=>vs i) st (fun _=>true) (n+1)=SL ps vs (st.app p.dst v []) (fun _=>true) n:=by
   intro n
   induction n with
   | zero=>simp [SL]
   | succ n ih=>rw [SL,ih]; simp only [List.getElem?_cons_succ]; rfl
  refine ⟨fun i=>match i with|0=>v|i+1=>vs i,?_,fun j q hq=>?_⟩
  ·rw [List.length_cons,sh]; exact h5
  ·cases j with
   | zero=>simp at hq; subst hq; exact h4
   | succ j=>rw [sh]; exact h6 j q (by simpa using hq)
theorem zaQ5 {D:Nat→Prop}:∀ (es acc:List (List Nat)),(∀ j e,es[j]? = some e→D (acc.length+j)→∀ i ∈ e,D i)→(∀ j,D j→∀ i ∈ acc.getD j [],D i) →
  ∀ j,D j→∀ i ∈ (ancs acc es).getD j [],D i
 | [],acc,_,h=>h
 | e :: es,acc,he,h=>by
  unfold ancs
  refine zaQ5 es _ (fun j e' hj hD=>he (j+1) e' (by simpa using hj) (by rw [bZ] at hD; simp only [List.length_cons,List.length_nil] at hD; rwa [show acc.length+(j+1)=acc.length+(0+1)+j by omega])) ?_
  intro j hD i hi
  by_cases hj:j < acc.length
  ·refine h j hD i ?_
   rw [bV,dN hj] at hi
   rwa [bV]
  ·by_cases hj2:j=acc.length
   ·subst hj2
    have he0:=he 0 e rfl (by simpa using hD)
    rw [bV,fB (cY _)] at hi
    simp only [gH,List.getElem?_cons_zero,Option.getD_some,cI,fM] at hi
    rcases hi with hi|⟨k,hk,hi⟩
    ·exact he0 i hi
    ·exact h k (he0 k hk) i hi
   ·rw [bV,gX (by simp; omega)] at hi
    simp at hi
theorem zaM9 {ps:List POp} {an:List (List Nat)} (h:zbu9 ps an=true) {i j:Nat} {p q:POp} (hij:i < j) (hp:ps[i]? = some p) (hq:ps[j]? = some q) (hc:conf p q=true):i ∈ an.getD j []:=by
 unfold zbu9 at h
 have h1:=eT.1 h j (eO.2 (cD.1 hq).1)
 have h2:=eT.1 h1 i (eO.2 hij)
 simp only [hp,hq,hc,cU,dR] at h2
 simpa using h2
theorem zbb9:∀ (os:List Oper) (n:Nat),POp.sortOk os n=true→∀ j o,os[j]? = some o→∀ i ∈ zC2 o,i < n+j
 | [],_,_,j,o,h=>by simp at h
 | x :: os,n,h,j,o,ho=>by
  simp only [POp.sortOk,bS] at h
  cases j with
  | zero =>
   simp at ho; subst ho
   intro i hi
   simp only [zC2,cH,fL] at hi
   obtain ⟨e,⟨he,hb⟩,rfl⟩:=hi
   have:=Array.all_eq_true_iff_forall_mem.1 h.1 e (by simpa using he)
   simpa [hb] using this
  | succ j =>
   intro i hi
   have:=zbb9 os (n+1) h.2 j o (by simpa using ho) i hi
   omega
def left (f:Nat→Bool):Nat→Nat
 | 0=>0
 | n+1=>left f n+if f n then 0 else 1
theorem zbI3 {f f':Nat→Bool} {j:Nat} (hj:f j=false) (hj':f' j=true) (h:∀ i,i≠j→f' i=f i):∀ n,left f n=left f' n+if j < n then 1 else 0
 | 0=>rfl
 | n+1=>by
  have ih:=zbI3 hj hj' h n
  simp only [left]
  by_cases hn:n=j
  ·subst hn; simp [hj,hj'] ; simp at ih; omega
  ·rw [h n hn,ih]
   have:j < n+1 ↔ j < n:=by omega
   simp only [this]; omega
theorem zbv2 {f:Nat→Bool}:∀ n,left f n=0→∀ i,i < n→f i=true
 | n+1,h,i,hi=>by
  simp only [left] at h
  by_cases hn:i=n
  ·subst hn
   cases hf:f i with
   | true=>rfl
   | false=>simp [hf] at h
  ·exact zbv2 n (by omega) i (by omega)
theorem zaV5 {p q:POp} {t:Nat} (h:p.dst=some t) (hq:t ∈ q.rds∨q.dst=some t):conf p q=true∧(t ∈ q.rds→conf q p=true):=by
 unfold conf
 rw [h]
 refine ⟨?_,fun hr=>?_⟩
 ·rcases hq with hq|hq <;> simp [hq]
 ·simp [hr]
end
section
variable {C:Cx} {E:Env}
theorem Sat.drawn {s:S} {a:Act} {w:World} {n:Nat} (h:Sat E s a w) (hn:w.drawn≤n):Sat E s a { w with drawn:=n }:=by
  obtain ⟨W,μ,hs⟩:=h
  have hk:Keeps (fun _=>False) w { w with drawn:=n }:=⟨rfl,rfl,rfl,hn,cY _,fun _ _ _=>rfl⟩
  exact ⟨W,μ,hs.step (Step.quiet hk hs.mem hs.inj hs.wlt) (d:=none) (v:=undef) (av:=.any) (fun x hx=>by cases hx) trivial⟩
theorem ROk.at {ops:Array Oper} {N:Nat}:∀ {ps:List POp} {n j:Nat} {o:Oper},ROk C N ops n ps→ops[n+j]? = some o→∃ p,ps[j]? = some p∧POk C N ops o p
  | [],n,j,o,h,ho=>by
    have h:n=ops.size:=h
    have:=(dJ.1 ho).1
    omega
  | p :: ps,n,0,o,h,ho=>by
    obtain ⟨⟨o',ho',hp⟩,_⟩:=h
    rw [Nat.add_zero,ho'] at ho; cases ho
    exact ⟨p,rfl,hp⟩
  | p :: ps,n,j+1,o,h,ho=>by
    obtain ⟨q,hq,hp⟩:=ROk.at (j:=j) h.2 (by rw [← ho]; congr 1; omega)
    exact ⟨q,by simpa using hq,hp⟩
theorem zbI4 {ps:List POp} {vs:Nat→A} {st:St} {f f':Nat→Bool}:∀ n,(∀ i,i < n→f i=f' i)→SL ps vs st f n=SL ps vs st f' n
  | 0,_=>rfl
  | n+1,h=>by
    have ih:=zbI4 (ps:=ps) (vs:=vs) (st:=st) n fun i hi=>h i (by omega)
    simp only [SL,ih,h n (by omega)]
theorem zcH5 {st st2:St} (hs:∀ t,st2.slot t=st.slot t) (hm:st2.mem=st.mem) (hn:st2.nx=st.nx):st2.toS=st.toS:=by
  unfold St.toS
  rw [zcC4 hm hn,show st2.slot=st.slot from funext hs]
theorem zcH6 {os:Array Oper} {ps:List POp} {st:St} {vs:Nat→A} {K:St→Prop} {Q:Exit→Act→World→Prop} (hG:E.G=C.G) (hr:ROk C E.N os 0 ps) (hso:POp.sortOk os.toList 0=true)
    (hco:zbu9 ps (ancs [] (os.toList.map zC2))=true) (hK:K (SL ps vs st (fun _=>true) ps.length))
    (hv:∀ j p,ps[j]? = some p→aop C p (SL ps vs st (fun _=>true) j) (fun s=>s=(SL ps vs st (fun _=>true) j).app p.dst (vs j) []))
    (hQ:∀ st' a' w',K st'→Sat E st'.toS a' w'→Q .normal a' w') :
    ∀ (fuel:Nat) (listed:Array Bool) (a:Act) (w:World),listed.size=os.size→Sat E (SL ps vs st (fun i=>listed.getD i false) ps.length).toS a w →
      (∀ j o,os[j]? = some o→listed.getD j false=true→∀ i ∈ zC2 o,listed.getD i false=true)→left (fun i=>listed.getD i false) os.size≤fuel →
      wpAny C.P .any os Q fuel listed a w:=by
  have hlen:ps.length=os.size:=by have:=hr.size; omega
  have hdone:∀ (listed:Array Bool) (a:Act) (w:World),Sat E (SL ps vs st (fun i=>listed.getD i false) ps.length).toS a w→(∀ i,i < os.size→listed.getD i false=true)→Q .normal a w:=by
    intro listed a w hs hall
    refine hQ _ a w hK ?_
    rw [zbI4 (f:=fun _=>true) (f':=fun i=>listed.getD i false) ps.length fun i hi=>(hall i (by omega)).symm]
    exact hs
  have hready:∀ (listed:Array Bool),listed.size=os.size→Region.ready .any os listed=[]→∀ i,i < os.size→listed.getD i false=true:=by
    intro listed hsz hr0 i
    induction i using Nat.strongRecOn with
    | _ i ih =>
      intro hi
      cases hl:listed.getD i false with
      | true=>rfl
      | false =>
        have:i ∈ Region.ready .any os listed:=by
          rw [mem_ready]
          refine ⟨?_,os[i],by simp [hi],fun e he hb=>?_⟩
          · have h1:i < listed.size:=by omega
            simp only [Array.getD,h1,kG] at hl ⊢; exact hl
          · have h2:e.on ∈ zC2 os[i]:=by
              simp only [zC2,cH,fL]
              exact ⟨e,⟨by simpa using he,hb⟩,rfl⟩
            have h3:=zbb9 os.toList 0 hso i os[i] (by simp [hi]) e.on h2
            exact ih e.on (by omega) (by omega)
        rw [hr0] at this; cases this
  intro fuel
  induction fuel with
  | zero =>
    intro listed a w hsz hs hcl hle
    have hall:=zbv2 (f:=fun i=>listed.getD i false) os.size (by omega)
    refine ⟨?_,hdone listed a w hs hall⟩
    cases hrd:Region.ready .any os listed with
    | nil=>rfl
    | cons i rs =>
      have:i ∈ Region.ready .any os listed:=by rw [hrd]; simp
      rw [mem_ready] at this
      obtain ⟨h1,o,ho,_⟩:=this
      have hi:=(dJ.1 ho).1
      have:=hall i hi
      have h2:i < listed.size:=by omega
      simp only [Array.getD,h2,kG] at h1 this
      rw [this] at h1; cases h1
  | succ fuel ih =>
    intro listed a w hsz hs hcl hle
    refine ⟨fun hr0=>hdone listed a w hs (hready listed hsz hr0),fun i hi=>?_⟩
    rw [mem_ready] at hi
    obtain ⟨hl,o,ho,hed⟩:=hi
    have hlt:=(dJ.1 ho).1
    have hlt2:i < listed.size:=by omega
    have hl:listed.getD i false=false:=by
      simp only [Array.getD,hlt2,kG] at hl ⊢; exact hl
    obtain ⟨p,hp,hpo⟩:=hr.at (j:=i) (by rw [dY]; exact ho)
    have hedge:∀ k ∈ zC2 o,listed.getD k false=true:=by
      intro k hk
      simp only [zC2,cH,fL] at hk
      obtain ⟨e,⟨he,hb⟩,rfl⟩:=hk
      exact hed e (by simpa using he) hb
    have hset:(listed.setIfInBounds i true).getD i false=true:=by simp [Array.getD,hlt2]
    have hsetne:∀ k,k≠i→(listed.setIfInBounds i true).getD k false=listed.getD k false:=fun k hk=>getD_set_ne false (kQ hk)
    have hcl':∀ j o,os[j]? = some o→(listed.setIfInBounds i true).getD j false=true→∀ k ∈ zC2 o,(listed.setIfInBounds i true).getD k false=true:=by
      intro j o' ho' hj k hk
      by_cases hji:j=i
      · subst hji
        rw [ho] at ho'; cases ho'
        exact getD_set_true (hedge k hk)
      · rw [hsetne j hji] at hj
        exact getD_set_true (hcl j o' ho' hj k hk)
    have hanc:∀ j,(listed.setIfInBounds i true).getD j false=true→∀ k ∈ (ancs [] (os.toList.map zC2)).getD j [],(listed.setIfInBounds i true).getD k false=true :=
      zaQ5 (D:=fun j=>(listed.setIfInBounds i true).getD j false=true) _ [] (fun j e he hD=>by
        simp only [cL,cG] at he
        obtain ⟨o',ho',rfl⟩:=he
        exact hcl' j o' (by simpa using ho') (by simpa using hD)) (fun j _ k hk=>by simp at hk)
    have hanc0:∀ j,listed.getD j false=true→∀ k ∈ (ancs [] (os.toList.map zC2)).getD j [],listed.getD k false=true :=
      zaQ5 (D:=fun j=>listed.getD j false=true) _ [] (fun j e he hD=>by
        simp only [cL,cG] at he
        obtain ⟨o',ho',rfl⟩:=he
        exact hcl j o' (by simpa using ho') (by simpa using hD)) (fun j _ k hk=>by simp at hk)
    have hbef:∀ k q,k < i→ps[k]? = some q→conf q p=true→listed.getD k false=true:=by
      intro k q hk hq hc
      have:=hanc i hset k (zaM9 hco hk hq hp hc)
      rwa [hsetne k (by omega)] at this
    have haft:∀ k q,i < k→ps[k]? = some q→conf p q=true→listed.getD k false=false:=by
      intro k q hk hq hc
      cases hlk:listed.getD k false with
      | false=>rfl
      | true =>
        have:=hanc0 k hlk i (zaM9 hco hk hp hq hc)
        rw [hl] at this; cases this
    have hmem:=zcb9 ps vs st (fun k=>listed.getD k false) ps.length
    have hmem2:=zcb9 ps vs st (fun _=>true) i
    have hil:i < ps.length:=(cD.1 hp).1
    have haop:aop C p (SL ps vs st (fun k=>listed.getD k false) ps.length) (fun s=>s=(SL ps vs st (fun k=>listed.getD k false) ps.length).app p.dst (vs i) []):=by
      refine zcH4 (st:=SL ps vs st (fun _=>true) i) (by rw [hmem.1,hmem2.1]) (by rw [hmem.2,hmem2.2]) (fun t ht=>?_) (hv i p hp)
      rw [zcC5 (j:=i) (t:=t) (fun k q hk hq hd=>hbef k q hk hq (zaV5 hd (.inl ht)).1) (fun k q hk hq hd=>?_) ps.length,iB (jA hil)]
      by_cases hki:k=i
      · subst hki; exact hl
      · exact haft k q (by omega) hq ((zaV5 hd (.inl ht)).2 ht)
    obtain ⟨W,μ,hs⟩:=hs
    have key:=zbW1 hs hG hpo haop (Q:=Q) (k:=wpAny C.P .any os Q fuel (listed.setIfInBounds i true)) (fun st' a' w' hst hs'=>by
      subst hst
      refine ih _ a' w' (by simpa using hsz) ?_ hcl' ?_
      · have e:(SL ps vs st (fun k=>(listed.setIfInBounds i true).getD k false) ps.length).toS=((SL ps vs st (fun k=>listed.getD k false) ps.length).app p.dst (vs i) []).toS:=by
          have hm3:=zcb9 ps vs st (fun k=>(listed.setIfInBounds i true).getD k false) ps.length
          refine zcH5 (fun t=>?_) ?_ ?_
          · rw [zcT6 (f:=fun k=>listed.getD k false) hp hl (fun k=>(listed.setIfInBounds i true).getD k false) hset hsetne (fun k q hk hq hfk=>?_),zaC8]
            · simp only [hil,gC]
            · cases hc:conf p q with
              | false=>rfl
              | true=>have:=haft k q hk hq hc; exact absurd (this.symm.trans hfk) (by simp)
          · rw [hm3.1]; exact hmem.1.symm
          · rw [hm3.2]; exact hmem.2.symm
        rw [e]; exact hs'
      · have:=zbI3 (f:=fun k=>listed.getD k false) (f':=fun k=>(listed.setIfInBounds i true).getD k false) (j:=i) hl hset hsetne os.size
        rw [bW hlt] at this
        omega)
    simp only [wpOp,ho]
    split at key
    · rename_i hw; rw [bW hw]; exact .inl key
    · rename_i hw; rw [bT hw]; exact key
theorem zdj3 {Q:Exit→St→Prop} {st:St} {dr:List Nat} {ops:List POp} (hm:C.P.follows .mixedOrders=true) (hG:E.G=C.G) (h:zaX9 C ops st fun s=>Q .normal (s.drop dr)):AW C E (.regd dr ops) Q st:=fun code hc a w hs=>by
  cases code with
  | region id os d =>
   cases d with
   | false=>simp [chkC] at hc
   | true =>
    simp only [chkC,bS,zcC0] at hc
    obtain ⟨hc1,hc2,hc3⟩:=hc
    have hr:ROk C E.N os 0 ops:=by
      obtain ⟨P,G⟩:=C
      exact zbh2 os.toList ops 0 hc1 (by simp) (by simp)
    obtain ⟨vs,hK,hv⟩:=zbI2 ops st h
    refine wp_region_any hm ?_
    refine zcH6 (st:=st) (vs:=vs) hG hr hc2 hc3 hK hv (fun st' a' w' hQ hs'=>⟨_,hQ,hs'.drop⟩) os.size _ a _ (by simp) ?_ (fun j o ho hj=>?_) ?_
    · have e:SL ops vs st (fun i=>(Array.replicate os.size false).getD i false) ops.length=SL ops vs st (fun _=>false) ops.length:=zbI4 _ fun i _=>by simp [Array.getD]
      have e2:∀ n,SL ops vs st (fun _=>false) n=st:=fun n=>by
        induction n with
        | zero=>rfl
        | succ n ih=>simp only [SL,ih,bU,cA]; split <;> rfl
      rw [e,e2]
      exact hs.drawn (kL _)
    · simp [Array.getD] at hj
    · have:∀ n,left (fun i=>(Array.replicate os.size false).getD i false) n≤n:=fun n=>by
        induction n with
        | zero=>exact cY _
        | succ n ih=>simp only [left]; split <;> omega
      exact this _
  | _=>simp [chkC] at hc
end
theorem zaj5 {a b:ByteArray}:a.toList=b.toList ↔ a=b:=by
 constructor
 ·intro h
  rw [ByteArray.toList_eq,ByteArray.toList_eq] at h
  cases a; cases b
  simp only [ByteArray.mk.injEq]
  exact Array.toList_inj.1 (by simpa using h)
 ·intro h; rw [h]
def eI (k:IntKind) (x:Int):List A:=[A.int k x]
def eB (x:Bool):List A:=[A.bool x]
def eS (x:ByteArray):List A:=[A.str x]
def eL {α:Type} (f:α→List A) (l:List α):List A:=[A.sl (l.map f)]
@[go_sem] theorem zdz8 (a:A):sub [a] 0 1=[a]:=rfl
@[go_sem] theorem zdz9 (a b:A):upd [a] 0 [b]=[b]:=rfl
@[go_sem] theorem zdx9 {α β:Type} (f:α→β) (l:List α) (n:Nat):(l.map f).take n=(l.take n).map f:=List.map_take.symm
@[go_sem] theorem zdy0 {α β:Type} (f:α→β) (l:List α) (n:Nat):(l.map f).drop n=(l.drop n).map f:=List.map_drop.symm
@[go_sem] theorem zdq8 {α β:Type} (f:α→β) (l m:List α):l.map f++m.map f=(l++m).map f:=eU.symm
attribute [go_sem] dA
@[go_sem] theorem zdf4 (c:List A) (cs:List (List A)):zan2 (c :: cs) ↔ zn2 c=true∧zan2 cs:=by
 constructor
 ·intro h
  refine ⟨?_,fun d hd=>h d (.tail _ hd)⟩
  have:=h c (.head _)
  clear h
  induction c with
  | nil=>rfl
  | cons a c ih=>simp only [zn2,bS]; exact ⟨this a (.head _),ih fun b hb=>this b (.tail _ hb)⟩
 ·rintro ⟨h1,h2⟩ d hd
  rcases cE.1 hd with rfl|hd
  ·exact zaj4 h1
  ·exact h2 d hd
@[go_sem] theorem zdv6:maxLen=9223372036854775807:=rfl
@[go_sem] theorem eI.getD (k:IntKind) (l:List Int) (i:Nat):(l.map (eI k)).getD i [A.int k 0]=[A.int k (l.getD i 0)]:=by
 simp only [bV,cL]; cases l[i]? <;> rfl
@[go_sem] theorem eI.snoc (k:IntKind) (l:List Int) (x:Int):l.map (eI k)++[[A.int k x]]=(l++[x]).map (eI k):=by simp [eI]
@[go_sem] theorem eI.allLen (k:IntKind) (l:List Int):zM7 1 (l.map (eI k)):=by intro c hc; obtain ⟨x,_,rfl⟩:=cH.1 hc; rfl
@[go_sem] theorem eI.pureRows (k:IntKind) (l:List Int):zan2 (l.map (eI k)):=by intro c hc; obtain ⟨x,_,rfl⟩:=cH.1 hc; intro a ha; simp [eI] at ha; subst ha; rfl
@[go_sem] theorem eI.pureEs (k:IntKind) (l:List Int):pureEs (l.map (eI k))=true:=by induction l with
 | nil=>rfl
 | cons a l ih=>simpa [Ab.pureEs,zn2,A.pure1,eI] using ih
@[go_sem] theorem eB.getD (l:List Bool) (i:Nat):(l.map eB).getD i [A.bool false]=[A.bool (l.getD i false)]:=by
 simp only [bV,cL]; cases l[i]? <;> rfl
@[go_sem] theorem eB.snoc (l:List Bool) (x:Bool):l.map eB++[[A.bool x]]=(l++[x]).map eB:=by simp [eB]
@[go_sem] theorem eB.set (l:List Bool) (i:Nat) (x:Bool):(l.map eB).set i [A.bool x]=(l.set i x).map eB:=by simp [kI,eB]
@[go_sem] theorem eB.rep (n:Nat) (x:Bool):List.replicate n [A.bool x]=(List.replicate n x).map eB:=by simp [eB]
@[go_sem] theorem eB.pureRows (l:List Bool):zan2 (l.map eB):=by intro c hc; obtain ⟨x,_,rfl⟩:=cH.1 hc; intro a ha; simp [eB] at ha; subst ha; rfl
@[go_sem] theorem eB.pureEs (l:List Bool):pureEs (l.map eB)=true:=by induction l with
 | nil=>rfl
 | cons a l ih=>simpa [Ab.pureEs,zn2,A.pure1,eB] using ih
@[go_sem] theorem eS.getD (l:List ByteArray) (i:Nat):(l.map eS).getD i [A.str ⟨#[]⟩]=[A.str (l.getD i ⟨#[]⟩)]:=by
 simp only [bV,cL]; cases l[i]? <;> rfl
@[go_sem] theorem eS.snoc (l:List ByteArray) (x:ByteArray):l.map eS++[[A.str x]]=(l++[x]).map eS:=by simp [eS]
@[go_sem] theorem eS.set (l:List ByteArray) (i:Nat) (x:ByteArray):(l.map eS).set i [A.str x]=(l.set i x).map eS:=by simp [kI,eS]
@[go_sem] theorem eS.pureRows (l:List ByteArray):zan2 (l.map eS):=by intro c hc; obtain ⟨x,_,rfl⟩:=cH.1 hc; intro a ha; simp [eS] at ha; subst ha; rfl
@[go_sem] theorem eS.pureEs (l:List ByteArray):pureEs (l.map eS)=true:=by induction l with
 | nil=>rfl
 | cons a l ih=>simpa [Ab.pureEs,zn2,A.pure1,eS] using ih
@[go_sem] theorem eL.getD {α:Type} (f:α→List A) (l:List (List α)) (i:Nat):(l.map (eL f)).getD i [A.sl (([]:List α).map f)]=[A.sl ((l.getD i []).map f)]:=by
 simp only [bV,cL]; cases l[i]? <;> rfl
@[go_sem] theorem eL.getD0 {α:Type} (f:α→List A) (l:List (List α)) (i:Nat):(l.map (eL f)).getD i [A.sl []]=[A.sl ((l.getD i []).map f)]:=eL.getD f l i
@[ext] structure Arr (α:Type) (n:Nat) where
 l:List α
 h:l.length=n
instance {α:Type} [DecidableEq α] {n:Nat}:DecidableEq (Arr α n):=fun a b=>decidable_of_iff (a.l=b.l) (by rw [Arr.ext_iff])
def Arr.get {α:Type} {n:Nat} (a:Arr α n) (i:Nat) (z:α):α:=a.l.getD (zI9 i n) z
def Arr.put {α:Type} {n:Nat} (a:Arr α n) (i:Nat) (x:α):Arr α n:=⟨a.l.set (zI9 i n) x,by simp [a.h]⟩
def Arr.rep {α:Type} (n:Nat) (x:α):Arr α n:=⟨List.replicate n x,by simp⟩
def Arr.enc {α:Type} {n:Nat} (f:α→List A) (a:Arr α n):List A:=(a.l.map f).flatten
theorem zck2 {α:Type} (f:α→List A) (sz:Nat) (hf:∀ x,(f x).length=sz):∀ l:List α,(l.map f).flatten.length=l.length * sz
 | []=>by simp
 | a :: l=>by simp only [eD,List.flatten_cons,bZ,hf,zck2 f sz hf l,List.length_cons]; rw [dS]; omega
theorem zcC6 {α:Type} (f:α→List A) (sz:Nat) (hf:∀ x,(f x).length=sz) (z:α):∀ (l:List α) (i:Nat),i < l.length→sub (l.map f).flatten (i * sz) sz=f (l.getD i z)
 | [],i,h=>by simp at h
 | a :: l,0,_=>by simp [sub,hf a]
 | a :: l,i+1,h=>by
  have:=zcC6 f sz hf z l i (by simpa using h)
  simp only [sub,eD,List.flatten_cons,gP] at this ⊢
  rw [← this,jY,gR (by rw [hf,dS]; omega),hf,List.nil_append]
  congr 2
  rw [dS]; omega
theorem zck3 {α:Type} (f:α→List A) (sz:Nat) (hf:∀ x,(f x).length=sz) (x:α):∀ (l:List α) (i:Nat),i < l.length→upd (l.map f).flatten (i * sz) (f x)=((l.set i x).map f).flatten
 | [],i,h=>by simp at h
 | a :: l,0,_=>by simp [upd,hf]
 | a :: l,i+1,h=>by
  have:=zck3 f sz hf x l i (by simpa using h)
  simp only [upd,eD,List.flatten_cons,List.set_cons_succ] at this ⊢
  rw [← this]
  have e:(i+1) * sz=(f a).length+i * sz:=by rw [hf,dS]; omega
  rw [e,List.take_length_add_append,fV,List.drop_length_add_append]
  simp [dB]
@[go_sem] theorem Arr.enc_len {α:Type} {n:Nat} (f:α→List A) (a:Arr α n) (sz:Nat) (hf:∀ x,(f x).length=sz):(Arr.enc f a).length=n * sz:=by
 rw [Arr.enc,zck2 f sz hf,a.h]
theorem zaH3 {i n:Nat} (h:0 < n):zI9 i n < n:=by unfold zI9; split <;> omega
theorem zaj6 {i n:Nat} (h:i < n):zI9 i n=i:=bW h
theorem zcu5 {α:Type} {n sz:Nat} (f:α→List A) (hf:∀ x,(f x).length=sz) (z:α) (a:Arr α (n+1)) (i:Nat):sub (Arr.enc f a) (zI9 i (n+1) * sz) sz=f (a.get i z):=zcC6 f sz hf z a.l _ (by rw [a.h]; exact zaH3 (by omega))
theorem zcC7 {α:Type} {n sz:Nat} (f:α→List A) (hf:∀ x,(f x).length=sz) (a:Arr α (n+1)) (i:Nat) (x:α):upd (Arr.enc f a) (zI9 i (n+1) * sz) (f x)=Arr.enc f (a.put i x):=zck3 f sz hf x a.l _ (by rw [a.h]; exact zaH3 (by omega))
attribute [go_sem] zaj6
@[go_sem] theorem zdv7 (i n:Nat):(zI9 i (n+1)≤n)=True:=by
 have:=zaH3 (i:=i) (n:=n+1) (by omega)
 exact eq_true (by omega)
section
variable {n:Nat}
@[go_sem] theorem eI.alen (k:IntKind) (a:Arr Int n):(Arr.enc (eI k) a).length=n:=by rw [Arr.enc_len _ _ 1 (fun _=>rfl),gK]
@[go_sem] theorem eB.alen (a:Arr Bool n):(Arr.enc eB a).length=n:=by rw [Arr.enc_len _ _ 1 (fun _=>rfl),gK]
@[go_sem] theorem eI.aat (k:IntKind) (a:Arr Int (n+1)) (i:Nat):sub (Arr.enc (eI k) a) (zI9 i (n+1)) 1=[A.int k (a.get i 0)]:=by
 have:=zcu5 (eI k) (sz:=1) (fun _=>rfl) 0 a i; rwa [gK] at this
@[go_sem] theorem eI.aput (k:IntKind) (a:Arr Int (n+1)) (i:Nat) (x:Int):upd (Arr.enc (eI k) a) (zI9 i (n+1)) [A.int k x]=Arr.enc (eI k) (a.put i x):=by
 have:=zcC7 (eI k) (sz:=1) (fun _=>rfl) a i x; rwa [gK] at this
@[go_sem] theorem eI.aatc (k:IntKind) (a:Arr Int (n+1)) (i:Nat) (h:i < n+1):sub (Arr.enc (eI k) a) i 1=[A.int k (a.get i 0)]:=by
 have:=eI.aat k a i; rwa [zaj6 h] at this
@[go_sem] theorem eI.aputc (k:IntKind) (a:Arr Int (n+1)) (i:Nat) (x:Int) (h:i < n+1):upd (Arr.enc (eI k) a) i [A.int k x]=Arr.enc (eI k) (a.put i x):=by
 have:=eI.aput k a i x; rwa [zaj6 h] at this
@[go_sem] theorem eB.aat (a:Arr Bool (n+1)) (i:Nat):sub (Arr.enc eB a) (zI9 i (n+1)) 1=[A.bool (a.get i false)]:=by
 have:=zcu5 eB (sz:=1) (fun _=>rfl) false a i; rwa [gK] at this
@[go_sem] theorem eB.aat2 {m:Nat} (a:Arr (Arr Bool (m+1)) (n+1)) (i j:Nat):sub (Arr.enc (Arr.enc eB) a) (zI9 i (n+1) * (m+1)+zI9 j (m+1)) 1=[A.bool ((a.get i (Arr.rep (m+1) false)).get j false)]:=by
 have h1:=zcu5 (sz:=m+1) (Arr.enc eB) (fun x=>eB.alen x) (Arr.rep (m+1) false) a i
 have h2:=eB.aat (a.get i (Arr.rep (m+1) false)) j
 have hj:=zaH3 (i:=j) (n:=m+1) (by omega)
 rw [← h2,← h1]
 simp only [sub,List.drop_take,gL,fI]
 congr 1; omega
@[go_sem] theorem zdq9 (i j n m k:Nat) (h:(n+1) * (m+1)≤k+1):(zI9 i (n+1) * (m+1)+zI9 j (m+1)≤k)=True:=by
 have h1:=zaH3 (i:=i) (n:=n+1) (by omega)
 have h2:=zaH3 (i:=j) (n:=m+1) (by omega)
 have h3:(zI9 i (n+1)+1) * (m+1)≤(n+1) * (m+1):=dH _ h1
 rw [dS] at h3
 exact eq_true (by omega)
@[go_sem] theorem eB.aput (a:Arr Bool (n+1)) (i:Nat) (x:Bool):upd (Arr.enc eB a) (zI9 i (n+1)) [A.bool x]=Arr.enc eB (a.put i x):=by
 have:=zcC7 eB (sz:=1) (fun _=>rfl) a i x; rwa [gK] at this
@[go_sem] theorem eB.aputc (a:Arr Bool (n+1)) (i:Nat) (x:Bool) (h:i < n+1):upd (Arr.enc eB a) i [A.bool x]=Arr.enc eB (a.put i x):=by
 have:=eB.aput a i x; rwa [zaj6 h] at this
@[go_sem] theorem eB.aall (a b:Arr Bool n):upd (Arr.enc eB a) 0 (Arr.enc eB b)=Arr.enc eB b:=by
 simp [upd,eB.alen]
@[go_sem] theorem eI.asub (k:IntKind) (a:Arr Int n):sub (Arr.enc (eI k) a) 0 n=Arr.enc (eI k) a:=by
 rw [sub,gV,dA (by rw [eI.alen]; exact cY _)]
@[go_sem] theorem eB.asub (a:Arr Bool n):sub (Arr.enc eB a) 0 n=Arr.enc eB a:=by
 rw [sub,gV,dA (by rw [eB.alen]; exact cY _)]
theorem zbc0 {α:Type} (f:α→List A) (hf:∀ x,zn2 (f x)=true):∀ l:List α,zn2 (l.map f).flatten=true
 | []=>rfl
 | a :: l=>by
  have h1:=hf a
  have h2:=zbc0 f hf l
  have:∀ x y:List A,zn2 x=true→zn2 y=true→zn2 (x++y)=true:=fun x y hx hy=>by
   induction x with
   | nil=>exact hy
   | cons c x ih=>simp only [zn2,bS,List.cons_append] at hx ⊢; exact ⟨hx.1,ih hx.2⟩
  simpa using this _ _ h1 h2
@[go_sem] theorem eI.apure (k:IntKind) (a:Arr Int n):zn2 (Arr.enc (eI k) a)=true:=zbc0 _ (fun _=>rfl) _
@[go_sem] theorem eB.apure (a:Arr Bool n):zn2 (Arr.enc eB a)=true:=zbc0 _ (fun _=>rfl) _
end
class En (T:Type) where
 sz:Nat
 e:T→List A
 z:T
attribute [go_sem] En.sz En.e En.z
@[go_sem] abbrev bx {T:Type} [En T] (v:T):Row:=⟨false,En.sz T,En.e (En.z:T),[En.e v]⟩
@[go_sem] abbrev sx {T:Type} [En T] (v:List T):Row:=⟨false,En.sz T,En.e (En.z:T),v.map En.e⟩
@[go_sem] abbrev ga {T:Type} [En T] (v:T):A:=.agg (En.e v)
@[go_sem] abbrev la {T:Type} [En T] (v:List T):A:=.sl (v.map En.e)
section
variable {T:Type} {f:T→List A}
@[go_sem] theorem zdr0 {n:Nat} (h:∀ x,(f x).length=n) (l:List T):zM7 n (l.map f):=by intro c hc; obtain ⟨x,_,rfl⟩:=cH.1 hc; exact h x
@[go_sem] theorem zdj4 (h:∀ x,zn2 (f x)=true) (l:List T):zan2 (l.map f):=by intro c hc; obtain ⟨x,_,rfl⟩:=cH.1 hc; exact zaj4 (h x)
@[go_sem] theorem zdr1 (h:∀ x,zn2 (f x)=true) (l:List T):pureEs (l.map f)=true:=by induction l with
 | nil=>rfl
 | cons a l ih=>simp [Ab.pureEs,h,ih]
@[go_sem] theorem zdy1 (l:List T) (i:Nat) (z:T):(l.map f).getD i (f z)=f (l.getD i z):=by
 simp only [bV,cL]; cases l[i]? <;> rfl
@[go_sem] theorem zdy2 (l:List T) (x:T):l.map f++[f x]=(l++[x]).map f:=by simp
@[go_sem] theorem zdA0 (l:List T) (i:Nat) (x:T):(l.map f).set i (f x)=(l.set i x).map f:=by simp [kI]
end
@[ext] structure aI where
 name:ByteArray
 (kind aR home:Int)
 deriving DecidableEq
namespace aI
def zero:aI:=⟨⟨#[]⟩,0,0,0⟩
def enc (x:aI):List A:=[A.str x.name,A.int .i64 x.kind,A.int .i64 x.aR,A.int .i64 x.home]
@[go_sem] theorem len (x:aI):(enc x).length=4:=by simp [enc]
instance:En aI:=⟨4,enc,zero⟩
@[go_sem] theorem laws (x:aI) :
 zn2 (enc x)=true ∧
 zu6 (enc x)=true ∧
 zp0 [.s,.i .i64,.i .i64,.i .i64] (enc x)=true ∧
 sub (enc x) 0 4=enc x ∧
 (∀ y,upd (enc x) 0 (enc y)=enc y) ∧
 sub (enc x) 0 1=[A.str x.name] ∧
 sub (enc x) 1 1=[A.int .i64 x.kind] ∧
 sub (enc x) 2 1=[A.int .i64 x.aR] ∧
 sub (enc x) 3 1=[A.int .i64 x.home] ∧
 (∀ v,upd (enc x) 0 ([A.str v])=enc { x with name:=v }) ∧
 (∀ v,upd (enc x) 1 ([A.int .i64 v])=enc { x with kind:=v }) ∧
 (∀ v,upd (enc x) 2 ([A.int .i64 v])=enc { x with aR:=v }) ∧
 (∀ v,upd (enc x) 3 ([A.int .i64 v])=enc { x with home:=v }) ∧
 (∀ (c0 c1 c2 c3:A) (cs:List A),upd (c0 :: c1 :: c2 :: c3 :: cs) 0 (enc x)=A.str x.name :: A.int .i64 x.kind :: A.int .i64 x.aR :: A.int .i64 x.home :: cs) ∧
 (∀ (c0 c1 c2 c3:A),upd (enc x) 0 [c0,c1,c2,c3]=[c0,c1,c2,c3]):=by simp [sub,upd,zn2,A.pure1,zu6,A.scal1,zp0,LK.fits,eM,enc]
@[go_sem] theorem eq (x y:aI):eqA (enc x) (enc y)=decide (x=y):=by
 rw [dW]; simp [eqA,eq1,zaj5,fY,enc,aI.ext_iff]
end aI
@[ext] structure aK where
 (site inc num:Int)
 deriving DecidableEq
namespace aK
def zero:aK:=⟨0,0,0⟩
def enc (x:aK):List A:=[A.int .i64 x.site,A.int .i64 x.inc,A.int .i64 x.num]
@[go_sem] theorem len (x:aK):(enc x).length=3:=by simp [enc]
instance:En aK:=⟨3,enc,zero⟩
@[go_sem] theorem laws (x:aK) :
 zn2 (enc x)=true ∧
 zu6 (enc x)=true ∧
 zp0 [.i .i64,.i .i64,.i .i64] (enc x)=true ∧
 sub (enc x) 0 3=enc x ∧
 (∀ y,upd (enc x) 0 (enc y)=enc y) ∧
 sub (enc x) 0 1=[A.int .i64 x.site] ∧
 sub (enc x) 1 1=[A.int .i64 x.inc] ∧
 sub (enc x) 2 1=[A.int .i64 x.num] ∧
 (∀ v,upd (enc x) 0 ([A.int .i64 v])=enc { x with site:=v }) ∧
 (∀ v,upd (enc x) 1 ([A.int .i64 v])=enc { x with inc:=v }) ∧
 (∀ v,upd (enc x) 2 ([A.int .i64 v])=enc { x with num:=v }) ∧
 (∀ (c0 c1 c2:A) (cs:List A),upd (c0 :: c1 :: c2 :: cs) 0 (enc x)=A.int .i64 x.site :: A.int .i64 x.inc :: A.int .i64 x.num :: cs) ∧
 (∀ (c0 c1 c2:A),upd (enc x) 0 [c0,c1,c2]=[c0,c1,c2]):=by simp [sub,upd,zn2,A.pure1,zu6,A.scal1,zp0,LK.fits,eM,enc]
@[go_sem] theorem eq (x y:aK):eqA (enc x) (enc y)=decide (x=y):=by
 rw [dW]; simp [eqA,eq1,zaj5,fY,enc,aK.ext_iff]
@[go_sem] theorem rep (n:Nat) (x:aK):List.replicate n (enc x)=(List.replicate n x).map enc:=by simp
end aK
@[ext] structure aD where
 (mode aR:Int)
 deriving DecidableEq
namespace aD
def zero:aD:=⟨0,0⟩
def enc (x:aD):List A:=[A.int .i64 x.mode,A.int .i64 x.aR]
@[go_sem] theorem len (x:aD):(enc x).length=2:=by simp [enc]
instance:En aD:=⟨2,enc,zero⟩
@[go_sem] theorem laws (x:aD) :
 zn2 (enc x)=true ∧
 zu6 (enc x)=true ∧
 zp0 [.i .i64,.i .i64] (enc x)=true ∧
 sub (enc x) 0 2=enc x ∧
 (∀ y,upd (enc x) 0 (enc y)=enc y) ∧
 sub (enc x) 0 1=[A.int .i64 x.mode] ∧
 sub (enc x) 1 1=[A.int .i64 x.aR] ∧
 (∀ v,upd (enc x) 0 ([A.int .i64 v])=enc { x with mode:=v }) ∧
 (∀ v,upd (enc x) 1 ([A.int .i64 v])=enc { x with aR:=v }) ∧
 (∀ (c0 c1:A) (cs:List A),upd (c0 :: c1 :: cs) 0 (enc x)=A.int .i64 x.mode :: A.int .i64 x.aR :: cs) ∧
 (∀ (c0 c1:A),upd (enc x) 0 [c0,c1]=[c0,c1]):=by simp [sub,upd,zn2,A.pure1,zu6,A.scal1,zp0,LK.fits,eM,enc]
@[go_sem] theorem eq (x y:aD):eqA (enc x) (enc y)=decide (x=y):=by
 rw [dW]; simp [eqA,eq1,zaj5,fY,enc,aD.ext_iff]
end aD
@[ext] structure aV where
 aJ:aK
 aN:aD
 deriving DecidableEq
namespace aV
def zero:aV:=⟨aK.zero,aD.zero⟩
def enc (x:aV):List A:=aK.enc x.aJ++aD.enc x.aN
@[go_sem] theorem len (x:aV):(enc x).length=5:=by simp [enc,aD.len,aK.len]
instance:En aV:=⟨5,enc,zero⟩
@[go_sem] theorem laws (x:aV) :
 zn2 (enc x)=true ∧
 zu6 (enc x)=true ∧
 zp0 [.i .i64,.i .i64,.i .i64,.i .i64,.i .i64] (enc x)=true ∧
 sub (enc x) 0 5=enc x ∧
 (∀ y,upd (enc x) 0 (enc y)=enc y) ∧
 sub (enc x) 0 3=aK.enc x.aJ ∧
 sub (enc x) 3 2=aD.enc x.aN ∧
 sub (enc x) 3 1=[A.int .i64 x.aN.mode] ∧
 sub (enc x) 4 1=[A.int .i64 x.aN.aR] ∧
 (∀ v,upd (enc x) 0 (aK.enc v)=enc { x with aJ:=v }) ∧
 (∀ v,upd (enc x) 3 (aD.enc v)=enc { x with aN:=v }) ∧
 (∀ (c0 c1 c2 c3 c4:A) (cs:List A),upd (c0 :: c1 :: c2 :: c3 :: c4 :: cs) 0 (enc x)=A.int .i64 x.aJ.site :: A.int .i64 x.aJ.inc :: A.int .i64 x.aJ.num :: A.int .i64 x.aN.mode :: A.int .i64 x.aN.aR :: cs) ∧
 (∀ (c0 c1 c2 c3 c4:A),upd (enc x) 0 [c0,c1,c2,c3,c4]=[c0,c1,c2,c3,c4]):=by simp [sub,upd,zn2,A.pure1,zu6,A.scal1,zp0,LK.fits,eM,enc,aD.enc,aK.enc]
@[go_sem] theorem eq (x y:aV):eqA (enc x) (enc y)=decide (x=y):=by
 rw [dW]; simp [eqA,eq1,zaj5,fY,enc,aD.enc,aK.enc,aV.ext_iff,aD.ext_iff,aK.ext_iff]
@[go_sem] theorem rep (n:Nat) (x:aV):List.replicate n (enc x)=(List.replicate n x).map enc:=by simp
end aV
@[ext] structure aT where
 aJ:aK
 aN:aD
 (bC bR:Int)
 deriving DecidableEq
namespace aT
def zero:aT:=⟨aK.zero,aD.zero,0,0⟩
def enc (x:aT):List A:=aK.enc x.aJ++aD.enc x.aN++[A.int .i64 x.bC,A.int .i64 x.bR]
@[go_sem] theorem len (x:aT):(enc x).length=7:=by simp [enc,aD.len,aK.len]
instance:En aT:=⟨7,enc,zero⟩
@[go_sem] theorem laws (x:aT) :
 zn2 (enc x)=true ∧
 zu6 (enc x)=true ∧
 zp0 [.i .i64,.i .i64,.i .i64,.i .i64,.i .i64,.i .i64,.i .i64] (enc x)=true ∧
 sub (enc x) 0 7=enc x ∧
 (∀ y,upd (enc x) 0 (enc y)=enc y) ∧
 sub (enc x) 0 3=aK.enc x.aJ ∧
 sub (enc x) 3 2=aD.enc x.aN ∧
 sub (enc x) 3 1=[A.int .i64 x.aN.mode] ∧
 sub (enc x) 4 1=[A.int .i64 x.aN.aR] ∧
 sub (enc x) 5 1=[A.int .i64 x.bC] ∧
 sub (enc x) 6 1=[A.int .i64 x.bR] ∧
 (∀ v,upd (enc x) 0 (aK.enc v)=enc { x with aJ:=v }) ∧
 (∀ v,upd (enc x) 3 (aD.enc v)=enc { x with aN:=v }) ∧
 (∀ v,upd (enc x) 5 ([A.int .i64 v])=enc { x with bC:=v }) ∧
 (∀ v,upd (enc x) 6 ([A.int .i64 v])=enc { x with bR:=v }) ∧
 (∀ (c0 c1 c2 c3 c4 c5 c6:A) (cs:List A),upd (c0 :: c1 :: c2 :: c3 :: c4 :: c5 :: c6 :: cs) 0 (enc x)=A.int .i64 x.aJ.site :: A.int .i64 x.aJ.inc :: A.int .i64 x.aJ.num :: A.int .i64 x.aN.mode :: A.int .i64 x.aN.aR :: A.int .i64 x.bC :: A.int .i64 x.bR :: cs) ∧
 (∀ (c0 c1 c2 c3 c4 c5 c6:A),upd (enc x) 0 [c0,c1,c2,c3,c4,c5,c6]=[c0,c1,c2,c3,c4,c5,c6]):=by simp [sub,upd,zn2,A.pure1,zu6,A.scal1,zp0,LK.fits,eM,enc,aD.enc,aK.enc]
@[go_sem] theorem eq (x y:aT):eqA (enc x) (enc y)=decide (x=y):=by
 rw [dW]; simp [eqA,eq1,zaj5,fY,enc,aD.enc,aK.enc,aT.ext_iff,aD.ext_iff,aK.ext_iff]
end aT
@[ext] structure aA where
 aB:aI
 aQ:(List aV)
 (aO aS:(List aT))
 gen:Int
namespace aA
def zero:aA:=⟨aI.zero,[],[],[],0⟩
def enc (x:aA):List A:=aI.enc x.aB++[A.sl (x.aQ.map aV.enc),A.sl (x.aO.map aT.enc),A.sl (x.aS.map aT.enc),A.int .i64 x.gen]
@[go_sem] theorem len (x:aA):(enc x).length=8:=by simp [enc,aI.len]
instance:En aA:=⟨8,enc,zero⟩
@[go_sem] theorem laws (x:aA) :
 zn2 (enc x)=true ∧
 zu6 (enc x)=false ∧
 sub (enc x) 0 8=enc x ∧
 (∀ y,upd (enc x) 0 (enc y)=enc y) ∧
 sub (enc x) 0 4=aI.enc x.aB ∧
 sub (enc x) 0 1=[A.str x.aB.name] ∧
 sub (enc x) 1 1=[A.int .i64 x.aB.kind] ∧
 sub (enc x) 2 1=[A.int .i64 x.aB.aR] ∧
 sub (enc x) 3 1=[A.int .i64 x.aB.home] ∧
 sub (enc x) 4 1=[A.sl (x.aQ.map aV.enc)] ∧
 sub (enc x) 5 1=[A.sl (x.aO.map aT.enc)] ∧
 sub (enc x) 6 1=[A.sl (x.aS.map aT.enc)] ∧
 sub (enc x) 7 1=[A.int .i64 x.gen] ∧
 (∀ v,upd (enc x) 0 (aI.enc v)=enc { x with aB:=v }) ∧
 (∀ v,upd (enc x) 0 ([A.str v])=enc { x with aB:={ x.aB with name:=v } }) ∧
 (∀ v,upd (enc x) 1 ([A.int .i64 v])=enc { x with aB:={ x.aB with kind:=v } }) ∧
 (∀ v,upd (enc x) 2 ([A.int .i64 v])=enc { x with aB:={ x.aB with aR:=v } }) ∧
 (∀ v,upd (enc x) 3 ([A.int .i64 v])=enc { x with aB:={ x.aB with home:=v } }) ∧
 (∀ v,upd (enc x) 4 ([A.sl (v.map aV.enc)])=enc { x with aQ:=v }) ∧
 (∀ v,upd (enc x) 5 ([A.sl (v.map aT.enc)])=enc { x with aO:=v }) ∧
 (∀ v,upd (enc x) 6 ([A.sl (v.map aT.enc)])=enc { x with aS:=v }) ∧
 (∀ v,upd (enc x) 7 ([A.int .i64 v])=enc { x with gen:=v }) ∧
 (∀ (c0 c1 c2 c3 c4 c5 c6 c7:A) (cs:List A),upd (c0 :: c1 :: c2 :: c3 :: c4 :: c5 :: c6 :: c7 :: cs) 0 (enc x)=A.str x.aB.name :: A.int .i64 x.aB.kind :: A.int .i64 x.aB.aR :: A.int .i64 x.aB.home :: A.sl (x.aQ.map aV.enc) :: A.sl (x.aO.map aT.enc) :: A.sl (x.aS.map aT.enc) :: A.int .i64 x.gen :: cs) ∧
 (∀ (c0 c1 c2 c3 c4 c5 c6 c7:A),upd (enc x) 0 [c0,c1,c2,c3,c4,c5,c6,c7]=[c0,c1,c2,c3,c4,c5,c6,c7]) ∧
 (∀ y lo k,upd (enc x) 4 [.own y lo k]=[A.str x.aB.name,A.int .i64 x.aB.kind,A.int .i64 x.aB.aR,A.int .i64 x.aB.home,.own y lo k,A.sl (x.aO.map aT.enc),A.sl (x.aS.map aT.enc),A.int .i64 x.gen]) ∧
 (∀ y lo k,upd (enc x) 5 [.own y lo k]=[A.str x.aB.name,A.int .i64 x.aB.kind,A.int .i64 x.aB.aR,A.int .i64 x.aB.home,A.sl (x.aQ.map aV.enc),.own y lo k,A.sl (x.aS.map aT.enc),A.int .i64 x.gen]) ∧
 (∀ y lo k,upd (enc x) 6 [.own y lo k]=[A.str x.aB.name,A.int .i64 x.aB.kind,A.int .i64 x.aB.aR,A.int .i64 x.aB.home,A.sl (x.aQ.map aV.enc),A.sl (x.aO.map aT.enc),.own y lo k,A.int .i64 x.gen]):=by simp [sub,upd,zn2,A.pure1,zu6,A.scal1,zp0,LK.fits,eM,enc,aI.enc]
end aA
@[ext] structure aM where
 name:ByteArray
 aN:aD
 deriving DecidableEq
namespace aM
def zero:aM:=⟨⟨#[]⟩,aD.zero⟩
def enc (x:aM):List A:=[A.str x.name]++aD.enc x.aN
@[go_sem] theorem len (x:aM):(enc x).length=3:=by simp [enc,aD.len]
instance:En aM:=⟨3,enc,zero⟩
@[go_sem] theorem laws (x:aM) :
 zn2 (enc x)=true ∧
 zu6 (enc x)=true ∧
 zp0 [.s,.i .i64,.i .i64] (enc x)=true ∧
 sub (enc x) 0 3=enc x ∧
 (∀ y,upd (enc x) 0 (enc y)=enc y) ∧
 sub (enc x) 0 1=[A.str x.name] ∧
 sub (enc x) 1 2=aD.enc x.aN ∧
 sub (enc x) 1 1=[A.int .i64 x.aN.mode] ∧
 sub (enc x) 2 1=[A.int .i64 x.aN.aR] ∧
 (∀ v,upd (enc x) 0 ([A.str v])=enc { x with name:=v }) ∧
 (∀ v,upd (enc x) 1 (aD.enc v)=enc { x with aN:=v }) ∧
 (∀ (c0 c1 c2:A) (cs:List A),upd (c0 :: c1 :: c2 :: cs) 0 (enc x)=A.str x.name :: A.int .i64 x.aN.mode :: A.int .i64 x.aN.aR :: cs) ∧
 (∀ (c0 c1 c2:A),upd (enc x) 0 [c0,c1,c2]=[c0,c1,c2]):=by simp [sub,upd,zn2,A.pure1,zu6,A.scal1,zp0,LK.fits,eM,enc,aD.enc]
@[go_sem] theorem eq (x y:aM):eqA (enc x) (enc y)=decide (x=y):=by
 rw [dW]; simp [eqA,eq1,zaj5,fY,enc,aD.enc,aM.ext_iff,aD.ext_iff]
end aM
@[ext] structure aP where
 k:Int
 bF:aM
 bE:(List aP)
namespace aP
def zero:aP:=⟨0,aM.zero,[]⟩
def enc (x:aP):List A:=[A.int .i64 x.k]++aM.enc x.bF++[A.sl (x.bE.map aP.enc)]
termination_by _root_.SizeOf.sizeOf x
decreasing_by
 rename_i h
 have h2:=List.sizeOf_lt_of_mem h
 cases x
 simp at h2 ⊢
 omega
@[simp] theorem enc_mk (k:Int) (bF:aM) (bE:(List aP)):enc ⟨k,bF,bE⟩=[A.int .i64 k,A.str bF.name,A.int .i64 bF.aN.mode,A.int .i64 bF.aN.aR,A.sl (bE.map aP.enc)]:=by simp [enc,aD.enc,aM.enc]
@[simp] theorem zdZ2:zero.k=0∧zero.bF.name=⟨#[]⟩∧zero.bF.aN.mode=0∧zero.bF.aN.aR=0∧zero.bE=[]:=by and_intros <;> rfl
theorem enc_cells (x:aP):[A.int .i64 x.k,A.str x.bF.name,A.int .i64 x.bF.aN.mode,A.int .i64 x.bF.aN.aR,A.sl (x.bE.map aP.enc)]=enc x:=by simp [enc,aD.enc,aM.enc]
@[go_sem] theorem len (x:aP):(enc x).length=5:=by simp [enc,aM.len]
instance:En aP:=⟨5,enc,zero⟩
@[go_sem] theorem laws (x:aP) :
 zn2 (enc x)=true ∧
 zu6 (enc x)=false ∧
 sub (enc x) 0 5=enc x ∧
 (∀ y,upd (enc x) 0 (enc y)=enc y) ∧
 sub (enc x) 0 1=[A.int .i64 x.k] ∧
 sub (enc x) 1 3=aM.enc x.bF ∧
 sub (enc x) 1 1=[A.str x.bF.name] ∧
 sub (enc x) 2 2=aD.enc x.bF.aN ∧
 sub (enc x) 2 1=[A.int .i64 x.bF.aN.mode] ∧
 sub (enc x) 3 1=[A.int .i64 x.bF.aN.aR] ∧
 sub (enc x) 4 1=[A.sl (x.bE.map aP.enc)] ∧
 (∀ v,upd (enc x) 0 ([A.int .i64 v])=enc { x with k:=v }) ∧
 (∀ v,upd (enc x) 1 (aM.enc v)=enc { x with bF:=v }) ∧
 (∀ v,upd (enc x) 1 ([A.str v])=enc { x with bF:={ x.bF with name:=v } }) ∧
 (∀ v,upd (enc x) 2 (aD.enc v)=enc { x with bF:={ x.bF with aN:=v } }) ∧
 (∀ v,upd (enc x) 4 ([A.sl (v.map aP.enc)])=enc { x with bE:=v }) ∧
 (∀ (c0 c1 c2 c3 c4:A) (cs:List A),upd (c0 :: c1 :: c2 :: c3 :: c4 :: cs) 0 (enc x)=A.int .i64 x.k :: A.str x.bF.name :: A.int .i64 x.bF.aN.mode :: A.int .i64 x.bF.aN.aR :: A.sl (x.bE.map aP.enc) :: cs) ∧
 (∀ (c0 c1 c2 c3 c4:A),upd (enc x) 0 [c0,c1,c2,c3,c4]=[c0,c1,c2,c3,c4]) ∧
 (∀ y lo k,upd (enc x) 4 [.own y lo k]=[A.int .i64 x.k,A.str x.bF.name,A.int .i64 x.bF.aN.mode,A.int .i64 x.bF.aN.aR,.own y lo k]):=by simp [sub,upd,zn2,A.pure1,zu6,A.scal1,zp0,LK.fits,eM,enc,aD.enc,aM.enc]
end aP
@[ext] structure bI where
 aJ:aK
 bP:aP
 gen:Int
namespace bI
def zero:bI:=⟨aK.zero,aP.zero,0⟩
def enc (x:bI):List A:=aK.enc x.aJ++aP.enc x.bP++[A.int .i64 x.gen]
@[simp] theorem enc_mk (aJ:aK) (bP:aP) (gen:Int):enc ⟨aJ,bP,gen⟩=[A.int .i64 aJ.site,A.int .i64 aJ.inc,A.int .i64 aJ.num,A.int .i64 bP.k,A.str bP.bF.name,A.int .i64 bP.bF.aN.mode,A.int .i64 bP.bF.aN.aR,A.sl (bP.bE.map aP.enc),A.int .i64 gen]:=by simp [enc,aD.enc,aM.enc,aP.enc,aK.enc]
@[go_sem] theorem len (x:bI):(enc x).length=9:=by simp [enc,aP.len,aK.len]
instance:En bI:=⟨9,enc,zero⟩
@[go_sem] theorem laws (x:bI) :
 zn2 (enc x)=true ∧
 zu6 (enc x)=false ∧
 sub (enc x) 0 9=enc x ∧
 (∀ y,upd (enc x) 0 (enc y)=enc y) ∧
 sub (enc x) 0 3=aK.enc x.aJ ∧
 sub (enc x) 3 5=aP.enc x.bP ∧
 sub (enc x) 8 1=[A.int .i64 x.gen] ∧
 (∀ v,upd (enc x) 0 (aK.enc v)=enc { x with aJ:=v }) ∧
 (∀ v,upd (enc x) 3 (aP.enc v)=enc { x with bP:=v }) ∧
 (∀ v,upd (enc x) 8 ([A.int .i64 v])=enc { x with gen:=v }) ∧
 (∀ (c0 c1 c2 c3 c4 c5 c6 c7 c8:A),upd (enc x) 0 [c0,c1,c2,c3,c4,c5,c6,c7,c8]=[c0,c1,c2,c3,c4,c5,c6,c7,c8]):=by simp [sub,upd,zn2,A.pure1,zu6,A.scal1,zp0,LK.fits,eM,enc,aD.enc,aM.enc,aP.enc,aK.enc]
end bI
@[ext] structure aL where
 aC:(List aA)
 aU:(List bI)
namespace aL
def zero:aL:=⟨[],[]⟩
def enc (x:aL):List A:=[A.sl (x.aC.map aA.enc),A.sl (x.aU.map bI.enc)]
@[go_sem] theorem len (x:aL):(enc x).length=2:=by simp [enc]
instance:En aL:=⟨2,enc,zero⟩
@[go_sem] theorem laws (x:aL) :
 zn2 (enc x)=true ∧
 zu6 (enc x)=false ∧
 sub (enc x) 0 2=enc x ∧
 (∀ y,upd (enc x) 0 (enc y)=enc y) ∧
 sub (enc x) 0 1=[A.sl (x.aC.map aA.enc)] ∧
 sub (enc x) 1 1=[A.sl (x.aU.map bI.enc)] ∧
 (∀ v,upd (enc x) 0 ([A.sl (v.map aA.enc)])=enc { x with aC:=v }) ∧
 (∀ v,upd (enc x) 1 ([A.sl (v.map bI.enc)])=enc { x with aU:=v }) ∧
 (∀ (c0 c1:A) (cs:List A),upd (c0 :: c1 :: cs) 0 (enc x)=A.sl (x.aC.map aA.enc) :: A.sl (x.aU.map bI.enc) :: cs) ∧
 (∀ (c0 c1:A),upd (enc x) 0 [c0,c1]=[c0,c1]) ∧
 (∀ y lo k,upd (enc x) 0 [.own y lo k]=[.own y lo k,A.sl (x.aU.map bI.enc)]) ∧
 (∀ y lo k,upd (enc x) 1 [.own y lo k]=[A.sl (x.aC.map aA.enc),.own y lo k]):=by simp [sub,upd,zn2,A.pure1,zu6,A.scal1,zp0,LK.fits,eM,enc]
end aL
@[ext] structure bG where
 name:ByteArray
 (before after:aD)
 deriving DecidableEq
namespace bG
def zero:bG:=⟨⟨#[]⟩,aD.zero,aD.zero⟩
def enc (x:bG):List A:=[A.str x.name]++aD.enc x.before++aD.enc x.after
@[go_sem] theorem len (x:bG):(enc x).length=5:=by simp [enc,aD.len]
instance:En bG:=⟨5,enc,zero⟩
@[go_sem] theorem laws (x:bG) :
 zn2 (enc x)=true ∧
 zu6 (enc x)=true ∧
 zp0 [.s,.i .i64,.i .i64,.i .i64,.i .i64] (enc x)=true ∧
 sub (enc x) 0 5=enc x ∧
 (∀ y,upd (enc x) 0 (enc y)=enc y) ∧
 sub (enc x) 0 1=[A.str x.name] ∧
 sub (enc x) 1 2=aD.enc x.before ∧
 sub (enc x) 3 2=aD.enc x.after ∧
 (∀ v,upd (enc x) 0 ([A.str v])=enc { x with name:=v }) ∧
 (∀ v,upd (enc x) 1 (aD.enc v)=enc { x with before:=v }) ∧
 (∀ v,upd (enc x) 3 (aD.enc v)=enc { x with after:=v }) ∧
 (∀ (c0 c1 c2 c3 c4:A) (cs:List A),upd (c0 :: c1 :: c2 :: c3 :: c4 :: cs) 0 (enc x)=A.str x.name :: A.int .i64 x.before.mode :: A.int .i64 x.before.aR :: A.int .i64 x.after.mode :: A.int .i64 x.after.aR :: cs) ∧
 (∀ (c0 c1 c2 c3 c4:A),upd (enc x) 0 [c0,c1,c2,c3,c4]=[c0,c1,c2,c3,c4]):=by simp [sub,upd,zn2,A.pure1,zu6,A.scal1,zp0,LK.fits,eM,enc,aD.enc]
end bG
@[ext] structure bN where
 (label at_:Int)
 deriving DecidableEq
namespace bN
def zero:bN:=⟨0,0⟩
def enc (x:bN):List A:=[A.int .i64 x.label,A.int .i64 x.at_]
@[go_sem] theorem len (x:bN):(enc x).length=2:=by simp [enc]
instance:En bN:=⟨2,enc,zero⟩
@[go_sem] theorem laws (x:bN) :
 zn2 (enc x)=true ∧
 zu6 (enc x)=true ∧
 zp0 [.i .i64,.i .i64] (enc x)=true ∧
 sub (enc x) 0 2=enc x ∧
 (∀ y,upd (enc x) 0 (enc y)=enc y) ∧
 sub (enc x) 0 1=[A.int .i64 x.label] ∧
 sub (enc x) 1 1=[A.int .i64 x.at_] ∧
 (∀ v,upd (enc x) 0 ([A.int .i64 v])=enc { x with label:=v }) ∧
 (∀ v,upd (enc x) 1 ([A.int .i64 v])=enc { x with at_:=v }) ∧
 (∀ (c0 c1:A) (cs:List A),upd (c0 :: c1 :: cs) 0 (enc x)=A.int .i64 x.label :: A.int .i64 x.at_ :: cs) ∧
 (∀ (c0 c1:A),upd (enc x) 0 [c0,c1]=[c0,c1]):=by simp [sub,upd,zn2,A.pure1,zu6,A.scal1,zp0,LK.fits,eM,enc]
end bN
@[ext] structure aW where
 aH:(List bG)
 aY:(List bN)
namespace aW
def zero:aW:=⟨[],[]⟩
def enc (x:aW):List A:=[A.sl (x.aH.map bG.enc),A.sl (x.aY.map bN.enc)]
@[go_sem] theorem len (x:aW):(enc x).length=2:=by simp [enc]
instance:En aW:=⟨2,enc,zero⟩
@[go_sem] theorem laws (x:aW) :
 zn2 (enc x)=true ∧
 zu6 (enc x)=false ∧
 sub (enc x) 0 2=enc x ∧
 (∀ y,upd (enc x) 0 (enc y)=enc y) ∧
 sub (enc x) 0 1=[A.sl (x.aH.map bG.enc)] ∧
 sub (enc x) 1 1=[A.sl (x.aY.map bN.enc)] ∧
 (∀ v,upd (enc x) 0 ([A.sl (v.map bG.enc)])=enc { x with aH:=v }) ∧
 (∀ v,upd (enc x) 1 ([A.sl (v.map bN.enc)])=enc { x with aY:=v }) ∧
 (∀ (c0 c1:A) (cs:List A),upd (c0 :: c1 :: cs) 0 (enc x)=A.sl (x.aH.map bG.enc) :: A.sl (x.aY.map bN.enc) :: cs) ∧
 (∀ (c0 c1:A),upd (enc x) 0 [c0,c1]=[c0,c1]) ∧
 (∀ y lo k,upd (enc x) 0 [.own y lo k]=[.own y lo k,A.sl (x.aY.map bN.enc)]) ∧
 (∀ y lo k,upd (enc x) 1 [.own y lo k]=[A.sl (x.aH.map bG.enc),.own y lo k]):=by simp [sub,upd,zn2,A.pure1,zu6,A.scal1,zp0,LK.fits,eM,enc]
end aW
@[ext] structure bK where
 bP:aP
 (bC limit:Int)
namespace bK
def zero:bK:=⟨aP.zero,0,0⟩
def enc (x:bK):List A:=aP.enc x.bP++[A.int .i64 x.bC,A.int .i64 x.limit]
@[go_sem] theorem len (x:bK):(enc x).length=7:=by simp [enc,aP.len]
instance:En bK:=⟨7,enc,zero⟩
@[go_sem] theorem laws (x:bK) :
 zn2 (enc x)=true ∧
 zu6 (enc x)=false ∧
 sub (enc x) 0 7=enc x ∧
 (∀ y,upd (enc x) 0 (enc y)=enc y) ∧
 sub (enc x) 0 5=aP.enc x.bP ∧
 sub (enc x) 5 1=[A.int .i64 x.bC] ∧
 sub (enc x) 6 1=[A.int .i64 x.limit] ∧
 (∀ v,upd (enc x) 0 (aP.enc v)=enc { x with bP:=v }) ∧
 (∀ v,upd (enc x) 5 ([A.int .i64 v])=enc { x with bC:=v }) ∧
 (∀ v,upd (enc x) 6 ([A.int .i64 v])=enc { x with limit:=v }) ∧
 (∀ (c0 c1 c2 c3 c4 c5 c6:A) (cs:List A),upd (c0 :: c1 :: c2 :: c3 :: c4 :: c5 :: c6 :: cs) 0 (enc x)=A.int .i64 x.bP.k :: A.str x.bP.bF.name :: A.int .i64 x.bP.bF.aN.mode :: A.int .i64 x.bP.bF.aN.aR :: A.sl (x.bP.bE.map aP.enc) :: A.int .i64 x.bC :: A.int .i64 x.limit :: cs) ∧
 (∀ (c0 c1 c2 c3 c4 c5 c6:A),upd (enc x) 0 [c0,c1,c2,c3,c4,c5,c6]=[c0,c1,c2,c3,c4,c5,c6]):=by simp [sub,upd,zn2,A.pure1,zu6,A.scal1,zp0,LK.fits,eM,enc,aD.enc,aM.enc,aP.enc]
end bK
@[ext] structure aG where
 aJ:aK
 cost:Int
 bB:aW
 bH:Bool
 aZ:bK
 (since gen:Int)
namespace aG
def zero:aG:=⟨aK.zero,0,aW.zero,false,bK.zero,0,0⟩
def enc (x:aG):List A:=aK.enc x.aJ++[A.int .i64 x.cost]++aW.enc x.bB++[A.bool x.bH]++bK.enc x.aZ++[A.int .i64 x.since,A.int .i64 x.gen]
@[go_sem] theorem len (x:aG):(enc x).length=16:=by simp [enc,aW.len,aK.len,bK.len]
instance:En aG:=⟨16,enc,zero⟩
@[go_sem] theorem laws (x:aG) :
 zn2 (enc x)=true ∧
 zu6 (enc x)=false ∧
 sub (enc x) 0 16=enc x ∧
 (∀ y,upd (enc x) 0 (enc y)=enc y) ∧
 sub (enc x) 0 3=aK.enc x.aJ ∧
 sub (enc x) 3 1=[A.int .i64 x.cost] ∧
 sub (enc x) 4 2=aW.enc x.bB ∧
 sub (enc x) 4 1=[A.sl (x.bB.aH.map bG.enc)] ∧
 sub (enc x) 6 1=[A.bool x.bH] ∧
 sub (enc x) 7 7=bK.enc x.aZ ∧
 sub (enc x) 7 5=aP.enc x.aZ.bP ∧
 sub (enc x) 12 1=[A.int .i64 x.aZ.bC] ∧
 sub (enc x) 13 1=[A.int .i64 x.aZ.limit] ∧
 sub (enc x) 14 1=[A.int .i64 x.since] ∧
 sub (enc x) 15 1=[A.int .i64 x.gen] ∧
 (∀ v,upd (enc x) 0 (aK.enc v)=enc { x with aJ:=v }) ∧
 (∀ v,upd (enc x) 3 ([A.int .i64 v])=enc { x with cost:=v }) ∧
 (∀ v,upd (enc x) 4 (aW.enc v)=enc { x with bB:=v }) ∧
 (∀ v,upd (enc x) 6 ([A.bool v])=enc { x with bH:=v }) ∧
 (∀ v,upd (enc x) 7 (bK.enc v)=enc { x with aZ:=v }) ∧
 (∀ v,upd (enc x) 14 ([A.int .i64 v])=enc { x with since:=v }) ∧
 (∀ v,upd (enc x) 15 ([A.int .i64 v])=enc { x with gen:=v }) ∧
 (∀ (c0 c1 c2 c3 c4 c5 c6 c7 c8 c9 c10 c11 c12 c13 c14 c15:A),upd (enc x) 0 [c0,c1,c2,c3,c4,c5,c6,c7,c8,c9,c10,c11,c12,c13,c14,c15]=[c0,c1,c2,c3,c4,c5,c6,c7,c8,c9,c10,c11,c12,c13,c14,c15]):=by simp [sub,upd,zn2,A.pure1,zu6,A.scal1,zp0,LK.fits,eM,enc,aD.enc,aM.enc,aP.enc,aW.enc,aK.enc,bK.enc]
end aG
@[ext] structure bA where
 now:Int
 aC:(List aA)
 aF:(List aG)
namespace bA
def zero:bA:=⟨0,[],[]⟩
def enc (x:bA):List A:=[A.int .i64 x.now,A.sl (x.aC.map aA.enc),A.sl (x.aF.map aG.enc)]
@[go_sem] theorem len (x:bA):(enc x).length=3:=by simp [enc]
instance:En bA:=⟨3,enc,zero⟩
@[go_sem] theorem laws (x:bA) :
 zn2 (enc x)=true ∧
 zu6 (enc x)=false ∧
 sub (enc x) 0 3=enc x ∧
 (∀ y,upd (enc x) 0 (enc y)=enc y) ∧
 sub (enc x) 0 1=[A.int .i64 x.now] ∧
 sub (enc x) 1 1=[A.sl (x.aC.map aA.enc)] ∧
 sub (enc x) 2 1=[A.sl (x.aF.map aG.enc)] ∧
 (∀ v,upd (enc x) 0 ([A.int .i64 v])=enc { x with now:=v }) ∧
 (∀ v,upd (enc x) 1 ([A.sl (v.map aA.enc)])=enc { x with aC:=v }) ∧
 (∀ v,upd (enc x) 2 ([A.sl (v.map aG.enc)])=enc { x with aF:=v }) ∧
 (∀ (c0 c1 c2:A) (cs:List A),upd (c0 :: c1 :: c2 :: cs) 0 (enc x)=A.int .i64 x.now :: A.sl (x.aC.map aA.enc) :: A.sl (x.aF.map aG.enc) :: cs) ∧
 (∀ (c0 c1 c2:A),upd (enc x) 0 [c0,c1,c2]=[c0,c1,c2]) ∧
 (∀ y lo k,upd (enc x) 1 [.own y lo k]=[A.int .i64 x.now,.own y lo k,A.sl (x.aF.map aG.enc)]) ∧
 (∀ y lo k,upd (enc x) 2 [.own y lo k]=[A.int .i64 x.now,A.sl (x.aC.map aA.enc),.own y lo k]):=by simp [sub,upd,zn2,A.pure1,zu6,A.scal1,zp0,LK.fits,eM,enc]
end bA
@[ext] structure bQ where
 rest:(List Int)
 err:Int
namespace bQ
def zero:bQ:=⟨[],0⟩
def enc (x:bQ):List A:=[A.sl (x.rest.map (eI .u8)),A.int .i64 x.err]
@[go_sem] theorem len (x:bQ):(enc x).length=2:=by simp [enc]
instance:En bQ:=⟨2,enc,zero⟩
@[go_sem] theorem laws (x:bQ) :
 zn2 (enc x)=true ∧
 zu6 (enc x)=false ∧
 sub (enc x) 0 2=enc x ∧
 (∀ y,upd (enc x) 0 (enc y)=enc y) ∧
 sub (enc x) 0 1=[A.sl (x.rest.map (eI .u8))] ∧
 sub (enc x) 1 1=[A.int .i64 x.err] ∧
 (∀ v,upd (enc x) 0 ([A.sl (v.map (eI .u8))])=enc { x with rest:=v }) ∧
 (∀ v,upd (enc x) 1 ([A.int .i64 v])=enc { x with err:=v }) ∧
 (∀ (c0 c1:A) (cs:List A),upd (c0 :: c1 :: cs) 0 (enc x)=A.sl (x.rest.map (eI .u8)) :: A.int .i64 x.err :: cs) ∧
 (∀ (c0 c1:A),upd (enc x) 0 [c0,c1]=[c0,c1]) ∧
 (∀ y lo k,upd (enc x) 0 [.own y lo k]=[.own y lo k,A.int .i64 x.err]):=by simp [sub,upd,zn2,A.pure1,zu6,A.scal1,zp0,LK.fits,eM,enc]
end bQ
@[ext] structure bD where
 bO:bQ
namespace bD
def zero:bD:=⟨bQ.zero⟩
def enc (x:bD):List A:=bQ.enc x.bO
@[go_sem] theorem len (x:bD):(enc x).length=2:=by simp [enc,bQ.len]
instance:En bD:=⟨2,enc,zero⟩
@[go_sem] theorem laws (x:bD) :
 zn2 (enc x)=true ∧
 zu6 (enc x)=false ∧
 sub (enc x) 0 2=enc x ∧
 (∀ y,upd (enc x) 0 (enc y)=enc y) ∧
 sub (enc x) 0 1=[A.sl (x.bO.rest.map (eI .u8))] ∧
 sub (enc x) 1 1=[A.int .i64 x.bO.err] ∧
 (∀ v,upd (enc x) 1 ([A.int .i64 v])=enc { x with bO:={ x.bO with err:=v } }) ∧
 (∀ (c0 c1:A) (cs:List A),upd (c0 :: c1 :: cs) 0 (enc x)=A.sl (x.bO.rest.map (eI .u8)) :: A.int .i64 x.bO.err :: cs) ∧
 (∀ (c0 c1:A),upd (enc x) 0 [c0,c1]=[c0,c1]):=by simp [sub,upd,zn2,A.pure1,zu6,A.scal1,zp0,LK.fits,eM,enc,bQ.enc]
end bD
@[ext] structure bL where
 l:(List Int)
 at_:Int
namespace bL
def zero:bL:=⟨[],0⟩
def enc (x:bL):List A:=[A.sl (x.l.map (eI .i64)),A.int .i64 x.at_]
@[go_sem] theorem len (x:bL):(enc x).length=2:=by simp [enc]
instance:En bL:=⟨2,enc,zero⟩
@[go_sem] theorem laws (x:bL) :
 zn2 (enc x)=true ∧
 zu6 (enc x)=false ∧
 sub (enc x) 0 2=enc x ∧
 (∀ y,upd (enc x) 0 (enc y)=enc y) ∧
 sub (enc x) 0 1=[A.sl (x.l.map (eI .i64))] ∧
 sub (enc x) 1 1=[A.int .i64 x.at_] ∧
 (∀ v,upd (enc x) 0 ([A.sl (v.map (eI .i64))])=enc { x with l:=v }) ∧
 (∀ v,upd (enc x) 1 ([A.int .i64 v])=enc { x with at_:=v }) ∧
 (∀ (c0 c1:A) (cs:List A),upd (c0 :: c1 :: cs) 0 (enc x)=A.sl (x.l.map (eI .i64)) :: A.int .i64 x.at_ :: cs) ∧
 (∀ (c0 c1:A),upd (enc x) 0 [c0,c1]=[c0,c1]) ∧
 (∀ y lo k,upd (enc x) 0 [.own y lo k]=[.own y lo k,A.int .i64 x.at_]):=by simp [sub,upd,zn2,A.pure1,zu6,A.scal1,zp0,LK.fits,eM,enc]
end bL
@[ext] structure bM where
 kind:Int
 aJ:aK
 aZ:bK
 name:ByteArray
 n:Int
namespace bM
def zero:bM:=⟨0,aK.zero,bK.zero,⟨#[]⟩,0⟩
def enc (x:bM):List A:=[A.int .i64 x.kind]++aK.enc x.aJ++bK.enc x.aZ++[A.str x.name,A.int .i64 x.n]
@[go_sem] theorem len (x:bM):(enc x).length=13:=by simp [enc,aK.len,bK.len]
instance:En bM:=⟨13,enc,zero⟩
@[go_sem] theorem laws (x:bM) :
 zn2 (enc x)=true ∧
 zu6 (enc x)=false ∧
 sub (enc x) 0 13=enc x ∧
 (∀ y,upd (enc x) 0 (enc y)=enc y) ∧
 sub (enc x) 0 1=[A.int .i64 x.kind] ∧
 sub (enc x) 1 3=aK.enc x.aJ ∧
 sub (enc x) 4 7=bK.enc x.aZ ∧
 sub (enc x) 11 1=[A.str x.name] ∧
 sub (enc x) 12 1=[A.int .i64 x.n] ∧
 (∀ v,upd (enc x) 0 ([A.int .i64 v])=enc { x with kind:=v }) ∧
 (∀ v,upd (enc x) 1 (aK.enc v)=enc { x with aJ:=v }) ∧
 (∀ v,upd (enc x) 4 (bK.enc v)=enc { x with aZ:=v }) ∧
 (∀ v,upd (enc x) 11 ([A.str v])=enc { x with name:=v }) ∧
 (∀ v,upd (enc x) 12 ([A.int .i64 v])=enc { x with n:=v }) ∧
 (∀ (c0 c1 c2 c3 c4 c5 c6 c7 c8 c9 c10 c11 c12:A),upd (enc x) 0 [c0,c1,c2,c3,c4,c5,c6,c7,c8,c9,c10,c11,c12]=[c0,c1,c2,c3,c4,c5,c6,c7,c8,c9,c10,c11,c12]):=by simp [sub,upd,zn2,A.pure1,zu6,A.scal1,zp0,LK.fits,eM,enc,aD.enc,aM.enc,aP.enc,aK.enc,bK.enc]
end bM
@[ext] structure bJ where
 kind:Int
 aJ:aK
 name:ByteArray
 aN:aD
 deriving DecidableEq
namespace bJ
def zero:bJ:=⟨0,aK.zero,⟨#[]⟩,aD.zero⟩
def enc (x:bJ):List A:=[A.int .i64 x.kind]++aK.enc x.aJ++[A.str x.name]++aD.enc x.aN
@[go_sem] theorem len (x:bJ):(enc x).length=7:=by simp [enc,aD.len,aK.len]
instance:En bJ:=⟨7,enc,zero⟩
@[go_sem] theorem laws (x:bJ) :
 zn2 (enc x)=true ∧
 zu6 (enc x)=true ∧
 zp0 [.i .i64,.i .i64,.i .i64,.i .i64,.s,.i .i64,.i .i64] (enc x)=true ∧
 sub (enc x) 0 7=enc x ∧
 (∀ y,upd (enc x) 0 (enc y)=enc y) ∧
 (∀ v,upd (enc x) 0 ([A.int .i64 v])=enc { x with kind:=v }) ∧
 (∀ v,upd (enc x) 1 (aK.enc v)=enc { x with aJ:=v }) ∧
 (∀ v,upd (enc x) 4 ([A.str v])=enc { x with name:=v }) ∧
 (∀ v,upd (enc x) 5 (aD.enc v)=enc { x with aN:=v }) ∧
 (∀ (c0 c1 c2 c3 c4 c5 c6:A) (cs:List A),upd (c0 :: c1 :: c2 :: c3 :: c4 :: c5 :: c6 :: cs) 0 (enc x)=A.int .i64 x.kind :: A.int .i64 x.aJ.site :: A.int .i64 x.aJ.inc :: A.int .i64 x.aJ.num :: A.str x.name :: A.int .i64 x.aN.mode :: A.int .i64 x.aN.aR :: cs) ∧
 (∀ (c0 c1 c2 c3 c4 c5 c6:A),upd (enc x) 0 [c0,c1,c2,c3,c4,c5,c6]=[c0,c1,c2,c3,c4,c5,c6]):=by simp [sub,upd,zn2,A.pure1,zu6,A.scal1,zp0,LK.fits,eM,enc,aD.enc,aK.enc]
end bJ
@[ext] structure aX where
 c:bA
 ev:(List bJ)
namespace aX
def zero:aX:=⟨bA.zero,[]⟩
def enc (x:aX):List A:=bA.enc x.c++[A.sl (x.ev.map bJ.enc)]
instance:En aX:=⟨4,enc,zero⟩
end aX
attribute [simp] aP.enc_cells
def zaQ6:A→List Nat
 | .own x _ _=>[x]
 | .ptr x _ _=>[x]
 | _=>[]
def zbk5:A→List Nat
 | .clo _ cs=>cs.flatMap zaQ6
 | a=>zaQ6 a
def idsA:A→List Nat
 | .agg cs=>if zn2 cs then [] else cs.flatMap zbk5
 | a=>zbk5 a
def zB7:List A→List Nat
 | []=>[]
 | x :: xs=>idsA x++zB7 xs
def disj:List Nat→List Nat→Bool
 | [],_=>true
 | x :: xs,ys=>!ys.contains x&&disj xs ys
def zaY0 (an:List Nat) (i:Nat):List (List Nat×List Nat)→List Nat→List Nat→Bool
 | [],_,_=>true
 | q :: log,r,w=>(an.contains i||(disj q.2 r&&disj q.2 w&&disj w q.1))&&zaY0 an (i+1) log r w
def A.flatCap:A→Bool
 | .agg _=>false
 | .clo _ cs=>cs.isEmpty
 | _=>true
def zbc1:List A→Bool
 | []=>true
 | c :: cs=>c.flatCap&&zbc1 cs
def zaV6:List A→Bool
 | .clo _ caps :: _=>zbc1 caps
 | _=>true
theorem zbA2:∀ {cs:List A},zbc1 cs=true→∀ c ∈ cs,idsA c=zaQ6 c
 | d :: ds,h,c,hc=>by
  simp only [zbc1,bS] at h
  rcases cE.1 hc with rfl|hc
  ·cases c <;> first|rfl|(simp [A.flatCap] at h; done)|skip
   rename_i f cs
   cases cs with
   | nil=>rfl
   | cons x xs=>simp [A.flatCap] at h
  ·exact zbA2 h.2 c hc
def zax0 (C:Cx) (an:List (List Nat)):List POp→St→List (List Nat×List Nat)→(St→Prop)→Prop
 | [],st,_,K=>K st
 | p :: ps,st,log,K=>aopS C p st.toS st.nx fun v mw=>zaY0 (an.getD log.length []) 0 log (zB7 (zs5 C st p.xs)) (mw.map (·.1))=true∧zaV6 (zs5 C st p.xs)=true ∧
   zax0 C an ps (st.app p.dst v mw) (log++[(zB7 (zs5 C st p.xs),mw.map (·.1))]) K
section
variable {C:Cx} {E:Env}
theorem zcT7 {p:POp} {s:S} {id:Nat} {K:A→List (Nat×MS)→Prop} (h:aopS C p s id K):∃ v mw,K v mw∧aopS C p s id (fun v' mw'=>v'=v∧mw'=mw):=by
 unfold aopS at h ⊢
 cases hg:zM9 s.fr p.g with
 | none=>simp [hg] at h
 | some g =>
  simp only [hg] at h ⊢
  cases hp:p.po <;> simp only [hp] at h ⊢
  case pick =>
   split at h
   ·split at h
    ·exact ⟨_,_,h.2,h.1,rfl,rfl⟩
    ·exact h.elim
   ·exact h.elim
  case call f =>
   obtain ⟨r,h1,h2,h3⟩:=h
   exact ⟨_,_,h3,r,h1,h2,rfl,rfl⟩
  case callv =>
   split at h
   ·obtain ⟨r,h1,h2,h3⟩:=h
    exact ⟨_,_,h3,r,h1,h2,rfl,rfl⟩
   ·exact h.elim
  case callm f =>
   obtain ⟨l,as,ms,k,r,ms',k',h1,h2,h3,h4,h5⟩:=h
   exact ⟨_,_,h5,l,as,ms,k,r,ms',k',h1,h2,h3,h4,rfl,rfl⟩
  case callvm =>
   split at h
   ·obtain ⟨l,as,ms,k,r,ms',k',h1,h2,h3,h4,h5⟩:=h
    exact ⟨_,_,h5,l,as,ms,k,r,ms',k',h1,h2,h3,h4,rfl,rfl⟩
   ·exact h.elim
  all_goals
   split at h
   ·exact ⟨_,_,h.2.2,h.1,h.2.1,rfl,rfl⟩
   ·exact ⟨_,_,h.2.2,h.1,h.2.1,rfl,rfl⟩
theorem zdj5 {p:POp} {st:St} {K:A→List (Nat×MS)→Prop} (h:aopS C p st.toS st.nx K):aopS C p st.toS st.nx (fun v mw=>mwOk st.nx mw∧K v mw):=by
 unfold aopS at h ⊢
 simp only [St.toS] at h ⊢
 cases hg:zM9 st.slot p.g with
 | none=>simp [hg] at h
 | some g =>
  simp only [hg] at h ⊢
  cases hp:p.po <;> simp only [hp] at h ⊢
  case pick =>
   split at h
   ·split at h
    ·exact ⟨h.1,trivial,h.2⟩
    ·exact h.elim
   ·exact h.elim
  case call f =>
   obtain ⟨r,h1,h2,h3⟩:=h
   exact ⟨r,h1,h2,zbh1 st _ _,h3⟩
  case callv =>
   split at h
   ·obtain ⟨r,h1,h2,h3⟩:=h
    exact ⟨r,h1,h2,zbh1 st _ _,h3⟩
   ·exact h.elim
  case callm f=>exact zbE9 h
  case callvm =>
   split at h
   ·exact zbE9 h
   ·exact h.elim
  all_goals
   split at h
   ·rename_i ef hev
    obtain ⟨h1,h2,h3⟩:=h
    exact ⟨h1,h2,zcB8 hev,h3⟩
   ·exact ⟨h.1,h.2.1,trivial,h.2.2⟩
theorem zaV7 {m m2:Nat→MS} {x:A} (h:∀ y ∈ zbk5 x,m y=m2 y):frz1 m x=frz1 m2 x∧(zat6 m x ↔ zat6 m2 x):=by
 cases x <;> first|exact ⟨rfl,kH⟩|skip
 rename_i y lo n
 have:=h y (by simp [zbk5,zaQ6])
 simp only [frz1,zat6,this,cX]
theorem zbI5 {x:A}:∀ y ∈ zat7 x,y ∈ idsA x:=by
 cases x <;> intro y hy <;> first|(simp [zat7,zO3] at hy; done)|skip
 ·rename_i z lo n; simpa [zat7,zO3,idsA,zbk5,zaQ6] using hy
 ·rename_i cs
  simp only [zat7,idsA] at hy ⊢
  split at hy
  ·cases hy
  ·rename_i hp
   rw [bT hp]
   obtain ⟨c,hc,hy⟩:=fM.1 hy
   refine fM.2 ⟨c,hc,?_⟩
   cases c <;> simp [zO3] at hy
   subst hy; simp [zbk5,zaQ6]
theorem zbW6 {m m2:Nat→MS} {x:A} (h:∀ y ∈ idsA x,m y=m2 y):frz m x=frz m2 x∧(zaC4 m x ↔ zaC4 m2 x):=by
 cases x with
 | agg cs =>
  simp only [frz,zaC4]
  split
  ·exact ⟨rfl,kH⟩
  ·rename_i hp
   simp only [idsA,bT hp] at h
   have h2:∀ c ∈ cs,∀ y ∈ zbk5 c,m y=m2 y:=fun c hc y hy=>h y (fM.2 ⟨c,hc,hy⟩)
   exact ⟨by rw [jL fun c hc=>(zaV7 (h2 c hc)).1],⟨fun hh c hc=>(zaV7 (h2 c hc)).2.1 (hh c hc),fun hh c hc=>(zaV7 (h2 c hc)).2.2 (hh c hc)⟩⟩
 | own x lo n=>exact zaV7 (x:=.own x lo n) h
 | _=>exact ⟨rfl,kH⟩
theorem zaV8 {m m2:Nat→MS}:∀ {xs:List A},(∀ y ∈ zB7 xs,m y=m2 y)→zO8 m xs=zO8 m2 xs∧(zE9 m xs ↔ zE9 m2 xs)
 | [],_=>⟨rfl,kH⟩
 | x :: xs,h=>by
  obtain ⟨h1,h2⟩:=zbW6 (x:=x) fun y hy=>h y (dE _ hy)
  obtain ⟨h3,h4⟩:=zaV8 (xs:=xs) fun y hy=>h y (cV _ hy)
  simp only [zO8,zE9,h1,h2,h3,h4,cX]
theorem zaN0 {m m2:Nat→MS}:∀ {xs:List Nat},(∀ y ∈ xs,m y=m2 y)→zQ1 m xs=zQ1 m2 xs
 | [],_=>rfl
 | x :: xs,h=>by simp only [zQ1,h x (.head _),zaN0 fun y hy=>h y (.tail _ hy)]
theorem zaP1:∀ {xs:List A},∀ y ∈ zF0 xs,y ∈ zB7 xs
 | x :: xs,y,hy=>by
  rcases cI.1 hy with h|h
  ·exact dE _ (zbI5 y h)
  ·exact cV _ (zaP1 y h)
theorem zcC8:∀ {vs as:List A},∀ y ∈ fzM vs as,y ∈ zB7 vs
 | v :: vs,a :: as,y,hy=>by
  rcases cI.1 hy with h|h
  ·split at h
   ·cases h
   ·exact dE _ (zbI5 y h)
  ·exact cV _ (zcC8 y h)
 | [],[],y,hy=>by cases hy
 | _ :: _,[],y,hy=>by cases hy
 | [],_ :: _,y,hy=>by cases hy
theorem zbA3 {m m2:Nat→MS} {l:List (Nat×Nat)} {k:Nat}:∀ {vs as:List A},(∀ y ∈ zB7 vs,m y=m2 y)→zbr1 m l k vs as→zbr1 m2 l k vs as
 | v :: vs,a :: as,h,h1=>by
  refine ⟨?_,zbA3 (fun y hy=>h y (cV _ hy)) h1.2⟩
  obtain ⟨h3,h4⟩:=zbW6 (x:=v) fun y hy=>h y (dE _ hy)
  have h2:=h1.1
  unfold argM at h2 ⊢
  split
  ·rename_i hh; rw [bW hh] at h2; exact h2
  ·rename_i hh; rw [bT hh] at h2; exact ⟨h4.1 h2.1,h3 ▸ h2.2⟩
 | [],[],_,_=>trivial
 | _ :: _,[],_,h=>h.elim
 | [],_ :: _,_,h=>h.elim
theorem zbA4 {m m2:Nat→MS} {l:List (Nat×Nat)} {k:Nat} {fz:List Nat}:∀ {ms:List (Nat×Row)},(∀ q ∈ ms,m (rho l q.1)=m2 (rho l q.1))→zbV4 m l k fz ms→zbV4 m2 l k fz ms
 | [],_,_=>trivial
 | q :: ms,h,h1=>by
  obtain ⟨h2,h3,h4,h5,h6,h7⟩:=h1
  exact ⟨by rw [← h q (.head _)]; exact h2,h3,h4,h5,h6,zbA4 (fun p hp=>h p (.tail _ hp)) h7⟩
theorem zbn2 {L:List (Nat×Nat)} {ms':List (Nat×Row)}:∀ {ids:List Nat},∀ x ∈ ids,rho L x ∈ (zac0 L ms' ids).map (·.1)
 | y :: ids,x,h=>by
  rcases cE.1 h with rfl|h
  ·exact .head _
  ·exact .tail _ (zbn2 x h)
theorem zbA5 {m m2:Nat→MS}:∀ {mw:List (Nat×MS)},(∀ y ∈ mw.map (·.1),m y=m2 y)→zbr2 m mw→zbr2 m2 mw
 | [],_,_=>trivial
 | q :: r,h,⟨h1,h3⟩=>⟨by rw [← h q.1 (.head _)]; exact h1,zbA5 (fun y hy=>h y (.tail _ hy)) h3⟩
theorem zbA6 {f:FuncId} {m m2:Nat→MS} {id:Nat} {vals:List A} {og:Option (Nat×Bool)} {g:Bool} {ob:Prop} {v:A} {mw:List (Nat×MS)} (h1:∀ y ∈ zB7 vals,m y=m2 y) (h2:∀ y ∈ mw.map (·.1),m y=m2 y)
  (h:zaM6 C m id f vals og g ob (fun n=>∀ x,id≤x→x < id+n→m x=.fresh) (fun v' mw'=>v'=v∧mw'=mw)) :
  zaM6 C m2 id f vals og g ob (fun n=>∀ x,id≤x→x < id+n→m2 x=.fresh) (fun v' mw'=>v'=v∧mw'=mw):=by
 obtain ⟨l,as,ms,k,r,ms',k',ht,hf,hvv,h5,h7,h8⟩:=h
 have e0:mwM m2 (l++newL k id (k' - k)) vals as ms ms' k k'=mw:=by rw [← h8,mwM,mwM,zaN0 fun y hy=>h1 y (zcC8 y hy)]
 refine ⟨l,as,ms,k,r,ms',k',fun hg=>?_,fun hg=>?_,hvv,h5,h7,e0⟩
 case refine_2 =>
  rw [e0]; rw [h8] at hf
  exact ⟨(hf hg).1,zbA5 h2 (hf hg).2⟩
 obtain ⟨hob,h3,h4,h6⟩:=ht hg
 obtain ⟨g1,g2,g3,g4,g5,g6,g7,g8⟩:=h4
 have hkk:k≤k':=fO g6
 have key:∀ x ∈ ms.map (·.1)++(List.range (k' - k)).map (k+·),m (rho (l++newL k id (k' - k)) x)=m2 (rho (l++newL k id (k' - k)) x):=fun x hx=>by
  refine h2 _ ?_
  rw [← h8,mwM,eU]
  exact cV _ (zbn2 x hx)
 have rhoOld:∀ x,x < k→rho (l++newL k id (k' - k)) x=rho l x:=fun x hx=>by
  simp only [rho,zac1,zar3]
  rw [bT (by omega),kO]
 have rhoNew:∀ i,i < k' - k→rho (l++newL k id (k' - k)) (k+i)=id+i:=fun i hi=>by
  simp only [rho,zac1,zar3]
  rw [zaQ0 fun q hq=>by have:=g8 q hq; omega,bW (by omega)]
  simp
 refine ⟨hob,h3,⟨zbA3 h1 g1,zbA4 (fun q hq=>?_) g2,g3,g4,g5,g6,g7,g8⟩,fun x hx hx2=>?_⟩
 ·have:=key q.1 (dE _ (cH.2 ⟨q,hq,rfl⟩))
  rwa [rhoOld q.1 (zaQ2 g2 q.1 q.2 hq).2.2.1] at this
 ·have:=key (k+(x - id)) (cV _ (cH.2 ⟨x - id,eO.2 (by omega),rfl⟩))
  rw [rhoNew _ (by omega),show id+(x - id)=x by omega] at this
  rw [← this]; exact h6 x hx hx2
theorem zbS5 (x y:List A):zB7 (x++y)=zB7 x++zB7 y:=by
 induction x with
 | nil=>rfl
 | cons a x ih=>simp only [List.cons_append,zB7,ih,dB]
theorem zbA7 {y:Nat}:∀ {caps:List A},(∀ c ∈ caps,idsA c=zaQ6 c)→y ∈ zB7 caps→y ∈ caps.flatMap zaQ6
 | c :: cs,hc,h=>by
  rcases cI.1 h with h|h
  ·exact fM.2 ⟨c,.head _,hc c (.head _) ▸ h⟩
  ·obtain ⟨d,hd,h2⟩:=fM.1 (zbA7 (fun d hd=>hc d (.tail _ hd)) h)
   exact fM.2 ⟨d,.tail _ hd,h2⟩
theorem zbA8 {f:FuncId} {caps vals:List A} {y:Nat} (h:y ∈ zB7 (vals++caps)) (hc:∀ c ∈ caps,idsA c=zaQ6 c):y ∈ zB7 (.clo f caps :: vals):=by
 rw [zbS5] at h
 simp only [zB7,cI]
 rcases cI.1 h with h|h
 ·exact .inr h
 ·exact .inl (zbA7 hc h)
theorem zcT8 {id:Nat} {m m2:Nat→MS} {po:PO} {vals:List A} (h:∀ y ∈ zB7 vals,m y=m2 y):ev id m po vals=ev id m2 po vals:=by
 have e1:∀ {x:A} {xs:List A},vals=x :: xs→(∀ y ∈ idsA x,m y=m2 y):=fun hv y hy=>h y (by rw [hv]; exact dE _ hy)
 have e2:∀ {x x2:A} {xs:List A},vals=x :: x2 :: xs→(∀ y ∈ idsA x2,m y=m2 y):=fun hv y hy=>h y (by rw [hv]; exact cV _ (dE _ hy))
 have own:∀ {x:Nat} {lo n:Nat} ,(∀ y ∈ idsA (.own x lo n),m y=m2 y)→m x=m2 x:=fun hh=>hh _ (by simp [idsA,zbk5,zaQ6])
 have ptr:∀ {x:Nat} {lo n:Nat} ,(∀ y ∈ idsA (.ptr x lo n),m y=m2 y)→m x=m2 x:=fun hh=>hh _ (by simp [idsA,zbk5,zaQ6])
 have hel:∀ {x:A},(∀ y ∈ idsA x,m y=m2 y)→zaF7 m x=zaF7 m2 x∧zaj3 m x=zaj3 m2 x:=fun {x} hh=>by
  cases x <;> first|exact ⟨rfl,rfl⟩|skip
  simp only [zaF7,zaj3,own hh,cX]
 have hsl:∀ {x:A} {sz:Nat} {lo hi mx:Option Int},(∀ y ∈ idsA x,m y=m2 y)→zaw9 m sz x lo hi mx=zaw9 m2 sz x lo hi mx:=fun {x sz lo hi mx} hh=>by
  cases x <;> cases mx <;> first|rfl|(simp only [zaw9,own hh])
 cases po
 case slc sz lo hi mx =>
  rcases vals with _|⟨x,_|⟨x2,_|⟨x3,_|⟨x4,_|⟨x5,xs⟩⟩⟩⟩⟩
  ·cases lo <;> cases hi <;> cases mx <;> rfl
  ·have hx:=e1 rfl
   have:=fun {lo hi mx}=>hsl (sz:=sz) (lo:=lo) (hi:=hi) (mx:=mx) hx
   cases lo <;> cases hi <;> cases mx <;> first|rfl|(simp only [ev,this])
  ·have hx:=e1 rfl
   have:=fun {lo hi mx}=>hsl (sz:=sz) (lo:=lo) (hi:=hi) (mx:=mx) hx
   cases lo <;> cases hi <;> cases mx <;> cases x2 <;> first|rfl|(simp only [ev,this])
  ·have hx:=e1 rfl
   have:=fun {lo hi mx}=>hsl (sz:=sz) (lo:=lo) (hi:=hi) (mx:=mx) hx
   cases lo <;> cases hi <;> cases mx <;> cases x2 <;> cases x3 <;> first|rfl|(simp only [ev,this])
  ·have hx:=e1 rfl
   have:=fun {lo hi mx}=>hsl (sz:=sz) (lo:=lo) (hi:=hi) (mx:=mx) hx
   cases lo <;> cases hi <;> cases mx <;> first|rfl|(cases x2 <;> first|rfl|(cases x3 <;> first|rfl|(cases x4 <;> first|rfl|(simp only [ev,this]))))
  ·cases lo <;> cases hi <;> cases mx <;> first|rfl|(cases x2 <;> first|rfl|(cases x3 <;> first|rfl|(cases x4 <;> rfl)))
 case slcS lo hi =>
  rcases vals with _|⟨x,_|⟨x2,_|⟨x3,_|⟨x4,xs⟩⟩⟩⟩ <;> cases lo <;> cases hi <;> first|rfl|(cases x <;> first|rfl|(cases x2 <;> first|rfl|(cases x3 <;> rfl)))
 case cvS =>
  rcases vals with _|⟨x,_|⟨x2,xs⟩⟩ <;> first|rfl|skip
  obtain ⟨g1,g2⟩:=hel (e1 rfl)
  simp only [ev,g1,g2]
 case append sz bytes z =>
  rcases vals with _|⟨x,_|⟨x2,_|⟨x3,xs⟩⟩⟩ <;> first|rfl|skip
  have hx:=e1 rfl
  obtain ⟨g1,g2⟩:=hel (e2 rfl)
  simp only [ev,g1,g2]
  cases x <;> first|rfl|skip
  have e:=own hx
  simp only [e]
 case appc sz bytes =>
  rcases vals with _|⟨x,_|⟨x2,_|⟨x3,xs⟩⟩⟩ <;> first|rfl|skip
  have hx:=e1 rfl
  obtain ⟨g1,g2⟩:=hel (e2 rfl)
  simp only [ev,g1,g2]
  cases x <;> first|rfl|skip
  have e:=own hx
  simp only [e]
 case clear sz z =>
  rcases vals with _|⟨x,_|⟨x2,xs⟩⟩ <;> first|rfl|skip
  have hx:=e1 rfl
  simp only [ev]
  cases x <;> first|rfl|skip
  have e:=own hx
  simp only [e]
 case copy sz =>
  rcases vals with _|⟨x,_|⟨x2,_|⟨x3,xs⟩⟩⟩ <;> first|rfl|skip
  have hx:=e1 rfl
  obtain ⟨g1,g2⟩:=hel (e2 rfl)
  simp only [ev,g1,g2]
  cases x <;> first|rfl|skip
  have e:=own hx
  simp only [e]
 case load n ag =>
  rcases vals with _|⟨x,_|⟨x2,xs⟩⟩ <;> first|rfl|skip
  have hx:=e1 rfl
  cases x <;> first|rfl|skip
  have e:=ptr hx
  simp only [ev,e]
 case store n =>
  rcases vals with _|⟨x,_|⟨x2,_|⟨x3,xs⟩⟩⟩ <;> first|rfl|skip
  have hx:=e1 rfl
  cases x <;> first|rfl|skip
  have e:=ptr hx
  simp only [ev,e]
 case faddr off =>
  rcases vals with _|⟨x,_|⟨x2,xs⟩⟩ <;> first|rfl|skip
  have hx:=e1 rfl
  cases x <;> first|rfl|skip
  have e:=ptr hx
  simp only [ev,e]
 case nilck =>
  rcases vals with _|⟨x,_|⟨x2,xs⟩⟩ <;> first|rfl|skip
  have hx:=e1 rfl
  cases x <;> first|rfl|skip
  have e:=ptr hx
  simp only [ev,e]
 case len =>
  rcases vals with _|⟨x,_|⟨x2,xs⟩⟩ <;> first|rfl|skip
  have hx:=e1 rfl
  cases x <;> first|rfl|skip
  have e:=own hx
  simp only [ev,e]
 case iaA n sz =>
  rcases vals with _|⟨x,_|⟨x2,_|⟨x3,xs⟩⟩⟩ <;> first|rfl|(cases x2 <;> rfl)|skip
  have hx:=e1 rfl
  cases x2 <;> first|rfl|skip
  cases x <;> first|rfl|skip
  have e:=ptr hx
  simp only [ev,e]
 case iaS sz z =>
  rcases vals with _|⟨x,_|⟨x2,_|⟨x3,xs⟩⟩⟩ <;> first|rfl|(cases x2 <;> rfl)|skip
  have hx:=e1 rfl
  cases x2 <;> first|rfl|skip
  cases x <;> first|rfl|skip
  have e:=own hx
  simp only [ev,e]
 all_goals first
  | rfl
  | (rcases vals with _|⟨x,_|⟨x2,_|⟨x3,xs⟩⟩⟩ <;> first|rfl|(cases x <;> first|rfl|(cases x2 <;> rfl)))
theorem zbA9 {fr f2:Nat→A}:∀ (xs:List PX),(∀ t ∈ rdsX xs,fr t=f2 t)→zJ3 C fr xs=zJ3 C f2 xs∧(gdsF C fr xs ↔ gdsF C f2 xs)
 | [],_=>⟨rfl,kH⟩
 | x :: xs,h=>by
  have h1:=zaC7 (x:=x) C.G (f:=fr) (g:=f2) fun t ht=>h t ((zO5 x xs t).2 (.inl ht))
  obtain ⟨h2,h3⟩:=zbA9 xs fun t ht=>h t ((zO5 x xs t).2 (.inr ht))
  simp only [zJ3,gdsF,h1,h2,h3,cX]
theorem zcu6 {p:POp} {s s2:S} {id:Nat} {v:A} {mw:List (Nat×MS)} (hr:∀ t ∈ p.rds,s.fr t=s2.fr t) (hm:∀ y ∈ zB7 (zJ3 C s.fr p.xs),s.mem y=s2.mem y) (hw:∀ y ∈ mw.map (·.1),s.mem y=s2.mem y)
  (hcap:∀ f caps vals,(p.po=.callv∨p.po=.callvm)→zJ3 C s.fr p.xs=.clo f caps :: vals→∀ c ∈ caps,idsA c=zaQ6 c)
  (h:aopS C p s id (fun v' mw'=>v'=v∧mw'=mw)):aopS C p s2 id (fun v' mw'=>v'=v∧mw'=mw):=by
 have hx:∀ t ∈ rdsX p.xs,s.fr t=s2.fr t:=fun t ht=>hr t (cV _ ht)
 obtain ⟨hv,hgd⟩:=zbA9 (C:=C) p.xs hx
 have hgo:zM9 s2.fr p.g=zM9 s.fr p.g:=by
  cases hg:p.g with
  | none=>rfl
  | some q=>simp only [zM9]; rw [hr q.1 (dE _ (by simp [hg]))]
 obtain ⟨hf1,hf2⟩:=zaV8 hm
 have hcm:∀ r,zJ7 s.mem (zJ3 C s.fr p.xs) r=zJ7 s2.mem (zJ3 C s.fr p.xs) r:=fun r=>by
  simp only [zJ7,zaN0 fun y hy=>hm y (zaP1 y hy)]
 unfold aopS at h ⊢
 rw [hgo,← hv,← hgd]
 cases hg:zM9 s.fr p.g with
 | none=>simp [hg] at h
 | some g =>
  simp only [hg] at h ⊢
  cases hp:p.po <;> simp only [hp] at h ⊢
  case pick =>
   split at h
   ·rename_i c x y hxs
    simp only [hxs] at hx ⊢
    have e1:=zaC7 (x:=c) C.G (f:=s.fr) (g:=s2.fr) fun t ht=>hx t ((zO5 _ _ _).2 (.inl ht))
    have e2:=zaC7 (x:=x) C.G (f:=s.fr) (g:=s2.fr) fun t ht=>hx t ((zO5 _ _ _).2 (.inr ((zO5 _ _ _).2 (.inl ht))))
    have e3:=zaC7 (x:=y) C.G (f:=s.fr) (g:=s2.fr) fun t ht=>hx t ((zO5 _ _ _).2 (.inr ((zO5 _ _ _).2 (.inr ht))))
    rw [← e1,← e2,← e3]
    exact h
   ·exact h.elim
  case call f =>
   rw [← hf1,← hf2]
   obtain ⟨r,h1,h2,h3⟩:=h
   exact ⟨r,h1,by rw [← hcm]; exact h2,by rw [← hcm]; exact h3⟩
  case callv =>
   split at h
   ·rename_i f caps vals hvals
    have hc:=hcap f caps vals (.inl hp) hvals
    have hm2:∀ y ∈ zB7 (vals++caps),s.mem y=s2.mem y:=fun y hy=>hm y (by rw [hvals]; exact zbA8 hy hc)
    obtain ⟨g1,g2⟩:=zaV8 hm2
    have hcm2:∀ r,zJ7 s.mem (vals++caps) r=zJ7 s2.mem (vals++caps) r:=fun r=>by
     simp only [zJ7,zaN0 fun y hy=>hm2 y (zaP1 y hy)]
    obtain ⟨r,h1,h2,h3⟩:=h
    rw [← g1,← g2]
    exact ⟨r,h1,by rw [← hcm2]; exact h2,by rw [← hcm2]; exact h3⟩
   ·exact h.elim
  case callm f=>exact zbA6 hm hw h
  case callvm =>
   split at h
   ·rename_i f caps vals hvals
    have hc:=hcap f caps vals (.inr hp) hvals
    exact zbA6 (fun y hy=>hm y (by rw [hvals]; exact zbA8 hy hc)) hw h
   ·exact h.elim
  all_goals
   rw [← zcT8 (id:=id) hm]
   exact h
theorem zdy3 {id:Nat} {m:Nat→MS} {po:PO} {vals:List A} {ef:Ef} (h:ev id m po vals=some ef):id ∈ ef.mw.map (·.1)∨∀ id',ev id' m po vals=some ef:=by
 cases po
 case nilown sz z=>rcases vals with _|⟨x,_|⟨x2,xs⟩⟩ <;> cases h; exact .inl (by simp)
 case box n=>rcases vals with _|⟨x,_|⟨x2,xs⟩⟩ <;> cases h; exact .inl (by simp)
 case alloc n z=>rcases vals with _|⟨x,xs⟩ <;> cases h; exact .inl (by simp)
 case bown sz z=>simp only [ev,dC] at h; subst h; exact .inl (by simp)
 case mk sz b z =>
  rcases vals with _|⟨x,_|⟨x2,_|⟨x3,xs⟩⟩⟩ <;> first|(cases h; done)|(cases x <;> cases h; done)|skip
  ·cases x <;> cases x2 <;> cases h; exact .inl (by simp)
  ·cases x <;> cases x2 <;> cases h
 case append sz b z =>
  rcases vals with _|⟨x,_|⟨x2,_|⟨x3,xs⟩⟩⟩ <;> first|(cases h; done)|skip
  simp only [ev,gN] at h
  obtain ⟨new,hnew,h⟩:=h
  cases x <;> simp only [] at h <;> first|(cases h; done)|skip
  ·cases h; exact .inl (by simp)
  ·split at h
   ·cases h; exact .inl (by simp)
   ·cases h
 case appc sz b =>
  rcases vals with _|⟨x,_|⟨x2,_|⟨x3,xs⟩⟩⟩ <;> first|(cases h; done)|skip
  simp only [ev,gN] at h
  obtain ⟨new,hnew,h⟩:=h
  cases x <;> simp only [] at h <;> first|(cases h; done)|skip
  split at h
  ·cases h; exact .inl (by simp)
  ·cases h
 all_goals
  refine .inr fun id'=>?_
  rw [← h]
  first
   | rfl
   | (rename_i lo hi mx; cases lo <;> cases hi <;> cases mx <;> rcases vals with _|⟨x,_|⟨x2,_|⟨x3,_|⟨x4,_|⟨x5,xs⟩⟩⟩⟩⟩ <;> first|rfl|(cases x2 <;> first|rfl|(cases x3 <;> first|rfl|(cases x4 <;> rfl))))
   | (rename_i lo hi; cases lo <;> cases hi <;> rcases vals with _|⟨x,_|⟨x2,_|⟨x3,_|⟨x4,xs⟩⟩⟩⟩ <;> first|rfl|(cases x <;> first|rfl|(cases x2 <;> first|rfl|(cases x3 <;> rfl))))
   | (rcases vals with _|⟨x,_|⟨x2,_|⟨x3,xs⟩⟩⟩ <;> first|rfl|(cases x <;> first|rfl|(cases x2 <;> rfl))|(cases x2 <;> rfl))
theorem zdj6 {p:POp} {s:S} {id:Nat} {v:A} {mw:List (Nat×MS)} (h:aopS C p s id (fun v' mw'=>v'=v∧mw'=mw)):id ∈ mw.map (·.1)∨∀ id',id≤id'→aopS C p s id' (fun v' mw'=>v'=v∧mw'=mw):=by
 have cm:∀ {f:FuncId} {vals:List A} {og:Option (Nat×Bool)} {g:Bool} {ob:Prop},zaM6 C s.mem id f vals og g ob (fun n=>∀ x,id≤x→x < id+n→s.mem x=.fresh) (fun v' mw'=>v'=v∧mw'=mw) →
   id ∈ mw.map (·.1)∨∀ id',id≤id'→zaM6 C s.mem id' f vals og g ob (fun n=>∀ x,id'≤x→x < id'+n→s.mem x=.fresh) (fun v' mw'=>v'=v∧mw'=mw):=fun {f vals og g ob} h=>by
  obtain ⟨l,as,ms,k,r,ms',k',ht,hf,hvv,h5,h7,h8⟩:=h
  by_cases hk:k=k'
  ·have en:∀ id',newL k id' (k' - k)=[]:=fun id'=>by rw [hk,gH]; rfl
   simp only [en] at hf hvv h7 h8
   refine .inr fun id' hid=>⟨l,as,ms,k,r,ms',k',fun hg=>?_,?_⟩
   ·obtain ⟨hob,h3,h4,h6⟩:=ht hg
    obtain ⟨g1,g2,g3,g4,g5,g6,g7,g8⟩:=h4
    exact ⟨hob,h3,⟨g1,g2,g3,g4,g5,g6,fun q hq=>eK (g7 q hq) hid,g8⟩,fun x hx hx2=>by omega⟩
   ·simp only [en]
    exact ⟨hf,hvv,h5,h7,h8⟩
  ·have hg:g=true:=by
    cases g with
    | true=>rfl
    | false=>exact absurd (hf rfl).1 hk
   obtain ⟨hob,h3,h4,h6⟩:=ht hg
   obtain ⟨g1,g2,g3,g4,g5,g6,g7,g8⟩:=h4
   have hkk:k≤k':=fO g6
   left
   rw [← h8,mwM,eU]
   refine cV _ ?_
   have:=zbn2 (L:=l++newL k id (k' - k)) (ms':=ms') (ids:=ms.map (·.1)++(List.range (k' - k)).map (k+·)) (k+0) (cV _ (cH.2 ⟨0,eO.2 (by omega),rfl⟩))
   have e:rho (l++newL k id (k' - k)) (k+0)=id+0:=by
    simp only [rho,zac1,zar3]
    rw [zaQ0 fun q hq=>by have:=g8 q hq; omega,bW (by omega)]
    simp
   rw [e] at this
   exact this
 unfold aopS at h ⊢
 cases hg:zM9 s.fr p.g with
 | none=>simp [hg] at h
 | some g =>
  simp only [hg] at h ⊢
  cases hp:p.po <;> simp only [hp] at h ⊢
  case pick=>exact .inr fun _ _=>h
  case call f=>exact .inr fun _ _=>h
  case callv=>exact .inr fun _ _=>h
  case callm f =>
   exact cm h
  case callvm =>
   split at h
   ·exact cm h
   ·exact h.elim
  all_goals
   split at h
   ·rename_i ef hev
    obtain ⟨h1,h2,h3,h4⟩:=h
    rcases zdy3 hev with g1|g1
    ·exact .inl (h4 ▸ g1)
    ·exact .inr fun id' _=>by rw [g1 id']; exact ⟨h1,h2,h3,h4⟩
   ·rename_i hev
    exact .inr fun id' _=>by rw [← zdq4 (id:=id) h.2.1,hev]; exact h
end
end Ab
end Go.Proofs.YtfkjffmjkbkmhaaGreatDoor
